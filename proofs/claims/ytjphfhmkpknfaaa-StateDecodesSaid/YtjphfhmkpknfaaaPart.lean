/- backstepref10.Part: a component of a state, as a row that is read. -/
import Derived.Test.YtjphfhmkpknfaaaDiff
set_option linter.unusedVariables false
set_option linter.unusedSimpArgs false
namespace Go.Proofs.Ytjphfhmkpknfaaa.PAll
open Go.RowKit Go.Proofs.YtjphfhmkpknfaaaW.PrintWords Go.Proofs.YtjphfhmkpknfaaaW.PrintLast Go.Proofs.YtjphfhmkpknfaaaW.PrintMore
attribute [local go_sem] max2_int min2_int max_two min_two max_three min_three max_four min_four

def partF (l0 : List (List Int)) (l1 l2 : List Int) (cell : Int) : List Int := if cell ≥ 0 then rowAt l0 cell else if cell = -2 then l2 else l1.reverse
theorem boxA_ne {α : Type} {d : Kd α} {e B : Nat} {w : World} {base : Nat} {ok : Nat → Prop} {v s0 s1 s2 : Value} {xs : List α} (h : d.R e w base ok v xs) (hb : BoxA w B s0 s1 s2) (hte : (25 : Nat) ≠ e) : some B ≠ v.ownBlock := by
  intro he
  obtain ⟨inner, ho⟩ := Kd.R_own h
  obtain ⟨cells, hc⟩ := own_typed ho B he.symm
  rw [show w.heap[B]? = _ from hb] at hc
  injection hc with hc
  injection hc with _ h2
  exact hte h2
theorem BoxA.kept {W W' : World} {B : Nat} {s0 s1 s2 : Value} {ob : Option Nat} (h : BoxA W B s0 s1 s2) (hg : W.grownBy W' ob) (hne : some B ≠ ob) : BoxA W' B s0 s1 s2 := (hg.block B h.lt hne).trans h

theorem addr_add_block (a : Addr) (i : Nat) : (a.add i).block = a.block := by unfold Addr.add; split <;> rfl
theorem take_rev {l : List Int} {m : Nat} {j : Int} (hj : (l.length : Int) - 1 - m = j) (hm : m < l.length) : l.reverse.take (m + 1) = l.reverse.take m ++ [rd l j] := by
  have h1 : m < l.reverse.length := by simpa using hm
  rw [List.take_succ_eq_append_getElem h1, List.getElem_reverse]
  have e : j.toNat = l.length - 1 - m := by omega
  unfold rd
  rw [e, List.getD_eq_getElem?_getD, List.getElem?_eq_getElem (by omega)]; rfl
/-- A row of numbers that stays while rows of other kinds grow: it lies below n0, or in a block of numbers. -/
def Steady (n0 : Nat) (W : World) (A : Option Addr) (l : List Int) : Prop :=
  Kd.C (Kd.int .i64) W A l.length l ∧ (0 < l.length → ∃ ad, A = some ad ∧ ad.block < W.heap.size ∧ (ad.block < n0 ∨ ∃ cells, W.heap[ad.block]? = some (.cells cells 3 (0, 0))))
theorem C_int_lt {w : World} {A : Option Addr} {l : List Int} (h : Kd.C (Kd.int .i64) w A l.length l) (hn : 0 < l.length) : ∃ ad, A = some ad ∧ ad.block < w.heap.size := by
  obtain ⟨ad, e, hx⟩ := Kd.at_int h 0 (by omega) (by omega)
  exact ⟨ad, e, by have := World.block_lt_of_cell? w _ hx; rwa [addr_add_block] at this⟩
theorem Steady.of_old {w0 W : World} {A : Option Addr} {l : List Int} (h : Kd.C (Kd.int .i64) w0 A l.length l) (hb : Below w0.heap.size w0 W) : Steady w0.heap.size W A l :=
  ⟨Kd.C_below h hb, fun hn => by
    obtain ⟨ad, e, hlt⟩ := C_int_lt h hn
    exact ⟨ad, e, by have := hb.size; omega, .inl hlt⟩⟩
theorem Steady.of_own {n0 base : Nat} {W : World} {ok : Nat → Prop} {A : Option Addr} {c : Nat} {l : List Int} (h : Kd.R (Kd.int .i64) 3 W base ok (.slice A l.length c) l) : Steady n0 W A l := by
  refine ⟨(Kd.R_reads' h).2.2, fun hn => ?_⟩
  obtain ⟨ad, e, hlt⟩ := C_int_lt (Kd.R_reads' h).2.2 hn
  subst e
  obtain ⟨inner, ho⟩ := Kd.R_own h
  exact ⟨ad, rfl, hlt, .inr (own_typed ho ad.block (by simp [Value.ownBlock]))⟩
theorem C_int_move {w w1 : World} {A : Option Addr} {l : List Int} (h : Kd.C (Kd.int .i64) w A l.length l) (hm : ∀ ad, A = some ad → 0 < l.length → w1.heap[ad.block]? = w.heap[ad.block]?) : Kd.C (Kd.int .i64) w1 A l.length l := by
  refine ⟨h.1, h.2.1, fun hn => ?_⟩
  obtain ⟨ad, e, hx⟩ := h.2.2 hn
  refine ⟨ad, e, fun j p hj => ?_⟩
  obtain ⟨c, h1, h2, h3⟩ := hx j p hj
  refine ⟨c, h1, h2, fun i u hu => ?_⟩
  have h4 := h3 i u hu
  have h5 := hm ad e hn
  rw [← h4]
  simp only [World.cell?, addr_add_block]
  rw [h5]
theorem Steady.move {n0 : Nat} {W W1 : World} {A : Option Addr} {l : List Int} (h : Steady n0 W A l) (hs : W.heap.size ≤ W1.heap.size) (hm : ∀ b, b < W.heap.size → (b < n0 ∨ ∃ cells, W.heap[b]? = some (.cells cells 3 (0, 0))) → W1.heap[b]? = W.heap[b]?) : Steady n0 W1 A l := by
  refine ⟨C_int_move h.1 fun ad e hn => ?_, fun hn => ?_⟩
  · obtain ⟨ad', e', hlt, hk⟩ := h.2 hn
    rw [e] at e'
    injection e' with e'
    subst e'
    exact hm _ hlt hk
  · obtain ⟨ad, e, hlt, hk⟩ := h.2 hn
    refine ⟨ad, e, by omega, ?_⟩
    rcases hk with hk | ⟨cells, hk⟩
    · exact .inl hk
    · exact .inr ⟨cells, (hm _ hlt (.inr ⟨cells, hk⟩)).trans hk⟩
theorem Steady.below {n0 : Nat} {W W1 : World} {A : Option Addr} {l : List Int} (h : Steady n0 W A l) (hb : Below W.heap.size W W1) : Steady n0 W1 A l := h.move hb.size fun b hlt _ => hb.block b hlt
theorem Steady.grown {α : Type} {d : Kd α} {e n0 base : Nat} {W W1 : World} {ok : Nat → Prop} {v : Value} {xs : List α} {A : Option Addr} {l : List Int} (h : Steady n0 W A l) (hg : W.grownBy W1 v.ownBlock) (hv : d.R e W base ok v xs) (he : (3 : Nat) ≠ e) (hn : n0 ≤ base) : Steady n0 W1 A l := by
  refine h.move hg.size fun b hlt hk => hg.block b hlt fun hb => ?_
  obtain ⟨inner, ho⟩ := Kd.R_own hv
  rcases hk with hk | ⟨cells, hk⟩
  · have := own_base ho b hb.symm
    omega
  · obtain ⟨cells', hc⟩ := own_typed ho b hb.symm
    rw [hk] at hc
    injection hc with hc
    injection hc with _ h2
    exact he h2

set_option maxRecDepth 100000 in
set_option maxHeartbeats 4000000 in
theorem part_calls (cell : Int) (A0 : Option Addr) (c0 : Nat) (l0 : List (List Int)) (A1 : Option Addr) (c1 : Nat) (l1 : List Int) (A2 : Option Addr) (c2 : Nat) (l2 : List Int) (w0 w : World) (hB : Below w0.heap.size w0 w)
    (hr0 : Kd.C (Kd.slice 3 (Kd.int .i64)) w0 A0 l0.length l0) (hr1 : Kd.C (Kd.int .i64) w0 A1 l1.length l1) (hr2 : Kd.C (Kd.int .i64) w0 A2 l2.length l2) (hc2 : l2.length ≤ c2) (hcell : cell < (l0.length : Int)) (hl1 : l1.length ≤ 5000) :
    Calls Try.prog 36 #[.agg #[.slice A0 l0.length c0, .slice A1 l1.length c1, .slice A2 l2.length c2], .int .i64 cell] w fun e w' => ∃ A c, e = .returned (.slice A (partF l0 l1 l2 cell).length c) ∧ (partF l0 l1 l2 cell).length ≤ c ∧ Steady w0.heap.size w' A (partF l0 l1 l2 cell) ∧ Below w.heap.size w w' := by
  have HR1 := Lib.hid hr1
  have HR2 := Lib.hid hr2
  have HB := Lib.hid hB
  clear hr1 hr2
  by_cases h0 : cell ≥ 0
  · have hp : partF l0 l1 l2 cell = rowAt l0 cell := by unfold partF; rw [if_pos h0]
    obtain ⟨ad, Ax, cx, rfl, hxc0, hxl, hxr⟩ := at_row hr0 cell h0 hcell
    have hxc := (hB.cell (World.block_lt_of_cell? w0 _ hxc0)).trans hxc0
    have hxa : ∀ o, (w.alloc o).cell? (ad.add cell.toNat) = some (.slice Ax (rowAt l0 cell).length cx) := fun o => (World.cell?_alloc_lt w o _ (World.block_lt_of_cell? w _ hxc)).trans hxc
    have h0b : decide (0 ≤ cell) = true := decide_eq_true h0
    have p1 : (0 ≤ cell) = True := eq_true h0
    have p2 : (cell < (l0.length : Int)) = True := eq_true hcell
    rw [hp]
    have HX := Lib.hid hxr
    clear hxr hr0 hxc0 hB
    go_enter Try.func36, Try.ntmps36
    go_wp2
    go_ret
    exact ⟨Ax, cx, rfl, hxl, Steady.of_old HX.out (below_alloc HB.out _), below_alloc (Below.refl _ _) _⟩
  · have h0b : decide (0 ≤ cell) = false := decide_eq_false h0
    clear hr0 hB
    by_cases h2 : cell = -2
    · have hp : partF l0 l1 l2 cell = l2 := by unfold partF; rw [if_neg h0, if_pos h2]
      rw [hp]
      subst h2
      go_enter Try.func36, Try.ntmps36
      go_wp2
      go_ret
      exact ⟨A2, c2, rfl, hc2, Steady.of_old HR2.out (below_alloc HB.out _), below_alloc (Below.refl _ _) _⟩
    · have hp : partF l0 l1 l2 cell = l1.reverse := by unfold partF; rw [if_neg h0, if_neg h2]
      have h2b : (cell == -2) = false := by simpa using h2
      rw [hp]
      have hw1 : wrap64 ((l1.length : Int) - 1) = (l1.length : Int) - 1 := wrap64_of' (by omega) (by omega)
      go_enter Try.func36, Try.ntmps36
      go_wp2
      obtain ⟨w4, hw4⟩ : ∃ w4, w4 = w.alloc (.cells #[.slice A0 l0.length c0, .slice A1 l1.length c1, .slice A2 l2.length c2] 25) := ⟨_, rfl⟩
      rw [← hw4]
      have hba : BoxA w4 w.heap.size (.slice A0 l0.length c0) (.slice A1 l1.length c1) (.slice A2 l2.length c2) := by rw [hw4]; exact BoxA.new w _ _ _
      have hbw : Below w.heap.size w w4 := by rw [hw4]; exact below_alloc (Below.refl _ _) _
      have HBA := Lib.hid hba
      have HBW := Lib.hid hbw
      clear hw4 hba hbw
      go_loopw [5, 6] (fun v5 v6 wr => ∃ m : Nat, m ≤ l1.length ∧ v6 = .int .i64 ((l1.length : Int) - 1 - m) ∧ Aside0 (Kd.R (Kd.int .i64) 3 wr (w.heap.size + 1) (fun _ => True) v5 (l1.reverse.take m)) ∧
          Aside0 (BoxA wr w.heap.size (.slice A0 l0.length c0) (.slice A1 l1.length c1) (.slice A2 l2.length c2)) ∧ Aside0 (Below w.heap.size w wr))
        (fun _ v6 _ => (intOf v6 + 1).toNat)
      case atStart => exact ⟨0, Nat.zero_le _, by simp, ⟨Kd.R_nil _ _ _ _ _⟩, ⟨HBA.out⟩, ⟨HBW.out⟩⟩
      case round =>
        clear HBA HBW
        obtain ⟨m, hm, rfl, HV, HBA, HBW⟩ := hrel
        have hwr : Below w0.heap.size w0 wr := HB.out.trans (HBW.out.mono HB.out.size)
        have hc1 := HBA.out.c1
        by_cases hi : m < l1.length
        · obtain ⟨j, hj⟩ : ∃ j : Int, (l1.length : Int) - 1 - m = j := ⟨_, rfl⟩
          rw [hj]
          have hj0 : 0 ≤ j := by omega
          have hjl : j < (l1.length : Int) := by omega
          have hj0b : decide (0 ≤ j) = true := decide_eq_true hj0
          obtain ⟨ad, hA, hx⟩ := Kd.at_int (Kd.C_below HR1.out hwr) j hj0 hjl
          subst hA
          have p1 : (0 ≤ j) = True := eq_true hj0
          have p2 : (j < (l1.length : Int)) = True := eq_true hjl
          have hwj : wrap64 (j - 1) = j - 1 := wrap64_of' (by omega) (by omega)
          have hbz := HBA.out.lt
          have htk : (l1.reverse.take m).length ≤ 5000 := by rw [List.length_take, List.length_reverse]; omega
          go_wp2_with ((with_reducible refine gate_builtin (b := .append) (xs := #[.tmp 26, .tmp 32]) rfl ?_); at_builtin; refine Kd.R_append (Kd.int .i64) (w0 := wr) (w.heap.size + 1) rfl (.tmp 26) (.tmp 32) 23 3 (.int .i64 0) 8 rfl Try.underlying23 info3 rfl (by decide) (by omega) u5 (l1.reverse.take m) (rd l1 j) [.int .i64 (rd l1 j)] (fun _ => True) (fun _ => False) rfl rfl rfl (fun _ h => h.elim) (fun _ _ => trivial) HV.out (Below.refl _ _) (by omega) (by omega) ?_; intro v2 w2 ho hb2 hg hat; have hba2 := HBA.out.kept hg (boxA_ne HV.out HBA.out (by decide)); have hc12 := hba2.c1)
          go_roundw
          case measure => simp [intOf]; omega
          case rel => exact ⟨m + 1, by omega, by rw [show (l1.length : Int) - 1 - ((m + 1 : Nat) : Int) = j - 1 by omega], ⟨by rw [take_rev hj hi]; exact ho⟩, ⟨hba2⟩, ⟨HBW.out.trans (hb2.mono (by omega))⟩⟩
        · have hj : (l1.length : Int) - 1 - m = -1 := by omega
          rw [hj]
          have hv : Kd.R (Kd.int .i64) 3 wr (w.heap.size + 1) (fun _ => True) u5 l1.reverse := by
            have := HV.out
            rwa [List.take_of_length_le (by rw [List.length_reverse]; omega)] at this
          obtain ⟨A, c, rfl, hl, hC⟩ := Kd.R_reads hv
          have HVV := Lib.hid hv
          clear hv hC
          go_wp2
          go_ret
          exact ⟨A, c, rfl, hl, Steady.of_own HVV.out, HBW.out⟩
end Go.Proofs.Ytjphfhmkpknfaaa.PAll
