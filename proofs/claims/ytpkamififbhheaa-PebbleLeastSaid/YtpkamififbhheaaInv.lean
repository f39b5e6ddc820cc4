/- pebble.Inverse: called with a slice that reads as l, it returns a new slice with the negated numbers in reverse order; nothing that was there changes; for slices of at most 2^40 numbers. -/
import Derived.Test.YtpkamififbhheaaBack
import Derived.Maps.AppendAt
set_option linter.unusedVariables false
set_option linter.unusedSimpArgs false
namespace Go.Proofs.Ytpkamififbhheaa
open Go.RowKit Go.Shelf Go.Proofs.YtpkamififbhheaaW.PrintWords
attribute [local go_sem] Oper.semAt_some

theorem infoI3 : (Try.prog.info? 3).map (fun i => (i.zero, i.size, i.bytes)) = some (some (.int .i64 0), 1, 8) := by kernel_rfl

def negRev (l : List Int) : List Int := (l.map fun m => wrap64 (-m)).reverse
def negAt (l : List Int) (n : Nat) (pre : List (Fin n)) : List Int := pre.map fun j => wrap64 (-(rd l j.1))
theorem negAt_snoc (l : List Int) (n : Nat) (pre : List (Fin n)) (x : Fin n) : negAt l n (pre ++ [x]) = negAt l n pre ++ [wrap64 (-(rd l x.1))] := by simp [negAt]
theorem negAt_length (l : List Int) (n : Nat) (pre : List (Fin n)) : (negAt l n pre).length = pre.length := by simp [negAt]
theorem negAt_all (l : List Int) : negAt l l.length (downs l.length l.length) = negRev l := by
  unfold negAt negRev downs
  rw [List.take_of_length_le (by simp), List.map_reverse]
  congr 1
  apply List.ext_getElem
  · simp
  · intro i h1 h2
    simp at h2
    simp [rd, List.getD_eq_getElem?_getD]

set_option maxRecDepth 100000 in
set_option maxHeartbeats 2000000 in
theorem Inverse_in (F : Fence) (n : Nat) (h22 : F.fn 22) (h31 : F.fn 31) (h33 : F.fn 33) (hro : F.round = none) (hn : 3 ≤ n) (A : Option Addr) (c : Nat) (xs : List Int) (hl : xs.length ≤ 1099511627776) (w : World) (hr : Kd.C (Kd.int .i64) w A xs.length xs) :
    CallsIn F n Try.prog 22 #[.slice A xs.length c] w fun e W' => ∃ v, e = .returned v ∧ Kd.R (Kd.int .i64) 3 W' w.heap.size (fun _ => True) v (negRev xs) ∧ Below w.heap.size w W' := by
  have h1 : 1 ≤ n := by omega
  obtain ⟨i0, hi, hz0, hz1, hz2⟩ := info_parts infoI3
  have hcell : ∀ j, j < xs.length → ∃ ad, A = some ad ∧ ad.block < w.heap.size ∧ w.cell? (ad.add j) = some (Value.int .i64 (rd xs j)) := fun j hj => by
    obtain ⟨ad, e, hc⟩ := Kd.at_int hr (j : Int) (by omega) (by omega)
    have hc' : w.cell? (ad.add j) = some (Value.int .i64 (rd xs j)) := hc
    exact ⟨ad, e, by have := World.block_lt_of_cell? w _ hc'; rwa [Addr.add_block] at this, hc'⟩
  clear hr
  obtain ⟨N, hN⟩ : ∃ N, N = xs.length := ⟨_, rfl⟩
  rw [← hN] at hcell hl ⊢
  have HN := Lib.hid hN
  clear hN
  refine callsIn_of_wp_marks Try.func22 rfl h22 ?_ hro
  simp only [Try.ntmps22, List.size_toArray, List.length_cons, List.length_nil, Nat.reduceAdd, Nat.reduceSub, Array.replicate_succ, Array.replicate_zero, List.push_toArray, List.append_toArray, List.nil_append, List.cons_append]
  gi_wp2_with (gi_at_call 31; refine (backward31_in F (n - 1) h31 hro _ _ _ _).mono ?_; rintro e w' ⟨rfl, rfl⟩)
  have bS := Boxed.new w 23 (.slice none 0 0)
  have bN := Boxed.new (w.alloc (.cells #[.slice none 0 0] 23)) 23 (.slice A N c)
  rw [World.size_alloc] at bN
  have hB0 : Below w.heap.size w ((w.alloc (.cells #[.slice none 0 0] 23)).alloc (.cells #[.slice A N c] 23)) := ((Below.refl _ w).alloc (Nat.le_refl _) _).alloc (by simp) _
  refine wpIn_rangeFunc_ownG hro h1 (gf := 33) (lb := #[.pointer (some ⟨w.heap.size + 1, 0, none⟩)]) rfl h33 (enters_of Try.func33 (by kernel_rfl) rfl)
    (backward31_stops F (n - 1) h33 hro (by omega) (fun b => b < w.heap.size ∨ b = w.heap.size + 1) (w.heap.size + 1) N c A (fun j => Value.int .i64 (rd xs j)) (by omega) _ (fun b hb => by simp; omega) bN (.inr rfl)
      (fun j hj => by obtain ⟨ad, e, hb, hc⟩ := hcell j hj; exact ⟨ad, e, .inl hb, (hB0.cell (p := ad.add j) (by rw [Addr.add_block]; exact hb)).trans hc⟩))
    keepS_t (keepS_b (fun b hb => by simp; omega)) (Below.refl _ _) (fun _ => rfl)
    (fun pre W => (∃ v, Boxed W w.heap.size 23 v ∧ W.ownsRow w.heap.size 3 1 v (negAt xs N pre).length (encs (Value.int .i64) (negAt xs N pre)) ∧ Boxed W (w.heap.size + 1) 23 (.slice A N c)) ∧ Below w.heap.size w W)
    (fun _ _ _ => False)
    (OwnFrom.and (Own.from (fun s X Y row hs hg hr => by obtain ⟨v, h1, h2, h3⟩ := hs; obtain ⟨v', g1, g2, _⟩ := holdsRow_own w.heap.size w.heap.size 23 3 1 (fun pre => (negAt xs N pre).length) (fun pre => encs (Value.int .i64) (negAt xs N pre)) (fun _ _ => True) s X Y row ⟨v, h1, h2, trivial⟩ hg hr; exact ⟨v', g1, g2, boxed_own (w.heap.size + 1) 23 (fun _ : Unit => .slice A N c) () X Y row h3 hg hr⟩) _) (ownFrom_below (Nat.le_refl _) (by simp; omega)))
    (fun _ _ _ _ _ hs _ _ => hs)
    ⟨⟨_, bS.alloc _, World.ownsRow_nil _ _ _ _, bN⟩, hB0⟩
    (fun x => { tmps := #[.slice A N c, undef, .slice none 0 0, .pointer (some ⟨w.heap.size, 0, none⟩), undef, .int .i64 (rd xs x.1), .slice A N c, .func (.func 33) #[] #[.pointer (some ⟨w.heap.size + 1, 0, none⟩)], .int .i64 (x.1 : Int), .int .i64 (rd xs x.1), undef, undef, undef, undef, undef, undef], defers := [] }) ?assign ?body ?done ?stop
  case assign =>
    intro l x W K hK
    gi_wp2
    exact hK
  case body =>
    rintro l pre x W ⟨⟨v, hv, hrow, hbx⟩, hB⟩ hlen
    have hvc := hv.cell
    have hbz := hB.size
    have hpl : (negAt xs N pre).length ≤ 1099511627776 := by rw [negAt_length]; omega
    gi_wp2_with (gi_at_builtin; refine wpListIn_append_own _ rfl _ _ 23 rfl w.heap.size 3 i0 (.int .i64 0) 1 8 Try.underlying23 hi hz0 hz1 hz2 rfl (by decide) _ _ _ rfl (hrow.alloc _) ⟨W.heap.size, 0, none⟩ 1 1 [.int .i64 (wrap64 (-(rd xs x.1)))] rfl rfl (cell_one_new _ _ _) (by simp [Value.oneCell']) (by unfold maxLen; omega) (by omega) (by have := hB.size; simp; omega) ?_; intro v' w1 hown' hgrow _; obtain ⟨g', cap', rfl⟩ := ownsRow_succ hown'; obtain ⟨hv1, hv2, hr2, hk2, hb2⟩ := hv.appended (by decide) hrow hB.size (Nat.le_refl _) hown' hgrow; have hc1 := hv1.cell; have hf1 := hv1.frozen)
    have hbx' := ((hbx.alloc _).kept hgrow (hbx.not_row (by decide) hrow)).other (B' := w.heap.size) (by omega) (.slice (some ⟨g', 0, none⟩) ((negAt xs N pre).length + 1) cap')
    refine ⟨hk2.from _, ⟨hb2.size, fun b hb => ?_⟩, ⟨_, hv2, ?_, hbx'⟩, hB.trans hb2⟩
    · rcases hb with hb | rfl
      · exact hb2.block b hb
      · exact Eq.trans hbx' (Eq.symm hbx)
    have e1 : (negAt xs N (pre ++ [x])).length = (negAt xs N pre).length + 1 := by rw [negAt_snoc]; simp
    rw [e1, negAt_snoc]
    simpa [encs] using hr2
  case done =>
    rintro D ys W hD rfl ⟨⟨v, hv, hrow, _⟩, hB⟩ hK
    have hvc := hv.cell
    gi_wp2
    refine ⟨by simp, .inl ⟨_, _, rfl, run_takeDeferred hK, ?_⟩⟩
    obtain ⟨Av, cv, rfl⟩ := own_slice hrow
    refine ⟨_, results_tmp rfl _ _ _, _, rfl, ?_, hB.trans (belowK_b (w := w) (Nat.le_refl _) W D _ _ (by simp at hD; omega) hK rfl rfl)⟩
    have h2 := ownsRow_putObj hrow (.deferred none) hK rfl
    obtain rfl := HN.out
    rw [← negAt_all]
    exact Kd.R_of_own h2 (fun _ _ => trivial)
  case stop =>
    rintro D c pre W _ _ h _
    exact h.elim

namespace PAll
/-- What pebble.Inverse comes to. -/
def pebble_Inverse.f (l : List Int) : Option (List Int) := if l.length ≤ 1099511627776 then some (negRev l) else none
theorem pebble_Inverse.calls (A0 : Option Addr) (c0 : Nat) (l0 : List Int) (r : List Int) (w : World) (hr0 : Kd.C (Kd.int .i64) w A0 l0.length l0) (_hc0 : l0.length ≤ c0) (h : pebble_Inverse.f l0 = some r) :
    Calls Try.prog 22 #[.slice A0 l0.length c0] w fun e w' => ∃ v0_ : Value, e = .returned (v0_) ∧ Kd.R (Kd.int .i64) 3 w' w.heap.size (fun _ => True) v0_ r ∧ Below w.heap.size w w' := by
  unfold pebble_Inverse.f at h
  split at h
  · obtain rfl := Option.some.inj h
    exact callsIn_wide.1 (Inverse_in Fence.wide 3 trivial trivial trivial rfl (by omega) A0 c0 l0 (by assumption) w hr0)
  · cases h
end PAll

end Go.Proofs.Ytpkamififbhheaa
