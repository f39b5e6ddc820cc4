/- slices.Backward at []int and [][]int: the contracts of the iterator, for every slice. -/
import Derived.RangeFuncNested
import Derived.RangeFuncBound
import Derived.RangeFuncCalls
import Derived.RangeFuncLeaves
import Derived.RangeFuncBox
import Derived.Shelf.Abstract
import Derived.Shelf.RegionOpen
import Derived.WalkKit
import Derived.OwnWalkIn
import Derived.TacticsInMore
import Derived.LoopNIn
import Derived.LoopIn
import Derived.Lib.Hide
import Derived.Test.YtpkamififbhheaaProg
import Derived.Test.YtpkamififbhheaaWWords
set_option linter.unusedVariables false
set_option linter.unusedSimpArgs false
namespace Go.Proofs.Ytpkamififbhheaa
open Go.RowKit Go.Shelf
attribute [local go_sem] Oper.semAt_some

/-- The indices that have come when k rounds are over: len - 1, .., len - k. -/
def downs (len k : Nat) : List (Fin len) := (List.finRange len).reverse.take k
theorem downs_zero (len : Nat) : downs len 0 = [] := by simp [downs]
theorem downs_succ (len k q : Nat) (h : len = k + 1 + q) : downs len (k + 1) = downs len k ++ [⟨q, by omega⟩] := by
  unfold downs
  rw [List.take_succ_eq_append_getElem (by simp; omega)]
  congr 1
  simp
  omega
theorem downs_length (len k : Nat) (h : k ≤ len) : (downs len k).length = k := by simp [downs]; omega
theorem Addr.add_block (a : Addr) (k : Nat) : (a.add k).block = a.block := by unfold Addr.add; split <;> rfl

structure Aside1 (p : Prop) : Prop where mk :: (out : p)
/-- The blocks in S lie as they lay. -/
def KeepS (S : Nat → Prop) (W W' : World) : Prop := W.heap.size ≤ W'.heap.size ∧ ∀ b, S b → W'.heap[b]? = W.heap[b]?
theorem KeepS.refl (S : Nat → Prop) (W : World) : KeepS S W W := ⟨Nat.le_refl _, fun _ _ => rfl⟩
theorem KeepS.trans {S : Nat → Prop} {X Y Z : World} (h : KeepS S X Y) (k : KeepS S Y Z) : KeepS S X Z := ⟨Nat.le_trans h.1 k.1, fun b hb => (k.2 b hb).trans (h.2 b hb)⟩
theorem keepS_t {S : Nat → Prop} {X Y Z : World} (h : KeepS S X Y) (k : KeepS S Y Z) : KeepS S X Z := h.trans k
theorem keepS_b {S : Nat → Prop} {B : Nat} (hB : ∀ b, S b → b < B) (W : World) (l : Nat) (o o' : Obj) (hl : B ≤ l) (_h : W.heap[l]? = some o) (_ho : o.isCells = false) (_ho' : o.isWalk = false) : KeepS S W (W.putObj l o') :=
  ⟨(grownBy_putObj' W l o').size, fun b hb => World.putObj_heap_other (by have := hB b hb; omega)⟩
theorem KeepS.of_grownBy {S : Nat → Prop} {W W' : World} {row : Option Nat} (hg : W.grownBy W' row) (hlt : ∀ b, S b → b < W.heap.size) (hr : ∀ b, S b → some b ≠ row) : KeepS S W W' :=
  ⟨hg.size, fun b hb => hg.block b (hlt b hb) (hr b hb)⟩
theorem KeepS.of_below {S : Nat → Prop} {W W' : World} (h : Below W.heap.size W W') (hlt : ∀ b, S b → b < W.heap.size) : KeepS S W W' := ⟨h.size, fun b hb => h.block b (hlt b hb)⟩
theorem ownFrom_keepS {β : Type} {S : Nat → Prop} {B : Nat} {w₀ : World} (hS : ∀ b, S b → b < B) (hw : ∀ b, S b → b < w₀.heap.size) : OwnFrom B (fun (_ : β) W => KeepS S w₀ W) :=
  fun _ X Y row hs hg hr => ⟨Nat.le_trans hs.1 hg.size, fun b hb => (hg.block b (by have := hw b hb; have := hs.1; omega) (fun e => by have := (hr b e.symm).1; have := hS b hb; omega)).trans (hs.2 b hb)⟩

set_option maxRecDepth 100000 in
set_option maxHeartbeats 2000000 in
/-- slices.Backward's closure over a slice of one-cell elements: the indices from the last one down. -/
theorem back33_in (F : Fence) (n : Nat) (h7 : F.fn 33) (hro : F.round = none) (hn : 1 ≤ n) (S : Nat → Prop) (l Bs len cap : Nat) (A : Option Addr) (vs : Nat → Value) (hreach : len ≤ 9223372036854775807) (J Jx : List (Fin len) → World → Prop)
    (hY : ∀ pre x W, J pre W → pre.length < len → YieldAt F (n - 1) Try.prog l #[.int .i64 (x.1 : Int), vs x.1] W fun e W' =>
      (e = .returned (.bool true) ∧ J (pre ++ [x]) W' ∧ KeepS S W W') ∨ (e = .returned (.bool false) ∧ Jx (pre ++ [x]) W'))
    (W : World) (hBs : Boxed W Bs 23 (.slice A len cap)) (hBS : S Bs) (hc : ∀ j, j < len → ∃ ad, A = some ad ∧ S ad.block ∧ W.cell? (ad.add j) = some (vs j)) (h0 : J [] W) :
    CallsIn F n Try.prog 33 #[.func (.yield l) #[] #[], .pointer (some ⟨Bs, 0, none⟩)] W fun e W' => (∃ v, e = .returned v) ∧
      ((∃ ys, ys = downs len len ∧ J ys W') ∨ (∃ pre, (∃ k, k ≤ len ∧ pre = downs len k) ∧ Jx pre W')) := by
  have hBsc := hBs.cell
  refine callsIn_of_wp Try.func33 rfl h7 ?_ hro
  simp only [Try.ntmps33, List.size_toArray, List.length_cons, List.length_nil, Nat.reduceAdd, Nat.reduceSub, Array.replicate_succ, Array.replicate_zero, List.push_toArray, List.append_toArray, List.nil_append, List.cons_append]
  gi_wp2
  gi_loopw [3] (fun i wr => ∃ k : Nat, k ≤ len ∧ i = .int .i64 ((len : Int) - k - 1) ∧ J (downs len k) wr ∧ Aside1 (KeepS S W wr))
    (fun i _ => (intOf i + 1).toNat)
  case atStart => exact ⟨0, Nat.zero_le _, by first | rfl | (congr 1; omega), h0, ⟨KeepS.refl _ _⟩⟩
  case round =>
    obtain ⟨k, hk, rfl, hJs, ⟨hnx⟩⟩ := hrel
    have HNX := Lib.hid hnx
    have hbs' := Boxed.cell ((hnx.2 Bs hBS).trans hBs)
    have hbl : ∀ (a : Addr), S a.block → wr.cell? a = W.cell? a := fun a ha => World.cell?_of_block (w := W) (hnx.2 a.block ha)
    have HBL := Lib.hid hbl
    clear hbl
    clear hnx
    by_cases hlt : k < len
    · obtain ⟨q, hq⟩ : ∃ q : Nat, len = k + 1 + q := ⟨len - k - 1, by omega⟩
      have hqi : (len : Int) - k - 1 = (q : Int) := by omega
      rw [hqi]
      have hq0 : q < len := by omega
      obtain ⟨ad, hA, hab, hcq⟩ := hc q hq0
      subst hA
      have hcx' : wr.cell? (ad.add q) = some (vs q) := (HBL.out (ad.add q) (by rw [Addr.add_block]; exact hab)).trans hcq
      obtain ⟨fn, tmps, assign, body, hy, hR⟩ := hY _ ⟨q, hq0⟩ wr hJs (by rw [downs_length len k hk]; exact hlt)
      dsimp only at hy
      have HQ := Lib.hid hq
      clear hq hqi
      gi_wp2
      refine hR.mono ?_
      rintro e W3 (⟨rfl, hJ3, hk3⟩ | ⟨rfl, hJx3⟩)
      · gi_wp2
        go_roundw
        case rel => exact ⟨k + 1, by omega, by have := HQ.out; first | (congr 1; omega) | (simp; omega), by rw [downs_succ len k q HQ.out]; exact hJ3, ⟨HNX.out.trans hk3⟩⟩
        case measure => simp [intOf]
      · gi_wp2
        refine bodyPost_ret (results_none rfl _ _ _) rfl ?_
        exact ⟨⟨_, rfl⟩, .inr ⟨_, ⟨k + 1, by omega, (downs_succ len k q HQ.out).symm⟩, hJx3⟩⟩
    · obtain rfl : k = len := by omega
      have hz : ((k : Int) - k - 1) = -1 := by omega
      rw [hz]
      gi_wp2
      go_end0
      exact ⟨⟨_, rfl⟩, .inl ⟨_, rfl, hJs⟩⟩

set_option maxHeartbeats 1000000 in
/-- slices.Backward(s): the slice value is boxed; the function value captures the box. -/
theorem backward31_in (F : Fence) (n : Nat) (h5 : F.fn 31) (hro : F.round = none) (a : Option Addr) (len cap : Nat) (w : World) :
    CallsIn F n Try.prog 31 #[.slice a len cap] w fun e w' => e = .returned (.func (.func 33) #[] #[.pointer (some ⟨w.heap.size, 0, none⟩)]) ∧ w' = w.alloc (.cells #[.slice a len cap] 23) := by
  refine callsIn_of_wp Try.func31 rfl h5 ?_ hro
  simp only [Try.ntmps31, List.size_toArray, List.length_cons, List.length_nil, Nat.reduceAdd, Nat.reduceSub, Array.replicate_succ, Array.replicate_zero, List.push_toArray, List.append_toArray, List.nil_append, List.cons_append]
  gi_wp2
  go_ret
  exact ⟨rfl, rfl⟩

/-- slices.Backward(s) hands back a value that steps through the indices from the last one down, each with its element. -/
theorem backward31_stops (F : Fence) (n : Nat) (h7 : F.fn 33) (hro : F.round = none) (hn : 1 ≤ n) (S : Nat → Prop) (Bs len cap : Nat) (A : Option Addr) (vs : Nat → Value) (hreach : len ≤ 9223372036854775807) (w : World) (hn₀ : ∀ b, S b → b < w.heap.size)
    (hcb : Boxed w Bs 23 (.slice A len cap)) (hBS : S Bs) (hc : ∀ j, j < len → ∃ ad, A = some ad ∧ S ad.block ∧ w.cell? (ad.add j) = some (vs j)) :
    SeqStopsK F n Try.prog 33 #[.pointer (some ⟨Bs, 0, none⟩)] (fun x : Fin len => #[Value.int .i64 (x.1 : Int), vs x.1]) (KeepS S) (fun ys => ys = downs len len)
      (fun pre => ∃ k, k ≤ len ∧ pre = downs len k) len w := fun l J Jx W hW _ _ hY h0 => by
  refine back33_in F n h7 hro hn S l Bs len cap A vs hreach J Jx hY W ((hW.block Bs hcb.lt).trans hcb) hBS (fun j hj => ?_) h0
  obtain ⟨ad, e, hb, hcj⟩ := hc j hj
  exact ⟨ad, e, hb, (hW.cell (p := ad.add j) (by rw [Addr.add_block]; exact hn₀ _ hb)).trans hcj⟩


set_option maxRecDepth 100000 in
set_option maxHeartbeats 2000000 in
/-- slices.Backward's closure over a slice of one-cell elements: the indices from the last one down. -/
theorem back32_in (F : Fence) (n : Nat) (h7 : F.fn 32) (hro : F.round = none) (hn : 1 ≤ n) (S : Nat → Prop) (l Bs len cap : Nat) (A : Option Addr) (vs : Nat → Value) (hreach : len ≤ 9223372036854775807) (J Jx : List (Fin len) → World → Prop)
    (hY : ∀ pre x W, J pre W → pre.length < len → YieldAt F (n - 1) Try.prog l #[.int .i64 (x.1 : Int), vs x.1] W fun e W' =>
      (e = .returned (.bool true) ∧ J (pre ++ [x]) W' ∧ KeepS S W W') ∨ (e = .returned (.bool false) ∧ Jx (pre ++ [x]) W'))
    (W : World) (hBs : Boxed W Bs 41 (.slice A len cap)) (hBS : S Bs) (hc : ∀ j, j < len → ∃ ad, A = some ad ∧ S ad.block ∧ W.cell? (ad.add j) = some (vs j)) (h0 : J [] W) :
    CallsIn F n Try.prog 32 #[.func (.yield l) #[] #[], .pointer (some ⟨Bs, 0, none⟩)] W fun e W' => (∃ v, e = .returned v) ∧
      ((∃ ys, ys = downs len len ∧ J ys W') ∨ (∃ pre, (∃ k, k ≤ len ∧ pre = downs len k) ∧ Jx pre W')) := by
  have hBsc := hBs.cell
  refine callsIn_of_wp Try.func32 rfl h7 ?_ hro
  simp only [Try.ntmps32, List.size_toArray, List.length_cons, List.length_nil, Nat.reduceAdd, Nat.reduceSub, Array.replicate_succ, Array.replicate_zero, List.push_toArray, List.append_toArray, List.nil_append, List.cons_append]
  gi_wp2
  gi_loopw [3] (fun i wr => ∃ k : Nat, k ≤ len ∧ i = .int .i64 ((len : Int) - k - 1) ∧ J (downs len k) wr ∧ Aside1 (KeepS S W wr))
    (fun i _ => (intOf i + 1).toNat)
  case atStart => exact ⟨0, Nat.zero_le _, by first | rfl | (congr 1; omega), h0, ⟨KeepS.refl _ _⟩⟩
  case round =>
    obtain ⟨k, hk, rfl, hJs, ⟨hnx⟩⟩ := hrel
    have HNX := Lib.hid hnx
    have hbs' := Boxed.cell ((hnx.2 Bs hBS).trans hBs)
    have hbl : ∀ (a : Addr), S a.block → wr.cell? a = W.cell? a := fun a ha => World.cell?_of_block (w := W) (hnx.2 a.block ha)
    have HBL := Lib.hid hbl
    clear hbl
    clear hnx
    by_cases hlt : k < len
    · obtain ⟨q, hq⟩ : ∃ q : Nat, len = k + 1 + q := ⟨len - k - 1, by omega⟩
      have hqi : (len : Int) - k - 1 = (q : Int) := by omega
      rw [hqi]
      have hq0 : q < len := by omega
      obtain ⟨ad, hA, hab, hcq⟩ := hc q hq0
      subst hA
      have hcx' : wr.cell? (ad.add q) = some (vs q) := (HBL.out (ad.add q) (by rw [Addr.add_block]; exact hab)).trans hcq
      obtain ⟨fn, tmps, assign, body, hy, hR⟩ := hY _ ⟨q, hq0⟩ wr hJs (by rw [downs_length len k hk]; exact hlt)
      dsimp only at hy
      have HQ := Lib.hid hq
      clear hq hqi
      gi_wp2
      refine hR.mono ?_
      rintro e W3 (⟨rfl, hJ3, hk3⟩ | ⟨rfl, hJx3⟩)
      · gi_wp2
        go_roundw
        case rel => exact ⟨k + 1, by omega, by have := HQ.out; first | (congr 1; omega) | (simp; omega), by rw [downs_succ len k q HQ.out]; exact hJ3, ⟨HNX.out.trans hk3⟩⟩
        case measure => simp [intOf]
      · gi_wp2
        refine bodyPost_ret (results_none rfl _ _ _) rfl ?_
        exact ⟨⟨_, rfl⟩, .inr ⟨_, ⟨k + 1, by omega, (downs_succ len k q HQ.out).symm⟩, hJx3⟩⟩
    · obtain rfl : k = len := by omega
      have hz : ((k : Int) - k - 1) = -1 := by omega
      rw [hz]
      gi_wp2
      go_end0
      exact ⟨⟨_, rfl⟩, .inl ⟨_, rfl, hJs⟩⟩

set_option maxHeartbeats 1000000 in
/-- slices.Backward(s): the slice value is boxed; the function value captures the box. -/
theorem backward26_in (F : Fence) (n : Nat) (h5 : F.fn 26) (hro : F.round = none) (a : Option Addr) (len cap : Nat) (w : World) :
    CallsIn F n Try.prog 26 #[.slice a len cap] w fun e w' => e = .returned (.func (.func 32) #[] #[.pointer (some ⟨w.heap.size, 0, none⟩)]) ∧ w' = w.alloc (.cells #[.slice a len cap] 41) := by
  refine callsIn_of_wp Try.func26 rfl h5 ?_ hro
  simp only [Try.ntmps26, List.size_toArray, List.length_cons, List.length_nil, Nat.reduceAdd, Nat.reduceSub, Array.replicate_succ, Array.replicate_zero, List.push_toArray, List.append_toArray, List.nil_append, List.cons_append]
  gi_wp2
  go_ret
  exact ⟨rfl, rfl⟩

/-- slices.Backward(s) hands back a value that steps through the indices from the last one down, each with its element. -/
theorem backward26_stops (F : Fence) (n : Nat) (h7 : F.fn 32) (hro : F.round = none) (hn : 1 ≤ n) (S : Nat → Prop) (Bs len cap : Nat) (A : Option Addr) (vs : Nat → Value) (hreach : len ≤ 9223372036854775807) (w : World) (hn₀ : ∀ b, S b → b < w.heap.size)
    (hcb : Boxed w Bs 41 (.slice A len cap)) (hBS : S Bs) (hc : ∀ j, j < len → ∃ ad, A = some ad ∧ S ad.block ∧ w.cell? (ad.add j) = some (vs j)) :
    SeqStopsK F n Try.prog 32 #[.pointer (some ⟨Bs, 0, none⟩)] (fun x : Fin len => #[Value.int .i64 (x.1 : Int), vs x.1]) (KeepS S) (fun ys => ys = downs len len)
      (fun pre => ∃ k, k ≤ len ∧ pre = downs len k) len w := fun l J Jx W hW _ _ hY h0 => by
  refine back32_in F n h7 hro hn S l Bs len cap A vs hreach J Jx hY W ((hW.block Bs hcb.lt).trans hcb) hBS (fun j hj => ?_) h0
  obtain ⟨ad, e, hb, hcj⟩ := hc j hj
  exact ⟨ad, e, hb, (hW.cell (p := ad.add j) (by rw [Addr.add_block]; exact hn₀ _ hb)).trans hcj⟩

end Go.Proofs.Ytpkamififbhheaa
