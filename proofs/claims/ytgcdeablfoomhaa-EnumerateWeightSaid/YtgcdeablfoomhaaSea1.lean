/- The search of enumerate: what it hands over, as plain functions; its memory, as an invariant. -/
import Derived.Test.YtgcdeablfoomhaaSeaSt
import Derived.Test.YtgcdeablfoomhaaPAllx2
set_option linter.unusedVariables false
set_option linter.unusedSimpArgs false
namespace Go.Proofs.Ytgcdeablfoomhaa.PAll
open Go.RowKit Go.Proofs.YtgcdeablfoomhaaW.PrintWords Go.Proofs.YtgcdeablfoomhaaW.PrintLast Go.Proofs.YtgcdeablfoomhaaW.PrintMore

/-- A list's bounds. -/
structure S62 where
  f0 : Int
  f1 : Int
def unrank (r : Int) : Int := if r % 2 = 1 then (r + 1) / 2 else -(r / 2)
theorem unrank_f {r : Int} (h : 0 ≤ r) (h2 : r ≤ 1099511627776) : enumerate_Unrank.f r = some (unrank r) := by
  unfold enumerate_Unrank.f unrank
  rw [if_neg (by omega), Int.tmod_eq_emod_of_nonneg h]
  split
  · rw [wrap64_of' (n := r + 1) (by omega) (by omega), Int.tdiv_eq_ediv_of_nonneg (by omega), wrap64_of' (by omega) (by omega)]
  · have e : r = 2 * (r / 2) := by omega
    rw [wrap64_of' (n := -r) (by omega) (by omega)]
    have : Int.tdiv (-r) 2 = -(r / 2) := by rw [Int.neg_tdiv, Int.tdiv_eq_ediv_of_nonneg h]
    rw [this, wrap64_of' (by omega) (by omega)]
/-- The numbers from a to b. -/
def irange (a b : Int) : List Int := (List.range (b + 1 - a).toNat).map fun j : Nat => a + (j : Int)
def elemO (rk lo hi : Int) (K : Int → List (List (List Int))) : Nat → Int → List (List Int × List (List Int))
  | 0, w => if w < lo ∨ w > hi then [] else (K w).map fun q => (([] : List Int), q)
  | n + 1, w => (irange (max 0 (w - 1 - ((n : Int) * (rk + 1) + hi))) (min rk (w - 1 - ((n : Int) + lo)))).flatMap fun r => (elemO rk lo hi K n (w - 1 - r)).map fun q => (unrank r :: q.1, q.2)
def lowOf : List S62 → Int
  | [] => 0
  | s :: r => lowOf r + s.f0
def highOf (rk : Int) : List S62 → Int
  | [] => 0
  | s :: r => highOf rk r + s.f1 * (rk + 1)
def slotO (rk : Int) : List S62 → Int → List (List (List Int))
  | [], _ => [[]]
  | s :: r, w => (irange s.f0 s.f1).flatMap fun m => (elemO rk (lowOf r) (highOf rk r) (slotO rk r) m.toNat w).map fun q => q.1 :: q.2

/-- Where the search lies. -/
structure Cx where
  sl : List S62
  rk : Int
  B : Nat
  gS : Nat
  gl : Nat
  gh : Nat
  L : Nat
  M0 : Nat
  l : Nat
  cS : Nat
  cl : Nat
  ch : Nat
structure Cx.Ok (C : Cx) : Prop where
  n0 : 1 ≤ C.sl.length
  n1 : C.sl.length ≤ 200
  r0 : 0 ≤ C.rk
  r1 : C.rk ≤ 2000
  s : ∀ s ∈ C.sl, 0 ≤ s.f0 ∧ s.f0 ≤ 1000 ∧ 0 ≤ s.f1 ∧ s.f1 ≤ 1000
  lo : ∀ j, 0 ≤ lowOf (C.sl.drop j) ∧ lowOf (C.sl.drop j) ≤ 1099511627776
  hi : ∀ j, 0 ≤ highOf C.rk (C.sl.drop j) ∧ highOf C.rk (C.sl.drop j) ≤ 1099511627776
  nB : C.B ≠ C.L
  nS : C.gS ≠ C.L
  nl : C.gl ≠ C.L
  nh : C.gh ≠ C.L
  mB : C.B < C.M0
  mS : C.gS < C.M0
  ml : C.gl < C.M0
  mh : C.gh < C.M0
  mL : C.L < C.M0
/-- What the search reads and never writes. -/
structure Cst (C : Cx) (W : World) : Prop where
  b : W.heap[C.B]? = some (.cells #[.slice (some ⟨C.gS, 0, none⟩) C.sl.length C.cS, .int .i64 C.rk, .slice (some ⟨C.gl, 0, none⟩) (C.sl.length + 1) C.cl, .slice (some ⟨C.gh, 0, none⟩) (C.sl.length + 1) C.ch, .slice (some ⟨C.L, 0, none⟩) C.sl.length C.sl.length, .func (.yield C.l) #[] #[]] 60 (0, 0))
  s : ∃ cells : Array Value, W.heap[C.gS]? = some (.cells cells 62 (0, 0)) ∧ ∀ i (h : i < C.sl.length), cells[i * 2]? = some (.int .i64 C.sl[i].f0) ∧ cells[i * 2 + 1]? = some (.int .i64 C.sl[i].f1)
  lo : ∃ cells : Array Value, W.heap[C.gl]? = some (.cells cells 3 (0, 0)) ∧ ∀ j, j ≤ C.sl.length → cells[j]? = some (.int .i64 (lowOf (C.sl.drop j)))
  hi : ∃ cells : Array Value, W.heap[C.gh]? = some (.cells cells 3 (0, 0)) ∧ ∀ j, j ≤ C.sl.length → cells[j]? = some (.int .i64 (highOf C.rk (C.sl.drop j)))
theorem Cst.move {C : Cx} {W W' : World} (h : Cst C W) (hB : W'.heap[C.B]? = W.heap[C.B]?) (hS : W'.heap[C.gS]? = W.heap[C.gS]?) (hl : W'.heap[C.gl]? = W.heap[C.gl]?) (hh : W'.heap[C.gh]? = W.heap[C.gh]?) : Cst C W' :=
  ⟨hB.trans h.b, by rw [hS]; exact h.s, by rw [hl]; exact h.lo, by rw [hh]; exact h.hi⟩
theorem Cst.cell {C : Cx} {W : World} (h : Cst C W) : W.cell? ⟨C.B, 0, none⟩ = some (.slice (some ⟨C.gS, 0, none⟩) C.sl.length C.cS) ∧ W.cell? ⟨C.B, 1, none⟩ = some (.int .i64 C.rk) ∧ W.cell? ⟨C.B, 2, none⟩ = some (.slice (some ⟨C.gl, 0, none⟩) (C.sl.length + 1) C.cl) ∧
    W.cell? ⟨C.B, 3, none⟩ = some (.slice (some ⟨C.gh, 0, none⟩) (C.sl.length + 1) C.ch) ∧ W.cell? ⟨C.B, 4, none⟩ = some (.slice (some ⟨C.L, 0, none⟩) C.sl.length C.sl.length) ∧ W.cell? ⟨C.B, 5, none⟩ = some (.func (.yield C.l) #[] #[]) := by
  have hb := h.b
  refine ⟨?_, ?_, ?_, ?_, ?_, ?_⟩ <;> simp [World.cell?, hb]
theorem addr0 (g n : Nat) : Addr.add ⟨g, 0, none⟩ n = ⟨g, n, none⟩ := by
  unfold Addr.add; split <;> simp_all
theorem Cst.lo_ {C : Cx} {W : World} (h : Cst C W) (j : Nat) (hj : j ≤ C.sl.length) : W.cell? ⟨C.gl, j, none⟩ = some (.int .i64 (lowOf (C.sl.drop j))) := by
  obtain ⟨cells, hc, hx⟩ := h.lo
  simp [World.cell?, hc, hx j hj]
theorem Cst.hi_ {C : Cx} {W : World} (h : Cst C W) (j : Nat) (hj : j ≤ C.sl.length) : W.cell? ⟨C.gh, j, none⟩ = some (.int .i64 (highOf C.rk (C.sl.drop j))) := by
  obtain ⟨cells, hc, hx⟩ := h.hi
  simp [World.cell?, hc, hx j hj]
theorem Cst.s_ {C : Cx} {W : World} (h : Cst C W) (i : Nat) (hi : i < C.sl.length) : W.cell? ⟨C.gS, i * 2, none⟩ = some (.int .i64 C.sl[i].f0) ∧ W.cell? ⟨C.gS, i * 2 + 1, none⟩ = some (.int .i64 C.sl[i].f1) := by
  obtain ⟨cells, hc, hx⟩ := h.s
  simp [World.cell?, hc, hx i hi]

/-- The search's memory: its constants, and a row for each list, in blocks of T, apart from each other. -/
structure Inv (C : Cx) (T : Nat → Prop) (W : World) (rows : List (List Int)) : Prop where
  c : Cst C W
  t : T C.B ∧ T C.gS ∧ T C.gl ∧ T C.gh ∧ T C.L
  tlt : ∀ k, T k → k < W.heap.size
  m : C.M0 ≤ W.heap.size
  n : rows.length = C.sl.length
  r : ∃ vs : List Value, vs.length = C.sl.length ∧ W.heap[C.L]? = some (.cells vs.toArray 33 (0, 0)) ∧ (∀ i : Nat, Kd.R (Kd.int .i64) 3 W C.M0 T (vs.getD i nil3) (rows.getD i [])) ∧
    ∀ (i j b : Nat), i ≠ j → (vs.getD i nil3).ownBlock = some b → (vs.getD j nil3).ownBlock ≠ some b
section
variable {C : Cx} {T : Nat → Prop} {W W' : World} {rows : List (List Int)}
theorem Inv.keep (h : Inv C T W rows) (hs : W.heap.size ≤ W'.heap.size) (hk : ∀ k, T k → W'.heap[k]? = W.heap[k]?) : Inv C T W' rows := by
  obtain ⟨hB, hS, hl, hh, hL⟩ := h.t
  obtain ⟨vs, h1, h2, h3, h4⟩ := h.r
  exact ⟨h.c.move (hk _ hB) (hk _ hS) (hk _ hl) (hk _ hh), h.t, fun k hkk => Nat.lt_of_lt_of_le (h.tlt k hkk) hs, Nat.le_trans h.m hs, h.n, vs, h1, (hk _ hL).trans h2, fun i => Kd.R_step (h3 i) (fun k hk1 _ => hk k hk1), h4⟩
theorem Inv.below (h : Inv C T W rows) (hb : Below W.heap.size W W') : Inv C T W' rows := h.keep hb.size fun k hk => hb.block k (h.tlt k hk)
theorem Inv.keepS (h : Inv C T W rows) (hb : KeepS T W W') : Inv C T W' rows := h.keep hb.1 hb.2
theorem getD_set_same {α : Type} (l : List α) (i : Nat) (x d : α) (h : i < l.length) : (l.set i x).getD i d = x := by
  simp [List.getD_eq_getElem?_getD, h]
theorem getD_set_other {α : Type} (l : List α) (i j : Nat) (x d : α) (h : i ≠ j) : (l.set i x).getD j d = l.getD j d := by
  simp [List.getD_eq_getElem?_getD, List.getElem?_set_ne h]
theorem cell_list {W : World} {g : Nat} {vs : List Value} {t : TypeId} (h : W.heap[g]? = some (.cells vs.toArray t (0, 0))) (i : Nat) (hi : i < vs.length) : W.cell? ⟨g, i, none⟩ = some (vs.getD i nil3) := by
  simp [World.cell?, h, hi, List.getD_eq_getElem?_getD]
/-- Row i. -/
theorem Inv.row (h : Inv C T W rows) (i : Nat) (hi : i < C.sl.length) : ∃ Ai ci, W.cell? ⟨C.L, i, none⟩ = some (.slice Ai (rows.getD i []).length ci) ∧ Kd.R (Kd.int .i64) 3 W C.M0 T (.slice Ai (rows.getD i []).length ci) (rows.getD i []) := by
  obtain ⟨vs, h1, h2, h3, h4⟩ := h.r
  obtain ⟨Ai, ci, e⟩ := Kd.R_slice (h3 i)
  have h5 := cell_list h2 i (by omega)
  have h6 := h3 i
  rw [e] at h5 h6
  exact ⟨Ai, ci, h5, h6⟩
theorem Inv.frozen (h : Inv C T W rows) (i : Nat) : W.frozen? ⟨C.L, i, none⟩ = false := by
  obtain ⟨vs, h1, h2, h3, h4⟩ := h.r
  simp [World.frozen?, h2]
theorem heap_set_list {W : World} {g i : Nat} {vs : List Value} {t : TypeId} (u : Value) (h : W.heap[g]? = some (.cells vs.toArray t (0, 0))) : (W.setCell ⟨g, i, none⟩ u).heap[g]? = some (.cells (vs.set i u).toArray t (0, 0)) := by
  have := heap_setCell_same W g i vs.toArray t u h
  simpa using this
/-- The row block of another list is not this one; nor is the lists' own. -/
theorem Inv.notL (h : Inv C T W rows) (hC : C.Ok) {v : Value} {xs : List Int} {ok : Nat → Prop} (hv : Kd.R (Kd.int .i64) 3 W C.M0 ok v xs) (u : Value) (j : Nat) : Kd.R (Kd.int .i64) 3 (W.setCell ⟨C.L, j, none⟩ u) C.M0 ok v xs :=
  Kd.R_mono (Kd.R_far (Kd.R_mono (Kd.R_bound hv) (ok' := fun k => ok k ∧ k ≠ C.L) (fun k hk => ⟨hk.1, by have := hC.mL; have := hk.2.1; omega⟩)) (fun k hk => hk.2) u) (fun _ hk => hk.1)
/-- A list's row is put anew: a row of T's, apart from the others. -/
theorem Inv.put (h : Inv C T W rows) (hC : C.Ok) (i : Nat) (hi : i < C.sl.length) (v : Value) (x : List Int) (hv : Kd.R (Kd.int .i64) 3 W C.M0 T v x)
    (hap : ∀ vs : List Value, W.heap[C.L]? = some (.cells vs.toArray 33 (0, 0)) → (∀ (i j b : Nat), i ≠ j → (vs.getD i nil3).ownBlock = some b → (vs.getD j nil3).ownBlock ≠ some b) → (∀ j : Nat, Kd.R (Kd.int .i64) 3 W C.M0 T (vs.getD j nil3) (rows.getD j [])) → ∀ (j b : Nat), j ≠ i → v.ownBlock = some b → (vs.getD j nil3).ownBlock ≠ some b) :
    Inv C T (W.setCell ⟨C.L, i, none⟩ v) (rows.set i x) := by
  obtain ⟨vs, h1, h2, h3, h4⟩ := h.r
  have ha := hap vs h2 h4 h3
  have hf : ∀ k, k ≠ C.L → (W.setCell ⟨C.L, i, none⟩ v).heap[k]? = W.heap[k]? := fun k hk => heap_setCell_other W ⟨C.L, i, none⟩ k v hk
  refine ⟨h.c.move (hf _ hC.nB) (hf _ hC.nS) (hf _ hC.nl) (hf _ hC.nh), h.t, fun k hk => by simpa using h.tlt k hk, by simpa using h.m, by simpa using h.n, vs.set i v, by simpa using h1, heap_set_list v h2, fun j => ?_, fun j k b hjk hb => ?_⟩
  · by_cases e : i = j
    · subst e
      rw [getD_set_same _ _ _ _ (by omega), getD_set_same _ _ _ _ (by rw [h.n]; exact hi)]
      exact h.notL hC hv v i
    · rw [getD_set_other _ _ _ _ _ e, getD_set_other _ _ _ _ _ e]
      exact h.notL hC (h3 j) v i
  · by_cases e : i = j
    · subst e
      rw [getD_set_same _ _ _ _ (by omega)] at hb
      rw [getD_set_other _ _ _ _ _ hjk]
      exact ha k b (Ne.symm hjk) hb
    · rw [getD_set_other _ _ _ _ _ e] at hb
      by_cases e2 : i = k
      · subst e2
        rw [getD_set_same _ _ _ _ (by omega)]
        intro hvb
        exact ha j b (Ne.symm e) hvb hb
      · rw [getD_set_other _ _ _ _ _ e2]
        exact h4 j k b hjk hb
/-- lists[i] = lists[i][:m]. -/
theorem Inv.cut (h : Inv C T W rows) (hC : C.Ok) (i : Nat) (hi : i < C.sl.length) {Ai : Option Addr} {ci : Nat} (hc : W.cell? ⟨C.L, i, none⟩ = some (.slice Ai (rows.getD i []).length ci)) (m : Nat) (hm : m ≤ (rows.getD i []).length) :
    Inv C T (W.setCell ⟨C.L, i, none⟩ (.slice Ai m ci)) (rows.set i ((rows.getD i []).take m)) := by
  obtain ⟨vs, h1, h2, h3, h4⟩ := h.r
  have h5 := cell_list h2 i (by omega)
  rw [hc] at h5
  have h6 := h3 i
  have h7 := Option.some.inj h5
  rw [← h7] at h6
  refine h.put hC i hi _ _ (Kd.R_take h6 hm) (fun vs' h2' h4' h3' j b hj hb => ?_)
  have h8 := cell_list h2' i (by rw [h2] at h2'; injection h2' with h2'; injection h2' with h9; have h10 := congrArg Array.toList h9; simp at h10; rw [← h10]; omega)
  rw [hc] at h8
  have h9 := Option.some.inj h8
  refine h4' i j b (Ne.symm hj) ?_
  rw [← h9]
  cases Ai with
  | none => simp [Value.ownBlock] at hb
  | some a => simpa [Value.ownBlock] using hb
/-- lists[i] = append(lists[i], x). -/
theorem Inv.app (h : Inv C T W rows) (hC : C.Ok) (i : Nat) (hi : i < C.sl.length) {Ai : Option Addr} {ci : Nat} (hc : W.cell? ⟨C.L, i, none⟩ = some (.slice Ai (rows.getD i []).length ci)) {w2 : World} {v2 : Value} {x : Int}
    (hv : Kd.R (Kd.int .i64) 3 w2 C.M0 (fun k => T k ∨ W.heap.size ≤ k) v2 (rows.getD i [] ++ [x])) (hg : W.grownBy w2 (Value.slice Ai (rows.getD i []).length ci).ownBlock)
    (hat : v2.ownBlock = (Value.slice Ai (rows.getD i []).length ci).ownBlock ∨ ∃ b, v2.ownBlock = some b ∧ W.heap.size ≤ b) :
    Inv C (fun k => T k ∨ (W.heap.size ≤ k ∧ k < w2.heap.size)) (w2.setCell ⟨C.L, i, none⟩ v2) (rows.set i (rows.getD i [] ++ [x])) ∧ StepT T W (w2.setCell ⟨C.L, i, none⟩ v2) ∧ Grows T (fun k => T k ∨ (W.heap.size ≤ k ∧ k < w2.heap.size)) W := by
  obtain ⟨vs, h1, h2, h3, h4⟩ := h.r
  obtain ⟨hB, hS, hl, hh, hL⟩ := h.t
  have h5 := cell_list h2 i (by omega)
  rw [hc] at h5
  have h7 : Value.slice Ai (rows.getD i []).length ci = vs.getD i nil3 := Option.some.inj h5
  rw [h7] at hg hat
  have hbase : ∀ b, (vs.getD i nil3).ownBlock = some b → C.M0 ≤ b := Kd.R_base (h3 i)
  have hTi : ∀ b, (vs.getD i nil3).ownBlock = some b → T b := (h3 i).1
  have hf : ∀ k, k < C.M0 → w2.heap[k]? = W.heap[k]? := fun k hk => hg.block k (by have := h.m; omega) (fun e => by have := hbase k e.symm; omega)
  have hf2 : ∀ k, k < C.M0 → k ≠ C.L → (w2.setCell ⟨C.L, i, none⟩ v2).heap[k]? = W.heap[k]? := fun k hk hn => (heap_setCell_other w2 ⟨C.L, i, none⟩ k v2 hn).trans (hf k hk)
  have hL2 : w2.heap[C.L]? = some (.cells vs.toArray 33 (0, 0)) := (hf _ hC.mL).trans h2
  have hmo : ∀ j, i ≠ j → Kd.R (Kd.int .i64) 3 w2 C.M0 (fun k => T k ∨ (W.heap.size ≤ k ∧ k < w2.heap.size)) (vs.getD j nil3) (rows.getD j []) := fun j hj => by
    have q := h3 j
    obtain ⟨q0, inner, ho, hr⟩ := q
    exact ⟨fun k hk => .inl (q0 k hk), inner, own_move ho (fun k hk => hg.block k (own_lt ho k hk) (fun e => h4 j i k (Ne.symm hj) hk e.symm)), hr⟩
  have hvt : Kd.R (Kd.int .i64) 3 w2 C.M0 (fun k => T k ∨ (W.heap.size ≤ k ∧ k < w2.heap.size)) v2 (rows.getD i [] ++ [x]) := Kd.R_mono (Kd.R_bound hv) (fun k hk => hk.1.imp id (fun h9 => ⟨h9, hk.2.2.1⟩))
  have notL : ∀ {v : Value} {xs : List Int} {ok : Nat → Prop}, Kd.R (Kd.int .i64) 3 w2 C.M0 ok v xs → Kd.R (Kd.int .i64) 3 (w2.setCell ⟨C.L, i, none⟩ v2) C.M0 ok v xs := fun {v xs ok} hv =>
    Kd.R_mono (Kd.R_far (Kd.R_mono (Kd.R_bound hv) (ok' := fun k => ok k ∧ k ≠ C.L) (fun k hk => ⟨hk.1, by have := hC.mL; have := hk.2.1; omega⟩)) (fun k hk => hk.2) v2) (fun _ hk => hk.1)
  refine ⟨⟨h.c.move (hf2 _ hC.mB hC.nB) (hf2 _ hC.mS hC.nS) (hf2 _ hC.ml hC.nl) (hf2 _ hC.mh hC.nh), ⟨.inl hB, .inl hS, .inl hl, .inl hh, .inl hL⟩, fun k hk => ?_, by have := hg.size; have := h.m; simp; omega, by simpa using h.n, vs.set i v2, by simpa using h1, heap_set_list v2 hL2, fun j => ?_, fun j k b hjk hb => ?_⟩,
    ⟨hg.os, hg.tape, hg.output, by simpa using hg.size, fun k hk hn => (heap_setCell_other w2 ⟨C.L, i, none⟩ k v2 (fun e => hn (e ▸ hL))).trans (hg.block k hk (fun e => hn (hTi k e.symm)))⟩, fun k hk => .inl hk, fun k hk => hk.imp id (fun h9 => h9.1)⟩
  · rcases hk with hk | hk
    · have := h.tlt k hk; have := hg.size; simp; omega
    · simpa using hk.2
  · by_cases e : i = j
    · subst e
      rw [getD_set_same _ _ _ _ (by omega), getD_set_same _ _ _ _ (by rw [h.n]; exact hi)]
      exact notL hvt
    · rw [getD_set_other _ _ _ _ _ e, getD_set_other _ _ _ _ _ e]
      exact notL (hmo j e)
  · have hvi : ∀ (k b : Nat), k ≠ i → v2.ownBlock = some b → (vs.getD k nil3).ownBlock ≠ some b := fun k b hk hb hkb => by
      rcases hat with hat | ⟨b', hb', hlt⟩
      · rw [hat] at hb
        exact h4 k i b hk hkb hb
      · rw [hb] at hb'
        injection hb' with hb'
        have := Kd.R_lt (h3 k) b hkb
        omega
    by_cases e : i = j
    · subst e
      rw [getD_set_same _ _ _ _ (by omega)] at hb
      rw [getD_set_other _ _ _ _ _ hjk]
      exact hvi k b (Ne.symm hjk) hb
    · rw [getD_set_other _ _ _ _ _ e] at hb
      by_cases e2 : i = k
      · subst e2
        rw [getD_set_same _ _ _ _ (by omega)]
        intro hvb
        exact hvi j b (Ne.symm e) hvb hb
      · rw [getD_set_other _ _ _ _ _ e2]
        exact h4 j k b hjk hb
theorem Inv.stepCut (h : Inv C T W rows) (i : Nat) (u : Value) : StepT T W (W.setCell ⟨C.L, i, none⟩ u) := StepT.set W ⟨C.L, i, none⟩ u h.t.2.2.2.2
end
/-- How a search went: through to its end, or stopped behind output k. -/
def Res (J Jx : (Nat → Prop) → List (List (List Int)) → World → Prop) (done outs : List (List (List Int))) (b : Bool) (T : Nat → Prop) (W : World) : Prop :=
  (b = true ∧ J T (done ++ outs) W) ∨ (b = false ∧ ∃ k, k < outs.length ∧ Jx T (done ++ outs.take (k + 1)) W)
def SPost (C : Cx) (J Jx : (Nat → Prop) → List (List (List Int)) → World → Prop) (done outs : List (List (List Int))) (rows : List (List Int)) (e : Ending) (W' : World) : Prop :=
  ∃ b T', e = .returned (.bool b) ∧ Res J Jx done outs b T' W' ∧ Inv C T' W' rows
section
variable {J Jx : (Nat → Prop) → List (List (List Int)) → World → Prop} {done outs : List (List (List Int))} {b : Bool} {T T' : Nat → Prop} {W W' : World}
theorem Res.step (h : Res J Jx done outs b T W) (hJ : Abide J) (hJx : Abide Jx) (hs : StepT T W W') (hg : Grows T T' W) : Res J Jx done outs b T' W' := by
  rcases h with ⟨hb, h⟩ | ⟨hb, k, hk, h⟩
  · exact .inl ⟨hb, hJ _ _ _ _ _ h hs hg⟩
  · exact .inr ⟨hb, k, hk, hJx _ _ _ _ _ h hs hg⟩
theorem Res.end_ (h : J T done W) : Res J Jx done [] true T W := .inl ⟨rfl, by simpa using h⟩
/-- A part of the outputs went through: J holds behind it. -/
theorem Res.thru {more : List (List (List Int))} (h : Res J Jx (done ++ outs) more true T W) : J T (done ++ (outs ++ more)) W := by
  rcases h with ⟨_, h⟩ | ⟨hb, _⟩
  · rwa [List.append_assoc] at h
  · cases hb
theorem Res.stop {more rest : List (List (List Int))} (h : Res J Jx (done ++ outs) more false T W) : Res J Jx done (outs ++ (more ++ rest)) false T W := by
  rcases h with ⟨hb, _⟩ | ⟨_, k, hk, h⟩
  · cases hb
  · refine .inr ⟨rfl, outs.length + k, by simp; omega, ?_⟩
    rw [List.take_append, List.take_of_length_le (by omega), show outs.length + k + 1 - outs.length = k + 1 by omega, List.take_append_of_le_length (by omega), ← List.append_assoc]
    exact h
end
theorem irange_length (a b : Int) : (irange a b).length = (b + 1 - a).toNat := by simp [irange]
theorem irange_get (a b : Int) (j : Nat) (h : j < (irange a b).length) : (irange a b)[j] = a + (j : Int) := by simp [irange]
theorem flat_take {α : Type} (l : List Int) (f : Int → List α) (j : Nat) (h : j < l.length) : (l.take (j + 1)).flatMap f = (l.take j).flatMap f ++ f l[j] := by
  rw [List.take_succ_eq_append_getElem h, List.flatMap_append]; simp
theorem flat_all {α : Type} (l : List Int) (f : Int → List α) (j : Nat) (h : j < l.length) : l.flatMap f = (l.take j).flatMap f ++ (f l[j] ++ (l.drop (j + 1)).flatMap f) := by
  conv => lhs; rw [← List.take_append_drop j l, List.drop_eq_getElem_cons h]
  rw [List.flatMap_append, List.flatMap_cons]
/-- The contract of search.slot, and of search.element. -/
def SlotC (C : Cx) (J Jx : (Nat → Prop) → List (List (List Int)) → World → Prop) (rest : List S62) : Prop :=
  ∀ (pre : List (List Int)) (wt : Int) (T : Nat → Prop) (W : World) (done : List (List (List Int))), C.sl.drop pre.length = rest → pre.length + rest.length = C.sl.length → (∀ r ∈ pre, r.length ≤ 1000) → 0 ≤ wt → wt ≤ 1099511627776 →
    J T done W → Inv C T W (pre ++ List.replicate rest.length []) →
    Calls Try.prog 33 #[.pointer (some ⟨C.B, 0, none⟩), .int .i64 (pre.length : Int), .int .i64 wt] W fun e W' => SPost C J Jx done ((slotO C.rk rest wt).map fun q => pre ++ q) (pre ++ List.replicate rest.length []) e W'
def ElemC (C : Cx) (J Jx : (Nat → Prop) → List (List (List Int)) → World → Prop) (rest : List S62) (left : Nat) : Prop :=
  ∀ (pre : List (List Int)) (cur : List Int) (mI wt : Int) (T : Nat → Prop) (W : World) (done : List (List (List Int))), C.sl.drop (pre.length + 1) = rest → pre.length + 1 + rest.length = C.sl.length → (∀ r ∈ pre, r.length ≤ 1000) → cur.length + left ≤ 1000 → mI = (cur.length : Int) + (left : Int) → 0 ≤ wt → wt ≤ 1099511627776 →
    J T done W → Inv C T W (pre ++ cur :: List.replicate rest.length []) →
    Calls Try.prog 50 #[.pointer (some ⟨C.B, 0, none⟩), .int .i64 (pre.length : Int), .int .i64 mI, .int .i64 wt] W fun e W' =>
      SPost C J Jx done ((elemO C.rk (lowOf rest) (highOf C.rk rest) (slotO C.rk rest) left wt).map fun q => pre ++ (cur ++ q.1) :: q.2) (pre ++ cur :: List.replicate rest.length []) e W'
end Go.Proofs.Ytgcdeablfoomhaa.PAll
