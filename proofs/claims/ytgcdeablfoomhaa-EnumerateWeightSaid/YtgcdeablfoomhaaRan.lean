/- A range over a function whose iterator hands over values that lie in memory: the contract of the iterator and the law of the statement. -/
import Derived.RangeFuncNested
import Derived.RangeFuncBound
import Derived.RangeFuncCalls
import Derived.RangeFuncLeaves
import Derived.RangeFuncBox
import Derived.WalkKit
import Derived.OwnWalkIn
import Derived.TacticsInMore
import Derived.LoopNIn
import Derived.LoopIn
import Derived.Orders
import Derived.OrdersIn
import Derived.Lib.Hide
set_option linter.unusedVariables false
set_option linter.unusedSimpArgs false
namespace Go.Proofs.Ytgcdeablfoomhaa
open Go.RowKit

/-- The blocks in S lie as they lay. -/
def KeepS (S : Nat → Prop) (W W' : World) : Prop := W.heap.size ≤ W'.heap.size ∧ ∀ b, S b → W'.heap[b]? = W.heap[b]?
theorem KeepS.refl (S : Nat → Prop) (W : World) : KeepS S W W := ⟨Nat.le_refl _, fun _ _ => rfl⟩
theorem KeepS.trans {S : Nat → Prop} {X Y Z : World} (h : KeepS S X Y) (k : KeepS S Y Z) : KeepS S X Z := ⟨Nat.le_trans h.1 k.1, fun b hb => (k.2 b hb).trans (h.2 b hb)⟩
theorem KeepS.mono {S S' : Nat → Prop} {X Y : World} (h : KeepS S X Y) (hs : ∀ b, S' b → S b) : KeepS S' X Y := ⟨h.1, fun b hb => h.2 b (hs b hb)⟩

/-- A step of the iterator's own: whatever lies outside of T lies as it lay. -/
structure StepT (T : Nat → Prop) (A B : World) : Prop where
  os : B.os = A.os
  tape : B.tape = A.tape
  output : B.output = A.output
  size : A.heap.size ≤ B.heap.size
  block : ∀ k, k < A.heap.size → ¬ T k → B.heap[k]? = A.heap[k]?
theorem StepT.refl (T : Nat → Prop) (A : World) : StepT T A A := ⟨rfl, rfl, rfl, Nat.le_refl _, fun _ _ _ => rfl⟩
theorem StepT.of_below {T : Nat → Prop} {A B : World} (h : Below A.heap.size A B) : StepT T A B := ⟨h.os, h.tape, h.output, h.size, fun k hk _ => h.block k hk⟩
theorem StepT.of_grown {T : Nat → Prop} {A B : World} {ob : Option Nat} (h : A.grownBy B ob) (hb : ∀ k, ob = some k → T k) : StepT T A B :=
  ⟨h.os, h.tape, h.output, h.size, fun k hk hn => h.block k hk (fun e => hn (hb k e.symm))⟩
theorem StepT.set {T : Nat → Prop} (A : World) (p : Addr) (v : Value) (hp : T p.block) : StepT T A (A.setCell p v) :=
  ⟨rfl, rfl, rfl, by simp, fun k hk hn => Below.heap_setCell A p v k (fun e => hn (e ▸ hp))⟩
/-- T' is T and blocks that are new. -/
def Grows (T T' : Nat → Prop) (A : World) : Prop := (∀ k, T k → T' k) ∧ ∀ k, T' k → T k ∨ A.heap.size ≤ k
theorem Grows.refl (T : Nat → Prop) (A : World) : Grows T T A := ⟨fun _ h => h, fun _ h => .inl h⟩
def Abide {β : Type} (J : (Nat → Prop) → β → World → Prop) : Prop := ∀ T T' s A B, J T s A → StepT T A B → Grows T T' A → J T' s B
theorem Abide.and {β : Type} {J K : (Nat → Prop) → β → World → Prop} (h : Abide J) (k : Abide K) : Abide (fun T s W => J T s W ∧ K T s W) := fun T T' s A B hj hs hg => ⟨h T T' s A B hj.1 hs hg, k T T' s A B hj.2 hs hg⟩

/-- The contract of an iterator value: whatever lay when it was made lies there (Below); the caller's invariant J abides its steps; at each yield it hands over x, whose memory (G) is new: from the heap's size at Az on. -/
def SeqT {α β : Type} (P : Program) (g : Nat) (lb : Array Value) (encs : α → β → Array Value) (G : Nat → α → β → World → Prop) (S Sp : List α → Prop) (w : World) : Prop :=
  ∀ (l : Nat) (J Jx : (Nat → Prop) → List α → World → Prop) (W : World), Below w.heap.size w W → Abide J → Abide Jx →
    (∀ T pre x y Az A, J T pre Az → (∀ k, T k → k < Az.heap.size) → Below Az.heap.size Az A → G Az.heap.size x y A → YieldAt Fence.wide 0 P l (encs x y) A fun e B =>
      (e = .returned (.bool true) ∧ J T (pre ++ [x]) B ∧ KeepS T A B) ∨ (e = .returned (.bool false) ∧ Jx T (pre ++ [x]) B ∧ KeepS T A B)) →
    J (fun _ => False) [] W →
    Calls P g (#[.func (.yield l) #[] #[]] ++ lb) W fun e W' => (∃ v, e = .returned v) ∧ ((∃ T xs, S xs ∧ J T xs W') ∨ (∃ T pre, Sp pre ∧ Jx T pre W'))

/-- How the body of a round may be left. -/
def postT {α : Type} (T : Nat → Prop) (I : (Nat → Prop) → List α → World → Prop) (Ix : Code → (Nat → Prop) → List α → World → Prop) (xs : List α) (W : World) : Exit → Act → World → Prop
  | .normal, _, W' => KeepsOthers W W' ∧ KeepS T W W' ∧ I T xs W'
  | .ret, _, W' => KeepsOthers W W' ∧ KeepS T W W' ∧ Ix .ret T xs W'
  | .exit id, _, W' => KeepsOthers W W' ∧ KeepS T W W' ∧ Ix (.exit id) T xs W'
  | .goto t, _, W' => KeepsOthers W W' ∧ KeepS T W W' ∧ Ix (.goto t) T xs W'
  | .panic _, _, _ => False
  | .outgrown, _, _ => False

theorem below_putObj {z l : Nat} {A B : World} (o' : Obj) (h : Below z A B) (hl : l < z) (hz : z ≤ A.heap.size) : Below z (A.putObj l o') (B.putObj l o') := by
  refine ⟨h.os, h.tape, h.output, by simp [h.size], fun k hk => ?_⟩
  by_cases e : k = l
  · subst e
    rw [World.putObj_heap_same (by have := h.size; omega), World.putObj_heap_same (by omega)]
  · rw [World.putObj_heap_other e, World.putObj_heap_other e]
    exact h.block k hk
theorem abide_rec {l : Nat} {o : Obj} {A B : World} {T : Nat → Prop} (h : A.heap[l]? = some o) (hn : ¬ T l) (hs : StepT T A B) : B.heap[l]? = some o := (hs.block l (Array.getElem?_eq_some_iff.1 h).1 hn).trans h
theorem not_grown {l : Nat} {o : Obj} {A : World} {T T' : Nat → Prop} (h : A.heap[l]? = some o) (hn : ¬ T l) (hg : Grows T T' A) : ¬ T' l := fun ht => by
  rcases hg.2 l ht with h1 | h1
  · exact hn h1
  · have := (Array.getElem?_eq_some_iff.1 h).1; omega

/-- THE STATEMENT. -/
theorem wpIn_rangeFunc_T {α β : Type} {P : Program} {n : Nat} {g : Operand} {ps : Array Tmp} {assign body : Code} {Q : Exit → Act → World → Prop} {a : Act} {w : World}
    {gf : Nat} {lb : Array Value} (hg : a.eval g = .func (.func gf) #[] lb) (eg : ∀ args w, (callFunc gf args).run P w = .ok (.enter gf args) w)
    {encs : α → β → Array Value} {G : Nat → α → β → World → Prop} {S Sp : List α → Prop} {w0 : World} (hseq : SeqT P gf lb encs G S Sp w0) (hb0 : Below w0.heap.size w0 w) (hps : ∀ x y, (encs x y).size = ps.size)
    (hG : ∀ z x y A l o o', G z x y A → l < z → A.heap[l]? = some o → o.isCells = false → G z x y (A.putObj l o'))
    (I : (Nat → Prop) → List α → World → Prop) (Ix : Code → (Nat → Prop) → List α → World → Prop) (hI : Abide I) (hIx : ∀ c, Abide (Ix c))
    (hIo : ∀ T s A l o o', I T s A → w.heap.size ≤ l → A.heap[l]? = some o → o.isCells = false → I T s (A.putObj l o'))
    (hIxo : ∀ c T s A l o o', Ix c T s A → w.heap.size ≤ l → A.heap[l]? = some o → o.isCells = false → Ix c T s (A.putObj l o'))
    (h0 : I (fun _ => False) [] w) (a₁ : α → β → Act)
    (hassign : ∀ (l : Nat) (x : α) (y : β) (W : World) (K : Act → World → Prop), K (a₁ x y) W →
      assign.wpIn (Fence.wide.inRound l) 0 P (Exit.then K (fun _ _ _ => False)) { tmps := (ps.zip (encs x y)).foldl (fun t (p, v) => t.setIfInBounds p v) a.tmps, defers := [] } W)
    (hbody : ∀ (l : Nat) (T : Nat → Prop) (pre : List α) (x : α) (y : β) (Az W : World), I T pre Az → (∀ k, T k → k < Az.heap.size) → Below Az.heap.size Az W → G Az.heap.size x y W → body.wpIn (Fence.wide.inRound l) 0 P (postT T I Ix (pre ++ [x]) W) (a₁ x y) W)
    (hdone : ∀ (D : Nat) (T : Nat → Prop) (xs : List α) (W : World), w.heap.size ≤ D → S xs → I T xs W → W.heap[D]? = some (.deferred (some [])) → Q .normal { a with defers := { target := .collected D, args := #[] } :: a.defers } W)
    (hstop : ∀ (D : Nat) (c : Code) (T : Nat → Prop) (pre : List α) (W : World), w.heap.size ≤ D → Sp pre → Ix c T pre W → W.heap[D]? = some (.deferred (some [])) → c.wpIn Fence.wide n P Q { a with defers := { target := .collected D, args := #[] } :: a.defers } W) :
    (Code.rangeFunc g ps assign body).wpIn Fence.wide n P Q a w := by
  refine wpIn_rangeFunc ?_
  intro fn hfn
  rw [show Fence.wide.round = none from rfl]
  obtain ⟨rec, hrec⟩ : ∃ rec : LoopState → Option Code → Loop, rec = fun st pe => { state := st, pending := pe, fn, tmps := a.tmps, params := ps, assign, body, defers := w.heap.size } := ⟨_, rfl⟩
  obtain ⟨W1, hW1⟩ : ∃ W1, (w.alloc (.deferred (some []))).alloc (.loop (rec .ready none)) = W1 := ⟨_, rfl⟩
  have hL1 : W1.heap[w.heap.size + 1]? = some (.loop (rec .ready none)) := by
    rw [← hW1]; have := World.alloc_heap_new (w.alloc (.deferred (some []))) (.loop (rec .ready none)); rwa [World.size_alloc] at this
  have hK1 : W1.heap[w.heap.size]? = some (.deferred (some [])) := by
    rw [← hW1]; exact (Below.heap_alloc _ _ _ (by simp)).trans (World.alloc_heap_new w _)
  have hBw1 : Below w.heap.size w W1 := by rw [← hW1]; exact ((Below.refl _ w).alloc (Nat.le_refl _) _).alloc (by simp) _
  have hI1 : I (fun _ => False) [] W1 := hI _ _ _ _ _ h0 (.of_below hBw1) (Grows.refl _ _)
  have hb1 : Below w0.heap.size w0 W1 := hb0.trans (hBw1.mono hb0.size)
  refine ⟨w.heap.size + 1, [{ target := .collected w.heap.size, args := #[] }], W1, { target := .fn (.func gf) lb, args := #[.func (.yield (w.heap.size + 1)) #[] #[]] }, W1, gf,
    #[.func (.yield (w.heap.size + 1)) #[] #[]] ++ lb, W1, ?_, ?_, ?_, ?_, fun hd => by simp [Fence.wide] at hd, ?_⟩
  · rw [← hW1, hrec]; exact run_enterLoop_outer _ _ _ _ _
  · simp only [resolve, hg]
    simp [go_sem]
  · intro f' hf'; exact trivial
  · simp [invoke, go_sem, eg]
  · refine callsIn_wide.2 ((hseq (w.heap.size + 1)
      (fun T pre W => I T pre W ∧ ¬ T (w.heap.size + 1) ∧ ¬ T w.heap.size ∧ W.heap[w.heap.size + 1]? = some (.loop (rec .ready none)) ∧ W.heap[w.heap.size]? = some (.deferred (some [])))
      (fun T pre W => ∃ c, Ix c T pre W ∧ ¬ T (w.heap.size + 1) ∧ ¬ T w.heap.size ∧ W.heap[w.heap.size + 1]? = some (.loop (rec .done (some c))) ∧ W.heap[w.heap.size]? = some (.deferred (some [])))
      W1 hb1
      (fun T T' s A B hs hst hgr => ⟨hI T T' s A B hs.1 hst hgr, not_grown hs.2.2.2.1 hs.2.1 hgr, not_grown hs.2.2.2.2 hs.2.2.1 hgr, abide_rec hs.2.2.2.1 hs.2.1 hst, abide_rec hs.2.2.2.2 hs.2.2.1 hst⟩)
      (fun T T' s A B hs hst hgr => by
        obtain ⟨c, hc, h1, h2, h3, h4⟩ := hs
        exact ⟨c, hIx c T T' s A B hc hst hgr, not_grown h3 h1 hgr, not_grown h4 h2 hgr, abide_rec h3 h1 hst, abide_rec h4 h2 hst⟩)
      ?_ ⟨hI1, not_false, not_false, hL1, hK1⟩).mono ?_)
    · rintro T pre x y Az A ⟨hi, hn1, hn2, hl, hk⟩ hTz hbz hgx
      have hltz : w.heap.size + 1 < Az.heap.size := (Array.getElem?_eq_some_iff.1 hl).1
      have hlA : A.heap[w.heap.size + 1]? = some (.loop (rec .ready none)) := (hbz.block _ hltz).trans hl
      have hkA : A.heap[w.heap.size]? = some (.deferred (some [])) := (hbz.block _ (by omega)).trans hk
      have hlt : w.heap.size + 1 < A.heap.size := (Array.getElem?_eq_some_iff.1 hlA).1
      have hy := run_yield (P := P) (args := encs x y) hlA (by rw [hrec]; exact hps x y)
      rw [hrec] at hy
      refine ⟨fn, _, assign, body, hy, roundIn_of_wpIn hfn (hassign _ x y A _ ⟨_, run_beginRound hlA (by rw [hrec]), ?_⟩)⟩
      obtain ⟨busy, hbusy⟩ : ∃ busy : Obj, busy = .loop { rec .ready none with state := .busy } := ⟨_, rfl⟩
      rw [← hbusy]
      have hl2 : (A.putObj (w.heap.size + 1) busy).heap[w.heap.size + 1]? = some busy := World.putObj_heap_same hlt
      have hk2 : (A.putObj (w.heap.size + 1) busy).heap[w.heap.size]? = some (.deferred (some [])) := (World.putObj_heap_other (by omega)).trans hkA
      have hbod := hbody (w.heap.size + 1) T pre x y (Az.putObj (w.heap.size + 1) busy) (A.putObj (w.heap.size + 1) busy) (hIo _ _ _ _ _ _ hi (by omega) hl rfl) (fun k hk => by simpa using hTz k hk)
        (by rw [World.putObj_size]; exact below_putObj busy hbz hltz (Nat.le_refl _)) (by rw [World.putObj_size]; exact hG _ _ _ _ _ _ _ hgx hltz hlA rfl)
      refine wpIn_mono hbod ?_
      have hkA2 : KeepS T A (A.putObj (w.heap.size + 1) busy) := ⟨by simp, fun b hb => World.putObj_heap_other (fun e => hn1 (e ▸ hb))⟩
      have fin : ∀ (jump : Option Code) (W3 : World), KeepsOthers (A.putObj (w.heap.size + 1) busy) W3 → KeepS T (A.putObj (w.heap.size + 1) busy) W3 →
          (Instr.endRound (w.heap.size + 1) jump).run P W3 = .ok (.bool jump.isNone) (W3.putObj (w.heap.size + 1) (.loop (rec (if jump.isNone then .ready else .done) jump))) ∧
          W3.heap[w.heap.size + 1]? = some busy ∧
          (W3.putObj (w.heap.size + 1) (.loop (rec (if jump.isNone then .ready else .done) jump))).heap[w.heap.size + 1]? = some (.loop (rec (if jump.isNone then .ready else .done) jump)) ∧
          (W3.putObj (w.heap.size + 1) (.loop (rec (if jump.isNone then .ready else .done) jump))).heap[w.heap.size]? = some (.deferred (some [])) ∧
          KeepS T A (W3.putObj (w.heap.size + 1) (.loop (rec (if jump.isNone then .ready else .done) jump))) := fun jump W3 hk3 hs3 => by
        have hl3 := hk3.same _ _ hl2 (by rw [hbusy]; rfl)
        have hl3' := hl3
        rw [hbusy] at hl3'
        have := run_endRound (P := P) jump hl3'
        rw [hrec] at this ⊢
        exact ⟨this, hl3, World.putObj_heap_same (Array.getElem?_eq_some_iff.1 hl3).1, (World.putObj_heap_other (by omega)).trans (hk3.same _ _ hk2 rfl),
          (hkA2.trans hs3).trans ⟨by simp, fun b hb => World.putObj_heap_other (fun e => hn1 (e ▸ hb))⟩⟩
      have hbc : busy.isCells = false := by rw [hbusy]; rfl
      rintro e a3 W3 hp
      cases e with
      | normal =>
        obtain ⟨hk3, hkp3, hi3⟩ := hp
        obtain ⟨hr, hl3, hl4, hk4, hks⟩ := fin none W3 hk3 hkp3
        exact ⟨_, _, hr, .inl ⟨rfl, ⟨hIo _ _ _ _ _ _ hi3 (by omega) hl3 hbc, hn1, hn2, hl4, hk4⟩, hks⟩⟩
      | ret =>
        obtain ⟨hk3, hkp3, hi3⟩ := hp
        obtain ⟨hr, hl3, hl4, hk4, hks⟩ := fin (some .ret) W3 hk3 hkp3
        exact ⟨_, _, hr, .inr ⟨rfl, ⟨.ret, hIxo _ _ _ _ _ _ _ hi3 (by omega) hl3 hbc, hn1, hn2, hl4, hk4⟩, hks⟩⟩
      | exit id =>
        obtain ⟨hk3, hkp3, hi3⟩ := hp
        obtain ⟨hr, hl3, hl4, hk4, hks⟩ := fin (some (.exit id)) W3 hk3 hkp3
        exact ⟨_, _, hr, .inr ⟨rfl, ⟨.exit id, hIxo _ _ _ _ _ _ _ hi3 (by omega) hl3 hbc, hn1, hn2, hl4, hk4⟩, hks⟩⟩
      | goto t =>
        obtain ⟨hk3, hkp3, hi3⟩ := hp
        obtain ⟨hr, hl3, hl4, hk4, hks⟩ := fin (some (.goto t)) W3 hk3 hkp3
        exact ⟨_, _, hr, .inr ⟨rfl, ⟨.goto t, hIxo _ _ _ _ _ _ _ hi3 (by omega) hl3 hbc, hn1, hn2, hl4, hk4⟩, hks⟩⟩
      | panic ch => exact hp.elim
      | outgrown => exact hp.elim
    · rintro e W2 ⟨⟨v, rfl⟩, (⟨T, xs, hS, hi, _, _, hl, hk⟩ | ⟨T, pre, hSp, c, hi, _, _, hl, hk⟩)⟩
      · exact ⟨none, _, by have := run_endLoop (P := P) hl (by rw [hrec]; simp); rw [hrec] at this; exact this, hdone _ T xs _ (Nat.le_refl _) hS (hIo _ _ _ _ _ _ hi (by omega) hl rfl) ((World.putObj_heap_other (by omega)).trans hk)⟩
      · exact ⟨some c, _, by have := run_endLoop (P := P) hl (by rw [hrec]; simp); rw [hrec] at this; exact this, hstop _ c T pre _ (Nat.le_refl _) hSp (hIxo _ _ _ _ _ _ _ hi (by omega) hl rfl) ((World.putObj_heap_other (by omega)).trans hk)⟩
end Go.Proofs.Ytgcdeablfoomhaa
