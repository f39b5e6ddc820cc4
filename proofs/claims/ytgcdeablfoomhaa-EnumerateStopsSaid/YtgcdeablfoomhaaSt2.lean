/- Lemmas and walks of one claim, packed into one text by a program (wip/shake.py). -/
import Derived.ArgAppend
import Derived.Below
import Derived.BigQuiet
import Derived.Deep.AppendLies
import Derived.Deep.CutBlock
import Derived.Deep.CutRange
import Derived.Deep.DeepCutAuto
import Derived.Deep.Draws
import Derived.Deep.LoopGhost
import Derived.Deep.OwnRows
import Derived.Deep.QuietTactic
import Derived.Deep.RegionHeld3
import Derived.KernelRfl
import Derived.Laws.BitsLemmas
import Derived.Laws.BytesArg
import Derived.Laws.IdiomCopy
import Derived.Laws.MakeOwn
import Derived.Laws.OwnMore
import Derived.Laws.Rows
import Derived.Laws.Slices
import Derived.Lib.AppendStr
import Derived.Lib.ConvBytes
import Derived.Lib.Hide
import Derived.LoopIn
import Derived.LoopNIn
import Derived.Maps.AppendAt
import Derived.Orders
import Derived.OrdersHeld
import Derived.OrdersIn
import Derived.OwnWalk
import Derived.OwnWalkIn
import Derived.RangeFuncBound
import Derived.RangeFuncBox
import Derived.RangeFuncCalls
import Derived.RangeFuncLeaves
import Derived.RangeFuncNested
import Derived.RowKit
import Derived.RowKit3
import Derived.Tactics
import Derived.TacticsInMore
import Derived.WalkKit
import Derived.WideLaws
import Derived.Test.YtgcdeablfoomhaaSt1
section
set_option linter.unusedVariables false
set_option linter.unusedSimpArgs false
namespace Go.Proofs.Ytgcdeablfoomhaa
open Go.RowKit
/-- The blocks in S lie as_ they lay. -/
def KeepS (S : Nat → Prop) (W W' : World) : Prop := W.heap.size ≤ W'.heap.size ∧ ∀ b, S b → W'.heap[b]? = W.heap[b]?
theorem KeepS.refl (S : Nat → Prop) (W : World) : KeepS S W W := ⟨Nat.le_refl _, fun _ _ => rfl⟩
theorem KeepS.trans {S : Nat → Prop} {X Y Z : World} (h : KeepS S X Y) (k : KeepS S Y Z) : KeepS S X Z := ⟨Nat.le_trans h.1 k.1, fun b hb => (k.2 b hb).trans (h.2 b hb)⟩
theorem KeepS.mono {S S' : Nat → Prop} {X Y : World} (h : KeepS S X Y) (hs : ∀ b, S' b → S b) : KeepS S' X Y := ⟨h.1, fun b hb => h.2 b (hs b hb)⟩
/-- A step of the iterator's own: whatever lies outside of T lies as_ it lay. -/
structure StepT (T : Nat → Prop) (A B : World) : Prop where
  os : B.os = A.os
  tape : B.tape = A.tape
  output : B.output = A.output
  size : A.heap.size ≤ B.heap.size
  block : ∀ k, k < A.heap.size → ¬ T k → B.heap[k]? = A.heap[k]?
theorem StepT.refl (T : Nat → Prop) (A : World) : StepT T A A := ⟨rfl, rfl, rfl, Nat.le_refl _, fun _ _ _ => rfl⟩
theorem StepT.of_below {T : Nat → Prop} {A B : World} (h : Below A.heap.size A B) : StepT T A B := ⟨h.os, h.tape, h.output, h.size, fun k hk _ => h.block k hk⟩
theorem StepT.set {T : Nat → Prop} (A : World) (p : Addr) (v : Value) (hp : T p.block) : StepT T A (A.setCell p v) :=
  ⟨rfl, rfl, rfl, by simp, fun k hk hn => Below.heap_setCell A p v k (fun e => hn (e ▸ hp))⟩
/-- T' is T and blocks that are new. -/
def Grows (T T' : Nat → Prop) (A : World) : Prop := (∀ k, T k → T' k) ∧ ∀ k, T' k → T k ∨ A.heap.size ≤ k
theorem Grows.refl (T : Nat → Prop) (A : World) : Grows T T A := ⟨fun _ h => h, fun _ h => .inl h⟩
def Abide {β : Type} (J : (Nat → Prop) → β → World → Prop) : Prop := ∀ T T' s A B, J T s A → StepT T A B → Grows T T' A → J T' s B
/-- The contract of an iterator value: whatever lay when it was made lies there (Below); the caller's invariant J abides its steps; at each yield it hands over x, whose memory (G) is new: from the heap's size at Az on. -/
def SeqT {α β : Type} (P : Program) (g : Nat) (lb : Array Value) (encs : α → β → Array Value) (G : Nat → α → β → World → Prop) (Pp S Sp : List α → Prop) (w : World) : Prop :=
  ∀ (l : Nat) (J Jx : (Nat → Prop) → List α → World → Prop) (W : World), Below w.heap.size w W → Abide J → Abide Jx →
    (∀ T pre x y Az A, Pp (pre ++ [x]) → J T pre Az → (∀ k, T k → k < Az.heap.size) → Below Az.heap.size Az A → G Az.heap.size x y A → YieldAt Fence.wide 0 P l (encs x y) A fun e B =>
      (e = .returned (.bool true) ∧ J T (pre ++ [x]) B ∧ KeepS T A B) ∨ (e = .returned (.bool false) ∧ Jx T (pre ++ [x]) B ∧ KeepS T A B)) →
    J (fun _ => False) [] W →
    Calls P g (#[.func (.yield l) #[] #[]] ++ lb) W fun e W' => (∃ v, e = .returned v) ∧ ((∃ T xs, S xs ∧ J T xs W') ∨ (∃ T pre, Sp pre ∧ Jx T pre W'))
/-- How the body of a round may be left. -/
def postT {α : Type} (T : Nat → Prop) (I : (Nat → Prop) → List α → World → Prop) (Ix : Code → (Nat → Prop) → List α → World → Prop) (xs : List α) (W : World) : Exit → Act → World → Prop
  | .normal, _, W' => KeepsOthers W W' ∧ KeepS T W W' ∧ I T xs W'
  | .ret, _, W' => KeepsOthers W W' ∧ KeepS T W W' ∧ Ix .ret T xs W'
  | .exit id, _, W' => KeepsOthers W W' ∧ KeepS T W W' ∧ Ix (.exit id) T xs W'
  | .goto t, _, W' => KeepsOthers W W' ∧ KeepS T W W' ∧ Ix (.goto t) T xs W'
  | .panic _, _, _ => False
  | .outgrown, _, _ => False
theorem below_putObj {z l : Nat} {A B : World} (o' : Obj) (h : Below z A B) (hl : l < z) (hz : z ≤ A.heap.size) : Below z (A.putObj l o') (B.putObj l o') := by
  refine ⟨h.os, h.tape, h.output, by simp [h.size], fun k hk => ?_⟩
  by_cases e : k = l
  · subst e
    rw [World.putObj_heap_same (by have := h.size; omega), World.putObj_heap_same (by omega)]
  · rw [World.putObj_heap_other e, World.putObj_heap_other e]
    exact h.block k hk
theorem abide_rec {l : Nat} {o : Obj} {A B : World} {T : Nat → Prop} (h : A.heap[l]? = some o) (hn : ¬ T l) (hs : StepT T A B) : B.heap[l]? = some o := (hs.block l (Array.getElem?_eq_some_iff.1 h).1 hn).trans h
theorem not_grown {l : Nat} {o : Obj} {A : World} {T T' : Nat → Prop} (h : A.heap[l]? = some o) (hn : ¬ T l) (hg : Grows T T' A) : ¬ T' l := fun ht => by
  rcases hg.2 l ht with h1 | h1
  · exact hn h1
  · have := (Array.getElem?_eq_some_iff.1 h).1; omega
end Go.Proofs.Ytgcdeablfoomhaa
end
section
set_option linter.unusedVariables false
set_option linter.unusedSimpArgs false
namespace Go.Proofs.Ytgcdeablfoomhaa
open Go.RowKit
/-- THE STATEMENT. -/
theorem wpIn_rangeFunc_A {α β : Type} {P : Program} {n : Nat} {g : Operand} {ps : Array Tmp} {assign body : Code} {Q : Exit → Act → World → Prop} {a : Act} {w : World}
    {gf : Nat} {lb : Array Value} (hg : a.eval g = .func (.func gf) #[] lb) (eg : ∀ args w, (callFunc gf args).run P w = .ok (.enter gf args) w)
    {encs : α → β → Array Value} {G : Nat → α → β → World → Prop} {Pp S Sp : List α → Prop} {w0 : World} (hseq : SeqT P gf lb encs G Pp S Sp w0) (hb0 : Below w0.heap.size w0 w) (hps : ∀ x y, (encs x y).size = ps.size)
    {Ax : Nat → α → β → Act → World → Prop} (hA : ∀ z x y a' A l o o', Ax z x y a' A → l < z → A.heap[l]? = some o → o.isCells = false → Ax z x y a' (A.putObj l o'))
    (I : (Nat → Prop) → List α → World → Prop) (Ix : Code → (Nat → Prop) → List α → World → Prop) (hI : Abide I) (hIx : ∀ c, Abide (Ix c))
    (hIo : ∀ T s A l o o', I T s A → w.heap.size ≤ l → A.heap[l]? = some o → o.isCells = false → I T s (A.putObj l o'))
    (hIxo : ∀ c T s A l o o', Ix c T s A → w.heap.size ≤ l → A.heap[l]? = some o → o.isCells = false → Ix c T s (A.putObj l o'))
    (h0 : I (fun _ => False) [] w)
    (hassign : ∀ (l z : Nat) (x : α) (y : β) (W : World) (K : Act → World → Prop), G z x y W → z ≤ W.heap.size → (∀ a' W', Below W.heap.size W W' → Ax z x y a' W' → K a' W') →
      assign.wpIn (Fence.wide.inRound l) 0 P (Exit.then K (fun _ _ _ => False)) { tmps := (ps.zip (encs x y)).foldl (fun t (p, v) => t.setIfInBounds p v) a.tmps, defers := [] } W)
    (hbody : ∀ (l : Nat) (T : Nat → Prop) (pre : List α) (x : α) (y : β) (a' : Act) (Az W : World), Pp (pre ++ [x]) → I T pre Az → (∀ k, T k → k < Az.heap.size) → Below Az.heap.size Az W → Ax Az.heap.size x y a' W → body.wpIn (Fence.wide.inRound l) 0 P (postT T I Ix (pre ++ [x]) W) a' W)
    (hdone : ∀ (D : Nat) (T : Nat → Prop) (xs : List α) (W : World), w.heap.size ≤ D → S xs → I T xs W → W.heap[D]? = some (.deferred (some [])) → Q .normal { a with defers := { target := .collected D, args := #[] } :: a.defers } W)
    (hstop : ∀ (D : Nat) (c : Code) (T : Nat → Prop) (pre : List α) (W : World), w.heap.size ≤ D → Sp pre → Ix c T pre W → W.heap[D]? = some (.deferred (some [])) → c.wpIn Fence.wide n P Q { a with defers := { target := .collected D, args := #[] } :: a.defers } W) :
    (Code.rangeFunc g ps assign body).wpIn Fence.wide n P Q a w := by
  refine wpIn_rangeFunc ?_
  intro fn hfn
  rw [show Fence.wide.round = none from rfl]
  obtain ⟨rec, hrec⟩ : ∃ rec : LoopState → Option Code → Loop, rec = fun st pe => { state := st, pending := pe, fn, tmps := a.tmps, params := ps, assign, body, defers := w.heap.size } := ⟨_, rfl⟩
  obtain ⟨W1, hW1⟩ : ∃ W1, (w.alloc (.deferred (some []))).alloc (.loop (rec .ready none)) = W1 := ⟨_, rfl⟩
  have hL1 : W1.heap[w.heap.size + 1]? = some (.loop (rec .ready none)) := by
    rw [← hW1]; have := World.alloc_heap_new (w.alloc (.deferred (some []))) (.loop (rec .ready none)); rwa [World.size_alloc] at this
  have hK1 : W1.heap[w.heap.size]? = some (.deferred (some [])) := by
    rw [← hW1]; exact (Below.heap_alloc _ _ _ (by simp)).trans (World.alloc_heap_new w _)
  have hBw1 : Below w.heap.size w W1 := by rw [← hW1]; exact ((Below.refl _ w).alloc (Nat.le_refl _) _).alloc (by simp) _
  have hI1 : I (fun _ => False) [] W1 := hI _ _ _ _ _ h0 (.of_below hBw1) (Grows.refl _ _)
  have hb1 : Below w0.heap.size w0 W1 := hb0.trans (hBw1.mono hb0.size)
  refine ⟨w.heap.size + 1, [{ target := .collected w.heap.size, args := #[] }], W1, { target := .fn (.func gf) lb, args := #[.func (.yield (w.heap.size + 1)) #[] #[]] }, W1, gf,
    #[.func (.yield (w.heap.size + 1)) #[] #[]] ++ lb, W1, ?_, ?_, ?_, ?_, fun hd => by simp [Fence.wide] at hd, ?_⟩
  · rw [← hW1, hrec]; exact run_enterLoop_outer _ _ _ _ _
  · simp only [resolve, hg]
    simp [go_sem]
  · intro f' hf'; exact trivial
  · simp [invoke, go_sem, eg]
  · refine callsIn_wide.2 ((hseq (w.heap.size + 1)
      (fun T pre W => I T pre W ∧ ¬ T (w.heap.size + 1) ∧ ¬ T w.heap.size ∧ W.heap[w.heap.size + 1]? = some (.loop (rec .ready none)) ∧ W.heap[w.heap.size]? = some (.deferred (some [])))
      (fun T pre W => ∃ c, Ix c T pre W ∧ ¬ T (w.heap.size + 1) ∧ ¬ T w.heap.size ∧ W.heap[w.heap.size + 1]? = some (.loop (rec .done (some c))) ∧ W.heap[w.heap.size]? = some (.deferred (some [])))
      W1 hb1
      (fun T T' s A B hs hst hgr => ⟨hI T T' s A B hs.1 hst hgr, not_grown hs.2.2.2.1 hs.2.1 hgr, not_grown hs.2.2.2.2 hs.2.2.1 hgr, abide_rec hs.2.2.2.1 hs.2.1 hst, abide_rec hs.2.2.2.2 hs.2.2.1 hst⟩)
      (fun T T' s A B hs hst hgr => by
        obtain ⟨c, hc, h1, h2, h3, h4⟩ := hs
        exact ⟨c, hIx c T T' s A B hc hst hgr, not_grown h3 h1 hgr, not_grown h4 h2 hgr, abide_rec h3 h1 hst, abide_rec h4 h2 hst⟩)
      ?_ ⟨hI1, not_false, not_false, hL1, hK1⟩).mono ?_)
    · rintro T pre x y Az A hpx ⟨hi, hn1, hn2, hl, hk⟩ hTz hbz hgx
      have hltz : w.heap.size + 1 < Az.heap.size := (Array.getElem?_eq_some_iff.1 hl).1
      have hlA : A.heap[w.heap.size + 1]? = some (.loop (rec .ready none)) := (hbz.block _ hltz).trans hl
      have hkA : A.heap[w.heap.size]? = some (.deferred (some [])) := (hbz.block _ (by omega)).trans hk
      have hlt : w.heap.size + 1 < A.heap.size := (Array.getElem?_eq_some_iff.1 hlA).1
      have hy := run_yield (P := P) (args := encs x y) hlA (by rw [hrec]; exact hps x y)
      rw [hrec] at hy
      refine ⟨fn, _, assign, body, hy, roundIn_of_wpIn hfn (hassign _ _ x y A _ hgx hbz.size (fun a' A1 hb1 hax => ⟨_, run_beginRound ((hb1.block _ hlt).trans hlA) (by rw [hrec]), ?_⟩))⟩
      have hlA1 : A1.heap[w.heap.size + 1]? = some (.loop (rec .ready none)) := (hb1.block _ hlt).trans hlA
      have hkA1 : A1.heap[w.heap.size]? = some (.deferred (some [])) := (hb1.block _ (by omega)).trans hkA
      have hlt1 : w.heap.size + 1 < A1.heap.size := (Array.getElem?_eq_some_iff.1 hlA1).1
      have hbz1 : Below Az.heap.size Az A1 := hbz.trans (hb1.mono hbz.size)
      obtain ⟨busy, hbusy⟩ : ∃ busy : Obj, busy = .loop { rec .ready none with state := .busy } := ⟨_, rfl⟩
      rw [← hbusy]
      have hl2 : (A1.putObj (w.heap.size + 1) busy).heap[w.heap.size + 1]? = some busy := World.putObj_heap_same hlt1
      have hk2 : (A1.putObj (w.heap.size + 1) busy).heap[w.heap.size]? = some (.deferred (some [])) := (World.putObj_heap_other (by omega)).trans hkA1
      have hbod := hbody (w.heap.size + 1) T pre x y a' (Az.putObj (w.heap.size + 1) busy) (A1.putObj (w.heap.size + 1) busy) hpx (hIo _ _ _ _ _ _ hi (by omega) hl rfl) (fun k hk => by simpa using hTz k hk)
        (by rw [World.putObj_size]; exact below_putObj busy hbz1 hltz (Nat.le_refl _)) (by rw [World.putObj_size]; exact hA _ _ _ _ _ _ _ _ hax hltz hlA1 rfl)
      refine wpIn_mono hbod ?_
      have hkA2 : KeepS T A (A1.putObj (w.heap.size + 1) busy) := ⟨by simpa using hb1.size, fun b hb => (World.putObj_heap_other (w := A1) (k := b) (fun e => hn1 (by rw [← e]; exact hb))).trans (hb1.block b (Nat.lt_of_lt_of_le (hTz b hb) hbz.size))⟩
      have fin : ∀ (jump : Option Code) (W3 : World), KeepsOthers (A1.putObj (w.heap.size + 1) busy) W3 → KeepS T (A1.putObj (w.heap.size + 1) busy) W3 →
          (Instr.endRound (w.heap.size + 1) jump).run P W3 = .ok (.bool jump.isNone) (W3.putObj (w.heap.size + 1) (.loop (rec (if jump.isNone then .ready else .done) jump))) ∧
          W3.heap[w.heap.size + 1]? = some busy ∧
          (W3.putObj (w.heap.size + 1) (.loop (rec (if jump.isNone then .ready else .done) jump))).heap[w.heap.size + 1]? = some (.loop (rec (if jump.isNone then .ready else .done) jump)) ∧
          (W3.putObj (w.heap.size + 1) (.loop (rec (if jump.isNone then .ready else .done) jump))).heap[w.heap.size]? = some (.deferred (some [])) ∧
          KeepS T A (W3.putObj (w.heap.size + 1) (.loop (rec (if jump.isNone then .ready else .done) jump))) := fun jump W3 hk3 hs3 => by
        have hl3 := hk3.same _ _ hl2 (by rw [hbusy]; rfl)
        have hl3' := hl3
        rw [hbusy] at hl3'
        have := run_endRound (P := P) jump hl3'
        rw [hrec] at this ⊢
        exact ⟨this, hl3, World.putObj_heap_same (Array.getElem?_eq_some_iff.1 hl3).1, (World.putObj_heap_other (by omega)).trans (hk3.same _ _ hk2 rfl),
          (hkA2.trans hs3).trans ⟨by simp, fun b hb => World.putObj_heap_other (fun e => hn1 (e ▸ hb))⟩⟩
      have hbc : busy.isCells = false := by rw [hbusy]; rfl
      rintro e a3 W3 hp
      cases e with
      | normal =>
        obtain ⟨hk3, hkp3, hi3⟩ := hp
        obtain ⟨hr, hl3, hl4, hk4, hks⟩ := fin none W3 hk3 hkp3
        exact ⟨_, _, hr, .inl ⟨rfl, ⟨hIo _ _ _ _ _ _ hi3 (by omega) hl3 hbc, hn1, hn2, hl4, hk4⟩, hks⟩⟩
      | ret =>
        obtain ⟨hk3, hkp3, hi3⟩ := hp
        obtain ⟨hr, hl3, hl4, hk4, hks⟩ := fin (some .ret) W3 hk3 hkp3
        exact ⟨_, _, hr, .inr ⟨rfl, ⟨.ret, hIxo _ _ _ _ _ _ _ hi3 (by omega) hl3 hbc, hn1, hn2, hl4, hk4⟩, hks⟩⟩
      | exit id =>
        obtain ⟨hk3, hkp3, hi3⟩ := hp
        obtain ⟨hr, hl3, hl4, hk4, hks⟩ := fin (some (.exit id)) W3 hk3 hkp3
        exact ⟨_, _, hr, .inr ⟨rfl, ⟨.exit id, hIxo _ _ _ _ _ _ _ hi3 (by omega) hl3 hbc, hn1, hn2, hl4, hk4⟩, hks⟩⟩
      | goto t =>
        obtain ⟨hk3, hkp3, hi3⟩ := hp
        obtain ⟨hr, hl3, hl4, hk4, hks⟩ := fin (some (.goto t)) W3 hk3 hkp3
        exact ⟨_, _, hr, .inr ⟨rfl, ⟨.goto t, hIxo _ _ _ _ _ _ _ hi3 (by omega) hl3 hbc, hn1, hn2, hl4, hk4⟩, hks⟩⟩
      | panic ch => exact hp.elim
      | outgrown => exact hp.elim
    · rintro e W2 ⟨⟨v, rfl⟩, (⟨T, xs, hS, hi, _, _, hl, hk⟩ | ⟨T, pre, hSp, c, hi, _, _, hl, hk⟩)⟩
      · exact ⟨none, _, by have := run_endLoop (P := P) hl (by rw [hrec]; simp); rw [hrec] at this; exact this, hdone _ T xs _ (Nat.le_refl _) hS (hIo _ _ _ _ _ _ hi (by omega) hl rfl) ((World.putObj_heap_other (by omega)).trans hk)⟩
      · exact ⟨some c, _, by have := run_endLoop (P := P) hl (by rw [hrec]; simp); rw [hrec] at this; exact this, hstop _ c T pre _ (Nat.le_refl _) hSp (hIxo _ _ _ _ _ _ _ hi (by omega) hl rfl) ((World.putObj_heap_other (by omega)).trans hk)⟩
end Go.Proofs.Ytgcdeablfoomhaa
end
section
namespace Go.Proofs.Ytgcdeablfoomhaa.PAll
open Go.RowKit Go.Proofs.YtgcdeablfoomhaaW.PrintWords Go.Proofs.YtgcdeablfoomhaaW.PrintLast Go.Proofs.YtgcdeablfoomhaaW.PrintMore
attribute [local go_sem] max2_int min2_int max_two min_two max_three min_three max_four min_four   -- for this text's walks alone
set_option linter.unusedVariables false
set_option linter.unusedSimpArgs false
def errW : Option Int → Value
  | none => .nilIface
  | some c => .iface 0 (.int .i64 c)
theorem errW_none : errW none = .nilIface := rfl
theorem errW_some (c : Int) : errW (some c) = .iface 0 (.int .i64 c) := rfl
theorem info3 : (Try.prog.info? 3).map (fun i => (i.zero, i.size, i.bytes)) = some (some (.int .i64 0), 1, 8) := by kernel_rfl
theorem info33 : (Try.prog.info? 33).map (fun i => (i.zero, i.size, i.bytes)) = some (some (.slice none 0 0), 1, 24) := by kernel_rfl
structure S48 where
  f0 : ByteArray
  f1 : Int
  f2 : Int
def z48 : S48 := ⟨(⟨#[]⟩ : ByteArray), (0 : Int), (0 : Int)⟩
def k48 : Kd S48 := Kd.iso (Kd.pair Kd.string (Kd.pair (Kd.int .u8) (Kd.int .i64))) (fun x : S48 => (x.f0, x.f1, x.f2))
theorem k48_open {w : World} {x : S48} {cs : List Value} (h : k48.K w x cs) : cs = [.string x.f0, .int .u8 x.f1, .int .i64 x.f2] := by
  obtain ⟨_, _, rfl, rfl, ⟨_, _, rfl, rfl, rfl⟩⟩ := h
  exact rfl
theorem k48_mk (w : World) (x : S48)  : k48.K w x [.string x.f0, .int .u8 x.f1, .int .i64 x.f2] := ⟨[.string x.f0], [.int .u8 x.f1, .int .i64 x.f2], rfl, rfl, ⟨[.int .u8 x.f1], [.int .i64 x.f2], rfl, rfl, rfl⟩⟩
def rd_T48 (xs : List S48) (i : Int) : S48 := xs.getD i.toNat z48
theorem at_T48 {w : World} {A : Option Addr} {n : Nat} {xs : List S48} (h : Kd.C k48 w A n xs) (i : Int) (h0 : 0 ≤ i) (h1 : i < n) : ∃ ad , A = some ad ∧ w.cell? (ad.add (i.toNat * 3)) = some (.string (rd_T48 xs i).f0) ∧ w.cell? ⟨(ad.add (i.toNat * 3)).block, (ad.add (i.toNat * 3)).off + 1, none⟩ = some (.int .u8 (rd_T48 xs i).f1) ∧ w.cell? ⟨(ad.add (i.toNat * 3)).block, (ad.add (i.toNat * 3)).off + 2, none⟩ = some (.int .i64 (rd_T48 xs i).f2) := by
  obtain ⟨ad, c, e, _, hK, hc0⟩ := Kd.C_get h z48 i h0 h1
  have hc : ∀ j u, c[j]? = some u → w.cell? (ad.add (i.toNat * 3 + j)) = some u := hc0
  obtain rfl := k48_open hK
  exact ⟨ad, e, hc 0 _ rfl, by rw [← add_field _ _ 1 (by omega)]; exact hc 1 _ rfl, by rw [← add_field _ _ 2 (by omega)]; exact hc 2 _ rfl⟩
def rd_L4 (xs : List (List Int)) (i : Int) : (List Int) := xs.getD i.toNat ([] : List Int)
theorem at_L4 {w : World} {A : Option Addr} {n : Nat} {xs : List (List Int)} (h : Kd.C (Kd.slice 3 (Kd.int .i64)) w A n xs) (i : Int) (h0 : 0 ≤ i) (h1 : i < n) : ∃ ad A0 c0, A = some ad ∧ w.cell? (ad.add i.toNat) = some (.slice A0 (rd_L4 xs i).length c0) ∧ (rd_L4 xs i).length ≤ c0 ∧ (Kd.int .i64).C w A0 (rd_L4 xs i).length (rd_L4 xs i) := by
  obtain ⟨ad, c, e, _, hK, hc0⟩ := Kd.C_get h ([] : List Int) i h0 h1
  have hc : ∀ j u, c[j]? = some u → w.cell? (ad.add (i.toNat * 1 + j)) = some u := hc0
  obtain ⟨A0, c0, rfl, l0, g0⟩ := hK
  exact ⟨ad, A0, c0, e, by have hq := hc 0 _ rfl; rwa [Nat.mul_one, Nat.add_zero] at hq, l0, g0⟩
end Go.Proofs.Ytgcdeablfoomhaa.PAll
end
section
set_option linter.unusedVariables false
set_option linter.unusedSimpArgs false
namespace Go.Proofs.Ytgcdeablfoomhaa.PAll
open Go.RowKit Go.Proofs.YtgcdeablfoomhaaW.PrintWords Go.Proofs.YtgcdeablfoomhaaW.PrintLast Go.Proofs.YtgcdeablfoomhaaW.PrintMore
theorem wrap64_of' {n : Int} (h : -9223372036854775808 ≤ n) (h2 : n < 9223372036854775808) : wrap64 n = n := by
  unfold wrap64; omega
abbrev nil3 : Value := .slice none 0 0
/-- A box that holds a state. -/
def BoxA (W : World) (B : Nat) (s0 s1 s2 : Value) : Prop := W.heap[B]? = some (.cells #[s0, s1, s2] 35 (0, 0))
section
variable {W W' : World} {B b : Nat} {s0 s1 s2 : Value}
theorem BoxA.c0 (h : BoxA W B s0 s1 s2) : W.cell? ⟨B, 0, none⟩ = some s0 := by simp [World.cell?, show W.heap[B]? = _ from h]
theorem BoxA.c1 (h : BoxA W B s0 s1 s2) : W.cell? ⟨B, 1, none⟩ = some s1 := by simp [World.cell?, show W.heap[B]? = _ from h]
theorem BoxA.c2 (h : BoxA W B s0 s1 s2) : W.cell? ⟨B, 2, none⟩ = some s2 := by simp [World.cell?, show W.heap[B]? = _ from h]
theorem BoxA.f0 (h : BoxA W B s0 s1 s2) : W.frozen? ⟨B, 0, none⟩ = false := by simp [World.frozen?, show W.heap[B]? = _ from h]
theorem BoxA.f1 (h : BoxA W B s0 s1 s2) : W.frozen? ⟨B, 1, none⟩ = false := by simp [World.frozen?, show W.heap[B]? = _ from h]
theorem BoxA.f2 (h : BoxA W B s0 s1 s2) : W.frozen? ⟨B, 2, none⟩ = false := by simp [World.frozen?, show W.heap[B]? = _ from h]
theorem BoxA.lt (h : BoxA W B s0 s1 s2) : B < W.heap.size := (Array.getElem?_eq_some_iff.1 h).1
theorem BoxA.below (h : BoxA W B s0 s1 s2) (hb : Below b W W') (hB : B < b) : BoxA W' B s0 s1 s2 := (hb.block B hB).trans h
theorem BoxA.alloc (h : BoxA W B s0 s1 s2) (o : Obj) : BoxA (W.alloc o) B s0 s1 s2 := h.below (b := B + 1) ((Below.refl _ W).alloc (by have := h.lt; omega) o) (by omega)
theorem BoxA.new (W : World) (s0 s1 s2 : Value) : BoxA (W.alloc (.cells #[s0, s1, s2] 35)) W.heap.size s0 s1 s2 := World.alloc_heap_new W _
theorem BoxA.set0 (h : BoxA W B s0 s1 s2) (u : Value) : BoxA (W.setCell ⟨B, 0, none⟩ u) B u s1 s2 := heap_setCell_same W B 0 _ 35 u h
theorem BoxA.set1 (h : BoxA W B s0 s1 s2) (u : Value) : BoxA (W.setCell ⟨B, 1, none⟩ u) B s0 u s2 := heap_setCell_same W B 1 _ 35 u h
theorem BoxA.set2 (h : BoxA W B s0 s1 s2) (u : Value) : BoxA (W.setCell ⟨B, 2, none⟩ u) B s0 s1 u := heap_setCell_same W B 2 _ 35 u h
theorem BoxA.far (h : BoxA W B s0 s1 s2) {p : Addr} (hp : B ≠ p.block) (u : Value) : BoxA (W.setCell p u) B s0 s1 s2 := (heap_setCell_other W p B u hp).trans h
theorem BoxA.kept {ob : Option Nat} (h : BoxA W B s0 s1 s2) (hg : W.grownBy W' ob) (hne : some B ≠ ob) : BoxA W' B s0 s1 s2 := (hg.block B h.lt hne).trans h
theorem boxA_ne {α : Type} {d : Kd α} {e : Nat} {base : Nat} {ok : Nat → Prop} {v : Value} {xs : List α} (h : d.R e W base ok v xs) (hb : BoxA W B s0 s1 s2) (hte : (35 : Nat) ≠ e) : some B ≠ v.ownBlock := by
  intro he
  obtain ⟨inner, ho⟩ := Kd.R_own h
  obtain ⟨cells, hc⟩ := own_typed ho B he.symm
  rw [show W.heap[B]? = _ from hb] at hc
  injection hc with hc
  injection hc with _ h2
  exact hte h2
theorem R_setA {base : Nat} {ok : Nat → Prop} {v u : Value} {j : Nat} {xs : List (List Int)} (h : Kd.R (Kd.slice 3 (Kd.int .i64)) 33 W base ok v xs) (hbx : BoxA W B s0 s1 s2) : Kd.R (Kd.slice 3 (Kd.int .i64)) 33 (W.setCell ⟨B, j, none⟩ u) base ok v xs :=
  Kd.R_set h hbx (by decide) j u
theorem R_setI {base : Nat} {ok : Nat → Prop} {v u : Value} {j : Nat} {xs : List Int} (h : Kd.R (Kd.int .i64) 3 W base ok v xs) (hbx : BoxA W B s0 s1 s2) : Kd.R (Kd.int .i64) 3 (W.setCell ⟨B, j, none⟩ u) base ok v xs :=
  Kd.R_set h hbx (by decide) j u
end
section
variable {P : Program} {ops : Array Oper} {o : Oper} {a : Act} {Q : Exit → Act → World → Prop} {Kc : Act → World → Prop} {α : Type}
/-- A store of a whole one-cell element of a row of one's own, in a region that draws its order. -/
theorem R_store_step (d : Kd α) {W : World} (base : Nat) (hw : Region.wanted o (yielded ops a.tmps) = true) (hN : o.dst = none) (t : TypeId) (p x : Operand) (ho : o.op = .store t p x) (e : TypeId) {g n cap : Nat} (i : Int) (xs : List α) (x' : α) (u : Value) (ok okp : Nat → Prop)
    (haddr : a.eval p = .pointer (some ⟨g, i.toNat, none⟩)) (hx : a.eval x = u) (hu : u.cells.toList = [u]) (ht : (P.info? t).map (·.size) = some 1) (h1 : u.oneCell' = true) (hsz : d.sz = 1)
    (HO : d.R e W base ok (.slice (some ⟨g, 0, none⟩) n cap) xs) (h0 : 0 ≤ i) (hi : i < n) {c : List Value} (hcl : c.length = d.sz) (hcc : ∀ j u, c[j]? = some u → W.cell? ⟨g, i.toNat * d.sz + j, none⟩ = some u)
    (hM : d.M W base okp x' [u]) (hokp : ∀ k, okp k → ok k ∧ k ≠ g)
    (h : ∀ w1, w1 = W.setCell ⟨g, i.toNat, none⟩ u → d.R e w1 base ok (.slice (some ⟨g, 0, none⟩) n cap) (xs.set i.toNat x') → W.grownBy w1 (some g) → Kc a w1) :
    if Region.wanted o (yielded ops a.tmps) = true then Oper.wp P o a W Kc Q else Kc (a.put none undef) W := by
  have hoff : i.toNat * d.sz + 0 = i.toNat := by rw [hsz]; omega
  have hsg : W.setCells g (i.toNat * d.sz + 0) [u] = W.setCell ⟨g, i.toNat, none⟩ u := by rw [hoff]; rfl
  obtain ⟨hrow, hg⟩ := Kd.R_seg (j := 0) (seg := [u]) (x' := x') HO i h0 hi hcl hcc (by rw [hsz]; simp) (by
    have : c.take 0 ++ [u] ++ c.drop (0 + [u].length) = [u] := by
      rw [hsz] at hcl
      match c, hcl with
      | [y], _ => rfl
    rw [this]; exact hM) hokp
  rw [hsg] at hrow hg
  have hnx : n = xs.length := (Kd.R_reads' HO).1
  obtain ⟨_, inner, hown, hr⟩ := HO
  have hil : i.toNat < n := by omega
  have hrun : (Instr.storeAt t (.pointer (some ⟨g, i.toNat, none⟩)) u).run P W = .ok () (W.setCell ⟨g, i.toNat, none⟩ u) := by
    rcases hown.2 with ⟨hv, _⟩ | ⟨g', cap', cur, hv, hb, hh, hnc, hcm, hcs, _⟩
    · cases hv
    injection hv with ha _ hc
    injection ha with ha
    injection ha with hg'
    subst hg'; subst hc
    exact run_store_run t u [u] hh hu ht (by rw [hcs, hsz]; simp; omega) (by simpa using h1)
  refine skip_ hw hN (w1 := W.setCell ⟨g, i.toNat, none⟩ u) ?_ (h _ rfl hrow hg)
  simp only [execOp, ho, haddr, hx, Sem.run_bind, Sem.run_pure, Result.andThen_ok, hrun]
end
end Go.Proofs.Ytgcdeablfoomhaa.PAll
end
section
set_option linter.unusedVariables false
set_option linter.unusedSimpArgs false
namespace Go.Proofs.Ytgcdeablfoomhaa.PAll
open Go.RowKit Go.Proofs.YtgcdeablfoomhaaW.PrintWords Go.Proofs.YtgcdeablfoomhaaW.PrintLast Go.Proofs.YtgcdeablfoomhaaW.PrintMore
attribute [local go_sem] max2_int min2_int max_two min_two max_three min_three max_four min_four
theorem tab49_7 : rtab .any (opsOf Try.f49 7) = (true, [([], []), ([0], [0]), ([], []), ([], []), ([], []), ([4], [4]), ([5], [5]), ([6], [6]), ([], []), ([7, 8], [7, 8]), ([9], [9]), ([3, 10], [3, 10]), ([1, 2, 0, 1, 2, 3, 4, 5, 6, 7, 8, 9, 10, 11], [1, 2]), ([12, 11, 11, 0, 1, 2, 3, 4, 5, 6, 7, 8, 9, 10, 11], [11, 12])]) := by kernel_rfl
theorem bits49_7 : waitsOk (true, [([], []), ([0], [0]), ([], []), ([], []), ([], []), ([4], [4]), ([5], [5]), ([6], [6]), ([], []), ([7, 8], [7, 8]), ([9], [9]), ([3, 10], [3, 10]), ([1, 2, 0, 1, 2, 3, 4, 5, 6, 7, 8, 9, 10, 11], [1, 2]), ([12, 11, 11, 0, 1, 2, 3, 4, 5, 6, 7, 8, 9, 10, 11], [11, 12])]).2 [0, 1, 0, 0, 0, 16, 48, 112, 0, 496, 1008, 2040, 4095, 8191] = true := by decide +kernel
theorem rd_L4_init {cs : List (List Int)} {inp : List Int} {j : Nat} (h : j < cs.length) : rd_L4 (cs ++ [inp]) (j : Int) = cs[j] := by
  unfold rd_L4; simp [List.getD_eq_getElem?_getD, List.getElem?_append_left h, h]
theorem rd_L4_last {cs : List (List Int)} {inp : List Int} : rd_L4 (cs ++ [inp]) (cs.length : Int) = inp := by
  unfold rd_L4; simp
theorem take_put {cs : List (List Int)} {inp : List Int} {j : Nat} (h : j < cs.length) : (cs.take j ++ List.replicate (cs.length - j) []).set j (rd_L4 (cs ++ [inp]) (j : Int)) = cs.take (j + 1) ++ List.replicate (cs.length - (j + 1)) [] := by
  rw [rd_L4_init h]
  obtain ⟨q, hq⟩ : ∃ q, cs.length - j = q + 1 := ⟨cs.length - j - 1, by omega⟩
  have hq2 : cs.length - (j + 1) = q := by omega
  rw [hq, hq2, List.replicate_succ, List.take_succ_eq_append_getElem h, List.set_append_right _ _ (by simp; omega), List.length_take, Nat.min_eq_left (Nat.le_of_lt h), Nat.sub_self]
  simp only [List.set_cons_zero, List.append_assoc, List.singleton_append]
theorem rd_L4_le {xs : List (List Int)} (h : ∀ r ∈ xs, r.length ≤ 5000) (i : Int) : (rd_L4 xs i).length ≤ 5000 := by
  unfold rd_L4
  rw [List.getD_eq_getElem?_getD]
  cases he : xs[i.toNat]? with
  | none => simp
  | some r => exact h r (List.mem_of_getElem? he)
theorem R_form' {α : Type} {d : Kd α} {e : Nat} {W : World} {base : Nat} {ok : Nat → Prop} {v : Value} {xs : List α} (h : d.R e W base ok v xs) (hb : ∃ b, v.ownBlock = some b ∧ W.heap.size ≤ b + 1 ∨ v.ownBlock = some b) : ∃ g cap, v = .slice (some ⟨g, 0, none⟩) xs.length cap ∧ base ≤ g := by
  obtain ⟨b, hb⟩ := hb
  have hb : v.ownBlock = some b := by rcases hb with h1 | h1 <;> first | exact h1.1 | exact h1
  obtain ⟨_, inner, ho, hr⟩ := h
  rcases ho.2 with ⟨rfl, _⟩ | ⟨g, cap, cur, rfl, hg, _⟩
  · simp [Value.ownBlock] at hb
  · exact ⟨g, cap, rfl, hg⟩
/-- What search.state hands back. -/
def StPost (w : World) (cs : List (List Int)) (inp : List Int) (e : Ending) (w' : World) : Prop :=
  ∃ v0 v1 : Value, e = .returned (.agg #[v0, v1, nil3]) ∧ Kd.R (Kd.slice 3 (Kd.int .i64)) 33 w' w.heap.size (fun _ => True) v0 cs ∧ Kd.R (Kd.int .i64) 3 w' w.heap.size (fun _ => True) v1 inp ∧ Below w.heap.size w w'
set_option maxRecDepth 100000 in
set_option maxHeartbeats 8000000 in
theorem sea_state (cs : List (List Int)) (inp : List Int) (B : Nat) (AL : Option Addr) (cL : Nat) (w : World) (hf : w.cell? ⟨B, 4, none⟩ = some (.slice AL (cs.length + 1) cL)) (hr : Kd.C (Kd.slice 3 (Kd.int .i64)) w AL (cs.length + 1) (cs ++ [inp]))
    (hn : cs.length ≤ 1000) (hl : ∀ r ∈ cs ++ [inp], r.length ≤ 5000) :
    Calls Try.prog 49 #[.pointer (some ⟨B, 0, none⟩)] w fun e w' => StPost w cs inp e w' := by
  obtain ⟨M0, hM0⟩ : ∃ M0, M0 = w.heap.size := ⟨_, rfl⟩
  have hBlt : B < w.heap.size := World.block_lt_of_cell? w _ hf
  have hw1n : wrap64 (((cs.length + 1 : Nat) : Int) - 1) = (cs.length : Int) := by rw [wrap64_of' (by omega) (by omega)]; omega
  have hw1n' : wrap64 ((cs.length : Int) + 1 - 1) = (cs.length : Int) := by rw [wrap64_of' (by omega) (by omega)]; omega
  have HF := Lib.hid hf
  have HR := Lib.hid hr
  have HRL := Lib.hid (rd_L4_le hl)
  clear hf hr hl
  go_enter Try.func49, Try.ntmps49
  go_upto_region 2 with (fail)
  obtain ⟨w1, hw1⟩ : ∃ w1, w1 = (w.alloc (.cells #[nil3, nil3, nil3] 35)).alloc (.cells #[nil3, nil3, nil3] 35) := ⟨_, rfl⟩
  rw [← hw1]
  have hz1 : BoxA w1 w.heap.size nil3 nil3 nil3 := by rw [hw1]; exact (BoxA.new w _ _ _).alloc _
  obtain ⟨Qb, hQb⟩ : ∃ Qb, Qb = w.heap.size + 1 := ⟨_, rfl⟩
  rw [← hQb]
  have hq1 : BoxA w1 Qb nil3 nil3 nil3 := by
    rw [hw1, hQb]
    have := BoxA.new (w.alloc (.cells #[nil3, nil3, nil3] 35)) nil3 nil3 nil3
    rwa [World.size_alloc] at this
  have hb1 : Below w.heap.size w w1 := by rw [hw1]; exact below_alloc (below_alloc (Below.refl _ _) _) _
  have hf1 := (hb1.cell (p := ⟨B, 4, none⟩) hBlt).trans HF.out
  have hcQ := hq1.c0
  have hfQ := hq1.f0
  have hBQ : (B = Qb) = False := eq_false (by omega)
  have hBQ' : B ≠ Qb := by omega
  have HQB := Lib.hid hQb
  have HM0 := Lib.hid hM0
  clear hQb hM0
  have HZ := Lib.hid hz1
  have HQ := Lib.hid hq1
  have HB := Lib.hid hb1
  clear hz1 hq1 hb1 hw1
  go_upto_region 3 with (fail)
  go_wp2_with ((with_reducible refine gate_dst (N := 13) rfl ?_); refine Kd.R_make (Kd.slice 3 (Kd.int .i64)) (w0 := w1) w1.heap.size 33 rfl (N := 13) rfl 32 _ _ rfl (cs.length : Int) rfl rfl Try.underlying32 (.slice none 0 0) 24 info33 rfl (by decide) (by omega) ([] : List Int) (ok := fun _ => True) (okp := fun _ => True) ⟨nil3, rfl, Kd.R_nil _ _ _ _ _⟩ (fun _ hk => hk) trivial (by omega) (by simp; omega) (Below.refl _ _) (Nat.le_refl _) ?_; intro v3 w3 ho3 hb3 hg3 hnew3; have hz3 := HZ.out.below hb3 HZ.out.lt; have hq3 := HQ.out.below hb3 HQ.out.lt; have hcq3 := hq3.c0; have hfq3 := hq3.f0; have hbw3 := HB.out.trans (hb3.mono HB.out.size); obtain ⟨G, cG, ev3, hGm⟩ := R_form' ho3 (by obtain ⟨b_, h1_, _⟩ := hnew3; exact ⟨b_, .inr h1_⟩); subst ev3)
  have hrg : Kd.R (Kd.slice 3 (Kd.int .i64)) 33 w3 M0 (fun _ => True) (.slice (some ⟨G, 0, none⟩) cs.length cG) (List.replicate cs.length []) := by
    have := Kd.R_lower ho3 (base' := M0) (by rw [HM0.out]; exact HB.out.size)
    simpa using this
  simp only [Int.toNat_natCast, List.length_replicate] at hnew3 ⊢
  have hGM : M0 ≤ G := by rw [HM0.out]; have := HB.out.size; omega
  clear ho3 hnew3 hg3 hcQ hfQ hf1 hcq3 hfq3 hGm
  have HGM := Lib.hid hGM
  have HRG0 := Lib.hid hrg
  have HZ3 := Lib.hid hz3
  have HQ3 := Lib.hid hq3
  have HB3 := Lib.hid hbw3
  clear hGM hrg hz3 hq3 hbw3 hb3 HZ HQ HB
  go_loopg [18] cs.length (fun kq v18 wr => ∃ (j : Nat), kq + j = cs.length ∧ v18 = .int .i64 j ∧ Aside0 (Kd.R (Kd.slice 3 (Kd.int .i64)) 33 wr M0 (fun _ => True) (.slice (some ⟨G, 0, none⟩) cs.length cG) (cs.take j ++ List.replicate (cs.length - j) [])) ∧
      Aside0 (BoxA wr Qb (.slice (some ⟨G, 0, none⟩) cs.length cG) nil3 nil3) ∧ Aside0 (BoxA wr w.heap.size nil3 nil3 nil3) ∧ Aside0 (Below w.heap.size w wr))
  case atStart => exact ⟨0, rfl, rfl, ⟨R_setA (j := 0) (u := .slice (some ⟨G, 0, none⟩) cs.length cG) HRG0.out HQ3.out⟩, ⟨HQ3.out.set0 (.slice (some ⟨G, 0, none⟩) cs.length cG)⟩, ⟨HZ3.out.far (by show w.heap.size ≠ Qb; rw [HQB.out]; omega) _⟩, ⟨HB3.out.setCell (p := ⟨Qb, 0, none⟩) (by show w.heap.size ≤ Qb; rw [HQB.out]; omega) _⟩⟩
  case round =>
    clear HRG0 HZ3 HQ3 HB3
    obtain ⟨j, hjk, rfl, HRG, HBQ, HBZ, HB⟩ := hrel
    have hf1 := (HB.out.cell (p := ⟨B, 4, none⟩) hBlt).trans HF.out
    have HBL := Lib.hid hBlt
    clear hBlt
    by_cases hj : j < cs.length
    · have hi1 : decide ((j : Int) < (cs.length : Int)) = true := decide_eq_true (by omega)
      have hid : decide (j < cs.length) = true := decide_eq_true hj
      obtain ⟨ad, Ai, ci, hA, hxc, hxl, hxr⟩ := at_L4 (Kd.C_below HR.out HB.out) (j : Int) (by omega) (by omega)
      subst hA
      simp only [Int.toNat_natCast] at hxc
      have HXL := Lib.hid hxl
      have HRJ0 := Lib.hid hxr
      have HXC := Lib.hid hxc
      have HF1 := Lib.hid hf1
      clear hxl hxr hxc hf1
      have p1 : (0 ≤ (j : Int)) = True := eq_true (by omega)
      have p2 : ((j : Int) < (cs.length : Int)) = True := eq_true (by omega)
      have p3 : ((j : Int) < (cs.length : Int) + 1) = True := eq_true (by omega)
      have p4 : (j < cs.length) = True := eq_true hj
      have p5 : (j < cs.length + 1) = True := eq_true (by omega)
      have hwj : wrap64 ((j : Int) + 1) = (j : Int) + 1 := wrap64_of' (by omega) (by omega)
      go_upto_region 7 with (fail)
      obtain ⟨wd, hwd⟩ : ∃ wd, wd = wr.drew := ⟨_, rfl⟩
      have nb : Below wr.heap.size wr wd := by rw [hwd]; exact below_drew1 (Below.refl _ _)
      have nHRG := Kd.R_below HRG.out nb
      have nHBQ := HBQ.out.below nb HBQ.out.lt
      have nHBZ := HBZ.out.below nb HBZ.out.lt
      have nHB := HB.out.trans (nb.mono HB.out.size)
      have nHRJ := Kd.C_below HRJ0.out nb
      have nHX1 := (nb.cell (World.block_lt_of_cell? _ _ HF1.out)).trans HF1.out
      have nHX2 := (nb.cell (World.block_lt_of_cell? _ _ HXC.out)).trans HXC.out
      have nsz : M0 ≤ wd.heap.size := by rw [HM0.out]; exact nHB.size
      clear HRG HBQ HBZ HB HRJ0 HF1 HXC nb
      have HRG := Lib.hid nHRG
      have HBQ := Lib.hid nHBQ
      have HBZ := Lib.hid nHBZ
      have HB := Lib.hid nHB
      have HRJ := Lib.hid nHRJ
      have HX1 := Lib.hid nHX1
      have HX2 := Lib.hid nHX2
      have HSZ := Lib.hid nsz
      have hS0 : wd.cell? ⟨Qb, 0, none⟩ = some (.slice (some ⟨G, 0, none⟩) cs.length cG) ∧ wd.cell? ⟨B, 4, none⟩ = some (.slice (some ad) (cs.length + 1) cL) ∧ wd.cell? (ad.add j) = some (.slice Ai (rd_L4 (cs ++ [inp]) (j : Int)).length ci) := ⟨nHBQ.c0, nHX1, nHX2⟩
      have HS0 := Lib.hid hS0
      clear nHRG nHBQ nHBZ nHB nHRJ nHX1 nHX2 nsz hS0
      refine start_ (n := 14) (S := fun w' => w'.cell? ⟨Qb, 0, none⟩ = some (.slice (some ⟨G, 0, none⟩) cs.length cG) ∧ w'.cell? ⟨B, 4, none⟩ = some (.slice (some ad) (cs.length + 1) cL) ∧ w'.cell? (ad.add j) = some (.slice Ai (rd_L4 (cs ++ [inp]) (j : Int)).length ci)) (ds := [13]) #[false, false, false, false, false, false, false, false, false, false, false, false, false, false] (by kernel_rfl) rfl rfl (by rw [← hwd]; exact HS0.out) (fun hHeld => ?_); refine with_tabW tab49_7 bits49_7 (fun HT_ HW_ => ?_)
      rw [← hwd] at hHeld ⊢; clear hwd
      refine pure_ (i := 0) (N := some 21) (v := ?_) (a' := ?_) #[true, false, false, false, false, false, false, false, false, false, false, false, false, false] rfl rfl (any_of HT_.out (by kernel_rfl)) (fun _ _ _ h => h) (Or.inl ⟨by rfl, ?_⟩) ?_ ?_
      rotate_left
      · intro w'
        go_simp
        with_reducible rfl
      rotate_left
      · simp only [Act.put, List.setIfInBounds_toArray, List.set_cons_zero, List.set_cons_succ, i64_w, i32_w]
        rfl
      refine take_ (i := 1) (N := some 22) (v := ?_) (a' := ?_) #[true, true, false, false, false, false, false, false, false, false, false, false, false, false] rfl rfl (take_ofW HT_.out HW_.out (by kernel_rfl)) (fun _ _ _ h => h) (Or.inl ⟨by rfl, ?_⟩) hHeld ?_ ?_
      rotate_left
      · rintro w' ⟨s0, s1, s2⟩
        go_simp
        with_reducible rfl
      rotate_left
      · simp only [Act.put, List.setIfInBounds_toArray, List.set_cons_zero, List.set_cons_succ, i64_w, i32_w]
        rfl
      refine pure_ (i := 2) (N := some 23) (v := ?_) (a' := ?_) #[true, true, true, false, false, false, false, false, false, false, false, false, false, false] rfl rfl (any_of HT_.out (by kernel_rfl)) (fun _ _ _ h => h) (Or.inl ⟨by rfl, ?_⟩) ?_ ?_
      rotate_left
      · intro w'
        go_simp
        with_reducible rfl
      rotate_left
      · simp only [Act.put, List.setIfInBounds_toArray, List.set_cons_zero, List.set_cons_succ, i64_w, i32_w]
        rfl
      refine pure_ (i := 4) (N := some 25) (v := ?_) (a' := ?_) #[true, true, true, false, true, false, false, false, false, false, false, false, false, false] rfl rfl (any_of HT_.out (by kernel_rfl)) (fun _ _ _ h => h) (Or.inl ⟨by rfl, ?_⟩) ?_ ?_
      rotate_left
      · intro w'
        go_simp
        with_reducible rfl
      rotate_left
      · simp only [Act.put, List.setIfInBounds_toArray, List.set_cons_zero, List.set_cons_succ, i64_w, i32_w]
        rfl
      refine pure_ (i := 5) (N := some 26) (v := ?_) (a' := ?_) #[true, true, true, false, true, true, false, false, false, false, false, false, false, false] rfl rfl (any_of HT_.out (by kernel_rfl)) (fun _ _ _ h => h) (Or.inl ⟨by rfl, ?_⟩) ?_ ?_
      rotate_left
      · intro w'
        go_simp
        with_reducible rfl
      rotate_left
      · simp only [Act.put, List.setIfInBounds_toArray, List.set_cons_zero, List.set_cons_succ, i64_w, i32_w]
        rfl
      refine pure_ (i := 6) (N := some 27) (v := ?_) (a' := ?_) #[true, true, true, false, true, true, true, false, false, false, false, false, false, false] rfl rfl (any_of HT_.out (by kernel_rfl)) (fun _ _ _ h => h) (Or.inl ⟨by rfl, ?_⟩) ?_ ?_
      rotate_left
      · intro w'
        go_simp
        with_reducible rfl
      rotate_left
      · simp only [Act.put, List.setIfInBounds_toArray, List.set_cons_zero, List.set_cons_succ, i64_w, i32_w]
        rfl
      refine take_ (i := 7) (N := some 28) (v := ?_) (a' := ?_) #[true, true, true, false, true, true, true, true, false, false, false, false, false, false] rfl rfl (take_ofW HT_.out HW_.out (by kernel_rfl)) (fun _ _ _ h => h) (Or.inl ⟨by rfl, ?_⟩) hHeld ?_ ?_
      rotate_left
      · rintro w' ⟨s0, s1, s2⟩
        go_simp
        with_reducible rfl
      rotate_left
      · simp only [Act.put, List.setIfInBounds_toArray, List.set_cons_zero, List.set_cons_succ, i64_w, i32_w]
        rfl
      refine pure_ (i := 8) (N := some 29) (v := ?_) (a' := ?_) #[true, true, true, false, true, true, true, true, true, false, false, false, false, false] rfl rfl (any_of HT_.out (by kernel_rfl)) (fun _ _ _ h => h) (Or.inl ⟨by rfl, ?_⟩) ?_ ?_
      rotate_left
      · intro w'
        go_simp
        with_reducible rfl
      rotate_left
      · simp only [Act.put, List.setIfInBounds_toArray, List.set_cons_zero, List.set_cons_succ, i64_w, i32_w]
        rfl
      refine pure_ (i := 9) (N := some 30) (v := ?_) (a' := ?_) #[true, true, true, false, true, true, true, true, true, true, false, false, false, false] rfl rfl (any_of HT_.out (by kernel_rfl)) (fun _ _ _ h => h) (Or.inl ⟨by rfl, ?_⟩) ?_ ?_
      rotate_left
      · intro w'
        go_simp
        with_reducible rfl
      rotate_left
      · simp only [Act.put, List.setIfInBounds_toArray, List.set_cons_zero, List.set_cons_succ, i64_w, i32_w]
        rfl
      refine take_ (i := 10) (N := some 31) (v := ?_) (a' := ?_) #[true, true, true, false, true, true, true, true, true, true, true, false, false, false] rfl rfl (take_ofW HT_.out HW_.out (by kernel_rfl)) (fun _ _ _ h => h) (Or.inl ⟨by rfl, ?_⟩) hHeld ?_ ?_
      rotate_left
      · rintro w' ⟨s0, s1, s2⟩
        go_simp
        with_reducible rfl
      rotate_left
      · simp only [Act.put, List.setIfInBounds_toArray, List.set_cons_zero, List.set_cons_succ, i64_w, i32_w]
        rfl
      refine one_ (i := 3) (N := some 24) #[true, true, true, true, true, true, true, true, true, true, true, false, false, false] rfl rfl (one_of HT_.out (by kernel_rfl)) (by decide) (fun K hK => ?_)
      refine value_ (w1 := ?_) (v := ?_) (by rfl) rfl ?_ ?_
      rotate_left 2
      · go_simp
        constructor
        · rfl
        · rfl
      refine hK.out _ _ ⟨(HBQ.out.alloc _).c0, (World.cell?_alloc_lt _ _ _ (World.block_lt_of_cell? _ _ hHeld.2.1)).trans hHeld.2.1, (World.cell?_alloc_lt _ _ _ (World.block_lt_of_cell? _ _ hHeld.2.2)).trans hHeld.2.2⟩ (fun hHeld => ?_)
      clear hK K
      refine norm_ (a' := ?_) ?_ ?_
      rotate_left
      · show Act.put _ (some 24) _ = _
        simp only [Act.put, List.setIfInBounds_toArray, List.set_cons_zero, List.set_cons_succ, i64_w, i32_w]
        rfl
      refine one_ (i := 11) (N := some 32) #[true, true, true, true, true, true, true, true, true, true, true, true, false, false] rfl rfl (one_of HT_.out (by kernel_rfl)) (by decide) (fun K hK => ?_)
      refine Kd.R_append_rows_step (Kd.int .i64) (w0 := wd) wd.heap.size (by rfl) (.tmp 24) (.tmp 31) 33 3 (.int .i64 0) 8 rfl Try.underlying33 info3 rfl (by decide) (by omega) (.slice (some ⟨wd.heap.size, 0, none⟩) 0 0) ([] : List Int) (rd_L4 (cs ++ [inp]) (j : Int)) Ai (rd_L4 (cs ++ [inp]) (j : Int)).length ci (fun _ => True) (fun _ => False) rfl rfl (Kd.R_of_own (own_lit wd wd.heap.size 3 .i64 [] (Nat.le_refl _) (by simp)) (fun _ _ => trivial)) (Kd.C_alloc HRJ.out _) (fun _ _ h => h) (fun _ h => h.elim) (fun _ _ => trivial) (below_alloc (Below.refl _ _) _) (by simp) (by have := HRL.out (j : Int); simp only [List.length_nil]; omega) ?_
      intro v2 w2 ho2 hb2 hg2 hat2
      have hbw2 : Below wd.heap.size wd w2 := hb2
      refine hK.out _ _ ⟨(HBQ.out.below hb2 HBQ.out.lt).c0, (hb2.cell (World.block_lt_of_cell? _ _ HX1.out)).trans HX1.out, (hb2.cell (World.block_lt_of_cell? _ _ HX2.out)).trans HX2.out⟩ (fun hHeld => ?_)
      have nHRG : Kd.R (Kd.slice 3 (Kd.int .i64)) 33 w2 M0 (fun k => some k ≠ v2.ownBlock) (.slice (some ⟨G, 0, none⟩) cs.length cG) (cs.take j ++ List.replicate (cs.length - j) []) := Kd.R_mono (Kd.R_elder' HRG.out (Kd.R_base ho2) hb2) (fun _ hk => hk.2)
      have nHBQ := HBQ.out.below hb2 HBQ.out.lt
      have nHBZ := HBZ.out.below hb2 HBZ.out.lt
      have nHB := HB.out.trans (hb2.mono HB.out.size)
      have nHO : Kd.R (Kd.int .i64) 3 w2 M0 (fun _ => True) v2 (rd_L4 (cs ++ [inp]) (j : Int)) := Kd.R_lower (by simpa using ho2) HSZ.out
      clear HRG HBQ HBZ HB
      have HRG := Lib.hid nHRG
      have HBQ := Lib.hid nHBQ
      have HBZ := Lib.hid nHBZ
      have HB := Lib.hid nHB
      have HO := Lib.hid nHO
      clear nHRG nHBQ nHBZ nHB nHO ho2 hb2 hg2 hat2 hbw2
      clear hK K
      refine norm_ (a' := ?_) ?_ ?_
      rotate_left
      · show Act.put _ (some 32) _ = _
        simp only [Act.put, List.setIfInBounds_toArray, List.set_cons_zero, List.set_cons_succ, i64_w, i32_w]
        rfl
      refine pure_ (i := 12) (N := some 33) (v := ?_) (a' := ?_) #[true, true, true, true, true, true, true, true, true, true, true, true, true, false] rfl rfl (any_of HT_.out (by kernel_rfl)) (fun _ _ _ h => h) (Or.inl ⟨by rfl, ?_⟩) ?_ ?_
      rotate_left
      · intro w'
        go_simp
        with_reducible rfl
      rotate_left
      · simp only [Act.put, List.setIfInBounds_toArray, List.set_cons_zero, List.set_cons_succ, i64_w, i32_w]
        rfl
      refine last_ (i := 13) (N := none) #[true, true, true, true, true, true, true, true, true, true, true, true, true, true] rfl rfl (one_of HT_.out (by kernel_rfl)) (by decide) (fun K hK => ?_)
      obtain ⟨cE, hcE, hME, hccE, _⟩ := Kd.R_elem HRG.out ([] : List Int) (j : Int) (by omega) (by omega)
      refine R_store_step (Kd.slice 3 (Kd.int .i64)) M0 (by rfl) rfl 33 (.tmp 33) (.tmp 32) rfl 33 (j : Int) (cs.take j ++ List.replicate (cs.length - j) []) (rd_L4 (cs ++ [inp]) (j : Int)) v2 (fun _ => True) (fun k => k ≠ G) (by first | rfl | (simp [Act.eval]; done)) rfl (by obtain ⟨A_, c_, e_⟩ := Kd.R_slice HO.out; subst e_; rfl) (by kernel_rfl) (by obtain ⟨A_, c_, e_⟩ := Kd.R_slice HO.out; subst e_; rfl) rfl (Kd.R_mono HRG.out (fun _ _ => trivial)) (by omega) (by omega) hcE hccE ⟨v2, rfl, Kd.R_mono (Kd.R_bound HO.out) (fun k hk => ?_)⟩ (fun k hk => ⟨trivial, hk⟩) ?_
      · rintro rfl
        obtain ⟨q_, hq_, c3_, hc3_⟩ := hk.2.2.2
        obtain ⟨c33_, hc33_⟩ := own_typed (Kd.R_own HRG.out).choose_spec k (by simp [Value.ownBlock])
        rw [hc33_] at hc3_
        injection hc3_ with hc3_
        injection hc3_ with _ h2_
        subst h2_
        revert hq_
        decide
      intro w4 hw4 hrow4 hg4
      clear hw4
      refine hK.out _ _ ?_
      clear hK K
      refine done_ (done_of HT_.out (by kernel_rfl)) ?_
      rw [Int.toNat_natCast, take_put hj] at hrow4
      try go_wp2
      go_roundg (cs.length - (j + 1))
      case measure => omega
      case rel => exact ⟨j + 1, by omega, by go_num, ⟨hrow4⟩, ⟨HBQ.out.kept hg4 (boxA_ne HRG.out HBQ.out (by decide))⟩, ⟨HBZ.out.kept hg4 (boxA_ne HRG.out HBZ.out (by decide))⟩, ⟨HB.out.grown hg4 HB.out.size (fun k hk => by injection hk with hk; have := HGM.out; have := HM0.out; omega)⟩⟩
    · have hi1 : decide ((j : Int) < (cs.length : Int)) = false := decide_eq_false (by omega)
      have hid : decide (j < cs.length) = false := decide_eq_false hj
      have hjn : j = cs.length := by omega
      obtain ⟨ad, Ai, ci, hA, hxc, hxl, hxr⟩ := at_L4 (Kd.C_below HR.out HB.out) (cs.length : Int) (by omega) (by omega)
      rw [rd_L4_last] at hxc hxl hxr
      have hil : inp.length ≤ 5000 := by have := HRL.out (cs.length : Int); rwa [rd_L4_last] at this
      subst hA
      simp only [Int.toNat_natCast] at hxc
      have hrg : Kd.R (Kd.slice 3 (Kd.int .i64)) 33 wr M0 (fun _ => True) (.slice (some ⟨G, 0, none⟩) cs.length cG) cs := by
        have h1 := HRG.out
        rw [hjn] at h1
        simpa using h1
      have HRJ := Lib.hid hxr
      have HXL := Lib.hid hxl
      have HG2 := Lib.hid hrg
      have HJN := Lib.hid hjn
      clear hxr hxl hrg HRG hjn hjk
      have hx1 := (World.cell?_alloc_lt wr (.cells #[] 3) _ (World.block_lt_of_cell? _ _ hf1)).trans hf1
      have hx2 := (World.cell?_alloc_lt wr (.cells #[] 3) _ (World.block_lt_of_cell? _ _ hxc)).trans hxc
      have p1 : (0 ≤ (cs.length : Int)) = True := eq_true (by omega)
      have p2 : ((cs.length : Int) < (cs.length : Int) + 1) = True := eq_true (by omega)
      have p3 : (cs.length < cs.length + 1) = True := eq_true (by omega)
      have HF1 := Lib.hid hf1
      have HXC := Lib.hid hxc
      clear hf1 hxc
      go_wp2_with ((with_reducible refine gate_builtin (b := .append) (xs := #[.tmp 35, .tmp 42]) rfl ?_); at_builtin; refine Kd.R_append_rows (Kd.int .i64) (w0 := wr) wr.heap.size rfl (.tmp 35) (.tmp 42) 33 3 (.int .i64 0) 8 rfl Try.underlying33 info3 rfl (by decide) (by omega) (.slice (some ⟨wr.heap.size, 0, none⟩) 0 0) ([] : List Int) inp Ai inp.length ci (fun _ => True) (fun _ => False) rfl rfl (Kd.R_of_own (own_lit wr wr.heap.size 3 .i64 [] (Nat.le_refl _) (by simp)) (fun _ _ => trivial)) (Kd.C_alloc HRJ.out _) (fun _ _ h => h) (fun _ h => h.elim) (fun _ _ => trivial) (below_alloc (Below.refl _ _) _) (by simp) (by simp only [List.length_nil]; omega) ?_; intro v2 w2 ho2 hb2 hg2 hat2; have hq2 := HBQ.out.below hb2 HBQ.out.lt; have hz2 := HBZ.out.below hb2 HBZ.out.lt; have q0 := hq2.c0; have q1 := hq2.c1; have q2 := hq2.c2; have qf1 := hq2.f1; have z0 := hz2.c0; have z1 := hz2.c1; have z2 := hz2.c2; have zf0 := hz2.f0; have zf1 := hz2.f1; have zf2 := hz2.f2; have hzq : (w.heap.size = Qb) = False := eq_false (by rw [HQB.out]; omega); have hqz : (Qb = w.heap.size) = False := eq_false (by rw [HQB.out]; omega); obtain ⟨A2, c2, e2⟩ := Kd.R_slice ho2; subst e2; have H2 := Lib.hid ho2; have HQ2 := Lib.hid hq2; have HZ2 := Lib.hid hz2; have HB2 := Lib.hid hb2; clear ho2 hq2 hz2 hb2 hg2 hat2)
      have nq := (HQ2.out.set1 (.slice A2 inp.length c2))
      have nz := HZ2.out.far (p := ⟨Qb, 1, none⟩) (by show w.heap.size ≠ Qb; rw [HQB.out]; omega) (.slice A2 inp.length c2)
      have nz1 := nz.set0 (.slice (some ⟨G, 0, none⟩) cs.length cG)
      have nz2 := nz1.set1 (.slice A2 inp.length c2)
      have nz3 := nz2.set2 nil3
      have hsb : w.heap.size ≤ wr.heap.size := HB.out.size
      have hi2 : Kd.R (Kd.int .i64) 3 w2 w.heap.size (fun _ => True) (.slice A2 inp.length c2) inp := Kd.R_lower (by simpa using H2.out) hsb
      have hg2 : Kd.R (Kd.slice 3 (Kd.int .i64)) 33 w2 w.heap.size (fun _ => True) (.slice (some ⟨G, 0, none⟩) cs.length cG) cs := Kd.R_lower (Kd.R_below HG2.out HB2.out) (by rw [HM0.out]; exact Nat.le_refl _)
      have hbb := HB.out.trans (HB2.out.mono hsb)
      refine bodyPost_ret (results_cell_row rfl _ _ w.heap.size 35 #[.slice (some ⟨G, 0, none⟩) cs.length cG, .slice A2 inp.length c2, nil3] (0, 0) _ rfl nz3 Try.underlying35 rfl (by kernel_rfl)) rfl ?_
      exact ⟨_, _, rfl, R_setA (R_setA (R_setA (R_setA hg2 HQ2.out) nz) nz1) nz2, R_setI (R_setI (R_setI (R_setI hi2 HQ2.out) nz) nz1) nz2, (((hbb.setCell (p := ⟨Qb, 1, none⟩) (by show w.heap.size ≤ Qb; rw [HQB.out]; omega) _).setCell (p := ⟨w.heap.size, 0, none⟩) (Nat.le_refl _) _).setCell (p := ⟨w.heap.size, 1, none⟩) (Nat.le_refl _) _).setCell (p := ⟨w.heap.size, 2, none⟩) (Nat.le_refl _) _⟩
end Go.Proofs.Ytgcdeablfoomhaa.PAll
end
section
namespace Go.Proofs.Ytgcdeablfoomhaa.PAll
open Go.RowKit Go.Proofs.YtgcdeablfoomhaaW.PrintWords Go.Proofs.YtgcdeablfoomhaaW.PrintLast Go.Proofs.YtgcdeablfoomhaaW.PrintMore
attribute [local go_sem] max2_int min2_int max_two min_two max_three min_three max_four min_four   -- for this text's walks alone
set_option linter.unusedVariables false
set_option linter.unusedSimpArgs false
def enumerate_times.f (a0 : Int) (a1 : Int) : Option (Int) := if a1 = 0 then (none) else (if a0 > (wrap64 ((1099511627776 : Int) / a1)) then (some 1099511627777) else (some (mn (wrap64 (a0 * a1)) 1099511627777)))
set_option maxHeartbeats 8000000 in
set_option maxRecDepth 100000 in
theorem enumerate_times.calls (a0 : Int) (a1 : Int) (r : Int) (w : World) (h : enumerate_times.f a0 a1 = some r) :
    Calls Try.prog 43 #[.int .i64 a0, .int .i64 a1] w fun e w' => e = .returned (.int .i64 r) ∧ Below w.heap.size w w' := by
  have HB := Aside0.mk (Below.refl w.heap.size w)
  have H : (if a1 = 0 then (none) else (if a0 > (wrap64 ((1099511627776 : Int) / a1)) then (some 1099511627777) else (some (mn (wrap64 (a0 * a1)) 1099511627777)))) = some r := h
  clear h
  by_cases c3 : a1 = 0
  · rw [if_pos c3] at H
    exact absurd H (by simp)
  · rw [if_neg c3] at H
    have c3b0 : (a1 == 0) = false := beq_eq_false_iff_ne.mpr c3
    have c3b1 : (a1 != 0) = true := bne_iff_ne.mpr c3
    by_cases c4 : a0 > (wrap64 ((1099511627776 : Int) / a1))
    · rw [if_pos c4] at H
      have c4b0 : decide ((wrap64 ((1099511627776 : Int) / a1)) < a0) = true := decide_eq_true c4
      have c4b0t := c4b0
      rw [← Int.tdiv_eq_ediv_of_nonneg (by decide)] at c4b0t
      clear c4
      obtain rfl := Option.some.inj H
      go_enter Try.func43, Try.ntmps43
      go_wp2
      go_ret
      exact ⟨by first | rfl | (simp [errW_none, errW_some] <;> rfl) | (simp [*, errW_none, errW_some] <;> rfl), by repeat (first | (with_reducible first | exact HB.out | apply below_alloc | apply pw_below_drewN | apply below_drew1) | exact HB.out)⟩
    · rw [if_neg c4] at H
      have c4b0 : decide ((wrap64 ((1099511627776 : Int) / a1)) < a0) = false := decide_eq_false c4
      have c4b0t := c4b0
      rw [← Int.tdiv_eq_ediv_of_nonneg (by decide)] at c4b0t
      clear c4
      obtain ⟨ji5, hji5⟩ : ∃ j_ : Int, (mn (wrap64 (a0 * a1)) 1099511627777) = j_ := ⟨_, rfl⟩
      replace H : (some ji5) = some r := by first | (rw [hji5] at H; exact H) | (simp only [hji5] at H ⊢; exact H)
      (try (have hji5h : ji5 ≤ 1099511627777 := by (rw [← hji5]; unfold mn; (repeat' split) <;> omega)))
      (try (have hji5g : ji5 ≤ 64 := by omega))
      have hji5_ : (if 1099511627777 < (wrap64 (a0 * a1)) then 1099511627777 else (wrap64 (a0 * a1))) = ji5 := hji5
      obtain rfl := Option.some.inj H
      go_enter Try.func43, Try.ntmps43
      go_wp2
      go_ret
      exact ⟨by first | rfl | (simp [errW_none, errW_some] <;> rfl) | (simp only [← hji5]; first | rfl | (simp [errW_none, errW_some] <;> rfl)) | (simp [*, errW_none, errW_some] <;> rfl), by repeat (first | (with_reducible first | exact HB.out | apply below_alloc | apply pw_below_drewN | apply below_drew1) | exact HB.out)⟩
def enumerate_Unrank.f (a0 : Int) : Option (Int) := if a0 < 0 then (some 0) else (if (Int.tmod a0 2) = 1 then (some (wrap64 (Int.tdiv (wrap64 (a0 + 1)) 2))) else (some (wrap64 (Int.tdiv (wrap64 (-a0)) 2))))
set_option maxHeartbeats 8000000 in
set_option maxRecDepth 100000 in
theorem enumerate_Unrank.calls (a0 : Int) (r : Int) (w : World) (h : enumerate_Unrank.f a0 = some r) :
    Calls Try.prog 17 #[.int .i64 a0] w fun e w' => e = .returned (.int .i64 r) ∧ Drawn0 w w' := by
  have H : (if a0 < 0 then (some 0) else (if (Int.tmod a0 2) = 1 then (some (wrap64 (Int.tdiv (wrap64 (a0 + 1)) 2))) else (some (wrap64 (Int.tdiv (wrap64 (-a0)) 2))))) = some r := h
  clear h
  by_cases c2 : a0 < 0
  · rw [if_pos c2] at H
    have c2b0 : decide (a0 < 0) = true := decide_eq_true c2
    clear c2
    obtain rfl := Option.some.inj H
    go_enter Try.func17, Try.ntmps17
    go_wp2
    go_ret
    exact ⟨by first | rfl | (simp; done) | (simp [*]; done), by repeat (first | exact Drawn0.refl _ | apply Drawn0.step)⟩
  · rw [if_neg c2] at H
    have c2b0 : decide (a0 < 0) = false := decide_eq_false c2
    clear c2
    by_cases c3 : (Int.tmod a0 2) = 1
    · rw [if_pos c3] at H
      have c3b0 : ((Int.tmod a0 2) == 1) = true := beq_iff_eq.mpr c3
      have c3b1 : ((Int.tmod a0 2) != 1) = false := bne_eq_false_iff_eq.mpr c3
      clear c3
      obtain rfl := Option.some.inj H
      go_enter Try.func17, Try.ntmps17
      go_wp2
      go_ret
      exact ⟨by first | rfl | (simp; done) | (simp [*]; done), by repeat (first | exact Drawn0.refl _ | apply Drawn0.step)⟩
    · rw [if_neg c3] at H
      have c3b0 : ((Int.tmod a0 2) == 1) = false := beq_eq_false_iff_ne.mpr c3
      have c3b1 : ((Int.tmod a0 2) != 1) = true := bne_iff_ne.mpr c3
      obtain rfl := Option.some.inj H
      go_enter Try.func17, Try.ntmps17
      go_wp2
      go_ret
      exact ⟨by first | rfl | (simp; done) | (simp [*]; done), by repeat (first | exact Drawn0.refl _ | apply Drawn0.step)⟩
end Go.Proofs.Ytgcdeablfoomhaa.PAll
end
section
set_option linter.unusedVariables false
set_option linter.unusedSimpArgs false
namespace Go.Proofs.Ytgcdeablfoomhaa.PAll
open Go.RowKit Go.Proofs.YtgcdeablfoomhaaW.PrintWords Go.Proofs.YtgcdeablfoomhaaW.PrintLast Go.Proofs.YtgcdeablfoomhaaW.PrintMore
/-- A list's bounds. -/
structure S62 where
  f0 : Int
  f1 : Int
def unrank (r : Int) : Int := if r % 2 = 1 then (r + 1) / 2 else -(r / 2)
theorem unrank_f {r : Int} (h : 0 ≤ r) (h2 : r ≤ 1099511627776) : enumerate_Unrank.f r = some (unrank r) := by
  unfold enumerate_Unrank.f unrank
  rw [if_neg (by omega), Int.tmod_eq_emod_of_nonneg h]
  split
  · rw [wrap64_of' (n := r + 1) (by omega) (by omega), Int.tdiv_eq_ediv_of_nonneg (by omega), wrap64_of' (by omega) (by omega)]
  · have e : r = 2 * (r / 2) := by omega
    rw [wrap64_of' (n := -r) (by omega) (by omega)]
    have : Int.tdiv (-r) 2 = -(r / 2) := by rw [Int.neg_tdiv, Int.tdiv_eq_ediv_of_nonneg h]
    rw [this, wrap64_of' (by omega) (by omega)]
/-- The numbers from a to b. -/
def irange (a b : Int) : List Int := (List.range (b + 1 - a).toNat).map fun j : Nat => a + (j : Int)
def elemO (rk lo hi : Int) (K : Int → List (List (List Int))) : Nat → Int → List (List Int × List (List Int))
  | 0, w => if w < lo ∨ w > hi then [] else (K w).map fun q => (([] : List Int), q)
  | n + 1, w => (irange (max 0 (w - 1 - ((n : Int) * (rk + 1) + hi))) (min rk (w - 1 - ((n : Int) + lo)))).flatMap fun r => (elemO rk lo hi K n (w - 1 - r)).map fun q => (unrank r :: q.1, q.2)
def lowOf : List S62 → Int
  | [] => 0
  | s :: r => lowOf r + s.f0
def highOf (rk : Int) : List S62 → Int
  | [] => 0
  | s :: r => highOf rk r + s.f1 * (rk + 1)
def slotO (rk : Int) : List S62 → Int → List (List (List Int))
  | [], _ => [[]]
  | s :: r, w => (irange s.f0 s.f1).flatMap fun m => (elemO rk (lowOf r) (highOf rk r) (slotO rk r) m.toNat w).map fun q => q.1 :: q.2
/-- Where the search lies. -/
structure Cx where
  sl : List S62
  rk : Int
  B : Nat
  gS : Nat
  gl : Nat
  gh : Nat
  L : Nat
  M0 : Nat
  l : Nat
  cS : Nat
  cl : Nat
  ch : Nat
structure Cx.Ok (C : Cx) : Prop where
  n0 : 1 ≤ C.sl.length
  n1 : C.sl.length ≤ 200
  r0 : 0 ≤ C.rk
  r1 : C.rk ≤ 2000
  s : ∀ s ∈ C.sl, 0 ≤ s.f0 ∧ s.f0 ≤ 1000 ∧ 0 ≤ s.f1 ∧ s.f1 ≤ 1000
  lo : ∀ j, 0 ≤ lowOf (C.sl.drop j) ∧ lowOf (C.sl.drop j) ≤ 1099511627776
  hi : ∀ j, 0 ≤ highOf C.rk (C.sl.drop j) ∧ highOf C.rk (C.sl.drop j) ≤ 1099511627776
  nB : C.B ≠ C.L
  nS : C.gS ≠ C.L
  nl : C.gl ≠ C.L
  nh : C.gh ≠ C.L
  mB : C.B < C.M0
  mS : C.gS < C.M0
  ml : C.gl < C.M0
  mh : C.gh < C.M0
  mL : C.L < C.M0
/-- What the search reads and never writes. -/
structure Cst (C : Cx) (W : World) : Prop where
  b : W.heap[C.B]? = some (.cells #[.slice (some ⟨C.gS, 0, none⟩) C.sl.length C.cS, .int .i64 C.rk, .slice (some ⟨C.gl, 0, none⟩) (C.sl.length + 1) C.cl, .slice (some ⟨C.gh, 0, none⟩) (C.sl.length + 1) C.ch, .slice (some ⟨C.L, 0, none⟩) C.sl.length C.sl.length, .func (.yield C.l) #[] #[]] 60 (0, 0))
  s : ∃ cells : Array Value, W.heap[C.gS]? = some (.cells cells 62 (0, 0)) ∧ ∀ i (h : i < C.sl.length), cells[i * 2]? = some (.int .i64 C.sl[i].f0) ∧ cells[i * 2 + 1]? = some (.int .i64 C.sl[i].f1)
  lo : ∃ cells : Array Value, W.heap[C.gl]? = some (.cells cells 3 (0, 0)) ∧ ∀ j, j ≤ C.sl.length → cells[j]? = some (.int .i64 (lowOf (C.sl.drop j)))
  hi : ∃ cells : Array Value, W.heap[C.gh]? = some (.cells cells 3 (0, 0)) ∧ ∀ j, j ≤ C.sl.length → cells[j]? = some (.int .i64 (highOf C.rk (C.sl.drop j)))
theorem Cst.move {C : Cx} {W W' : World} (h : Cst C W) (hB : W'.heap[C.B]? = W.heap[C.B]?) (hS : W'.heap[C.gS]? = W.heap[C.gS]?) (hl : W'.heap[C.gl]? = W.heap[C.gl]?) (hh : W'.heap[C.gh]? = W.heap[C.gh]?) : Cst C W' :=
  ⟨hB.trans h.b, by rw [hS]; exact h.s, by rw [hl]; exact h.lo, by rw [hh]; exact h.hi⟩
theorem Cst.cell {C : Cx} {W : World} (h : Cst C W) : W.cell? ⟨C.B, 0, none⟩ = some (.slice (some ⟨C.gS, 0, none⟩) C.sl.length C.cS) ∧ W.cell? ⟨C.B, 1, none⟩ = some (.int .i64 C.rk) ∧ W.cell? ⟨C.B, 2, none⟩ = some (.slice (some ⟨C.gl, 0, none⟩) (C.sl.length + 1) C.cl) ∧
    W.cell? ⟨C.B, 3, none⟩ = some (.slice (some ⟨C.gh, 0, none⟩) (C.sl.length + 1) C.ch) ∧ W.cell? ⟨C.B, 4, none⟩ = some (.slice (some ⟨C.L, 0, none⟩) C.sl.length C.sl.length) ∧ W.cell? ⟨C.B, 5, none⟩ = some (.func (.yield C.l) #[] #[]) := by
  have hb := h.b
  refine ⟨?_, ?_, ?_, ?_, ?_, ?_⟩ <;> simp [World.cell?, hb]
theorem addr0 (g n : Nat) : Addr.add ⟨g, 0, none⟩ n = ⟨g, n, none⟩ := by
  unfold Addr.add; split <;> simp_all
theorem Cst.lo_ {C : Cx} {W : World} (h : Cst C W) (j : Nat) (hj : j ≤ C.sl.length) : W.cell? ⟨C.gl, j, none⟩ = some (.int .i64 (lowOf (C.sl.drop j))) := by
  obtain ⟨cells, hc, hx⟩ := h.lo
  simp [World.cell?, hc, hx j hj]
theorem Cst.hi_ {C : Cx} {W : World} (h : Cst C W) (j : Nat) (hj : j ≤ C.sl.length) : W.cell? ⟨C.gh, j, none⟩ = some (.int .i64 (highOf C.rk (C.sl.drop j))) := by
  obtain ⟨cells, hc, hx⟩ := h.hi
  simp [World.cell?, hc, hx j hj]
theorem Cst.s_ {C : Cx} {W : World} (h : Cst C W) (i : Nat) (hi : i < C.sl.length) : W.cell? ⟨C.gS, i * 2, none⟩ = some (.int .i64 C.sl[i].f0) ∧ W.cell? ⟨C.gS, i * 2 + 1, none⟩ = some (.int .i64 C.sl[i].f1) := by
  obtain ⟨cells, hc, hx⟩ := h.s
  simp [World.cell?, hc, hx i hi]
/-- The search's memory: its constants, and a row for each list, in blocks of T, apart from each other. -/
structure Inv (C : Cx) (T : Nat → Prop) (W : World) (rows : List (List Int)) : Prop where
  c : Cst C W
  t : T C.B ∧ T C.gS ∧ T C.gl ∧ T C.gh ∧ T C.L
  tlt : ∀ k, T k → k < W.heap.size
  m : C.M0 ≤ W.heap.size
  n : rows.length = C.sl.length
  r : ∃ vs : List Value, vs.length = C.sl.length ∧ W.heap[C.L]? = some (.cells vs.toArray 33 (0, 0)) ∧ (∀ i : Nat, Kd.R (Kd.int .i64) 3 W C.M0 T (vs.getD i nil3) (rows.getD i [])) ∧
    ∀ (i j b : Nat), i ≠ j → (vs.getD i nil3).ownBlock = some b → (vs.getD j nil3).ownBlock ≠ some b
section
variable {C : Cx} {T : Nat → Prop} {W W' : World} {rows : List (List Int)}
theorem Inv.keep (h : Inv C T W rows) (hs : W.heap.size ≤ W'.heap.size) (hk : ∀ k, T k → W'.heap[k]? = W.heap[k]?) : Inv C T W' rows := by
  obtain ⟨hB, hS, hl, hh, hL⟩ := h.t
  obtain ⟨vs, h1, h2, h3, h4⟩ := h.r
  exact ⟨h.c.move (hk _ hB) (hk _ hS) (hk _ hl) (hk _ hh), h.t, fun k hkk => Nat.lt_of_lt_of_le (h.tlt k hkk) hs, Nat.le_trans h.m hs, h.n, vs, h1, (hk _ hL).trans h2, fun i => Kd.R_step (h3 i) (fun k hk1 _ => hk k hk1), h4⟩
theorem Inv.below (h : Inv C T W rows) (hb : Below W.heap.size W W') : Inv C T W' rows := h.keep hb.size fun k hk => hb.block k (h.tlt k hk)
theorem Inv.keepS (h : Inv C T W rows) (hb : KeepS T W W') : Inv C T W' rows := h.keep hb.1 hb.2
theorem getD_set_same {α : Type} (l : List α) (i : Nat) (x d : α) (h : i < l.length) : (l.set i x).getD i d = x := by
  simp [List.getD_eq_getElem?_getD, h]
theorem getD_set_other {α : Type} (l : List α) (i j : Nat) (x d : α) (h : i ≠ j) : (l.set i x).getD j d = l.getD j d := by
  simp [List.getD_eq_getElem?_getD, List.getElem?_set_ne h]
theorem cell_list {W : World} {g : Nat} {vs : List Value} {t : TypeId} (h : W.heap[g]? = some (.cells vs.toArray t (0, 0))) (i : Nat) (hi : i < vs.length) : W.cell? ⟨g, i, none⟩ = some (vs.getD i nil3) := by
  simp [World.cell?, h, hi, List.getD_eq_getElem?_getD]
/-- Row i. -/
theorem Inv.row (h : Inv C T W rows) (i : Nat) (hi : i < C.sl.length) : ∃ Ai ci, W.cell? ⟨C.L, i, none⟩ = some (.slice Ai (rows.getD i []).length ci) ∧ Kd.R (Kd.int .i64) 3 W C.M0 T (.slice Ai (rows.getD i []).length ci) (rows.getD i []) := by
  obtain ⟨vs, h1, h2, h3, h4⟩ := h.r
  obtain ⟨Ai, ci, e⟩ := Kd.R_slice (h3 i)
  have h5 := cell_list h2 i (by omega)
  have h6 := h3 i
  rw [e] at h5 h6
  exact ⟨Ai, ci, h5, h6⟩
theorem Inv.frozen (h : Inv C T W rows) (i : Nat) : W.frozen? ⟨C.L, i, none⟩ = false := by
  obtain ⟨vs, h1, h2, h3, h4⟩ := h.r
  simp [World.frozen?, h2]
theorem heap_set_list {W : World} {g i : Nat} {vs : List Value} {t : TypeId} (u : Value) (h : W.heap[g]? = some (.cells vs.toArray t (0, 0))) : (W.setCell ⟨g, i, none⟩ u).heap[g]? = some (.cells (vs.set i u).toArray t (0, 0)) := by
  have := heap_setCell_same W g i vs.toArray t u h
  simpa using this
/-- The row block of another list is not this one; nor is the lists' own. -/
theorem Inv.notL (h : Inv C T W rows) (hC : C.Ok) {v : Value} {xs : List Int} {ok : Nat → Prop} (hv : Kd.R (Kd.int .i64) 3 W C.M0 ok v xs) (u : Value) (j : Nat) : Kd.R (Kd.int .i64) 3 (W.setCell ⟨C.L, j, none⟩ u) C.M0 ok v xs :=
  Kd.R_mono (Kd.R_far (Kd.R_mono (Kd.R_bound hv) (ok' := fun k => ok k ∧ k ≠ C.L) (fun k hk => ⟨hk.1, by have := hC.mL; have := hk.2.1; omega⟩)) (fun k hk => hk.2) u) (fun _ hk => hk.1)
/-- A list's row is put anew: a row of T's, apart from the others. -/
theorem Inv.put (h : Inv C T W rows) (hC : C.Ok) (i : Nat) (hi : i < C.sl.length) (v : Value) (x : List Int) (hv : Kd.R (Kd.int .i64) 3 W C.M0 T v x)
    (hap : ∀ vs : List Value, W.heap[C.L]? = some (.cells vs.toArray 33 (0, 0)) → (∀ (i j b : Nat), i ≠ j → (vs.getD i nil3).ownBlock = some b → (vs.getD j nil3).ownBlock ≠ some b) → (∀ j : Nat, Kd.R (Kd.int .i64) 3 W C.M0 T (vs.getD j nil3) (rows.getD j [])) → ∀ (j b : Nat), j ≠ i → v.ownBlock = some b → (vs.getD j nil3).ownBlock ≠ some b) :
    Inv C T (W.setCell ⟨C.L, i, none⟩ v) (rows.set i x) := by
  obtain ⟨vs, h1, h2, h3, h4⟩ := h.r
  have ha := hap vs h2 h4 h3
  have hf : ∀ k, k ≠ C.L → (W.setCell ⟨C.L, i, none⟩ v).heap[k]? = W.heap[k]? := fun k hk => heap_setCell_other W ⟨C.L, i, none⟩ k v hk
  refine ⟨h.c.move (hf _ hC.nB) (hf _ hC.nS) (hf _ hC.nl) (hf _ hC.nh), h.t, fun k hk => by simpa using h.tlt k hk, by simpa using h.m, by simpa using h.n, vs.set i v, by simpa using h1, heap_set_list v h2, fun j => ?_, fun j k b hjk hb => ?_⟩
  · by_cases e : i = j
    · subst e
      rw [getD_set_same _ _ _ _ (by omega), getD_set_same _ _ _ _ (by rw [h.n]; exact hi)]
      exact h.notL hC hv v i
    · rw [getD_set_other _ _ _ _ _ e, getD_set_other _ _ _ _ _ e]
      exact h.notL hC (h3 j) v i
  · by_cases e : i = j
    · subst e
      rw [getD_set_same _ _ _ _ (by omega)] at hb
      rw [getD_set_other _ _ _ _ _ hjk]
      exact ha k b (Ne.symm hjk) hb
    · rw [getD_set_other _ _ _ _ _ e] at hb
      by_cases e2 : i = k
      · subst e2
        rw [getD_set_same _ _ _ _ (by omega)]
        intro hvb
        exact ha j b (Ne.symm e) hvb hb
      · rw [getD_set_other _ _ _ _ _ e2]
        exact h4 j k b hjk hb
/-- lists[i] = lists[i][:m]. -/
theorem Inv.cut (h : Inv C T W rows) (hC : C.Ok) (i : Nat) (hi : i < C.sl.length) {Ai : Option Addr} {ci : Nat} (hc : W.cell? ⟨C.L, i, none⟩ = some (.slice Ai (rows.getD i []).length ci)) (m : Nat) (hm : m ≤ (rows.getD i []).length) :
    Inv C T (W.setCell ⟨C.L, i, none⟩ (.slice Ai m ci)) (rows.set i ((rows.getD i []).take m)) := by
  obtain ⟨vs, h1, h2, h3, h4⟩ := h.r
  have h5 := cell_list h2 i (by omega)
  rw [hc] at h5
  have h6 := h3 i
  have h7 := Option.some.inj h5
  rw [← h7] at h6
  refine h.put hC i hi _ _ (Kd.R_take h6 hm) (fun vs' h2' h4' h3' j b hj hb => ?_)
  have h8 := cell_list h2' i (by rw [h2] at h2'; injection h2' with h2'; injection h2' with h9; have h10 := congrArg Array.toList h9; simp at h10; rw [← h10]; omega)
  rw [hc] at h8
  have h9 := Option.some.inj h8
  refine h4' i j b (Ne.symm hj) ?_
  rw [← h9]
  cases Ai with
  | none => simp [Value.ownBlock] at hb
  | some a => simpa [Value.ownBlock] using hb
/-- lists[i] = append(lists[i], x). -/
theorem Inv.app (h : Inv C T W rows) (hC : C.Ok) (i : Nat) (hi : i < C.sl.length) {Ai : Option Addr} {ci : Nat} (hc : W.cell? ⟨C.L, i, none⟩ = some (.slice Ai (rows.getD i []).length ci)) {w2 : World} {v2 : Value} {x : Int}
    (hv : Kd.R (Kd.int .i64) 3 w2 C.M0 (fun k => T k ∨ W.heap.size ≤ k) v2 (rows.getD i [] ++ [x])) (hg : W.grownBy w2 (Value.slice Ai (rows.getD i []).length ci).ownBlock)
    (hat : v2.ownBlock = (Value.slice Ai (rows.getD i []).length ci).ownBlock ∨ ∃ b, v2.ownBlock = some b ∧ W.heap.size ≤ b) :
    Inv C (fun k => T k ∨ (W.heap.size ≤ k ∧ k < w2.heap.size)) (w2.setCell ⟨C.L, i, none⟩ v2) (rows.set i (rows.getD i [] ++ [x])) ∧ StepT T W (w2.setCell ⟨C.L, i, none⟩ v2) ∧ Grows T (fun k => T k ∨ (W.heap.size ≤ k ∧ k < w2.heap.size)) W := by
  obtain ⟨vs, h1, h2, h3, h4⟩ := h.r
  obtain ⟨hB, hS, hl, hh, hL⟩ := h.t
  have h5 := cell_list h2 i (by omega)
  rw [hc] at h5
  have h7 : Value.slice Ai (rows.getD i []).length ci = vs.getD i nil3 := Option.some.inj h5
  rw [h7] at hg hat
  have hbase : ∀ b, (vs.getD i nil3).ownBlock = some b → C.M0 ≤ b := Kd.R_base (h3 i)
  have hTi : ∀ b, (vs.getD i nil3).ownBlock = some b → T b := (h3 i).1
  have hf : ∀ k, k < C.M0 → w2.heap[k]? = W.heap[k]? := fun k hk => hg.block k (by have := h.m; omega) (fun e => by have := hbase k e.symm; omega)
  have hf2 : ∀ k, k < C.M0 → k ≠ C.L → (w2.setCell ⟨C.L, i, none⟩ v2).heap[k]? = W.heap[k]? := fun k hk hn => (heap_setCell_other w2 ⟨C.L, i, none⟩ k v2 hn).trans (hf k hk)
  have hL2 : w2.heap[C.L]? = some (.cells vs.toArray 33 (0, 0)) := (hf _ hC.mL).trans h2
  have hmo : ∀ j, i ≠ j → Kd.R (Kd.int .i64) 3 w2 C.M0 (fun k => T k ∨ (W.heap.size ≤ k ∧ k < w2.heap.size)) (vs.getD j nil3) (rows.getD j []) := fun j hj => by
    have q := h3 j
    obtain ⟨q0, inner, ho, hr⟩ := q
    exact ⟨fun k hk => .inl (q0 k hk), inner, own_move ho (fun k hk => hg.block k (own_lt ho k hk) (fun e => h4 j i k (Ne.symm hj) hk e.symm)), hr⟩
  have hvt : Kd.R (Kd.int .i64) 3 w2 C.M0 (fun k => T k ∨ (W.heap.size ≤ k ∧ k < w2.heap.size)) v2 (rows.getD i [] ++ [x]) := Kd.R_mono (Kd.R_bound hv) (fun k hk => hk.1.imp id (fun h9 => ⟨h9, hk.2.2.1⟩))
  have notL : ∀ {v : Value} {xs : List Int} {ok : Nat → Prop}, Kd.R (Kd.int .i64) 3 w2 C.M0 ok v xs → Kd.R (Kd.int .i64) 3 (w2.setCell ⟨C.L, i, none⟩ v2) C.M0 ok v xs := fun {v xs ok} hv =>
    Kd.R_mono (Kd.R_far (Kd.R_mono (Kd.R_bound hv) (ok' := fun k => ok k ∧ k ≠ C.L) (fun k hk => ⟨hk.1, by have := hC.mL; have := hk.2.1; omega⟩)) (fun k hk => hk.2) v2) (fun _ hk => hk.1)
  refine ⟨⟨h.c.move (hf2 _ hC.mB hC.nB) (hf2 _ hC.mS hC.nS) (hf2 _ hC.ml hC.nl) (hf2 _ hC.mh hC.nh), ⟨.inl hB, .inl hS, .inl hl, .inl hh, .inl hL⟩, fun k hk => ?_, by have := hg.size; have := h.m; simp; omega, by simpa using h.n, vs.set i v2, by simpa using h1, heap_set_list v2 hL2, fun j => ?_, fun j k b hjk hb => ?_⟩,
    ⟨hg.os, hg.tape, hg.output, by simpa using hg.size, fun k hk hn => (heap_setCell_other w2 ⟨C.L, i, none⟩ k v2 (fun e => hn (e ▸ hL))).trans (hg.block k hk (fun e => hn (hTi k e.symm)))⟩, fun k hk => .inl hk, fun k hk => hk.imp id (fun h9 => h9.1)⟩
  · rcases hk with hk | hk
    · have := h.tlt k hk; have := hg.size; simp; omega
    · simpa using hk.2
  · by_cases e : i = j
    · subst e
      rw [getD_set_same _ _ _ _ (by omega), getD_set_same _ _ _ _ (by rw [h.n]; exact hi)]
      exact notL hvt
    · rw [getD_set_other _ _ _ _ _ e, getD_set_other _ _ _ _ _ e]
      exact notL (hmo j e)
  · have hvi : ∀ (k b : Nat), k ≠ i → v2.ownBlock = some b → (vs.getD k nil3).ownBlock ≠ some b := fun k b hk hb hkb => by
      rcases hat with hat | ⟨b', hb', hlt⟩
      · rw [hat] at hb
        exact h4 k i b hk hkb hb
      · rw [hb] at hb'
        injection hb' with hb'
        have := Kd.R_lt (h3 k) b hkb
        omega
    by_cases e : i = j
    · subst e
      rw [getD_set_same _ _ _ _ (by omega)] at hb
      rw [getD_set_other _ _ _ _ _ hjk]
      exact hvi k b (Ne.symm hjk) hb
    · rw [getD_set_other _ _ _ _ _ e] at hb
      by_cases e2 : i = k
      · subst e2
        rw [getD_set_same _ _ _ _ (by omega)]
        intro hvb
        exact hvi j b (Ne.symm e) hvb hb
      · rw [getD_set_other _ _ _ _ _ e2]
        exact h4 j k b hjk hb
theorem Inv.stepCut (h : Inv C T W rows) (i : Nat) (u : Value) : StepT T W (W.setCell ⟨C.L, i, none⟩ u) := StepT.set W ⟨C.L, i, none⟩ u h.t.2.2.2.2
end
/-- How a search went: through to its end, or stopped behind output k. -/
def Res (J Jx : (Nat → Prop) → List (List (List Int)) → World → Prop) (done outs : List (List (List Int))) (b : Bool) (T : Nat → Prop) (W : World) : Prop :=
  (b = true ∧ J T (done ++ outs) W) ∨ (b = false ∧ ∃ k, k < outs.length ∧ Jx T (done ++ outs.take (k + 1)) W)
def SPost (C : Cx) (J Jx : (Nat → Prop) → List (List (List Int)) → World → Prop) (done outs : List (List (List Int))) (rows : List (List Int)) (e : Ending) (W' : World) : Prop :=
  ∃ b T', e = .returned (.bool b) ∧ Res J Jx done outs b T' W' ∧ Inv C T' W' rows
section
variable {J Jx : (Nat → Prop) → List (List (List Int)) → World → Prop} {done outs : List (List (List Int))} {b : Bool} {T T' : Nat → Prop} {W W' : World}
theorem Res.step (h : Res J Jx done outs b T W) (hJ : Abide J) (hJx : Abide Jx) (hs : StepT T W W') (hg : Grows T T' W) : Res J Jx done outs b T' W' := by
  rcases h with ⟨hb, h⟩ | ⟨hb, k, hk, h⟩
  · exact .inl ⟨hb, hJ _ _ _ _ _ h hs hg⟩
  · exact .inr ⟨hb, k, hk, hJx _ _ _ _ _ h hs hg⟩
theorem Res.end_ (h : J T done W) : Res J Jx done [] true T W := .inl ⟨rfl, by simpa using h⟩
/-- A part of the outputs went through: J holds behind it. -/
theorem Res.thru {more : List (List (List Int))} (h : Res J Jx (done ++ outs) more true T W) : J T (done ++ (outs ++ more)) W := by
  rcases h with ⟨_, h⟩ | ⟨hb, _⟩
  · rwa [List.append_assoc] at h
  · cases hb
theorem Res.stop {more rest : List (List (List Int))} (h : Res J Jx (done ++ outs) more false T W) : Res J Jx done (outs ++ (more ++ rest)) false T W := by
  rcases h with ⟨hb, _⟩ | ⟨_, k, hk, h⟩
  · cases hb
  · refine .inr ⟨rfl, outs.length + k, by simp; omega, ?_⟩
    rw [List.take_append, List.take_of_length_le (by omega), show outs.length + k + 1 - outs.length = k + 1 by omega, List.take_append_of_le_length (by omega), ← List.append_assoc]
    exact h
end
theorem irange_length (a b : Int) : (irange a b).length = (b + 1 - a).toNat := by simp [irange]
theorem irange_get (a b : Int) (j : Nat) (h : j < (irange a b).length) : (irange a b)[j] = a + (j : Int) := by simp [irange]
theorem flat_take {α : Type} (l : List Int) (f : Int → List α) (j : Nat) (h : j < l.length) : (l.take (j + 1)).flatMap f = (l.take j).flatMap f ++ f l[j] := by
  rw [List.take_succ_eq_append_getElem h, List.flatMap_append]; simp
theorem flat_all {α : Type} (l : List Int) (f : Int → List α) (j : Nat) (h : j < l.length) : l.flatMap f = (l.take j).flatMap f ++ (f l[j] ++ (l.drop (j + 1)).flatMap f) := by
  conv => lhs; rw [← List.take_append_drop j l, List.drop_eq_getElem_cons h]
  rw [List.flatMap_append, List.flatMap_cons]
theorem pre_flat {α : Type} {L done : List α} {l : List Int} {f : Int → List α} (h : (done ++ l.flatMap f) <+: L) (j : Nat) (hj : j < l.length) : ((done ++ (l.take j).flatMap f) ++ f l[j]) <+: L := by
  rw [flat_all l f j hj] at h
  exact List.IsPrefix.trans ⟨(l.drop (j + 1)).flatMap f, by simp⟩ h
/-- The contract of search.slot, and of search.element; L: all that the search hands over. -/
def SlotC (C : Cx) (L : List (List (List Int))) (J Jx : (Nat → Prop) → List (List (List Int)) → World → Prop) (rest : List S62) : Prop :=
  ∀ (pre : List (List Int)) (wt : Int) (T : Nat → Prop) (W : World) (done : List (List (List Int))), C.sl.drop pre.length = rest → pre.length + rest.length = C.sl.length → (∀ r ∈ pre, r.length ≤ 1000) → 0 ≤ wt → wt ≤ 1099511627776 →
    ((done ++ (slotO C.rk rest wt).map fun q => pre ++ q) <+: L) → J T done W → Inv C T W (pre ++ List.replicate rest.length []) →
    Calls Try.prog 33 #[.pointer (some ⟨C.B, 0, none⟩), .int .i64 (pre.length : Int), .int .i64 wt] W fun e W' => SPost C J Jx done ((slotO C.rk rest wt).map fun q => pre ++ q) (pre ++ List.replicate rest.length []) e W'
def ElemC (C : Cx) (L : List (List (List Int))) (J Jx : (Nat → Prop) → List (List (List Int)) → World → Prop) (rest : List S62) (left : Nat) : Prop :=
  ∀ (pre : List (List Int)) (cur : List Int) (mI wt : Int) (T : Nat → Prop) (W : World) (done : List (List (List Int))), C.sl.drop (pre.length + 1) = rest → pre.length + 1 + rest.length = C.sl.length → (∀ r ∈ pre, r.length ≤ 1000) → cur.length + left ≤ 1000 → mI = (cur.length : Int) + (left : Int) → 0 ≤ wt → wt ≤ 1099511627776 →
    ((done ++ (elemO C.rk (lowOf rest) (highOf C.rk rest) (slotO C.rk rest) left wt).map fun q => pre ++ (cur ++ q.1) :: q.2) <+: L) → J T done W → Inv C T W (pre ++ cur :: List.replicate rest.length []) →
    Calls Try.prog 50 #[.pointer (some ⟨C.B, 0, none⟩), .int .i64 (pre.length : Int), .int .i64 mI, .int .i64 wt] W fun e W' =>
      SPost C J Jx done ((elemO C.rk (lowOf rest) (highOf C.rk rest) (slotO C.rk rest) left wt).map fun q => pre ++ (cur ++ q.1) :: q.2) (pre ++ cur :: List.replicate rest.length []) e W'
end Go.Proofs.Ytgcdeablfoomhaa.PAll
end
section
set_option linter.unusedVariables false
set_option linter.unusedSimpArgs false
namespace Go.Proofs.Ytgcdeablfoomhaa.PAll
open Go.RowKit Go.Proofs.YtgcdeablfoomhaaW.PrintWords Go.Proofs.YtgcdeablfoomhaaW.PrintLast Go.Proofs.YtgcdeablfoomhaaW.PrintMore
attribute [local go_sem] max_two
theorem tab50_7 : rtab .any (opsOf Try.f50 7) = (true, [([], []), ([0], [0]), ([], []), ([2], [2]), ([3], [3]), ([4], [4]), ([5], [5]), ([1, 6], [1, 6]), ([], []), ([8], [8]), ([9], [9]), ([10], [10]), ([], []), ([12], [12]), ([11, 13], [11, 13]), ([14], [14]), ([7, 15], [7, 15]), ([16, 0, 1, 2, 3, 4, 5, 6, 7, 8, 9, 10, 11, 12, 13, 14, 15, 16], [16])]) := by kernel_rfl
theorem bits50_7 : waitsOk (true, [([], []), ([0], [0]), ([], []), ([2], [2]), ([3], [3]), ([4], [4]), ([5], [5]), ([1, 6], [1, 6]), ([], []), ([8], [8]), ([9], [9]), ([10], [10]), ([], []), ([12], [12]), ([11, 13], [11, 13]), ([14], [14]), ([7, 15], [7, 15]), ([16, 0, 1, 2, 3, 4, 5, 6, 7, 8, 9, 10, 11, 12, 13, 14, 15, 16], [16])]).2 [0, 1, 0, 4, 12, 28, 60, 127, 0, 256, 768, 1792, 0, 4096, 16128, 32512, 65535, 131071] = true := by decide +kernel
theorem tab50_11 : rtab .any (opsOf Try.f50 11) = (true, [([], []), ([0], [0]), ([1], [1]), ([2], [2]), ([], []), ([], []), ([5], [5]), ([6], [6]), ([7], [7]), ([], []), ([8, 9], [8, 9]), ([10], [10]), ([], []), ([12], [12]), ([13], [13]), ([11, 14, 13], [11, 14]), ([3, 4, 0, 1, 2, 3, 4, 5, 6, 7, 8, 9, 10, 11, 12, 13, 14, 15], [3, 4]), ([16, 15, 15, 0, 1, 2, 3, 4, 5, 6, 7, 8, 9, 10, 11, 12, 13, 14, 15], [15, 16])]) := by kernel_rfl
theorem bits50_11 : waitsOk (true, [([], []), ([0], [0]), ([1], [1]), ([2], [2]), ([], []), ([], []), ([5], [5]), ([6], [6]), ([7], [7]), ([], []), ([8, 9], [8, 9]), ([10], [10]), ([], []), ([12], [12]), ([13], [13]), ([11, 14, 13], [11, 14]), ([3, 4, 0, 1, 2, 3, 4, 5, 6, 7, 8, 9, 10, 11, 12, 13, 14, 15], [3, 4]), ([16, 15, 15, 0, 1, 2, 3, 4, 5, 6, 7, 8, 9, 10, 11, 12, 13, 14, 15], [15, 16])]).2 [0, 1, 3, 7, 0, 0, 32, 96, 224, 0, 992, 2016, 0, 4096, 12288, 32736, 65535, 131071] = true := by decide +kernel
theorem tab50_13 : rtab .any (opsOf Try.f50 13) = (true, [([], []), ([0], [0]), ([1], [1]), ([2], [2]), ([], []), ([], []), ([5], [5]), ([6], [6]), ([7], [7]), ([], []), ([8, 9], [8, 9]), ([10], [10]), ([], []), ([12], [12]), ([13], [13]), ([14], [14]), ([], []), ([15, 16], [15, 16]), ([17], [17]), ([18], [18]), ([19], [19]), ([11, 20], [11, 20]), ([3, 4, 0, 1, 2, 3, 4, 5, 6, 7, 8, 9, 10, 11, 12, 13, 14, 15, 16, 17, 18, 19, 20, 21], [3, 4]), ([22, 21, 0, 1, 2, 3, 4, 5, 6, 7, 8, 9, 10, 11, 12, 13, 14, 15, 16, 17, 18, 19, 20, 21], [21, 22])]) := by kernel_rfl
theorem bits50_13 : waitsOk (true, [([], []), ([0], [0]), ([1], [1]), ([2], [2]), ([], []), ([], []), ([5], [5]), ([6], [6]), ([7], [7]), ([], []), ([8, 9], [8, 9]), ([10], [10]), ([], []), ([12], [12]), ([13], [13]), ([14], [14]), ([], []), ([15, 16], [15, 16]), ([17], [17]), ([18], [18]), ([19], [19]), ([11, 20], [11, 20]), ([3, 4, 0, 1, 2, 3, 4, 5, 6, 7, 8, 9, 10, 11, 12, 13, 14, 15, 16, 17, 18, 19, 20, 21], [3, 4]), ([22, 21, 0, 1, 2, 3, 4, 5, 6, 7, 8, 9, 10, 11, 12, 13, 14, 15, 16, 17, 18, 19, 20, 21], [21, 22])]).2 [0, 1, 3, 7, 0, 0, 32, 96, 224, 0, 992, 2016, 0, 4096, 12288, 28672, 0, 126976, 258048, 520192, 1044480, 2097120, 4194303, 8388607] = true := by decide +kernel
theorem getD_at (pre : List (List Int)) (cur : List Int) (more : List (List Int)) : (pre ++ cur :: more).getD pre.length [] = cur := by
  simp [List.getD_eq_getElem?_getD]
theorem set_at (pre : List (List Int)) (cur x : List Int) (more : List (List Int)) : (pre ++ cur :: more).set pre.length x = pre ++ x :: more := by
  simp
/-- What is read at list i: its row, its neighbours' weights. -/
theorem Inv.at_ {C : Cx} {T : Nat → Prop} {W : World} {pre : List (List Int)} {cur : List Int} {more : List (List Int)} (h : Inv C T W (pre ++ cur :: more)) (hn : pre.length < C.sl.length) :
    ∃ Ai ci, W.cell? ⟨C.L, pre.length, none⟩ = some (.slice Ai cur.length ci) ∧ Kd.R (Kd.int .i64) 3 W C.M0 T (.slice Ai cur.length ci) cur ∧ cur.length ≤ ci := by
  obtain ⟨Ai, ci, h1, h2⟩ := h.row pre.length hn
  rw [getD_at] at h1 h2
  exact ⟨Ai, ci, h1, h2, (Kd.R_reads' h2).2.1⟩
theorem Inv.app' {C : Cx} {T : Nat → Prop} {W : World} {pre : List (List Int)} {cur : List Int} {more : List (List Int)} (h : Inv C T W (pre ++ cur :: more)) (hC : C.Ok) (hn : pre.length < C.sl.length) {Ai : Option Addr} {ci : Nat} (hc : W.cell? ⟨C.L, pre.length, none⟩ = some (.slice Ai cur.length ci)) {w2 : World} {v2 : Value} {x : Int}
    (hv : Kd.R (Kd.int .i64) 3 w2 C.M0 (fun k => T k ∨ W.heap.size ≤ k) v2 (cur ++ [x])) (hg : W.grownBy w2 (Value.slice Ai cur.length ci).ownBlock) (hat : v2.ownBlock = (Value.slice Ai cur.length ci).ownBlock ∨ ∃ b, v2.ownBlock = some b ∧ W.heap.size ≤ b) :
    Inv C (fun k => T k ∨ (W.heap.size ≤ k ∧ k < w2.heap.size)) (w2.setCell ⟨C.L, pre.length, none⟩ v2) (pre ++ (cur ++ [x]) :: more) ∧ StepT T W (w2.setCell ⟨C.L, pre.length, none⟩ v2) ∧ Grows T (fun k => T k ∨ (W.heap.size ≤ k ∧ k < w2.heap.size)) W := by
  have h1 := h.app (Ai := Ai) (ci := ci) (w2 := w2) (v2 := v2) (x := x) hC pre.length hn
  rw [getD_at, set_at] at h1
  exact h1 hc hv hg hat
theorem Inv.cut' {C : Cx} {T : Nat → Prop} {W : World} {pre : List (List Int)} {cur : List Int} {more : List (List Int)} (h : Inv C T W (pre ++ cur :: more)) (hC : C.Ok) (hn : pre.length < C.sl.length) {Ai : Option Addr} {ci : Nat} (hc : W.cell? ⟨C.L, pre.length, none⟩ = some (.slice Ai cur.length ci)) (m : Nat) (hm : m ≤ cur.length) :
    Inv C T (W.setCell ⟨C.L, pre.length, none⟩ (.slice Ai m ci)) (pre ++ cur.take m :: more) := by
  have h1 := h.cut (Ai := Ai) (ci := ci) hC pre.length hn
  rw [getD_at] at h1
  have h2 := h1 hc m hm
  rwa [set_at] at h2
set_option maxRecDepth 100000 in
set_option maxHeartbeats 8000000 in
theorem elem_zero (C : Cx) (hC : C.Ok) (L : List (List (List Int))) (J Jx : (Nat → Prop) → List (List (List Int)) → World → Prop) (hJ : Abide J) (hJx : Abide Jx) (rest : List S62) (hslot : SlotC C L J Jx rest) : ElemC C L J Jx rest 0 := by
  intro pre cur mI wt T W done hd hlen hpl hcl hmI hw0 hw1 hpx hj hi
  obtain ⟨lo, hlo⟩ : ∃ lo, lo = lowOf rest := ⟨_, rfl⟩
  obtain ⟨hi', hhi⟩ : ∃ hi', hi' = highOf C.rk rest := ⟨_, rfl⟩
  obtain ⟨Ai, ci, hrow, _, hcc⟩ := hi.at_ (by omega)
  obtain ⟨b0, b1, b2, b3, b4, b5⟩ := hi.c.cell
  have xlo := hi.c.lo_ (pre.length + 1) (by omega)
  have xhi := hi.c.hi_ (pre.length + 1) (by omega)
  rw [hd, ← hlo] at xlo
  rw [hd, ← hhi] at xhi
  have hout : (elemO C.rk (lowOf rest) (highOf C.rk rest) (slotO C.rk rest) 0 wt).map (fun q => pre ++ (cur ++ q.1) :: q.2) = if wt < lo ∨ wt > hi' then [] else (slotO C.rk rest wt).map fun q => (pre ++ [cur]) ++ q := by
    rw [hlo, hhi]
    unfold elemO
    split
    · rfl
    · rw [List.map_map]
      refine List.map_congr_left fun q _ => ?_
      simp
  rw [hout] at hpx ⊢
  have HPX := Lib.hid hpx
  clear hpx
  have p1 : (0 ≤ (pre.length : Int)) = True := eq_true (by omega)
  have p2 : ((pre.length : Int) < (C.sl.length : Int)) = True := eq_true (by omega)
  have p3 : (pre.length < C.sl.length) = True := eq_true (by omega)
  have p4 : (0 ≤ (pre.length : Int) + 1) = True := eq_true (by omega)
  have p5 : ((pre.length : Int) + 1 < (C.sl.length : Int) + 1) = True := eq_true (by omega)
  have p6 : (pre.length + 1 < C.sl.length + 1) = True := eq_true (by omega)
  have p7 : ((pre.length : Int) + 1).toNat = pre.length + 1 := by omega
  have hwl : wrap64 (mI - (cur.length : Int)) = 0 := by rw [hmI, wrap64_of' (by omega) (by omega)]; omega
  have hwi : wrap64 ((pre.length : Int) + 1) = (pre.length : Int) + 1 := wrap64_of' (by have := hC.n1; omega) (by have := hC.n1; omega)
  have HI := Lib.hid hi
  have HJ := Lib.hid hj
  have HD := Lib.hid hd
  have HLEN := Lib.hid hlen
  have HPL := Lib.hid hpl
  have HCL := Lib.hid hcl
  have HMI := Lib.hid hmI
  have HLO := Lib.hid hlo
  have HHI := Lib.hid hhi
  clear hi hj hd hlen hpl hcl hmI hlo hhi hout
  by_cases c1 : wt < lo
  · have c1b : decide (wt < lo) = true := decide_eq_true c1
    rw [if_pos (.inl c1)]
    go_enter Try.func50, Try.ntmps50
    go_wp2
    go_ret
    exact ⟨true, T, rfl, Res.end_ HJ.out, HI.out⟩
  · have c1b : decide (wt < lo) = false := decide_eq_false c1
    by_cases c2 : wt > hi'
    · have c2b : decide (hi' < wt) = true := decide_eq_true c2
      rw [if_pos (.inr c2)]
      go_enter Try.func50, Try.ntmps50
      go_wp2
      go_ret
      exact ⟨true, T, rfl, Res.end_ HJ.out, HI.out⟩
    · have c2b : decide (hi' < wt) = false := decide_eq_false c2
      rw [if_neg (by omega)]
      have hpx := HPX.out
      rw [if_neg (by omega)] at hpx
      have hcall := hslot (pre ++ [cur]) wt T W done (by simpa using HD.out) (by have := HLEN.out; simp; omega) (by
        intro r hr
        rcases List.mem_append.1 hr with h | h
        · exact HPL.out r h
        · rw [List.mem_singleton.1 h]; have := HCL.out; omega) hw0 hw1 hpx HJ.out (by simpa using HI.out)
      clear hpx
      have e1 : ((pre ++ [cur]).length : Int) = (pre.length : Int) + 1 := by simp
      rw [e1] at hcall
      have HCALL := Lib.hid hcall
      clear hcall e1 b0 b1 b5
      go_enter Try.func50, Try.ntmps50
      go_wp2_with (fail)
      refine HCALL.out.mono ?_
      rintro e W' ⟨b, T', rfl, hres, hinv⟩
      go_wp2
      go_ret
      exact ⟨b, T', rfl, hres, by simpa using hinv⟩
theorem elem_out (pre : List (List Int)) (cur : List Int) (rk lo hi : Int) (K : Int → List (List (List Int))) (left : Nat) (wt r0 r1 : Int) (h0 : r0 = max 0 (wt - 1 - ((left : Int) * (rk + 1) + hi))) (h1 : r1 = min rk (wt - 1 - ((left : Int) + lo))) :
    (elemO rk lo hi K (left + 1) wt).map (fun q => pre ++ (cur ++ q.1) :: q.2) = (irange r0 r1).flatMap fun r => (elemO rk lo hi K left (wt - 1 - r)).map fun q => pre ++ ((cur ++ [unrank r]) ++ q.1) :: q.2 := by
  subst h0
  subst h1
  rw [elemO, List.map_flatMap]
  congr 1
  funext r
  rw [List.map_map]
  refine List.map_congr_left fun q _ => ?_
  simp
set_option maxRecDepth 100000 in
set_option maxHeartbeats 16000000 in
theorem elem_succ (C : Cx) (hC : C.Ok) (L : List (List (List Int))) (J Jx : (Nat → Prop) → List (List (List Int)) → World → Prop) (hJ : Abide J) (hJx : Abide Jx) (rest : List S62) (left : Nat) (ih : ElemC C L J Jx rest left) : ElemC C L J Jx rest (left + 1) := by
  intro pre cur mI wt T W done hd hlen hpl hcl hmI hw0 hw1 hpx hj hi
  have hn1 := hC.n1
  have hr0 := hC.r0
  have hr1 := hC.r1
  have hblo := hC.lo (pre.length + 1)
  have hbhi := hC.hi (pre.length + 1)
  rw [hd] at hblo hbhi
  obtain ⟨lo, hlo⟩ : ∃ lo, lo = lowOf rest := ⟨_, rfl⟩
  obtain ⟨hi', hhi⟩ : ∃ hi', hi' = highOf C.rk rest := ⟨_, rfl⟩
  rw [← hlo] at hblo
  rw [← hhi] at hbhi
  obtain ⟨lf, hlf⟩ : ∃ lf : Int, lf = (left : Int) := ⟨_, rfl⟩
  obtain ⟨l1, hl1⟩ : ∃ l1 : Int, l1 = lf + 1 := ⟨_, rfl⟩
  obtain ⟨k1, hk1⟩ : ∃ k1 : Int, k1 = C.rk + 1 := ⟨_, rfl⟩
  obtain ⟨lw, hlw⟩ : ∃ lw : Int, lw = lf + lo := ⟨_, rfl⟩
  obtain ⟨pm, hpm⟩ : ∃ pm : Int, pm = lf * k1 := ⟨_, rfl⟩
  obtain ⟨hg, hhg⟩ : ∃ hg : Int, hg = pm + hi' := ⟨_, rfl⟩
  obtain ⟨wm, hwm⟩ : ∃ wm : Int, wm = wt - 1 := ⟨_, rfl⟩
  obtain ⟨wq, hwq⟩ : ∃ wq : Int, wq = wm - hg := ⟨_, rfl⟩
  obtain ⟨r0, hr0e⟩ : ∃ r0 : Int, r0 = max 0 wq := ⟨_, rfl⟩
  obtain ⟨r1, hr1e⟩ : ∃ r1 : Int, r1 = min C.rk (wm - lw) := ⟨_, rfl⟩
  have hpm0 : 0 ≤ pm ∧ pm ≤ 4000000 := by
    rw [hpm]
    have a1 : 0 ≤ lf := by omega
    have a2 : lf ≤ 1000 := by omega
    have a3 : 0 ≤ k1 := by omega
    have a4 : k1 ≤ 2001 := by omega
    refine ⟨Int.mul_nonneg a1 a3, ?_⟩
    have := Int.mul_le_mul a2 a4 a3 (by decide : (0 : Int) ≤ 1000)
    omega
  have hr0b : 0 ≤ r0 := by omega
  have hcount : ∀ j : Nat, j < (irange r0 r1).length ↔ r0 + (j : Int) ≤ r1 := fun j => by rw [irange_length]; omega
  have hrange : r0 + ((irange r0 r1).length : Int) ≤ 2000000 ∨ (irange r0 r1).length = 0 := by rw [irange_length]; omega
  have hr0big : r0 ≤ 1099511627776 := by omega
  have hout := elem_out pre cur C.rk (lowOf rest) (highOf C.rk rest) (slotO C.rk rest) left wt r0 r1 (by rw [hr0e, hwq, hwm, hhg, hpm, hk1, hlf, hhi]) (by rw [hr1e, hwm, hlw, hlf, hlo])
  rw [hout] at hpx ⊢
  clear hout
  obtain ⟨rs, hrs⟩ : ∃ rs, rs = irange r0 r1 := ⟨_, rfl⟩
  obtain ⟨F, hF⟩ : ∃ F, F = fun r => (elemO C.rk (lowOf rest) (highOf C.rk rest) (slotO C.rk rest) left (wt - 1 - r)).map fun q => pre ++ ((cur ++ [unrank r]) ++ q.1) :: q.2 := ⟨_, rfl⟩
  rw [← hrs, ← hF] at hpx ⊢
  rw [← hrs] at hcount hrange
  have hget : ∀ (j : Nat) (h : j < rs.length), rs[j] = r0 + (j : Int) := fun j h => by subst hrs; exact irange_get _ _ j h
  have e1 : wrap64 (mI - (cur.length : Int)) = l1 := by rw [hmI, wrap64_of' (by omega) (by omega)]; omega
  have e2 : wrap64 (l1 - 1) = lf := by rw [wrap64_of' (by omega) (by omega)]; omega
  have e3 : wrap64 (lf + lo) = lw := by rw [wrap64_of' (by omega) (by omega)]; exact hlw.symm
  have e4 : wrap64 (C.rk + 1) = k1 := by rw [wrap64_of' (by omega) (by omega)]; exact hk1.symm
  have e5 : wrap64 (lf * k1) = pm := by rw [← hpm, wrap64_of' (by omega) (by omega)]
  have e6 : wrap64 (pm + hi') = hg := by rw [wrap64_of' (by omega) (by omega)]; exact hhg.symm
  have e7 : wrap64 (wt - 1) = wm := by rw [wrap64_of' (by omega) (by omega)]; exact hwm.symm
  have e8 : wrap64 (wm - hg) = wq := by rw [wrap64_of' (by omega) (by omega)]; exact hwq.symm
  have e9 : wrap64 (wt - 1 - hg) = wq := by rw [wrap64_of' (by omega) (by omega)]; omega
  have q1 : (l1 == 0) = false := beq_eq_false_iff_ne.mpr (by omega)
  have q2 : decide (l1 = 0) = false := decide_eq_false (by omega)
  have hstp : ∀ (j : Nat), j < rs.length → wrap64 (wm - (r0 + (j : Int))) = wm - (r0 + (j : Int)) ∧ (r0 + (j : Int) ≤ C.rk ∧ lw ≤ wm - (r0 + (j : Int))) ∧ wrap64 (r0 + (j : Int) + 1) = r0 + ((j + 1 : Nat) : Int) := fun j hjl => by
    have h1 := (hcount j).1 hjl
    refine ⟨wrap64_of' (by omega) (by omega), ⟨by omega, by omega⟩, ?_⟩
    rw [wrap64_of' (by omega) (by omega)]; omega
  have hend : r0 + (rs.length : Int) > C.rk ∨ (r0 + (rs.length : Int) ≤ C.rk ∧ wrap64 (wm - (r0 + (rs.length : Int))) = wm - (r0 + (rs.length : Int)) ∧ wrap64 (wt - 1 - (r0 + (rs.length : Int))) = wm - (r0 + (rs.length : Int)) ∧ wm - (r0 + (rs.length : Int)) < lw) := by
    have h1 := mt (hcount rs.length).2 (Nat.lt_irrefl _)
    by_cases h2 : r0 + (rs.length : Int) > C.rk
    · exact .inl h2
    · exact .inr ⟨by omega, wrap64_of' (by omega) (by omega), by rw [wrap64_of' (by omega) (by omega)]; omega, by omega⟩
  have hrb : ∀ (j : Nat), j < rs.length → 0 ≤ r0 + (j : Int) ∧ r0 + (j : Int) ≤ 2000 ∧ 0 ≤ wt - 1 - (r0 + (j : Int)) ∧ wt - 1 - (r0 + (j : Int)) ≤ 1099511627776 ∧ wm - (r0 + (j : Int)) = wt - 1 - (r0 + (j : Int)) := fun j hjl => by
    have h1 := (hcount j).1 hjl
    refine ⟨by omega, by omega, by omega, by omega, by omega⟩
  have hlt : pre.length < C.sl.length := by omega
  have hc2 : cur.length < 1000 := by omega
  have hmx : Builtin.max2 (.int .i64 0) (.int .i64 wq) = pure (.int .i64 r0) := by
    rw [max2_int]
    congr 2
    split <;> omega
  clear hcount hrange hr0big hr0b hpm0 hr1e hr0e hwq hwm hhg hpm hlw hk1 hl1 hblo hbhi hn1 hr0 hr1
  have hi1 := hi.c.hi_ (pre.length + 1) (by omega)
  rw [hd, ← hhi] at hi1
  have xlo := hi.c.lo_ (pre.length + 1) (by omega)
  rw [hd, ← hlo] at xlo
  obtain ⟨Ai, ci, hrow, _, hcc⟩ := hi.at_ hlt
  obtain ⟨b0, b1, b2, b3, b4, b5⟩ := hi.c.cell
  have p1 : (0 ≤ (pre.length : Int)) = True := eq_true (by omega)
  have p2 : ((pre.length : Int) < (C.sl.length : Int)) = True := eq_true (by omega)
  have p3 : (pre.length < C.sl.length) = True := eq_true (by omega)
  have p4 : (0 ≤ (pre.length : Int) + 1) = True := eq_true (by omega)
  have p5 : ((pre.length : Int) + 1 < (C.sl.length : Int) + 1) = True := eq_true (by omega)
  have p6 : (pre.length + 1 < C.sl.length + 1) = True := eq_true (by omega)
  have p7 : ((pre.length : Int) + 1).toNat = pre.length + 1 := by omega
  have p8 : wrap64 ((pre.length : Int) + 1) = (pre.length : Int) + 1 := wrap64_of' (by have := hC.n1; omega) (by have := hC.n1; omega)
  have HI := Lib.hid hi
  have HJ := Lib.hid hj
  have HPL := Lib.hid hpl
  have HMI := Lib.hid hmI
  have HD := Lib.hid hd
  have HLEN := Lib.hid hlen
  have HLO := Lib.hid hlo
  have HHI := Lib.hid hhi
  have HF := Lib.hid hF
  have HPX := Lib.hid (fun (j : Nat) (hjl : j < rs.length) => pre_flat hpx j hjl)
  clear hpx
  have HLF := Lib.hid hlf
  have HSTP := Lib.hid hstp
  have HEND := Lib.hid hend
  have HRB := Lib.hid hrb
  have HGET := Lib.hid hget
  have HLT := Lib.hid hlt
  have HC2 := Lib.hid hc2
  have HCL := Lib.hid hcl
  have HCC := Lib.hid hcc
  clear hi hj hpl hmI hd hlen hlo hhi hF hlf hstp hend hrb hget hlt hc2 hcc hcl hrs
  have hS7 : (W.drew.cell? ⟨C.B, 1, none⟩ = some (.int .i64 C.rk) ∧ W.drew.cell? ⟨C.B, 3, none⟩ = some (.slice (some ⟨C.gh, 0, none⟩) (C.sl.length + 1) C.ch) ∧ W.drew.cell? ⟨C.gh, pre.length + 1, none⟩ = some (.int .i64 hi')) := ⟨b1, b3, hi1⟩
  have HS7 := Lib.hid hS7
  clear hS7
  go_enter Try.func50, Try.ntmps50
  go_upto_region 7 with (fail)
  refine start_ (n := 18) (S := fun w' => w'.cell? ⟨C.B, 1, none⟩ = some (.int .i64 C.rk) ∧ w'.cell? ⟨C.B, 3, none⟩ = some (.slice (some ⟨C.gh, 0, none⟩) (C.sl.length + 1) C.ch) ∧ w'.cell? ⟨C.gh, pre.length + 1, none⟩ = some (.int .i64 hi')) (ds := []) #[false, false, false, false, false, false, false, false, false, false, false, false, false, false, false, false, false, false] (by kernel_rfl) rfl rfl HS7.out (fun hHeld => ?_); refine with_tabW tab50_7 bits50_7 (fun HT_ HW_ => ?_)
  refine pure_ (i := 0) (N := some 64) (v := ?_) (a' := ?_) #[true, false, false, false, false, false, false, false, false, false, false, false, false, false, false, false, false, false] rfl rfl (any_of HT_.out (by kernel_rfl)) (fun _ _ _ h => h) (Or.inl ⟨by rfl, ?_⟩) ?_ ?_
  rotate_left
  · intro w'
    go_simp
    with_reducible rfl
  rotate_left
  · simp only [Act.put, List.setIfInBounds_toArray, List.set_cons_zero, List.set_cons_succ, i64_w, i32_w]
    rfl
  refine pure_ (i := 1) (N := some 65) (v := ?_) (a' := ?_) #[true, true, false, false, false, false, false, false, false, false, false, false, false, false, false, false, false, false] rfl rfl (any_of HT_.out (by kernel_rfl)) (fun _ _ _ h => h) (Or.inl ⟨by rfl, ?_⟩) ?_ ?_
  rotate_left
  · intro w'
    go_simp
    with_reducible rfl
  rotate_left
  · simp only [Act.put, List.setIfInBounds_toArray, List.set_cons_zero, List.set_cons_succ, i64_w, i32_w]
    rfl
  refine pure_ (i := 2) (N := some 66) (v := ?_) (a' := ?_) #[true, true, true, false, false, false, false, false, false, false, false, false, false, false, false, false, false, false] rfl rfl (any_of HT_.out (by kernel_rfl)) (fun _ _ _ h => h) (Or.inl ⟨by rfl, ?_⟩) ?_ ?_
  rotate_left
  · intro w'
    go_simp
    with_reducible rfl
  rotate_left
  · simp only [Act.put, List.setIfInBounds_toArray, List.set_cons_zero, List.set_cons_succ, i64_w, i32_w]
    rfl
  refine pure_ (i := 3) (N := some 67) (v := ?_) (a' := ?_) #[true, true, true, true, false, false, false, false, false, false, false, false, false, false, false, false, false, false] rfl rfl (any_of HT_.out (by kernel_rfl)) (fun _ _ _ h => h) (Or.inl ⟨by rfl, ?_⟩) ?_ ?_
  rotate_left
  · intro w'
    go_simp
    with_reducible rfl
  rotate_left
  · simp only [Act.put, List.setIfInBounds_toArray, List.set_cons_zero, List.set_cons_succ, i64_w, i32_w]
    rfl
  refine pure_ (i := 4) (N := some 68) (v := ?_) (a' := ?_) #[true, true, true, true, true, false, false, false, false, false, false, false, false, false, false, false, false, false] rfl rfl (any_of HT_.out (by kernel_rfl)) (fun _ _ _ h => h) (Or.inl ⟨by rfl, ?_⟩) ?_ ?_
  rotate_left
  · intro w'
    go_simp
    with_reducible rfl
  rotate_left
  · simp only [Act.put, List.setIfInBounds_toArray, List.set_cons_zero, List.set_cons_succ, i64_w, i32_w]
    rfl
  refine take_ (i := 5) (N := some 69) (v := ?_) (a' := ?_) #[true, true, true, true, true, true, false, false, false, false, false, false, false, false, false, false, false, false] rfl rfl (take_ofW HT_.out HW_.out (by kernel_rfl)) (fun _ _ _ h => h) (Or.inl ⟨by rfl, ?_⟩) hHeld ?_ ?_
  rotate_left
  · rintro w' ⟨s0, s1, s2⟩
    go_simp
    with_reducible rfl
  rotate_left
  · simp only [Act.put, List.setIfInBounds_toArray, List.set_cons_zero, List.set_cons_succ, i64_w, i32_w]
    rfl
  refine pure_ (i := 6) (N := some 70) (v := ?_) (a' := ?_) #[true, true, true, true, true, true, true, false, false, false, false, false, false, false, false, false, false, false] rfl rfl (any_of HT_.out (by kernel_rfl)) (fun _ _ _ h => h) (Or.inl ⟨by rfl, ?_⟩) ?_ ?_
  rotate_left
  · intro w'
    go_simp
    with_reducible rfl
  rotate_left
  · simp only [Act.put, List.setIfInBounds_toArray, List.set_cons_zero, List.set_cons_succ, i64_w, i32_w]
    rfl
  refine pure_ (i := 7) (N := some 71) (v := ?_) (a' := ?_) #[true, true, true, true, true, true, true, true, false, false, false, false, false, false, false, false, false, false] rfl rfl (any_of HT_.out (by kernel_rfl)) (fun _ _ _ h => h) (Or.inl ⟨by rfl, ?_⟩) ?_ ?_
  rotate_left
  · intro w'
    go_simp
    with_reducible rfl
  rotate_left
  · simp only [Act.put, List.setIfInBounds_toArray, List.set_cons_zero, List.set_cons_succ, i64_w, i32_w]
    rfl
  refine pure_ (i := 8) (N := some 72) (v := ?_) (a' := ?_) #[true, true, true, true, true, true, true, true, true, false, false, false, false, false, false, false, false, false] rfl rfl (any_of HT_.out (by kernel_rfl)) (fun _ _ _ h => h) (Or.inl ⟨by rfl, ?_⟩) ?_ ?_
  rotate_left
  · intro w'
    go_simp
    with_reducible rfl
  rotate_left
  · simp only [Act.put, List.setIfInBounds_toArray, List.set_cons_zero, List.set_cons_succ, i64_w, i32_w]
    rfl
  refine pure_ (i := 9) (N := some 73) (v := ?_) (a' := ?_) #[true, true, true, true, true, true, true, true, true, true, false, false, false, false, false, false, false, false] rfl rfl (any_of HT_.out (by kernel_rfl)) (fun _ _ _ h => h) (Or.inl ⟨by rfl, ?_⟩) ?_ ?_
  rotate_left
  · intro w'
    go_simp
    with_reducible rfl
  rotate_left
  · simp only [Act.put, List.setIfInBounds_toArray, List.set_cons_zero, List.set_cons_succ, i64_w, i32_w]
    rfl
  refine pure_ (i := 10) (N := some 74) (v := ?_) (a' := ?_) #[true, true, true, true, true, true, true, true, true, true, true, false, false, false, false, false, false, false] rfl rfl (any_of HT_.out (by kernel_rfl)) (fun _ _ _ h => h) (Or.inl ⟨by rfl, ?_⟩) ?_ ?_
  rotate_left
  · intro w'
    go_simp
    with_reducible rfl
  rotate_left
  · simp only [Act.put, List.setIfInBounds_toArray, List.set_cons_zero, List.set_cons_succ, i64_w, i32_w]
    rfl
  refine take_ (i := 11) (N := some 75) (v := ?_) (a' := ?_) #[true, true, true, true, true, true, true, true, true, true, true, true, false, false, false, false, false, false] rfl rfl (take_ofW HT_.out HW_.out (by kernel_rfl)) (fun _ _ _ h => h) (Or.inl ⟨by rfl, ?_⟩) hHeld ?_ ?_
  rotate_left
  · rintro w' ⟨s0, s1, s2⟩
    go_simp
    with_reducible rfl
  rotate_left
  · simp only [Act.put, List.setIfInBounds_toArray, List.set_cons_zero, List.set_cons_succ, i64_w, i32_w]
    rfl
  refine pure_ (i := 12) (N := some 76) (v := ?_) (a' := ?_) #[true, true, true, true, true, true, true, true, true, true, true, true, true, false, false, false, false, false] rfl rfl (any_of HT_.out (by kernel_rfl)) (fun _ _ _ h => h) (Or.inl ⟨by rfl, ?_⟩) ?_ ?_
  rotate_left
  · intro w'
    go_simp
    with_reducible rfl
  rotate_left
  · simp only [Act.put, List.setIfInBounds_toArray, List.set_cons_zero, List.set_cons_succ, i64_w, i32_w]
    rfl
  refine pure_ (i := 13) (N := some 77) (v := ?_) (a' := ?_) #[true, true, true, true, true, true, true, true, true, true, true, true, true, true, false, false, false, false] rfl rfl (any_of HT_.out (by kernel_rfl)) (fun _ _ _ h => h) (Or.inl ⟨by rfl, ?_⟩) ?_ ?_
  rotate_left
  · intro w'
    go_simp
    with_reducible rfl
  rotate_left
  · simp only [Act.put, List.setIfInBounds_toArray, List.set_cons_zero, List.set_cons_succ, i64_w, i32_w]
    rfl
  refine pure_ (i := 14) (N := some 78) (v := ?_) (a' := ?_) #[true, true, true, true, true, true, true, true, true, true, true, true, true, true, true, false, false, false] rfl rfl (any_of HT_.out (by kernel_rfl)) (fun _ _ _ h => h) (Or.inl ⟨by rfl, ?_⟩) ?_ ?_
  rotate_left
  · intro w'
    go_simp
    with_reducible rfl
  rotate_left
  · simp only [Act.put, List.setIfInBounds_toArray, List.set_cons_zero, List.set_cons_succ, i64_w, i32_w]
    rfl
  refine take_ (i := 15) (N := some 79) (v := ?_) (a' := ?_) #[true, true, true, true, true, true, true, true, true, true, true, true, true, true, true, true, false, false] rfl rfl (take_ofW HT_.out HW_.out (by kernel_rfl)) (fun _ _ _ h => h) (Or.inl ⟨by rfl, ?_⟩) hHeld ?_ ?_
  rotate_left
  · rintro w' ⟨s0, s1, s2⟩
    go_simp
    with_reducible rfl
  rotate_left
  · simp only [Act.put, List.setIfInBounds_toArray, List.set_cons_zero, List.set_cons_succ, i64_w, i32_w]
    rfl
  refine pure_ (i := 16) (N := some 80) (v := ?_) (a' := ?_) #[true, true, true, true, true, true, true, true, true, true, true, true, true, true, true, true, true, false] rfl rfl (any_of HT_.out (by kernel_rfl)) (fun _ _ _ h => h) (Or.inl ⟨by rfl, ?_⟩) ?_ ?_
  rotate_left
  · intro w'
    go_simp
    with_reducible rfl
  rotate_left
  · simp only [Act.put, List.setIfInBounds_toArray, List.set_cons_zero, List.set_cons_succ, i64_w, i32_w]
    rfl
  refine pure_ (i := 17) (N := some 11) (v := ?_) (a' := ?_) #[true, true, true, true, true, true, true, true, true, true, true, true, true, true, true, true, true, true] rfl rfl (any_of HT_.out (by kernel_rfl)) (fun _ _ _ h => h) (Or.inl ⟨by rfl, ?_⟩) ?_ ?_
  rotate_left
  · intro w'
    go_simp
    with_reducible rfl
  rotate_left
  · simp only [Act.put, List.setIfInBounds_toArray, List.set_cons_zero, List.set_cons_succ, i64_w, i32_w]
    rfl
  refine done_ (done_of HT_.out (by kernel_rfl)) ?_
  clear hHeld HS7 b0 b1 b2 b3 b4 b5 hi1 xlo hrow HCC
  try go_wp2
  go_loopg [12] rs.length (fun kq v12 wr => ∃ (j : Nat) (T' : Nat → Prop), kq + j = rs.length ∧ v12 = .int .i64 (r0 + (j : Int)) ∧ Aside0 (J T' (done ++ (rs.take j).flatMap F) wr) ∧ Aside0 (Inv C T' wr (pre ++ cur :: List.replicate rest.length [])))
  case atStart => exact ⟨0, T, rfl, by simp, ⟨by simpa using hJ _ _ _ _ _ HJ.out (StepT.of_below (below_drew1 (Below.refl _ _))) (Grows.refl _ _)⟩, ⟨HI.out.below (below_drew1 (Below.refl _ _))⟩⟩
  case round =>
    clear HI HJ
    obtain ⟨j, T', hkj, rfl, HJ, HI⟩ := hrel
    obtain ⟨b0, b1, b2, b3, b4, b5⟩ := HI.out.c.cell
    obtain ⟨Ai, ci, hrow, hR, hcc⟩ := HI.out.at_ HLT.out
    have HR := Lib.hid hR
    have HCC := Lib.hid hcc
    clear hR hcc b0 b2 b3 b5
    by_cases hjl : j < rs.length
    · obtain ⟨g1, ⟨g2, g3⟩, g4⟩ := HSTP.out j hjl
      obtain ⟨g5, g6, g7, g8, g9⟩ := HRB.out j hjl
      obtain ⟨rj, hrj⟩ : ∃ rj : Int, rj = r0 + (j : Int) := ⟨_, rfl⟩
      rw [← hrj] at g1 g2 g3 g4 g5 g6 g7 g8 g9 ⊢
      obtain ⟨wn, hwn⟩ : ∃ wn : Int, wn = wm - rj := ⟨_, rfl⟩
      rw [← hwn] at g1 g3 g9
      have d1 : decide (rj ≤ C.rk) = true := decide_eq_true g2
      have d2 : decide (lw ≤ wn) = true := decide_eq_true g3
      have d3 : wrap64 (wt - 1 - rj) = wn := by rw [← g9, wrap64_of' (by omega) (by omega)]
      have G4 := Lib.hid g4
      have G5 := Lib.hid g5
      have G6 := Lib.hid g6
      have G78 := Lib.hid (And.intro g7 g8)
      have G9 := Lib.hid g9
      have HRJ := Lib.hid hrj
      have HKJ := Lib.hid hkj
      have HJL := Lib.hid hjl
      clear g2 g3 g4 g5 g6 g7 g8 g9 hrj hwn hkj hjl
      go_upto_region 11 with (fail)
      have nb : Below wr.heap.size wr wr.drew := below_drew1 (Below.refl _ _)
      obtain ⟨wd, hwd⟩ : ∃ wd, wd = wr.drew := ⟨_, rfl⟩
      rw [← hwd] at nb
      have nHI := HI.out.below nb
      have nHJ := hJ _ _ _ _ _ HJ.out (StepT.of_below nb) (Grows.refl _ _)
      have nHR := Kd.R_below HR.out nb
      have nb4 : wd.cell? ⟨C.B, 4, none⟩ = some (.slice (some ⟨C.L, 0, none⟩) C.sl.length C.sl.length) := by rw [hwd]; exact b4
      have nrow : wd.cell? ⟨C.L, pre.length, none⟩ = some (.slice Ai cur.length ci) := by rw [hwd]; exact hrow
      clear HI HJ HR b1 b4 hrow nb
      have HI := Lib.hid nHI
      have HJ := Lib.hid nHJ
      have HR := Lib.hid nHR
      have HS11 := Lib.hid (And.intro nb4 nrow)
      clear nHI nHJ nHR nb4 nrow
      refine start_ (n := 18) (S := fun w' => w'.cell? ⟨C.B, 4, none⟩ = some (.slice (some ⟨C.L, 0, none⟩) C.sl.length C.sl.length) ∧ w'.cell? ⟨C.L, pre.length, none⟩ = some (.slice Ai cur.length ci)) (ds := [17]) #[false, false, false, false, false, false, false, false, false, false, false, false, false, false, false, false, false, false] (by kernel_rfl) rfl rfl (by rw [← hwd]; exact HS11.out) (fun hHeld => ?_); refine with_tabW tab50_11 bits50_11 (fun HT_ HW_ => ?_)
      rw [← hwd] at hHeld ⊢; clear hwd
      refine pure_ (i := 0) (N := some 102) (v := ?_) (a' := ?_) #[true, false, false, false, false, false, false, false, false, false, false, false, false, false, false, false, false, false] rfl rfl (any_of HT_.out (by kernel_rfl)) (fun _ _ _ h => h) (Or.inl ⟨by rfl, ?_⟩) ?_ ?_
      rotate_left
      · intro w'
        go_simp
        with_reducible rfl
      rotate_left
      · simp only [Act.put, List.setIfInBounds_toArray, List.set_cons_zero, List.set_cons_succ, i64_w, i32_w]
        rfl
      refine pure_ (i := 1) (N := some 103) (v := ?_) (a' := ?_) #[true, true, false, false, false, false, false, false, false, false, false, false, false, false, false, false, false, false] rfl rfl (any_of HT_.out (by kernel_rfl)) (fun _ _ _ h => h) (Or.inl ⟨by rfl, ?_⟩) ?_ ?_
      rotate_left
      · intro w'
        go_simp
        with_reducible rfl
      rotate_left
      · simp only [Act.put, List.setIfInBounds_toArray, List.set_cons_zero, List.set_cons_succ, i64_w, i32_w]
        rfl
      refine pure_ (i := 2) (N := some 104) (v := ?_) (a' := ?_) #[true, true, true, false, false, false, false, false, false, false, false, false, false, false, false, false, false, false] rfl rfl (any_of HT_.out (by kernel_rfl)) (fun _ _ _ h => h) (Or.inl ⟨by rfl, ?_⟩) ?_ ?_
      rotate_left
      · intro w'
        go_simp
        with_reducible rfl
      rotate_left
      · simp only [Act.put, List.setIfInBounds_toArray, List.set_cons_zero, List.set_cons_succ, i64_w, i32_w]
        rfl
      refine take_ (i := 3) (N := some 105) (v := ?_) (a' := ?_) #[true, true, true, true, false, false, false, false, false, false, false, false, false, false, false, false, false, false] rfl rfl (take_ofW HT_.out HW_.out (by kernel_rfl)) (fun _ _ _ h => h) (Or.inl ⟨by rfl, ?_⟩) hHeld ?_ ?_
      rotate_left
      · rintro w' ⟨s0, s1⟩
        go_simp
        with_reducible rfl
      rotate_left
      · simp only [Act.put, List.setIfInBounds_toArray, List.set_cons_zero, List.set_cons_succ, i64_w, i32_w]
        rfl
      refine pure_ (i := 4) (N := some 106) (v := ?_) (a' := ?_) #[true, true, true, true, true, false, false, false, false, false, false, false, false, false, false, false, false, false] rfl rfl (any_of HT_.out (by kernel_rfl)) (fun _ _ _ h => h) (Or.inl ⟨by rfl, ?_⟩) ?_ ?_
      rotate_left
      · intro w'
        go_simp
        with_reducible rfl
      rotate_left
      · simp only [Act.put, List.setIfInBounds_toArray, List.set_cons_zero, List.set_cons_succ, i64_w, i32_w]
        rfl
      refine pure_ (i := 5) (N := some 107) (v := ?_) (a' := ?_) #[true, true, true, true, true, true, false, false, false, false, false, false, false, false, false, false, false, false] rfl rfl (any_of HT_.out (by kernel_rfl)) (fun _ _ _ h => h) (Or.inl ⟨by rfl, ?_⟩) ?_ ?_
      rotate_left
      · intro w'
        go_simp
        with_reducible rfl
      rotate_left
      · simp only [Act.put, List.setIfInBounds_toArray, List.set_cons_zero, List.set_cons_succ, i64_w, i32_w]
        rfl
      refine pure_ (i := 6) (N := some 108) (v := ?_) (a' := ?_) #[true, true, true, true, true, true, true, false, false, false, false, false, false, false, false, false, false, false] rfl rfl (any_of HT_.out (by kernel_rfl)) (fun _ _ _ h => h) (Or.inl ⟨by rfl, ?_⟩) ?_ ?_
      rotate_left
      · intro w'
        go_simp
        with_reducible rfl
      rotate_left
      · simp only [Act.put, List.setIfInBounds_toArray, List.set_cons_zero, List.set_cons_succ, i64_w, i32_w]
        rfl
      refine pure_ (i := 7) (N := some 109) (v := ?_) (a' := ?_) #[true, true, true, true, true, true, true, true, false, false, false, false, false, false, false, false, false, false] rfl rfl (any_of HT_.out (by kernel_rfl)) (fun _ _ _ h => h) (Or.inl ⟨by rfl, ?_⟩) ?_ ?_
      rotate_left
      · intro w'
        go_simp
        with_reducible rfl
      rotate_left
      · simp only [Act.put, List.setIfInBounds_toArray, List.set_cons_zero, List.set_cons_succ, i64_w, i32_w]
        rfl
      refine take_ (i := 8) (N := some 110) (v := ?_) (a' := ?_) #[true, true, true, true, true, true, true, true, true, false, false, false, false, false, false, false, false, false] rfl rfl (take_ofW HT_.out HW_.out (by kernel_rfl)) (fun _ _ _ h => h) (Or.inl ⟨by rfl, ?_⟩) hHeld ?_ ?_
      rotate_left
      · rintro w' ⟨s0, s1⟩
        go_simp
        with_reducible rfl
      rotate_left
      · simp only [Act.put, List.setIfInBounds_toArray, List.set_cons_zero, List.set_cons_succ, i64_w, i32_w]
        rfl
      refine pure_ (i := 9) (N := some 111) (v := ?_) (a' := ?_) #[true, true, true, true, true, true, true, true, true, true, false, false, false, false, false, false, false, false] rfl rfl (any_of HT_.out (by kernel_rfl)) (fun _ _ _ h => h) (Or.inl ⟨by rfl, ?_⟩) ?_ ?_
      rotate_left
      · intro w'
        go_simp
        with_reducible rfl
      rotate_left
      · simp only [Act.put, List.setIfInBounds_toArray, List.set_cons_zero, List.set_cons_succ, i64_w, i32_w]
        rfl
      refine pure_ (i := 10) (N := some 112) (v := ?_) (a' := ?_) #[true, true, true, true, true, true, true, true, true, true, true, false, false, false, false, false, false, false] rfl rfl (any_of HT_.out (by kernel_rfl)) (fun _ _ _ h => h) (Or.inl ⟨by rfl, ?_⟩) ?_ ?_
      rotate_left
      · intro w'
        go_simp
        with_reducible rfl
      rotate_left
      · simp only [Act.put, List.setIfInBounds_toArray, List.set_cons_zero, List.set_cons_succ, i64_w, i32_w]
        rfl
      refine take_ (i := 11) (N := some 113) (v := ?_) (a' := ?_) #[true, true, true, true, true, true, true, true, true, true, true, true, false, false, false, false, false, false] rfl rfl (take_ofW HT_.out HW_.out (by kernel_rfl)) (fun _ _ _ h => h) (Or.inl ⟨by rfl, ?_⟩) hHeld ?_ ?_
      rotate_left
      · rintro w' ⟨s0, s1⟩
        go_simp
        with_reducible rfl
      rotate_left
      · simp only [Act.put, List.setIfInBounds_toArray, List.set_cons_zero, List.set_cons_succ, i64_w, i32_w]
        rfl
      refine pure_ (i := 12) (N := some 114) (v := ?_) (a' := ?_) #[true, true, true, true, true, true, true, true, true, true, true, true, true, false, false, false, false, false] rfl rfl (any_of HT_.out (by kernel_rfl)) (fun _ _ _ h => h) (Or.inl ⟨by rfl, ?_⟩) ?_ ?_
      rotate_left
      · intro w'
        go_simp
        with_reducible rfl
      rotate_left
      · simp only [Act.put, List.setIfInBounds_toArray, List.set_cons_zero, List.set_cons_succ, i64_w, i32_w]
        rfl
      refine one_ (i := 13) (N := some 115) #[true, true, true, true, true, true, true, true, true, true, true, true, true, true, false, false, false, false] rfl rfl (one_of HT_.out (by kernel_rfl)) (by decide) (fun K hK => ?_)
      refine goes_ Try.func17 (by kernel_rfl) rfl #[.int .i64 rj] (by rfl) rfl rfl (by (try simp only [List.map_toArray, List.map_cons, List.map_nil]); first | done | rfl) ?_
      refine (enumerate_Unrank.calls rj (unrank rj) _ (unrank_f G5.out (by have := G6.out; omega))).mono ?_
      rintro e w3 ⟨rfl, hdr⟩
      refine ⟨_, rfl, ?_⟩
      have nb := hdr.below
      have nHI := HI.out.below nb
      have nHJ := hJ _ _ _ _ _ HJ.out (StepT.of_below nb) (Grows.refl _ _)
      have nHR := Kd.R_below HR.out nb
      have nb4 := (nb.cell (World.block_lt_of_cell? _ _ HS11.out.1)).trans HS11.out.1
      have nrow := (nb.cell (World.block_lt_of_cell? _ _ HS11.out.2)).trans HS11.out.2
      clear HI HJ HR HS11 nb hdr
      have HI := Lib.hid nHI
      have HJ := Lib.hid nHJ
      have HR := Lib.hid nHR
      have HS11 := Lib.hid (And.intro nb4 nrow)
      clear nHI nHJ nHR nb4 nrow
      refine hK.out _ _ HS11.out (fun hHeld => ?_)
      clear hK K
      refine norm_ (a' := ?_) ?_ ?_
      rotate_left
      · show Act.put _ (some 115) _ = _
        simp only [Act.put, List.setIfInBounds_toArray, List.set_cons_zero, List.set_cons_succ, i64_w, i32_w]
        rfl
      refine one_ (i := 14) (N := some 116) #[true, true, true, true, true, true, true, true, true, true, true, true, true, true, true, false, false, false] rfl rfl (one_of HT_.out (by kernel_rfl)) (by decide) (fun K hK => ?_)
      refine value_ (w1 := ?_) (v := ?_) (by rfl) rfl ?_ ?_
      rotate_left 2
      · go_simp
        constructor
        · rfl
        · rfl
      refine hK.out _ _ ⟨(World.cell?_alloc_lt _ _ _ (World.block_lt_of_cell? _ _ HS11.out.1)).trans HS11.out.1, (World.cell?_alloc_lt _ _ _ (World.block_lt_of_cell? _ _ HS11.out.2)).trans HS11.out.2⟩ (fun hHeld => ?_)
      clear hK K
      refine norm_ (a' := ?_) ?_ ?_
      rotate_left
      · show Act.put _ (some 116) _ = _
        simp only [Act.put, List.setIfInBounds_toArray, List.set_cons_zero, List.set_cons_succ, i64_w, i32_w]
        rfl
      refine one_ (i := 15) (N := some 117) #[true, true, true, true, true, true, true, true, true, true, true, true, true, true, true, true, false, false] rfl rfl (one_of HT_.out (by kernel_rfl)) (by decide) (fun K hK => ?_)
      refine Kd.R_append_step (Kd.int .i64) (w0 := w3) C.M0 (by rfl) (.tmp 113) (.tmp 116) 33 3 (.int .i64 0) 8 rfl Try.underlying33 info3 rfl (by decide) (by omega) (.slice Ai cur.length ci) cur (unrank rj) [.int .i64 (unrank rj)] (fun k => T' k ∨ w3.heap.size ≤ k) (fun _ => False) rfl rfl rfl (fun _ h => h.elim) (fun _ h => .inr h) (Kd.R_mono HR.out (fun _ h => .inl h)) (Below.refl _ _) HI.out.m (by have := HC2.out; omega) ?_
      intro v2 w2 ho2 hb2 hg2 hat2
      obtain ⟨A2, c2, e2⟩ := Kd.R_slice ho2
      subst e2
      have hq4 := (hb2.cell (p := ⟨C.B, 4, none⟩) hC.mB).trans HS11.out.1
      have hqr := (hb2.cell (p := ⟨C.L, pre.length, none⟩) hC.mL).trans HS11.out.2
      have hqf : w2.frozen? ⟨C.L, pre.length, none⟩ = false := by
        have h1 := HI.out.frozen pre.length
        have h2 : w2.heap[C.L]? = w3.heap[C.L]? := hb2.block C.L hC.mL
        rwa [show w2.frozen? ⟨C.L, pre.length, none⟩ = w3.frozen? ⟨C.L, pre.length, none⟩ by simp [World.frozen?, h2]]
      obtain ⟨hI2, hst2, hgr2⟩ := HI.out.app' hC HLT.out HS11.out.2 ho2 hg2 hat2
      have hJ2 := hJ _ _ _ _ _ HJ.out hst2 hgr2
      have HI2 := Lib.hid hI2
      have HJ2 := Lib.hid hJ2
      clear hI2 hst2 hgr2 hJ2 ho2 hb2 hg2 hat2 HI HJ HR HS11
      refine hK.out _ _ ⟨hq4, hqr⟩ (fun hHeld => ?_)
      clear hK K
      refine norm_ (a' := ?_) ?_ ?_
      rotate_left
      · show Act.put _ (some 117) _ = _
        simp only [Act.put, List.setIfInBounds_toArray, List.set_cons_zero, List.set_cons_succ, i64_w, i32_w]
        rfl
      refine pure_ (i := 16) (N := some 118) (v := ?_) (a' := ?_) #[true, true, true, true, true, true, true, true, true, true, true, true, true, true, true, true, true, false] rfl rfl (any_of HT_.out (by kernel_rfl)) (fun _ _ _ h => h) (Or.inl ⟨by rfl, ?_⟩) ?_ ?_
      rotate_left
      · intro w'
        go_simp
        with_reducible rfl
      rotate_left
      · simp only [Act.put, List.setIfInBounds_toArray, List.set_cons_zero, List.set_cons_succ, i64_w, i32_w]
        rfl
      refine last_ (i := 17) (N := none) #[true, true, true, true, true, true, true, true, true, true, true, true, true, true, true, true, true, true] rfl rfl (one_of HT_.out (by kernel_rfl)) (by decide) (fun K hK => ?_)
      refine skip_ (w1 := ?_) (by rfl) rfl ?_ ?_
      rotate_left
      · go_simp
        rfl
      refine hK.out _ _ ?_
      obtain ⟨T2, hT2⟩ : ∃ T2 : Nat → Prop, T2 = fun k => T' k ∨ (w3.heap.size ≤ k ∧ k < w2.heap.size) := ⟨_, rfl⟩
      rw [← hT2] at HI2 HJ2
      obtain ⟨W2, hW2⟩ : ∃ W2, W2 = w2.setCell ⟨C.L, pre.length, none⟩ (.slice A2 (cur ++ [unrank rj]).length c2) := ⟨_, rfl⟩
      rw [← hW2] at HI2 HJ2
      generalize hW2' : w2.setCell _ _ = W2'
      have hW3 : W2' = W2 := by rw [hW2, ← hW2']; simp
      clear hW2' hW2 hT2 hq4 hqr hqf
      rw [hW3]
      clear hW3 W2'
      clear hK K
      refine done_ (done_of HT_.out (by kernel_rfl)) ?_
      go_wp2_with (fail)
      refine (ih pre (cur ++ [unrank rj]) mI wn T2 W2 (done ++ (rs.take j).flatMap F) HD.out HLEN.out HPL.out (by have := HC2.out; have := HCL.out; simp; omega) (by rw [HMI.out]; simp; omega) (by rw [G9.out]; exact G78.out.1) (by rw [G9.out]; exact G78.out.2) (by have h := HPX.out j HJL.out; rw [HGET.out j HJL.out, ← HRJ.out, congrFun HF.out rj] at h; rw [G9.out]; exact h) HJ2.out HI2.out).mono ?_
      clear HI2 HJ2
      rintro e W3 ⟨b, T3, rfl, hres, hinv⟩
      obtain ⟨cx, hcx⟩ : ∃ cx, cx = cur ++ [unrank rj] := ⟨_, rfl⟩
      rw [← hcx] at hinv
      have hcxl : cx.length = cur.length + 1 := by rw [hcx]; simp
      have hcxt : cx.take cur.length = cur := by rw [hcx]; simp
      obtain ⟨Ai3, ci3, hrow, hR3, hcc3⟩ := hinv.at_ HLT.out
      obtain ⟨g3, c3, hform, _⟩ := Kd.R_form hR3 (by omega)
      have e12 : wrap64 ((cx.length : Int) - 1) = (cur.length : Int) := by rw [hcxl, wrap64_of' (by have := HC2.out; omega) (by have := HC2.out; omega)]; omega
      have p9 : (0 ≤ (cur.length : Int)) = True := eq_true (by omega)
      injection hform with hf1 _ hf3
      subst hf1
      subst hf3
      have pa : ((cur.length : Int) ≤ (ci3 : Int)) = True := eq_true (by omega)
      have pb : (cur.length ≤ ci3) = True := eq_true (by omega)
      have pc : (cur.length ≤ cx.length) = True := eq_true (by omega)
      obtain ⟨_, _, _, _, b4, _⟩ := hinv.c.cell
      have hqf := hinv.frozen pre.length
      have HCXL := Lib.hid hcxl
      have HCX := Lib.hid hcx
      have HCXT := Lib.hid hcxt
      have HRES := Lib.hid hres
      have HINV := Lib.hid hinv
      have HS13 := Lib.hid (And.intro b4 hrow)
      clear hcxl hcx hcxt hres hinv hR3 hcc3 b4 hrow hqf
      go_upto_region 13 with (fail)
      have nb : Below W3.heap.size W3 W3.drew := below_drew1 (Below.refl _ _)
      obtain ⟨wd, hwd⟩ : ∃ wd, wd = W3.drew := ⟨_, rfl⟩
      rw [← hwd] at nb
      have nHI := HINV.out.below nb
      have nHJ := HRES.out.step hJ hJx (StepT.of_below nb) (Grows.refl _ _)
      have nb4 := (nb.cell (World.block_lt_of_cell? _ _ HS13.out.1)).trans HS13.out.1
      have nrow := (nb.cell (World.block_lt_of_cell? _ _ HS13.out.2)).trans HS13.out.2
      clear HINV HRES HS13 nb
      have HINV := Lib.hid nHI
      have HRES := Lib.hid nHJ
      have HS13 := Lib.hid (And.intro nb4 nrow)
      clear nHI nHJ nb4 nrow
      refine start_ (n := 24) (S := fun w' => w'.cell? ⟨C.B, 4, none⟩ = some (.slice (some ⟨C.L, 0, none⟩) C.sl.length C.sl.length) ∧ w'.cell? ⟨C.L, pre.length, none⟩ = some (.slice (some ⟨g3, 0, none⟩) cx.length ci3)) (ds := [23]) #[false, false, false, false, false, false, false, false, false, false, false, false, false, false, false, false, false, false, false, false, false, false, false, false] (by kernel_rfl) rfl rfl (by rw [← hwd]; exact HS13.out) (fun hHeld => ?_); refine with_tabW tab50_13 bits50_13 (fun HT_ HW_ => ?_)
      rw [← hwd] at hHeld ⊢; clear hwd
      refine pure_ (i := 0) (N := some 127) (v := ?_) (a' := ?_) #[true, false, false, false, false, false, false, false, false, false, false, false, false, false, false, false, false, false, false, false, false, false, false, false] rfl rfl (any_of HT_.out (by kernel_rfl)) (fun _ _ _ h => h) (Or.inl ⟨by rfl, ?_⟩) ?_ ?_
      rotate_left
      · intro w'
        go_simp
        with_reducible rfl
      rotate_left
      · simp only [Act.put, List.setIfInBounds_toArray, List.set_cons_zero, List.set_cons_succ, i64_w, i32_w]
        rfl
      refine pure_ (i := 1) (N := some 128) (v := ?_) (a' := ?_) #[true, true, false, false, false, false, false, false, false, false, false, false, false, false, false, false, false, false, false, false, false, false, false, false] rfl rfl (any_of HT_.out (by kernel_rfl)) (fun _ _ _ h => h) (Or.inl ⟨by rfl, ?_⟩) ?_ ?_
      rotate_left
      · intro w'
        go_simp
        with_reducible rfl
      rotate_left
      · simp only [Act.put, List.setIfInBounds_toArray, List.set_cons_zero, List.set_cons_succ, i64_w, i32_w]
        rfl
      refine pure_ (i := 2) (N := some 129) (v := ?_) (a' := ?_) #[true, true, true, false, false, false, false, false, false, false, false, false, false, false, false, false, false, false, false, false, false, false, false, false] rfl rfl (any_of HT_.out (by kernel_rfl)) (fun _ _ _ h => h) (Or.inl ⟨by rfl, ?_⟩) ?_ ?_
      rotate_left
      · intro w'
        go_simp
        with_reducible rfl
      rotate_left
      · simp only [Act.put, List.setIfInBounds_toArray, List.set_cons_zero, List.set_cons_succ, i64_w, i32_w]
        rfl
      refine take_ (i := 3) (N := some 130) (v := ?_) (a' := ?_) #[true, true, true, true, false, false, false, false, false, false, false, false, false, false, false, false, false, false, false, false, false, false, false, false] rfl rfl (take_ofW HT_.out HW_.out (by kernel_rfl)) (fun _ _ _ h => h) (Or.inl ⟨by rfl, ?_⟩) hHeld ?_ ?_
      rotate_left
      · rintro w' ⟨s0, s1⟩
        go_simp
        with_reducible rfl
      rotate_left
      · simp only [Act.put, List.setIfInBounds_toArray, List.set_cons_zero, List.set_cons_succ, i64_w, i32_w]
        rfl
      refine pure_ (i := 4) (N := some 131) (v := ?_) (a' := ?_) #[true, true, true, true, true, false, false, false, false, false, false, false, false, false, false, false, false, false, false, false, false, false, false, false] rfl rfl (any_of HT_.out (by kernel_rfl)) (fun _ _ _ h => h) (Or.inl ⟨by rfl, ?_⟩) ?_ ?_
      rotate_left
      · intro w'
        go_simp
        with_reducible rfl
      rotate_left
      · simp only [Act.put, List.setIfInBounds_toArray, List.set_cons_zero, List.set_cons_succ, i64_w, i32_w]
        rfl
      refine pure_ (i := 5) (N := some 132) (v := ?_) (a' := ?_) #[true, true, true, true, true, true, false, false, false, false, false, false, false, false, false, false, false, false, false, false, false, false, false, false] rfl rfl (any_of HT_.out (by kernel_rfl)) (fun _ _ _ h => h) (Or.inl ⟨by rfl, ?_⟩) ?_ ?_
      rotate_left
      · intro w'
        go_simp
        with_reducible rfl
      rotate_left
      · simp only [Act.put, List.setIfInBounds_toArray, List.set_cons_zero, List.set_cons_succ, i64_w, i32_w]
        rfl
      refine pure_ (i := 6) (N := some 133) (v := ?_) (a' := ?_) #[true, true, true, true, true, true, true, false, false, false, false, false, false, false, false, false, false, false, false, false, false, false, false, false] rfl rfl (any_of HT_.out (by kernel_rfl)) (fun _ _ _ h => h) (Or.inl ⟨by rfl, ?_⟩) ?_ ?_
      rotate_left
      · intro w'
        go_simp
        with_reducible rfl
      rotate_left
      · simp only [Act.put, List.setIfInBounds_toArray, List.set_cons_zero, List.set_cons_succ, i64_w, i32_w]
        rfl
      refine pure_ (i := 7) (N := some 134) (v := ?_) (a' := ?_) #[true, true, true, true, true, true, true, true, false, false, false, false, false, false, false, false, false, false, false, false, false, false, false, false] rfl rfl (any_of HT_.out (by kernel_rfl)) (fun _ _ _ h => h) (Or.inl ⟨by rfl, ?_⟩) ?_ ?_
      rotate_left
      · intro w'
        go_simp
        with_reducible rfl
      rotate_left
      · simp only [Act.put, List.setIfInBounds_toArray, List.set_cons_zero, List.set_cons_succ, i64_w, i32_w]
        rfl
      refine take_ (i := 8) (N := some 135) (v := ?_) (a' := ?_) #[true, true, true, true, true, true, true, true, true, false, false, false, false, false, false, false, false, false, false, false, false, false, false, false] rfl rfl (take_ofW HT_.out HW_.out (by kernel_rfl)) (fun _ _ _ h => h) (Or.inl ⟨by rfl, ?_⟩) hHeld ?_ ?_
      rotate_left
      · rintro w' ⟨s0, s1⟩
        go_simp
        with_reducible rfl
      rotate_left
      · simp only [Act.put, List.setIfInBounds_toArray, List.set_cons_zero, List.set_cons_succ, i64_w, i32_w]
        rfl
      refine pure_ (i := 9) (N := some 136) (v := ?_) (a' := ?_) #[true, true, true, true, true, true, true, true, true, true, false, false, false, false, false, false, false, false, false, false, false, false, false, false] rfl rfl (any_of HT_.out (by kernel_rfl)) (fun _ _ _ h => h) (Or.inl ⟨by rfl, ?_⟩) ?_ ?_
      rotate_left
      · intro w'
        go_simp
        with_reducible rfl
      rotate_left
      · simp only [Act.put, List.setIfInBounds_toArray, List.set_cons_zero, List.set_cons_succ, i64_w, i32_w]
        rfl
      refine pure_ (i := 10) (N := some 137) (v := ?_) (a' := ?_) #[true, true, true, true, true, true, true, true, true, true, true, false, false, false, false, false, false, false, false, false, false, false, false, false] rfl rfl (any_of HT_.out (by kernel_rfl)) (fun _ _ _ h => h) (Or.inl ⟨by rfl, ?_⟩) ?_ ?_
      rotate_left
      · intro w'
        go_simp
        with_reducible rfl
      rotate_left
      · simp only [Act.put, List.setIfInBounds_toArray, List.set_cons_zero, List.set_cons_succ, i64_w, i32_w]
        rfl
      refine take_ (i := 11) (N := some 138) (v := ?_) (a' := ?_) #[true, true, true, true, true, true, true, true, true, true, true, true, false, false, false, false, false, false, false, false, false, false, false, false] rfl rfl (take_ofW HT_.out HW_.out (by kernel_rfl)) (fun _ _ _ h => h) (Or.inl ⟨by rfl, ?_⟩) hHeld ?_ ?_
      rotate_left
      · rintro w' ⟨s0, s1⟩
        go_simp
        with_reducible rfl
      rotate_left
      · simp only [Act.put, List.setIfInBounds_toArray, List.set_cons_zero, List.set_cons_succ, i64_w, i32_w]
        rfl
      refine pure_ (i := 12) (N := some 139) (v := ?_) (a' := ?_) #[true, true, true, true, true, true, true, true, true, true, true, true, true, false, false, false, false, false, false, false, false, false, false, false] rfl rfl (any_of HT_.out (by kernel_rfl)) (fun _ _ _ h => h) (Or.inl ⟨by rfl, ?_⟩) ?_ ?_
      rotate_left
      · intro w'
        go_simp
        with_reducible rfl
      rotate_left
      · simp only [Act.put, List.setIfInBounds_toArray, List.set_cons_zero, List.set_cons_succ, i64_w, i32_w]
        rfl
      refine pure_ (i := 13) (N := some 140) (v := ?_) (a' := ?_) #[true, true, true, true, true, true, true, true, true, true, true, true, true, true, false, false, false, false, false, false, false, false, false, false] rfl rfl (any_of HT_.out (by kernel_rfl)) (fun _ _ _ h => h) (Or.inl ⟨by rfl, ?_⟩) ?_ ?_
      rotate_left
      · intro w'
        go_simp
        with_reducible rfl
      rotate_left
      · simp only [Act.put, List.setIfInBounds_toArray, List.set_cons_zero, List.set_cons_succ, i64_w, i32_w]
        rfl
      refine pure_ (i := 14) (N := some 141) (v := ?_) (a' := ?_) #[true, true, true, true, true, true, true, true, true, true, true, true, true, true, true, false, false, false, false, false, false, false, false, false] rfl rfl (any_of HT_.out (by kernel_rfl)) (fun _ _ _ h => h) (Or.inl ⟨by rfl, ?_⟩) ?_ ?_
      rotate_left
      · intro w'
        go_simp
        with_reducible rfl
      rotate_left
      · simp only [Act.put, List.setIfInBounds_toArray, List.set_cons_zero, List.set_cons_succ, i64_w, i32_w]
        rfl
      refine take_ (i := 15) (N := some 142) (v := ?_) (a' := ?_) #[true, true, true, true, true, true, true, true, true, true, true, true, true, true, true, true, false, false, false, false, false, false, false, false] rfl rfl (take_ofW HT_.out HW_.out (by kernel_rfl)) (fun _ _ _ h => h) (Or.inl ⟨by rfl, ?_⟩) hHeld ?_ ?_
      rotate_left
      · rintro w' ⟨s0, s1⟩
        go_simp
        with_reducible rfl
      rotate_left
      · simp only [Act.put, List.setIfInBounds_toArray, List.set_cons_zero, List.set_cons_succ, i64_w, i32_w]
        rfl
      refine pure_ (i := 16) (N := some 143) (v := ?_) (a' := ?_) #[true, true, true, true, true, true, true, true, true, true, true, true, true, true, true, true, true, false, false, false, false, false, false, false] rfl rfl (any_of HT_.out (by kernel_rfl)) (fun _ _ _ h => h) (Or.inl ⟨by rfl, ?_⟩) ?_ ?_
      rotate_left
      · intro w'
        go_simp
        with_reducible rfl
      rotate_left
      · simp only [Act.put, List.setIfInBounds_toArray, List.set_cons_zero, List.set_cons_succ, i64_w, i32_w]
        rfl
      refine pure_ (i := 17) (N := some 144) (v := ?_) (a' := ?_) #[true, true, true, true, true, true, true, true, true, true, true, true, true, true, true, true, true, true, false, false, false, false, false, false] rfl rfl (any_of HT_.out (by kernel_rfl)) (fun _ _ _ h => h) (Or.inl ⟨by rfl, ?_⟩) ?_ ?_
      rotate_left
      · intro w'
        go_simp
        with_reducible rfl
      rotate_left
      · simp only [Act.put, List.setIfInBounds_toArray, List.set_cons_zero, List.set_cons_succ, i64_w, i32_w]
        rfl
      refine take_ (i := 18) (N := some 145) (v := ?_) (a' := ?_) #[true, true, true, true, true, true, true, true, true, true, true, true, true, true, true, true, true, true, true, false, false, false, false, false] rfl rfl (take_ofW HT_.out HW_.out (by kernel_rfl)) (fun _ _ _ h => h) (Or.inl ⟨by rfl, ?_⟩) hHeld ?_ ?_
      rotate_left
      · rintro w' ⟨s0, s1⟩
        go_simp
        with_reducible rfl
      rotate_left
      · simp only [Act.put, List.setIfInBounds_toArray, List.set_cons_zero, List.set_cons_succ, i64_w, i32_w]
        rfl
      refine pure_ (i := 19) (N := some 146) (v := ?_) (a' := ?_) #[true, true, true, true, true, true, true, true, true, true, true, true, true, true, true, true, true, true, true, true, false, false, false, false] rfl rfl (any_of HT_.out (by kernel_rfl)) (fun _ _ _ h => h) (Or.inl ⟨by rfl, ?_⟩) ?_ ?_
      rotate_left
      · intro w'
        go_simp
        with_reducible rfl
      rotate_left
      · simp only [Act.put, List.setIfInBounds_toArray, List.set_cons_zero, List.set_cons_succ, i64_w, i32_w]
        rfl
      refine pure_ (i := 20) (N := some 147) (v := ?_) (a' := ?_) #[true, true, true, true, true, true, true, true, true, true, true, true, true, true, true, true, true, true, true, true, true, false, false, false] rfl rfl (any_of HT_.out (by kernel_rfl)) (fun _ _ _ h => h) (Or.inl ⟨by rfl, ?_⟩) ?_ ?_
      rotate_left
      · intro w'
        go_simp
        with_reducible rfl
      rotate_left
      · simp only [Act.put, List.setIfInBounds_toArray, List.set_cons_zero, List.set_cons_succ, i64_w, i32_w]
        rfl
      refine pure_ (i := 21) (N := some 148) (v := ?_) (a' := ?_) #[true, true, true, true, true, true, true, true, true, true, true, true, true, true, true, true, true, true, true, true, true, true, false, false] rfl rfl (any_of HT_.out (by kernel_rfl)) (fun _ _ _ h => h) (Or.inl ⟨by rfl, ?_⟩) ?_ ?_
      rotate_left
      · intro w'
        go_simp
        with_reducible rfl
      rotate_left
      · simp only [Act.put, List.setIfInBounds_toArray, List.set_cons_zero, List.set_cons_succ, i64_w, i32_w]
        rfl
      refine pure_ (i := 22) (N := some 149) (v := ?_) (a' := ?_) #[true, true, true, true, true, true, true, true, true, true, true, true, true, true, true, true, true, true, true, true, true, true, true, false] rfl rfl (any_of HT_.out (by kernel_rfl)) (fun _ _ _ h => h) (Or.inl ⟨by rfl, ?_⟩) ?_ ?_
      rotate_left
      · intro w'
        go_simp
        with_reducible rfl
      rotate_left
      · simp only [Act.put, List.setIfInBounds_toArray, List.set_cons_zero, List.set_cons_succ, i64_w, i32_w]
        rfl
      refine last_ (i := 23) (N := none) #[true, true, true, true, true, true, true, true, true, true, true, true, true, true, true, true, true, true, true, true, true, true, true, true] rfl rfl (one_of HT_.out (by kernel_rfl)) (by decide) (fun K hK => ?_)
      have hqf := HINV.out.frozen pre.length
      have hqc := HS13.out.2
      refine skip_ (w1 := ?_) (by rfl) rfl ?_ ?_
      rotate_left
      · go_simp
        rfl
      refine hK.out _ _ ?_
      have hI4 := HINV.out.cut' hC HLT.out HS13.out.2 cur.length (by have := HCXL.out; omega)
      have hR4 := HRES.out.step hJ hJx (HINV.out.stepCut pre.length (.slice (some ⟨g3, 0, none⟩) cur.length ci3)) (Grows.refl _ _)
      clear hqf hqc
      clear hK K
      refine done_ (done_of HT_.out (by kernel_rfl)) ?_
      have hI5 := hI4
      rw [HCXT.out] at hI5
      have HI5 := Lib.hid hI5
      have HR4 := Lib.hid hR4
      clear hI4 hI5 hR4 HINV HRES HS13 hHeld
      have hF9 : F rj = (elemO C.rk (lowOf rest) (highOf C.rk rest) (slotO C.rk rest) left wn).map fun q => pre ++ ((cur ++ [unrank rj]) ++ q.1) :: q.2 := by rw [HF.out, G9.out]
      have HF9 := Lib.hid hF9
      clear hF9
      cases b with
      | true =>
        go_wp2
        go_roundg (rs.length - (j + 1))
        case measure => have := HKJ.out; have := HJL.out; omega
        case rel =>
          refine ⟨j + 1, T3, by have := HKJ.out; have := HJL.out; omega, by rw [G4.out], ⟨?_⟩, ⟨HI5.out⟩⟩
          rw [flat_take rs F j HJL.out, HGET.out j HJL.out, ← HRJ.out, HF9.out]
          exact HR4.out.thru
      | false =>
        go_wp2
        go_ret
        refine ⟨false, T3, rfl, ?_, HI5.out⟩
        rw [flat_all rs F j HJL.out, HGET.out j HJL.out, ← HRJ.out, HF9.out]
        exact HR4.out.stop
    · obtain ⟨rj, hrj⟩ : ∃ rj : Int, rj = r0 + (j : Int) := ⟨_, rfl⟩
      have hje : j = rs.length := by omega
      have hend := HEND.out
      rw [← hje, ← hrj] at hend
      rw [← hrj]
      have HJE := Lib.hid hje
      clear hrj hje hjl hkj
      have hfin : SPost C J Jx done (rs.flatMap F) (pre ++ cur :: List.replicate rest.length []) (.returned (.bool true)) wr := by
        refine ⟨true, T', rfl, .inl ⟨rfl, ?_⟩, HI.out⟩
        have h1 := HJ.out
        rw [HJE.out, List.take_of_length_le (Nat.le_refl _)] at h1
        exact h1
      have HFIN := Lib.hid hfin
      clear hfin
      by_cases g1 : rj ≤ C.rk
      · obtain ⟨g2, d3, g3⟩ : wrap64 (wm - rj) = wm - rj ∧ wrap64 (wt - 1 - rj) = wm - rj ∧ wm - rj < lw := by
          rcases hend with h | h
          · exact absurd g1 (by omega)
          · exact h.2
        obtain ⟨wn, hwn⟩ : ∃ wn : Int, wn = wm - rj := ⟨_, rfl⟩
        rw [← hwn] at g2 g3 d3
        have d1 : decide (rj ≤ C.rk) = true := decide_eq_true g1
        have d2 : decide (lw ≤ wn) = false := decide_eq_false (by omega)
        clear hend hwn g1 g3
        go_wp2
        go_ret
        exact HFIN.out
      · have d1 : decide (rj ≤ C.rk) = false := decide_eq_false g1
        clear hend g1
        go_wp2
        go_ret
        exact HFIN.out
end Go.Proofs.Ytgcdeablfoomhaa.PAll
end
section
set_option linter.unusedVariables false
set_option linter.unusedSimpArgs false
namespace Go.Proofs.Ytgcdeablfoomhaa.PAll
open Go.RowKit Go.Proofs.YtgcdeablfoomhaaW.PrintWords Go.Proofs.YtgcdeablfoomhaaW.PrintLast Go.Proofs.YtgcdeablfoomhaaW.PrintMore
attribute [local go_sem] max_two
theorem tab33_6 : rtab .any (opsOf Try.f33 6) = (true, [([], []), ([0], [0]), ([1], [1]), ([2], [2]), ([], []), ([], []), ([5], [5]), ([6], [6]), ([7], [7]), ([], []), ([8, 9], [8, 9]), ([10], [10]), ([11], [11]), ([3, 4, 0, 1, 2, 3, 4, 5, 6, 7, 8, 9, 10, 11, 12], [3, 4]), ([13, 12, 0, 1, 2, 3, 4, 5, 6, 7, 8, 9, 10, 11, 12], [12, 13])]) := by kernel_rfl
theorem bits33_6 : waitsOk (true, [([], []), ([0], [0]), ([1], [1]), ([2], [2]), ([], []), ([], []), ([5], [5]), ([6], [6]), ([7], [7]), ([], []), ([8, 9], [8, 9]), ([10], [10]), ([11], [11]), ([3, 4, 0, 1, 2, 3, 4, 5, 6, 7, 8, 9, 10, 11, 12], [3, 4]), ([13, 12, 0, 1, 2, 3, 4, 5, 6, 7, 8, 9, 10, 11, 12], [12, 13])]).2 [0, 1, 3, 7, 0, 0, 32, 96, 224, 0, 992, 2016, 4064, 8191, 16383] = true := by decide +kernel
theorem slot_out (pre : List (List Int)) (rk : Int) (s : S62) (r : List S62) (wt : Int) :
    (slotO rk (s :: r) wt).map (fun q => pre ++ q) = (irange s.f0 s.f1).flatMap fun m => (elemO rk (lowOf r) (highOf rk r) (slotO rk r) m.toNat wt).map fun q => pre ++ (([] : List Int) ++ q.1) :: q.2 := by
  rw [slotO, List.map_flatMap]
  congr 1
  funext m
  rw [List.map_map]
  refine List.map_congr_left fun q _ => ?_
  simp
theorem nil_form {W : World} {base : Nat} {ok : Nat → Prop} {A : Option Addr} {n c : Nat} {xs : List Int} (h : Kd.R (Kd.int .i64) 3 W base ok (.slice A n c) xs) : A = none → c = 0 := by
  rintro rfl
  obtain ⟨_, inner, ho, _⟩ := h
  rcases ho.2 with ⟨he, _⟩ | ⟨g, cap, cur, he, _⟩
  · injection he
  · cases he
set_option maxRecDepth 100000 in
set_option maxHeartbeats 16000000 in
theorem slot_cons (C : Cx) (hC : C.Ok) (L : List (List (List Int))) (J Jx : (Nat → Prop) → List (List (List Int)) → World → Prop) (hJ : Abide J) (hJx : Abide Jx) (s : S62) (r : List S62) (hel : ∀ left, ElemC C L J Jx r left) : SlotC C L J Jx (s :: r) := by
  intro pre wt T W done hd hlen hpl hw0 hw1 hpx hj hi
  have hlt : pre.length < C.sl.length := by rw [List.length_cons] at hlen; omega
  have hsi : C.sl[pre.length] = s := by
    have h1 := List.drop_eq_getElem_cons hlt
    rw [hd] at h1
    exact (List.cons.inj h1).1.symm
  have hdr : C.sl.drop (pre.length + 1) = r := by
    have h1 := List.drop_eq_getElem_cons hlt
    rw [hd] at h1
    exact (List.cons.inj h1).2.symm
  have hsb := hC.s s (by rw [← hsi]; exact List.getElem_mem hlt)
  rw [slot_out] at hpx
  rw [slot_out, List.length_cons, List.replicate_succ]
  rw [List.length_cons, List.replicate_succ] at hi
  obtain ⟨F, hF⟩ : ∃ F, F = fun m : Int => (elemO C.rk (lowOf r) (highOf C.rk r) (slotO C.rk r) m.toNat wt).map fun q => pre ++ (([] : List Int) ++ q.1) :: q.2 := ⟨_, rfl⟩
  obtain ⟨m0, hm0⟩ : ∃ m0 : Int, m0 = s.f0 := ⟨_, rfl⟩
  obtain ⟨m1, hm1⟩ : ∃ m1 : Int, m1 = s.f1 := ⟨_, rfl⟩
  rw [← hF, ← hm0, ← hm1] at hpx ⊢
  rw [← hm0, ← hm1] at hsb
  obtain ⟨rs, hrs⟩ : ∃ rs, rs = irange m0 m1 := ⟨_, rfl⟩
  have hcount : ∀ j : Nat, j < rs.length ↔ m0 + (j : Int) ≤ m1 := fun j => by rw [hrs, irange_length]; omega
  have hrl : (rs.length : Int) ≤ 1001 := by rw [hrs, irange_length]; omega
  have hget : ∀ (j : Nat) (h : j < rs.length), rs[j] = m0 + (j : Int) := fun j h => by subst hrs; exact irange_get _ _ j h
  rw [← hrs] at hpx ⊢
  have HPX := Lib.hid (fun (j : Nat) (hjl : j < rs.length) => pre_flat hpx j hjl)
  clear hpx
  have HSTP := Lib.hid (show ∀ (j : Nat), j < rs.length → m0 + (j : Int) ≤ m1 ∧ wrap64 (m0 + (j : Int) + 1) = m0 + ((j + 1 : Nat) : Int) ∧ 0 ≤ m0 + (j : Int) ∧ m0 + (j : Int) ≤ 1000 from fun j hjl => by
    have h1 := (hcount j).1 hjl
    refine ⟨by omega, ?_, by omega, by omega⟩
    rw [wrap64_of' (by omega) (by omega)]; omega)
  have HEND := Lib.hid (show ¬ m0 + (rs.length : Int) ≤ m1 from mt (hcount rs.length).2 (Nat.lt_irrefl _))
  clear hcount hrl
  obtain ⟨b0, b1, b2, b3, b4, b5⟩ := hi.c.cell
  obtain ⟨xs0, xs1⟩ := hi.c.s_ pre.length hlt
  rw [hsi, ← hm0] at xs0
  rw [hsi, ← hm1] at xs1
  have p1 : (0 ≤ (pre.length : Int)) = True := eq_true (by omega)
  have p2 : ((pre.length : Int) < (C.sl.length : Int)) = True := eq_true (by omega)
  have p3 : (pre.length < C.sl.length) = True := eq_true (by omega)
  have q1 : ((pre.length : Int) == (C.sl.length : Int)) = false := beq_eq_false_iff_ne.mpr (by omega)
  have q2 : decide ((pre.length : Int) = (C.sl.length : Int)) = false := decide_eq_false (by omega)
  have q3 : decide (pre.length = C.sl.length) = false := decide_eq_false (by omega)
  have q4 : (pre.length == C.sl.length) = false := beq_eq_false_iff_ne.mpr (by omega)
  have hlen2 : pre.length + 1 + r.length = C.sl.length := by rw [List.length_cons] at hlen; omega
  have HI := Lib.hid hi
  have HJ := Lib.hid hj
  have HPL := Lib.hid hpl
  have HD := Lib.hid hdr
  have HLEN := Lib.hid hlen2
  have HLT := Lib.hid hlt
  have HF := Lib.hid hF
  have HGET := Lib.hid hget
  have HSI := Lib.hid hsi
  have HM0 := Lib.hid hm0
  have HM1 := Lib.hid hm1
  clear hi hj hpl hdr hlen2 hlen hF hget hd hrs hsi hm0 hm1
  go_enter Try.func33, Try.ntmps33
  try go_wp2
  go_loopg [7] rs.length (fun kq v7 wr => ∃ (j : Nat) (T' : Nat → Prop), kq + j = rs.length ∧ v7 = .int .i64 (m0 + (j : Int)) ∧ Aside0 (J T' (done ++ (rs.take j).flatMap F) wr) ∧ Aside0 (Inv C T' wr (pre ++ [] :: List.replicate r.length [])))
  case atStart => exact ⟨0, T, rfl, by simp, ⟨by simpa using HJ.out⟩, ⟨HI.out⟩⟩
  case round =>
    clear HI HJ b0 b1 b2 b3 b4 b5 xs0 xs1
    obtain ⟨j, T', hkj, rfl, HJ, HI⟩ := hrel
    obtain ⟨b0, b1, b2, b3, b4, b5⟩ := HI.out.c.cell
    obtain ⟨xs0, xs1⟩ := HI.out.c.s_ pre.length HLT.out
    rw [HSI.out, ← HM0.out] at xs0
    rw [HSI.out, ← HM1.out] at xs1
    obtain ⟨Ai, ci, hrow, hR, hcc⟩ := HI.out.at_ HLT.out
    have hnf := nil_form hR
    rw [List.length_nil] at hrow
    clear hR hcc
    by_cases hjl : j < rs.length
    · obtain ⟨g1, g2, g3, g4⟩ := HSTP.out j hjl
      obtain ⟨rj, hrj⟩ : ∃ rj : Int, rj = m0 + (j : Int) := ⟨_, rfl⟩
      rw [← hrj] at g1 g2 g3 g4 ⊢
      have d1 : decide (rj ≤ m1) = true := decide_eq_true g1
      have G2 := Lib.hid g2
      have G34 := Lib.hid (And.intro g3 g4)
      have HRJ := Lib.hid hrj
      have HKJ := Lib.hid hkj
      have HJL := Lib.hid hjl
      have HNF := Lib.hid hnf
      clear g1 g2 g3 g4 hrj hkj hjl hnf
      go_upto_region 6 with (fail)
      have nb : Below wr.heap.size wr wr.drew := below_drew1 (Below.refl _ _)
      obtain ⟨wd, hwd⟩ : ∃ wd, wd = wr.drew := ⟨_, rfl⟩
      rw [← hwd] at nb
      have nHI := HI.out.below nb
      have nHJ := hJ _ _ _ _ _ HJ.out (StepT.of_below nb) (Grows.refl _ _)
      have nb4 : wd.cell? ⟨C.B, 4, none⟩ = some (.slice (some ⟨C.L, 0, none⟩) C.sl.length C.sl.length) := by rw [hwd]; exact b4
      have nrow : wd.cell? ⟨C.L, pre.length, none⟩ = some (.slice Ai 0 ci) := by rw [hwd]; exact hrow
      clear HI HJ b0 b1 b2 b3 b4 b5 xs0 xs1 hrow nb
      have HI := Lib.hid nHI
      have HJ := Lib.hid nHJ
      have HS6 := Lib.hid (And.intro nb4 nrow)
      clear nHI nHJ nb4 nrow
      refine start_ (n := 15) (S := fun w' => w'.cell? ⟨C.B, 4, none⟩ = some (.slice (some ⟨C.L, 0, none⟩) C.sl.length C.sl.length) ∧ w'.cell? ⟨C.L, pre.length, none⟩ = some (.slice Ai 0 ci)) (ds := [14]) #[false, false, false, false, false, false, false, false, false, false, false, false, false, false, false] (by kernel_rfl) rfl rfl (by rw [← hwd]; exact HS6.out) (fun hHeld => ?_); refine with_tabW tab33_6 bits33_6 (fun HT_ HW_ => ?_)
      rw [← hwd] at hHeld ⊢; clear hwd
      refine pure_ (i := 0) (N := some 42) (v := ?_) (a' := ?_) #[true, false, false, false, false, false, false, false, false, false, false, false, false, false, false] rfl rfl (any_of HT_.out (by kernel_rfl)) (fun _ _ _ h => h) (Or.inl ⟨by rfl, ?_⟩) ?_ ?_
      rotate_left
      · intro w'
        go_simp
        with_reducible rfl
      rotate_left
      · simp only [Act.put, List.setIfInBounds_toArray, List.set_cons_zero, List.set_cons_succ, i64_w, i32_w]
        rfl
      refine pure_ (i := 1) (N := some 43) (v := ?_) (a' := ?_) #[true, true, false, false, false, false, false, false, false, false, false, false, false, false, false] rfl rfl (any_of HT_.out (by kernel_rfl)) (fun _ _ _ h => h) (Or.inl ⟨by rfl, ?_⟩) ?_ ?_
      rotate_left
      · intro w'
        go_simp
        with_reducible rfl
      rotate_left
      · simp only [Act.put, List.setIfInBounds_toArray, List.set_cons_zero, List.set_cons_succ, i64_w, i32_w]
        rfl
      refine pure_ (i := 2) (N := some 44) (v := ?_) (a' := ?_) #[true, true, true, false, false, false, false, false, false, false, false, false, false, false, false] rfl rfl (any_of HT_.out (by kernel_rfl)) (fun _ _ _ h => h) (Or.inl ⟨by rfl, ?_⟩) ?_ ?_
      rotate_left
      · intro w'
        go_simp
        with_reducible rfl
      rotate_left
      · simp only [Act.put, List.setIfInBounds_toArray, List.set_cons_zero, List.set_cons_succ, i64_w, i32_w]
        rfl
      refine take_ (i := 3) (N := some 45) (v := ?_) (a' := ?_) #[true, true, true, true, false, false, false, false, false, false, false, false, false, false, false] rfl rfl (take_ofW HT_.out HW_.out (by kernel_rfl)) (fun _ _ _ h => h) (Or.inl ⟨by rfl, ?_⟩) hHeld ?_ ?_
      rotate_left
      · rintro w' ⟨s0, s1⟩
        go_simp
        with_reducible rfl
      rotate_left
      · simp only [Act.put, List.setIfInBounds_toArray, List.set_cons_zero, List.set_cons_succ, i64_w, i32_w]
        rfl
      refine pure_ (i := 4) (N := some 46) (v := ?_) (a' := ?_) #[true, true, true, true, true, false, false, false, false, false, false, false, false, false, false] rfl rfl (any_of HT_.out (by kernel_rfl)) (fun _ _ _ h => h) (Or.inl ⟨by rfl, ?_⟩) ?_ ?_
      rotate_left
      · intro w'
        go_simp
        with_reducible rfl
      rotate_left
      · simp only [Act.put, List.setIfInBounds_toArray, List.set_cons_zero, List.set_cons_succ, i64_w, i32_w]
        rfl
      refine pure_ (i := 5) (N := some 47) (v := ?_) (a' := ?_) #[true, true, true, true, true, true, false, false, false, false, false, false, false, false, false] rfl rfl (any_of HT_.out (by kernel_rfl)) (fun _ _ _ h => h) (Or.inl ⟨by rfl, ?_⟩) ?_ ?_
      rotate_left
      · intro w'
        go_simp
        with_reducible rfl
      rotate_left
      · simp only [Act.put, List.setIfInBounds_toArray, List.set_cons_zero, List.set_cons_succ, i64_w, i32_w]
        rfl
      refine pure_ (i := 6) (N := some 48) (v := ?_) (a' := ?_) #[true, true, true, true, true, true, true, false, false, false, false, false, false, false, false] rfl rfl (any_of HT_.out (by kernel_rfl)) (fun _ _ _ h => h) (Or.inl ⟨by rfl, ?_⟩) ?_ ?_
      rotate_left
      · intro w'
        go_simp
        with_reducible rfl
      rotate_left
      · simp only [Act.put, List.setIfInBounds_toArray, List.set_cons_zero, List.set_cons_succ, i64_w, i32_w]
        rfl
      refine pure_ (i := 7) (N := some 49) (v := ?_) (a' := ?_) #[true, true, true, true, true, true, true, true, false, false, false, false, false, false, false] rfl rfl (any_of HT_.out (by kernel_rfl)) (fun _ _ _ h => h) (Or.inl ⟨by rfl, ?_⟩) ?_ ?_
      rotate_left
      · intro w'
        go_simp
        with_reducible rfl
      rotate_left
      · simp only [Act.put, List.setIfInBounds_toArray, List.set_cons_zero, List.set_cons_succ, i64_w, i32_w]
        rfl
      refine take_ (i := 8) (N := some 50) (v := ?_) (a' := ?_) #[true, true, true, true, true, true, true, true, true, false, false, false, false, false, false] rfl rfl (take_ofW HT_.out HW_.out (by kernel_rfl)) (fun _ _ _ h => h) (Or.inl ⟨by rfl, ?_⟩) hHeld ?_ ?_
      rotate_left
      · rintro w' ⟨s0, s1⟩
        go_simp
        with_reducible rfl
      rotate_left
      · simp only [Act.put, List.setIfInBounds_toArray, List.set_cons_zero, List.set_cons_succ, i64_w, i32_w]
        rfl
      refine pure_ (i := 9) (N := some 51) (v := ?_) (a' := ?_) #[true, true, true, true, true, true, true, true, true, true, false, false, false, false, false] rfl rfl (any_of HT_.out (by kernel_rfl)) (fun _ _ _ h => h) (Or.inl ⟨by rfl, ?_⟩) ?_ ?_
      rotate_left
      · intro w'
        go_simp
        with_reducible rfl
      rotate_left
      · simp only [Act.put, List.setIfInBounds_toArray, List.set_cons_zero, List.set_cons_succ, i64_w, i32_w]
        rfl
      refine pure_ (i := 10) (N := some 52) (v := ?_) (a' := ?_) #[true, true, true, true, true, true, true, true, true, true, true, false, false, false, false] rfl rfl (any_of HT_.out (by kernel_rfl)) (fun _ _ _ h => h) (Or.inl ⟨by rfl, ?_⟩) ?_ ?_
      rotate_left
      · intro w'
        go_simp
        with_reducible rfl
      rotate_left
      · simp only [Act.put, List.setIfInBounds_toArray, List.set_cons_zero, List.set_cons_succ, i64_w, i32_w]
        rfl
      refine take_ (i := 11) (N := some 53) (v := ?_) (a' := ?_) #[true, true, true, true, true, true, true, true, true, true, true, true, false, false, false] rfl rfl (take_ofW HT_.out HW_.out (by kernel_rfl)) (fun _ _ _ h => h) (Or.inl ⟨by rfl, ?_⟩) hHeld ?_ ?_
      rotate_left
      · rintro w' ⟨s0, s1⟩
        go_simp
        with_reducible rfl
      rotate_left
      · simp only [Act.put, List.setIfInBounds_toArray, List.set_cons_zero, List.set_cons_succ, i64_w, i32_w]
        rfl
      refine pure_ (i := 12) (N := some 54) (v := ?_) (a' := ?_) #[true, true, true, true, true, true, true, true, true, true, true, true, true, false, false] rfl rfl (any_of HT_.out (by kernel_rfl)) (fun _ _ _ h => h) (Or.inl ⟨by rfl, ?_⟩) ?_ ?_
      rotate_left
      · intro w'
        go_simp
        with_reducible rfl
      rotate_left
      · simp only [Act.put, List.setIfInBounds_toArray, List.set_cons_zero, List.set_cons_succ, i64_w, i32_w]
        rfl
      refine pure_ (i := 13) (N := some 55) (v := ?_) (a' := ?_) #[true, true, true, true, true, true, true, true, true, true, true, true, true, true, false] rfl rfl (any_of HT_.out (by kernel_rfl)) (fun _ _ _ h => h) (Or.inl ⟨by rfl, ?_⟩) ?_ ?_
      rotate_left
      · intro w'
        go_simp
        with_reducible rfl
      rotate_left
      · simp only [Act.put, List.setIfInBounds_toArray, List.set_cons_zero, List.set_cons_succ, i64_w, i32_w]
        rfl
      refine last_ (i := 14) (N := none) #[true, true, true, true, true, true, true, true, true, true, true, true, true, true, true] rfl rfl (one_of HT_.out (by kernel_rfl)) (by decide) (fun K hK => ?_)
      have hqf := HI.out.frozen pre.length
      have hqc := HS6.out.2
      refine skip_ (w1 := ?_) (by rfl) rfl ?_ ?_
      rotate_left
      · go_simp
        rfl
      refine hK.out _ _ ?_
      have hI4 := HI.out.cut' hC HLT.out HS6.out.2 0 (Nat.le_refl _)
      have hJ4 := hJ _ _ _ _ _ HJ.out (HI.out.stepCut pre.length (.slice Ai 0 ci)) (Grows.refl _ _)
      obtain ⟨W2, hW2⟩ : ∃ W2, W2 = wd.setCell ⟨C.L, pre.length, none⟩ (.slice Ai 0 ci) := ⟨_, rfl⟩
      rw [← hW2] at hI4 hJ4 ⊢
      clear hqf hqc hW2
      have HI4 := Lib.hid hI4
      have HJ4 := Lib.hid hJ4
      clear hI4 hJ4 HI HJ HS6
      clear hK K
      refine done_ (done_of HT_.out (by kernel_rfl)) ?_
      go_wp2_with (fail)
      refine (hel rj.toNat pre [] rj wt T' W2 (done ++ (rs.take j).flatMap F) HD.out HLEN.out HPL.out (by have := G34.out; simp; omega) (by have := G34.out; simp; omega) hw0 hw1 (by have h := HPX.out j HJL.out; rw [HGET.out j HJL.out, ← HRJ.out, congrFun HF.out rj] at h; exact h) HJ4.out (by simpa using HI4.out)).mono ?_
      clear HI4 HJ4
      rintro e W3 ⟨b, T3, rfl, hres, hinv⟩
      have hF9 : F rj = (elemO C.rk (lowOf r) (highOf C.rk r) (slotO C.rk r) rj.toNat wt).map fun q => pre ++ (([] : List Int) ++ q.1) :: q.2 := by rw [HF.out]
      have HF9 := Lib.hid hF9
      have HRES := Lib.hid hres
      have HI5 := Lib.hid hinv
      clear hF9 hres hinv
      cases b with
      | true =>
        go_wp2
        go_roundg (rs.length - (j + 1))
        case measure => have := HKJ.out; have := HJL.out; omega
        case rel =>
          refine ⟨j + 1, T3, by have := HKJ.out; have := HJL.out; omega, by rw [G2.out], ⟨?_⟩, ⟨HI5.out⟩⟩
          rw [flat_take rs F j HJL.out, HGET.out j HJL.out, ← HRJ.out, HF9.out]
          exact HRES.out.thru
      | false =>
        go_wp2
        go_ret
        refine ⟨false, T3, rfl, ?_, HI5.out⟩
        rw [flat_all rs F j HJL.out, HGET.out j HJL.out, ← HRJ.out, HF9.out]
        exact HRES.out.stop
    · obtain ⟨rj, hrj⟩ : ∃ rj : Int, rj = m0 + (j : Int) := ⟨_, rfl⟩
      have hje : j = rs.length := by omega
      have hend := HEND.out
      rw [← hje, ← hrj] at hend
      rw [← hrj]
      have d1 : decide (rj ≤ m1) = false := decide_eq_false (by omega)
      have hfin : SPost C J Jx done (rs.flatMap F) (pre ++ [] :: List.replicate r.length []) (.returned (.bool true)) wr := by
        refine ⟨true, T', rfl, .inl ⟨rfl, ?_⟩, HI.out⟩
        have h1 := HJ.out
        rw [hje, List.take_of_length_le (Nat.le_refl _)] at h1
        exact h1
      have HFIN := Lib.hid hfin
      clear hfin hrj hje hjl hkj hend
      go_wp2
      go_ret
      exact HFIN.out
end Go.Proofs.Ytgcdeablfoomhaa.PAll
end
section
set_option linter.unusedVariables false
set_option linter.unusedSimpArgs false
namespace Go.Proofs.Ytgcdeablfoomhaa.PAll
open Go.RowKit Go.Proofs.YtgcdeablfoomhaaW.PrintWords Go.Proofs.YtgcdeablfoomhaaW.PrintLast Go.Proofs.YtgcdeablfoomhaaW.PrintMore
theorem Inv.reads {C : Cx} {T : Nat → Prop} {W : World} {rows : List (List Int)} (h : Inv C T W rows) (hC : C.Ok) : Kd.C (Kd.slice 3 (Kd.int .i64)) W (some ⟨C.L, 0, none⟩) rows.length rows := by
  obtain ⟨vs, h1, h2, h3, h4⟩ := h.r
  have hn := h.n
  refine ⟨rfl, ?_, fun _ => ⟨_, rfl, fun j p hj => ?_⟩⟩
  · have := hC.n1; omega
  obtain ⟨hjl, hjp⟩ := List.getElem?_eq_some_iff.1 hj
  have h5 := h3 j
  obtain ⟨A, c, e, hl, hC⟩ := Kd.R_reads h5
  have h6 := cell_list h2 j (by omega)
  rw [e] at h6
  have hg : rows.getD j [] = p := by rw [List.getD_eq_getElem?_getD, hj]; rfl
  rw [hg] at h6 hl hC
  refine ⟨[.slice A p.length c], rfl, ⟨A, c, rfl, hl, hC⟩, fun i u hu => ?_⟩
  match i, hu with
  | 0, hu =>
    have : u = .slice A p.length c := by simpa using hu.symm
    have hz : j * (Kd.slice 3 (Kd.int .i64)).sz + 0 = j := by show j * 1 + 0 = j; omega
    rw [this, addr0, hz]
    exact h6
/-- A state as_ it is handed over: its lists, the input the last one; its memory is new. -/
def encS (x : List (List Int)) (y : Value × Value) : Array Value := #[.agg #[y.1, y.2, nil3]]
def GS (z : Nat) (x : List (List Int)) (y : Value × Value) (A : World) : Prop :=
  Kd.R (Kd.slice 3 (Kd.int .i64)) 33 A z (fun _ => True) y.1 x.dropLast ∧ Kd.R (Kd.int .i64) 3 A z (fun _ => True) y.2 (x.getLastD [])
/-- What the caller of the search promises of its yield. -/
def YieldC (C : Cx) (L : List (List (List Int))) (J Jx : (Nat → Prop) → List (List (List Int)) → World → Prop) : Prop :=
  ∀ (T : Nat → Prop) (done : List (List (List Int))) (x : List (List Int)) (y : Value × Value) (Az A : World), ((done ++ [x]) <+: L) → J T done Az → (∀ k, T k → k < Az.heap.size) → Below Az.heap.size Az A → GS Az.heap.size x y A →
    YieldAt Fence.wide 0 Try.prog C.l (encS x y) A fun e B => (e = .returned (.bool true) ∧ J T (done ++ [x]) B ∧ KeepS T A B) ∨ (e = .returned (.bool false) ∧ Jx T (done ++ [x]) B ∧ KeepS T A B)
set_option maxRecDepth 100000 in
set_option maxHeartbeats 8000000 in
theorem slot_nil (C : Cx) (hC : C.Ok) (L : List (List (List Int))) (J Jx : (Nat → Prop) → List (List (List Int)) → World → Prop) (hJ : Abide J) (hJx : Abide Jx) (hY : YieldC C L J Jx) : SlotC C L J Jx [] := by
  intro pre wt T W done hd hlen hpl hw0 hw1 hpx hj hi
  have hpn : pre.length = C.sl.length := by simpa using hlen
  have hout : (slotO C.rk [] wt).map (fun q => pre ++ q) = [pre] := by simp [slotO]
  rw [hout] at hpx ⊢
  simp only [List.length_nil, List.replicate_zero, List.append_nil] at hi ⊢
  obtain ⟨cs, inp, hpre⟩ : ∃ cs inp, pre = cs ++ [inp] := by
    have h1 : pre ≠ [] := by intro h; rw [h] at hpn; have := hC.n0; simp at hpn; omega
    exact ⟨pre.dropLast, pre.getLast h1, (List.dropLast_concat_getLast h1).symm⟩
  subst hpre
  have hcn : cs.length + 1 = C.sl.length := by simpa using hpn
  obtain ⟨b0, b1, b2, b3, b4, b5⟩ := hi.c.cell
  have q1 : (((cs ++ [inp]).length : Int) == (C.sl.length : Int)) = true := by rw [hpn]; simp
  have hfin : ∀ (b : Bool) (B : World) (A Az : World), Inv C T Az (cs ++ [inp]) → Below Az.heap.size Az A → KeepS T A B → ((b = true ∧ J T (done ++ [cs ++ [inp]]) B) ∨ (b = false ∧ Jx T (done ++ [cs ++ [inp]]) B)) → SPost C J Jx done [cs ++ [inp]] (cs ++ [inp]) (.returned (.bool b)) B := by
    intro b B A Az hI hbe hk hr
    refine ⟨b, T, rfl, ?_, (hI.below hbe).keepS hk⟩
    rcases hr with ⟨h1, h2⟩ | ⟨h1, h2⟩
    · exact .inl ⟨h1, h2⟩
    · exact .inr ⟨h1, 0, by simp, by simpa using h2⟩
  have HFIN := Lib.hid hfin
  have HPX := Lib.hid hpx
  clear hpx
  have HI := Lib.hid hi
  have HJ := Lib.hid hj
  have HPL := Lib.hid hpl
  have HCN := Lib.hid hcn
  have HPN := Lib.hid hpn
  clear hfin hi hj hpl hcn hd hlen hout b1 b2 b3
  rw [hpn] at q1 ⊢
  clear hpn
  refine (callsIn_wide (n := 1)).1 ?_
  refine callsIn_of_wp Try.func33 rfl trivial ?_ rfl
  simp only [Try.ntmps33, List.size_toArray, List.length_cons, List.length_nil, Nat.reduceAdd, Nat.reduceSub, Array.replicate_succ, Array.replicate_zero, List.push_toArray, List.append_toArray, List.nil_append, List.cons_append]
  gi_wp2
  refine wpIn_region_any (by kernel_rfl) ?_
  change wpAnyIn _ _ _ _ _ _ _ _ _ (World.drew _)
  obtain ⟨Az, hAz⟩ : ∃ Az, Az = W.drew := ⟨_, rfl⟩
  have nb : Below W.heap.size W Az := by rw [hAz]; exact below_drew1 (Below.refl _ _)
  have b4' : Az.cell? ⟨C.B, 4, none⟩ = some (.slice (some ⟨C.L, 0, none⟩) C.sl.length C.sl.length) := by rw [hAz]; exact b4
  have b5' : Az.cell? ⟨C.B, 5, none⟩ = some (.func (.yield C.l) #[] #[]) := by rw [hAz]; exact b5
  rw [← hAz]
  have nHI := HI.out.below nb
  have nHJ := hJ _ _ _ _ _ HJ.out (StepT.of_below nb) (Grows.refl _ _)
  clear HI HJ nb hAz b4 b5 b0
  have HI := Lib.hid nHI
  have HJ := Lib.hid nHJ
  have hst := sea_state cs inp C.B (some ⟨C.L, 0, none⟩) C.sl.length Az (by rw [HCN.out]; exact b4') (by rw [HCN.out]; have h1 := HI.out.reads hC; rwa [HPN.out] at h1) (by have := hC.n1; have := HCN.out; omega) (fun r hr => by have := HPL.out r hr; omega)
  have HST := Lib.hid hst
  clear nHI nHJ hst
  refine wpAnyIn_take (i := 0) (v := ?_) rfl rfl (by kernel_rfl) (by kernel_rfl) (by kernel_rfl) (fun _ _ _ h => h) ⟨Or.inl ⟨by rfl, ?_⟩, fun _ => rfl⟩ ?_
  case refine_2 => intro w'; go_simp; try rfl
  refine wpAnyIn_take (i := 4) (v := ?_) rfl rfl (by kernel_rfl) (by kernel_rfl) (by kernel_rfl) (fun _ _ _ h => h) ⟨Or.inl ⟨by rfl, ?_⟩, fun _ => rfl⟩ ?_
  case refine_2 => intro w'; go_simp; try rfl
  refine wpAnyIn_take (i := 1) (v := ?_) rfl rfl (by kernel_rfl) (by kernel_rfl) (by kernel_rfl) (fun _ _ _ h => h) ⟨Or.inl ⟨by rfl, ?_⟩, fun _ => rfl⟩ ?_
  case refine_2 => intro w'; go_simp; try rfl
  refine wpAnyIn_take (i := 2) (v := ?_) rfl rfl (by kernel_rfl) (by kernel_rfl) (by kernel_rfl) (fun _ _ _ h => h) ⟨Or.inl ⟨by rfl, ?_⟩, fun _ => rfl⟩ ?_
  case refine_2 => intro w'; go_simp; try rfl
  refine wpAnyIn_ready (rs := [3, 5]) (by kernel_rfl) (by simp) (AllReadyIn.cons rfl (fun K hK => ?o3) (AllReadyIn.cons rfl (fun K hK => ?o5) AllReadyIn.nil))
  case o3 =>
    go_simp
    refine hK _ _ ?_
    clear hK K
    refine wpAnyIn_ready (rs := [5]) (by kernel_rfl) (by simp) (AllReadyIn.cons rfl (fun K hK => ?o5b) AllReadyIn.nil)
    case o5b =>
      go_simp
      refine ⟨trivial, (callsIn_wide.2 HST.out).mono ?_⟩
      rintro e A ⟨v0, v1, rfl, hv0, hv1, hbA⟩
      go_simp
      refine hK _ _ ?_
      clear hK K
      obtain ⟨fn, tmps, assign, body, hy, hR⟩ := hY T done (cs ++ [inp]) (v0, v1) Az A HPX.out HJ.out HI.out.tlt hbA ⟨by simpa using hv0, by simpa using hv1⟩
      simp only [encS] at hy
      have HR := Lib.hid hR
      have HBA := Lib.hid hbA
      clear hR hv0 hv1 hbA
      refine wpAnyIn_ready (rs := [6]) (by kernel_rfl) (by simp) (AllReadyIn.cons rfl (fun K hK => ?o6) AllReadyIn.nil)
      case o6 =>
        go_simp
        refine HR.out.mono ?_
        rintro e B hpost
        have hb2 : ∃ b : Bool, e = .returned (.bool b) ∧ KeepS T A B ∧ ((b = true ∧ J T (done ++ [cs ++ [inp]]) B) ∨ (b = false ∧ Jx T (done ++ [cs ++ [inp]]) B)) := by
          rcases hpost with ⟨h1, h2, h3⟩ | ⟨h1, h2, h3⟩
          · exact ⟨true, h1, h3, .inl ⟨rfl, h2⟩⟩
          · exact ⟨false, h1, h3, .inr ⟨rfl, h2⟩⟩
        obtain ⟨b, rfl, hk, hr⟩ := hb2
        have HPOST := Lib.hid (HFIN.out b B A Az HI.out HBA.out hk hr)
        clear hpost hk hr hy
        go_simp
        refine hK _ _ ?_
        clear hK K
        refine wpAnyIn_take (i := 7) (v := ?_) rfl rfl (by kernel_rfl) (by kernel_rfl) (by kernel_rfl) (fun _ _ _ h => h) ⟨Or.inl ⟨by rfl, ?_⟩, fun _ => rfl⟩ ?_
        case refine_2 => intro w'; go_simp; try rfl
        refine wpAnyIn_done (by kernel_rfl) ?_ _
        gi_wp2
        go_ret
        exact HPOST.out
  case o5 =>
    go_simp
    refine ⟨trivial, (callsIn_wide.2 HST.out).mono ?_⟩
    rintro e A ⟨v0, v1, rfl, hv0, hv1, hbA⟩
    have b5A := (hbA.cell (World.block_lt_of_cell? _ _ b5')).trans b5'
    go_simp
    refine hK _ _ ?_
    clear hK K
    refine wpAnyIn_ready (rs := [3]) (by kernel_rfl) (by simp) (AllReadyIn.cons rfl (fun K hK => ?o3b) AllReadyIn.nil)
    case o3b =>
      go_simp
      refine hK _ _ ?_
      clear hK K
      obtain ⟨fn, tmps, assign, body, hy, hR⟩ := hY T done (cs ++ [inp]) (v0, v1) Az A HPX.out HJ.out HI.out.tlt hbA ⟨by simpa using hv0, by simpa using hv1⟩
      simp only [encS] at hy
      have HR := Lib.hid hR
      have HBA := Lib.hid hbA
      clear hR hv0 hv1 hbA
      refine wpAnyIn_ready (rs := [6]) (by kernel_rfl) (by simp) (AllReadyIn.cons rfl (fun K hK => ?o6) AllReadyIn.nil)
      case o6 =>
        go_simp
        refine HR.out.mono ?_
        rintro e B hpost
        have hb2 : ∃ b : Bool, e = .returned (.bool b) ∧ KeepS T A B ∧ ((b = true ∧ J T (done ++ [cs ++ [inp]]) B) ∨ (b = false ∧ Jx T (done ++ [cs ++ [inp]]) B)) := by
          rcases hpost with ⟨h1, h2, h3⟩ | ⟨h1, h2, h3⟩
          · exact ⟨true, h1, h3, .inl ⟨rfl, h2⟩⟩
          · exact ⟨false, h1, h3, .inr ⟨rfl, h2⟩⟩
        obtain ⟨b, rfl, hk, hr⟩ := hb2
        have HPOST := Lib.hid (HFIN.out b B A Az HI.out HBA.out hk hr)
        clear hpost hk hr hy
        go_simp
        refine hK _ _ ?_
        clear hK K
        refine wpAnyIn_take (i := 7) (v := ?_) rfl rfl (by kernel_rfl) (by kernel_rfl) (by kernel_rfl) (fun _ _ _ h => h) ⟨Or.inl ⟨by rfl, ?_⟩, fun _ => rfl⟩ ?_
        case refine_2 => intro w'; go_simp; try rfl
        refine wpAnyIn_done (by kernel_rfl) ?_ _
        gi_wp2
        go_ret
        exact HPOST.out
/-- The whole search, from any list on. -/
theorem sea_slot (C : Cx) (hC : C.Ok) (L : List (List (List Int))) (J Jx : (Nat → Prop) → List (List (List Int)) → World → Prop) (hJ : Abide J) (hJx : Abide Jx) (hY : YieldC C L J Jx) : ∀ rest, SlotC C L J Jx rest
  | [] => slot_nil C hC L J Jx hJ hJx hY
  | s :: r => slot_cons C hC L J Jx hJ hJx s r fun left => by
    have hr := sea_slot C hC L J Jx hJ hJx hY r
    induction left with
    | zero => exact elem_zero C hC L J Jx hJ hJx r hr
    | succ n ih => exact elem_succ C hC L J Jx hJ hJx r n ih
end Go.Proofs.Ytgcdeablfoomhaa.PAll
end
section
namespace Go.Proofs.Ytgcdeablfoomhaa.PAll
open Go.RowKit Go.Proofs.YtgcdeablfoomhaaW.PrintWords Go.Proofs.YtgcdeablfoomhaaW.PrintLast Go.Proofs.YtgcdeablfoomhaaW.PrintMore
attribute [local go_sem] max2_int min2_int max_two min_two max_three min_three max_four min_four   -- for this text's walks alone
set_option linter.unusedVariables false
set_option linter.unusedSimpArgs false
mutual
def enumerate_valid.l0 : Nat → List (S48) → List Int → Int → Int → Option (Bool)
  | 0, _, _, _, _ => none
  | k + 1, x0, x18, x19, x20 => if x20 < x19 then (if 0 ≤ x20 then (if x20 < (x18.length : Int) then (if (rd x18 x20) < 0 then (some false) else (if (rd x18 x20) > 1000 then (some false) else (enumerate_valid.l0 k x0 x18 x19 (wrap64 (x20 + 1))))) else (none)) else (none)) else (enumerate_valid.l1 k x0 (x0.length : Int) 0)
def enumerate_valid.l1 : Nat → List (S48) → Int → Int → Option (Bool)
  | 0, _, _, _ => none
  | k + 1, x31, x32, x33 => if x33 < x32 then (if 0 ≤ x33 then (if x33 < (x31.length : Int) then (if ((rd_T48 x31 x33).f1) = 1 then (enumerate_valid.j2 k x31 x32 x33 ((rd_T48 x31 x33).f1) (((rd_T48 x31 x33).f1) == 1) ((rd_T48 x31 x33).f0) ((rd_T48 x31 x33).f1) ((rd_T48 x31 x33).f2)) else (enumerate_valid.j2 k x31 x32 x33 ((rd_T48 x31 x33).f1) (((rd_T48 x31 x33).f1) == 3) ((rd_T48 x31 x33).f0) ((rd_T48 x31 x33).f1) ((rd_T48 x31 x33).f2))) else (none)) else (none)) else (some true)
def enumerate_valid.j2 : Nat → List (S48) → Int → Int → Int → Bool → ByteArray → Int → Int → Option (Bool)
  | 0, _, _, _, _, _, _, _, _ => none
  | k + 1, x31, x32, x33, x38, x39, x108000, x108001, x108002 => if x39 = true then (if x108002 = 0 then (enumerate_valid.l1 k x31 x32 (wrap64 (x33 + 1))) else (some false)) else (if x38 = 2 then (if x108002 < 1 then (some false) else (if x108002 > 16 then (some false) else (enumerate_valid.l1 k x31 x32 (wrap64 (x33 + 1))))) else (some false))
end
def enumerate_valid.f (k : Nat) (l0 : List (S48)) (a1_0 : Int) (a1_1 : Int) (a1_2 : Int) : Option (Bool) := if (l0.length : Int) > 32 then (some false) else ((some (([a1_0, a1_1, a1_2] : List Int) : List Int)).bind fun y102 => (enumerate_valid.l0 k l0 y102 (y102.length : Int) 0))
set_option maxHeartbeats 8000000 in
set_option maxRecDepth 100000 in
theorem enumerate_valid.calls (k : Nat) (A0 : Option Addr) (c0 : Nat) (l0 : List (S48)) (a1_0 : Int) (a1_1 : Int) (a1_2 : Int) (r : Bool) (w : World) (hr0 : Kd.C k48 w A0 l0.length l0) (hc0 : l0.length ≤ c0) (h : enumerate_valid.f k l0 a1_0 a1_1 a1_2 = some r) :
    Calls Try.prog 32 #[.slice A0 l0.length c0, .agg #[.int .i64 a1_0, .int .i64 a1_1, .int .i64 a1_2]] w fun e w' => e = .returned (.bool r) ∧ Below w.heap.size w w' := by
  have hu24 := Try.underlying24
  have hu48 := Try.underlying48
  have HR0 := Aside0.mk hr0
  have HC0 := Aside0.mk hc0
  clear hr0 hc0
  have HB := Aside0.mk (Below.refl w.heap.size w)
  have H : (if (l0.length : Int) > 32 then (some false) else ((some (([a1_0, a1_1, a1_2] : List Int) : List Int)).bind fun y102 => (enumerate_valid.l0 k l0 y102 (y102.length : Int) 0))) = some r := h
  clear h
  by_cases c3 : (l0.length : Int) > 32
  · rw [if_pos c3] at H
    have c3b0 : decide (32 < (l0.length : Int)) = true := decide_eq_true c3
    have c3b1 : decide (32 < l0.length) = true := decide_eq_true (by omega)
    clear c3
    obtain rfl := Option.some.inj H
    go_enter Try.func32, Try.ntmps32
    go_wp2_with (first | ((with_reducible refine gate_dst (N := 3) rfl ?_); refine box_event ?hg (N := 3) ?hd (cs := #[.int .i64 a1_0, .int .i64 a1_1, .int .i64 a1_2]) (t := 24) ?hr ?_; (case hd => rfl); (case hg => rfl); (case hr => first | (go_simp; done) | (go_simp; rfl)); intro gb101 hg w4 hbox hb; have n0_ := Aside0.mk (below_step (by repeat (first | (with_reducible first | exact HB.out | apply below_alloc | apply pw_below_drewN | apply below_drew1) | exact HB.out)) hb); have n1_ := Aside0.mk (hbox); have n2_ := Aside0.mk ((by rw [hg]; exact (below_size (by repeat (first | (with_reducible first | exact HB.out | apply below_alloc | apply pw_below_drewN | apply below_drew1) | exact HB.out))) : w.heap.size ≤ gb101)); have n3_ := Aside0.mk ((by rw [hg]; exact (below_size (by repeat (first | (with_reducible first | exact HB.out | apply below_alloc | apply pw_below_drewN | apply below_drew1) | exact HB.out))) : w.heap.size ≤ gb101)); clear HB; have HB := n0_; have BK101 := n1_; have GW101 := n2_; have GE101 := n3_; clear n0_ n1_ n2_ n3_; clear hb hbox hg))
    go_ret
    exact ⟨by first | rfl | (simp [errW_none, errW_some] <;> rfl) | (simp [*, errW_none, errW_some] <;> rfl), by repeat (first | (with_reducible first | exact HB.out | apply below_alloc | apply pw_below_drewN | apply below_drew1 | refine below_set ?_ GE101.out) | exact HB.out)⟩
  · rw [if_neg c3] at H
    have c3b0 : decide (32 < (l0.length : Int)) = false := decide_eq_false c3
    have c3b1 : decide (32 < l0.length) = false := decide_eq_false (by omega)
    clear c3
    obtain ⟨y102, hy102⟩ : ∃ y_ : List Int, y_ = (([a1_0, a1_1, a1_2] : List Int)) := ⟨_, rfl⟩
    replace H : (enumerate_valid.l0 k l0 y102 (y102.length : Int) 0) = some r := by first | (rw [hy102]; with_reducible exact H) | (have H2_ := (Option.bind_some _ _).symm.trans H; rw [hy102]; with_reducible exact H2_) | (have H2_ := (Option.bind_some _ _).symm.trans H; with_reducible exact H2_) | with_reducible exact H | (rw [hy102]; exact H) | exact H
    have Ny102 := Aside0.mk hy102
    clear hy102
    have H' := Aside0.mk H
    clear H
    go_enter Try.func32, Try.ntmps32
    go_wp2_with (first | ((with_reducible refine gate_dst (N := 3) rfl ?_); refine box_event ?hg (N := 3) ?hd (cs := #[.int .i64 a1_0, .int .i64 a1_1, .int .i64 a1_2]) (t := 24) ?hr ?_; (case hd => rfl); (case hg => rfl); (case hr => first | (go_simp; done) | (go_simp; rfl)); intro gb101 hg w5 hbox hb; have n0_ := Aside0.mk (below_step (by repeat (first | (with_reducible first | exact HB.out | apply below_alloc | apply pw_below_drewN | apply below_drew1) | exact HB.out)) hb); have n1_ := Aside0.mk (hbox); have n2_ := Aside0.mk ((by rw [hg]; exact (below_size (by repeat (first | (with_reducible first | exact HB.out | apply below_alloc | apply pw_below_drewN | apply below_drew1) | exact HB.out))) : w.heap.size ≤ gb101)); have n3_ := Aside0.mk ((by rw [hg]; exact (below_size (by repeat (first | (with_reducible first | exact HB.out | apply below_alloc | apply pw_below_drewN | apply below_drew1) | exact HB.out))) : w.heap.size ≤ gb101)); clear HB; have HB := n0_; have BK101 := n1_; have GW101 := n2_; have GE101 := n3_; clear n0_ n1_ n2_ n3_; clear hb hbox hg; have hcz6_0 : w5.cell? ⟨gb101, 0, none⟩ = some (.int .i64 a1_0) := (blk_cell BK101.out 0).trans rfl; have hcz6_1 : w5.cell? ⟨gb101, 1, none⟩ = some (.int .i64 a1_1) := (blk_cell BK101.out 1).trans rfl; have hcz6_2 : w5.cell? ⟨gb101, 2, none⟩ = some (.int .i64 a1_2) := (blk_cell BK101.out 2).trans rfl; have hfz6_0 := blk_frozen BK101.out 0; have hfz6_1 := blk_frozen BK101.out 1; have hfz6_2 := blk_frozen BK101.out 2) | ((with_reducible refine gate_dst (N := 18) rfl ?_); refine Kd.R_lit (Kd.int .i64) _ 3 ?hg (N := 18) ?hd (xs := ([a1_0, a1_1, a1_2] : List Int)) (inner := [.int .i64 a1_0, .int .i64 a1_1, .int .i64 a1_2]) (ok := fun _ => True) (okp := fun _ => True) ?hr ?hp (fun _ hk => hk) trivial (Below.refl _ _) (Nat.le_refl _) (by simp) ?_; (case hd => rfl); (case hg => rfl); (case hr => first | (go_simp; done) | (go_simp; rfl)); (case hp => exact (Reps.one (show Kd.M (Kd.int .i64) _ _ _ a1_0 [.int .i64 a1_0] from rfl) (Reps.one (show Kd.M (Kd.int .i64) _ _ _ a1_1 [.int .i64 a1_1] from rfl) (Reps.one (show Kd.M (Kd.int .i64) _ _ _ a1_2 [.int .i64 a1_2] from rfl) (Reps.none _ _))))); intro v103 w7 ho8 hb hg_ hnew_; clear hg_ hnew_; (first | rw [← Ny102.out] at ho8 | (simp only [Int.reduceToNat] at ho8; rw [← Ny102.out] at ho8)); have n0_ := Aside0.mk (Kd.R_lower ho8 (below_size (by repeat (first | (with_reducible first | exact HB.out | apply below_alloc | apply pw_below_drewN | apply below_drew1 | refine below_set ?_ GE101.out) | exact HB.out)))); have n1_ := Aside0.mk (blk_below (g := gb101) (o := .cells #[.int .i64 a1_0, .int .i64 a1_1, .int .i64 a1_2] 24 (0, 0)) (by (with_reducible repeat (first | refine blk_drewN ?_ _ | refine blk_drew ?_ | refine blk_alloc ?_ _)); exact BK101.out) hb); have n2_ := Aside0.mk (below_step (by repeat (first | (with_reducible first | exact HB.out | apply below_alloc | apply pw_below_drewN | apply below_drew1 | refine below_set ?_ GE101.out) | exact HB.out)) hb); clear BK101; clear HB; have HO104 := n0_; have BK101 := n1_; have HB := n2_; clear n0_ n1_ n2_; clear hb ho8; obtain ⟨Ao9, co9, eo9⟩ := Kd.R_slice HO104.out; subst eo9))
    go_loopg [20] k (fun kq v20 w' => ∃ (x20_1 : Int), v20 = .int .i64 x20_1 ∧ Aside0 (enumerate_valid.l0 kq l0 y102 (y102.length : Int) x20_1 = some r) ∧ Aside0 (kq ≤ k) ∧ Aside0 (Kd.R (Kd.int .i64) 3 w' w.heap.size (fun _ => True) (.slice Ao9 y102.length co9) y102) ∧ Aside0 (w'.heap[gb101]? = some (.cells #[.int .i64 a1_0, .int .i64 a1_1, .int .i64 a1_2] 24 (0, 0))) ∧ Aside0 (Below w.heap.size w w'))
    case atStart => exact ⟨(0), (by first | rfl | (simp; done) | (simp [*]; done)), H', ⟨Nat.le_refl _⟩, ⟨by (with_reducible repeat (first | apply Kd.R_alloc | apply Kd.R_drewN | apply Kd.R_drew)); exact HO104.out⟩, ⟨by (with_reducible repeat (first | refine blk_drewN ?_ _ | refine blk_drew ?_ | refine blk_alloc ?_ _)); exact BK101.out⟩, ⟨by repeat (first | (with_reducible first | exact HB.out | apply below_alloc | apply pw_below_drewN | apply below_drew1 | refine below_set ?_ GE101.out) | exact HB.out)⟩⟩
    case round =>
      clear H'
      try clear p2
      try clear c3
      try clear c3b0
      try clear c3b1
      try clear hcz6_0
      try clear hcz6_1
      try clear hcz6_2
      try clear hfz6_0
      try clear hfz6_1
      try clear hfz6_2
      obtain ⟨x20_1, rfl, HA, HK1, HO_18, BK101, HB⟩ := hrel
      cases gk with
      | zero => exact absurd HA.out (by simp [enumerate_valid.l0])
      | succ k1 =>
        have H := HA.out
        clear HA
        simp only [enumerate_valid.l0] at H
        by_cases c10 : x20_1 < (y102.length : Int)
        · rw [if_pos c10] at H
          have c10b0 : decide (x20_1 < (y102.length : Int)) = true := decide_eq_true c10
          clear c10
          by_cases c11 : 0 ≤ x20_1
          · rw [if_pos c11] at H
            have c11b0 : decide (0 ≤ x20_1) = true := decide_eq_true c11
            clear c11
            by_cases c12 : x20_1 < (y102.length : Int)
            · rw [if_pos c12] at H
              have c12b0 : decide (x20_1 < (y102.length : Int)) = true := decide_eq_true c12
              clear c12
              by_cases c13 : (rd y102 x20_1) < 0
              · rw [if_pos c13] at H
                have c13b0 : decide ((rd y102 x20_1) < 0) = true := decide_eq_true c13
                clear c13
                obtain rfl := Option.some.inj H
                have p105 : 0 ≤ (x20_1 : Int) := of_decide_eq_true (by first | (with_reducible assumption) | assumption)
                have q105 : x20_1 < (y102.length : Int) := of_decide_eq_true (by first | (with_reducible assumption) | assumption)
                obtain ⟨ad105, e105, hx105_0⟩ := Kd.at_int (Kd.R_reads' HO_18.out).2.2 x20_1 p105 q105
                cases e105
                replace p105 := eq_true p105
                replace q105 := eq_true q105
                go_wp2
                go_ret
                exact ⟨by first | rfl | (simp [errW_none, errW_some] <;> rfl) | (simp [*, errW_none, errW_some] <;> rfl), by repeat (first | (with_reducible first | exact HB.out | apply below_alloc | apply pw_below_drewN | apply below_drew1 | refine below_set ?_ GE101.out) | exact HB.out)⟩
              · rw [if_neg c13] at H
                have c13b0 : decide ((rd y102 x20_1) < 0) = false := decide_eq_false c13
                clear c13
                by_cases c14 : (rd y102 x20_1) > 1000
                · rw [if_pos c14] at H
                  have c14b0 : decide (1000 < (rd y102 x20_1)) = true := decide_eq_true c14
                  clear c14
                  obtain rfl := Option.some.inj H
                  have p105 : 0 ≤ (x20_1 : Int) := of_decide_eq_true (by first | (with_reducible assumption) | assumption)
                  have q105 : x20_1 < (y102.length : Int) := of_decide_eq_true (by first | (with_reducible assumption) | assumption)
                  obtain ⟨ad105, e105, hx105_0⟩ := Kd.at_int (Kd.R_reads' HO_18.out).2.2 x20_1 p105 q105
                  cases e105
                  replace p105 := eq_true p105
                  replace q105 := eq_true q105
                  go_wp2
                  go_ret
                  exact ⟨by first | rfl | (simp [errW_none, errW_some] <;> rfl) | (simp [*, errW_none, errW_some] <;> rfl), by repeat (first | (with_reducible first | exact HB.out | apply below_alloc | apply pw_below_drewN | apply below_drew1 | refine below_set ?_ GE101.out) | exact HB.out)⟩
                · rw [if_neg c14] at H
                  have c14b0 : decide (1000 < (rd y102 x20_1)) = false := decide_eq_false c14
                  clear c14
                  have H' := Aside0.mk H
                  clear H
                  have p105 : 0 ≤ (x20_1 : Int) := of_decide_eq_true (by first | (with_reducible assumption) | assumption)
                  have q105 : x20_1 < (y102.length : Int) := of_decide_eq_true (by first | (with_reducible assumption) | assumption)
                  obtain ⟨ad105, e105, hx105_0⟩ := Kd.at_int (Kd.R_reads' HO_18.out).2.2 x20_1 p105 q105
                  cases e105
                  replace p105 := eq_true p105
                  replace q105 := eq_true q105
                  go_wp2
                  go_roundg k1
                  case measure => have := HK1.out; omega
                  case rel => exact ⟨(wrap64 (x20_1 + 1)), (by first | rfl | (simp; done) | (simp [*]; done)), H', ⟨by have := HK1.out; omega⟩, ⟨by (with_reducible repeat (first | apply Kd.R_alloc | apply Kd.R_drewN | apply Kd.R_drew)); exact HO_18.out⟩, ⟨by (with_reducible repeat (first | refine blk_drewN ?_ _ | refine blk_drew ?_ | refine blk_alloc ?_ _)); exact BK101.out⟩, ⟨by repeat (first | (with_reducible first | exact HB.out | apply below_alloc | apply pw_below_drewN | apply below_drew1 | refine below_set ?_ GE101.out) | exact HB.out)⟩⟩
            · rw [if_neg c12] at H
              exact absurd H (by simp)
          · rw [if_neg c11] at H
            exact absurd H (by simp)
        · rw [if_neg c10] at H
          have c10b0 : decide (x20_1 < (y102.length : Int)) = false := decide_eq_false c10
          clear c10
          have H' := Aside0.mk H
          clear H
          go_wp2
          go_loopg [33] k1 (fun kq v33 w' => ∃ (x33_2 : Int), v33 = .int .i64 x33_2 ∧ Aside0 (enumerate_valid.l1 kq l0 (l0.length : Int) x33_2 = some r) ∧ Aside0 (kq ≤ k1) ∧ Aside0 (w'.heap[gb101]? = some (.cells #[.int .i64 a1_0, .int .i64 a1_1, .int .i64 a1_2] 24 (0, 0))) ∧ Aside0 (Below w.heap.size w w'))
          case atStart => exact ⟨(0), (by first | rfl | (simp; done) | (simp [*]; done)), H', ⟨Nat.le_refl _⟩, ⟨by (with_reducible repeat (first | refine blk_drewN ?_ _ | refine blk_drew ?_ | refine blk_alloc ?_ _)); exact BK101.out⟩, ⟨by repeat (first | (with_reducible first | exact HB.out | apply below_alloc | apply pw_below_drewN | apply below_drew1 | refine below_set ?_ GE101.out) | exact HB.out)⟩⟩
          case round =>
            clear H'
            try clear c1
            try clear p1
            try clear q1
            try clear hx1
            try clear p2
            try clear c3
            try clear c3b0
            try clear c3b1
            try clear p6
            try clear c10
            try clear c10b0
            try clear p10
            try clear q10
            try clear hx10
            try clear c11
            try clear c11b0
            try clear c12
            try clear c12b0
            try clear c13
            try clear c13b0
            try clear c14
            try clear c14b0
            try clear hcz6_0
            try clear hcz6_1
            try clear hcz6_2
            try clear hfz6_0
            try clear hfz6_1
            try clear hfz6_2
            try clear hx105_0
            try clear p105
            try clear p2
            try clear q105
            obtain ⟨x33_2, rfl, HA, HK2, BK101, HB⟩ := hrel
            cases gk with
            | zero => exact absurd HA.out (by simp [enumerate_valid.l1])
            | succ k2 =>
              have H := HA.out
              clear HA
              simp only [enumerate_valid.l1] at H
              by_cases c15 : x33_2 < (l0.length : Int)
              · rw [if_pos c15] at H
                have c15b0 : decide (x33_2 < (l0.length : Int)) = true := decide_eq_true c15
                clear c15
                by_cases c16 : 0 ≤ x33_2
                · rw [if_pos c16] at H
                  have c16b0 : decide (0 ≤ x33_2) = true := decide_eq_true c16
                  clear c16
                  by_cases c17 : x33_2 < (l0.length : Int)
                  · rw [if_pos c17] at H
                    have c17b0 : decide (x33_2 < (l0.length : Int)) = true := decide_eq_true c17
                    clear c17
                    have HC18 := Aside0.mk H
                    clear H
                    have p106 : 0 ≤ (x33_2 : Int) := of_decide_eq_true (by first | (with_reducible assumption) | assumption)
                    have q106 : x33_2 < (l0.length : Int) := of_decide_eq_true (by first | (with_reducible assumption) | assumption)
                    obtain ⟨ad106, e106, hx106_0, hx106_1, hx106_2⟩ := at_T48 HR0.out x33_2 p106 q106
                    cases e106
                    replace hx106_0 := (HB.out.cell (World.block_lt_of_cell? w _ hx106_0)).trans hx106_0
                    replace hx106_1 := (HB.out.cell (World.block_lt_of_cell? w _ hx106_1)).trans hx106_1
                    replace hx106_2 := (HB.out.cell (World.block_lt_of_cell? w _ hx106_2)).trans hx106_2
                    replace p106 := eq_true p106
                    replace q106 := eq_true q106
                    go_upto_if 39 with (first | ((with_reducible refine gate_dst (N := 8) rfl ?_); refine box_event ?hg (N := 8) ?hd (cs := #[.string (⟨#[]⟩ : ByteArray), .int .u8 0, .int .i64 0]) (t := 48) ?hr ?_; (case hd => rfl); (case hg => rfl); (case hr => first | (go_simp; done) | (go_simp; rfl)); intro gb107 hg w19 hbox hb; have n0_ := Aside0.mk (blk_below (g := gb101) (o := .cells #[.int .i64 a1_0, .int .i64 a1_1, .int .i64 a1_2] 24 (0, 0)) (by (with_reducible repeat (first | refine blk_drewN ?_ _ | refine blk_drew ?_ | refine blk_alloc ?_ _)); exact BK101.out) hb); have n1_ := Aside0.mk (below_step (by repeat (first | (with_reducible first | exact HB.out | apply below_alloc | apply pw_below_drewN | apply below_drew1 | refine below_set ?_ GE101.out) | exact HB.out)) hb); have n2_ := Aside0.mk (hbox); have n3_ := Aside0.mk ((by rw [hg]; exact (below_size (by repeat (first | (with_reducible first | exact HB.out | apply below_alloc | apply pw_below_drewN | apply below_drew1 | refine below_set ?_ GE101.out) | exact HB.out))) : w.heap.size ≤ gb107)); have n4_ := Aside0.mk ((by rw [hg]; exact (below_size (by repeat (first | (with_reducible first | exact HB.out | apply below_alloc | apply pw_below_drewN | apply below_drew1 | refine below_set ?_ GE101.out) | exact HB.out))) : w.heap.size ≤ gb107)); have n5_ := Aside0.mk ((by rw [hg]; exact Nat.ne_of_lt (blk_lt (g := gb101) (o := .cells #[.int .i64 a1_0, .int .i64 a1_1, .int .i64 a1_2] 24 (0, 0)) (by (with_reducible repeat (first | refine blk_drewN ?_ _ | refine blk_drew ?_ | refine blk_alloc ?_ _)); exact BK101.out)) : gb101 ≠ gb107)); have n6_ := Aside0.mk ((by rw [hg]; exact Nat.ne_of_gt (blk_lt (g := gb101) (o := .cells #[.int .i64 a1_0, .int .i64 a1_1, .int .i64 a1_2] 24 (0, 0)) (by (with_reducible repeat (first | refine blk_drewN ?_ _ | refine blk_drew ?_ | refine blk_alloc ?_ _)); exact BK101.out)) : gb107 ≠ gb101)); clear BK101; clear HB; have BK101 := n0_; have HB := n1_; have BK107 := n2_; have GW107 := n3_; have GE107 := n4_; have NB101_107 := n5_; have NB107_101 := n6_; clear n0_ n1_ n2_ n3_ n4_ n5_ n6_; clear hb hbox hg; have hnb20 := NB107_101.out; have hnc20 := NB101_107.out; have hcz21_0 : w19.cell? ⟨gb107, 0, none⟩ = some (.string (⟨#[]⟩ : ByteArray)) := (blk_cell BK107.out 0).trans rfl; have hcz21_1 : w19.cell? ⟨gb107, 1, none⟩ = some (.int .u8 0) := (blk_cell BK107.out 1).trans rfl; have hcz21_2 : w19.cell? ⟨gb107, 2, none⟩ = some (.int .i64 0) := (blk_cell BK107.out 2).trans rfl; have hfz21_0 := blk_frozen BK107.out 0; have hfz21_1 := blk_frozen BK107.out 1; have hfz21_2 := blk_frozen BK107.out 2))
                    (try simp only [Act.put, List.setIfInBounds_toArray, List.set_cons_zero, List.set_cons_succ])
                    go_cut [39] (fun v39 wc => ∃ (kq : Nat) (x39_17 : Bool), v39 = .bool x39_17 ∧ Aside0 (enumerate_valid.j2 kq l0 (l0.length : Int) x33_2 ((rd_T48 l0 x33_2).f1) x39_17 ((rd_T48 l0 x33_2).f0) ((rd_T48 l0 x33_2).f1) ((rd_T48 l0 x33_2).f2) = some r) ∧ Aside0 (kq ≤ k2) ∧ Aside0 (wc.heap[gb101]? = some (.cells #[.int .i64 a1_0, .int .i64 a1_1, .int .i64 a1_2] 24 (0, 0))) ∧ Aside0 (wc.heap[gb107]? = some (.cells #[.string ((rd_T48 l0 x33_2).f0), .int .u8 ((rd_T48 l0 x33_2).f1), .int .i64 ((rd_T48 l0 x33_2).f2)] 48 (0, 0))) ∧ Aside0 (Below w.heap.size w wc))
                    case first =>
                      have H := HC18.out
                      clear HC18
                      by_cases c22 : ((rd_T48 l0 x33_2).f1) = 1
                      · rw [if_pos c22] at H
                        have c22b0 : (((rd_T48 l0 x33_2).f1) == 1) = true := beq_iff_eq.mpr c22
                        have c22b1 : (((rd_T48 l0 x33_2).f1) != 1) = false := bne_eq_false_iff_eq.mpr c22
                        clear c22
                        (first | rw [c22b0] | (simp only [i64_w, i32_w]; rw [c22b0]) | skip)
                        have H' := Aside0.mk H
                        clear H
                        go_wp2
                        go_meet
                        case rel => exact ⟨_, ((((rd_T48 l0 x33_2).f1) == 1)), (by first | rfl | (simp; done) | (simp [*]; done)), H', ⟨by have := HK1.out; have := HK2.out; first | omega | exact Nat.le_refl _⟩, ⟨by (with_reducible repeat (first | refine blk_drewN ?_ _ | refine blk_drew ?_ | refine blk_alloc ?_ _)); refine blk_far ?_ NB101_107.out _; (with_reducible repeat (first | refine blk_drewN ?_ _ | refine blk_drew ?_ | refine blk_alloc ?_ _)); refine blk_far ?_ NB101_107.out _; (with_reducible repeat (first | refine blk_drewN ?_ _ | refine blk_drew ?_ | refine blk_alloc ?_ _)); refine blk_far ?_ NB101_107.out _; (with_reducible repeat (first | refine blk_drewN ?_ _ | refine blk_drew ?_ | refine blk_alloc ?_ _)); exact BK101.out⟩, ⟨by (with_reducible repeat (first | refine blk_drewN ?_ _ | refine blk_drew ?_ | refine blk_alloc ?_ _)); refine blk_put (cs := #[.string ((rd_T48 l0 x33_2).f0), .int .u8 ((rd_T48 l0 x33_2).f1), .int .i64 0]) ?_ 2 _ rfl; (with_reducible repeat (first | refine blk_drewN ?_ _ | refine blk_drew ?_ | refine blk_alloc ?_ _)); refine blk_put (cs := #[.string ((rd_T48 l0 x33_2).f0), .int .u8 0, .int .i64 0]) ?_ 1 _ rfl; (with_reducible repeat (first | refine blk_drewN ?_ _ | refine blk_drew ?_ | refine blk_alloc ?_ _)); refine blk_put (cs := #[.string (⟨#[]⟩ : ByteArray), .int .u8 0, .int .i64 0]) ?_ 0 _ rfl; (with_reducible repeat (first | refine blk_drewN ?_ _ | refine blk_drew ?_ | refine blk_alloc ?_ _)); exact BK107.out⟩, ⟨by repeat (first | (with_reducible first | exact HB.out | apply below_alloc | apply pw_below_drewN | apply below_drew1 | refine below_set ?_ GE101.out | refine below_set ?_ GE107.out) | exact HB.out)⟩⟩
                      · rw [if_neg c22] at H
                        have c22b0 : (((rd_T48 l0 x33_2).f1) == 1) = false := beq_eq_false_iff_ne.mpr c22
                        have c22b1 : (((rd_T48 l0 x33_2).f1) != 1) = true := bne_iff_ne.mpr c22
                        (first | rw [c22b0] | (simp only [i64_w, i32_w]; rw [c22b0]) | skip)
                        have H' := Aside0.mk H
                        clear H
                        go_wp2
                        go_meet
                        case rel => exact ⟨_, ((((rd_T48 l0 x33_2).f1) == 3)), (by first | rfl | (simp; done) | (simp [*]; done)), H', ⟨by have := HK1.out; have := HK2.out; first | omega | exact Nat.le_refl _⟩, ⟨by (with_reducible repeat (first | refine blk_drewN ?_ _ | refine blk_drew ?_ | refine blk_alloc ?_ _)); refine blk_far ?_ NB101_107.out _; (with_reducible repeat (first | refine blk_drewN ?_ _ | refine blk_drew ?_ | refine blk_alloc ?_ _)); refine blk_far ?_ NB101_107.out _; (with_reducible repeat (first | refine blk_drewN ?_ _ | refine blk_drew ?_ | refine blk_alloc ?_ _)); refine blk_far ?_ NB101_107.out _; (with_reducible repeat (first | refine blk_drewN ?_ _ | refine blk_drew ?_ | refine blk_alloc ?_ _)); exact BK101.out⟩, ⟨by (with_reducible repeat (first | refine blk_drewN ?_ _ | refine blk_drew ?_ | refine blk_alloc ?_ _)); refine blk_put (cs := #[.string ((rd_T48 l0 x33_2).f0), .int .u8 ((rd_T48 l0 x33_2).f1), .int .i64 0]) ?_ 2 _ rfl; (with_reducible repeat (first | refine blk_drewN ?_ _ | refine blk_drew ?_ | refine blk_alloc ?_ _)); refine blk_put (cs := #[.string ((rd_T48 l0 x33_2).f0), .int .u8 0, .int .i64 0]) ?_ 1 _ rfl; (with_reducible repeat (first | refine blk_drewN ?_ _ | refine blk_drew ?_ | refine blk_alloc ?_ _)); refine blk_put (cs := #[.string (⟨#[]⟩ : ByteArray), .int .u8 0, .int .i64 0]) ?_ 0 _ rfl; (with_reducible repeat (first | refine blk_drewN ?_ _ | refine blk_drew ?_ | refine blk_alloc ?_ _)); exact BK107.out⟩, ⟨by repeat (first | (with_reducible first | exact HB.out | apply below_alloc | apply pw_below_drewN | apply below_drew1 | refine below_set ?_ GE101.out | refine below_set ?_ GE107.out) | exact HB.out)⟩⟩
                    case rest =>
                      clear HC18
                      try clear c1
                      try clear p1
                      try clear q1
                      try clear hx1
                      try clear c2
                      try clear p2
                      try clear c3
                      try clear c3b0
                      try clear c3b1
                      try clear p6
                      try clear c10
                      try clear c10b0
                      try clear p10
                      try clear q10
                      try clear hx10
                      try clear c11
                      try clear c11b0
                      try clear c12
                      try clear c12b0
                      try clear c13
                      try clear c13b0
                      try clear c14
                      try clear c14b0
                      try clear c15
                      try clear c15b0
                      try clear c16
                      try clear c16b0
                      try clear c17
                      try clear c17b0
                      try clear c20
                      try clear c22
                      try clear c22b0
                      try clear c22b1
                      try clear hcz21_0
                      try clear hcz21_1
                      try clear hcz21_2
                      try clear hcz6_0
                      try clear hcz6_1
                      try clear hcz6_2
                      try clear hfz21_0
                      try clear hfz21_1
                      try clear hfz21_2
                      try clear hfz6_0
                      try clear hfz6_1
                      try clear hfz6_2
                      try clear hx105_0
                      try clear hx106_0
                      try clear hx106_1
                      try clear hx106_2
                      try clear p1
                      try clear p10
                      try clear p105
                      try clear p106
                      try clear p2
                      try clear p6
                      try clear q1
                      try clear q10
                      try clear q105
                      try clear q106
                      obtain ⟨kq, x39_17, rfl, HA, HJ17, BK101, BK107, HB⟩ := hcut
                      cases kq with
                      | zero => exact absurd HA.out (by simp [enumerate_valid.j2])
                      | succ kj17 =>
                        have H := HA.out
                        clear HA
                        simp only [enumerate_valid.j2] at H
                        by_cases c23 : x39_17 = true
                        · subst c23
                          have H1 : (if ((rd_T48 l0 x33_2).f2) = 0 then (enumerate_valid.l1 kj17 l0 (l0.length : Int) (wrap64 (x33_2 + 1))) else (some false)) = some r := by rw [if_pos rfl] at H; exact H
                          clear H
                          have H := H1
                          clear H1
                          by_cases c24 : ((rd_T48 l0 x33_2).f2) = 0
                          · rw [if_pos c24] at H
                            have c24b0 : (((rd_T48 l0 x33_2).f2) == 0) = true := beq_iff_eq.mpr c24
                            have c24b1 : (((rd_T48 l0 x33_2).f2) != 0) = false := bne_eq_false_iff_eq.mpr c24
                            clear c24
                            have H' := Aside0.mk H
                            clear H
                            have hnb25 := NB107_101.out
                            have hnc25 := NB101_107.out
                            have hcz26_0 : wc.cell? ⟨gb107, 0, none⟩ = some (.string ((rd_T48 l0 x33_2).f0)) := (blk_cell BK107.out 0).trans rfl
                            have hcz26_1 : wc.cell? ⟨gb107, 1, none⟩ = some (.int .u8 ((rd_T48 l0 x33_2).f1)) := (blk_cell BK107.out 1).trans rfl
                            have hcz26_2 : wc.cell? ⟨gb107, 2, none⟩ = some (.int .i64 ((rd_T48 l0 x33_2).f2)) := (blk_cell BK107.out 2).trans rfl
                            have hfz26_0 := blk_frozen BK107.out 0
                            have hfz26_1 := blk_frozen BK107.out 1
                            have hfz26_2 := blk_frozen BK107.out 2
                            go_wp2
                            go_roundg kj17
                            case measure => have := HK1.out; have := HK2.out; have := HJ17.out; omega
                            case rel => exact ⟨(wrap64 (x33_2 + 1)), (by first | rfl | (simp; done) | (simp [*]; done)), H', ⟨by have := HK1.out; have := HK2.out; have := HJ17.out; omega⟩, ⟨by (with_reducible repeat (first | refine blk_drewN ?_ _ | refine blk_drew ?_ | refine blk_alloc ?_ _)); exact BK101.out⟩, ⟨by repeat (first | (with_reducible first | exact HB.out | apply below_alloc | apply pw_below_drewN | apply below_drew1 | refine below_set ?_ GE101.out | refine below_set ?_ GE107.out) | exact HB.out)⟩⟩
                          · rw [if_neg c24] at H
                            have c24b0 : (((rd_T48 l0 x33_2).f2) == 0) = false := beq_eq_false_iff_ne.mpr c24
                            have c24b1 : (((rd_T48 l0 x33_2).f2) != 0) = true := bne_iff_ne.mpr c24
                            obtain rfl := Option.some.inj H
                            have hnb27 := NB107_101.out
                            have hnc27 := NB101_107.out
                            have hcz28_0 : wc.cell? ⟨gb107, 0, none⟩ = some (.string ((rd_T48 l0 x33_2).f0)) := (blk_cell BK107.out 0).trans rfl
                            have hcz28_1 : wc.cell? ⟨gb107, 1, none⟩ = some (.int .u8 ((rd_T48 l0 x33_2).f1)) := (blk_cell BK107.out 1).trans rfl
                            have hcz28_2 : wc.cell? ⟨gb107, 2, none⟩ = some (.int .i64 ((rd_T48 l0 x33_2).f2)) := (blk_cell BK107.out 2).trans rfl
                            have hfz28_0 := blk_frozen BK107.out 0
                            have hfz28_1 := blk_frozen BK107.out 1
                            have hfz28_2 := blk_frozen BK107.out 2
                            go_wp2
                            go_ret
                            exact ⟨by first | rfl | (simp [errW_none, errW_some] <;> rfl) | (simp [*, errW_none, errW_some] <;> rfl), by repeat (first | (with_reducible first | exact HB.out | apply below_alloc | apply pw_below_drewN | apply below_drew1 | refine below_set ?_ GE101.out | refine below_set ?_ GE107.out) | exact HB.out)⟩
                        · replace c23 := Bool.eq_false_iff.mpr c23
                          subst c23
                          have H1 : (if ((rd_T48 l0 x33_2).f1) = 2 then (if ((rd_T48 l0 x33_2).f2) < 1 then (some false) else (if ((rd_T48 l0 x33_2).f2) > 16 then (some false) else (enumerate_valid.l1 kj17 l0 (l0.length : Int) (wrap64 (x33_2 + 1))))) else (some false)) = some r := by rw [if_neg (show ¬ (false = true) by decide)] at H; exact H
                          clear H
                          have H := H1
                          clear H1
                          by_cases c29 : ((rd_T48 l0 x33_2).f1) = 2
                          · rw [if_pos c29] at H
                            have c29b0 : (((rd_T48 l0 x33_2).f1) == 2) = true := beq_iff_eq.mpr c29
                            have c29b1 : (((rd_T48 l0 x33_2).f1) != 2) = false := bne_eq_false_iff_eq.mpr c29
                            clear c29
                            by_cases c30 : ((rd_T48 l0 x33_2).f2) < 1
                            · rw [if_pos c30] at H
                              have c30b0 : decide (((rd_T48 l0 x33_2).f2) < 1) = true := decide_eq_true c30
                              clear c30
                              obtain rfl := Option.some.inj H
                              have hnb31 := NB107_101.out
                              have hnc31 := NB101_107.out
                              have hcz32_0 : wc.cell? ⟨gb107, 0, none⟩ = some (.string ((rd_T48 l0 x33_2).f0)) := (blk_cell BK107.out 0).trans rfl
                              have hcz32_1 : wc.cell? ⟨gb107, 1, none⟩ = some (.int .u8 ((rd_T48 l0 x33_2).f1)) := (blk_cell BK107.out 1).trans rfl
                              have hcz32_2 : wc.cell? ⟨gb107, 2, none⟩ = some (.int .i64 ((rd_T48 l0 x33_2).f2)) := (blk_cell BK107.out 2).trans rfl
                              have hfz32_0 := blk_frozen BK107.out 0
                              have hfz32_1 := blk_frozen BK107.out 1
                              have hfz32_2 := blk_frozen BK107.out 2
                              go_wp2
                              go_ret
                              exact ⟨by first | rfl | (simp [errW_none, errW_some] <;> rfl) | (simp [*, errW_none, errW_some] <;> rfl), by repeat (first | (with_reducible first | exact HB.out | apply below_alloc | apply pw_below_drewN | apply below_drew1 | refine below_set ?_ GE101.out | refine below_set ?_ GE107.out) | exact HB.out)⟩
                            · rw [if_neg c30] at H
                              have c30b0 : decide (((rd_T48 l0 x33_2).f2) < 1) = false := decide_eq_false c30
                              clear c30
                              by_cases c33 : ((rd_T48 l0 x33_2).f2) > 16
                              · rw [if_pos c33] at H
                                have c33b0 : decide (16 < ((rd_T48 l0 x33_2).f2)) = true := decide_eq_true c33
                                clear c33
                                obtain rfl := Option.some.inj H
                                have hnb34 := NB107_101.out
                                have hnc34 := NB101_107.out
                                have hcz35_0 : wc.cell? ⟨gb107, 0, none⟩ = some (.string ((rd_T48 l0 x33_2).f0)) := (blk_cell BK107.out 0).trans rfl
                                have hcz35_1 : wc.cell? ⟨gb107, 1, none⟩ = some (.int .u8 ((rd_T48 l0 x33_2).f1)) := (blk_cell BK107.out 1).trans rfl
                                have hcz35_2 : wc.cell? ⟨gb107, 2, none⟩ = some (.int .i64 ((rd_T48 l0 x33_2).f2)) := (blk_cell BK107.out 2).trans rfl
                                have hfz35_0 := blk_frozen BK107.out 0
                                have hfz35_1 := blk_frozen BK107.out 1
                                have hfz35_2 := blk_frozen BK107.out 2
                                go_wp2
                                go_ret
                                exact ⟨by first | rfl | (simp [errW_none, errW_some] <;> rfl) | (simp [*, errW_none, errW_some] <;> rfl), by repeat (first | (with_reducible first | exact HB.out | apply below_alloc | apply pw_below_drewN | apply below_drew1 | refine below_set ?_ GE101.out | refine below_set ?_ GE107.out) | exact HB.out)⟩
                              · rw [if_neg c33] at H
                                have c33b0 : decide (16 < ((rd_T48 l0 x33_2).f2)) = false := decide_eq_false c33
                                clear c33
                                have H' := Aside0.mk H
                                clear H
                                have hnb36 := NB107_101.out
                                have hnc36 := NB101_107.out
                                have hcz37_0 : wc.cell? ⟨gb107, 0, none⟩ = some (.string ((rd_T48 l0 x33_2).f0)) := (blk_cell BK107.out 0).trans rfl
                                have hcz37_1 : wc.cell? ⟨gb107, 1, none⟩ = some (.int .u8 ((rd_T48 l0 x33_2).f1)) := (blk_cell BK107.out 1).trans rfl
                                have hcz37_2 : wc.cell? ⟨gb107, 2, none⟩ = some (.int .i64 ((rd_T48 l0 x33_2).f2)) := (blk_cell BK107.out 2).trans rfl
                                have hfz37_0 := blk_frozen BK107.out 0
                                have hfz37_1 := blk_frozen BK107.out 1
                                have hfz37_2 := blk_frozen BK107.out 2
                                go_wp2
                                go_roundg kj17
                                case measure => have := HK1.out; have := HK2.out; have := HJ17.out; omega
                                case rel => exact ⟨(wrap64 (x33_2 + 1)), (by first | rfl | (simp; done) | (simp [*]; done)), H', ⟨by have := HK1.out; have := HK2.out; have := HJ17.out; omega⟩, ⟨by (with_reducible repeat (first | refine blk_drewN ?_ _ | refine blk_drew ?_ | refine blk_alloc ?_ _)); exact BK101.out⟩, ⟨by repeat (first | (with_reducible first | exact HB.out | apply below_alloc | apply pw_below_drewN | apply below_drew1 | refine below_set ?_ GE101.out | refine below_set ?_ GE107.out) | exact HB.out)⟩⟩
                          · rw [if_neg c29] at H
                            have c29b0 : (((rd_T48 l0 x33_2).f1) == 2) = false := beq_eq_false_iff_ne.mpr c29
                            have c29b1 : (((rd_T48 l0 x33_2).f1) != 2) = true := bne_iff_ne.mpr c29
                            obtain rfl := Option.some.inj H
                            go_wp2
                            go_ret
                            exact ⟨by first | rfl | (simp [errW_none, errW_some] <;> rfl) | (simp [*, errW_none, errW_some] <;> rfl), by repeat (first | (with_reducible first | exact HB.out | apply below_alloc | apply pw_below_drewN | apply below_drew1 | refine below_set ?_ GE101.out | refine below_set ?_ GE107.out) | exact HB.out)⟩
                  · rw [if_neg c17] at H
                    exact absurd H (by simp)
                · rw [if_neg c16] at H
                  exact absurd H (by simp)
              · rw [if_neg c15] at H
                have c15b0 : decide (x33_2 < (l0.length : Int)) = false := decide_eq_false c15
                clear c15
                obtain rfl := Option.some.inj H
                go_wp2
                go_ret
                exact ⟨by first | rfl | (simp [errW_none, errW_some] <;> rfl) | (simp [*, errW_none, errW_some] <;> rfl), by repeat (first | (with_reducible first | exact HB.out | apply below_alloc | apply pw_below_drewN | apply below_drew1 | refine below_set ?_ GE101.out) | exact HB.out)⟩
end Go.Proofs.Ytgcdeablfoomhaa.PAll
end
section
set_option linter.unusedVariables false
set_option linter.unusedSimpArgs false
namespace Go.Proofs.Ytgcdeablfoomhaa.PAll
open Go.RowKit Go.Proofs.YtgcdeablfoomhaaW.PrintWords Go.Proofs.YtgcdeablfoomhaaW.PrintLast Go.Proofs.YtgcdeablfoomhaaW.PrintMore
def okV (v : S48) : Bool := (decide (v.f1 = 1) || decide (v.f1 = 3)) && decide (v.f2 = 0) || decide (v.f1 = 2) && (decide (1 ≤ v.f2) && decide (v.f2 ≤ 16))
def okB (n : Int) : Bool := decide (0 ≤ n) && decide (n ≤ 1000)
def validB (vars : List S48) (v l i : Int) : Bool := decide (vars.length ≤ 32) && (okB v && okB l && okB i) && vars.all okV
theorem valid_j2 (k : Nat) (vars : List S48) (j : Nat) (hj : j < vars.length) (x : S48) (hx : x = rd_T48 vars (j : Int)) :
    enumerate_valid.l1 (k + 2) vars (vars.length : Int) (j : Int) = if okV x = true then enumerate_valid.l1 k vars (vars.length : Int) (wrap64 ((j : Int) + 1)) else some false := by
  obtain ⟨R, hR⟩ : ∃ R, R = enumerate_valid.l1 k vars (vars.length : Int) (wrap64 ((j : Int) + 1)) := ⟨_, rfl⟩
  rw [← hR, show k + 2 = (k + 1) + 1 from rfl]
  unfold enumerate_valid.l1
  rw [if_pos (by omega), if_pos (by omega), if_pos (by omega), ← hx]
  unfold enumerate_valid.j2 okV
  rw [← hR]
  by_cases h1 : x.f1 = 1
  · rw [if_pos h1]
    simp only [h1]
    by_cases h2 : x.f2 = 0 <;> simp [h2]
  · rw [if_neg h1]
    by_cases h3 : x.f1 = 3
    · simp only [h3]
      by_cases h2 : x.f2 = 0 <;> simp [h2]
    · have h3b : (x.f1 == 3) = false := by simpa using h3
      simp only [h3b]
      by_cases h2 : x.f1 = 2
      · simp only [h2]
        by_cases h4 : x.f2 < 1
        · have : ¬ 1 ≤ x.f2 := by omega
          simp [h4, this]
        · have h5 : 1 ≤ x.f2 := by omega
          by_cases h6 : x.f2 > 16
          · have : ¬ x.f2 ≤ 16 := by omega
            simp [h4, h6, this]
          · have : x.f2 ≤ 16 := by omega
            simp [h4, h5, h6, this]
      · simp [h1, h2, h3]
theorem valid_l1 (vars : List S48) (hl : vars.length ≤ 32) : ∀ (m j : Nat), j + m = vars.length → ∃ k, enumerate_valid.l1 k vars (vars.length : Int) (j : Int) = some ((vars.drop j).all okV)
  | 0, j, h => ⟨1, by
    unfold enumerate_valid.l1
    rw [if_neg (by omega), List.drop_eq_nil_of_le (by omega)]; rfl⟩
  | m + 1, j, h => by
    obtain ⟨k, hk⟩ := valid_l1 vars hl m (j + 1) (by omega)
    have hj : j < vars.length := by omega
    have hx : vars[j] = rd_T48 vars (j : Int) := by unfold rd_T48; simp [hj]
    refine ⟨k + 2, ?_⟩
    rw [valid_j2 k vars j hj vars[j] hx, wrap64_of' (by omega) (by omega), show (j : Int) + 1 = ((j + 1 : Nat) : Int) by omega, hk, List.drop_eq_getElem_cons hj, List.all_cons]
    cases okV vars[j] <;> simp
theorem valid_l0 (vars : List S48) (a b c : Int) (k : Nat) (r : Bool) (h : enumerate_valid.l1 k vars (vars.length : Int) 0 = some r) :
    enumerate_valid.l0 (k + 4) vars [a, b, c] 3 0 = some (okB a && okB b && okB c && r) := by
  have step : ∀ (k : Nat) (i : Nat) (q : Int), i < 3 → rd [a, b, c] (i : Int) = q → enumerate_valid.l0 (k + 1) vars [a, b, c] 3 (i : Int) = if okB q = true then enumerate_valid.l0 k vars [a, b, c] 3 ((i + 1 : Nat) : Int) else some false := by
    intro k i q hi hq
    obtain ⟨R, hR⟩ : ∃ R, R = enumerate_valid.l0 k vars [a, b, c] 3 ((i + 1 : Nat) : Int) := ⟨_, rfl⟩
    rw [← hR]
    have hc : ((i + 1 : Nat) : Int) = (i : Int) + 1 := by omega
    rw [hc] at hR
    unfold enumerate_valid.l0 okB
    rw [if_pos (by omega), if_pos (by omega), if_pos (by simp; omega), hq, wrap64_of' (by omega) (by omega), ← hR]
    by_cases h1 : q < 0
    · have : ¬ 0 ≤ q := by omega
      simp [h1, this]
    · have h2 : 0 ≤ q := by omega
      by_cases h3 : q > 1000
      · have : ¬ q ≤ 1000 := by omega
        simp [h1, h3, this]
      · have : q ≤ 1000 := by omega
        simp [h1, h2, h3, this]
  have e0 := step (k + 3) 0 a (by omega) rfl
  have e1 := step (k + 2) 1 b (by omega) rfl
  have e2 := step (k + 1) 2 c (by omega) rfl
  have e3 : enumerate_valid.l0 (k + 1) vars [a, b, c] 3 ((2 + 1 : Nat) : Int) = some r := by
    unfold enumerate_valid.l0
    rw [if_neg (by omega)]; exact h
  rw [show ((0 : Nat) : Int) = 0 from rfl] at e0
  rw [e0]
  by_cases ha : okB a = true
  · rw [if_pos ha, e1]
    by_cases hb : okB b = true
    · rw [if_pos hb, e2]
      by_cases hc : okB c = true
      · rw [if_pos hc, e3, ha, hb, hc]; simp
      · rw [if_neg hc]; simp [hc]
    · rw [if_neg hb]; simp [hb]
  · rw [if_neg ha]; simp [ha]
theorem valid_f (vars : List S48) (v l i : Int) : ∃ k, enumerate_valid.f k vars v l i = some (validB vars v l i) := by
  by_cases h : vars.length ≤ 32
  · obtain ⟨k, hk⟩ := valid_l1 vars h vars.length 0 (by omega)
    refine ⟨k + 4, ?_⟩
    unfold enumerate_valid.f validB
    rw [if_neg (by omega)]
    have := valid_l0 vars v l i k _ hk
    simpa [h] using this
  · refine ⟨0, ?_⟩
    unfold enumerate_valid.f validB
    rw [if_pos (by omega)]
    simp [h]
/-- The bounds of a variable's list, and of the input. -/
def slotOf (bl : Int) (v : S48) : S62 := if v.f1 = 1 then ⟨1, 1⟩ else if v.f1 = 2 then ⟨v.f2, v.f2⟩ else ⟨0, bl⟩
def slotsOf (vars : List S48) (bl bi : Int) : List S62 := vars.map (slotOf bl) ++ [⟨0, bi⟩]
/-- The states of a box, in their order, each with its lists. -/
def allO (vars : List S48) (bv bl bi : Int) : List (List (List Int)) :=
  if validB vars bv bl bi = true then (irange (lowOf (slotsOf vars bl bi)) (highOf (2 * bv) (slotsOf vars bl bi))).flatMap (slotO (2 * bv) (slotsOf vars bl bi)) else []
theorem slotOf_ok {bl : Int} {v : S48} (hb : okB bl = true) (hv : okV v = true) : 0 ≤ (slotOf bl v).f0 ∧ (slotOf bl v).f0 ≤ 1000 ∧ 0 ≤ (slotOf bl v).f1 ∧ (slotOf bl v).f1 ≤ 1000 := by
  unfold okB at hb
  unfold okV at hv
  simp only [Bool.and_eq_true, Bool.or_eq_true, decide_eq_true_eq] at hb hv
  unfold slotOf
  split
  · exact ⟨by decide, by decide, by decide, by decide⟩
  · split
    · dsimp only; omega
    · dsimp only; omega
theorem slots_ok {vars : List S48} {bv bl bi : Int} (h : validB vars bv bl bi = true) : ∀ s ∈ slotsOf vars bl bi, 0 ≤ s.f0 ∧ s.f0 ≤ 1000 ∧ 0 ≤ s.f1 ∧ s.f1 ≤ 1000 := by
  unfold validB at h
  simp only [Bool.and_eq_true, decide_eq_true_eq, List.all_eq_true] at h
  obtain ⟨⟨h1, ⟨h2, h3⟩, h4⟩, h5⟩ := h
  intro s hs
  unfold slotsOf at hs
  rcases List.mem_append.1 hs with hs | hs
  · obtain ⟨v, hv, rfl⟩ := List.mem_map.1 hs
    exact slotOf_ok h3 (h5 v hv)
  · rw [List.mem_singleton.1 hs]
    unfold okB at h4
    simp only [Bool.and_eq_true, decide_eq_true_eq] at h4
    dsimp only; omega
theorem lowOf_ok {l : List S62} (h : ∀ s ∈ l, 0 ≤ s.f0 ∧ s.f0 ≤ 1000 ∧ 0 ≤ s.f1 ∧ s.f1 ≤ 1000) : 0 ≤ lowOf l ∧ lowOf l ≤ 1000 * (l.length : Int) := by
  induction l with
  | nil => exact ⟨Int.le_refl _, Int.le_refl _⟩
  | cons s r ih =>
    have h1 := ih (fun x hx => h x (List.mem_cons_of_mem _ hx))
    have h2 := h s List.mem_cons_self
    rw [lowOf, List.length_cons]; omega
theorem highOf_ok {l : List S62} {rk : Int} (h0 : 0 ≤ rk) (h1 : rk ≤ 2000) (h : ∀ s ∈ l, 0 ≤ s.f0 ∧ s.f0 ≤ 1000 ∧ 0 ≤ s.f1 ∧ s.f1 ≤ 1000) : 0 ≤ highOf rk l ∧ highOf rk l ≤ 2001000 * (l.length : Int) := by
  induction l with
  | nil => exact ⟨Int.le_refl _, Int.le_refl _⟩
  | cons s r ih =>
    have h2 := ih (fun x hx => h x (List.mem_cons_of_mem _ hx))
    have h3 := h s List.mem_cons_self
    have h4 : 0 ≤ s.f1 * (rk + 1) := Int.mul_nonneg h3.2.2.1 (by omega)
    have h5 : s.f1 * (rk + 1) ≤ 1000 * 2001 := Int.mul_le_mul h3.2.2.2 (by omega) (by omega) (by decide)
    rw [highOf, List.length_cons]; omega
def k62 : Kd S62 := Kd.iso (Kd.pair (Kd.int .i64) (Kd.int .i64)) (fun x : S62 => (x.f0, x.f1))
theorem k62_mkM (w : World) (base : Nat) (ok : Nat → Prop) (x : S62) : k62.M w base ok x [.int .i64 x.f0, .int .i64 x.f1] := ⟨[.int .i64 x.f0], [.int .i64 x.f1], rfl, rfl, rfl⟩
theorem k62_open {w : World} {x : S62} {cs : List Value} (h : k62.K w x cs) : cs = [.int .i64 x.f0, .int .i64 x.f1] := by
  obtain ⟨_, _, rfl, rfl, rfl⟩ := h
  exact rfl
theorem info62 : (Try.prog.info? 62).map (fun i => (i.zero, i.size, i.bytes)) = some (some (.agg #[.int .i64 0, .int .i64 0]), 2, 16) := by kernel_rfl
/-- The struct that the search is. -/
def BoxS (W : World) (B : Nat) (s0 : Value) (rk : Int) (s2 s3 s4 : Value) (l : Nat) : Prop := W.heap[B]? = some (.cells #[s0, .int .i64 rk, s2, s3, s4, .func (.yield l) #[] #[]] 60 (0, 0))
section
variable {W W' : World} {B b l : Nat} {s0 s2 s3 s4 : Value} {rk : Int}
theorem BoxS.c0 (h : BoxS W B s0 rk s2 s3 s4 l) : W.cell? ⟨B, 0, none⟩ = some s0 := by simp [World.cell?, show W.heap[B]? = _ from h]
theorem BoxS.c1 (h : BoxS W B s0 rk s2 s3 s4 l) : W.cell? ⟨B, 1, none⟩ = some (.int .i64 rk) := by simp [World.cell?, show W.heap[B]? = _ from h]
theorem BoxS.c2 (h : BoxS W B s0 rk s2 s3 s4 l) : W.cell? ⟨B, 2, none⟩ = some s2 := by simp [World.cell?, show W.heap[B]? = _ from h]
theorem BoxS.c3 (h : BoxS W B s0 rk s2 s3 s4 l) : W.cell? ⟨B, 3, none⟩ = some s3 := by simp [World.cell?, show W.heap[B]? = _ from h]
theorem BoxS.c4 (h : BoxS W B s0 rk s2 s3 s4 l) : W.cell? ⟨B, 4, none⟩ = some s4 := by simp [World.cell?, show W.heap[B]? = _ from h]
theorem BoxS.fr (h : BoxS W B s0 rk s2 s3 s4 l) (i : Nat) : W.frozen? ⟨B, i, none⟩ = false := by simp [World.frozen?, show W.heap[B]? = _ from h]
theorem BoxS.lt (h : BoxS W B s0 rk s2 s3 s4 l) : B < W.heap.size := (Array.getElem?_eq_some_iff.1 h).1
theorem BoxS.below (h : BoxS W B s0 rk s2 s3 s4 l) (hb : Below b W W') (hB : B < b) : BoxS W' B s0 rk s2 s3 s4 l := (hb.block B hB).trans h
theorem BoxS.set0 (h : BoxS W B s0 rk s2 s3 s4 l) (u : Value) : BoxS (W.setCell ⟨B, 0, none⟩ u) B u rk s2 s3 s4 l := heap_setCell_same W B 0 _ 60 u h
theorem BoxS.set2 (h : BoxS W B s0 rk s2 s3 s4 l) (u : Value) : BoxS (W.setCell ⟨B, 2, none⟩ u) B s0 rk u s3 s4 l := heap_setCell_same W B 2 _ 60 u h
theorem BoxS.set3 (h : BoxS W B s0 rk s2 s3 s4 l) (u : Value) : BoxS (W.setCell ⟨B, 3, none⟩ u) B s0 rk s2 u s4 l := heap_setCell_same W B 3 _ 60 u h
theorem BoxS.set4 (h : BoxS W B s0 rk s2 s3 s4 l) (u : Value) : BoxS (W.setCell ⟨B, 4, none⟩ u) B s0 rk s2 s3 u l := heap_setCell_same W B 4 _ 60 u h
theorem BoxS.far (h : BoxS W B s0 rk s2 s3 s4 l) {p : Addr} (hp : B ≠ p.block) (u : Value) : BoxS (W.setCell p u) B s0 rk s2 s3 s4 l := (heap_setCell_other W p B u hp).trans h
theorem BoxS.kept {ob : Option Nat} (h : BoxS W B s0 rk s2 s3 s4 l) (hg : W.grownBy W' ob) (hne : some B ≠ ob) : BoxS W' B s0 rk s2 s3 s4 l := (hg.block B h.lt hne).trans h
theorem boxS_ne {α : Type} {d : Kd α} {e : Nat} {base : Nat} {ok : Nat → Prop} {v : Value} {xs : List α} (h : d.R e W base ok v xs) (hb : BoxS W B s0 rk s2 s3 s4 l) (hte : (60 : Nat) ≠ e) : some B ≠ v.ownBlock := by
  intro he
  obtain ⟨inner, ho⟩ := Kd.R_own h
  obtain ⟨cells, hc⟩ := own_typed ho B he.symm
  rw [show W.heap[B]? = _ from hb] at hc
  injection hc with hc
  injection hc with _ h2
  exact hte h2
theorem R62_set {base : Nat} {ok : Nat → Prop} {v u : Value} {j : Nat} {xs : List S62} (h : k62.R 62 W base ok v xs) (hbx : BoxS W B s0 rk s2 s3 s4 l) : k62.R 62 (W.setCell ⟨B, j, none⟩ u) base ok v xs :=
  Kd.R_set h hbx (by decide) j u
end
/-- A declaration's box. -/
def BoxV (W : World) (y : Nat) (v : S48) : Prop := W.heap[y]? = some (.cells #[.string v.f0, .int .u8 v.f1, .int .i64 v.f2] 48 (0, 0))
theorem BoxV.c1 {W : World} {y : Nat} {v : S48} (h : BoxV W y v) : W.cell? ⟨y, 1, none⟩ = some (.int .u8 v.f1) := by simp [World.cell?, show W.heap[y]? = _ from h]
theorem BoxV.c2 {W : World} {y : Nat} {v : S48} (h : BoxV W y v) : W.cell? ⟨y, 2, none⟩ = some (.int .i64 v.f2) := by simp [World.cell?, show W.heap[y]? = _ from h]
theorem BoxV.lt {W : World} {y : Nat} {v : S48} (h : BoxV W y v) : y < W.heap.size := (Array.getElem?_eq_some_iff.1 h).1
end Go.Proofs.Ytgcdeablfoomhaa.PAll
end
section
set_option linter.unusedVariables false
set_option linter.unusedSimpArgs false
namespace Go.Proofs.Ytgcdeablfoomhaa.PAll
open Go.RowKit Go.Proofs.YtgcdeablfoomhaaW.PrintWords Go.Proofs.YtgcdeablfoomhaaW.PrintLast Go.Proofs.YtgcdeablfoomhaaW.PrintMore
theorem madeCells_one (z : Value) (n : Nat) : madeCells #[z] n = Array.replicate n z := by
  apply Array.ext
  · simp [madeCells]
  · intro i h1 h2
    simp [madeCells, Nat.mod_one]
theorem mk_run {P : Program} {o : Oper} {a : Act} {W : World} (t e : TypeId) (x y : Operand) (ho : o.op = .makeSlice t x y) (m : Nat) (hx : a.eval x = .int .i64 (m : Int)) (hy : a.eval y = .int .i64 (m : Int)) (ht : P.underlying t = some (.slice e)) (z : Value) (bytes : Nat)
    (hinfo : (P.info? e).map (fun i => (i.zero, i.size, i.bytes)) = some (some z, 1, bytes)) (hz : z.cells = #[z]) (hm : m ≤ 1000) (hb : bytes ≤ 1000) :
    (execOp a.eval o).run P W = .ok (.value (.slice (some ⟨W.heap.size, 0, none⟩) m m)) (W.alloc (.cells (Array.replicate m z) e)) := by
  obtain ⟨i0, hi, hzz⟩ := Option.map_eq_some_iff.1 hinfo
  simp only [Prod.mk.injEq] at hzz
  obtain ⟨hz0, hz1, hz2⟩ := hzz
  have hmb : bytes * m ≤ 1000 * 1000 := Nat.mul_le_mul hb hm
  have hr := run_make (P := P) W t e i0 z ht hi hz0 .i64 .i64 (m : Int) (m : Int) (by omega) (by omega) (by
    have h3 : ((i0.bytes * m : Nat) : Int) ≤ 281474976710656 := by rw [hz2]; omega
    rwa [Int.natCast_mul] at h3) (by omega)
  simp only [Int.toNat_natCast] at hr
  rw [hz1, hz, madeCells_one, Nat.mul_one] at hr
  simp [execOp, ho, hx, hy, hr]
/-- The search while its three rows are made: lo, hi, li the blocks of those that are made. -/
structure MkF (W : World) (M B l : Nat) (rk : Int) (s0 : Value) (sl : List S62) (n1 n : Nat) (lo hi li : Option Nat) (s2 s3 s4 : Value) (w : World) : Prop where
  box : BoxS w B s0 rk s2 s3 s4 l
  row : k62.R 62 w M (fun _ => True) s0 sl
  bel : Below W.heap.size W w
  lo_ : ∀ g, lo = some g → w.heap[g]? = some (.cells (Array.replicate n1 (.int .i64 0)) 3 (0, 0)) ∧ M ≤ g
  hi_ : ∀ g, hi = some g → w.heap[g]? = some (.cells (Array.replicate n1 (.int .i64 0)) 3 (0, 0)) ∧ M ≤ g
  li_ : ∀ g, li = some g → w.heap[g]? = some (.cells (Array.replicate n nil3) 33 (0, 0)) ∧ M ≤ g
  ne : ∀ g, lo = some g → hi ≠ some g
section
variable {W w : World} {M B l n1 n : Nat} {rk : Int} {s0 s2 s3 s4 : Value} {sl : List S62} {lo hi li : Option Nat}
theorem MkF.low (h : MkF W M B l rk s0 sl n1 n none hi li s2 s3 s4 w) (hM : M = W.heap.size) : MkF W M B l rk s0 sl n1 n (some w.heap.size) hi li s2 s3 s4 (w.alloc (.cells (Array.replicate n1 (.int .i64 0)) 3)) := by
  have hs := h.bel.size
  exact ⟨blk_alloc h.box _, Kd.R_alloc h.row _, h.bel.trans ((below_alloc (Below.refl _ _) _).mono hs), fun g hg => by injection hg with hg; subst hg; exact ⟨World.alloc_heap_new w _, by omega⟩,
    fun g hg => ⟨blk_alloc (h.hi_ g hg).1 _, (h.hi_ g hg).2⟩, fun g hg => ⟨blk_alloc (h.li_ g hg).1 _, (h.li_ g hg).2⟩, fun g hg hh => by
      injection hg with hg
      have := (Array.getElem?_eq_some_iff.1 (h.hi_ g hh).1).1
      omega⟩
theorem MkF.high (h : MkF W M B l rk s0 sl n1 n lo none li s2 s3 s4 w) (hM : M = W.heap.size) : MkF W M B l rk s0 sl n1 n lo (some w.heap.size) li s2 s3 s4 (w.alloc (.cells (Array.replicate n1 (.int .i64 0)) 3)) := by
  have hs := h.bel.size
  exact ⟨blk_alloc h.box _, Kd.R_alloc h.row _, h.bel.trans ((below_alloc (Below.refl _ _) _).mono hs), fun g hg => ⟨blk_alloc (h.lo_ g hg).1 _, (h.lo_ g hg).2⟩,
    fun g hg => by injection hg with hg; subst hg; exact ⟨World.alloc_heap_new w _, by omega⟩, fun g hg => ⟨blk_alloc (h.li_ g hg).1 _, (h.li_ g hg).2⟩, fun g hg hh => by
      injection hh with hh
      have := (Array.getElem?_eq_some_iff.1 (h.lo_ g hg).1).1
      omega⟩
theorem MkF.list (h : MkF W M B l rk s0 sl n1 n lo hi none s2 s3 s4 w) (hM : M = W.heap.size) : MkF W M B l rk s0 sl n1 n lo hi (some w.heap.size) s2 s3 s4 (w.alloc (.cells (Array.replicate n nil3) 33)) := by
  have hs := h.bel.size
  exact ⟨blk_alloc h.box _, Kd.R_alloc h.row _, h.bel.trans ((below_alloc (Below.refl _ _) _).mono hs), fun g hg => ⟨blk_alloc (h.lo_ g hg).1 _, (h.lo_ g hg).2⟩,
    fun g hg => ⟨blk_alloc (h.hi_ g hg).1 _, (h.hi_ g hg).2⟩, fun g hg => by injection hg with hg; subst hg; exact ⟨World.alloc_heap_new w _, by omega⟩, h.ne⟩
theorem blk_box_ne {w : World} {B g t : Nat} {c : Array Value} {s0 s2 s3 s4 : Value} {rk : Int} {l : Nat} (h : BoxS w B s0 rk s2 s3 s4 l) (hg : w.heap[g]? = some (.cells c t (0, 0))) (ht : t ≠ 60) : g ≠ B := by
  rintro rfl
  rw [show w.heap[g]? = _ from h] at hg
  injection hg with hg
  injection hg with _ h2
  exact ht h2.symm
theorem MkF.set (h : MkF W M B l rk s0 sl n1 n lo hi li s2 s3 s4 w) (hMB : W.heap.size ≤ B) (i : Nat) (u : Value) {s2' s3' s4' : Value} (hbox : BoxS (w.setCell ⟨B, i, none⟩ u) B s0 rk s2' s3' s4' l) : MkF W M B l rk s0 sl n1 n lo hi li s2' s3' s4' (w.setCell ⟨B, i, none⟩ u) :=
  ⟨hbox, R62_set h.row h.box, h.bel.setCell (p := ⟨B, i, none⟩) hMB _, fun g hg => ⟨(heap_setCell_other w ⟨B, i, none⟩ g u (blk_box_ne h.box (h.lo_ g hg).1 (by decide))).trans (h.lo_ g hg).1, (h.lo_ g hg).2⟩,
    fun g hg => ⟨(heap_setCell_other w ⟨B, i, none⟩ g u (blk_box_ne h.box (h.hi_ g hg).1 (by decide))).trans (h.hi_ g hg).1, (h.hi_ g hg).2⟩, fun g hg => ⟨(heap_setCell_other w ⟨B, i, none⟩ g u (blk_box_ne h.box (h.li_ g hg).1 (by decide))).trans (h.li_ g hg).1, (h.li_ g hg).2⟩, h.ne⟩
theorem MkF.drew (h : MkF W M B l rk s0 sl n1 n lo hi li s2 s3 s4 w) : MkF W M B l rk s0 sl n1 n lo hi li s2 s3 s4 w.drew :=
  ⟨h.box, Kd.R_drew h.row, h.bel.trans ((below_drew1 (Below.refl _ _)).mono h.bel.size), h.lo_, h.hi_, h.li_, h.ne⟩
end
end Go.Proofs.Ytgcdeablfoomhaa.PAll
end
section
set_option linter.unusedVariables false
set_option linter.unusedSimpArgs false
namespace Go.Proofs.Ytgcdeablfoomhaa.PAll
open Go.RowKit Go.Proofs.YtgcdeablfoomhaaW.PrintWords Go.Proofs.YtgcdeablfoomhaaW.PrintLast Go.Proofs.YtgcdeablfoomhaaW.PrintMore
/-- The weights from index m on are filled in (a: low's own index may be one ahead). -/
structure LpF (W : World) (M B l : Nat) (rk : Int) (G cS : Nat) (sl : List S62) (n N1 gl gh L : Nat) (ml mh : Nat) (w : World) : Prop where
  box : BoxS w B (.slice (some ⟨G, 0, none⟩) n cS) rk (.slice (some ⟨gl, 0, none⟩) N1 N1) (.slice (some ⟨gh, 0, none⟩) N1 N1) (.slice (some ⟨L, 0, none⟩) n n) l
  row : k62.R 62 w M (fun _ => True) (.slice (some ⟨G, 0, none⟩) n cS) sl
  bel : Below W.heap.size W w
  lo : ∃ c : Array Value, w.heap[gl]? = some (.cells c 3 (0, 0)) ∧ c.size = N1 ∧ (∀ j : Nat, j < N1 → ∃ x : Int, c[j]? = some (.int .i64 x)) ∧ ∀ j, ml ≤ j → j ≤ n → c[j]? = some (.int .i64 (lowOf (sl.drop j)))
  hi : ∃ c : Array Value, w.heap[gh]? = some (.cells c 3 (0, 0)) ∧ c.size = N1 ∧ (∀ j : Nat, j < N1 → ∃ x : Int, c[j]? = some (.int .i64 x)) ∧ ∀ j, mh ≤ j → j ≤ n → c[j]? = some (.int .i64 (highOf rk (sl.drop j)))
  li : w.heap[L]? = some (.cells (Array.replicate n nil3) 33 (0, 0))
  bl : M ≤ gl
  bh : M ≤ gh
  bL : M ≤ L
  ne : gl ≠ gh
theorem MkF.start {W w : World} {M B l n N1 G cS gl gh L : Nat} {rk : Int} {sl : List S62}
    (h : MkF W M B l rk (.slice (some ⟨G, 0, none⟩) n cS) sl N1 n (some gl) (some gh) (some L) (.slice (some ⟨gl, 0, none⟩) N1 N1) (.slice (some ⟨gh, 0, none⟩) N1 N1) (.slice (some ⟨L, 0, none⟩) n n) w) (hN : N1 = n + 1) (hn : sl.length = n) :
    LpF W M B l rk G cS sl n N1 gl gh L n n w := by
  obtain ⟨l1, l2⟩ := h.lo_ gl rfl
  obtain ⟨h1, h2⟩ := h.hi_ gh rfl
  obtain ⟨i1, i2⟩ := h.li_ L rfl
  have hd : ∀ j, n ≤ j → j ≤ n → sl.drop j = [] := fun j a b => List.drop_eq_nil_of_le (by omega)
  refine ⟨h.box, h.row, h.bel, ⟨_, l1, by simp, fun j hj => ⟨0, by simp [hj]⟩, fun j a b => ?_⟩, ⟨_, h1, by simp, fun j hj => ⟨0, by simp [hj]⟩, fun j a b => ?_⟩, i1, l2, h2, i2, fun e => h.ne gl rfl (by rw [e])⟩
  · rw [hd j a b]
    have : j < N1 := by omega
    simp [this, lowOf]
  · rw [hd j a b]
    have : j < N1 := by omega
    simp [this, highOf]
section
variable {W w : World} {M B l n N1 G cS gl gh L ml mh : Nat} {rk : Int} {sl : List S62}
theorem LpF.drew (h : LpF W M B l rk G cS sl n N1 gl gh L ml mh w) : LpF W M B l rk G cS sl n N1 gl gh L ml mh w.drew :=
  ⟨h.box, Kd.R_drew h.row, h.bel.trans ((below_drew1 (Below.refl _ _)).mono h.bel.size), h.lo, h.hi, h.li, h.bl, h.bh, h.bL, h.ne⟩
theorem LpF.lc (h : LpF W M B l rk G cS sl n N1 gl gh L ml mh w) (j : Nat) (a : ml ≤ j) (b : j ≤ n) : w.cell? ⟨gl, j, none⟩ = some (.int .i64 (lowOf (sl.drop j))) := by
  obtain ⟨c, hc, _, _, hx⟩ := h.lo
  simp [World.cell?, hc, hx j a b]
theorem LpF.hc (h : LpF W M B l rk G cS sl n N1 gl gh L ml mh w) (j : Nat) (a : mh ≤ j) (b : j ≤ n) : w.cell? ⟨gh, j, none⟩ = some (.int .i64 (highOf rk (sl.drop j))) := by
  obtain ⟨c, hc, _, _, hx⟩ := h.hi
  simp [World.cell?, hc, hx j a b]
theorem LpF.la (h : LpF W M B l rk G cS sl n N1 gl gh L ml mh w) (j : Nat) (b : j < N1) : (∃ x, w.cell? ⟨gl, j, none⟩ = some (.int .i64 x)) ∧ w.frozen? ⟨gl, j, none⟩ = false := by
  obtain ⟨c, hc, _, hx, _⟩ := h.lo
  obtain ⟨x, hx⟩ := hx j b
  exact ⟨⟨x, by simp [World.cell?, hc, hx]⟩, by simp [World.frozen?, hc]⟩
theorem LpF.ha (h : LpF W M B l rk G cS sl n N1 gl gh L ml mh w) (j : Nat) (b : j < N1) : (∃ x, w.cell? ⟨gh, j, none⟩ = some (.int .i64 x)) ∧ w.frozen? ⟨gh, j, none⟩ = false := by
  obtain ⟨c, hc, _, hx, _⟩ := h.hi
  obtain ⟨x, hx⟩ := hx j b
  exact ⟨⟨x, by simp [World.cell?, hc, hx]⟩, by simp [World.frozen?, hc]⟩
/-- A list's bounds, where they lie. -/
theorem LpF.sc (h : LpF W M B l rk G cS sl n N1 gl gh L ml mh w) (i : Nat) (hi : i < sl.length) : w.cell? ⟨G, i * 2, none⟩ = some (.int .i64 sl[i].f0) ∧ w.cell? ⟨G, i * 2 + 1, none⟩ = some (.int .i64 sl[i].f1) := by
  have hn := (Kd.R_reads' h.row).1
  obtain ⟨c, hcl, hM, hcc, _⟩ := Kd.R_elem h.row (⟨0, 0⟩ : S62) (i : Int) (by omega) (by omega)
  have hK := k62_open (k62.K_of_M hM)
  have hg : sl.getD (i : Int).toNat (⟨0, 0⟩ : S62) = sl[i] := by simp [List.getD_eq_getElem?_getD, hi]
  rw [hg] at hK
  subst hK
  have hz : k62.sz = 2 := rfl
  rw [hz] at hcc
  exact ⟨by have := hcc 0 _ rfl; simpa using this, by have := hcc 1 _ rfl; simpa using this⟩
theorem cells_set {w : World} {g : Nat} {c : Array Value} {t : TypeId} (h : w.heap[g]? = some (.cells c t (0, 0))) (i : Nat) (u : Value) : (w.setCell ⟨g, i, none⟩ u).heap[g]? = some (.cells (c.setIfInBounds i u) t (0, 0)) := heap_setCell_same w g i c t u h
theorem ne_of_ty {w : World} {g g' t t' : Nat} {c c' : Array Value} (h : w.heap[g]? = some (.cells c t (0, 0))) (h' : w.heap[g']? = some (.cells c' t' (0, 0))) (ht : t ≠ t') : g ≠ g' := by
  rintro rfl
  rw [h] at h'
  injection h' with h'
  injection h' with _ h2
  exact ht h2
theorem LpF.setLo (h : LpF W M B l rk G cS sl n N1 gl gh L (ml + 1) mh w) (hM : M = W.heap.size) (hml : ml < N1) : LpF W M B l rk G cS sl n N1 gl gh L ml mh (w.setCell ⟨gl, ml, none⟩ (.int .i64 (lowOf (sl.drop ml)))) := by
  obtain ⟨c, hc, hs, hx, hv⟩ := h.lo
  obtain ⟨c', hc', hs', hx', hv'⟩ := h.hi
  have hoth : ∀ k, k ≠ gl → (w.setCell ⟨gl, ml, none⟩ (.int .i64 (lowOf (sl.drop ml)))).heap[k]? = w.heap[k]? := fun k hk => heap_setCell_other w ⟨gl, ml, none⟩ k _ hk
  refine ⟨(hoth _ (ne_of_ty h.box hc (by decide))).trans h.box, Kd.R_set h.row hc (by decide) ml _, h.bel.setCell (p := ⟨gl, ml, none⟩) (by rw [← hM]; exact h.bl) _, ⟨_, cells_set hc ml _, by simpa using hs, fun j hj => ?_, fun j a b => ?_⟩, ⟨c', (hoth _ (Ne.symm h.ne)).trans hc', hs', hx', hv'⟩, (hoth _ (ne_of_ty h.li hc (by decide))).trans h.li, h.bl, h.bh, h.bL, h.ne⟩
  · rw [Array.getElem?_setIfInBounds]
    split
    · rw [if_pos (by omega)]; exact ⟨_, rfl⟩
    · exact hx j hj
  · rw [Array.getElem?_setIfInBounds]
    split
    · rename_i e
      rw [if_pos (by omega), e]
    · exact hv j (by omega) b
theorem LpF.setHi (h : LpF W M B l rk G cS sl n N1 gl gh L ml (mh + 1) w) (hM : M = W.heap.size) (hmh : mh < N1) : LpF W M B l rk G cS sl n N1 gl gh L ml mh (w.setCell ⟨gh, mh, none⟩ (.int .i64 (highOf rk (sl.drop mh)))) := by
  obtain ⟨c, hc, hs, hx, hv⟩ := h.lo
  obtain ⟨c', hc', hs', hx', hv'⟩ := h.hi
  have hoth : ∀ k, k ≠ gh → (w.setCell ⟨gh, mh, none⟩ (.int .i64 (highOf rk (sl.drop mh)))).heap[k]? = w.heap[k]? := fun k hk => heap_setCell_other w ⟨gh, mh, none⟩ k _ hk
  refine ⟨(hoth _ (ne_of_ty h.box hc' (by decide))).trans h.box, Kd.R_set h.row hc' (by decide) mh _, h.bel.setCell (p := ⟨gh, mh, none⟩) (by rw [← hM]; exact h.bh) _, ⟨c, (hoth _ h.ne).trans hc, hs, hx, hv⟩, ⟨_, cells_set hc' mh _, by simpa using hs', fun j hj => ?_, fun j a b => ?_⟩, (hoth _ (ne_of_ty h.li hc' (by decide))).trans h.li, h.bl, h.bh, h.bL, h.ne⟩
  · rw [Array.getElem?_setIfInBounds]
    split
    · rw [if_pos (by omega)]; exact ⟨_, rfl⟩
    · exact hx' j hj
  · rw [Array.getElem?_setIfInBounds]
    split
    · rename_i e
      rw [if_pos (by omega), e]
    · exact hv' j (by omega) b
/-- The search, as_ it begins. -/
def cxOf (sl : List S62) (rk : Int) (B G gl gh L l cS : Nat) (w : World) (N1 : Nat) : Cx := { sl, rk, B, gS := G, gl, gh, L, M0 := w.heap.size, l, cS, cl := N1, ch := N1 }
theorem LpF.cx_ok (h : LpF W M B l rk G cS sl n N1 gl gh L 0 0 w) (hn : sl.length = n) (hn0 : 1 ≤ n) (hn1 : n ≤ 41) (hr0 : 0 ≤ rk) (hr1 : rk ≤ 2000) (hs : ∀ s ∈ sl, 0 ≤ s.f0 ∧ s.f0 ≤ 1000 ∧ 0 ≤ s.f1 ∧ s.f1 ≤ 1000) : (cxOf sl rk B G gl gh L l cS w N1).Ok := by
  obtain ⟨c, hc, _⟩ := h.lo
  obtain ⟨c', hc', _⟩ := h.hi
  obtain ⟨inner, hro⟩ := Kd.R_own h.row
  obtain ⟨cG, hcG⟩ := own_typed hro G (by simp [Value.ownBlock])
  have lt : ∀ {g : Nat} {o : Obj}, w.heap[g]? = some o → g < w.heap.size := fun h => (Array.getElem?_eq_some_iff.1 h).1
  have hdl : ∀ j, ((sl.drop j).length : Int) ≤ 41 := fun j => by rw [List.length_drop]; omega
  have hds : ∀ j, ∀ s ∈ sl.drop j, 0 ≤ s.f0 ∧ s.f0 ≤ 1000 ∧ 0 ≤ s.f1 ∧ s.f1 ≤ 1000 := fun j s hsj => hs s (List.mem_of_mem_drop hsj)
  refine ⟨by show 1 ≤ sl.length; omega, by show sl.length ≤ 200; omega, hr0, hr1, hs, fun j => ?_, fun j => ?_, ne_of_ty h.box h.li (by decide), ne_of_ty hcG h.li (by decide), ne_of_ty hc h.li (by decide), ne_of_ty hc' h.li (by decide), lt h.box, lt hcG, lt hc, lt hc', lt h.li⟩
  · have h1 := lowOf_ok (hds j)
    have h2 := hdl j
    exact ⟨h1.1, by show lowOf (sl.drop j) ≤ _; omega⟩
  · have h1 := highOf_ok hr0 hr1 (hds j)
    have h2 := hdl j
    exact ⟨h1.1, by show highOf rk (sl.drop j) ≤ _; omega⟩
theorem LpF.inv (h : LpF W M B l rk G cS sl n N1 gl gh L 0 0 w) (hM : M = W.heap.size) (hMB : M ≤ B) (hMG : M ≤ G) (hN : N1 = n + 1) (hn : sl.length = n) : Inv (cxOf sl rk B G gl gh L l cS w N1) (fun k => W.heap.size ≤ k ∧ k < w.heap.size) w (List.replicate sl.length []) := by
  obtain ⟨c, hc, _, _, hv⟩ := h.lo
  obtain ⟨c', hc', _, _, hv'⟩ := h.hi
  obtain ⟨inner, hro⟩ := Kd.R_own h.row
  obtain ⟨cG, hcG⟩ := own_typed hro G (by simp [Value.ownBlock])
  have lt : ∀ {g : Nat} {o : Obj}, w.heap[g]? = some o → g < w.heap.size := fun h => (Array.getElem?_eq_some_iff.1 h).1
  have nd : ∀ i : Nat, (List.replicate sl.length nil3).getD i nil3 = nil3 := fun i => by
    rw [List.getD_eq_getElem?_getD, List.getElem?_replicate]; split <;> rfl
  have nr : ∀ i : Nat, (List.replicate sl.length ([] : List Int)).getD i [] = [] := fun i => by
    rw [List.getD_eq_getElem?_getD, List.getElem?_replicate]; split <;> rfl
  refine ⟨⟨?_, ⟨cG, hcG, fun i hi => ?_⟩, ⟨c, hc, fun j hj => hv j (by omega) (by rw [← hn]; exact hj)⟩, ⟨c', hc', fun j hj => hv' j (by omega) (by rw [← hn]; exact hj)⟩⟩, ⟨⟨by show W.heap.size ≤ B; omega, lt h.box⟩, ⟨by show W.heap.size ≤ G; omega, lt hcG⟩, ⟨by show W.heap.size ≤ gl; have := h.bl; omega, lt hc⟩, ⟨by show W.heap.size ≤ gh; have := h.bh; omega, lt hc'⟩, ⟨by show W.heap.size ≤ L; have := h.bL; omega, lt h.li⟩⟩, fun k hk => hk.2, Nat.le_refl _, by simp [cxOf], List.replicate sl.length nil3, by simp [cxOf], ?_, fun i => ?_, fun i j b hij hb => ?_⟩
  · have hb := h.box
    unfold BoxS at hb
    rw [hN, ← hn] at hb
    show w.heap[B]? = _
    rw [hb]
    simp only [cxOf, hN, hn]
  · have h1 := h.sc i hi
    constructor
    · have h2 : cG[i * 2]? = some (.int .i64 sl[i].f0) := by have h2 := h1.1; simpa [World.cell?, hcG] using h2
      exact h2
    · have h2 : cG[i * 2 + 1]? = some (.int .i64 sl[i].f1) := by have h2 := h1.2; simpa [World.cell?, hcG] using h2
      exact h2
  · show w.heap[L]? = _
    rw [h.li, hn]; simp
  · rw [nd, nr]; exact Kd.R_nil _ _ _ _ _
  · rw [nd] at hb; simp [Value.ownBlock] at hb
end
end Go.Proofs.Ytgcdeablfoomhaa.PAll
end
