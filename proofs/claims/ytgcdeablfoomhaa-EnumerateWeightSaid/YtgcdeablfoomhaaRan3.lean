/- A range over the states of a box: the loop variable's box; what lies outside of the search; a region that draws its order within a round. -/
import Derived.Test.YtgcdeablfoomhaaRan2
import Derived.Test.YtgcdeablfoomhaaAll2
set_option linter.unusedVariables false
set_option linter.unusedSimpArgs false
namespace Go.Proofs.Ytgcdeablfoomhaa.PAll
open Go.RowKit Go.Proofs.YtgcdeablfoomhaaW.PrintWords Go.Proofs.YtgcdeablfoomhaaW.PrintLast Go.Proofs.YtgcdeablfoomhaaW.PrintMore

section
variable {P : Program} {ops : Array Oper} {Q : Exit → Act → World → Prop} {md : Region.Mode}
def noDefer (ops : Array Oper) : Bool := ops.all fun o => match o.op with | .defer _ => false | _ => true
theorem noDefer_spec (h : noDefer ops = true) {i : Nat} {o : Oper} (hi : ops[i]? = some o) : ∀ c, o.op ≠ .defer c := by
  intro c hc
  unfold noDefer at h
  rw [Array.all_eq_true] at h
  obtain ⟨hlt, ho⟩ := Array.getElem?_eq_some_iff.1 hi
  have := h i hlt
  rw [ho, hc] at this
  cases this
theorem wpOpIn_of_wpOp (l m : Nat) (hno : ¬ LetsOut Q) (hd : noDefer ops = true) {i : Nat} {K : Act → World → Prop} {a : Act} {w : World} (h : wpOp P ops Q i K a w) : wpOpIn (Fence.wide.inRound l) m P ops Q i K a w := by
  unfold wpOp at h
  unfold wpOpIn
  cases hi : ops[i]? with
  | none => rw [hi] at h; exact h
  | some o =>
    rw [hi] at h
    dsimp only at h ⊢
    split
    · rename_i hw
      rw [if_pos hw] at h
      replace h := h.resolve_right (fun h => hno h.2)
      refine ⟨fun _ _ => trivial, ?_⟩
      rw [show (Fence.wide.inRound l).round = some l from rfl, Oper.semAt_eq _ _ _ (noDefer_spec hd hi)]
      unfold Oper.wp at h
      generalize (execOp a.eval o).run P w = r at *
      cases r with
      | ok x w' =>
        cases x <;> simp only [Oper.upon, Oper.uponIn] at h ⊢ <;> first
          | exact h
          | exact ⟨fun hd => by simp [Fence.inRound, Fence.wide] at hd, callsIn_wide.2 h⟩
          | (refine ⟨fun hd => by simp [Fence.inRound, Fence.wide] at hd, ?_⟩
             intro c cs hroom
             obtain ⟨v, w2, h1, h2⟩ := h c cs
             exact ⟨v, w2, h1, stepsIn_wide.2 h2⟩)
      | halt x w' => cases x <;> simp only [Oper.upon, Oper.uponIn] at h ⊢ <;> exact h
    · rename_i hw
      rw [if_neg hw] at h
      exact ⟨fun _ _ => trivial, h⟩
theorem wpAnyIn_of_wpAny (l m : Nat) (hno : ¬ LetsOut Q) (hd : noDefer ops = true) : ∀ (fuel : Nat) (listed : Array Bool) (a : Act) (w : World), wpAny P md ops Q fuel listed a w → wpAnyIn (Fence.wide.inRound l) m P md ops Q fuel listed a w
  | 0, _, _, _, h => h
  | fuel + 1, _, _, _, h => ⟨h.1, fun i hi => wpOpIn_mono (fun a' w' h' => wpAnyIn_of_wpAny l m hno hd fuel _ a' w' h') (wpOpIn_of_wpOp l m hno hd (h.2 i hi))⟩
/-- 'start_' within a round. -/
theorem startR_ {id n lp m : Nat} {S : World → Prop} {ds : List Nat} {a : Act} {w : World} (l : Array Bool) (hno : ¬ LetsOut Q) (hm : P.follows .mixedOrders = true) (hd : noDefer ops = true) (hn : ops.size = n) (hl : Array.replicate n false = l) (hS : S w.drew)
    (h : S w.drew → wpAnyLast P .any ops Q S ds n l a w.drew) : (Code.region id ops true).wpIn (Fence.wide.inRound lp) m P Q a w := by
  subst hn
  subst hl
  exact wpIn_region_any hm (wpAnyIn_of_wpAny lp m hno hd _ _ _ _ (wpAny_of_last _ _ _ _ (h hS)))
/-- 'start_' inside the wide fence. -/
theorem startW_ {id n m : Nat} {S : World → Prop} {ds : List Nat} {a : Act} {w : World} (l : Array Bool) (hm : P.follows .mixedOrders = true) (hn : ops.size = n) (hl : Array.replicate n false = l) (hS : S w.drew)
    (h : S w.drew → wpAnyLast P .any ops Q S ds n l a w.drew) : (Code.region id ops true).wpIn Fence.wide m P Q a w := wpIn_wide.2 (start_ l hm hn hl hS h)
end

theorem R_put {α : Type} {d : Kd α} {e base : Nat} {ok : Nat → Prop} {W : World} {v : Value} {xs : List α} (h : d.R e W base ok v xs) {l : Nat} {o : Obj} (o' : Obj) (hl : W.heap[l]? = some o) (ho : o.isCells = false) : d.R e (W.putObj l o') base ok v xs := by
  refine Kd.R_mono (Kd.R_step (Kd.R_bound h) (fun k hk _ => World.putObj_heap_other (fun e => ?_))) (fun k hk => hk.1)
  obtain ⟨_, _, _, q, _, cells, hc⟩ := hk
  rw [e, hl] at hc
  injection hc with hc
  rw [hc] at ho
  cases ho
theorem GS_put {z : Nat} {x : List (List Int)} {y : Value × Value} {A : World} (h : GS z x y A) {l : Nat} {o : Obj} (o' : Obj) (hl : A.heap[l]? = some o) (ho : o.isCells = false) : GS z x y (A.putObj l o') := ⟨R_put h.1 o' hl ho, R_put h.2 o' hl ho⟩
theorem GS_below {z : Nat} {x : List (List Int)} {y : Value × Value} {A B : World} (h : GS z x y A) (hb : Below A.heap.size A B) : GS z x y B := ⟨Kd.R_below h.1 hb, Kd.R_below h.2 hb⟩
theorem GS_slices {z : Nat} {x : List (List Int)} {y : Value × Value} {A : World} (h : GS z x y A) : ∃ A1 n1 c1 A2 n2 c2, y = (.slice A1 n1 c1, .slice A2 n2 c2) := by
  obtain ⟨y0, y1⟩ := y
  obtain ⟨A1, c1, e1⟩ := Kd.R_slice h.1
  obtain ⟨A2, c2, e2⟩ := Kd.R_slice h.2
  dsimp only at e1 e2
  exact ⟨A1, _, c1, A2, _, c2, by rw [e1, e2]⟩
theorem box_put {W : World} {B : Nat} {cs : Array Value} {t : TypeId} (h : W.heap[B]? = some (.cells cs t (0, 0))) {l : Nat} {o : Obj} (o' : Obj) (hl : W.heap[l]? = some o) (ho : o.isCells = false) : (W.putObj l o').heap[B]? = some (.cells cs t (0, 0)) := by
  refine (World.putObj_heap_other (fun e => ?_)).trans h
  rw [e, hl] at h
  injection h with h
  rw [h] at ho
  cases ho
/-- The loop variable in its box; a₁ Bx y: the slots. -/
def AxS (a₁ : Nat → Value × Value → Act) (z : Nat) (x : List (List Int)) (y : Value × Value) (a' : Act) (A : World) : Prop := ∃ Bx, z ≤ Bx ∧ BoxA A Bx y.1 y.2 nil3 ∧ GS z x y A ∧ a' = a₁ Bx y
theorem AxS_put {a₁ : Nat → Value × Value → Act} : ∀ z x y a' A l o o', AxS a₁ z x y a' A → l < z → A.heap[l]? = some o → o.isCells = false → AxS a₁ z x y a' (A.putObj l o') := by
  rintro z x y a' A l o o' ⟨Bx, h1, h2, h3, h4⟩ _ hl ho
  exact ⟨Bx, h1, box_put h2 o' hl ho, GS_put h3 o' hl ho, h4⟩
theorem AxS_new {a₁ : Nat → Value × Value → Act} {z : Nat} {x : List (List Int)} {y : Value × Value} {W : World} (hG : GS z x y W) (hz : z ≤ W.heap.size) : AxS a₁ z x y (a₁ W.heap.size y) (W.alloc (.cells #[y.1, y.2, nil3] 35)) :=
  ⟨W.heap.size, hz, BoxA.new _ _ _ _, GS_below hG (below_alloc (Below.refl _ _) _), rfl⟩

/-- The frame, under a name. -/
theorem wpIn_fr {F : Fence} {n : Nat} {P : Program} {c : Code} {Q : Exit → Act → World → Prop} {tmps : Array Value} {ds : List Deferred} {w : World} (h : ∀ fr : Array Value, fr = tmps → c.wpIn F n P Q { tmps := fr, defers := ds } w) : c.wpIn F n P Q { tmps := tmps, defers := ds } w := h _ rfl
theorem zip_one (p : Tmp) (v : Value) (t : Array Value) : (#[p].zip #[v]).foldl (fun t (p, v) => t.setIfInBounds p v) t = t.setIfInBounds p v := by simp
/-- What the caller keeps: its own blocks are none of the search's; what lay below N lies as it lay. -/
structure OutT (W : World) (T : Nat → Prop) (A : World) : Prop where
  t : ∀ k, T k → W.heap.size ≤ k
  b : Below W.heap.size W A
theorem OutT.abide {β : Type} (W : World) : Abide (fun T (_ : β) A => OutT W T A) := by
  intro T T' s A B h hs hg
  have hA := h.b.size
  refine ⟨fun k hk => ?_, hs.os.trans h.b.os, hs.tape.trans h.b.tape, hs.output.trans h.b.output, Nat.le_trans h.b.size hs.size, fun k hk => ?_⟩
  · rcases hg.2 k hk with h1 | h1
    · exact h.t k h1
    · omega
  · rw [hs.block k (by omega) (fun ht => by have := h.t k ht; omega)]
    exact h.b.block k hk
theorem OutT.put {W : World} {T : Nat → Prop} {A : World} (h : OutT W T A) {l : Nat} (o' : Obj) (hl : W.heap.size ≤ l) : OutT W T (A.putObj l o') :=
  ⟨h.t, h.b.os, h.b.tape, h.b.output, by simpa using h.b.size, fun k hk => (World.putObj_heap_other (by omega)).trans (h.b.block k hk)⟩
/-- A box of the caller's own. -/
def OwnB (B : Nat) (o : Obj) (T : Nat → Prop) (A : World) : Prop := ¬ T B ∧ A.heap[B]? = some o
theorem OwnB.abide {β : Type} (B : Nat) (f : β → Obj) : Abide (fun T (s : β) A => OwnB B (f s) T A) := fun T T' s A A' h hs hg => ⟨not_grown h.2 h.1 hg, abide_rec h.2 h.1 hs⟩
theorem OwnB.put {B : Nat} {cs : Array Value} {t : TypeId} {T : Nat → Prop} {A : World} (h : OwnB B (.cells cs t (0, 0)) T A) {l : Nat} {o : Obj} (o' : Obj) (hl : A.heap[l]? = some o) (ho : o.isCells = false) : OwnB B (.cells cs t (0, 0)) T (A.putObj l o') := ⟨h.1, box_put h.2 o' hl ho⟩
/-- A row of the caller's own. -/
theorem ownR_abide {α : Type} {d : Kd α} {e base : Nat} {v : Value} {xs : List α} {T T' : Nat → Prop} {A B : World} (h : d.R e A base (fun k => ¬ T k) v xs) (hs : StepT T A B) (hg : Grows T T' A) : d.R e B base (fun k => ¬ T' k) v xs := by
  refine Kd.R_mono (Kd.R_step (Kd.R_bound h) (fun k hk hlt => hs.block k hlt hk.1)) (fun k hk ht => ?_)
  rcases hg.2 k ht with h1 | h1
  · exact hk.1 h1
  · have := hk.2.2.1; omega
/-- A step of the caller's own: blocks of S (cells all) are written, new ones are laid. -/
structure Mods (S : Nat → Prop) (A B : World) : Prop where
  os : B.os = A.os
  tape : B.tape = A.tape
  output : B.output = A.output
  size : A.heap.size ≤ B.heap.size
  block : ∀ k, k < A.heap.size → ¬ S k → B.heap[k]? = A.heap[k]?
  cells : ∀ k, S k → ∀ o, A.heap[k]? = some o → o.isCells = true
theorem Mods.of_below {S : Nat → Prop} {A B : World} (h : Below A.heap.size A B) (hS : ∀ k, S k → ∀ o, A.heap[k]? = some o → o.isCells = true) : Mods S A B := ⟨h.os, h.tape, h.output, h.size, fun k hk _ => h.block k hk, hS⟩
theorem Mods.others {S : Nat → Prop} {A B : World} (h : Mods S A B) : KeepsOthers A B := ⟨h.size, fun k o hk ho => by
  have hlt := (Array.getElem?_eq_some_iff.1 hk).1
  refine (h.block k hlt (fun hs => ?_)).trans hk
  have := h.cells k hs o hk
  rw [this] at ho; cases ho⟩
theorem Mods.keepS {S T : Nat → Prop} {A B : World} (h : Mods S A B) (hT : ∀ k, T k → k < A.heap.size ∧ ¬ S k) : KeepS T A B := ⟨h.size, fun k hk => h.block k (hT k hk).1 (hT k hk).2⟩
theorem keepS_set {T : Nat → Prop} (A : World) (B i : Nat) (u : Value) (h : ¬ T B) : KeepS T A (A.setCell ⟨B, i, none⟩ u) := ⟨by simp, fun b hb => heap_setCell_other A ⟨B, i, none⟩ b u (by rintro rfl; exact h hb)⟩
/-- What is left of a round by x = append(x, ..), x a boxed row of the caller's own. -/
structure AppP {α : Type} (d : Kd α) (W : World) (T : Nat → Prop) (e t B : Nat) (v1 v2 : Value) (xs' : List α) (wd w2 w3 : World) : Prop where
  fr : w2.frozen? ⟨B, 0, none⟩ = false
  ce : w2.cell? ⟨B, 0, none⟩ = some v1
  ot : KeepsOthers wd w3
  ks : KeepS T wd w3
  o : OutT W T w3
  b : OwnB B (.cells #[v2] t) T w3
  r : d.R e w3 W.heap.size (fun k => ¬ T k) v2 xs'
  x : ∀ (B' : Nat) (c : Array Value) (t' : TypeId), B' ≠ B → t' ≠ e → OwnB B' (.cells c t' (0, 0)) T wd → OwnB B' (.cells c t' (0, 0)) T w3
theorem own_app {α : Type} {d : Kd α} {W : World} {T : Nat → Prop} {e t B : Nat} {v1 v2 : Value} {xs xs' : List α} {wd w2 : World} (hN : W.heap.size ≤ B) (hO : OutT W T wd) (hT : ∀ k, T k → k < wd.heap.size) (h1 : OwnB B (.cells #[v1] t) T wd) (hte : ∀ q, q ∈ e :: d.E → q ≠ t)
    (hR : d.R e wd W.heap.size (fun k => ¬ T k) v1 xs) (ho2 : d.R e w2 W.heap.size (fun k => ¬ T k) v2 xs') (hb2 : Below W.heap.size W w2) (hg2 : wd.grownBy w2 v1.ownBlock) : AppP d W T e t B v1 v2 xs' wd w2 (w2.setCell ⟨B, 0, none⟩ v2) := by
  have hlt : ∀ {B : Nat} {o : Obj}, wd.heap[B]? = some o → B < wd.heap.size := fun h => (Array.getElem?_eq_some_iff.1 h).1
  have hnb : ∀ {B : Nat} {c : Array Value} {t : TypeId}, wd.heap[B]? = some (.cells c t (0, 0)) → t ≠ e → some B ≠ v1.ownBlock := fun hB ht => Kd.R_ne hR hB (Ne.symm ht)
  have k1 : w2.heap[B]? = some (.cells #[v1] t (0, 0)) := (hg2.block _ (hlt h1.2) (hnb h1.2 (Ne.symm (hte e (by simp))))).trans h1.2
  have hks : KeepS T wd w2 := ⟨hg2.size, fun k hk => hg2.block k (hT k hk) (fun e => hR.1 k e.symm hk)⟩
  refine ⟨by simp [World.frozen?, k1], cell_of_heap k1 rfl, (KeepsOthers.of_grownBy hg2 fun j o ej hj => ?_).trans (KeepsOthers.setCell _ _ _), hks.trans (keepS_set _ _ _ _ h1.1), ⟨hO.t, hb2.setCell (p := ⟨B, 0, none⟩) hN _⟩, ⟨h1.1, heap_setCell_same w2 B 0 _ t v2 k1⟩, Kd.R_set ho2 k1 hte 0 v2, fun B' c t' hB ht hO' => ⟨hO'.1, ?_⟩⟩
  · obtain ⟨inner, hown⟩ := Kd.R_own hR
    obtain ⟨cells, hc⟩ := own_typed hown j ej
    rw [hc] at hj
    injection hj with hj
    rw [← hj]; rfl
  · exact (heap_setCell_other w2 ⟨B, 0, none⟩ B' v2 hB).trans ((hg2.block _ (hlt hO'.2) (hnb hO'.2 ht)).trans hO'.2)
end Go.Proofs.Ytgcdeablfoomhaa.PAll
