/- Small lemmas on rows and boxes: how what a call owns is carried over a store into a box, over a loop over an iterator, over blocks that are kept. -/
import Derived.Test.YtpkamififbhheaaBack
import Derived.Test.YtpkamififbhheaaWApart
set_option linter.unusedVariables false
set_option linter.unusedSimpArgs false
namespace Go.Proofs.Ytpkamififbhheaa
open Go.RowKit Go.Shelf Go.Proofs.YtpkamififbhheaaW.PrintWords

section
variable {α β : Type} {d : Kd α} {d' : Kd β} {e e' : Nat} {w w1 W : World} {base base' : Nat} {ok ok' : Nat → Prop} {v u : Value} {xs : List α} {ys : List β}

/-- What a call owns from base on stays while a block below base is written. -/
theorem R_setBox (h : d.R e w base ok v xs) {B : Nat} (hB : B < base) (x : Value) : d.R e (w.setCell ⟨B, 0, none⟩ x) base ok v xs :=
  Kd.R_mono (Kd.R_move (Kd.R_bound h) (fun k hk => Below.heap_setCell w ⟨B, 0, none⟩ x k (by have := hk.2.1; simp; omega))) (fun _ hk => hk.1)
/-- .. while a block is turned that is no cells. -/
theorem R_put (h : d.R e w base ok v xs) {l : Nat} {o : Obj} (o' : Obj) (hl : w.heap[l]? = some o) (ho : o.isCells = false) : d.R e (w.putObj l o') base ok v xs :=
  Kd.R_mono (Kd.R_move (Kd.R_bound h) (fun k hk => World.putObj_heap_other (by
    rintro rfl
    obtain ⟨_, _, _, _, _, cells, hc⟩ := hk
    rw [hc] at hl; cases hl; cases ho))) (fun _ hk => hk.1)
/-- A step that turns at most a block that is no cells. -/
theorem R_kept (h : d.R e w base ok v xs) {row : Option Nat} (hg : w.grownBy w1 row) (hr : ∀ r, row = some r → ∃ o : Obj, w.heap[r]? = some o ∧ o.isCells = false) : d.R e w1 base ok v xs :=
  Kd.R_mono (Kd.R_move (Kd.R_bound h) (fun k hk => by
    obtain ⟨_, _, hlt, _, _, cells, hc⟩ := hk
    refine hg.block k hlt (fun he => ?_)
    obtain ⟨o, ho, hoc⟩ := hr k he.symm
    rw [hc] at ho; cases ho; cases hoc)) (fun _ hk => hk.1)
/-- A row made by a call is apart from what lay ahead of it. -/
theorem R_made (h : d.R e w1 W.heap.size ok v xs) (hu : ∀ k, u.ownBlock = some k → k < W.heap.size) (hb : base ≤ W.heap.size) : d.R e w1 base (fun k => W.heap.size ≤ k ∧ some k ≠ u.ownBlock) v xs :=
  Kd.R_lower (Kd.R_mono (Kd.R_bound h) (fun k hk => ⟨hk.2.1, fun e => by have := hu k e.symm; have := hk.2.1; omega⟩)) hb
theorem R_ge (h : d.R e w1 W.heap.size ok v xs) : d.R e w1 W.heap.size (fun k => W.heap.size ≤ k) v xs := Kd.R_mono (Kd.R_bound h) (fun k hk => hk.2.1)
theorem box_ne (h : d.R e w base ok v xs) {B : Nat} (hB : B < base) : some B ≠ v.ownBlock := fun e => by have := Kd.R_base h B e.symm; omega
theorem box_below {t : TypeId} {B : Nat} (h : Boxed w B t v) (hb : Below w.heap.size w w1) : Boxed w1 B t v := (hb.block B h.lt).trans h
/-- A step that turns one row keeps what is not that row. -/
theorem keepS_of_grown {S : Nat → Prop} {row : Option Nat} (hg : w.grownBy w1 row) (hlt : ∀ b, S b → b < w.heap.size) (hr : ∀ b, S b → some b ≠ row) : KeepS S w w1 := KeepS.of_grownBy hg hlt hr
theorem keepS_set {S : Nat → Prop} {B : Nat} (hB : ¬ S B) (x : Value) : KeepS S w (w.setCell ⟨B, 0, none⟩ x) :=
  ⟨by simp [World.setCell], fun b hb => Below.heap_setCell w ⟨B, 0, none⟩ x b (by rintro rfl; exact hB hb)⟩
/-- The elements of a row of rows: each cell holds a slice that the row leads to. -/
theorem R_elem {d : Kd α} {xss : List (List α)} (h : (Kd.slice e d).R e' w base ok v xss) (j : Nat) (hj : j < xss.length) :
    ∃ g u, v.ownBlock = some g ∧ w.cell? ⟨g, j, none⟩ = some u ∧ d.R e w base (fun k => ok k ∧ some k ≠ v.ownBlock) u xss[j] := by
  obtain ⟨_, inner, ho, hr⟩ := h
  obtain ⟨g, cap, rfl, hb, hl⟩ := ho.form (by omega)
  obtain ⟨u, hu, hR⟩ := hr.2 j _ (List.getElem?_eq_getElem hj)
  refine ⟨g, u, rfl, ?_, hR⟩
  have hlen : inner.length = xss.length * 1 := hr.1
  rw [ho.cellAt j (by show j < xss.length * 1; omega)]
  have h1 : (inner.drop (j * 1)).take 1 = [u] := hu
  rw [Nat.mul_one] at h1
  have h2 : (inner.drop j)[0]? = some u := by
    have := congrArg (fun l : List Value => l[0]?) h1
    simpa using this
  simpa using h2
/-- A row that is read reads alike where its block is kept. -/
theorem C_keepS {k : IntKind} {S : Nat → Prop} {A : Option Addr} {n : Nat} {l : List Int} (h : (Kd.int k).C w A n l) (hS : 0 < n → ∀ ad, A = some ad → S ad.block) (hk : KeepS S w w1) : (Kd.int k).C w1 A n l := by
  refine ⟨h.1, h.2.1, fun hn => ?_⟩
  obtain ⟨ad, e, hc⟩ := h.2.2 hn
  refine ⟨ad, e, fun j p hj => ?_⟩
  obtain ⟨c, hs, hr, hcell⟩ := hc j p hj
  refine ⟨c, hs, hr, fun i x hx => ?_⟩
  have := hcell i x hx
  exact (World.cell?_of_block (w := w) (hk.2 _ (by rw [Addr.add_block]; exact hS hn ad e))).trans this
theorem keepsFrom_below {B : Nat} (hb : Below w.heap.size w w1) : KeepsFrom B w w1 := ⟨hb.size, fun k _ _ hk _ => (hb.block k (Array.getElem?_eq_some_iff.1 hk).1).trans hk⟩
theorem keepsFrom_grown {B : Nat} (h : d.R e w base ok v xs) (hg : w.grownBy w1 v.ownBlock) : KeepsFrom B w w1 :=
  (KeepsOthers.of_grownBy hg fun j o ej hj => by
    obtain ⟨inner, ho⟩ := Kd.R_own h
    obtain ⟨cells, hc⟩ := own_typed ho j ej
    rw [hc] at hj; cases hj; rfl).from B
theorem below_grown {B : Nat} (h : d.R e w base ok v xs) (hB : B ≤ base) (hs : B ≤ w.heap.size) (hg : w.grownBy w1 v.ownBlock) : Below B w w1 :=
  (Below.refl B w).grown hg hs (fun k hk => Nat.le_trans hB (Kd.R_base h k hk))
theorem flatten_map_le {γ : Type} {g : γ → List Int} {M : Nat} : ∀ (l : List γ), (∀ j ∈ l, (g j).length ≤ M) → (l.map g).flatten.length ≤ l.length * M
  | [], _ => by simp
  | x :: l, h => by
    have h1 := h x (by simp)
    have h2 := flatten_map_le l (fun j hj => h j (by simp [hj]))
    simp only [List.map_cons, List.flatten_cons, List.length_append, List.length_cons, Nat.add_mul, Nat.one_mul]
    omega
theorem le_flatten {l : List (List Int)} {j : Nat} (h : j < l.length) : (l[j]'h).length ≤ l.flatten.length := by
  induction l generalizing j with
  | nil => simp at h
  | cons x l ih =>
    cases j with
    | zero => simp
    | succ j =>
      have := ih (j := j) (by simpa using h)
      simp only [List.getElem_cons_succ, List.flatten_cons, List.length_append]
      omega
end
end Go.Proofs.Ytpkamififbhheaa
