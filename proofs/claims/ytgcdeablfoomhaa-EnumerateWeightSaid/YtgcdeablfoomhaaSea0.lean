/- The search of enumerate: small facts of its memory; a store into a row of one's own in a region that draws its order. -/
import Derived.Test.YtgcdeablfoomhaaPAllx0
import Derived.Test.YtgcdeablfoomhaaRan
import Derived.Lib.Hide
import Derived.Deep.CutRange
set_option linter.unusedVariables false
set_option linter.unusedSimpArgs false
namespace Go.Proofs.Ytgcdeablfoomhaa.PAll
open Go.RowKit Go.Proofs.YtgcdeablfoomhaaW.PrintWords Go.Proofs.YtgcdeablfoomhaaW.PrintLast Go.Proofs.YtgcdeablfoomhaaW.PrintMore

theorem wrap64_of' {n : Int} (h : -9223372036854775808 ≤ n) (h2 : n < 9223372036854775808) : wrap64 n = n := by
  unfold wrap64; omega
abbrev nil3 : Value := .slice none 0 0

/-- A box that holds a state. -/
def BoxA (W : World) (B : Nat) (s0 s1 s2 : Value) : Prop := W.heap[B]? = some (.cells #[s0, s1, s2] 35 (0, 0))
section
variable {W W' : World} {B b : Nat} {s0 s1 s2 : Value}
theorem BoxA.c0 (h : BoxA W B s0 s1 s2) : W.cell? ⟨B, 0, none⟩ = some s0 := by simp [World.cell?, show W.heap[B]? = _ from h]
theorem BoxA.c1 (h : BoxA W B s0 s1 s2) : W.cell? ⟨B, 1, none⟩ = some s1 := by simp [World.cell?, show W.heap[B]? = _ from h]
theorem BoxA.c2 (h : BoxA W B s0 s1 s2) : W.cell? ⟨B, 2, none⟩ = some s2 := by simp [World.cell?, show W.heap[B]? = _ from h]
theorem BoxA.f0 (h : BoxA W B s0 s1 s2) : W.frozen? ⟨B, 0, none⟩ = false := by simp [World.frozen?, show W.heap[B]? = _ from h]
theorem BoxA.f1 (h : BoxA W B s0 s1 s2) : W.frozen? ⟨B, 1, none⟩ = false := by simp [World.frozen?, show W.heap[B]? = _ from h]
theorem BoxA.f2 (h : BoxA W B s0 s1 s2) : W.frozen? ⟨B, 2, none⟩ = false := by simp [World.frozen?, show W.heap[B]? = _ from h]
theorem BoxA.lt (h : BoxA W B s0 s1 s2) : B < W.heap.size := (Array.getElem?_eq_some_iff.1 h).1
theorem BoxA.below (h : BoxA W B s0 s1 s2) (hb : Below b W W') (hB : B < b) : BoxA W' B s0 s1 s2 := (hb.block B hB).trans h
theorem BoxA.alloc (h : BoxA W B s0 s1 s2) (o : Obj) : BoxA (W.alloc o) B s0 s1 s2 := h.below (b := B + 1) ((Below.refl _ W).alloc (by have := h.lt; omega) o) (by omega)
theorem BoxA.new (W : World) (s0 s1 s2 : Value) : BoxA (W.alloc (.cells #[s0, s1, s2] 35)) W.heap.size s0 s1 s2 := World.alloc_heap_new W _
theorem BoxA.set0 (h : BoxA W B s0 s1 s2) (u : Value) : BoxA (W.setCell ⟨B, 0, none⟩ u) B u s1 s2 := heap_setCell_same W B 0 _ 35 u h
theorem BoxA.set1 (h : BoxA W B s0 s1 s2) (u : Value) : BoxA (W.setCell ⟨B, 1, none⟩ u) B s0 u s2 := heap_setCell_same W B 1 _ 35 u h
theorem BoxA.set2 (h : BoxA W B s0 s1 s2) (u : Value) : BoxA (W.setCell ⟨B, 2, none⟩ u) B s0 s1 u := heap_setCell_same W B 2 _ 35 u h
theorem BoxA.far (h : BoxA W B s0 s1 s2) {p : Addr} (hp : B ≠ p.block) (u : Value) : BoxA (W.setCell p u) B s0 s1 s2 := (heap_setCell_other W p B u hp).trans h
theorem BoxA.kept {ob : Option Nat} (h : BoxA W B s0 s1 s2) (hg : W.grownBy W' ob) (hne : some B ≠ ob) : BoxA W' B s0 s1 s2 := (hg.block B h.lt hne).trans h
theorem boxA_ne {α : Type} {d : Kd α} {e : Nat} {base : Nat} {ok : Nat → Prop} {v : Value} {xs : List α} (h : d.R e W base ok v xs) (hb : BoxA W B s0 s1 s2) (hte : (35 : Nat) ≠ e) : some B ≠ v.ownBlock := by
  intro he
  obtain ⟨inner, ho⟩ := Kd.R_own h
  obtain ⟨cells, hc⟩ := own_typed ho B he.symm
  rw [show W.heap[B]? = _ from hb] at hc
  injection hc with hc
  injection hc with _ h2
  exact hte h2
theorem R_setA {base : Nat} {ok : Nat → Prop} {v u : Value} {j : Nat} {xs : List (List Int)} (h : Kd.R (Kd.slice 3 (Kd.int .i64)) 33 W base ok v xs) (hbx : BoxA W B s0 s1 s2) : Kd.R (Kd.slice 3 (Kd.int .i64)) 33 (W.setCell ⟨B, j, none⟩ u) base ok v xs :=
  Kd.R_set h hbx (by decide) j u
theorem R_setI {base : Nat} {ok : Nat → Prop} {v u : Value} {j : Nat} {xs : List Int} (h : Kd.R (Kd.int .i64) 3 W base ok v xs) (hbx : BoxA W B s0 s1 s2) : Kd.R (Kd.int .i64) 3 (W.setCell ⟨B, j, none⟩ u) base ok v xs :=
  Kd.R_set h hbx (by decide) j u
end
section
variable {P : Program} {ops : Array Oper} {o : Oper} {a : Act} {Q : Exit → Act → World → Prop} {Kc : Act → World → Prop} {α : Type}
/-- A store of a whole one-cell element of a row of one's own, in a region that draws its order. -/
theorem R_store_step (d : Kd α) {W : World} (base : Nat) (hw : Region.wanted o (yielded ops a.tmps) = true) (hN : o.dst = none) (t : TypeId) (p x : Operand) (ho : o.op = .store t p x) (e : TypeId) {g n cap : Nat} (i : Int) (xs : List α) (x' : α) (u : Value) (ok okp : Nat → Prop)
    (haddr : a.eval p = .pointer (some ⟨g, i.toNat, none⟩)) (hx : a.eval x = u) (hu : u.cells.toList = [u]) (ht : (P.info? t).map (·.size) = some 1) (h1 : u.oneCell' = true) (hsz : d.sz = 1)
    (HO : d.R e W base ok (.slice (some ⟨g, 0, none⟩) n cap) xs) (h0 : 0 ≤ i) (hi : i < n) {c : List Value} (hcl : c.length = d.sz) (hcc : ∀ j u, c[j]? = some u → W.cell? ⟨g, i.toNat * d.sz + j, none⟩ = some u)
    (hM : d.M W base okp x' [u]) (hokp : ∀ k, okp k → ok k ∧ k ≠ g)
    (h : ∀ w1, w1 = W.setCell ⟨g, i.toNat, none⟩ u → d.R e w1 base ok (.slice (some ⟨g, 0, none⟩) n cap) (xs.set i.toNat x') → W.grownBy w1 (some g) → Kc a w1) :
    if Region.wanted o (yielded ops a.tmps) = true then Oper.wp P o a W Kc Q else Kc (a.put none undef) W := by
  have hoff : i.toNat * d.sz + 0 = i.toNat := by rw [hsz]; omega
  have hsg : W.setCells g (i.toNat * d.sz + 0) [u] = W.setCell ⟨g, i.toNat, none⟩ u := by rw [hoff]; rfl
  obtain ⟨hrow, hg⟩ := Kd.R_seg (j := 0) (seg := [u]) (x' := x') HO i h0 hi hcl hcc (by rw [hsz]; simp) (by
    have : c.take 0 ++ [u] ++ c.drop (0 + [u].length) = [u] := by
      rw [hsz] at hcl
      match c, hcl with
      | [y], _ => rfl
    rw [this]; exact hM) hokp
  rw [hsg] at hrow hg
  have hnx : n = xs.length := (Kd.R_reads' HO).1
  obtain ⟨_, inner, hown, hr⟩ := HO
  have hil : i.toNat < n := by omega
  have hrun : (Instr.storeAt t (.pointer (some ⟨g, i.toNat, none⟩)) u).run P W = .ok () (W.setCell ⟨g, i.toNat, none⟩ u) := by
    rcases hown.2 with ⟨hv, _⟩ | ⟨g', cap', cur, hv, hb, hh, hnc, hcm, hcs, _⟩
    · cases hv
    injection hv with ha _ hc
    injection ha with ha
    injection ha with hg'
    subst hg'; subst hc
    exact run_store_run t u [u] hh hu ht (by rw [hcs, hsz]; simp; omega) (by simpa using h1)
  refine skip_ hw hN (w1 := W.setCell ⟨g, i.toNat, none⟩ u) ?_ (h _ rfl hrow hg)
  simp only [execOp, ho, haddr, hx, Sem.run_bind, Sem.run_pure, Result.andThen_ok, hrun]
end
end Go.Proofs.Ytgcdeablfoomhaa.PAll
