/- The search's setting-up: three rows are made and put into the search, in any order. -/
import Derived.Test.YtgcdeablfoomhaaAll0
set_option linter.unusedVariables false
set_option linter.unusedSimpArgs false
namespace Go.Proofs.Ytgcdeablfoomhaa.PAll
open Go.RowKit Go.Proofs.YtgcdeablfoomhaaW.PrintWords Go.Proofs.YtgcdeablfoomhaaW.PrintLast Go.Proofs.YtgcdeablfoomhaaW.PrintMore

theorem madeCells_one (z : Value) (n : Nat) : madeCells #[z] n = Array.replicate n z := by
  apply Array.ext
  · simp [madeCells]
  · intro i h1 h2
    simp [madeCells, Nat.mod_one]
theorem mk_run {P : Program} {o : Oper} {a : Act} {W : World} (t e : TypeId) (x y : Operand) (ho : o.op = .makeSlice t x y) (m : Nat) (hx : a.eval x = .int .i64 (m : Int)) (hy : a.eval y = .int .i64 (m : Int)) (ht : P.underlying t = some (.slice e)) (z : Value) (bytes : Nat)
    (hinfo : (P.info? e).map (fun i => (i.zero, i.size, i.bytes)) = some (some z, 1, bytes)) (hz : z.cells = #[z]) (hm : m ≤ 1000) (hb : bytes ≤ 1000) :
    (execOp a.eval o).run P W = .ok (.value (.slice (some ⟨W.heap.size, 0, none⟩) m m)) (W.alloc (.cells (Array.replicate m z) e)) := by
  obtain ⟨i0, hi, hzz⟩ := Option.map_eq_some_iff.1 hinfo
  simp only [Prod.mk.injEq] at hzz
  obtain ⟨hz0, hz1, hz2⟩ := hzz
  have hmb : bytes * m ≤ 1000 * 1000 := Nat.mul_le_mul hb hm
  have hr := run_make (P := P) W t e i0 z ht hi hz0 .i64 .i64 (m : Int) (m : Int) (by omega) (by omega) (by
    have h3 : ((i0.bytes * m : Nat) : Int) ≤ 281474976710656 := by rw [hz2]; omega
    rwa [Int.natCast_mul] at h3) (by omega)
  simp only [Int.toNat_natCast] at hr
  rw [hz1, hz, madeCells_one, Nat.mul_one] at hr
  simp [execOp, ho, hx, hy, hr]
/-- The search while its three rows are made: lo, hi, li the blocks of those that are made. -/
structure MkF (W : World) (M B l : Nat) (rk : Int) (s0 : Value) (sl : List S62) (n1 n : Nat) (lo hi li : Option Nat) (s2 s3 s4 : Value) (w : World) : Prop where
  box : BoxS w B s0 rk s2 s3 s4 l
  row : k62.R 62 w M (fun _ => True) s0 sl
  bel : Below W.heap.size W w
  lo_ : ∀ g, lo = some g → w.heap[g]? = some (.cells (Array.replicate n1 (.int .i64 0)) 3 (0, 0)) ∧ M ≤ g
  hi_ : ∀ g, hi = some g → w.heap[g]? = some (.cells (Array.replicate n1 (.int .i64 0)) 3 (0, 0)) ∧ M ≤ g
  li_ : ∀ g, li = some g → w.heap[g]? = some (.cells (Array.replicate n nil3) 33 (0, 0)) ∧ M ≤ g
  ne : ∀ g, lo = some g → hi ≠ some g
section
variable {W w : World} {M B l n1 n : Nat} {rk : Int} {s0 s2 s3 s4 : Value} {sl : List S62} {lo hi li : Option Nat}
theorem al_keep {w : World} {g : Nat} {o : Obj} (h : w.heap[g]? = some o) (o' : Obj) : (w.alloc o').heap[g]? = some o := blk_alloc h o'
theorem MkF.low (h : MkF W M B l rk s0 sl n1 n none hi li s2 s3 s4 w) (hM : M = W.heap.size) : MkF W M B l rk s0 sl n1 n (some w.heap.size) hi li s2 s3 s4 (w.alloc (.cells (Array.replicate n1 (.int .i64 0)) 3)) := by
  have hs := h.bel.size
  exact ⟨blk_alloc h.box _, Kd.R_alloc h.row _, h.bel.trans ((below_alloc (Below.refl _ _) _).mono hs), fun g hg => by injection hg with hg; subst hg; exact ⟨World.alloc_heap_new w _, by omega⟩,
    fun g hg => ⟨blk_alloc (h.hi_ g hg).1 _, (h.hi_ g hg).2⟩, fun g hg => ⟨blk_alloc (h.li_ g hg).1 _, (h.li_ g hg).2⟩, fun g hg hh => by
      injection hg with hg
      have := (Array.getElem?_eq_some_iff.1 (h.hi_ g hh).1).1
      omega⟩
theorem MkF.high (h : MkF W M B l rk s0 sl n1 n lo none li s2 s3 s4 w) (hM : M = W.heap.size) : MkF W M B l rk s0 sl n1 n lo (some w.heap.size) li s2 s3 s4 (w.alloc (.cells (Array.replicate n1 (.int .i64 0)) 3)) := by
  have hs := h.bel.size
  exact ⟨blk_alloc h.box _, Kd.R_alloc h.row _, h.bel.trans ((below_alloc (Below.refl _ _) _).mono hs), fun g hg => ⟨blk_alloc (h.lo_ g hg).1 _, (h.lo_ g hg).2⟩,
    fun g hg => by injection hg with hg; subst hg; exact ⟨World.alloc_heap_new w _, by omega⟩, fun g hg => ⟨blk_alloc (h.li_ g hg).1 _, (h.li_ g hg).2⟩, fun g hg hh => by
      injection hh with hh
      have := (Array.getElem?_eq_some_iff.1 (h.lo_ g hg).1).1
      omega⟩
theorem MkF.list (h : MkF W M B l rk s0 sl n1 n lo hi none s2 s3 s4 w) (hM : M = W.heap.size) : MkF W M B l rk s0 sl n1 n lo hi (some w.heap.size) s2 s3 s4 (w.alloc (.cells (Array.replicate n nil3) 33)) := by
  have hs := h.bel.size
  exact ⟨blk_alloc h.box _, Kd.R_alloc h.row _, h.bel.trans ((below_alloc (Below.refl _ _) _).mono hs), fun g hg => ⟨blk_alloc (h.lo_ g hg).1 _, (h.lo_ g hg).2⟩,
    fun g hg => ⟨blk_alloc (h.hi_ g hg).1 _, (h.hi_ g hg).2⟩, fun g hg => by injection hg with hg; subst hg; exact ⟨World.alloc_heap_new w _, by omega⟩, h.ne⟩
theorem blk_box_ne {w : World} {B g t : Nat} {c : Array Value} {s0 s2 s3 s4 : Value} {rk : Int} {l : Nat} (h : BoxS w B s0 rk s2 s3 s4 l) (hg : w.heap[g]? = some (.cells c t (0, 0))) (ht : t ≠ 60) : g ≠ B := by
  rintro rfl
  rw [show w.heap[g]? = _ from h] at hg
  injection hg with hg
  injection hg with _ h2
  exact ht h2.symm
theorem MkF.set (h : MkF W M B l rk s0 sl n1 n lo hi li s2 s3 s4 w) (hMB : W.heap.size ≤ B) (i : Nat) (u : Value) {s2' s3' s4' : Value} (hbox : BoxS (w.setCell ⟨B, i, none⟩ u) B s0 rk s2' s3' s4' l) : MkF W M B l rk s0 sl n1 n lo hi li s2' s3' s4' (w.setCell ⟨B, i, none⟩ u) :=
  ⟨hbox, R62_set h.row h.box, h.bel.setCell (p := ⟨B, i, none⟩) hMB _, fun g hg => ⟨(heap_setCell_other w ⟨B, i, none⟩ g u (blk_box_ne h.box (h.lo_ g hg).1 (by decide))).trans (h.lo_ g hg).1, (h.lo_ g hg).2⟩,
    fun g hg => ⟨(heap_setCell_other w ⟨B, i, none⟩ g u (blk_box_ne h.box (h.hi_ g hg).1 (by decide))).trans (h.hi_ g hg).1, (h.hi_ g hg).2⟩, fun g hg => ⟨(heap_setCell_other w ⟨B, i, none⟩ g u (blk_box_ne h.box (h.li_ g hg).1 (by decide))).trans (h.li_ g hg).1, (h.li_ g hg).2⟩, h.ne⟩
theorem MkF.drew (h : MkF W M B l rk s0 sl n1 n lo hi li s2 s3 s4 w) : MkF W M B l rk s0 sl n1 n lo hi li s2 s3 s4 w.drew :=
  ⟨h.box, Kd.R_drew h.row, h.bel.trans ((below_drew1 (Below.refl _ _)).mono h.bel.size), h.lo_, h.hi_, h.li_, h.ne⟩
end
end Go.Proofs.Ytgcdeablfoomhaa.PAll
