/- enumerate.All: which states, in plain functions; the kinds and boxes of its setting-up. -/
import Derived.Test.YtgcdeablfoomhaaSeaYl
import Derived.Test.YtgcdeablfoomhaaPAllx1
set_option linter.unusedVariables false
set_option linter.unusedSimpArgs false
namespace Go.Proofs.Ytgcdeablfoomhaa.PAll
open Go.RowKit Go.Proofs.YtgcdeablfoomhaaW.PrintWords Go.Proofs.YtgcdeablfoomhaaW.PrintLast Go.Proofs.YtgcdeablfoomhaaW.PrintMore

def okV (v : S48) : Bool := (decide (v.f1 = 1) || decide (v.f1 = 3)) && decide (v.f2 = 0) || decide (v.f1 = 2) && (decide (1 ≤ v.f2) && decide (v.f2 ≤ 16))
def okB (n : Int) : Bool := decide (0 ≤ n) && decide (n ≤ 1000)
def validB (vars : List S48) (v l i : Int) : Bool := decide (vars.length ≤ 32) && (okB v && okB l && okB i) && vars.all okV
theorem valid_j2 (k : Nat) (vars : List S48) (j : Nat) (hj : j < vars.length) (x : S48) (hx : x = rd_T48 vars (j : Int)) :
    enumerate_valid.l1 (k + 2) vars (vars.length : Int) (j : Int) = if okV x = true then enumerate_valid.l1 k vars (vars.length : Int) (wrap64 ((j : Int) + 1)) else some false := by
  obtain ⟨R, hR⟩ : ∃ R, R = enumerate_valid.l1 k vars (vars.length : Int) (wrap64 ((j : Int) + 1)) := ⟨_, rfl⟩
  rw [← hR, show k + 2 = (k + 1) + 1 from rfl]
  unfold enumerate_valid.l1
  rw [if_pos (by omega), if_pos (by omega), if_pos (by omega), ← hx]
  unfold enumerate_valid.j2 okV
  rw [← hR]
  by_cases h1 : x.f1 = 1
  · rw [if_pos h1]
    simp only [h1]
    by_cases h2 : x.f2 = 0 <;> simp [h2]
  · rw [if_neg h1]
    by_cases h3 : x.f1 = 3
    · simp only [h3]
      by_cases h2 : x.f2 = 0 <;> simp [h2]
    · have h3b : (x.f1 == 3) = false := by simpa using h3
      simp only [h3b]
      by_cases h2 : x.f1 = 2
      · simp only [h2]
        by_cases h4 : x.f2 < 1
        · have : ¬ 1 ≤ x.f2 := by omega
          simp [h4, this]
        · have h5 : 1 ≤ x.f2 := by omega
          by_cases h6 : x.f2 > 16
          · have : ¬ x.f2 ≤ 16 := by omega
            simp [h4, h6, this]
          · have : x.f2 ≤ 16 := by omega
            simp [h4, h5, h6, this]
      · simp [h1, h2, h3]
theorem valid_l1 (vars : List S48) (hl : vars.length ≤ 32) : ∀ (m j : Nat), j + m = vars.length → ∃ k, enumerate_valid.l1 k vars (vars.length : Int) (j : Int) = some ((vars.drop j).all okV)
  | 0, j, h => ⟨1, by
    unfold enumerate_valid.l1
    rw [if_neg (by omega), List.drop_eq_nil_of_le (by omega)]; rfl⟩
  | m + 1, j, h => by
    obtain ⟨k, hk⟩ := valid_l1 vars hl m (j + 1) (by omega)
    have hj : j < vars.length := by omega
    have hx : vars[j] = rd_T48 vars (j : Int) := by unfold rd_T48; simp [hj]
    refine ⟨k + 2, ?_⟩
    rw [valid_j2 k vars j hj vars[j] hx, wrap64_of' (by omega) (by omega), show (j : Int) + 1 = ((j + 1 : Nat) : Int) by omega, hk, List.drop_eq_getElem_cons hj, List.all_cons]
    cases okV vars[j] <;> simp
theorem valid_l0 (vars : List S48) (a b c : Int) (k : Nat) (r : Bool) (h : enumerate_valid.l1 k vars (vars.length : Int) 0 = some r) :
    enumerate_valid.l0 (k + 4) vars [a, b, c] 3 0 = some (okB a && okB b && okB c && r) := by
  have step : ∀ (k : Nat) (i : Nat) (q : Int), i < 3 → rd [a, b, c] (i : Int) = q → enumerate_valid.l0 (k + 1) vars [a, b, c] 3 (i : Int) = if okB q = true then enumerate_valid.l0 k vars [a, b, c] 3 ((i + 1 : Nat) : Int) else some false := by
    intro k i q hi hq
    obtain ⟨R, hR⟩ : ∃ R, R = enumerate_valid.l0 k vars [a, b, c] 3 ((i + 1 : Nat) : Int) := ⟨_, rfl⟩
    rw [← hR]
    have hc : ((i + 1 : Nat) : Int) = (i : Int) + 1 := by omega
    rw [hc] at hR
    unfold enumerate_valid.l0 okB
    rw [if_pos (by omega), if_pos (by omega), if_pos (by simp; omega), hq, wrap64_of' (by omega) (by omega), ← hR]
    by_cases h1 : q < 0
    · have : ¬ 0 ≤ q := by omega
      simp [h1, this]
    · have h2 : 0 ≤ q := by omega
      by_cases h3 : q > 1000
      · have : ¬ q ≤ 1000 := by omega
        simp [h1, h3, this]
      · have : q ≤ 1000 := by omega
        simp [h1, h2, h3, this]
  have e0 := step (k + 3) 0 a (by omega) rfl
  have e1 := step (k + 2) 1 b (by omega) rfl
  have e2 := step (k + 1) 2 c (by omega) rfl
  have e3 : enumerate_valid.l0 (k + 1) vars [a, b, c] 3 ((2 + 1 : Nat) : Int) = some r := by
    unfold enumerate_valid.l0
    rw [if_neg (by omega)]; exact h
  rw [show ((0 : Nat) : Int) = 0 from rfl] at e0
  rw [e0]
  by_cases ha : okB a = true
  · rw [if_pos ha, e1]
    by_cases hb : okB b = true
    · rw [if_pos hb, e2]
      by_cases hc : okB c = true
      · rw [if_pos hc, e3, ha, hb, hc]; simp
      · rw [if_neg hc]; simp [hc]
    · rw [if_neg hb]; simp [hb]
  · rw [if_neg ha]; simp [ha]
theorem valid_f (vars : List S48) (v l i : Int) : ∃ k, enumerate_valid.f k vars v l i = some (validB vars v l i) := by
  by_cases h : vars.length ≤ 32
  · obtain ⟨k, hk⟩ := valid_l1 vars h vars.length 0 (by omega)
    refine ⟨k + 4, ?_⟩
    unfold enumerate_valid.f validB
    rw [if_neg (by omega)]
    have := valid_l0 vars v l i k _ hk
    simpa [h] using this
  · refine ⟨0, ?_⟩
    unfold enumerate_valid.f validB
    rw [if_pos (by omega)]
    simp [h]

/-- The bounds of a variable's list, and of the input. -/
def slotOf (bl : Int) (v : S48) : S62 := if v.f1 = 1 then ⟨1, 1⟩ else if v.f1 = 2 then ⟨v.f2, v.f2⟩ else ⟨0, bl⟩
def slotsOf (vars : List S48) (bl bi : Int) : List S62 := vars.map (slotOf bl) ++ [⟨0, bi⟩]
/-- The states of a box, in their order, each with its lists. -/
def allO (vars : List S48) (bv bl bi : Int) : List (List (List Int)) :=
  if validB vars bv bl bi = true then (irange (lowOf (slotsOf vars bl bi)) (highOf (2 * bv) (slotsOf vars bl bi))).flatMap (slotO (2 * bv) (slotsOf vars bl bi)) else []
theorem slotOf_ok {bl : Int} {v : S48} (hb : okB bl = true) (hv : okV v = true) : 0 ≤ (slotOf bl v).f0 ∧ (slotOf bl v).f0 ≤ 1000 ∧ 0 ≤ (slotOf bl v).f1 ∧ (slotOf bl v).f1 ≤ 1000 := by
  unfold okB at hb
  unfold okV at hv
  simp only [Bool.and_eq_true, Bool.or_eq_true, decide_eq_true_eq] at hb hv
  unfold slotOf
  split
  · exact ⟨by decide, by decide, by decide, by decide⟩
  · split
    · dsimp only; omega
    · dsimp only; omega
theorem slots_ok {vars : List S48} {bv bl bi : Int} (h : validB vars bv bl bi = true) : ∀ s ∈ slotsOf vars bl bi, 0 ≤ s.f0 ∧ s.f0 ≤ 1000 ∧ 0 ≤ s.f1 ∧ s.f1 ≤ 1000 := by
  unfold validB at h
  simp only [Bool.and_eq_true, decide_eq_true_eq, List.all_eq_true] at h
  obtain ⟨⟨h1, ⟨h2, h3⟩, h4⟩, h5⟩ := h
  intro s hs
  unfold slotsOf at hs
  rcases List.mem_append.1 hs with hs | hs
  · obtain ⟨v, hv, rfl⟩ := List.mem_map.1 hs
    exact slotOf_ok h3 (h5 v hv)
  · rw [List.mem_singleton.1 hs]
    unfold okB at h4
    simp only [Bool.and_eq_true, decide_eq_true_eq] at h4
    dsimp only; omega
theorem lowOf_ok {l : List S62} (h : ∀ s ∈ l, 0 ≤ s.f0 ∧ s.f0 ≤ 1000 ∧ 0 ≤ s.f1 ∧ s.f1 ≤ 1000) : 0 ≤ lowOf l ∧ lowOf l ≤ 1000 * (l.length : Int) := by
  induction l with
  | nil => exact ⟨Int.le_refl _, Int.le_refl _⟩
  | cons s r ih =>
    have h1 := ih (fun x hx => h x (List.mem_cons_of_mem _ hx))
    have h2 := h s List.mem_cons_self
    rw [lowOf, List.length_cons]; omega
theorem highOf_ok {l : List S62} {rk : Int} (h0 : 0 ≤ rk) (h1 : rk ≤ 2000) (h : ∀ s ∈ l, 0 ≤ s.f0 ∧ s.f0 ≤ 1000 ∧ 0 ≤ s.f1 ∧ s.f1 ≤ 1000) : 0 ≤ highOf rk l ∧ highOf rk l ≤ 2001000 * (l.length : Int) := by
  induction l with
  | nil => exact ⟨Int.le_refl _, Int.le_refl _⟩
  | cons s r ih =>
    have h2 := ih (fun x hx => h x (List.mem_cons_of_mem _ hx))
    have h3 := h s List.mem_cons_self
    have h4 : 0 ≤ s.f1 * (rk + 1) := Int.mul_nonneg h3.2.2.1 (by omega)
    have h5 : s.f1 * (rk + 1) ≤ 1000 * 2001 := Int.mul_le_mul h3.2.2.2 (by omega) (by omega) (by decide)
    rw [highOf, List.length_cons]; omega
def k62 : Kd S62 := Kd.iso (Kd.pair (Kd.int .i64) (Kd.int .i64)) (fun x : S62 => (x.f0, x.f1))
theorem k62_mkM (w : World) (base : Nat) (ok : Nat → Prop) (x : S62) : k62.M w base ok x [.int .i64 x.f0, .int .i64 x.f1] := ⟨[.int .i64 x.f0], [.int .i64 x.f1], rfl, rfl, rfl⟩
theorem k62_open {w : World} {x : S62} {cs : List Value} (h : k62.K w x cs) : cs = [.int .i64 x.f0, .int .i64 x.f1] := by
  obtain ⟨_, _, rfl, rfl, rfl⟩ := h
  exact rfl
theorem info62 : (Try.prog.info? 62).map (fun i => (i.zero, i.size, i.bytes)) = some (some (.agg #[.int .i64 0, .int .i64 0]), 2, 16) := by kernel_rfl
/-- The struct that the search is. -/
def BoxS (W : World) (B : Nat) (s0 : Value) (rk : Int) (s2 s3 s4 : Value) (l : Nat) : Prop := W.heap[B]? = some (.cells #[s0, .int .i64 rk, s2, s3, s4, .func (.yield l) #[] #[]] 60 (0, 0))
section
variable {W W' : World} {B b l : Nat} {s0 s2 s3 s4 : Value} {rk : Int}
theorem BoxS.c0 (h : BoxS W B s0 rk s2 s3 s4 l) : W.cell? ⟨B, 0, none⟩ = some s0 := by simp [World.cell?, show W.heap[B]? = _ from h]
theorem BoxS.c1 (h : BoxS W B s0 rk s2 s3 s4 l) : W.cell? ⟨B, 1, none⟩ = some (.int .i64 rk) := by simp [World.cell?, show W.heap[B]? = _ from h]
theorem BoxS.c2 (h : BoxS W B s0 rk s2 s3 s4 l) : W.cell? ⟨B, 2, none⟩ = some s2 := by simp [World.cell?, show W.heap[B]? = _ from h]
theorem BoxS.c3 (h : BoxS W B s0 rk s2 s3 s4 l) : W.cell? ⟨B, 3, none⟩ = some s3 := by simp [World.cell?, show W.heap[B]? = _ from h]
theorem BoxS.c4 (h : BoxS W B s0 rk s2 s3 s4 l) : W.cell? ⟨B, 4, none⟩ = some s4 := by simp [World.cell?, show W.heap[B]? = _ from h]
theorem BoxS.fr (h : BoxS W B s0 rk s2 s3 s4 l) (i : Nat) : W.frozen? ⟨B, i, none⟩ = false := by simp [World.frozen?, show W.heap[B]? = _ from h]
theorem BoxS.lt (h : BoxS W B s0 rk s2 s3 s4 l) : B < W.heap.size := (Array.getElem?_eq_some_iff.1 h).1
theorem BoxS.below (h : BoxS W B s0 rk s2 s3 s4 l) (hb : Below b W W') (hB : B < b) : BoxS W' B s0 rk s2 s3 s4 l := (hb.block B hB).trans h
theorem BoxS.set0 (h : BoxS W B s0 rk s2 s3 s4 l) (u : Value) : BoxS (W.setCell ⟨B, 0, none⟩ u) B u rk s2 s3 s4 l := heap_setCell_same W B 0 _ 60 u h
theorem BoxS.set2 (h : BoxS W B s0 rk s2 s3 s4 l) (u : Value) : BoxS (W.setCell ⟨B, 2, none⟩ u) B s0 rk u s3 s4 l := heap_setCell_same W B 2 _ 60 u h
theorem BoxS.set3 (h : BoxS W B s0 rk s2 s3 s4 l) (u : Value) : BoxS (W.setCell ⟨B, 3, none⟩ u) B s0 rk s2 u s4 l := heap_setCell_same W B 3 _ 60 u h
theorem BoxS.set4 (h : BoxS W B s0 rk s2 s3 s4 l) (u : Value) : BoxS (W.setCell ⟨B, 4, none⟩ u) B s0 rk s2 s3 u l := heap_setCell_same W B 4 _ 60 u h
theorem BoxS.far (h : BoxS W B s0 rk s2 s3 s4 l) {p : Addr} (hp : B ≠ p.block) (u : Value) : BoxS (W.setCell p u) B s0 rk s2 s3 s4 l := (heap_setCell_other W p B u hp).trans h
theorem BoxS.kept {ob : Option Nat} (h : BoxS W B s0 rk s2 s3 s4 l) (hg : W.grownBy W' ob) (hne : some B ≠ ob) : BoxS W' B s0 rk s2 s3 s4 l := (hg.block B h.lt hne).trans h
theorem boxS_ne {α : Type} {d : Kd α} {e : Nat} {base : Nat} {ok : Nat → Prop} {v : Value} {xs : List α} (h : d.R e W base ok v xs) (hb : BoxS W B s0 rk s2 s3 s4 l) (hte : (60 : Nat) ≠ e) : some B ≠ v.ownBlock := by
  intro he
  obtain ⟨inner, ho⟩ := Kd.R_own h
  obtain ⟨cells, hc⟩ := own_typed ho B he.symm
  rw [show W.heap[B]? = _ from hb] at hc
  injection hc with hc
  injection hc with _ h2
  exact hte h2
theorem R62_set {base : Nat} {ok : Nat → Prop} {v u : Value} {j : Nat} {xs : List S62} (h : k62.R 62 W base ok v xs) (hbx : BoxS W B s0 rk s2 s3 s4 l) : k62.R 62 (W.setCell ⟨B, j, none⟩ u) base ok v xs :=
  Kd.R_set h hbx (by decide) j u
end
/-- A declaration's box. -/
def BoxV (W : World) (y : Nat) (v : S48) : Prop := W.heap[y]? = some (.cells #[.string v.f0, .int .u8 v.f1, .int .i64 v.f2] 48 (0, 0))
theorem BoxV.c1 {W : World} {y : Nat} {v : S48} (h : BoxV W y v) : W.cell? ⟨y, 1, none⟩ = some (.int .u8 v.f1) := by simp [World.cell?, show W.heap[y]? = _ from h]
theorem BoxV.c2 {W : World} {y : Nat} {v : S48} (h : BoxV W y v) : W.cell? ⟨y, 2, none⟩ = some (.int .i64 v.f2) := by simp [World.cell?, show W.heap[y]? = _ from h]
theorem BoxV.lt {W : World} {y : Nat} {v : S48} (h : BoxV W y v) : y < W.heap.size := (Array.getElem?_eq_some_iff.1 h).1
end Go.Proofs.Ytgcdeablfoomhaa.PAll
