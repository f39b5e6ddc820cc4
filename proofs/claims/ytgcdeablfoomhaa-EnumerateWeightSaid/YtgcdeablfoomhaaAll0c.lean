/- The search's setting-up: the least and the greatest weights are filled in from the end; the search begins. -/
import Derived.Test.YtgcdeablfoomhaaAll0b
set_option linter.unusedVariables false
set_option linter.unusedSimpArgs false
namespace Go.Proofs.Ytgcdeablfoomhaa.PAll
open Go.RowKit Go.Proofs.YtgcdeablfoomhaaW.PrintWords Go.Proofs.YtgcdeablfoomhaaW.PrintLast Go.Proofs.YtgcdeablfoomhaaW.PrintMore

/-- The weights from index m on are filled in (a: low's own index may be one ahead). -/
structure LpF (W : World) (M B l : Nat) (rk : Int) (G cS : Nat) (sl : List S62) (n N1 gl gh L : Nat) (ml mh : Nat) (w : World) : Prop where
  box : BoxS w B (.slice (some ⟨G, 0, none⟩) n cS) rk (.slice (some ⟨gl, 0, none⟩) N1 N1) (.slice (some ⟨gh, 0, none⟩) N1 N1) (.slice (some ⟨L, 0, none⟩) n n) l
  row : k62.R 62 w M (fun _ => True) (.slice (some ⟨G, 0, none⟩) n cS) sl
  bel : Below W.heap.size W w
  lo : ∃ c : Array Value, w.heap[gl]? = some (.cells c 3 (0, 0)) ∧ c.size = N1 ∧ (∀ j : Nat, j < N1 → ∃ x : Int, c[j]? = some (.int .i64 x)) ∧ ∀ j, ml ≤ j → j ≤ n → c[j]? = some (.int .i64 (lowOf (sl.drop j)))
  hi : ∃ c : Array Value, w.heap[gh]? = some (.cells c 3 (0, 0)) ∧ c.size = N1 ∧ (∀ j : Nat, j < N1 → ∃ x : Int, c[j]? = some (.int .i64 x)) ∧ ∀ j, mh ≤ j → j ≤ n → c[j]? = some (.int .i64 (highOf rk (sl.drop j)))
  li : w.heap[L]? = some (.cells (Array.replicate n nil3) 33 (0, 0))
  bl : M ≤ gl
  bh : M ≤ gh
  bL : M ≤ L
  ne : gl ≠ gh
theorem MkF.start {W w : World} {M B l n N1 G cS gl gh L : Nat} {rk : Int} {sl : List S62}
    (h : MkF W M B l rk (.slice (some ⟨G, 0, none⟩) n cS) sl N1 n (some gl) (some gh) (some L) (.slice (some ⟨gl, 0, none⟩) N1 N1) (.slice (some ⟨gh, 0, none⟩) N1 N1) (.slice (some ⟨L, 0, none⟩) n n) w) (hN : N1 = n + 1) (hn : sl.length = n) :
    LpF W M B l rk G cS sl n N1 gl gh L n n w := by
  obtain ⟨l1, l2⟩ := h.lo_ gl rfl
  obtain ⟨h1, h2⟩ := h.hi_ gh rfl
  obtain ⟨i1, i2⟩ := h.li_ L rfl
  have hd : ∀ j, n ≤ j → j ≤ n → sl.drop j = [] := fun j a b => List.drop_eq_nil_of_le (by omega)
  refine ⟨h.box, h.row, h.bel, ⟨_, l1, by simp, fun j hj => ⟨0, by simp [hj]⟩, fun j a b => ?_⟩, ⟨_, h1, by simp, fun j hj => ⟨0, by simp [hj]⟩, fun j a b => ?_⟩, i1, l2, h2, i2, fun e => h.ne gl rfl (by rw [e])⟩
  · rw [hd j a b]
    have : j < N1 := by omega
    simp [this, lowOf]
  · rw [hd j a b]
    have : j < N1 := by omega
    simp [this, highOf]
section
variable {W w : World} {M B l n N1 G cS gl gh L ml mh : Nat} {rk : Int} {sl : List S62}
theorem LpF.drew (h : LpF W M B l rk G cS sl n N1 gl gh L ml mh w) : LpF W M B l rk G cS sl n N1 gl gh L ml mh w.drew :=
  ⟨h.box, Kd.R_drew h.row, h.bel.trans ((below_drew1 (Below.refl _ _)).mono h.bel.size), h.lo, h.hi, h.li, h.bl, h.bh, h.bL, h.ne⟩
theorem LpF.lc (h : LpF W M B l rk G cS sl n N1 gl gh L ml mh w) (j : Nat) (a : ml ≤ j) (b : j ≤ n) : w.cell? ⟨gl, j, none⟩ = some (.int .i64 (lowOf (sl.drop j))) := by
  obtain ⟨c, hc, _, _, hx⟩ := h.lo
  simp [World.cell?, hc, hx j a b]
theorem LpF.hc (h : LpF W M B l rk G cS sl n N1 gl gh L ml mh w) (j : Nat) (a : mh ≤ j) (b : j ≤ n) : w.cell? ⟨gh, j, none⟩ = some (.int .i64 (highOf rk (sl.drop j))) := by
  obtain ⟨c, hc, _, _, hx⟩ := h.hi
  simp [World.cell?, hc, hx j a b]
theorem LpF.la (h : LpF W M B l rk G cS sl n N1 gl gh L ml mh w) (j : Nat) (b : j < N1) : (∃ x, w.cell? ⟨gl, j, none⟩ = some (.int .i64 x)) ∧ w.frozen? ⟨gl, j, none⟩ = false := by
  obtain ⟨c, hc, _, hx, _⟩ := h.lo
  obtain ⟨x, hx⟩ := hx j b
  exact ⟨⟨x, by simp [World.cell?, hc, hx]⟩, by simp [World.frozen?, hc]⟩
theorem LpF.ha (h : LpF W M B l rk G cS sl n N1 gl gh L ml mh w) (j : Nat) (b : j < N1) : (∃ x, w.cell? ⟨gh, j, none⟩ = some (.int .i64 x)) ∧ w.frozen? ⟨gh, j, none⟩ = false := by
  obtain ⟨c, hc, _, hx, _⟩ := h.hi
  obtain ⟨x, hx⟩ := hx j b
  exact ⟨⟨x, by simp [World.cell?, hc, hx]⟩, by simp [World.frozen?, hc]⟩
/-- A list's bounds, where they lie. -/
theorem LpF.sc (h : LpF W M B l rk G cS sl n N1 gl gh L ml mh w) (i : Nat) (hi : i < sl.length) : w.cell? ⟨G, i * 2, none⟩ = some (.int .i64 sl[i].f0) ∧ w.cell? ⟨G, i * 2 + 1, none⟩ = some (.int .i64 sl[i].f1) := by
  have hn := (Kd.R_reads' h.row).1
  obtain ⟨c, hcl, hM, hcc, _⟩ := Kd.R_elem h.row (⟨0, 0⟩ : S62) (i : Int) (by omega) (by omega)
  have hK := k62_open (k62.K_of_M hM)
  have hg : sl.getD (i : Int).toNat (⟨0, 0⟩ : S62) = sl[i] := by simp [List.getD_eq_getElem?_getD, hi]
  rw [hg] at hK
  subst hK
  have hz : k62.sz = 2 := rfl
  rw [hz] at hcc
  exact ⟨by have := hcc 0 _ rfl; simpa using this, by have := hcc 1 _ rfl; simpa using this⟩
theorem cells_set {w : World} {g : Nat} {c : Array Value} {t : TypeId} (h : w.heap[g]? = some (.cells c t (0, 0))) (i : Nat) (u : Value) : (w.setCell ⟨g, i, none⟩ u).heap[g]? = some (.cells (c.setIfInBounds i u) t (0, 0)) := heap_setCell_same w g i c t u h
theorem ne_of_ty {w : World} {g g' t t' : Nat} {c c' : Array Value} (h : w.heap[g]? = some (.cells c t (0, 0))) (h' : w.heap[g']? = some (.cells c' t' (0, 0))) (ht : t ≠ t') : g ≠ g' := by
  rintro rfl
  rw [h] at h'
  injection h' with h'
  injection h' with _ h2
  exact ht h2
theorem LpF.setLo (h : LpF W M B l rk G cS sl n N1 gl gh L (ml + 1) mh w) (hM : M = W.heap.size) (hml : ml < N1) : LpF W M B l rk G cS sl n N1 gl gh L ml mh (w.setCell ⟨gl, ml, none⟩ (.int .i64 (lowOf (sl.drop ml)))) := by
  obtain ⟨c, hc, hs, hx, hv⟩ := h.lo
  obtain ⟨c', hc', hs', hx', hv'⟩ := h.hi
  have hoth : ∀ k, k ≠ gl → (w.setCell ⟨gl, ml, none⟩ (.int .i64 (lowOf (sl.drop ml)))).heap[k]? = w.heap[k]? := fun k hk => heap_setCell_other w ⟨gl, ml, none⟩ k _ hk
  refine ⟨(hoth _ (ne_of_ty h.box hc (by decide))).trans h.box, Kd.R_set h.row hc (by decide) ml _, h.bel.setCell (p := ⟨gl, ml, none⟩) (by rw [← hM]; exact h.bl) _, ⟨_, cells_set hc ml _, by simpa using hs, fun j hj => ?_, fun j a b => ?_⟩, ⟨c', (hoth _ (Ne.symm h.ne)).trans hc', hs', hx', hv'⟩, (hoth _ (ne_of_ty h.li hc (by decide))).trans h.li, h.bl, h.bh, h.bL, h.ne⟩
  · rw [Array.getElem?_setIfInBounds]
    split
    · rw [if_pos (by omega)]; exact ⟨_, rfl⟩
    · exact hx j hj
  · rw [Array.getElem?_setIfInBounds]
    split
    · rename_i e
      rw [if_pos (by omega), e]
    · exact hv j (by omega) b
theorem LpF.setHi (h : LpF W M B l rk G cS sl n N1 gl gh L ml (mh + 1) w) (hM : M = W.heap.size) (hmh : mh < N1) : LpF W M B l rk G cS sl n N1 gl gh L ml mh (w.setCell ⟨gh, mh, none⟩ (.int .i64 (highOf rk (sl.drop mh)))) := by
  obtain ⟨c, hc, hs, hx, hv⟩ := h.lo
  obtain ⟨c', hc', hs', hx', hv'⟩ := h.hi
  have hoth : ∀ k, k ≠ gh → (w.setCell ⟨gh, mh, none⟩ (.int .i64 (highOf rk (sl.drop mh)))).heap[k]? = w.heap[k]? := fun k hk => heap_setCell_other w ⟨gh, mh, none⟩ k _ hk
  refine ⟨(hoth _ (ne_of_ty h.box hc' (by decide))).trans h.box, Kd.R_set h.row hc' (by decide) mh _, h.bel.setCell (p := ⟨gh, mh, none⟩) (by rw [← hM]; exact h.bh) _, ⟨c, (hoth _ h.ne).trans hc, hs, hx, hv⟩, ⟨_, cells_set hc' mh _, by simpa using hs', fun j hj => ?_, fun j a b => ?_⟩, (hoth _ (ne_of_ty h.li hc' (by decide))).trans h.li, h.bl, h.bh, h.bL, h.ne⟩
  · rw [Array.getElem?_setIfInBounds]
    split
    · rw [if_pos (by omega)]; exact ⟨_, rfl⟩
    · exact hx' j hj
  · rw [Array.getElem?_setIfInBounds]
    split
    · rename_i e
      rw [if_pos (by omega), e]
    · exact hv' j (by omega) b
/-- The search, as it begins. -/
def cxOf (sl : List S62) (rk : Int) (B G gl gh L l cS : Nat) (w : World) (N1 : Nat) : Cx := { sl, rk, B, gS := G, gl, gh, L, M0 := w.heap.size, l, cS, cl := N1, ch := N1 }
theorem LpF.cx_ok (h : LpF W M B l rk G cS sl n N1 gl gh L 0 0 w) (hn : sl.length = n) (hn0 : 1 ≤ n) (hn1 : n ≤ 41) (hr0 : 0 ≤ rk) (hr1 : rk ≤ 2000) (hs : ∀ s ∈ sl, 0 ≤ s.f0 ∧ s.f0 ≤ 1000 ∧ 0 ≤ s.f1 ∧ s.f1 ≤ 1000) : (cxOf sl rk B G gl gh L l cS w N1).Ok := by
  obtain ⟨c, hc, _⟩ := h.lo
  obtain ⟨c', hc', _⟩ := h.hi
  obtain ⟨inner, hro⟩ := Kd.R_own h.row
  obtain ⟨cG, hcG⟩ := own_typed hro G (by simp [Value.ownBlock])
  have lt : ∀ {g : Nat} {o : Obj}, w.heap[g]? = some o → g < w.heap.size := fun h => (Array.getElem?_eq_some_iff.1 h).1
  have hdl : ∀ j, ((sl.drop j).length : Int) ≤ 41 := fun j => by rw [List.length_drop]; omega
  have hds : ∀ j, ∀ s ∈ sl.drop j, 0 ≤ s.f0 ∧ s.f0 ≤ 1000 ∧ 0 ≤ s.f1 ∧ s.f1 ≤ 1000 := fun j s hsj => hs s (List.mem_of_mem_drop hsj)
  refine ⟨by show 1 ≤ sl.length; omega, by show sl.length ≤ 200; omega, hr0, hr1, hs, fun j => ?_, fun j => ?_, ne_of_ty h.box h.li (by decide), ne_of_ty hcG h.li (by decide), ne_of_ty hc h.li (by decide), ne_of_ty hc' h.li (by decide), lt h.box, lt hcG, lt hc, lt hc', lt h.li⟩
  · have h1 := lowOf_ok (hds j)
    have h2 := hdl j
    exact ⟨h1.1, by show lowOf (sl.drop j) ≤ _; omega⟩
  · have h1 := highOf_ok hr0 hr1 (hds j)
    have h2 := hdl j
    exact ⟨h1.1, by show highOf rk (sl.drop j) ≤ _; omega⟩
theorem LpF.inv (h : LpF W M B l rk G cS sl n N1 gl gh L 0 0 w) (hM : M = W.heap.size) (hMB : M ≤ B) (hMG : M ≤ G) (hN : N1 = n + 1) (hn : sl.length = n) : Inv (cxOf sl rk B G gl gh L l cS w N1) (fun k => W.heap.size ≤ k ∧ k < w.heap.size) w (List.replicate sl.length []) := by
  obtain ⟨c, hc, _, _, hv⟩ := h.lo
  obtain ⟨c', hc', _, _, hv'⟩ := h.hi
  obtain ⟨inner, hro⟩ := Kd.R_own h.row
  obtain ⟨cG, hcG⟩ := own_typed hro G (by simp [Value.ownBlock])
  have lt : ∀ {g : Nat} {o : Obj}, w.heap[g]? = some o → g < w.heap.size := fun h => (Array.getElem?_eq_some_iff.1 h).1
  have nd : ∀ i : Nat, (List.replicate sl.length nil3).getD i nil3 = nil3 := fun i => by
    rw [List.getD_eq_getElem?_getD, List.getElem?_replicate]; split <;> rfl
  have nr : ∀ i : Nat, (List.replicate sl.length ([] : List Int)).getD i [] = [] := fun i => by
    rw [List.getD_eq_getElem?_getD, List.getElem?_replicate]; split <;> rfl
  refine ⟨⟨?_, ⟨cG, hcG, fun i hi => ?_⟩, ⟨c, hc, fun j hj => hv j (by omega) (by rw [← hn]; exact hj)⟩, ⟨c', hc', fun j hj => hv' j (by omega) (by rw [← hn]; exact hj)⟩⟩, ⟨⟨by show W.heap.size ≤ B; omega, lt h.box⟩, ⟨by show W.heap.size ≤ G; omega, lt hcG⟩, ⟨by show W.heap.size ≤ gl; have := h.bl; omega, lt hc⟩, ⟨by show W.heap.size ≤ gh; have := h.bh; omega, lt hc'⟩, ⟨by show W.heap.size ≤ L; have := h.bL; omega, lt h.li⟩⟩, fun k hk => hk.2, Nat.le_refl _, by simp [cxOf], List.replicate sl.length nil3, by simp [cxOf], ?_, fun i => ?_, fun i j b hij hb => ?_⟩
  · have hb := h.box
    unfold BoxS at hb
    rw [hN, ← hn] at hb
    show w.heap[B]? = _
    rw [hb]
    simp only [cxOf, hN, hn]
  · have h1 := h.sc i hi
    constructor
    · have h2 : cG[i * 2]? = some (.int .i64 sl[i].f0) := by have h2 := h1.1; simpa [World.cell?, hcG] using h2
      exact h2
    · have h2 : cG[i * 2 + 1]? = some (.int .i64 sl[i].f1) := by have h2 := h1.2; simpa [World.cell?, hcG] using h2
      exact h2
  · show w.heap[L]? = _
    rw [h.li, hn]; simp
  · rw [nd, nr]; exact Kd.R_nil _ _ _ _ _
  · rw [nd] at hb; simp [Value.ownBlock] at hb
end
end Go.Proofs.Ytgcdeablfoomhaa.PAll
