/- Lemmas and walks of one claim, packed into one text by a program (wip/shake.py). -/
import Derived.ChangeArms
import Derived.DataElems
import Derived.OpenShut
import Derived.ProofKit
import Derived.WalkKit
import Derived.Test.YtgcdeablfoomhaaNe4
section
set_option linter.unusedVariables false
set_option linter.unusedSimpArgs false
namespace Go.Proofs.Ytgcdeablfoomhaa.PAll
open Go.RowKit Go.Proofs.YtgcdeablfoomhaaW.PrintWords Go.Proofs.YtgcdeablfoomhaaW.PrintLast Go.Proofs.YtgcdeablfoomhaaW.PrintMore
attribute [local go_sem] Oper.semAt_some
theorem _root_.Go.RowKit.Below.cell' {w w' : World} {p : Addr} {v : Value} (h : Below w.heap.size w w') (hc : w.cell? p = some v) : w'.cell? p = some v := (h.cell (World.block_lt_of_cell? _ _ hc)).trans hc
theorem kO_below {A B : World} (h : Below A.heap.size A B) : KeepsOthers A B := (Mods.of_below (S := fun _ => False) h (fun _ h => h.elim)).others
theorem kS_below {T : Nat → Prop} {A B : World} (h : Below A.heap.size A B) (hT : ∀ k, T k → k < A.heap.size) : KeepS T A B := ⟨h.size, fun k hk => h.block k (hT k hk)⟩
/-- A boxed row of states of the caller's own. -/
def RowI (W : World) (B : Nat) (T : Nat → Prop) (xs : List St) (A : World) : Prop := ∃ v, OwnB B (.cells #[v] 27) T A ∧ Kd.R kS 35 A W.heap.size (fun k => ¬ T k) v xs
theorem RowI.abide {W : World} {B : Nat} {T T' : Nat → Prop} {xs : List St} {A A' : World} (h : RowI W B T xs A) (hs : StepT T A A') (hg : Grows T T' A) : RowI W B T' xs A' := by
  obtain ⟨v, h1, h2⟩ := h
  exact ⟨v, OwnB.abide (β := Unit) B (fun _ => _) T T' () A A' h1 hs hg, ownR_abide h2 hs hg⟩
theorem RowI.put {W : World} {B : Nat} {T : Nat → Prop} {xs : List St} {A : World} (h : RowI W B T xs A) {l : Nat} {o : Obj} (o' : Obj) (hl : A.heap[l]? = some o) (ho : o.isCells = false) : RowI W B T xs (A.putObj l o') := by
  obtain ⟨v, h1, h2⟩ := h
  exact ⟨v, h1.put o' hl ho, R_put h2 o' hl ho⟩
/-- What EnumerateNested keeps over its first range. -/
structure NeI (W : World) (Bl Bb Bc : Nat) (b c : Array Value) (T : Nat → Prop) (pre : List (List (List Int))) (A : World) : Prop where
  o : OutT W T A
  g : RowI W Bl T (pre.map stO) A
  b : OwnB Bb (.cells b 24) T A
  c : OwnB Bc (.cells c 24) T A
theorem NeI.abide (W : World) (Bl Bb Bc : Nat) (b c : Array Value) : Abide (NeI W Bl Bb Bc b c) := fun T T' s A B h hs hg =>
  ⟨OutT.abide (β := Unit) W T T' () A B h.o hs hg, h.g.abide hs hg, OwnB.abide (β := Unit) Bb (fun _ => _) T T' () A B h.b hs hg, OwnB.abide (β := Unit) Bc (fun _ => _) T T' () A B h.c hs hg⟩
theorem NeI.put {W : World} {Bl Bb Bc : Nat} {b c : Array Value} {T : Nat → Prop} {pre : List (List (List Int))} {A : World} (h : NeI W Bl Bb Bc b c T pre A) {l : Nat} {o : Obj} (o' : Obj) (hlN : W.heap.size ≤ l) (hl : A.heap[l]? = some o) (ho : o.isCells = false) : NeI W Bl Bb Bc b c T pre (A.putObj l o') :=
  ⟨h.o.put o' hlN, h.g.put o' hl ho, h.b.put o' hl ho, h.c.put o' hl ho⟩
theorem rowB_abide {α : Type} {d : Kd α} {e base Bk : Nat} {v : Value} {xs : List α} {T T' : Nat → Prop} {A B : World} (h : d.R e A base (fun k => ¬ T k ∧ k < Bk) v xs) (hs : StepT T A B) (hg : Grows T T' A) : d.R e B base (fun k => ¬ T' k ∧ k < Bk) v xs := by
  refine Kd.R_mono (Kd.R_step (Kd.R_bound h) (fun k hk hlt => hs.block k hlt hk.1.1)) (fun k hk => ⟨fun ht => ?_, hk.1.2⟩)
  rcases hg.2 k ht with h1 | h1
  · exact hk.1.1 h1
  · have := hk.2.2.1; omega
/-- .. over its second: the row is read, a number is counted. -/
structure NeJ (W : World) (Bl Bk D : Nat) (v : Value) (L : List St) (T : Nat → Prop) (pre : List (List (List Int))) (A : World) : Prop where
  o : OutT W T A
  l : OwnB Bl (.cells #[v] 27) T A
  r : Kd.R kS 35 A W.heap.size (fun k => ¬ T k ∧ k < Bk) v L
  k : OwnB Bk (.cells #[.int .i64 ((gr L (pre.map stO) : Nat) : Int)] 3) T A
  d : OwnB D (.deferred (some [])) T A
theorem NeJ.abide (W : World) (Bl Bk D : Nat) (v : Value) (L : List St) : Abide (NeJ W Bl Bk D v L) := fun T T' s A B h hs hg =>
  ⟨OutT.abide (β := Unit) W T T' () A B h.o hs hg, OwnB.abide (β := Unit) Bl (fun _ => _) T T' () A B h.l hs hg, rowB_abide h.r hs hg, OwnB.abide (β := Unit) Bk (fun _ => _) T T' () A B h.k hs hg, OwnB.abide (β := Unit) D (fun _ => _) T T' () A B h.d hs hg⟩
theorem NeJ.put {W : World} {Bl Bk D : Nat} {v : Value} {L : List St} {T : Nat → Prop} {pre : List (List (List Int))} {A : World} (h : NeJ W Bl Bk D v L T pre A) {l : Nat} {o : Obj} (o' : Obj) (hlN : W.heap.size ≤ l) (hlD : D < l) (hl : A.heap[l]? = some o) (ho : o.isCells = false) : NeJ W Bl Bk D v L T pre (A.putObj l o') :=
  ⟨h.o.put o' hlN, h.l.put o' hl ho, R_put h.r o' hl ho, h.k.put o' hl ho, ⟨h.d.1, (World.putObj_heap_other (by omega)).trans h.d.2⟩⟩
theorem NeJ.same {W : World} {Bl Bk D : Nat} {v : Value} {L : List St} {T : Nat → Prop} {pre : List (List (List Int))} {A : World} (h : NeJ W Bl Bk D v L T pre A) (x : List (List Int)) (hx : gr L ((pre ++ [x]).map stO) = gr L (pre.map stO)) : NeJ W Bl Bk D v L T (pre ++ [x]) A :=
  ⟨h.o, h.l, h.r, by rw [hx]; exact h.k, h.d⟩
theorem NeJ.next {W : World} {Bl Bk D : Nat} {v : Value} {L : List St} {T : Nat → Prop} {pre : List (List (List Int))} {A : World} (h : NeJ W Bl Bk D v L T pre A) (x : List (List Int)) (hx : gr L ((pre ++ [x]).map stO) = gr L (pre.map stO) + 1) (hN : W.heap.size ≤ Bk) (h1 : Bl ≠ Bk) (h2 : D ≠ Bk) :
    NeJ W Bl Bk D v L T (pre ++ [x]) (A.setCell ⟨Bk, 0, none⟩ (.int .i64 ((gr L (pre.map stO) : Nat) + 1 : Int))) :=
  ⟨⟨h.o.t, h.o.b.setCell (p := ⟨Bk, 0, none⟩) hN _⟩, ⟨h.l.1, (heap_setCell_other A ⟨Bk, 0, none⟩ Bl _ h1).trans h.l.2⟩, Kd.R_far h.r (fun k hk => by have := hk.2; show k ≠ Bk; omega) _, ⟨h.k.1, by
    have := heap_setCell_same A Bk 0 _ 3 (.int .i64 ((gr L (pre.map stO) : Nat) + 1 : Int)) h.k.2
    rw [hx]
    simpa using this⟩, ⟨h.d.1, (heap_setCell_other A ⟨Bk, 0, none⟩ D _ h2).trans h.d.2⟩⟩
theorem tab7_7 : rtab .any (opsOf Try.f7 7) = (true, [([], []), ([], []), ([1], [1]), ([2], [2]), ([0, 3, 2], [0, 3]), ([4, 4, 0, 1, 2, 3, 4], [4])]) := by kernel_rfl
theorem bits7_7 : waitsOk (true, [([], []), ([], []), ([1], [1]), ([2], [2]), ([0, 3, 2], [0, 3]), ([4, 4, 0, 1, 2, 3, 4], [4])]).2 [0, 0, 2, 6, 15, 31] = true := by decide +kernel
theorem tab7_11 : rtab .any (opsOf Try.f7 11) = (true, [([], []), ([], []), ([1], [1]), ([0, 2], [0, 2]), ([3], [3]), ([4], [4]), ([4], [4]), ([4], [4]), ([6, 7, 4], [4, 6, 7]), ([8, 4], [4, 8]), ([5, 9, 4, 4], [4, 5, 9]), ([4, 10], [4, 10])]) := by kernel_rfl
theorem bits7_11 : waitsOk (true, [([], []), ([], []), ([1], [1]), ([0, 2], [0, 2]), ([3], [3]), ([4], [4]), ([4], [4]), ([4], [4]), ([6, 7, 4], [4, 6, 7]), ([8, 4], [4, 8]), ([5, 9, 4, 4], [4, 5, 9]), ([4, 10], [4, 10])]).2 [0, 0, 2, 7, 15, 31, 31, 31, 223, 479, 1023, 2047] = true := by decide +kernel
theorem two_new (W : World) (a b : Obj) : ((W.alloc a).alloc b).heap[W.heap.size]? = some a ∧ ((W.alloc a).alloc b).heap[W.heap.size + 1]? = some b ∧ Below W.heap.size W ((W.alloc a).alloc b) ∧ ((W.alloc a).alloc b).heap.size = W.heap.size + 2 := by
  refine ⟨blk_alloc (World.alloc_heap_new W _) _, ?_, ((Below.refl _ _).alloc (Nat.le_refl _) _).alloc (by simp) _, by simp⟩
  have := World.alloc_heap_new (W.alloc a) b
  rwa [World.size_alloc] at this
set_option maxRecDepth 100000 in
set_option maxHeartbeats 8000000 in
theorem EnumerateNested_calls (vars : List S48) (A0 : Option Addr) (c0 : Nat) (bv bl bi v l i : Int) (W : World) (hr : Kd.C k48 W A0 vars.length vars) (hc0 : vars.length ≤ c0) (hv : 0 ≤ v ∧ v ≤ 255) (hl : 0 ≤ l ∧ l ≤ 255) (hi : 0 ≤ i ∧ i ≤ 255) :
    Calls Try.prog 7 #[.slice A0 vars.length c0, .agg #[.int .i64 bv, .int .i64 bl, .int .i64 bi], .int .u8 v, .int .u8 l, .int .u8 i] W fun e w' => e = .returned (.bool true) ∧ Below W.heap.size W w' := by
  have HR := Lib.hid hr
  clear hr
  refine (callsIn_wide (n := 3)).1 ?_
  refine callsIn_of_wp_marks Try.func7 rfl trivial ?_ rfl
  simp only [Try.ntmps7, List.size_toArray, List.length_cons, List.length_nil, Nat.reduceAdd, Nat.reduceSub, Array.replicate_succ, Array.replicate_zero, List.push_toArray, List.append_toArray, List.nil_append, List.cons_append]
  gi_wp2_with (fail)
  obtain ⟨cv, hcv⟩ : ∃ x : Int, x = wrap64 (bv + v % 2) := ⟨_, rfl⟩
  obtain ⟨cl, hcl⟩ : ∃ x : Int, x = wrap64 (bl + l % 2) := ⟨_, rfl⟩
  obtain ⟨ci, hci⟩ : ∃ x : Int, x = wrap64 (bi + i % 2) := ⟨_, rfl⟩
  rw [← hcv, ← hcl, ← hci]
  have HCV := Lib.hid (And.intro hcv (And.intro hcl hci))
  obtain ⟨w1, hw1⟩ : ∃ w1, w1 = (W.alloc (.cells #[.int .i64 bv, .int .i64 bl, .int .i64 bi] 24)).alloc (.cells #[.int .i64 cv, .int .i64 cl, .int .i64 ci] 24) := ⟨_, rfl⟩
  obtain ⟨h0, h1, hb, hsz⟩ := two_new W (.cells #[.int .i64 bv, .int .i64 bl, .int .i64 bi] 24) (.cells #[.int .i64 cv, .int .i64 cl, .int .i64 ci] 24)
  rw [← hw1] at h0 h1 hb hsz ⊢
  obtain ⟨Bb, hBb⟩ : ∃ b, b = W.heap.size := ⟨_, rfl⟩
  obtain ⟨Bc, hBc⟩ : ∃ b, b = W.heap.size + 1 := ⟨_, rfl⟩
  rw [← hBb] at h0
  rw [← hBc] at h1
  rw [← hBc, ← hBb]
  have HBX := Lib.hid (And.intro hBb hBc)
  have HC0 := Lib.hid h0
  have HC1 := Lib.hid h1
  have HBW := Lib.hid hb
  have HSZ := Lib.hid hsz
  have hst : ∀ w', Below w1.heap.size w1 w' → w'.heap[Bb]? = some (.cells #[.int .i64 bv, .int .i64 bl, .int .i64 bi] 24) ∧ w'.heap[Bc]? = some (.cells #[.int .i64 cv, .int .i64 cl, .int .i64 ci] 24) := fun w' h => ⟨(h.block _ (by omega)).trans h0, (h.block _ (by omega)).trans h1⟩
  have HST := Lib.hid hst
  have hce : ∀ w', Below w1.heap.size w1 w' → (w'.cell? ⟨Bb, 0, none⟩ = some (.int .i64 bv) ∧ w'.cell? ⟨Bb, 1, none⟩ = some (.int .i64 bl) ∧ w'.cell? ⟨Bb, 2, none⟩ = some (.int .i64 bi)) ∧ w'.cell? ⟨Bc, 0, none⟩ = some (.int .i64 cv) ∧ w'.cell? ⟨Bc, 1, none⟩ = some (.int .i64 cl) ∧ w'.cell? ⟨Bc, 2, none⟩ = some (.int .i64 ci) := fun w' h =>
    ⟨⟨cell_of_heap (hst w' h).1 rfl, cell_of_heap (hst w' h).1 rfl, cell_of_heap (hst w' h).1 rfl⟩, cell_of_heap (hst w' h).2 rfl, cell_of_heap (hst w' h).2 rfl, cell_of_heap (hst w' h).2 rfl⟩
  have HCE := Lib.hid hce
  have HRC := Lib.hid (Kd.C_below HR.out hb)
  clear h0 h1 hb hsz hBb hBc hcv hcl hci hst hce hw1
  refine ⟨trivial, (callsIn_wide.2 (awake_calls _)).mono ?_⟩
  rintro e w2 ⟨rfl, hb⟩
  have HB2 := Lib.hid hb
  clear hb
  obtain ⟨⟨x0, x1, x2⟩, x3, x4, x5⟩ := HCE.out _ HB2.out
  gi_wp2_with (fail)
  obtain ⟨ks, hks⟩ := small_f vars bv bl bi
  have HKS := Lib.hid hks
  clear hks
  refine ⟨trivial, (callsIn_wide.2 (backsteplaw12_small.calls ks A0 c0 vars bv bl bi _ _ (Kd.C_below HRC.out HB2.out) hc0 HKS.out)).mono ?_⟩
  clear HKS x0 x1 x2 x3 x4 x5
  rintro e w3 ⟨rfl, hb⟩
  have HB3 := Lib.hid (HB2.out.trans (hb.mono HB2.out.size))
  clear hb
  cases hsb : smallB vars bv bl bi with
  | false =>
    clear hsb
    gi_wp2_with (fail)
    refine ⟨trivial, ?_⟩
    gi_wp2_with (fail)
    refine ⟨trivial, (callsIn_wide.2 (awake_calls _)).mono ?_⟩
    rintro e w4 ⟨rfl, hb⟩
    have HB4 := Lib.hid (HB3.out.trans (hb.mono HB3.out.size))
    clear hb
    gi_wp2
    exact ⟨.bool true, by simp [results, Try.f7, go_sem], rfl, HBW.out.trans (HB4.out.mono HBW.out.size)⟩
  | true =>
    have HSB := Lib.hid hsb
    clear hsb
    obtain ⟨⟨x0, x1, x2⟩, x3, x4, x5⟩ := HCE.out _ HB3.out
    gi_wp2_with (fail)
    obtain ⟨ks, hks⟩ := small_f vars cv cl ci
    have HKS := Lib.hid hks
    clear hks
    refine ⟨trivial, (callsIn_wide.2 (backsteplaw12_small.calls ks A0 c0 vars cv cl ci _ _ (Kd.C_below HRC.out HB3.out) hc0 HKS.out)).mono ?_⟩
    clear HKS x0 x1 x2 x3 x4 x5
    rintro e w4 ⟨rfl, hb⟩
    have HB4 := Lib.hid (HB3.out.trans (hb.mono HB3.out.size))
    clear hb
    cases hsc : smallB vars cv cl ci with
    | false =>
      clear hsc
      gi_wp2_with (fail)
      refine ⟨trivial, (callsIn_wide.2 (awake_calls _)).mono ?_⟩
      rintro e w5 ⟨rfl, hb⟩
      have HB5 := Lib.hid (HB4.out.trans (hb.mono HB4.out.size))
      clear hb
      gi_wp2
      exact ⟨.bool true, by simp [results, Try.f7, go_sem], rfl, HBW.out.trans (HB5.out.mono HBW.out.size)⟩
    | true =>
      have HSC := Lib.hid hsc
      clear hsc
      obtain ⟨⟨x0, x1, x2⟩, x3, x4, x5⟩ := HCE.out _ (HB4.out.alloc HB4.out.size (.cells #[.slice none 0 0] 27))
      gi_wp2_with (fail)
      clear x0 x1 x2 x3 x4 x5
      obtain ⟨w5, hw5⟩ : ∃ w5, w5 = w4.alloc (.cells #[.slice none 0 0] 27) := ⟨_, rfl⟩
      obtain ⟨Bl, hBl⟩ : ∃ b, b = w4.heap.size := ⟨_, rfl⟩
      rw [← hw5, ← hBl]
      have HBL0 := Lib.hid (show w5.heap[Bl]? = some (.cells #[.slice none 0 0] 27 (0, 0)) by rw [hw5, hBl]; exact World.alloc_heap_new w4 _)
      have HB5 := Lib.hid (show Below w1.heap.size w1 w5 by rw [hw5]; exact HB4.out.alloc HB4.out.size _)
      have HBLN := Lib.hid (show w1.heap.size ≤ Bl by rw [hBl]; exact HB4.out.size)
      clear hw5 hBl
      refine ⟨trivial, (callsIn_wide.2 (all_calls _ _ _ _ _ _ _)).mono ?_⟩
      rintro e w6 ⟨Bv, Bq, rfl, cv0, q0, q1, q2, hb⟩
      have HB6 := Lib.hid (HB5.out.trans (hb.mono HB5.out.size))
      have HS := Lib.hid (seq_all vars bv bl bi _ _ Bv Bq w6 cv0 hc0 (Kd.C_below HRC.out HB6.out) q0 q1 q2)
      have HBL6 := Lib.hid (show w6.heap[Bl]? = some (.cells #[.slice none 0 0] 27 (0, 0)) from (hb.block _ (Array.getElem?_eq_some_iff.1 HBL0.out).1).trans HBL0.out)
      clear cv0 q0 q1 q2 hb
      gi_wp2_with (fail)
      have HSN : Hid (W.heap.size ≤ w6.heap.size) := Lib.hid (Nat.le_trans HBW.out.size HB6.out.size)
      have hlB : W.heap.size ≤ Bl := Nat.le_trans HBW.out.size HBLN.out
      have HLB := Lib.hid hlB
      clear hlB
      obtain ⟨hn6, hvB, hLn, _, _⟩ := small_valid HSB.out
      have HVB := Lib.hid (And.intro hn6 (And.intro hvB hLn))
      clear hn6 hvB hLn
      refine wpIn_fr ?_
      intro fr hfr
      refine wpIn_rangeFunc_A (gf := 31) (by rw [hfr]; rfl) (enters_of Try.func31 (by kernel_rfl) rfl) HS.out (Below.refl _ _) (fun _ _ => rfl)
        (Ax := AxS fun Bx y => { tmps := (fr.setIfInBounds 53 (.agg #[y.1, y.2, nil3])).setIfInBounds 13 (.pointer (some ⟨Bx, 0, none⟩)), defers := [] }) AxS_put
        (NeI W Bl Bb Bc #[.int .i64 bv, .int .i64 bl, .int .i64 bi] #[.int .i64 cv, .int .i64 cl, .int .i64 ci]) (fun _ _ _ _ => False) (NeI.abide W Bl Bb Bc _ _) (fun _ _ _ _ _ _ h => h.elim) (fun T s A l o o' h hl ho hc => h.put o' (Nat.le_trans HSN.out hl) ho hc) (fun c T s A l o o' h hl ho hc => h.elim) ?h0 ?assign ?body ?done ?stop
      case h0 =>
        obtain ⟨e0, e1⟩ := HST.out _ HB6.out
        exact ⟨⟨fun _ h => h.elim, HBW.out.trans (HB6.out.mono HBW.out.size)⟩, ⟨nil3, ⟨not_false, HBL6.out⟩, Kd.R_nil _ _ _ _ _⟩, ⟨not_false, e0⟩, ⟨not_false, e1⟩⟩
      case assign =>
        rintro l z x y W1 K hG hz hK
        obtain ⟨A1, n1, c1, A2, n2, c2, rfl⟩ := GS_slices hG
        subst hfr
        simp only [encS, zip_one, List.setIfInBounds_toArray, List.set_cons_succ, List.set_cons_zero]
        gi_wp2
        exact hK _ _ (below_alloc (Below.refl _ _) _) ⟨W1.heap.size, hz, BoxA.new _ _ _ _, GS_below hG (below_alloc (Below.refl _ _) _), by simp only [List.setIfInBounds_toArray, List.set_cons_succ, List.set_cons_zero]⟩
      case body =>
        rintro l T pre x y a' Az A hpx hI hT hbz ⟨Bx, hBx, hbox, hG, rfl⟩
        have hxm : x ∈ allO vars bv bl bi := hpx.subset (by simp)
        have hpl : pre.length + 1 ≤ 500 := by have := hpx.length_le; rw [List.length_append, List.length_singleton] at this; have := HVB.out.2.2; omega
        have hxo := allO_ok HVB.out.2.1 hxm
        have hIA := NeI.abide W Bl Bb Bc _ _ T T pre Az A hI (StepT.of_below hbz) (Grows.refl _ _)
        have hTA : ∀ k, T k → k < A.heap.size := fun k hk => Nat.lt_of_lt_of_le (hT k hk) hbz.size
        obtain ⟨v1, hg1, hgR⟩ := hIA.g
        obtain ⟨y0, y1⟩ := y
        obtain ⟨hG1, hG2⟩ := hG
        dsimp only at hbox hG1 hG2
        obtain ⟨s0, hs0⟩ : ∃ s, s = x.dropLast := ⟨_, rfl⟩
        obtain ⟨s1, hs1⟩ : ∃ s, s = x.getLastD [] := ⟨_, rfl⟩
        have hst : stO x = (s0, s1, []) := by rw [hs0, hs1]; rfl
        rw [← hs0] at hG1
        rw [← hs1] at hG2
        have hle : s0.length ≤ 1000 ∧ (∀ z ∈ s0, z.length ≤ 1000) ∧ s1.length ≤ 1000 := by
          have hsp := st_split hxo.1
          rw [hst] at hsp
          refine ⟨?_, fun z hz => (hxo.2 z (by rw [hsp]; exact List.mem_append_left _ hz)).1, (hxo.2 s1 (by rw [hsp]; simp)).1⟩
          have h1 := hxo.1
          rw [hsp, List.length_append, List.length_singleton] at h1
          have := HVB.out.1
          dsimp only at h1
          omega
        obtain ⟨A1, c1, e1⟩ := Kd.R_slice hG1
        subst e1
        obtain ⟨A2, c2, e2⟩ := Kd.R_slice hG2
        subst e2
        obtain ⟨Ag, cg, e3⟩ := Kd.R_slice hgR
        subst e3
        have r1 := Kd.R_reads' hG1
        have r2 := Kd.R_reads' hG2
        have hsr : SR A A1 c1 s0 A2 c2 s1 none 0 [] := ⟨r1.2.2, r1.2.1, r2.2.2, r2.2.1, Kd.C_nil _ _, Nat.le_refl _⟩
        rw [List.length_map] at hg1 hgR
        have b0 := cell_of_heap (i := 0) hg1.2 rfl
        have b1 := hbox.c0
        have b2 := hbox.c1
        have b3 := hbox.c2
        have HIA := Lib.hid hIA
        have HTA := Lib.hid hTA
        have HGR := Lib.hid hgR
        have HSRA := Lib.hid hsr
        have HLE := Lib.hid hle
        have HP := Lib.hid hpl
        have HSTO := Lib.hid hst
        have HBL := HLB
        have HSD0 := Lib.hid (And.intro b0 (And.intro b1 (And.intro b2 b3)))
        clear hI hT hbz hbox hG1 hG2 hIA hTA hg1 hgR hs0 hs1 hst hBx hsr hle hpl hxo hxm hpx r1 r2
        subst hfr
        simp only [List.setIfInBounds_toArray, List.set_cons_succ, List.set_cons_zero]
        gi_wp2_with (fail)
        refine startR_ (n := 6) (S := fun w' => w'.cell? ⟨Bl, 0, none⟩ = some (.slice Ag pre.length cg) ∧ w'.cell? ⟨Bx, 0, none⟩ = some (.slice A1 s0.length c1) ∧ w'.cell? ⟨Bx, 1, none⟩ = some (.slice A2 s1.length c2) ∧ w'.cell? ⟨Bx, 2, none⟩ = some nil3) (ds := [4, 5]) #[false, false, false, false, false, false] (fun ⟨_, _, h⟩ => h) (by kernel_rfl) (by kernel_rfl) rfl rfl HSD0.out (fun hHeld => ?_); refine with_tabW tab7_7 bits7_7 (fun HT_ HW_ => ?_)
        obtain ⟨wd, hwd⟩ : ∃ wd, wd = A.drew := ⟨_, rfl⟩
        have hbd : Below A.heap.size A wd := by rw [hwd]; exact below_drew1 (Below.refl _ _)
        have hsd := HSD0.out
        have hid := NeI.abide W Bl Bb Bc _ _ T T pre A wd HIA.out (StepT.of_below hbd) (Grows.refl _ _)
        have htd : ∀ k, T k → k < wd.heap.size := fun k hk => Nat.lt_of_lt_of_le (HTA.out k hk) hbd.size
        have hrd := Kd.R_below HGR.out hbd
        have hsr := SR.below HSRA.out hbd
        rw [← hwd] at hHeld ⊢
        have hsb : ∀ w', Below wd.heap.size wd w' → w'.cell? ⟨Bl, 0, none⟩ = some (.slice Ag pre.length cg) ∧ w'.cell? ⟨Bx, 0, none⟩ = some (.slice A1 s0.length c1) ∧ w'.cell? ⟨Bx, 1, none⟩ = some (.slice A2 s1.length c2) ∧ w'.cell? ⟨Bx, 2, none⟩ = some nil3 := fun w' hb => ⟨hb.cell' hHeld.1, hb.cell' hHeld.2.1, hb.cell' hHeld.2.2.1, hb.cell' hHeld.2.2.2⟩
        have HSB := Lib.hid hsb
        have HSR := Lib.hid hsr
        have HID := Lib.hid hid
        have HTD := Lib.hid htd
        have HRW := Lib.hid hrd
        have HBD := Lib.hid hbd
        clear hwd hid htd hrd hsd hsb hsr hbd b0 b1 b2 b3
        refine take_ (i := 0) (N := some 54) (v := ?_) (a' := ?_) #[true, false, false, false, false, false] rfl rfl (take_ofW HT_.out HW_.out (by kernel_rfl)) (fun _ _ _ h => h) (Or.inl ⟨by rfl, ?_⟩) hHeld ?_ ?_
        rotate_left
        · rintro w' ⟨s0, s1, s2, s3⟩
          go_simp
          with_reducible rfl
        rotate_left
        · simp only [Act.put, List.setIfInBounds_toArray, List.set_cons_zero, List.set_cons_succ, i64_w, i32_w]
          rfl
        refine take_ (i := 1) (N := some 55) (v := ?_) (a' := ?_) #[true, true, false, false, false, false] rfl rfl (take_ofW HT_.out HW_.out (by kernel_rfl)) (fun _ _ _ h => h) (Or.inl ⟨by rfl, ?_⟩) hHeld ?_ ?_
        rotate_left
        · rintro w' ⟨s0, s1, s2, s3⟩
          go_simp
          with_reducible rfl
        rotate_left
        · simp only [Act.put, List.setIfInBounds_toArray, List.set_cons_zero, List.set_cons_succ, i64_w, i32_w]
          rfl
        refine one_ (i := 2) (N := some 56) #[true, true, true, false, false, false] rfl rfl (one_of HT_.out (by kernel_rfl)) (by decide) (fun K hK => ?_)
        refine goes_ Try.func22 (by kernel_rfl) rfl #[.agg #[.slice A1 s0.length c1, .slice A2 s1.length c2, .slice none 0 0]] (by rfl) rfl rfl (by first | rfl | simp [Act.eval]) ?_
        refine (clone_calls (s := (s0, s1, [])) HSR.out HLE.out.1 HLE.out.2.1 HLE.out.2.2 (Nat.zero_le _)).mono ?_
        rintro e w2 ⟨v0, v1, v2, rfl, hM, hb2⟩
        refine ⟨_, rfl, ?_⟩
        have HW2 := Lib.hid hb2
        have HM := Lib.hid hM
        clear hM hb2
        refine hK.out _ _ (HSB.out _ HW2.out) (fun hHeld => ?_)
        clear hK K
        refine norm_ (a' := ?_) ?_ ?_
        rotate_left
        · show Act.put _ (some 56) _ = _
          simp only [Act.put, List.setIfInBounds_toArray, List.set_cons_zero, List.set_cons_succ, i64_w, i32_w]
          rfl
        refine one_ (i := 3) (N := some 57) #[true, true, true, true, false, false] rfl rfl (one_of HT_.out (by kernel_rfl)) (by decide) (fun K hK => ?_)
        refine value_ (w1 := ?_) (v := ?_) (by rfl) rfl ?_ ?_
        rotate_left 2
        · go_simp
          constructor
          · rfl
          · rfl
        refine hK.out _ _ (let h := HSB.out _ HW2.out; ⟨al_c h.1 _, al_c h.2.1 _, al_c h.2.2.1 _, al_c h.2.2.2 _⟩) (fun hHeld => ?_)
        clear hK K
        refine norm_ (a' := ?_) ?_ ?_
        rotate_left
        · show Act.put _ (some 57) _ = _
          simp only [Act.put, List.setIfInBounds_toArray, List.set_cons_zero, List.set_cons_succ, i64_w, i32_w]
          rfl
        refine last_ (i := 4) (N := some 58) #[true, true, true, true, true, false] rfl rfl (one_of HT_.out (by kernel_rfl)) (by decide) (fun K hK => ?_)
        have hI2 := NeI.abide W Bl Bb Bc _ _ T T pre wd w2 HID.out (StepT.of_below HW2.out) (Grows.refl _ _)
        obtain ⟨vq, hg1, hgR⟩ := hI2.g
        have hgq := hHeld.1
        have hvq : vq = .slice Ag pre.length cg := by
          have h1 := al_c (cell_of_heap (i := 0) hg1.2 rfl) (.cells #[v0, v1, v2] 35)
          exact Option.some.inj (h1.symm.trans hgq)
        subst hvq
        have hT2 : ∀ k, T k → k < w2.heap.size := fun k hk => Nat.lt_of_lt_of_le (HTD.out k hk) HW2.out.size
        have hNd : W.heap.size ≤ wd.heap.size := HID.out.o.b.size
        have HT2 := Lib.hid hT2
        have HI2 := Lib.hid hI2
        have HGB := Lib.hid hg1
        have HRD := Lib.hid hgR
        have HND := Lib.hid hNd
        clear hgq hT2 hI2 hg1 hgR hNd
        refine Kd.R_append_step kS (w0 := W) W.heap.size (by rfl) (.tmp 54) (.tmp 57) 27 35 (.agg #[nil3, nil3, nil3]) 72 rfl Try.underlying27 info35 rfl (by decide) (by omega) (.slice Ag pre.length cg) (pre.map stO) (s0, s1, []) [v0, v1, v2] (fun k => ¬ T k) (fun k => wd.heap.size ≤ k) rfl rfl ((kS).M_lower HND.out HM.out)
          (fun k hk => ⟨fun ht => by have := HTD.out k ht; omega, fun e => by
            obtain ⟨inner, hown⟩ := Kd.R_own (show Kd.R kS 35 wd W.heap.size (fun k => ¬ T k) (.slice Ag pre.length cg) (pre.map stO) from HRW.out)
            have := own_lt hown k e.symm
            omega⟩) (fun k hk ht => by have := HT2.out k ht; omega) HRD.out HI2.out.o.b HI2.out.o.b.size (by have := HP.out; rw [List.length_map]; omega) ?_
        intro v4 w4 ho4 hb4 hg4 hat4
        have hap := own_app (d := kS) HBL.out HI2.out.o HT2.out HGB.out (by decide) HRD.out ho4 hb4 hg4
        obtain ⟨A4, c4, e4⟩ := Kd.R_slice ho4
        subst e4
        rw [List.length_append, List.length_map, List.length_singleton] at hap
        have hfr := hap.fr
        have hcc := hap.ce
        have HAP0 := Lib.hid hap
        clear ho4 hb4 hg4 hat4 hap
        refine hK.out _ _ ?_
        clear hK K
        refine norm_ (a' := ?_) ?_ ?_
        rotate_left
        · show Act.put _ (some 58) _ = _
          simp only [Act.put, List.setIfInBounds_toArray, List.set_cons_zero, List.set_cons_succ, i64_w, i32_w]
          rfl
        refine last_ (i := 5) (N := none) #[true, true, true, true, true, true] rfl rfl (one_of HT_.out (by kernel_rfl)) (by decide) (fun K hK => ?_)
        refine skip_ (w1 := ?_) (by rfl) rfl ?_ ?_
        rotate_left
        · go_simp
          rfl
        refine hK.out _ _ ?_
        clear hfr hcc
        obtain ⟨w5, hw5⟩ : ∃ w5, w5 = w4.setCell ⟨Bl, 0, none⟩ (.slice A4 (pre.length + 1) c4) := ⟨_, rfl⟩
        have hap := HAP0.out
        rw [← hw5] at hap
        rw [← hw5]
        have HAP := Lib.hid hap
        clear hap HAP0 hw5
        clear hK K
        refine done_ (done_of HT_.out (by kernel_rfl)) ?_
        have hap := HAP.out
        have hks := hap.ks
        have hko := hap.ot
        refine ⟨((kO_below HBD.out).trans (kO_below HW2.out)).trans hko, (KeepS.trans (kS_below HBD.out HTA.out) (kS_below HW2.out HTD.out)).trans hks, ⟨hap.o, ⟨_, hap.b, ?_⟩, hap.x _ _ _ ?_ (by decide) HI2.out.b, hap.x _ _ _ ?_ (by decide) HI2.out.c⟩⟩
        · rw [List.map_append, List.map_singleton, HSTO.out]; exact hap.r
        · have := HBX.out.1; have := HBLN.out; have := HSZ.out; omega
        · have := HBX.out.2; have := HBLN.out; have := HSZ.out; omega
      case done =>
        rintro D T xs W2 hD rfl hI hK
        have hDl : D < W2.heap.size := (Array.getElem?_eq_some_iff.1 hK).1
        have hD1 : w1.heap.size ≤ D := Nat.le_trans HB6.out.size hD
        obtain ⟨vL, hg1, hgR⟩ := hI.g
        obtain ⟨L, hL⟩ : ∃ L, L = (allO vars bv bl bi).map stO := ⟨_, rfl⟩
        rw [← hL] at hgR
        obtain ⟨w3', hw3'⟩ : ∃ w3', w3' = W2.alloc (.cells #[.int .i64 0] 3) := ⟨_, rfl⟩
        obtain ⟨Bk, hBk⟩ : ∃ b, b = W2.heap.size := ⟨_, rfl⟩
        have hb3 : Below W2.heap.size W2 w3' := by rw [hw3']; exact below_alloc (Below.refl _ _) _
        have hkk : w3'.heap[Bk]? = some (.cells #[.int .i64 0] 3 (0, 0)) := by rw [hw3', hBk]; exact World.alloc_heap_new W2 _
        have hks3 : w3'.heap.size = Bk + 1 := by rw [hw3', hBk]; simp
        have hcc := (hb3.block _ (Array.getElem?_eq_some_iff.1 hI.c.2).1).trans hI.c.2
        have x3 := cell_of_heap (i := 0) hcc rfl
        have x4 := cell_of_heap (i := 1) hcc rfl
        have x5 := cell_of_heap (i := 2) hcc rfl
        rw [hw3'] at x3 x4 x5
        have hrB : Kd.R kS 35 w3' W.heap.size (fun k => k < Bk) vL L := Kd.R_mono (Kd.R_below (Kd.R_bound hgR) hb3) (fun k hk => by have := hk.2.2.1; omega)
        have hl3 := (hb3.block _ (Array.getElem?_eq_some_iff.1 hg1.2).1).trans hg1.2
        have hd3 := (hb3.block _ hDl).trans hK
        have hW3 : Below W.heap.size W w3' := hI.o.b.trans (hb3.mono hI.o.b.size)
        have HRB := Lib.hid hrB
        have HL3 := Lib.hid hl3
        have HD3 := Lib.hid hd3
        have HW3 := Lib.hid hW3
        have HKK := Lib.hid hkk
        have HKS3 := Lib.hid hks3
        have HDL := Lib.hid (show D < Bk ∧ w1.heap.size ≤ D ∧ Bl < Bk ∧ W.heap.size ≤ Bk by
          have := (Array.getElem?_eq_some_iff.1 hg1.2).1
          have := hI.o.b.size
          exact ⟨by omega, hD1, by omega, by omega⟩)
        have HL := Lib.hid hL
        clear hI hK hg1 hgR hL hrB hl3 hd3 hW3 hkk hks3 hcc hb3 hDl hD1 hD
        subst hfr
        gi_wp2_with (fail)
        clear x3 x4 x5
        rw [← hw3', ← hBk]
        clear hw3' hBk
        refine ⟨trivial, (callsIn_wide.2 (all_calls _ _ _ _ _ _ _)).mono ?_⟩
        rintro e w4' ⟨Bv', Bq', rfl, cv0, q0, q1, q2, hb⟩
        have HB4' := Lib.hid hb
        have HW4 := Lib.hid (HW3.out.trans (hb.mono HW3.out.size))
        have HS2 := Lib.hid (seq_all vars cv cl ci _ _ Bv' Bq' w4' cv0 hc0 (Kd.C_below HR.out HW4.out) q0 q1 q2)
        clear cv0 q0 q1 q2 hb
        gi_wp2_with (fail)
        have HSN2 : Hid (W.heap.size ≤ w4'.heap.size ∧ D < w4'.heap.size) := Lib.hid ⟨HW4.out.size, by have := HB4'.out.size; have := HKS3.out; have := HDL.out.1; omega⟩
        obtain ⟨hn6, hvC, hMn, _, _⟩ := small_valid HSC.out
        have HVC := Lib.hid (And.intro hn6 (And.intro hvC hMn))
        have HLL := Lib.hid (show L.length ≤ 500 by rw [HL.out, List.length_map]; exact HVB.out.2.2)
        clear hn6 hvC hMn
        refine wpIn_fr ?_
        intro fr2 hfr2
        refine wpIn_rangeFunc_A (gf := 31) (by rw [hfr2]; rfl) (enters_of Try.func31 (by kernel_rfl) rfl) HS2.out (Below.refl _ _) (fun _ _ => rfl)
          (Ax := AxS fun Bx y => { tmps := (fr2.setIfInBounds 62 (.agg #[y.1, y.2, nil3])).setIfInBounds 15 (.pointer (some ⟨Bx, 0, none⟩)), defers := [] }) AxS_put
          (NeJ W Bl Bk D vL L) (fun _ _ _ _ => False) (NeJ.abide W Bl Bk D vL L) (fun _ _ _ _ _ _ h => h.elim) (fun T s A l o o' h hl ho hc => h.put o' (Nat.le_trans HSN2.out.1 hl) (Nat.lt_of_lt_of_le HSN2.out.2 hl) ho hc) (fun c T s A l o o' h hl ho hc => h.elim) ?h0b ?assignb ?bodyb ?doneb ?stopb
        case h0b =>
          have hlt : ∀ {B : Nat} {o : Obj}, w3'.heap[B]? = some o → B < w3'.heap.size := fun h => (Array.getElem?_eq_some_iff.1 h).1
          exact ⟨⟨fun _ h => h.elim, HW4.out⟩, ⟨not_false, (HB4'.out.block _ (hlt HL3.out)).trans HL3.out⟩, Kd.R_mono (Kd.R_below HRB.out HB4'.out) (fun k hk => ⟨not_false, hk⟩), ⟨not_false, (HB4'.out.block _ (hlt HKK.out)).trans HKK.out⟩, ⟨not_false, (HB4'.out.block _ (hlt HD3.out)).trans HD3.out⟩⟩
        case assignb =>
          rintro l z x y W1 K hG hz hK
          obtain ⟨A1, n1, c1, A2, n2, c2, rfl⟩ := GS_slices hG
          subst hfr2
          simp only [encS, zip_one, List.setIfInBounds_toArray, List.set_cons_succ, List.set_cons_zero]
          gi_wp2
          exact hK _ _ (below_alloc (Below.refl _ _) _) ⟨W1.heap.size, hz, BoxA.new _ _ _ _, GS_below hG (below_alloc (Below.refl _ _) _), by simp only [List.setIfInBounds_toArray, List.set_cons_succ, List.set_cons_zero]⟩
        case bodyb =>
          rintro l T pre x y a' Az A hpx hI hT hbz ⟨Bx, hBx, hbox, hG, rfl⟩
          have hxm : x ∈ allO vars cv cl ci := hpx.subset (by simp)
          have hxo := allO_ok HVC.out.2.1 hxm
          have hIA := NeJ.abide W Bl Bk D vL L T T pre Az A hI (StepT.of_below hbz) (Grows.refl _ _)
          have hTA : ∀ k, T k → k < A.heap.size := fun k hk => Nat.lt_of_lt_of_le (hT k hk) hbz.size
          obtain ⟨y0, y1⟩ := y
          obtain ⟨hG1, hG2⟩ := hG
          dsimp only at hbox hG1 hG2
          obtain ⟨s0, hs0⟩ : ∃ s, s = x.dropLast := ⟨_, rfl⟩
          obtain ⟨s1, hs1⟩ : ∃ s, s = x.getLastD [] := ⟨_, rfl⟩
          have hst : stO x = (s0, s1, []) := by rw [hs0, hs1]; rfl
          rw [← hs0] at hG1
          rw [← hs1] at hG2
          have hle : s0.length ≤ 5864062014634 := by
            have hsp := st_split hxo.1
            rw [hst] at hsp
            have h1 := hxo.1
            rw [hsp, List.length_append, List.length_singleton] at h1
            have := HVC.out.1
            dsimp only at h1
            omega
          obtain ⟨A1, c1, e1⟩ := Kd.R_slice hG1
          subst e1
          obtain ⟨A2, c2, e2⟩ := Kd.R_slice hG2
          subst e2
          obtain ⟨Al, c3, e3⟩ := Kd.R_slice hIA.r
          subst e3
          have r1 := Kd.R_reads' hG1
          have r2 := Kd.R_reads' hG2
          have hsr : SR A A1 c1 s0 A2 c2 s1 none 0 [] := ⟨r1.2.2, r1.2.1, r2.2.2, r2.2.1, Kd.C_nil _ _, Nat.le_refl _⟩
          obtain ⟨k, hk⟩ : ∃ k, k = gr L (pre.map stO) := ⟨_, rfl⟩
          have hgs : gr L ((pre ++ [x]).map stO) = grS L k (s0, s1, []) := by rw [List.map_append, List.map_singleton, gr_snoc, ← hk, hst]
          have k0 := cell_of_heap (i := 0) hIA.k.2 rfl
          rw [← hk] at k0
          have l0 := cell_of_heap (i := 0) hIA.l.2 rfl
          have x0 := hbox.c0
          have x1 := hbox.c1
          have x2 := hbox.c2
          have hrd := (Kd.R_reads' hIA.r).2.2
          have HIA := Lib.hid hIA
          have HTA := Lib.hid hTA
          have HSRA := Lib.hid hsr
          have HLE := Lib.hid hle
          have HK := Lib.hid hk
          have HGS := Lib.hid hgs
          have HRD := Lib.hid hrd
          clear hI hT hbz hbox hG1 hG2 hIA hTA hs0 hs1 hst hBx hsr hle hxo hxm hpx r1 r2 hk hgs hrd
          subst hfr2
          simp only [List.setIfInBounds_toArray, List.set_cons_succ, List.set_cons_zero]
          by_cases hlt : k < L.length
          · have d1 : decide ((k : Int) < (L.length : Int)) = true := decide_eq_true (by omega)
            have d2 : decide (k < L.length) = true := decide_eq_true hlt
            have p1 : (0 ≤ (k : Int)) = True := eq_true (by omega)
            have p2 : ((k : Int) < (L.length : Int)) = True := eq_true (by omega)
            have p3 : (k < L.length) = True := eq_true hlt
            obtain ⟨ad, E0, e0, E1, e1, E2, e2, rfl, r0, r1, r2, her⟩ := at_S HRD.out (k : Int) (by omega) (by omega)
            rw [Int.toNat_natCast] at r0 r1 r2
            have HERA := Lib.hid her
            have HSD0 := Lib.hid (And.intro k0 (And.intro l0 (And.intro x0 (And.intro x1 (And.intro x2 (And.intro r0 (And.intro r1 r2)))))))
            have HLT := Lib.hid hlt
            clear her hlt
            gi_wp2_with (fail)
            refine startR_ (n := 12) (S := fun w' => w'.cell? ⟨Bk, 0, none⟩ = some (.int .i64 (k : Int)) ∧ w'.cell? ⟨Bl, 0, none⟩ = some (.slice (some ad) L.length c3) ∧ w'.cell? ⟨Bx, 0, none⟩ = some (.slice A1 s0.length c1) ∧ w'.cell? ⟨Bx, 1, none⟩ = some (.slice A2 s1.length c2) ∧ w'.cell? ⟨Bx, 2, none⟩ = some nil3 ∧ w'.cell? (ad.add (k * 3)) = some (.slice E0 (rd_S L (k : Int)).1.length e0) ∧ w'.cell? ⟨(ad.add (k * 3)).block, (ad.add (k * 3)).off + 1, none⟩ = some (.slice E1 (rd_S L (k : Int)).2.1.length e1) ∧ w'.cell? ⟨(ad.add (k * 3)).block, (ad.add (k * 3)).off + 2, none⟩ = some (.slice E2 (rd_S L (k : Int)).2.2.length e2)) (ds := []) #[false, false, false, false, false, false, false, false, false, false, false, false] (fun ⟨_, _, h⟩ => h) (by kernel_rfl) (by kernel_rfl) rfl rfl HSD0.out (fun hHeld => ?_); refine with_tabW tab7_11 bits7_11 (fun HT_ HW_ => ?_)
            obtain ⟨wd, hwd⟩ : ∃ wd, wd = A.drew := ⟨_, rfl⟩
            have hbd : Below A.heap.size A wd := by rw [hwd]; exact below_drew1 (Below.refl _ _)
            rw [← hwd] at hHeld ⊢
            have hsb : ∀ w', Below wd.heap.size wd w' → w'.cell? ⟨Bk, 0, none⟩ = some (.int .i64 (k : Int)) ∧ w'.cell? ⟨Bl, 0, none⟩ = some (.slice (some ad) L.length c3) ∧ w'.cell? ⟨Bx, 0, none⟩ = some (.slice A1 s0.length c1) ∧ w'.cell? ⟨Bx, 1, none⟩ = some (.slice A2 s1.length c2) ∧ w'.cell? ⟨Bx, 2, none⟩ = some nil3 ∧ w'.cell? (ad.add (k * 3)) = some (.slice E0 (rd_S L (k : Int)).1.length e0) ∧ w'.cell? ⟨(ad.add (k * 3)).block, (ad.add (k * 3)).off + 1, none⟩ = some (.slice E1 (rd_S L (k : Int)).2.1.length e1) ∧ w'.cell? ⟨(ad.add (k * 3)).block, (ad.add (k * 3)).off + 2, none⟩ = some (.slice E2 (rd_S L (k : Int)).2.2.length e2) := fun w' hb => ⟨hb.cell' hHeld.1, hb.cell' hHeld.2.1, hb.cell' hHeld.2.2.1, hb.cell' hHeld.2.2.2.1, hb.cell' hHeld.2.2.2.2.1, hb.cell' hHeld.2.2.2.2.2.1, hb.cell' hHeld.2.2.2.2.2.2.1, hb.cell' hHeld.2.2.2.2.2.2.2⟩
            have hsr := SR.below HSRA.out hbd
            have HSB := Lib.hid hsb
            have HSR := Lib.hid hsr
            have HBD := Lib.hid hbd
            have her := SR.below HERA.out hbd
            have HER := Lib.hid her
            clear her
            clear hwd hbd hsb hsr k0 l0 x0 x1 x2 r0 r1 r2
            refine take_ (i := 0) (N := some 63) (v := ?_) (a' := ?_) #[true, false, false, false, false, false, false, false, false, false, false, false] rfl rfl (take_ofW HT_.out HW_.out (by kernel_rfl)) (fun _ _ _ h => h) (Or.inl ⟨by rfl, ?_⟩) hHeld ?_ ?_
            rotate_left
            · rintro w' ⟨s0, s1, s2, s3, s4, s5, s6, s7⟩
              go_simp
              with_reducible rfl
            rotate_left
            · simp only [Act.put, List.setIfInBounds_toArray, List.set_cons_zero, List.set_cons_succ, i64_w, i32_w]
              rfl
            refine take_ (i := 1) (N := some 64) (v := ?_) (a' := ?_) #[true, true, false, false, false, false, false, false, false, false, false, false] rfl rfl (take_ofW HT_.out HW_.out (by kernel_rfl)) (fun _ _ _ h => h) (Or.inl ⟨by rfl, ?_⟩) hHeld ?_ ?_
            rotate_left
            · rintro w' ⟨s0, s1, s2, s3, s4, s5, s6, s7⟩
              go_simp
              with_reducible rfl
            rotate_left
            · simp only [Act.put, List.setIfInBounds_toArray, List.set_cons_zero, List.set_cons_succ, i64_w, i32_w]
              rfl
            refine pure_ (i := 2) (N := some 65) (v := ?_) (a' := ?_) #[true, true, true, false, false, false, false, false, false, false, false, false] rfl rfl (any_of HT_.out (by kernel_rfl)) (fun _ _ _ h => h) (Or.inl ⟨by rfl, ?_⟩) ?_ ?_
            rotate_left
            · intro w'
              go_simp
              with_reducible rfl
            rotate_left
            · simp only [Act.put, List.setIfInBounds_toArray, List.set_cons_zero, List.set_cons_succ, i64_w, i32_w]
              rfl
            refine pure_ (i := 3) (N := some 66) (v := ?_) (a' := ?_) #[true, true, true, true, false, false, false, false, false, false, false, false] rfl rfl (any_of HT_.out (by kernel_rfl)) (fun _ _ _ h => h) (Or.inl ⟨by rfl, ?_⟩) ?_ ?_
            rotate_left
            · intro w'
              go_simp
              with_reducible rfl
            rotate_left
            · simp only [Act.put, List.setIfInBounds_toArray, List.set_cons_zero, List.set_cons_succ, i64_w, i32_w]
              rfl
            refine pure_ (i := 4) (N := some 67) (v := ?_) (a' := ?_) #[true, true, true, true, true, false, false, false, false, false, false, false] rfl rfl (any_of HT_.out (by kernel_rfl)) (fun _ _ _ h => h) (Or.inl ⟨by rfl, ?_⟩) ?_ ?_
            rotate_left
            · intro w'
              go_simp
              with_reducible rfl
            rotate_left
            · simp only [Act.put, List.setIfInBounds_toArray, List.set_cons_zero, List.set_cons_succ, i64_w, i32_w]
              rfl
            refine take_ (i := 5) (N := some 68) (v := ?_) (a' := ?_) #[true, true, true, true, true, true, false, false, false, false, false, false] rfl rfl (take_ofW HT_.out HW_.out (by kernel_rfl)) (fun _ _ _ h => h) (Or.inl ⟨by rfl, ?_⟩) hHeld ?_ ?_
            rotate_left
            · rintro w' ⟨s0, s1, s2, s3, s4, s5, s6, s7⟩
              go_simp
              with_reducible rfl
            rotate_left
            · simp only [Act.put, List.setIfInBounds_toArray, List.set_cons_zero, List.set_cons_succ, i64_w, i32_w]
              rfl
            refine take_ (i := 6) (N := some 69) (v := ?_) (a' := ?_) #[true, true, true, true, true, true, true, false, false, false, false, false] rfl rfl (take_ofW HT_.out HW_.out (by kernel_rfl)) (fun _ _ _ h => h) (Or.inl ⟨by rfl, ?_⟩) hHeld ?_ ?_
            rotate_left
            · rintro w' ⟨s0, s1, s2, s3, s4, s5, s6, s7⟩
              go_simp
              with_reducible rfl
            rotate_left
            · simp only [Act.put, List.setIfInBounds_toArray, List.set_cons_zero, List.set_cons_succ, i64_w, i32_w]
              rfl
            refine take_ (i := 7) (N := some 70) (v := ?_) (a' := ?_) #[true, true, true, true, true, true, true, true, false, false, false, false] rfl rfl (take_ofW HT_.out HW_.out (by kernel_rfl)) (fun _ _ _ h => h) (Or.inl ⟨by rfl, ?_⟩) hHeld ?_ ?_
            rotate_left
            · rintro w' ⟨s0, s1, s2, s3, s4, s5, s6, s7⟩
              go_simp
              with_reducible rfl
            rotate_left
            · simp only [Act.put, List.setIfInBounds_toArray, List.set_cons_zero, List.set_cons_succ, i64_w, i32_w]
              rfl
            refine pure_ (i := 8) (N := some 71) (v := ?_) (a' := ?_) #[true, true, true, true, true, true, true, true, true, false, false, false] rfl rfl (any_of HT_.out (by kernel_rfl)) (fun _ _ _ h => h) (Or.inl ⟨by rfl, ?_⟩) ?_ ?_
            rotate_left
            · intro w'
              go_simp
              with_reducible rfl
            rotate_left
            · simp only [Act.put, List.setIfInBounds_toArray, List.set_cons_zero, List.set_cons_succ, i64_w, i32_w]
              rfl
            refine take_ (i := 9) (N := some 72) (v := ?_) (a' := ?_) #[true, true, true, true, true, true, true, true, true, true, false, false] rfl rfl (take_ofW HT_.out HW_.out (by kernel_rfl)) (fun _ _ _ h => h) (Or.inl ⟨by rfl, ?_⟩) hHeld ?_ ?_
            rotate_left
            · rintro w' ⟨s0, s1, s2, s3, s4, s5, s6, s7⟩
              go_simp
              with_reducible rfl
            rotate_left
            · simp only [Act.put, List.setIfInBounds_toArray, List.set_cons_zero, List.set_cons_succ, i64_w, i32_w]
              rfl
            refine one_ (i := 10) (N := some 73) #[true, true, true, true, true, true, true, true, true, true, true, false] rfl rfl (one_of HT_.out (by kernel_rfl)) (by decide) (fun K hK => ?_)
            refine goes_ Try.func23 (by kernel_rfl) rfl #[.agg #[.slice A1 s0.length c1, .slice A2 s1.length c2, .slice none 0 0], .agg #[.slice E0 (rd_S L (k : Int)).1.length e0, .slice E1 (rd_S L (k : Int)).2.1.length e1, .slice E2 (rd_S L (k : Int)).2.2.length e2]] (by rfl) rfl rfl (by first | rfl | simp [Act.eval]) ?_
            refine (equal_calls (l0 := s0) (l1 := s1) (l2 := []) HSR.out HER.out HLE.out).mono ?_
            obtain ⟨q, hq⟩ : ∃ q, q = eqS s0 s1 [] (rd_S L (k : Int)).1 (rd_S L (k : Int)).2.1 (rd_S L (k : Int)).2.2 := ⟨_, rfl⟩
            rw [← hq]
            rintro e w2 ⟨rfl, hb2⟩
            refine ⟨_, rfl, ?_⟩
            have HW2 := Lib.hid hb2
            have HQ := Lib.hid hq
            clear hb2 hq
            refine hK.out _ _ (HSB.out _ HW2.out) (fun hHeld => ?_)
            clear hK K
            refine norm_ (a' := ?_) ?_ ?_
            rotate_left
            · show Act.put _ (some 73) _ = _
              simp only [Act.put, List.setIfInBounds_toArray, List.set_cons_zero, List.set_cons_succ, i64_w, i32_w]
              rfl
            refine pure_ (i := 11) (N := some 74) (v := ?_) (a' := ?_) #[true, true, true, true, true, true, true, true, true, true, true, true] rfl rfl (any_of HT_.out (by kernel_rfl)) (fun _ _ _ h => h) (Or.inl ⟨by rfl, ?_⟩) ?_ ?_
            rotate_left
            · intro w'
              go_simp
              with_reducible rfl
            rotate_left
            · simp only [Act.put, List.setIfInBounds_toArray, List.set_cons_zero, List.set_cons_succ, i64_w, i32_w]
              rfl
            refine done_ (done_of HT_.out (by kernel_rfl)) ?_
            have hbA := HBD.out.trans (HW2.out.mono HBD.out.size)
            have hJ2 := NeJ.abide W Bl Bk D _ L T T pre A w2 HIA.out (StepT.of_below hbA) (Grows.refl _ _)
            have hgs := HGS.out
            rw [grS_eqS L k HLT.out, ← HQ.out] at hgs
            have hkO := kO_below hbA
            have hkS := kS_below hbA HTA.out
            have hk2 := hJ2.k.2
            rw [← HK.out] at hk2
            have k1 := cell_of_heap (i := 0) hk2 rfl
            have fz : w2.frozen? ⟨Bk, 0, none⟩ = false := by simp [World.frozen?, hk2]
            have hw : wrap64 ((k : Int) + 1) = (k : Int) + 1 := wrap64_of' (by have := HLL.out; have := HLT.out; omega) (by have := HLL.out; have := HLT.out; omega)
            have HJ2 := Lib.hid hJ2
            have HKO := Lib.hid hkO
            have HKSS := Lib.hid hkS
            clear hbA hJ2 hkO hkS hk2
            cases q with
            | true =>
              rw [if_pos rfl] at hgs
              have HGS2 := Lib.hid hgs
              clear hgs
              gi_wp2
              refine ⟨HKO.out.trans (KeepsOthers.setCell _ _ _), KeepS.trans HKSS.out (keepS_set _ _ _ _ HJ2.out.k.1), ?_⟩
              have h := HJ2.out.next x (by rw [← HK.out]; exact HGS2.out) HDL.out.2.2.2 (by have := HDL.out.2.2.1; omega) (by have := HDL.out.1; omega)
              rw [← HK.out] at h
              exact h
            | false =>
              rw [if_neg (by simp)] at hgs
              have HGS2 := Lib.hid hgs
              clear hgs
              gi_wp2
              exact ⟨HKO.out, HKSS.out, HJ2.out.same x (by rw [← HK.out]; exact HGS2.out)⟩
          · have d1 : decide ((k : Int) < (L.length : Int)) = false := decide_eq_false (by omega)
            have d2 : decide (k < L.length) = false := decide_eq_false hlt
            have HSD0 := Lib.hid (And.intro k0 (And.intro l0 (And.intro x0 (And.intro x1 x2))))
            have HLT := Lib.hid hlt
            clear hlt
            gi_wp2_with (fail)
            refine startR_ (n := 12) (S := fun w' => w'.cell? ⟨Bk, 0, none⟩ = some (.int .i64 (k : Int)) ∧ w'.cell? ⟨Bl, 0, none⟩ = some (.slice Al L.length c3) ∧ w'.cell? ⟨Bx, 0, none⟩ = some (.slice A1 s0.length c1) ∧ w'.cell? ⟨Bx, 1, none⟩ = some (.slice A2 s1.length c2) ∧ w'.cell? ⟨Bx, 2, none⟩ = some nil3) (ds := []) #[false, false, false, false, false, false, false, false, false, false, false, false] (fun ⟨_, _, h⟩ => h) (by kernel_rfl) (by kernel_rfl) rfl rfl HSD0.out (fun hHeld => ?_); refine with_tabW tab7_11 bits7_11 (fun HT_ HW_ => ?_)
            obtain ⟨wd, hwd⟩ : ∃ wd, wd = A.drew := ⟨_, rfl⟩
            have hbd : Below A.heap.size A wd := by rw [hwd]; exact below_drew1 (Below.refl _ _)
            rw [← hwd] at hHeld ⊢
            have hsb : ∀ w', Below wd.heap.size wd w' → w'.cell? ⟨Bk, 0, none⟩ = some (.int .i64 (k : Int)) ∧ w'.cell? ⟨Bl, 0, none⟩ = some (.slice Al L.length c3) ∧ w'.cell? ⟨Bx, 0, none⟩ = some (.slice A1 s0.length c1) ∧ w'.cell? ⟨Bx, 1, none⟩ = some (.slice A2 s1.length c2) ∧ w'.cell? ⟨Bx, 2, none⟩ = some nil3 := fun w' hb => ⟨hb.cell' hHeld.1, hb.cell' hHeld.2.1, hb.cell' hHeld.2.2.1, hb.cell' hHeld.2.2.2.1, hb.cell' hHeld.2.2.2.2⟩
            have hsr := SR.below HSRA.out hbd
            have HSB := Lib.hid hsb
            have HSR := Lib.hid hsr
            have HBD := Lib.hid hbd
            skip
            clear hwd hbd hsb hsr k0 l0 x0 x1 x2
            refine take_ (i := 0) (N := some 63) (v := ?_) (a' := ?_) #[true, false, false, false, false, false, false, false, false, false, false, false] rfl rfl (take_ofW HT_.out HW_.out (by kernel_rfl)) (fun _ _ _ h => h) (Or.inl ⟨by rfl, ?_⟩) hHeld ?_ ?_
            rotate_left
            · rintro w' ⟨s0, s1, s2, s3, s4⟩
              go_simp
              with_reducible rfl
            rotate_left
            · simp only [Act.put, List.setIfInBounds_toArray, List.set_cons_zero, List.set_cons_succ, i64_w, i32_w]
              rfl
            refine take_ (i := 1) (N := some 64) (v := ?_) (a' := ?_) #[true, true, false, false, false, false, false, false, false, false, false, false] rfl rfl (take_ofW HT_.out HW_.out (by kernel_rfl)) (fun _ _ _ h => h) (Or.inl ⟨by rfl, ?_⟩) hHeld ?_ ?_
            rotate_left
            · rintro w' ⟨s0, s1, s2, s3, s4⟩
              go_simp
              with_reducible rfl
            rotate_left
            · simp only [Act.put, List.setIfInBounds_toArray, List.set_cons_zero, List.set_cons_succ, i64_w, i32_w]
              rfl
            refine pure_ (i := 2) (N := some 65) (v := ?_) (a' := ?_) #[true, true, true, false, false, false, false, false, false, false, false, false] rfl rfl (any_of HT_.out (by kernel_rfl)) (fun _ _ _ h => h) (Or.inl ⟨by rfl, ?_⟩) ?_ ?_
            rotate_left
            · intro w'
              go_simp
              with_reducible rfl
            rotate_left
            · simp only [Act.put, List.setIfInBounds_toArray, List.set_cons_zero, List.set_cons_succ, i64_w, i32_w]
              rfl
            refine pure_ (i := 3) (N := some 66) (v := ?_) (a' := ?_) #[true, true, true, true, false, false, false, false, false, false, false, false] rfl rfl (any_of HT_.out (by kernel_rfl)) (fun _ _ _ h => h) (Or.inl ⟨by rfl, ?_⟩) ?_ ?_
            rotate_left
            · intro w'
              go_simp
              with_reducible rfl
            rotate_left
            · simp only [Act.put, List.setIfInBounds_toArray, List.set_cons_zero, List.set_cons_succ, i64_w, i32_w]
              rfl
            refine pure_ (i := 4) (N := some 67) (v := ?_) (a' := ?_) #[true, true, true, true, true, false, false, false, false, false, false, false] rfl rfl (any_of HT_.out (by kernel_rfl)) (fun _ _ _ h => h) (Or.inl ⟨by rfl, ?_⟩) ?_ ?_
            rotate_left
            · intro w'
              go_simp
              with_reducible rfl
            rotate_left
            · simp only [Act.put, List.setIfInBounds_toArray, List.set_cons_zero, List.set_cons_succ, i64_w, i32_w]
              rfl
            refine take_ (i := 5) (N := some 68) (v := _) (a' := ?_) #[true, true, true, true, true, true, false, false, false, false, false, false] rfl rfl (take_ofW HT_.out HW_.out (by kernel_rfl)) (fun _ _ _ h => h) (Or.inr ⟨by rfl, rfl⟩) hHeld ?_ ?_
            rotate_left
            · simp only [Act.put, List.setIfInBounds_toArray, List.set_cons_zero, List.set_cons_succ, i64_w, i32_w]
              rfl
            refine take_ (i := 6) (N := some 69) (v := _) (a' := ?_) #[true, true, true, true, true, true, true, false, false, false, false, false] rfl rfl (take_ofW HT_.out HW_.out (by kernel_rfl)) (fun _ _ _ h => h) (Or.inr ⟨by rfl, rfl⟩) hHeld ?_ ?_
            rotate_left
            · simp only [Act.put, List.setIfInBounds_toArray, List.set_cons_zero, List.set_cons_succ, i64_w, i32_w]
              rfl
            refine take_ (i := 7) (N := some 70) (v := _) (a' := ?_) #[true, true, true, true, true, true, true, true, false, false, false, false] rfl rfl (take_ofW HT_.out HW_.out (by kernel_rfl)) (fun _ _ _ h => h) (Or.inr ⟨by rfl, rfl⟩) hHeld ?_ ?_
            rotate_left
            · simp only [Act.put, List.setIfInBounds_toArray, List.set_cons_zero, List.set_cons_succ, i64_w, i32_w]
              rfl
            refine pure_ (i := 8) (N := some 71) (v := _) (a' := ?_) #[true, true, true, true, true, true, true, true, true, false, false, false] rfl rfl (any_of HT_.out (by kernel_rfl)) (fun _ _ _ h => h) (Or.inr ⟨by rfl, rfl⟩) ?_ ?_
            rotate_left
            · simp only [Act.put, List.setIfInBounds_toArray, List.set_cons_zero, List.set_cons_succ, i64_w, i32_w]
              rfl
            refine take_ (i := 9) (N := some 72) (v := _) (a' := ?_) #[true, true, true, true, true, true, true, true, true, true, false, false] rfl rfl (take_ofW HT_.out HW_.out (by kernel_rfl)) (fun _ _ _ h => h) (Or.inr ⟨by rfl, rfl⟩) hHeld ?_ ?_
            rotate_left
            · simp only [Act.put, List.setIfInBounds_toArray, List.set_cons_zero, List.set_cons_succ, i64_w, i32_w]
              rfl
            refine one_ (i := 10) (N := some 73) #[true, true, true, true, true, true, true, true, true, true, true, false] rfl rfl (one_of HT_.out (by kernel_rfl)) (by decide) (fun K hK => ?_)
            refine off_ (by rfl) ?_
            refine hK.out _ _ hHeld (fun hHeld => ?_)
            clear hK K
            refine norm_ (a' := ?_) ?_ ?_
            rotate_left
            · show Act.put _ (some 73) _ = _
              simp only [Act.put, List.setIfInBounds_toArray, List.set_cons_zero, List.set_cons_succ, i64_w, i32_w]
              rfl
            refine pure_ (i := 11) (N := some 74) (v := ?_) (a' := ?_) #[true, true, true, true, true, true, true, true, true, true, true, true] rfl rfl (any_of HT_.out (by kernel_rfl)) (fun _ _ _ h => h) (Or.inl ⟨by rfl, ?_⟩) ?_ ?_
            rotate_left
            · intro w'
              go_simp
              with_reducible rfl
            rotate_left
            · simp only [Act.put, List.setIfInBounds_toArray, List.set_cons_zero, List.set_cons_succ, i64_w, i32_w]
              rfl
            refine done_ (done_of HT_.out (by kernel_rfl)) ?_
            have hJ2 := NeJ.abide W Bl Bk D _ L T T pre A wd HIA.out (StepT.of_below HBD.out) (Grows.refl _ _)
            have hgs := HGS.out
            rw [grS_end L k HLT.out] at hgs
            have HJ2 := Lib.hid hJ2
            have HGS2 := Lib.hid hgs
            clear hJ2 hgs
            gi_wp2
            exact ⟨kO_below HBD.out, kS_below HBD.out HTA.out, HJ2.out.same x (by rw [← HK.out]; exact HGS2.out)⟩
        case doneb =>
          rintro D2 T2 xs W4 hD2 rfl hI hK2
          have hmono : (allO vars bv bl bi).Sublist (allO vars cv cl ci) := by
            obtain ⟨e1, e2, e3⟩ := HCV.out
            obtain ⟨_, ⟨b1, b2⟩, ⟨b3, b4⟩, ⟨b5, b6⟩, _⟩ := valid_box HVB.out.2.1
            refine allO_mono HVB.out.2.1 HVC.out.2.1 ?_ ?_ ?_
            · rw [e1, wrap64_of' (by omega) (by omega)]; omega
            · rw [e2, wrap64_of' (by omega) (by omega)]; omega
            · rw [e3, wrap64_of' (by omega) (by omega)]; omega
          have hgr : gr L ((allO vars cv cl ci).map stO) = L.length := by rw [HL.out]; exact gr_sub (hmono.map stO)
          obtain ⟨Al, c3, e3⟩ := Kd.R_slice hI.r
          subst e3
          have hkk := hI.k.2
          rw [hgr] at hkk
          have k0 := cell_of_heap (i := 0) hkk rfl
          have l0 := cell_of_heap (i := 0) hI.l.2 rfl
          have HI := Lib.hid hI
          have HK2 := Lib.hid hK2
          have HD2 := Lib.hid hD2
          clear hmono hgr hkk hI hK2 hD2
          subst hfr2
          gi_wp2
          have hne : D ≠ D2 := by have := HSN2.out.2; have := HD2.out; omega
          have hK1 : (W4.putObj D2 (.deferred none)).heap[D]? = some (.deferred (some [])) := (World.putObj_heap_other hne).trans HI.out.d.2
          refine ⟨by simp, .inl ⟨_, _, rfl, run_takeDeferred HK2.out, ⟨by simp, .inl ⟨_, _, rfl, run_takeDeferred hK1, ?_⟩⟩⟩⟩
          have hb1 := (OutT.put (T := fun _ => False) ⟨fun _ h => h.elim, HI.out.o.b⟩ (.deferred none) (Nat.le_trans HSN2.out.1 HD2.out)).b
          have hb2 := (OutT.put (T := fun _ => False) ⟨fun _ h => h.elim, hb1⟩ (.deferred none) (Nat.le_trans HBW.out.size HDL.out.2.1)).b
          exact ⟨.bool true, by simp [results, Try.f7, go_sem], rfl, hb2⟩
        case stopb => exact fun _ _ _ _ _ _ _ h _ => h.elim
      case stop => exact fun _ _ _ _ _ _ _ h _ => h.elim
end Go.Proofs.Ytgcdeablfoomhaa.PAll
end
section
set_option linter.unusedVariables false
set_option linter.unusedSimpArgs false
namespace Go.Proofs.Ytgcdeablfoomhaa.PAll
open Go.RowKit Go.ChangeShapes Go.WideShapes Go.ChangeAt Go.Proofs.YtgcdeablfoomhaaW.PrintWords Go.Proofs.YtgcdeablfoomhaaW.PrintLast
section
variable {H : Type} {enc : TypeId × Value → H} {P : Program} {w : World} {base : Nat} {spare : Nat → Bool} {held : Bool}
/-- The cells of an element, read as_ an element. -/
def Opens (enc : TypeId × Value → H) (P : Program) (w : World) (base : Nat) (spare : Nat → Bool) (held : Bool) {α : Type} (d : Kd α) (e : TypeId) (good : α → Prop) : Prop :=
  ∀ (fuel : Nat) (cs : List Value) (x : DataW H × List MemPlace), DataW.trod enc P w base spare held fuel e cs = some x → ∃ p, d.K w p cs ∧ good p
theorem add_add_plain (a : Addr) (i j : Nat) : (a.add i).add j = a.add (i + j) := Addr.add_add a i j
theorem opens_row {α : Type} {d : Kd α} {t e : TypeId} {good : α → Prop} (ht : P.underlying t = some (.slice e)) (hc : P.cellsOf e = d.sz) (ho : Opens enc P w base spare held d e good)
    {fuel : Nat} {cs : List Value} {x : DataW H × List MemPlace} (h : DataW.trod enc P w base spare held fuel t cs = some x) :
    ∃ A cap, ∃ l : List α, cs = [.slice A l.length cap] ∧ l.length ≤ cap ∧ d.C w A l.length l ∧ ∀ x ∈ l, good x := by
  rcases DataW.trod_slice ht h with ⟨rfl, _⟩ | ⟨a, len, cap, elems, rest, n, _, rfl, _, hb, hl, hm, hlen, hel, _, _⟩
  · exact ⟨none, 0, [], rfl, Nat.le_refl _, ⟨rfl, by simp, fun hn => by simp at hn⟩, by simp⟩
  · have each : ∀ i : Fin len, ∃ p c, w.cells? base (a.add (i.1 * d.sz)) d.sz = some c ∧ d.K w p c ∧ good p := by
      intro i
      have h1 := hel i.1 i.2
      have hi : i.1 < elems.length := by rw [hlen]; exact i.2
      rw [hc, List.getElem?_eq_getElem hi, Option.bind_eq_some_iff] at h1
      obtain ⟨c, hcs, hy⟩ := h1
      obtain ⟨p, hp, hg⟩ := ho n c _ hy
      exact ⟨p, c, hcs, hp, hg⟩
    obtain ⟨f, hf⟩ := Classical.axiomOfChoice each
    have hL : ((List.finRange len).map f).length = len := by simp
    refine ⟨some a, cap, (List.finRange len).map f, by rw [hL], by rw [hL]; exact hl, ⟨by rw [hL], by rw [hL]; simp only [maxLen] at hm; omega, fun hn => ⟨a, rfl, fun j p hj => ?_⟩⟩, ?_⟩
    · have hjl : j < len := by
        have := (List.getElem?_eq_some_iff.1 hj).1
        rw [hL] at this; exact this
      obtain ⟨c, hcs, hp, hg⟩ := hf ⟨j, hjl⟩
      have he : p = f ⟨j, hjl⟩ := by
        have h2 := (List.getElem?_eq_some_iff.1 hj).2
        simp at h2
        exact h2.symm
      have hs := World.cells?_some hcs
      refine ⟨c, d.K_len hp, by rw [he]; exact hp, fun i u hu => ?_⟩
      have hic : i < d.sz := by have := (List.getElem?_eq_some_iff.1 hu).1; rw [d.K_len hp] at this; exact this
      have h3 := hs.2.2 i hic
      rw [add_add_plain] at h3
      rw [h3]; exact hu
    · intro x hx
      obtain ⟨i, _, rfl⟩ := List.mem_map.1 hx
      obtain ⟨c, _, _, hg⟩ := hf i
      exact hg
end
section
variable {H : Type} {enc : TypeId × Value → H} {w : World} {base : Nat} {spare : Nat → Bool} {held : Bool}
/-- A declaration: its kind and its length in their bounds. -/
theorem opens_48 : Opens enc Try.prog w base spare held k48 48 (fun x => (Lit.int .u8 x.f1).wf = true ∧ (Lit.int .i64 x.f2).wf = true) := by
  intro fuel cs x h
  obtain ⟨xs, n, _, _, hcs, hxs, hf⟩ := DataW.trod_struct Try.underlying48 h
  have hl : cs.length = 3 := by rw [hcs]; kernel_rfl
  obtain ⟨a, b, c, rfl⟩ : ∃ a b c, cs = [a, b, c] := by
    match cs, hl with
    | [a, b, c], _ => exact ⟨a, b, c, rfl⟩
  have hx3 : xs.length = 3 := hxs
  have h0 := hf 0 _ rfl
  have h1 := hf 1 _ rfl
  have h2 := hf 2 _ rfl
  rw [List.getElem?_eq_getElem (by omega)] at h0 h1 h2
  obtain ⟨s, hs, _, _⟩ := DataW.trod_string Try.underlying9 h0
  obtain ⟨k, hk, _, wk⟩ := DataW.trod_int Try.underlying5 h1
  obtain ⟨m, hm, _, wm⟩ := DataW.trod_int Try.underlying3 h2
  have e1 : Try.prog.cellsOf 9 = 1 := by kernel_rfl
  have e2 : Try.prog.cellsOf 5 = 1 := by kernel_rfl
  have e3 : Try.prog.cellsOf 3 = 1 := by kernel_rfl
  have hs' : [a] = [Value.string s] := by
    have : ([a, b, c].drop 0).take (Try.prog.cellsOf 9) = [Value.string s] := hs
    rw [e1] at this; simpa using this
  have hk' : [b] = [Value.int .u8 k] := by
    have : ([a, b, c].drop 1).take (Try.prog.cellsOf 5) = [Value.int .u8 k] := hk
    rw [e2] at this; simpa using this
  have hm' : [c] = [Value.int .i64 m] := by
    have : ([a, b, c].drop 2).take (Try.prog.cellsOf 3) = [Value.int .i64 m] := hm
    rw [e3] at this; simpa using this
  obtain rfl : a = .string s := by simpa using hs'
  obtain rfl : b = .int .u8 k := by simpa using hk'
  obtain rfl : c = .int .i64 m := by simpa using hm'
  exact ⟨⟨s, k, m⟩, k48_mk w ⟨s, k, m⟩, wk, wm⟩
/-- What a slice that a law is handed is. -/
theorem open_rowv {α : Type} {d : Kd α} {t e : TypeId} {good : α → Prop} {v : Value} {dd : DataW H} {p : List MemPlace} (ht : Try.prog.underlying t = some (.slice e)) (hc : Try.prog.cellsOf e = d.sz) (ho : Opens enc Try.prog w base spare held d e good)
    (hv : ∃ A len cap, v = .slice A len cap) (h : DataW.Trod enc Try.prog w base spare held t v dd p) : ∃ A cap, ∃ l : List α, v = .slice A l.length cap ∧ l.length ≤ cap ∧ d.C w A l.length l ∧ ∀ x ∈ l, good x := by
  obtain ⟨A0, len, cap0, rfl⟩ := hv
  obtain ⟨fuel, h⟩ := h
  obtain ⟨A, cap, l, hcs, h1, h2, h3⟩ := opens_row ht hc ho h
  refine ⟨A, cap, l, ?_, h1, h2, h3⟩
  simpa [Value.cells] using hcs
end
end Go.Proofs.Ytgcdeablfoomhaa.PAll
end
section
set_option linter.unusedVariables false
set_option linter.unusedSimpArgs false
namespace Go.Proofs.Ytgcdeablfoomhaa.PAll
open Go.RowKit Go.ChangeShapes Go.WideShapes Go.ChangeAt Go.Proofs.YtgcdeablfoomhaaW.PrintWords Go.Proofs.YtgcdeablfoomhaaW.PrintLast
variable {H : Type} {enc : TypeId × Value → H} {w : World} {base : Nat} {spare : Nat → Bool} {held : Bool}
set_option maxRecDepth 100000 in
theorem open_box {W : World} {r : Reach} {b0 : Nat} {v : Value} {dd : DataW H} {p : List MemPlace} (hval : Value.okWide Try.prog W r b0 24 v) (h : DataW.Trod enc Try.prog w base spare held 24 v dd p) :
    ∃ a0 a1 a2 : Int, v = .agg #[.int .i64 a0, .int .i64 a1, .int .i64 a2] ∧ (Lit.int .i64 a0).wf = true ∧ (Lit.int .i64 a1).wf = true ∧ (Lit.int .i64 a2).wf = true := by
  have hv : ∃ cs : Array Value, v = .agg cs ∧ cs.size = Try.prog.cellsOf 24 := by
    unfold Value.okWide at hval
    rw [Try.underlying24] at hval
    obtain ⟨cs, h1, h2, _⟩ := hval
    exact ⟨cs, h1, h2⟩
  obtain ⟨cs, rfl, hsz⟩ := hv
  obtain ⟨fuel, h⟩ := h
  have hcells : (Value.agg cs).cells.toList = cs.toList := rfl
  rw [hcells] at h
  obtain ⟨xs, n, _, _, hcs, hxs, hf⟩ := DataW.trod_struct Try.underlying24 h
  have e24 : Try.prog.cellsOf 24 = 3 := by kernel_rfl
  have hl : cs.toList.length = 3 := by rw [hcs, e24]
  obtain ⟨a, b, c, hcl⟩ : ∃ a b c, cs.toList = [a, b, c] := by
    match cs.toList, hl with
    | [a, b, c], _ => exact ⟨a, b, c, rfl⟩
  obtain rfl : cs = #[a, b, c] := by rw [← Array.toList_inj]; exact hcl
  have hx3 : xs.length = 3 := hxs
  have h0 := hf 0 _ rfl
  have h1 := hf 1 _ rfl
  have h2 := hf 2 _ rfl
  rw [List.getElem?_eq_getElem (by omega)] at h0 h1 h2
  have e3 : Try.prog.cellsOf 3 = 1 := by kernel_rfl
  obtain ⟨k0, hk0, _, w0⟩ := DataW.trod_int Try.underlying3 h0
  obtain ⟨k1, hk1, _, w1⟩ := DataW.trod_int Try.underlying3 h1
  obtain ⟨k2, hk2, _, w2⟩ := DataW.trod_int Try.underlying3 h2
  have hk0' : [a] = [Value.int .i64 k0] := by
    have : ([a, b, c].drop 0).take (Try.prog.cellsOf 3) = [Value.int .i64 k0] := hk0
    rw [e3] at this; simpa using this
  have hk1' : [b] = [Value.int .i64 k1] := by
    have : ([a, b, c].drop 1).take (Try.prog.cellsOf 3) = [Value.int .i64 k1] := hk1
    rw [e3] at this; simpa using this
  have hk2' : [c] = [Value.int .i64 k2] := by
    have : ([a, b, c].drop 2).take (Try.prog.cellsOf 3) = [Value.int .i64 k2] := hk2
    rw [e3] at this; simpa using this
  obtain rfl : a = .int .i64 k0 := by simpa using hk0'
  obtain rfl : b = .int .i64 k1 := by simpa using hk1'
  obtain rfl : c = .int .i64 k2 := by simpa using hk2'
  exact ⟨k0, k1, k2, rfl, w0, w1, w2⟩
theorem wf_u8 {a : Int} (h : (Lit.int .u8 a).wf = true) : 0 ≤ a ∧ a ≤ 255 := by
  have : IntKind.u8.min ≤ a ∧ a ≤ IntKind.u8.max := by simpa [Lit.wf] using h
  exact this
end Go.Proofs.Ytgcdeablfoomhaa.PAll
end
