/- Lemmas and walks of one claim, packed into one text by a program (wip/shake.py). -/
import Derived.ChangeArms
import Derived.DataElems
import Derived.OpenShut
import Derived.ProofKit
import Derived.WalkKit
import Derived.Test.YtgcdeablfoomhaaSt4
section
set_option linter.unusedVariables false
set_option linter.unusedSimpArgs false
namespace Go.Proofs.Ytgcdeablfoomhaa.PAll
open Go.RowKit Go.Proofs.YtgcdeablfoomhaaW.PrintWords Go.Proofs.YtgcdeablfoomhaaW.PrintLast Go.Proofs.YtgcdeablfoomhaaW.PrintMore
attribute [local go_sem] Oper.semAt_some min_two
/-- A region that does not panic. -/
def NP (Q : Exit → Act → World → Prop) : Exit → Act → World → Prop
  | .normal, a, w => Q .normal a w
  | _, _, _ => False
theorem wpIn_np {F : Fence} {n : Nat} {P : Program} {c : Code} {Q : Exit → Act → World → Prop} {a : Act} {w : World} (h : c.wpIn F n P (NP Q) a w) : c.wpIn F n P Q a w := by
  refine wpIn_mono h ?_
  intro e a w h
  cases e with
  | normal => exact h
  | _ => exact h.elim
theorem NP.normal {Q : Exit → Act → World → Prop} {a : Act} {w : World} (h : Q .normal a w) : NP Q .normal a w := h
/-- What EnumerateStops keeps over its first range. -/
structure StI (W : World) (Bl Bb Bk Bf : Nat) (b k : Array Value) (T : Nat → Prop) (pre : List (List (List Int))) (A : World) : Prop where
  o : OutT W T A
  g : RowI W Bl T (pre.map stO) A
  b : OwnB Bb (.cells b 24) T A
  k : OwnB Bk (.cells k 5) T A
  f : OwnB Bf (.cells #[nil3] 27) T A
theorem StI.abide (W : World) (Bl Bb Bk Bf : Nat) (b k : Array Value) : Abide (StI W Bl Bb Bk Bf b k) := fun T T' s A B h hs hg =>
  ⟨OutT.abide (β := Unit) W T T' () A B h.o hs hg, h.g.abide hs hg, OwnB.abide (β := Unit) Bb (fun _ => _) T T' () A B h.b hs hg, OwnB.abide (β := Unit) Bk (fun _ => _) T T' () A B h.k hs hg, OwnB.abide (β := Unit) Bf (fun _ => _) T T' () A B h.f hs hg⟩
theorem StI.put {W : World} {Bl Bb Bk Bf : Nat} {b k : Array Value} {T : Nat → Prop} {pre : List (List (List Int))} {A : World} (h : StI W Bl Bb Bk Bf b k T pre A) {l : Nat} {o : Obj} (o' : Obj) (hlN : W.heap.size ≤ l) (hl : A.heap[l]? = some o) (ho : o.isCells = false) : StI W Bl Bb Bk Bf b k T pre (A.putObj l o') :=
  ⟨h.o.put o' hlN, h.g.put o' hl ho, h.b.put o' hl ho, h.k.put o' hl ho, h.f.put o' hl ho⟩
/-- .. over its second: the first states' row grows, all the states' row is read. -/
structure StC (W : World) (N2 Bf Bl Bk D : Nat) (kk : Nat) (vA : Value) (L : List St) (T : Nat → Prop) (F : List St) (A : World) : Prop where
  o : OutT W T A
  f : ∃ v, OwnB Bf (.cells #[v] 27) T A ∧ Kd.R kS 35 A N2 (fun k => ¬ T k) v F
  l : OwnB Bl (.cells #[vA] 27) T A
  r : Kd.R kS 35 A W.heap.size (fun k => ¬ T k ∧ k < N2) vA L
  k : OwnB Bk (.cells #[.int .u8 (kk : Int)] 5) T A
  d : OwnB D (.deferred (some [])) T A
  s : N2 ≤ A.heap.size
theorem StC.abide (W : World) (N2 Bf Bl Bk D : Nat) (kk : Nat) (vA : Value) (L : List St) : Abide (StC W N2 Bf Bl Bk D kk vA L) := fun T T' s A B h hs hg => by
  obtain ⟨v, h1, h2⟩ := h.f
  exact ⟨OutT.abide (β := Unit) W T T' () A B h.o hs hg, ⟨v, OwnB.abide (β := Unit) Bf (fun _ => _) T T' () A B h1 hs hg, ownR_abide h2 hs hg⟩, OwnB.abide (β := Unit) Bl (fun _ => _) T T' () A B h.l hs hg, rowB_abide h.r hs hg, OwnB.abide (β := Unit) Bk (fun _ => _) T T' () A B h.k hs hg, OwnB.abide (β := Unit) D (fun _ => _) T T' () A B h.d hs hg, Nat.le_trans h.s hs.size⟩
theorem StC.put {W : World} {N2 Bf Bl Bk D : Nat} {kk : Nat} {vA : Value} {L : List St} {T : Nat → Prop} {F : List St} {A : World} (h : StC W N2 Bf Bl Bk D kk vA L T F A) {l : Nat} {o : Obj} (o' : Obj) (hlN : W.heap.size ≤ l) (hlD : D < l) (hl : A.heap[l]? = some o) (ho : o.isCells = false) : StC W N2 Bf Bl Bk D kk vA L T F (A.putObj l o') := by
  obtain ⟨v, h1, h2⟩ := h.f
  exact ⟨h.o.put o' hlN, ⟨v, h1.put o' hl ho, R_put h2 o' hl ho⟩, h.l.put o' hl ho, R_put h.r o' hl ho, h.k.put o' hl ho, ⟨h.d.1, (World.putObj_heap_other (by omega)).trans h.d.2⟩, by simpa using h.s⟩
def StJ (W : World) (N2 Bf Bl Bk D : Nat) (kk : Nat) (vA : Value) (L : List St) (T : Nat → Prop) (pre : List (List (List Int))) (A : World) : Prop := StC W N2 Bf Bl Bk D kk vA L T (pre.map stO) A ∧ pre.length ≤ kk
def StX (W : World) (N2 Bf Bl Bk D : Nat) (kk : Nat) (vA : Value) (L : List St) (c : Code) (T : Nat → Prop) (pre : List (List (List Int))) (A : World) : Prop := c = .exit 2 ∧ StC W N2 Bf Bl Bk D kk vA L T (pre.dropLast.map stO) A ∧ pre.dropLast.length = kk
theorem StJ.abide (W : World) (N2 Bf Bl Bk D : Nat) (kk : Nat) (vA : Value) (L : List St) : Abide (StJ W N2 Bf Bl Bk D kk vA L) := fun T T' s A B h hs hg => ⟨StC.abide W N2 Bf Bl Bk D kk vA L T T' _ A B h.1 hs hg, h.2⟩
theorem StX.abide (W : World) (N2 Bf Bl Bk D : Nat) (kk : Nat) (vA : Value) (L : List St) (c : Code) : Abide (StX W N2 Bf Bl Bk D kk vA L c) := fun T T' s A B h hs hg => ⟨h.1, StC.abide W N2 Bf Bl Bk D kk vA L T T' _ A B h.2.1 hs hg, h.2.2⟩
theorem StC.fin {W : World} {N2 Bf Bl Bk D z n : Nat} {kk : Nat} {v vA : Value} {L F : List St} {T : Nat → Prop} {A B C : World} (ho : OutT W T A) (hb : OwnB Bf (.cells #[v] 27) T A) (hrf : Kd.R kS 35 A N2 (fun k => ¬ T k ∧ (k < z ∨ n ≤ k)) v F) (hl : OwnB Bl (.cells #[vA] 27) T A)
    (hr : Kd.R kS 35 A W.heap.size (fun k => ¬ T k ∧ k < N2) vA L) (hk : OwnB Bk (.cells #[.int .u8 (kk : Int)] 5) T A) (hd : OwnB D (.deferred (some [])) T A) (hs : N2 ≤ A.heap.size) (hz : N2 ≤ z) (h1 : Bf < z) (h2 : Bl < z) (h3 : Bk < z) (h4 : D < z) (hW : W.heap.size ≤ z) (hbe : Below A.heap.size A B) (hx : XW z n B C) : StC W N2 Bf Bl Bk D kk vA L T F C := by
  have mv : ∀ {b : Nat} {o : Obj}, OwnB b o T A → b < z → OwnB b o T C := fun h hz => hx.own ⟨h.1, (hbe.block _ (Array.getElem?_eq_some_iff.1 h.2).1).trans h.2⟩ hz
  refine ⟨⟨ho.t, (ho.b.trans (hbe.mono ho.b.size)).trans (hx.below hW)⟩, ⟨v, mv hb h1, Kd.R_mono (Kd.R_step (Kd.R_below hrf hbe) (fun k hk _ => hx.block k (by have := hk.2; omega))) (fun k hk => hk.1)⟩, mv hl h2, Kd.R_step (Kd.R_below hr hbe) (fun k hk _ => hx.block k (by have := hk.2; omega)), mv hk h3, mv hd h4, ?_⟩
  rw [hx.size]
  exact Nat.le_trans hs hbe.size
theorem tab6_6 : rtab .any (opsOf Try.f6 6) = (true, [([], []), ([], []), ([1], [1]), ([2], [2]), ([0, 3, 2], [0, 3]), ([4, 4, 0, 1, 2, 3, 4], [4])]) := by kernel_rfl
theorem bits6_6 : waitsOk (true, [([], []), ([], []), ([1], [1]), ([2], [2]), ([0, 3, 2], [0, 3]), ([4, 4, 0, 1, 2, 3, 4], [4])]).2 [0, 0, 2, 6, 15, 31] = true := by decide +kernel
theorem tab6_10 : rtab .any (opsOf Try.f6 10) = (true, [([], []), ([], []), ([1], [1]), ([2], [2]), ([0, 3, 2], [0, 3]), ([4, 4, 0, 1, 2, 3, 4], [4])]) := by kernel_rfl
theorem bits6_10 : waitsOk (true, [([], []), ([], []), ([1], [1]), ([2], [2]), ([0, 3, 2], [0, 3]), ([4, 4, 0, 1, 2, 3, 4], [4])]).2 [0, 0, 2, 6, 15, 31] = true := by decide +kernel
theorem tab6_11 : rtab .any (opsOf Try.f6 11) = (true, [([], []), ([], []), ([1], [1]), ([0, 2], [0, 2]), ([], []), ([4], [4]), ([5], [5]), ([3, 6, 3], [3, 6]), ([7], [7]), ([], [])]) := by kernel_rfl
theorem bits6_11 : waitsOk (true, [([], []), ([], []), ([1], [1]), ([0, 2], [0, 2]), ([], []), ([4], [4]), ([5], [5]), ([3, 6, 3], [3, 6]), ([7], [7]), ([], [])]).2 [0, 0, 2, 7, 0, 16, 48, 127, 255, 0] = true := by decide +kernel
theorem tab6_25 : rtab .any (opsOf Try.f6 25) = (true, [([], []), ([], []), ([0, 1], [0, 1]), ([2], [2]), ([], []), ([], []), ([4, 5], [4, 5]), ([6], [6]), ([3, 7], [3, 7]), ([8], [8])]) := by kernel_rfl
theorem bits6_25 : waitsOk (true, [([], []), ([], []), ([0, 1], [0, 1]), ([2], [2]), ([], []), ([], []), ([4, 5], [4, 5]), ([6], [6]), ([3, 7], [3, 7]), ([8], [8])]).2 [0, 0, 3, 7, 0, 0, 48, 112, 255, 511] = true := by decide +kernel
set_option maxRecDepth 100000 in
set_option maxHeartbeats 8000000 in
theorem EnumerateStops_calls (vars : List S48) (A0 : Option Addr) (c0 : Nat) (bv bl bi k : Int) (W : World) (hr : Kd.C k48 W A0 vars.length vars) (hc0 : vars.length ≤ c0) (hv : 0 ≤ k ∧ k ≤ 255) :
    Calls Try.prog 6 #[.slice A0 vars.length c0, .agg #[.int .i64 bv, .int .i64 bl, .int .i64 bi], .int .u8 k] W fun e w' => e = .returned (.bool true) ∧ Below W.heap.size W w' := by
  have HR := Lib.hid hr
  clear hr
  obtain ⟨kk, rfl⟩ : ∃ kk : Nat, k = (kk : Int) := ⟨k.toNat, by omega⟩
  have HKB := Lib.hid (show kk ≤ 255 by omega)
  clear hv
  refine (callsIn_wide (n := 3)).1 ?_
  refine callsIn_of_wp_marks Try.func6 rfl trivial ?_ rfl
  simp only [Try.ntmps6, List.size_toArray, List.length_cons, List.length_nil, Nat.reduceAdd, Nat.reduceSub, Array.replicate_succ, Array.replicate_zero, List.push_toArray, List.append_toArray, List.nil_append, List.cons_append]
  gi_wp2_with (fail)
  obtain ⟨w1, hw1⟩ : ∃ w1, w1 = (W.alloc (.cells #[.int .i64 bv, .int .i64 bl, .int .i64 bi] 24)).alloc (.cells #[.int .u8 (kk : Int)] 5) := ⟨_, rfl⟩
  obtain ⟨h0, h1, hb, hsz⟩ := two_new W (.cells #[.int .i64 bv, .int .i64 bl, .int .i64 bi] 24) (.cells #[.int .u8 (kk : Int)] 5)
  rw [← hw1] at h0 h1 hb hsz ⊢
  obtain ⟨Bb, hBb⟩ : ∃ b, b = W.heap.size := ⟨_, rfl⟩
  obtain ⟨Bk, hBk⟩ : ∃ b, b = W.heap.size + 1 := ⟨_, rfl⟩
  rw [← hBb] at h0
  rw [← hBk] at h1
  rw [← hBk, ← hBb]
  have HBX := Lib.hid (And.intro hBb hBk)
  have HBW := Lib.hid hb
  have HSZ := Lib.hid hsz
  have hst : ∀ w', Below w1.heap.size w1 w' → w'.heap[Bb]? = some (.cells #[.int .i64 bv, .int .i64 bl, .int .i64 bi] 24) ∧ w'.heap[Bk]? = some (.cells #[.int .u8 (kk : Int)] 5) := fun w' h => ⟨(h.block _ (by omega)).trans h0, (h.block _ (by omega)).trans h1⟩
  have HST := Lib.hid hst
  have hce : ∀ w', Below w1.heap.size w1 w' → (w'.cell? ⟨Bb, 0, none⟩ = some (.int .i64 bv) ∧ w'.cell? ⟨Bb, 1, none⟩ = some (.int .i64 bl) ∧ w'.cell? ⟨Bb, 2, none⟩ = some (.int .i64 bi)) := fun w' h =>
    ⟨cell_of_heap (hst w' h).1 rfl, cell_of_heap (hst w' h).1 rfl, cell_of_heap (hst w' h).1 rfl⟩
  have HCE := Lib.hid hce
  have HRC := Lib.hid (Kd.C_below HR.out hb)
  clear h0 h1 hb hsz hBb hBk hst hce hw1
  refine ⟨trivial, (callsIn_wide.2 (awake_calls _)).mono ?_⟩
  rintro e w2 ⟨rfl, hb⟩
  have HB2 := Lib.hid hb
  clear hb
  obtain ⟨x0, x1, x2⟩ := HCE.out _ HB2.out
  gi_wp2_with (fail)
  obtain ⟨ks, hks⟩ := small_f vars bv bl bi
  have HKS := Lib.hid hks
  clear hks
  refine ⟨trivial, (callsIn_wide.2 (backsteplaw12_small.calls ks A0 c0 vars bv bl bi _ _ (Kd.C_below HRC.out HB2.out) hc0 HKS.out)).mono ?_⟩
  clear HKS x0 x1 x2
  rintro e w3 ⟨rfl, hb⟩
  have HB3 := Lib.hid (HB2.out.trans (hb.mono HB2.out.size))
  clear hb
  cases hsb : smallB vars bv bl bi with
  | false =>
    clear hsb
    gi_wp2_with (fail)
    refine ⟨trivial, (callsIn_wide.2 (awake_calls _)).mono ?_⟩
    rintro e w4 ⟨rfl, hb⟩
    have HB4 := Lib.hid (HB3.out.trans (hb.mono HB3.out.size))
    clear hb
    gi_wp2
    exact ⟨.bool true, by simp [results, Try.f6, go_sem], rfl, HBW.out.trans (HB4.out.mono HBW.out.size)⟩
  | true =>
      have HSB := Lib.hid hsb
      clear hsb
      obtain ⟨x0, x1, x2⟩ := HCE.out _ ((HB3.out.alloc HB3.out.size (.cells #[.slice none 0 0] 27)).alloc (by simp; exact Nat.le_succ_of_le HB3.out.size) (.cells #[.slice none 0 0] 27))
      gi_wp2_with (fail)
      clear x0 x1 x2
      obtain ⟨w5, hw5⟩ : ∃ w5, w5 = (w3.alloc (.cells #[.slice none 0 0] 27)).alloc (.cells #[.slice none 0 0] 27) := ⟨_, rfl⟩
      obtain ⟨h0, h1, hb, hsz⟩ := two_new w3 (.cells #[.slice none 0 0] 27) (.cells #[.slice none 0 0] 27)
      obtain ⟨Bf, hBf⟩ : ∃ b, b = w3.heap.size := ⟨_, rfl⟩
      obtain ⟨Bl, hBl⟩ : ∃ b, b = w3.heap.size + 1 := ⟨_, rfl⟩
      rw [← hw5] at h0 h1 hb hsz
      rw [← hw5, ← hBl, ← hBf]
      rw [← hBf] at h0
      rw [← hBl] at h1
      have HBF0 := Lib.hid h0
      have HBL0 := Lib.hid h1
      have HB5 := Lib.hid (HB3.out.trans (hb.mono HB3.out.size))
      have HBLN := Lib.hid (show w1.heap.size ≤ Bf ∧ Bl = Bf + 1 ∧ w1.heap.size ≤ Bl by have := HB3.out.size; omega)
      clear hw5 hBl hBf h0 h1 hb hsz
      refine ⟨trivial, (callsIn_wide.2 (all_calls _ _ _ _ _ _ _)).mono ?_⟩
      rintro e w6 ⟨Bv, Bq, rfl, cv0, q0, q1, q2, hb⟩
      have HB6 := Lib.hid (HB5.out.trans (hb.mono HB5.out.size))
      have HS := Lib.hid (seq_all vars bv bl bi _ _ Bv Bq w6 cv0 hc0 (Kd.C_below HRC.out HB6.out) q0 q1 q2)
      have HBL6 := Lib.hid (show w6.heap[Bl]? = some (.cells #[.slice none 0 0] 27 (0, 0)) from (hb.block _ (Array.getElem?_eq_some_iff.1 HBL0.out).1).trans HBL0.out)
      have HBF6 := Lib.hid (show w6.heap[Bf]? = some (.cells #[.slice none 0 0] 27 (0, 0)) from (hb.block _ (Array.getElem?_eq_some_iff.1 HBF0.out).1).trans HBF0.out)
      clear cv0 q0 q1 q2 hb
      gi_wp2_with (fail)
      have HSN : Hid (W.heap.size ≤ w6.heap.size) := Lib.hid (Nat.le_trans HBW.out.size HB6.out.size)
      have hlB : W.heap.size ≤ Bl := Nat.le_trans HBW.out.size HBLN.out.2.2
      have HLB := Lib.hid hlB
      clear hlB
      obtain ⟨hn6, hvB, hLn, _, _⟩ := small_valid HSB.out
      have HVB := Lib.hid (And.intro hn6 (And.intro hvB hLn))
      clear hn6 hvB hLn
      refine wpIn_fr ?_
      intro fr hfr
      refine wpIn_rangeFunc_A (gf := 31) (by rw [hfr]; rfl) (enters_of Try.func31 (by kernel_rfl) rfl) HS.out (Below.refl _ _) (fun _ _ => rfl)
        (Ax := AxS fun Bx y => { tmps := (fr.setIfInBounds 27 (.agg #[y.1, y.2, nil3])).setIfInBounds 9 (.pointer (some ⟨Bx, 0, none⟩)), defers := [] }) AxS_put
        (StI W Bl Bb Bk Bf #[.int .i64 bv, .int .i64 bl, .int .i64 bi] #[.int .u8 (kk : Int)]) (fun _ _ _ _ => False) (StI.abide W Bl Bb Bk Bf _ _) (fun _ _ _ _ _ _ h => h.elim) (fun T s A l o o' h hl ho hc => h.put o' (Nat.le_trans HSN.out hl) ho hc) (fun c T s A l o o' h hl ho hc => h.elim) ?h0 ?assign ?body ?done ?stop
      case h0 =>
        obtain ⟨e0, e1⟩ := HST.out _ HB6.out
        exact ⟨⟨fun _ h => h.elim, HBW.out.trans (HB6.out.mono HBW.out.size)⟩, ⟨nil3, ⟨not_false, HBL6.out⟩, Kd.R_nil _ _ _ _ _⟩, ⟨not_false, e0⟩, ⟨not_false, e1⟩, ⟨not_false, HBF6.out⟩⟩
      case assign =>
        rintro l z x y W1 K hG hz hK
        obtain ⟨A1, n1, c1, A2, n2, c2, rfl⟩ := GS_slices hG
        subst hfr
        simp only [encS, zip_one, List.setIfInBounds_toArray, List.set_cons_succ, List.set_cons_zero]
        gi_wp2
        exact hK _ _ (below_alloc (Below.refl _ _) _) ⟨W1.heap.size, hz, BoxA.new _ _ _ _, GS_below hG (below_alloc (Below.refl _ _) _), by simp only [List.setIfInBounds_toArray, List.set_cons_succ, List.set_cons_zero]⟩
      case body =>
        rintro l T pre x y a' Az A hpx hI hT hbz ⟨Bx, hBx, hbox, hG, rfl⟩
        have hxm : x ∈ allO vars bv bl bi := hpx.subset (by simp)
        have hpl : pre.length + 1 ≤ 500 := by have := hpx.length_le; rw [List.length_append, List.length_singleton] at this; have := HVB.out.2.2; omega
        have hxo := allO_ok HVB.out.2.1 hxm
        have hIA := StI.abide W Bl Bb Bk Bf _ _ T T pre Az A hI (StepT.of_below hbz) (Grows.refl _ _)
        have hTA : ∀ k, T k → k < A.heap.size := fun k hk => Nat.lt_of_lt_of_le (hT k hk) hbz.size
        obtain ⟨v1, hg1, hgR⟩ := hIA.g
        obtain ⟨y0, y1⟩ := y
        obtain ⟨hG1, hG2⟩ := hG
        dsimp only at hbox hG1 hG2
        obtain ⟨s0, hs0⟩ : ∃ s, s = x.dropLast := ⟨_, rfl⟩
        obtain ⟨s1, hs1⟩ : ∃ s, s = x.getLastD [] := ⟨_, rfl⟩
        have hst : stO x = (s0, s1, []) := by rw [hs0, hs1]; rfl
        rw [← hs0] at hG1
        rw [← hs1] at hG2
        have hle : s0.length ≤ 1000 ∧ (∀ z ∈ s0, z.length ≤ 1000) ∧ s1.length ≤ 1000 := by
          have hsp := st_split hxo.1
          rw [hst] at hsp
          refine ⟨?_, fun z hz => (hxo.2 z (by rw [hsp]; exact List.mem_append_left _ hz)).1, (hxo.2 s1 (by rw [hsp]; simp)).1⟩
          have h1 := hxo.1
          rw [hsp, List.length_append, List.length_singleton] at h1
          have := HVB.out.1
          dsimp only at h1
          omega
        obtain ⟨A1, c1, e1⟩ := Kd.R_slice hG1
        subst e1
        obtain ⟨A2, c2, e2⟩ := Kd.R_slice hG2
        subst e2
        obtain ⟨Ag, cg, e3⟩ := Kd.R_slice hgR
        subst e3
        have r1 := Kd.R_reads' hG1
        have r2 := Kd.R_reads' hG2
        have hsr : SR A A1 c1 s0 A2 c2 s1 none 0 [] := ⟨r1.2.2, r1.2.1, r2.2.2, r2.2.1, Kd.C_nil _ _, Nat.le_refl _⟩
        rw [List.length_map] at hg1 hgR
        have b0 := cell_of_heap (i := 0) hg1.2 rfl
        have b1 := hbox.c0
        have b2 := hbox.c1
        have b3 := hbox.c2
        have HIA := Lib.hid hIA
        have HTA := Lib.hid hTA
        have HGR := Lib.hid hgR
        have HSRA := Lib.hid hsr
        have HLE := Lib.hid hle
        have HP := Lib.hid hpl
        have HSTO := Lib.hid hst
        have HBL := HLB
        have HSD0 := Lib.hid (And.intro b0 (And.intro b1 (And.intro b2 b3)))
        clear hI hT hbz hbox hG1 hG2 hIA hTA hg1 hgR hs0 hs1 hst hBx hsr hle hpl hxo hxm hpx r1 r2
        subst hfr
        simp only [List.setIfInBounds_toArray, List.set_cons_succ, List.set_cons_zero]
        gi_wp2_with (fail)
        refine startR_ (n := 6) (S := fun w' => w'.cell? ⟨Bl, 0, none⟩ = some (.slice Ag pre.length cg) ∧ w'.cell? ⟨Bx, 0, none⟩ = some (.slice A1 s0.length c1) ∧ w'.cell? ⟨Bx, 1, none⟩ = some (.slice A2 s1.length c2) ∧ w'.cell? ⟨Bx, 2, none⟩ = some nil3) (ds := [4, 5]) #[false, false, false, false, false, false] (fun ⟨_, _, h⟩ => h) (by kernel_rfl) (by kernel_rfl) rfl rfl HSD0.out (fun hHeld => ?_); refine with_tabW tab6_6 bits6_6 (fun HT_ HW_ => ?_)
        obtain ⟨wd, hwd⟩ : ∃ wd, wd = A.drew := ⟨_, rfl⟩
        have hbd : Below A.heap.size A wd := by rw [hwd]; exact below_drew1 (Below.refl _ _)
        have hsd := HSD0.out
        have hid := StI.abide W Bl Bb Bk Bf _ _ T T pre A wd HIA.out (StepT.of_below hbd) (Grows.refl _ _)
        have htd : ∀ k, T k → k < wd.heap.size := fun k hk => Nat.lt_of_lt_of_le (HTA.out k hk) hbd.size
        have hrd := Kd.R_below HGR.out hbd
        have hsr := SR.below HSRA.out hbd
        rw [← hwd] at hHeld ⊢
        have hsb : ∀ w', Below wd.heap.size wd w' → w'.cell? ⟨Bl, 0, none⟩ = some (.slice Ag pre.length cg) ∧ w'.cell? ⟨Bx, 0, none⟩ = some (.slice A1 s0.length c1) ∧ w'.cell? ⟨Bx, 1, none⟩ = some (.slice A2 s1.length c2) ∧ w'.cell? ⟨Bx, 2, none⟩ = some nil3 := fun w' hb => ⟨hb.cell' hHeld.1, hb.cell' hHeld.2.1, hb.cell' hHeld.2.2.1, hb.cell' hHeld.2.2.2⟩
        have HSB := Lib.hid hsb
        have HSR := Lib.hid hsr
        have HID := Lib.hid hid
        have HTD := Lib.hid htd
        have HRW := Lib.hid hrd
        have HBD := Lib.hid hbd
        clear hwd hid htd hrd hsd hsb hsr hbd b0 b1 b2 b3
        refine take_ (i := 0) (N := some 28) (v := ?_) (a' := ?_) #[true, false, false, false, false, false] rfl rfl (take_ofW HT_.out HW_.out (by kernel_rfl)) (fun _ _ _ h => h) (Or.inl ⟨by rfl, ?_⟩) hHeld ?_ ?_
        rotate_left
        · rintro w' ⟨s0, s1, s2, s3⟩
          go_simp
          with_reducible rfl
        rotate_left
        · simp only [Act.put, List.setIfInBounds_toArray, List.set_cons_zero, List.set_cons_succ, i64_w, i32_w]
          rfl
        refine take_ (i := 1) (N := some 29) (v := ?_) (a' := ?_) #[true, true, false, false, false, false] rfl rfl (take_ofW HT_.out HW_.out (by kernel_rfl)) (fun _ _ _ h => h) (Or.inl ⟨by rfl, ?_⟩) hHeld ?_ ?_
        rotate_left
        · rintro w' ⟨s0, s1, s2, s3⟩
          go_simp
          with_reducible rfl
        rotate_left
        · simp only [Act.put, List.setIfInBounds_toArray, List.set_cons_zero, List.set_cons_succ, i64_w, i32_w]
          rfl
        refine one_ (i := 2) (N := some 30) #[true, true, true, false, false, false] rfl rfl (one_of HT_.out (by kernel_rfl)) (by decide) (fun K hK => ?_)
        refine goes_ Try.func22 (by kernel_rfl) rfl #[.agg #[.slice A1 s0.length c1, .slice A2 s1.length c2, .slice none 0 0]] (by rfl) rfl rfl (by first | rfl | simp [Act.eval]) ?_
        refine (clone_calls (s := (s0, s1, [])) HSR.out HLE.out.1 HLE.out.2.1 HLE.out.2.2 (Nat.zero_le _)).mono ?_
        rintro e w2 ⟨v0, v1, v2, rfl, hM, hb2⟩
        refine ⟨_, rfl, ?_⟩
        have HW2 := Lib.hid hb2
        have HM := Lib.hid hM
        clear hM hb2
        refine hK.out _ _ (HSB.out _ HW2.out) (fun hHeld => ?_)
        clear hK K
        refine norm_ (a' := ?_) ?_ ?_
        rotate_left
        · show Act.put _ (some 30) _ = _
          simp only [Act.put, List.setIfInBounds_toArray, List.set_cons_zero, List.set_cons_succ, i64_w, i32_w]
          rfl
        refine one_ (i := 3) (N := some 31) #[true, true, true, true, false, false] rfl rfl (one_of HT_.out (by kernel_rfl)) (by decide) (fun K hK => ?_)
        refine value_ (w1 := ?_) (v := ?_) (by rfl) rfl ?_ ?_
        rotate_left 2
        · go_simp
          constructor
          · rfl
          · rfl
        refine hK.out _ _ (let h := HSB.out _ HW2.out; ⟨al_c h.1 _, al_c h.2.1 _, al_c h.2.2.1 _, al_c h.2.2.2 _⟩) (fun hHeld => ?_)
        clear hK K
        refine norm_ (a' := ?_) ?_ ?_
        rotate_left
        · show Act.put _ (some 31) _ = _
          simp only [Act.put, List.setIfInBounds_toArray, List.set_cons_zero, List.set_cons_succ, i64_w, i32_w]
          rfl
        refine last_ (i := 4) (N := some 32) #[true, true, true, true, true, false] rfl rfl (one_of HT_.out (by kernel_rfl)) (by decide) (fun K hK => ?_)
        have hI2 := StI.abide W Bl Bb Bk Bf _ _ T T pre wd w2 HID.out (StepT.of_below HW2.out) (Grows.refl _ _)
        obtain ⟨vq, hg1, hgR⟩ := hI2.g
        have hgq := hHeld.1
        have hvq : vq = .slice Ag pre.length cg := by
          have h1 := al_c (cell_of_heap (i := 0) hg1.2 rfl) (.cells #[v0, v1, v2] 35)
          exact Option.some.inj (h1.symm.trans hgq)
        subst hvq
        have hT2 : ∀ k, T k → k < w2.heap.size := fun k hk => Nat.lt_of_lt_of_le (HTD.out k hk) HW2.out.size
        have hNd : W.heap.size ≤ wd.heap.size := HID.out.o.b.size
        have HT2 := Lib.hid hT2
        have HI2 := Lib.hid hI2
        have HGB := Lib.hid hg1
        have HRD := Lib.hid hgR
        have HND := Lib.hid hNd
        clear hgq hT2 hI2 hg1 hgR hNd
        refine Kd.R_append_step kS (w0 := W) W.heap.size (by rfl) (.tmp 28) (.tmp 31) 27 35 (.agg #[nil3, nil3, nil3]) 72 rfl Try.underlying27 info35 rfl (by decide) (by omega) (.slice Ag pre.length cg) (pre.map stO) (s0, s1, []) [v0, v1, v2] (fun k => ¬ T k) (fun k => wd.heap.size ≤ k) rfl rfl ((kS).M_lower HND.out HM.out)
          (fun k hk => ⟨fun ht => by have := HTD.out k ht; omega, fun e => by
            obtain ⟨inner, hown⟩ := Kd.R_own (show Kd.R kS 35 wd W.heap.size (fun k => ¬ T k) (.slice Ag pre.length cg) (pre.map stO) from HRW.out)
            have := own_lt hown k e.symm
            omega⟩) (fun k hk ht => by have := HT2.out k ht; omega) HRD.out HI2.out.o.b HI2.out.o.b.size (by have := HP.out; rw [List.length_map]; omega) ?_
        intro v4 w4 ho4 hb4 hg4 hat4
        have hap := own_app (d := kS) HBL.out HI2.out.o HT2.out HGB.out (by decide) HRD.out ho4 hb4 hg4
        obtain ⟨A4, c4, e4⟩ := Kd.R_slice ho4
        subst e4
        rw [List.length_append, List.length_map, List.length_singleton] at hap
        have hfr := hap.fr
        have hcc := hap.ce
        have HAP0 := Lib.hid hap
        clear ho4 hb4 hg4 hat4 hap
        refine hK.out _ _ ?_
        clear hK K
        refine norm_ (a' := ?_) ?_ ?_
        rotate_left
        · show Act.put _ (some 32) _ = _
          simp only [Act.put, List.setIfInBounds_toArray, List.set_cons_zero, List.set_cons_succ, i64_w, i32_w]
          rfl
        refine last_ (i := 5) (N := none) #[true, true, true, true, true, true] rfl rfl (one_of HT_.out (by kernel_rfl)) (by decide) (fun K hK => ?_)
        refine skip_ (w1 := ?_) (by rfl) rfl ?_ ?_
        rotate_left
        · go_simp
          rfl
        refine hK.out _ _ ?_
        clear hfr hcc
        obtain ⟨w5, hw5⟩ : ∃ w5, w5 = w4.setCell ⟨Bl, 0, none⟩ (.slice A4 (pre.length + 1) c4) := ⟨_, rfl⟩
        have hap := HAP0.out
        rw [← hw5] at hap
        rw [← hw5]
        have HAP := Lib.hid hap
        clear hap HAP0 hw5
        clear hK K
        refine done_ (done_of HT_.out (by kernel_rfl)) ?_
        have hap := HAP.out
        have hks := hap.ks
        have hko := hap.ot
        refine ⟨((kO_below HBD.out).trans (kO_below HW2.out)).trans hko, (KeepS.trans (kS_below HBD.out HTA.out) (kS_below HW2.out HTD.out)).trans hks, ⟨hap.o, ⟨_, hap.b, ?_⟩, hap.x _ _ _ ?_ (by decide) HI2.out.b, hap.x _ _ _ ?_ (by decide) HI2.out.k, hap.x _ _ _ ?_ (by decide) HI2.out.f⟩⟩
        · rw [List.map_append, List.map_singleton, HSTO.out]; exact hap.r
        · have := HBX.out.1; have := HBLN.out.1; have := HBLN.out.2.1; have := HSZ.out; omega
        · have := HBX.out.2; have := HBLN.out.1; have := HBLN.out.2.1; have := HSZ.out; omega
        · have := HBLN.out.2.1; omega
      case done =>
        rintro D T xs W2 hD rfl hI hK
        have hDl : D < W2.heap.size := (Array.getElem?_eq_some_iff.1 hK).1
        have hD1 : w1.heap.size ≤ D := Nat.le_trans HB6.out.size hD
        obtain ⟨vA, hg1, hgR⟩ := hI.g
        obtain ⟨L, hL⟩ : ∃ L, L = (allO vars bv bl bi).map stO := ⟨_, rfl⟩
        rw [← hL] at hgR
        have x0 := cell_of_heap (i := 0) hI.b.2 rfl
        have x1 := cell_of_heap (i := 1) hI.b.2 rfl
        have x2 := cell_of_heap (i := 2) hI.b.2 rfl
        have hrB : Kd.R kS 35 W2 W.heap.size (fun k => k < W2.heap.size) vA L := Kd.R_mono (Kd.R_bound hgR) (fun k hk => hk.2.2.1)
        have HRB := Lib.hid hrB
        have HL1 := Lib.hid hg1.2
        have HI := Lib.hid hI
        have HK := Lib.hid hK
        have HDL := Lib.hid (And.intro hDl hD1)
        have HL := Lib.hid hL
        clear hrB hg1 hgR hI hK hDl hD1 hD hL
        subst hfr
        gi_wp2_with (fail)
        clear x0 x1 x2
        refine ⟨trivial, (callsIn_wide.2 (all_calls _ _ _ _ _ _ _)).mono ?_⟩
        rintro e w4 ⟨Bv', Bq', rfl, cv0, q0, q1, q2, hb⟩
        have HB4 := Lib.hid hb
        have HW4 := Lib.hid (HI.out.o.b.trans (hb.mono HI.out.o.b.size))
        have HS2 := Lib.hid (seq_all vars bv bl bi _ _ Bv' Bq' w4 cv0 hc0 (Kd.C_below HR.out HW4.out) q0 q1 q2)
        clear cv0 q0 q1 q2 hb
        gi_wp2_with (fail)
        obtain ⟨N2, hN2⟩ : ∃ n, n = w4.heap.size := ⟨_, rfl⟩
        have hlt : ∀ {B : Nat} {o : Obj}, W2.heap[B]? = some o → B < N2 := fun h => by have := (Array.getElem?_eq_some_iff.1 h).1; have := HB4.out.size; omega
        have HN2 := Lib.hid (show N2 = w4.heap.size ∧ W.heap.size ≤ N2 ∧ D < N2 ∧ Bf < N2 ∧ Bl < N2 ∧ Bk < N2 ∧ W.heap.size ≤ Bf ∧ Bf ≠ Bl ∧ Bf ≠ Bk ∧ W.heap.size ≤ D from
          ⟨hN2, by rw [hN2]; exact HW4.out.size, hlt HK.out, hlt HI.out.f.2, hlt HL1.out, hlt HI.out.k.2, Nat.le_trans HBW.out.size HBLN.out.1, by have := HBLN.out.2.1; omega, by have := HBLN.out.1; have := HBX.out.2; have := HSZ.out; omega, Nat.le_trans HBW.out.size HDL.out.2⟩)
        have hC0 : StC W N2 Bf Bl Bk D kk vA L (fun _ => False) [] w4 := by
          have mv : ∀ {B : Nat} {o : Obj}, W2.heap[B]? = some o → OwnB B o (fun _ => False) w4 := fun h => ⟨not_false, (HB4.out.block _ (Array.getElem?_eq_some_iff.1 h).1).trans h⟩
          exact ⟨⟨fun _ h => h.elim, HW4.out⟩, ⟨nil3, mv HI.out.f.2, Kd.R_nil _ _ _ _ _⟩, mv HL1.out, Kd.R_mono (Kd.R_below HRB.out HB4.out) (fun k hk => ⟨not_false, by have := HB4.out.size; omega⟩), mv HI.out.k.2, mv HK.out, by rw [hN2]; exact Nat.le_refl _⟩
        have HC0 := Lib.hid hC0
        have HLL := Lib.hid (show L.length ≤ 500 by rw [HL.out, List.length_map]; exact HVB.out.2.2)
        clear hN2 hlt hC0
        refine wpIn_fr ?_
        intro fr2 hfr2
        refine wpIn_mono (Q := fun e a' w' => (e = .normal ∨ e = .exit 2) ∧ ∃ (D2 : Nat) (T : Nat → Prop) (F : List St), a' = { tmps := fr2, defers := { target := .collected D2, args := #[] } :: [{ target := .collected D, args := #[] }] } ∧ N2 ≤ D2 ∧ w'.heap[D2]? = some (.deferred (some [])) ∧ StC W N2 Bf Bl Bk D kk vA L T F w' ∧ F = L.take (min kk L.length)) ?rng ?tail
        case rng =>
          refine wpIn_rangeFunc_A (gf := 31) (by rw [hfr2]; rfl) (enters_of Try.func31 (by kernel_rfl) rfl) HS2.out (Below.refl _ _) (fun _ _ => rfl)
            (Ax := AxS fun Bx y => { tmps := (fr2.setIfInBounds 36 (.agg #[y.1, y.2, nil3])).setIfInBounds 10 (.pointer (some ⟨Bx, 0, none⟩)), defers := [] }) AxS_put
            (StJ W N2 Bf Bl Bk D kk vA L) (StX W N2 Bf Bl Bk D kk vA L) (StJ.abide W N2 Bf Bl Bk D kk vA L) (StX.abide W N2 Bf Bl Bk D kk vA L)
            (fun T s A l o o' h hl ho hc => ⟨h.1.put o' (by have := HN2.out.1; have := HN2.out.2.1; omega) (by have := HN2.out.1; have := HN2.out.2.2.1; omega) ho hc, h.2⟩)
            (fun c T s A l o o' h hl ho hc => ⟨h.1, h.2.1.put o' (by have := HN2.out.1; have := HN2.out.2.1; omega) (by have := HN2.out.1; have := HN2.out.2.2.1; omega) ho hc, h.2.2⟩) ?h0b ?assignb ?bodyb ?doneb ?stopb
          case h0b => exact ⟨HC0.out, Nat.zero_le _⟩
          case assignb =>
            rintro l z x y W1 K hG hz hK
            obtain ⟨A1, n1, c1, A2, n2, c2, rfl⟩ := GS_slices hG
            subst hfr2
            simp only [encS, zip_one, List.setIfInBounds_toArray, List.set_cons_succ, List.set_cons_zero]
            gi_wp2
            exact hK _ _ (below_alloc (Below.refl _ _) _) ⟨W1.heap.size, hz, BoxA.new _ _ _ _, GS_below hG (below_alloc (Below.refl _ _) _), by simp only [List.setIfInBounds_toArray, List.set_cons_succ, List.set_cons_zero]⟩
          case doneb =>
            rintro D2 T2 xs W4 hD2 rfl hI2 hK2
            refine ⟨.inl rfl, D2, T2, L, rfl, by rw [HN2.out.1]; exact hD2, hK2, ?_, ?_⟩
            · have h := hI2.1
              rw [← HL.out] at h
              exact h
            · have h := hI2.2
              have : L.length ≤ kk := by rw [HL.out, List.length_map]; exact h
              rw [Nat.min_eq_right this, List.take_length]
          case stopb =>
            rintro D2 c T2 pre W4 hD2 ⟨k', hk', rfl⟩ ⟨rfl, hX, hlen⟩ hK2
            refine wpIn_exit ⟨.inr rfl, D2, T2, _, rfl, by rw [HN2.out.1]; exact hD2, hK2, hX, ?_⟩
            rw [HL.out]
            exact take_drop_last stO _ _ _ hk' hlen
          case bodyb =>
            rintro l T pre x y a' Az A hpx hI hT hbz ⟨Bx, hBx, hbox, hG, rfl⟩
            have hxm : x ∈ allO vars bv bl bi := hpx.subset (by simp)
            have hpl : pre.length + 1 ≤ 500 := by have := hpx.length_le; rw [List.length_append, List.length_singleton] at this; have := HVB.out.2.2; omega
            have hxo := allO_ok HVB.out.2.1 hxm
            have hIA := StJ.abide W N2 Bf Bl Bk D kk vA L T T pre Az A hI (StepT.of_below hbz) (Grows.refl _ _)
            have hTA : ∀ k, T k → k < A.heap.size := fun k hk => Nat.lt_of_lt_of_le (hT k hk) hbz.size
            obtain ⟨v1z, hg1z, hgRz⟩ := hI.1.f
            have hg1 : OwnB Bf (.cells #[v1z] 27) T A := ⟨hg1z.1, (hbz.block _ (Array.getElem?_eq_some_iff.1 hg1z.2).1).trans hg1z.2⟩
            have hgR : Kd.R kS 35 A N2 (fun k => ¬ T k ∧ k < Az.heap.size) v1z (pre.map stO) := Kd.R_below (Kd.R_mono (Kd.R_bound hgRz) (fun k hk => ⟨hk.1, hk.2.2.1⟩)) hbz
            obtain ⟨y0, y1⟩ := y
            obtain ⟨hG1, hG2⟩ := hG
            dsimp only at hbox hG1 hG2
            obtain ⟨s0, hs0⟩ : ∃ s, s = x.dropLast := ⟨_, rfl⟩
            obtain ⟨s1, hs1⟩ : ∃ s, s = x.getLastD [] := ⟨_, rfl⟩
            have hst : stO x = (s0, s1, []) := by rw [hs0, hs1]; rfl
            rw [← hs0] at hG1
            rw [← hs1] at hG2
            have hle : s0.length ≤ 1000 ∧ (∀ z ∈ s0, z.length ≤ 1000) ∧ s1.length ≤ 1000 := by
              have hsp := st_split hxo.1
              rw [hst] at hsp
              refine ⟨?_, fun z hz => (hxo.2 z (by rw [hsp]; exact List.mem_append_left _ hz)).1, (hxo.2 s1 (by rw [hsp]; simp)).1⟩
              have h1 := hxo.1
              rw [hsp, List.length_append, List.length_singleton] at h1
              have := HVB.out.1
              dsimp only at h1
              omega
            obtain ⟨A1, c1, e1⟩ := Kd.R_slice hG1
            subst e1
            obtain ⟨A2, c2, e2⟩ := Kd.R_slice hG2
            subst e2
            obtain ⟨Ag, cg, e3⟩ := Kd.R_slice hgR
            subst e3
            have r1 := Kd.R_reads' hG1
            have r2 := Kd.R_reads' hG2
            have hsr : SR A A1 c1 s0 A2 c2 s1 none 0 [] := ⟨r1.2.2, r1.2.1, r2.2.2, r2.2.1, Kd.C_nil _ _, Nat.le_refl _⟩
            rw [List.length_map] at hg1 hgR
            have b0 := cell_of_heap (i := 0) hg1.2 rfl
            have k0 := cell_of_heap (i := 0) hIA.1.k.2 rfl
            have b1 := hbox.c0
            have b2 := hbox.c1
            have b3 := hbox.c2
            have hX1 : Kd.R (Kd.slice 3 (Kd.int .i64)) 33 A Az.heap.size (fun k => Az.heap.size ≤ k ∧ k < A.heap.size) (.slice A1 s0.length c1) s0 := Kd.R_mono (Kd.R_bound hG1) (fun k hk => ⟨hk.2.1, hk.2.2.1⟩)
            have hX2 : Kd.R (Kd.int .i64) 3 A Az.heap.size (fun k => Az.heap.size ≤ k ∧ k < A.heap.size) (.slice A2 s1.length c2) s1 := Kd.R_mono (Kd.R_bound hG2) (fun k hk => ⟨hk.2.1, hk.2.2.1⟩)
            have HX := Lib.hid (And.intro hX1 hX2)
            have HBXZ := Lib.hid (And.intro hBx (And.intro (Array.getElem?_eq_some_iff.1 hbox).1 hbz.size))
            have HBOX := Lib.hid hbox
            have HPK := Lib.hid hI.2
            have HTZ := Lib.hid hT
            have HIA := Lib.hid hIA
            have HTA := Lib.hid hTA
            have HG1 := Lib.hid hg1
            have HGR := Lib.hid hgR
            have HSRA := Lib.hid hsr
            have HLE := Lib.hid hle
            have HP := Lib.hid hpl
            have HSTO := Lib.hid hst
            have HZ := Lib.hid (show D < Az.heap.size ∧ Bf < Az.heap.size ∧ Bl < Az.heap.size ∧ Bk < Az.heap.size ∧ N2 ≤ Az.heap.size by have := hI.1.s; have := HN2.out; omega)
            clear hI hT hbz hbox hG1 hG2 hIA hTA hg1 hgR hs0 hs1 hst hBx hsr hle hpl hxo hxm hpx r1 r2 hX1 hX2 hg1z hgRz
            subst hfr2
            simp only [List.setIfInBounds_toArray, List.set_cons_succ, List.set_cons_zero]
            have hwk : wrap64 (kk : Int) = (kk : Int) := wrap64_of' (by omega) (by have := HKB.out; omega)
            by_cases hpk : pre.length = kk
            · have q1 : ((pre.length : Int) == (kk : Int)) = true := by rw [hpk]; simp
              have q2 : decide ((pre.length : Int) = (kk : Int)) = true := decide_eq_true (by omega)
              have q3 : (pre.length == kk) = true := by rw [hpk]; simp
              have q4 : decide (pre.length = kk) = true := decide_eq_true hpk
              gi_wp2_with (fail)
              exact ⟨kO_below (Below.refl _ _), kS_below (Below.refl _ _) HTA.out, rfl, by rw [List.dropLast_concat]; exact HIA.out.1, by rw [List.dropLast_concat]; exact hpk⟩
            · have q1 : ((pre.length : Int) == (kk : Int)) = false := beq_eq_false_iff_ne.mpr (by omega)
              have q2 : decide ((pre.length : Int) = (kk : Int)) = false := decide_eq_false (by omega)
              have q3 : (pre.length == kk) = false := beq_eq_false_iff_ne.mpr hpk
              have q4 : decide (pre.length = kk) = false := decide_eq_false hpk
              have HSD0 := Lib.hid (And.intro b0 (And.intro b1 (And.intro b2 b3)))
              gi_wp2_with (fail)
              refine startR_ (n := 6) (S := fun w' => w'.cell? ⟨Bf, 0, none⟩ = some (.slice Ag pre.length cg) ∧ w'.cell? ⟨Bx, 0, none⟩ = some (.slice A1 s0.length c1) ∧ w'.cell? ⟨Bx, 1, none⟩ = some (.slice A2 s1.length c2) ∧ w'.cell? ⟨Bx, 2, none⟩ = some nil3) (ds := [4, 5]) #[false, false, false, false, false, false] (fun ⟨_, _, h⟩ => h) (by kernel_rfl) (by kernel_rfl) rfl rfl HSD0.out (fun hHeld => ?_); refine with_tabW tab6_10 bits6_10 (fun HT_ HW_ => ?_)
              obtain ⟨wd, hwd⟩ : ∃ wd, wd = A.drew := ⟨_, rfl⟩
              have hbd : Below A.heap.size A wd := by rw [hwd]; exact below_drew1 (Below.refl _ _)
              have hsd := HSD0.out
              have hid := StJ.abide W N2 Bf Bl Bk D kk vA L T T pre A wd HIA.out (StepT.of_below hbd) (Grows.refl _ _)
              have htd : ∀ k, T k → k < wd.heap.size := fun k hk => Nat.lt_of_lt_of_le (HTA.out k hk) hbd.size
              have hrd := Kd.R_below HGR.out hbd
              have hsr := SR.below HSRA.out hbd
              rw [← hwd] at hHeld ⊢
              have hsb : ∀ w', Below wd.heap.size wd w' → w'.cell? ⟨Bf, 0, none⟩ = some (.slice Ag pre.length cg) ∧ w'.cell? ⟨Bx, 0, none⟩ = some (.slice A1 s0.length c1) ∧ w'.cell? ⟨Bx, 1, none⟩ = some (.slice A2 s1.length c2) ∧ w'.cell? ⟨Bx, 2, none⟩ = some nil3 := fun w' hb => ⟨hb.cell' hHeld.1, hb.cell' hHeld.2.1, hb.cell' hHeld.2.2.1, hb.cell' hHeld.2.2.2⟩
              have HSB := Lib.hid hsb
              have HSR := Lib.hid hsr
              have HID := Lib.hid hid
              have HTD := Lib.hid htd
              have HRW := Lib.hid hrd
              have HBD := Lib.hid hbd
              clear hwd hid htd hrd hsd hsb hsr hbd b0 b1 b2 b3 k0
              refine take_ (i := 0) (N := some 42) (v := ?_) (a' := ?_) #[true, false, false, false, false, false] rfl rfl (take_ofW HT_.out HW_.out (by kernel_rfl)) (fun _ _ _ h => h) (Or.inl ⟨by rfl, ?_⟩) hHeld ?_ ?_
              rotate_left
              · rintro w' ⟨s0, s1, s2, s3⟩
                go_simp
                with_reducible rfl
              rotate_left
              · simp only [Act.put, List.setIfInBounds_toArray, List.set_cons_zero, List.set_cons_succ, i64_w, i32_w]
                rfl
              refine take_ (i := 1) (N := some 43) (v := ?_) (a' := ?_) #[true, true, false, false, false, false] rfl rfl (take_ofW HT_.out HW_.out (by kernel_rfl)) (fun _ _ _ h => h) (Or.inl ⟨by rfl, ?_⟩) hHeld ?_ ?_
              rotate_left
              · rintro w' ⟨s0, s1, s2, s3⟩
                go_simp
                with_reducible rfl
              rotate_left
              · simp only [Act.put, List.setIfInBounds_toArray, List.set_cons_zero, List.set_cons_succ, i64_w, i32_w]
                rfl
              refine one_ (i := 2) (N := some 44) #[true, true, true, false, false, false] rfl rfl (one_of HT_.out (by kernel_rfl)) (by decide) (fun K hK => ?_)
              refine goes_ Try.func22 (by kernel_rfl) rfl #[.agg #[.slice A1 s0.length c1, .slice A2 s1.length c2, .slice none 0 0]] (by rfl) rfl rfl (by first | rfl | simp [Act.eval]) ?_
              refine (clone_calls (s := (s0, s1, [])) HSR.out HLE.out.1 HLE.out.2.1 HLE.out.2.2 (Nat.zero_le _)).mono ?_
              rintro e w2 ⟨v0, v1, v2, rfl, hM, hb2⟩
              refine ⟨_, rfl, ?_⟩
              have HW2 := Lib.hid hb2
              have HM := Lib.hid hM
              clear hM hb2
              refine hK.out _ _ (HSB.out _ HW2.out) (fun hHeld => ?_)
              clear hK K
              refine norm_ (a' := ?_) ?_ ?_
              rotate_left
              · show Act.put _ (some 44) _ = _
                simp only [Act.put, List.setIfInBounds_toArray, List.set_cons_zero, List.set_cons_succ, i64_w, i32_w]
                rfl
              refine one_ (i := 3) (N := some 45) #[true, true, true, true, false, false] rfl rfl (one_of HT_.out (by kernel_rfl)) (by decide) (fun K hK => ?_)
              refine value_ (w1 := ?_) (v := ?_) (by rfl) rfl ?_ ?_
              rotate_left 2
              · go_simp
                constructor
                · rfl
                · rfl
              refine hK.out _ _ (let h := HSB.out _ HW2.out; ⟨al_c h.1 _, al_c h.2.1 _, al_c h.2.2.1 _, al_c h.2.2.2 _⟩) (fun hHeld => ?_)
              clear hK K
              refine norm_ (a' := ?_) ?_ ?_
              rotate_left
              · show Act.put _ (some 45) _ = _
                simp only [Act.put, List.setIfInBounds_toArray, List.set_cons_zero, List.set_cons_succ, i64_w, i32_w]
                rfl
              refine last_ (i := 4) (N := some 46) #[true, true, true, true, true, false] rfl rfl (one_of HT_.out (by kernel_rfl)) (by decide) (fun K hK => ?_)
              have hI2 := StJ.abide W N2 Bf Bl Bk D kk vA L T T pre wd w2 HID.out (StepT.of_below HW2.out) (Grows.refl _ _)
              have hg1 : OwnB Bf (.cells #[.slice Ag pre.length cg] 27) T w2 := ⟨HG1.out.1, (HW2.out.block _ (Nat.lt_of_lt_of_le (Array.getElem?_eq_some_iff.1 HG1.out.2).1 HBD.out.size)).trans ((HBD.out.block _ (Array.getElem?_eq_some_iff.1 HG1.out.2).1).trans HG1.out.2)⟩
              have hgR : Kd.R kS 35 w2 N2 (fun k => ¬ T k ∧ k < Az.heap.size) (.slice Ag pre.length cg) (pre.map stO) := Kd.R_below HRW.out HW2.out
              have hT2 : ∀ k, T k → k < w2.heap.size := fun k hk => Nat.lt_of_lt_of_le (HTD.out k hk) HW2.out.size
              have hNd : N2 ≤ wd.heap.size := HID.out.1.s
              have HT2 := Lib.hid hT2
              have HI2 := Lib.hid hI2
              have HGB := Lib.hid hg1
              have HRD := Lib.hid hgR
              have HND := Lib.hid hNd
              clear hT2 hI2 hg1 hgR hNd
              refine Kd.R_append_step kS (w0 := w2) N2 (by rfl) (.tmp 42) (.tmp 45) 27 35 (.agg #[nil3, nil3, nil3]) 72 rfl Try.underlying27 info35 rfl (by decide) (by omega) (.slice Ag pre.length cg) (pre.map stO) (s0, s1, []) [v0, v1, v2] (fun k => ¬ T k ∧ (k < Az.heap.size ∨ A.heap.size ≤ k)) (fun k => wd.heap.size ≤ k) rfl rfl ((kS).M_lower HND.out HM.out)
                (fun k hk => ⟨⟨fun ht => by have := HTD.out k ht; omega, .inr (Nat.le_trans HBD.out.size hk)⟩, fun e => by
                  obtain ⟨inner, hown⟩ := Kd.R_own HRW.out
                  have := own_lt hown k e.symm
                  omega⟩) (fun k hk => ⟨fun ht => by have := HT2.out k ht; omega, .inr (Nat.le_trans HBD.out.size (Nat.le_trans HW2.out.size hk))⟩) (Kd.R_mono HRD.out (fun k hk => ⟨hk.1, .inl hk.2⟩)) (Below.refl _ _) (Nat.le_trans HND.out HW2.out.size) (by have := HP.out; rw [List.length_map]; omega) ?_
              intro v4 w4' ho4 hb4 hg4 hat4
              have hap := own_app_base (d := kS) HN2.out.2.2.2.2.2.2.1 HN2.out.2.1 HI2.out.1.o HT2.out HGB.out (by decide) (fun k hk => hk.1) (fun k hk => hk.1) HRD.out ho4 hb4 hg4
              obtain ⟨A4, c4, e4⟩ := Kd.R_slice ho4
              subst e4
              rw [List.length_append, List.length_map, List.length_singleton] at hap
              have hfr := hap.1.fr
              have hcc := hap.1.ce
              have HAP0 := Lib.hid hap
              have HGW := Lib.hid hg4
              clear ho4 hb4 hg4 hat4 hap
              refine hK.out _ _ ?_
              clear hK K
              refine norm_ (a' := ?_) ?_ ?_
              rotate_left
              · show Act.put _ (some 46) _ = _
                simp only [Act.put, List.setIfInBounds_toArray, List.set_cons_zero, List.set_cons_succ, i64_w, i32_w]
                rfl
              refine last_ (i := 5) (N := none) #[true, true, true, true, true, true] rfl rfl (one_of HT_.out (by kernel_rfl)) (by decide) (fun K hK => ?_)
              refine skip_ (w1 := ?_) (by rfl) rfl ?_ ?_
              rotate_left
              · go_simp
                rfl
              refine hK.out _ _ ?_
              clear hfr hcc
              obtain ⟨w5, hw5⟩ : ∃ w5, w5 = w4'.setCell ⟨Bf, 0, none⟩ (.slice A4 (pre.length + 1) c4) := ⟨_, rfl⟩
              have hap := HAP0.out
              rw [← hw5] at hap
              rw [← hw5]
              have HAP := Lib.hid hap
              have HW5 := Lib.hid hw5
              clear hap HAP0 hw5
              clear hK K
              refine done_ (done_of HT_.out (by kernel_rfl)) ?_
              obtain ⟨hap, hrf, hk1, hown⟩ := HAP.out
              have hr2 : Kd.R kS 35 w5 W.heap.size (fun k => ¬ T k ∧ k < N2) vA L := by
                rw [HW5.out]
                exact Kd.R_set (Kd.R_grown HI2.out.1.r HGW.out (fun k hk e => by have := hown k e.symm; omega)) hk1 (by decide) 0 _
              have hkx : ∀ b, Az.heap.size ≤ b → b < A.heap.size → w5.heap[b]? = A.heap[b]? := fun b h1 h2 => by
                have hz := HZ.out
                have hbd := HBD.out.size
                have hw2 := HW2.out.size
                rw [HW5.out]
                refine (heap_setCell_other w4' ⟨Bf, 0, none⟩ b _ (by show b ≠ Bf; omega)).trans ((HGW.out.block b (by omega) (fun e => ?_)).trans ((HW2.out.block b (by omega)).trans (HBD.out.block b h2)))
                have h3 := (HRW.out.1 b e.symm).2
                omega
              have hsz5 : A.heap.size ≤ w5.heap.size := Nat.le_trans HBD.out.size (Nat.le_trans HW2.out.size hap.ks.1)
              have hs5 : N2 ≤ w5.heap.size := by have := HZ.out; have := HBXZ.out; omega
              have hd5 : OwnB D (.deferred (some [])) T w5 := ⟨HI2.out.1.d.1, hap.ot.same D _ HI2.out.1.d.2 rfl⟩
              have hl5 := hap.x _ _ _ (fun e => HN2.out.2.2.2.2.2.2.2.1 e.symm) (by decide) HI2.out.1.l
              have hk5 := hap.x _ _ _ (fun e => HN2.out.2.2.2.2.2.2.2.2.1 e.symm) (by decide) HI2.out.1.k
              have hX1 := Kd.R_step HX.out.1 (w1 := w5) (fun k hk _ => hkx k hk.1 hk.2)
              have hX2 := Kd.R_step HX.out.2 (w1 := w5) (fun k hk _ => hkx k hk.1 hk.2)
              obtain ⟨hs, hhl, hch, hln⟩ := heads (Kd.R_reads' hX1).2.2
              have hir := heads_I hX1 hhl hch (fun k hk => hk.2)
              have hi1 := IRow.of_R hX2 (hi := A.heap.size) (fun k hk => hk.2)
              have hbx5 : BoxA w5 Bx (.slice A1 s0.length c1) (.slice A2 s1.length c2) nil3 := (hkx Bx HBXZ.out.1 HBXZ.out.2.1).trans HBOX.out
              have x0 := hbx5.c0
              have x1 := hbx5.c1
              have HSD1 := Lib.hid (And.intro x0 x1)
              have HCH0 := Lib.hid hch
              have HHL := Lib.hid hhl
              have HLEN := Lib.hid HLE.out.1
              have HIR := Lib.hid (show ∀ h ∈ hs ++ [((A2, s1.length, c2) : Hd)], IRow w5 Az.heap.size A.heap.size (hdV h) h.2.1 ∧ h.2.1 ≤ 1000 from fun h hh => by
                rcases List.mem_append.1 hh with hh | hh
                · refine ⟨hir h hh, ?_⟩
                  obtain ⟨i, hi, rfl⟩ := List.mem_iff_getElem.1 hh
                  rw [(hln i hi (by omega)).1]
                  exact HLE.out.2.1 _ (List.getElem_mem _)
                · rw [List.mem_singleton.1 hh]; exact ⟨hi1, HLE.out.2.2⟩)
              have HKA := Lib.hid (((kO_below HBD.out).trans (kO_below HW2.out)).trans hap.ot)
              have HKS := Lib.hid ((KeepS.trans (kS_below HBD.out HTA.out) (kS_below HW2.out HTD.out)).trans hap.ks)
              have HF5 := Lib.hid (And.intro hap.o (And.intro hap.b (And.intro hrf (And.intro hl5 (And.intro hr2 (And.intro hk5 (And.intro hd5 hs5)))))))
              have HSZ5 := Lib.hid hsz5
              clear hap hrf hk1 hown hr2 hkx hsz5 hs5 hd5 hl5 hk5 hX1 hX2 hhl hch hir hi1 hbx5 hln
              gi_wp2_with (fail)
              refine startR_ (n := 10) (S := fun w' => w'.cell? ⟨Bx, 0, none⟩ = some (.slice A1 s0.length c1) ∧ w'.cell? ⟨Bx, 1, none⟩ = some (.slice A2 s1.length c2)) (ds := []) #[false, false, false, false, false, false, false, false, false, false] (fun ⟨_, _, h⟩ => h) (by kernel_rfl) (by kernel_rfl) rfl rfl HSD1.out (fun hHeld => ?_); refine with_tabW tab6_11 bits6_11 (fun HT_ HW_ => ?_)
              obtain ⟨we, hwe⟩ : ∃ we, we = w5.drew := ⟨_, rfl⟩
              have hbe : Below w5.heap.size w5 we := by rw [hwe]; exact below_drew1 (Below.refl _ _)
              rw [← hwe] at hHeld ⊢
              have hsb : ∀ w', Below we.heap.size we w' → w'.cell? ⟨Bx, 0, none⟩ = some (.slice A1 s0.length c1) ∧ w'.cell? ⟨Bx, 1, none⟩ = some (.slice A2 s1.length c2) := fun w' hb => ⟨hb.cell' hHeld.1, hb.cell' hHeld.2⟩
              have HSB2 := Lib.hid hsb
              have HBE := Lib.hid hbe
              have HBwe := Lib.hid (Below.refl we.heap.size we)
              have HCH := Lib.hid (Kd.C_below HCH0.out hbe)
              clear hwe hsb hbe x0 x1
              refine pure_ (i := 1) (N := some 48) (v := ?_) (a' := ?_) #[false, true, false, false, false, false, false, false, false, false] rfl rfl (any_of HT_.out (by kernel_rfl)) (fun _ _ _ h => h) (Or.inl ⟨by rfl, ?_⟩) ?_ ?_
              rotate_left
              · intro w'
                go_simp
                with_reducible rfl
              rotate_left
              · simp only [Act.put, List.setIfInBounds_toArray, List.set_cons_zero, List.set_cons_succ, i64_w, i32_w]
                rfl
              refine take_ (i := 2) (N := some 49) (v := ?_) (a' := ?_) #[false, true, true, false, false, false, false, false, false, false] rfl rfl (take_ofW HT_.out HW_.out (by kernel_rfl)) (fun _ _ _ h => h) (Or.inl ⟨by rfl, ?_⟩) hHeld ?_ ?_
              rotate_left
              · rintro w' ⟨s0, s1⟩
                go_simp
                with_reducible rfl
              rotate_left
              · simp only [Act.put, List.setIfInBounds_toArray, List.set_cons_zero, List.set_cons_succ, i64_w, i32_w]
                rfl
              refine pure_ (i := 4) (N := some 51) (v := ?_) (a' := ?_) #[false, true, true, false, true, false, false, false, false, false] rfl rfl (any_of HT_.out (by kernel_rfl)) (fun _ _ _ h => h) (Or.inl ⟨by rfl, ?_⟩) ?_ ?_
              rotate_left
              · intro w'
                go_simp
                with_reducible rfl
              rotate_left
              · simp only [Act.put, List.setIfInBounds_toArray, List.set_cons_zero, List.set_cons_succ, i64_w, i32_w]
                rfl
              refine take_ (i := 5) (N := some 52) (v := ?_) (a' := ?_) #[false, true, true, false, true, true, false, false, false, false] rfl rfl (take_ofW HT_.out HW_.out (by kernel_rfl)) (fun _ _ _ h => h) (Or.inl ⟨by rfl, ?_⟩) hHeld ?_ ?_
              rotate_left
              · rintro w' ⟨s0, s1⟩
                go_simp
                with_reducible rfl
              rotate_left
              · simp only [Act.put, List.setIfInBounds_toArray, List.set_cons_zero, List.set_cons_succ, i64_w, i32_w]
                rfl
              refine pure_ (i := 9) (N := some 56) (v := ?_) (a' := ?_) #[false, true, true, false, true, true, false, false, false, true] rfl rfl (any_of HT_.out (by kernel_rfl)) (fun _ _ _ h => h) (Or.inl ⟨by rfl, ?_⟩) ?_ ?_
              rotate_left
              · intro w'
                go_simp
                with_reducible rfl
              rotate_left
              · simp only [Act.put, List.setIfInBounds_toArray, List.set_cons_zero, List.set_cons_succ, i64_w, i32_w]
                rfl
              refine join_ (σ := Nat × Value × Nat) 2 #[true, true, true, true, true, true, true, false, false, true] (fun s_ => [(47, .slice (some ⟨s_.1, 0, none⟩) 0 0), (50, s_.2.1), (53, .slice (some ⟨s_.2.2, 0, none⟩) 1 1)]) (fun s_ w' => Below we.heap.size we w' ∧ Kd.R kH 33 w' we.heap.size (fun _ => True) s_.2.1 hs ∧ w'.heap[s_.2.2]? = some (.cells #[.slice A2 s1.length c2] 33 (0, 0)) ∧ we.heap.size ≤ s_.2.2) ?_ ?_
              rotate_left
              · intro HCONT
                refine two_ (i := 0) (j := 6) (Ni := some 47) (Nj := some 53) #[true, true, true, false, true, true, false, false, false, true] #[false, true, true, false, true, true, true, false, false, true] rfl rfl rfl rfl (two_of HT_.out (by kernel_rfl)) (by decide) (by decide) (fun K hK => ?_) (fun K hK => ?_)
                · skip
                  refine value_ (w1 := ?_) (v := ?_) (by rfl) rfl ?_ ?_
                  rotate_left 2
                  · go_simp
                    constructor
                    · rfl
                    · rfl
                  obtain ⟨wa, hwa⟩ : ∃ w_, w_ = we.alloc (.cells #[] 33) := ⟨_, rfl⟩
                  obtain ⟨Gwa, hGwa⟩ : ∃ g_, g_ = we.heap.size := ⟨_, rfl⟩
                  have hbwa : Below we.heap.size we wa := by rw [hwa]; exact HBwe.out.alloc HBwe.out.size _
                  have hgwa : wa.heap[Gwa]? = some (.cells #[] 33 (0, 0)) := by rw [hwa, hGwa]; exact World.alloc_heap_new we _
                  have hswa : Below we.heap.size we wa := by rw [hwa]; exact below_alloc (Below.refl _ _) _
                  have hlwa : we.heap.size ≤ Gwa := by rw [hGwa]; exact HBwe.out.size
                  rw [← hwa, ← hGwa]
                  have HBwa := Lib.hid hbwa
                  have HSwa := Lib.hid hswa
                  have HGwa := Lib.hid hgwa
                  have HLwa := Lib.hid hlwa
                  clear hbwa hgwa hswa hlwa hwa
                  refine hK.out _ _ (HSB2.out _ HBwa.out) (fun hHeld => ?_)
                  clear hK K
                  refine norm_ (a' := ?_) ?_ ?_
                  rotate_left
                  · show Act.put _ (some 47) _ = _
                    simp only [Act.put, List.setIfInBounds_toArray, List.set_cons_zero, List.set_cons_succ, i64_w, i32_w]
                    rfl
                  refine two_ (i := 3) (j := 6) (Ni := some 50) (Nj := some 53) #[true, true, true, true, true, true, false, false, false, true] #[true, true, true, false, true, true, true, false, false, true] rfl rfl rfl rfl (two_of HT_.out (by kernel_rfl)) (by decide) (by decide) (fun K hK => ?_) (fun K hK => ?_)
                  · skip
                    refine Kd.R_append_rows_step kH (w0 := we) we.heap.size (by rfl) (.tmp 47) (.tmp 49) 32 33 nil3 24 rfl Try.underlying32 info33 rfl (by decide) (by omega) (.slice (some ⟨Gwa, 0, none⟩) 0 0) ([] : List Hd) hs A1 s0.length c1 (fun _ => True) (fun _ => False) rfl rfl (kH_nil HGwa.out HLwa.out) (Kd.C_below HCH.out HBwa.out) (fun _ _ h => h) (fun _ h => h.elim) (fun _ _ => trivial) HBwa.out HBwa.out.size (by have := HLEN.out; simp; omega) ?_
                    intro v50 wb ho hb hgr _
                    rw [List.nil_append] at ho
                    have HBwb := Lib.hid hb
                    have HOwb := Lib.hid ho
                    have HRwb := Lib.hid hgr
                    clear hb ho hgr
                    refine hK.out _ _ (HSB2.out _ HBwb.out) (fun hHeld => ?_)
                    clear hK K
                    refine norm_ (a' := ?_) ?_ ?_
                    rotate_left
                    · show Act.put _ (some 50) _ = _
                      simp only [Act.put, List.setIfInBounds_toArray, List.set_cons_zero, List.set_cons_succ, i64_w, i32_w]
                      rfl
                    refine one_ (i := 6) (N := some 53) #[true, true, true, true, true, true, true, false, false, true] rfl rfl (one_of HT_.out (by kernel_rfl)) (by decide) (fun K hK => ?_)
                    refine value_ (w1 := ?_) (v := ?_) (by rfl) rfl ?_ ?_
                    rotate_left 2
                    · go_simp
                      constructor
                      · rfl
                      · rfl
                    obtain ⟨wc, hwc⟩ : ∃ w_, w_ = wb.alloc (.cells #[.slice A2 s1.length c2] 33) := ⟨_, rfl⟩
                    obtain ⟨Gwc, hGwc⟩ : ∃ g_, g_ = wb.heap.size := ⟨_, rfl⟩
                    have hbwc : Below we.heap.size we wc := by rw [hwc]; exact HBwb.out.alloc HBwb.out.size _
                    have hgwc : wc.heap[Gwc]? = some (.cells #[.slice A2 s1.length c2] 33 (0, 0)) := by rw [hwc, hGwc]; exact World.alloc_heap_new wb _
                    have hswc : Below wb.heap.size wb wc := by rw [hwc]; exact below_alloc (Below.refl _ _) _
                    have hlwc : we.heap.size ≤ Gwc := by rw [hGwc]; exact HBwb.out.size
                    rw [← hwc, ← hGwc]
                    have HBwc := Lib.hid hbwc
                    have HSwc := Lib.hid hswc
                    have HGwc := Lib.hid hgwc
                    have HLwc := Lib.hid hlwc
                    clear hbwc hgwc hswc hlwc hwc
                    refine hK.out _ _ (HSB2.out _ HBwc.out) (fun hHeld => ?_)
                    clear hK K
                    refine norm_ (a' := ?_) ?_ ?_
                    rotate_left
                    · show Act.put _ (some 53) _ = _
                      simp only [Act.put, List.setIfInBounds_toArray, List.set_cons_zero, List.set_cons_succ, i64_w, i32_w]
                      rfl
                    have hc := HCONT (Gwa, v50, Gwc) _ ⟨HBwc.out, Kd.R_below HOwb.out HSwc.out, HGwc.out, HLwc.out⟩
                    simp only [putAll, Act.put, List.setIfInBounds_toArray, List.set_cons_zero, List.set_cons_succ] at hc
                    exact hc
                  · skip
                    refine value_ (w1 := ?_) (v := ?_) (by rfl) rfl ?_ ?_
                    rotate_left 2
                    · go_simp
                      constructor
                      · rfl
                      · rfl
                    obtain ⟨wb, hwb⟩ : ∃ w_, w_ = wa.alloc (.cells #[.slice A2 s1.length c2] 33) := ⟨_, rfl⟩
                    obtain ⟨Gwb, hGwb⟩ : ∃ g_, g_ = wa.heap.size := ⟨_, rfl⟩
                    have hbwb : Below we.heap.size we wb := by rw [hwb]; exact HBwa.out.alloc HBwa.out.size _
                    have hgwb : wb.heap[Gwb]? = some (.cells #[.slice A2 s1.length c2] 33 (0, 0)) := by rw [hwb, hGwb]; exact World.alloc_heap_new wa _
                    have hswb : Below wa.heap.size wa wb := by rw [hwb]; exact below_alloc (Below.refl _ _) _
                    have hlwb : we.heap.size ≤ Gwb := by rw [hGwb]; exact HBwa.out.size
                    rw [← hwb, ← hGwb]
                    have HBwb := Lib.hid hbwb
                    have HSwb := Lib.hid hswb
                    have HGwb := Lib.hid hgwb
                    have HLwb := Lib.hid hlwb
                    clear hbwb hgwb hswb hlwb hwb
                    refine hK.out _ _ (HSB2.out _ HBwb.out) (fun hHeld => ?_)
                    clear hK K
                    refine norm_ (a' := ?_) ?_ ?_
                    rotate_left
                    · show Act.put _ (some 53) _ = _
                      simp only [Act.put, List.setIfInBounds_toArray, List.set_cons_zero, List.set_cons_succ, i64_w, i32_w]
                      rfl
                    refine one_ (i := 3) (N := some 50) #[true, true, true, true, true, true, true, false, false, true] rfl rfl (one_of HT_.out (by kernel_rfl)) (by decide) (fun K hK => ?_)
                    refine Kd.R_append_rows_step kH (w0 := we) we.heap.size (by rfl) (.tmp 47) (.tmp 49) 32 33 nil3 24 rfl Try.underlying32 info33 rfl (by decide) (by omega) (.slice (some ⟨Gwa, 0, none⟩) 0 0) ([] : List Hd) hs A1 s0.length c1 (fun _ => True) (fun _ => False) rfl rfl (kH_nil ((HSwb.out.block _ (Array.getElem?_eq_some_iff.1 HGwa.out).1).trans HGwa.out) HLwa.out) (Kd.C_below HCH.out HBwb.out) (fun _ _ h => h) (fun _ h => h.elim) (fun _ _ => trivial) HBwb.out HBwb.out.size (by have := HLEN.out; simp; omega) ?_
                    intro v50 wc ho hb hgr _
                    rw [List.nil_append] at ho
                    have HBwc := Lib.hid hb
                    have HOwc := Lib.hid ho
                    have HRwc := Lib.hid hgr
                    clear hb ho hgr
                    refine hK.out _ _ (HSB2.out _ HBwc.out) (fun hHeld => ?_)
                    clear hK K
                    refine norm_ (a' := ?_) ?_ ?_
                    rotate_left
                    · show Act.put _ (some 50) _ = _
                      simp only [Act.put, List.setIfInBounds_toArray, List.set_cons_zero, List.set_cons_succ, i64_w, i32_w]
                      rfl
                    have hg53 : wc.heap[Gwb]? = some (.cells #[.slice A2 s1.length c2] 33 (0, 0)) := (HRwc.out.block _ (Array.getElem?_eq_some_iff.1 HGwb.out).1 (by simp [Value.ownBlock]; have := (Array.getElem?_eq_some_iff.1 HGwa.out).1; omega)).trans HGwb.out
                    have hc := HCONT (Gwa, v50, Gwb) _ ⟨HBwc.out, HOwc.out, hg53, HLwb.out⟩
                    simp only [putAll, Act.put, List.setIfInBounds_toArray, List.set_cons_zero, List.set_cons_succ] at hc
                    exact hc
                · skip
                  refine value_ (w1 := ?_) (v := ?_) (by rfl) rfl ?_ ?_
                  rotate_left 2
                  · go_simp
                    constructor
                    · rfl
                    · rfl
                  obtain ⟨wa, hwa⟩ : ∃ w_, w_ = we.alloc (.cells #[.slice A2 s1.length c2] 33) := ⟨_, rfl⟩
                  obtain ⟨Gwa, hGwa⟩ : ∃ g_, g_ = we.heap.size := ⟨_, rfl⟩
                  have hbwa : Below we.heap.size we wa := by rw [hwa]; exact HBwe.out.alloc HBwe.out.size _
                  have hgwa : wa.heap[Gwa]? = some (.cells #[.slice A2 s1.length c2] 33 (0, 0)) := by rw [hwa, hGwa]; exact World.alloc_heap_new we _
                  have hswa : Below we.heap.size we wa := by rw [hwa]; exact below_alloc (Below.refl _ _) _
                  have hlwa : we.heap.size ≤ Gwa := by rw [hGwa]; exact HBwe.out.size
                  rw [← hwa, ← hGwa]
                  have HBwa := Lib.hid hbwa
                  have HSwa := Lib.hid hswa
                  have HGwa := Lib.hid hgwa
                  have HLwa := Lib.hid hlwa
                  clear hbwa hgwa hswa hlwa hwa
                  refine hK.out _ _ (HSB2.out _ HBwa.out) (fun hHeld => ?_)
                  clear hK K
                  refine norm_ (a' := ?_) ?_ ?_
                  rotate_left
                  · show Act.put _ (some 53) _ = _
                    simp only [Act.put, List.setIfInBounds_toArray, List.set_cons_zero, List.set_cons_succ, i64_w, i32_w]
                    rfl
                  refine one_ (i := 0) (N := some 47) #[true, true, true, false, true, true, true, false, false, true] rfl rfl (one_of HT_.out (by kernel_rfl)) (by decide) (fun K hK => ?_)
                  refine value_ (w1 := ?_) (v := ?_) (by rfl) rfl ?_ ?_
                  rotate_left 2
                  · go_simp
                    constructor
                    · rfl
                    · rfl
                  obtain ⟨wb, hwb⟩ : ∃ w_, w_ = wa.alloc (.cells #[] 33) := ⟨_, rfl⟩
                  obtain ⟨Gwb, hGwb⟩ : ∃ g_, g_ = wa.heap.size := ⟨_, rfl⟩
                  have hbwb : Below we.heap.size we wb := by rw [hwb]; exact HBwa.out.alloc HBwa.out.size _
                  have hgwb : wb.heap[Gwb]? = some (.cells #[] 33 (0, 0)) := by rw [hwb, hGwb]; exact World.alloc_heap_new wa _
                  have hswb : Below wa.heap.size wa wb := by rw [hwb]; exact below_alloc (Below.refl _ _) _
                  have hlwb : we.heap.size ≤ Gwb := by rw [hGwb]; exact HBwa.out.size
                  rw [← hwb, ← hGwb]
                  have HBwb := Lib.hid hbwb
                  have HSwb := Lib.hid hswb
                  have HGwb := Lib.hid hgwb
                  have HLwb := Lib.hid hlwb
                  clear hbwb hgwb hswb hlwb hwb
                  refine hK.out _ _ (HSB2.out _ HBwb.out) (fun hHeld => ?_)
                  clear hK K
                  refine norm_ (a' := ?_) ?_ ?_
                  rotate_left
                  · show Act.put _ (some 47) _ = _
                    simp only [Act.put, List.setIfInBounds_toArray, List.set_cons_zero, List.set_cons_succ, i64_w, i32_w]
                    rfl
                  refine one_ (i := 3) (N := some 50) #[true, true, true, true, true, true, true, false, false, true] rfl rfl (one_of HT_.out (by kernel_rfl)) (by decide) (fun K hK => ?_)
                  refine Kd.R_append_rows_step kH (w0 := we) we.heap.size (by rfl) (.tmp 47) (.tmp 49) 32 33 nil3 24 rfl Try.underlying32 info33 rfl (by decide) (by omega) (.slice (some ⟨Gwb, 0, none⟩) 0 0) ([] : List Hd) hs A1 s0.length c1 (fun _ => True) (fun _ => False) rfl rfl (kH_nil HGwb.out HLwb.out) (Kd.C_below HCH.out HBwb.out) (fun _ _ h => h) (fun _ h => h.elim) (fun _ _ => trivial) HBwb.out HBwb.out.size (by have := HLEN.out; simp; omega) ?_
                  intro v50 wc ho hb hgr _
                  rw [List.nil_append] at ho
                  have HBwc := Lib.hid hb
                  have HOwc := Lib.hid ho
                  have HRwc := Lib.hid hgr
                  clear hb ho hgr
                  refine hK.out _ _ (HSB2.out _ HBwc.out) (fun hHeld => ?_)
                  clear hK K
                  refine norm_ (a' := ?_) ?_ ?_
                  rotate_left
                  · show Act.put _ (some 50) _ = _
                    simp only [Act.put, List.setIfInBounds_toArray, List.set_cons_zero, List.set_cons_succ, i64_w, i32_w]
                    rfl
                  have hg53 : wc.heap[Gwa]? = some (.cells #[.slice A2 s1.length c2] 33 (0, 0)) := (HRwc.out.block _ (by have := (Array.getElem?_eq_some_iff.1 HGwa.out).1; have := HSwb.out.size; omega) (by simp [Value.ownBlock]; have := (Array.getElem?_eq_some_iff.1 HGwa.out).1; omega)).trans ((HSwb.out.block _ (Array.getElem?_eq_some_iff.1 HGwa.out).1).trans HGwa.out)
                  have hc := HCONT (Gwb, v50, Gwa) _ ⟨HBwc.out, HOwc.out, hg53, HLwa.out⟩
                  simp only [putAll, Act.put, List.setIfInBounds_toArray, List.set_cons_zero, List.set_cons_succ] at hc
                  exact hc
              rintro ⟨g47, v50, g53⟩ wz ⟨hbz, hRz, hgz, hlz⟩
              dsimp only at hRz hgz hlz
              have HBz := Lib.hid hbz
              have HRz := Lib.hid hRz
              have HGz := Lib.hid hgz
              clear hbz hRz hgz hlz
              have hHeld := HSB2.out _ HBz.out
              refine norm_ (a' := ?_) ?_ ?_
              rotate_left
              · simp only [putAll, Act.put, List.setIfInBounds_toArray, List.set_cons_zero, List.set_cons_succ]
                rfl
              refine one_ (i := 7) (N := some 54) #[true, true, true, true, true, true, true, true, false, true] rfl rfl (one_of HT_.out (by kernel_rfl)) (by decide) (fun K hK => ?_)
              refine Kd.R_append_rows_step kH (w0 := we) we.heap.size (by rfl) (.tmp 50) (.tmp 53) 32 33 nil3 24 rfl Try.underlying32 info33 rfl (by decide) (by omega) v50 hs [((A2, s1.length, c2) : Hd)] (some ⟨g53, 0, none⟩) 1 1 (fun _ => True) (fun _ => False) rfl rfl HRz.out (kH_one (h := (A2, s1.length, c2)) HGz.out) (fun _ _ h => h) (fun _ h => h.elim) (fun _ _ => trivial) HBz.out HBz.out.size (by have := HLEN.out; have := HHL.out; omega) ?_
              intro v54 wy ho hb hgr _
              obtain ⟨H, hH⟩ : ∃ H : List Hd, H = hs ++ [((A2, s1.length, c2) : Hd)] := ⟨_, rfl⟩
              rw [← hH] at ho
              obtain ⟨A54, c54, e54⟩ := Kd.R_slice ho
              subst e54
              have HBy := Lib.hid hb
              have HRY := Lib.hid ho
              have HH := Lib.hid hH
              clear hb ho hgr hH
              refine hK.out _ _ (HSB2.out _ HBy.out) (fun hHeld => ?_)
              clear hK K
              refine norm_ (a' := ?_) ?_ ?_
              rotate_left
              · show Act.put _ (some 54) _ = _
                simp only [Act.put, List.setIfInBounds_toArray, List.set_cons_zero, List.set_cons_succ, i64_w, i32_w]
                rfl
              refine pure_ (i := 8) (N := some 55) (v := ?_) (a' := ?_) #[true, true, true, true, true, true, true, true, true, true] rfl rfl (any_of HT_.out (by kernel_rfl)) (fun _ _ _ h => h) (Or.inl ⟨by rfl, ?_⟩) ?_ ?_
              rotate_left
              · intro w'
                go_simp
                with_reducible rfl
              rotate_left
              · simp only [Act.put, List.setIfInBounds_toArray, List.set_cons_zero, List.set_cons_succ, i64_w, i32_w]
                rfl
              refine done_ (done_of HT_.out (by kernel_rfl)) ?_
              have hxw : XW Az.heap.size A.heap.size wy wy ∧ ∀ h ∈ H, IRow wy Az.heap.size A.heap.size (hdV h) h.2.1 ∧ h.2.1 ≤ 1000 := ⟨XW.refl _ _ _, fun h hh => by
                have h1 := HIR.out h (by rw [← HH.out]; exact hh)
                refine ⟨h1.1.move (fun b _ hb2 => ?_), h1.2⟩
                have := HSZ5.out
                have := HBE.out.size
                exact (HBy.out.block b (by omega)).trans (HBE.out.block b (by omega))⟩
              have HXW := Lib.hid hxw
              have HHN := Lib.hid (show H.length ≤ 1001 by rw [HH.out, List.length_append, List.length_singleton, HHL.out]; have := HLEN.out; omega)
              clear hxw
              gi_wp2_with (fail)
              gi_loopg [56] H.length (fun kq v56 wr => ∃ i : Nat, kq + i = H.length ∧ v56 = .int .i64 i ∧ Aside0 (XW Az.heap.size A.heap.size wy wr ∧ ∀ h ∈ H, IRow wr Az.heap.size A.heap.size (hdV h) h.2.1 ∧ h.2.1 ≤ 1000))
              case atStart => exact ⟨0, rfl, rfl, ⟨HXW.out⟩⟩
              case round =>
                clear HXW
                obtain ⟨i, hik, rfl, HG⟩ := hrel
                by_cases hi : i < H.length
                · have hi1 : decide ((i : Int) < (H.length : Int)) = true := decide_eq_true (by omega)
                  have hi2 : decide (i < H.length) = true := decide_eq_true hi
                  have hrow := (Kd.R_reads' (XW.row HG.out.1 HRY.out (Nat.le_trans HSZ5.out HBE.out.size))).2.2
                  obtain ⟨ad, rfl, hc⟩ := at_H hrow (i : Int) (by omega) (by omega)
                  have hmem : rd_H H (i : Int) ∈ H := by
                    have e : rd_H H (i : Int) = H[i] := by unfold rd_H; simp [hi]
                    rw [e]; exact List.getElem_mem hi
                  have hir := HG.out.2 _ hmem
                  obtain ⟨⟨Ah, nh, ch⟩, hh⟩ : ∃ y, y = rd_H H (i : Int) := ⟨_, rfl⟩
                  rw [← hh] at hc hir hmem
                  rw [Int.toNat_natCast] at hc
                  have hc' : wr.cell? (ad.add i) = some (.slice Ah nh ch) := hc
                  have hnh : nh ≤ 1000 := hir.2
                  have p1 : (0 ≤ (i : Int)) = True := eq_true (by omega)
                  have p2 : ((i : Int) < (H.length : Int)) = True := eq_true (by omega)
                  have p3 : (i < H.length) = True := eq_true hi
                  have HMEM := Lib.hid hmem
                  clear hrow hc hir hh hmem
                  gi_wp2_with (fail)
                  gi_loopg [62] nh (fun kq v62 wq => ∃ j : Nat, kq + j = nh ∧ v62 = .int .i64 j ∧ Aside0 (XW Az.heap.size A.heap.size wy wq ∧ ∀ h ∈ H, IRow wq Az.heap.size A.heap.size (hdV h) h.2.1 ∧ h.2.1 ≤ 1000))
                  case atStart => exact ⟨0, rfl, rfl, ⟨HG.out⟩⟩
                  case round =>
                    clear HG hc'
                    obtain ⟨j, hjk, rfl, HG⟩ := hrel
                    by_cases hj : j < nh
                    · have hj1 : decide ((j : Int) < (nh : Int)) = true := decide_eq_true (by omega)
                      have hj2 : decide (j < nh) = true := decide_eq_true hj
                      obtain ⟨ad2, c3, xo, hw, hx, hfx, hlo, hhi, hsp, hty⟩ := (HG.out.2 _ HMEM.out).1.cell (j : Int) (by omega) (by show (j : Int) < ((nh : Nat) : Int); omega)
                      have hw' : Value.slice Ah nh ch = .slice (some ad2) nh c3 := hw
                      injection hw' with hw1 hw2 hw3
                      subst hw1
                      clear hw2 hw3 hw
                      have p4 : (0 ≤ (j : Int)) = True := eq_true (by omega)
                      have p5 : ((j : Int) < (nh : Int)) = True := eq_true (by omega)
                      have p6 : (j < nh) = True := eq_true hj
                      simp only [Int.toNat_natCast] at hx hfx hlo hhi hsp hty
                      have HLO := Lib.hid (And.intro hlo (And.intro hhi hsp))
                      clear hlo hhi hsp hty
                      gi_wp2_with (fail)
                      gi_roundg (nh - (j + 1))
                      case measure => omega
                      case rel => exact ⟨j + 1, by omega, by go_num, ⟨HG.out.1.set HLO.out.1 HLO.out.2.1 _, fun h hh => ⟨(HG.out.2 h hh).1.store _ HLO.out.2.2 _, (HG.out.2 h hh).2⟩⟩⟩
                    · have hj1 : decide ((j : Int) < (nh : Int)) = false := decide_eq_false (by omega)
                      have hj2 : decide (j < nh) = false := decide_eq_false hj
                      gi_wp2_with (fail)
                      gi_roundg (H.length - (i + 1))
                      case measure => omega
                      case rel => exact ⟨i + 1, by omega, by rw [wrap64_of' (n := (i : Int) + 1) (by omega) (by have := HHN.out; omega)]; rfl, ⟨HG.out⟩⟩
                · have hi1 : decide ((i : Int) < (H.length : Int)) = false := decide_eq_false (by omega)
                  have hi2 : decide (i < H.length) = false := decide_eq_false hi
                  gi_wp2_with (fail)
                  obtain ⟨ho, hb, hrf, hl5, hr2, hk5, hd5, hs5⟩ := HF5.out
                  have hz := HZ.out
                  have hxx := HG.out.1
                  refine ⟨((HKA.out.trans (kO_below HBE.out)).trans (kO_below HBy.out)).trans hxx.ko, ?_, StC.fin ho hb (by rw [List.map_append, List.map_singleton, HSTO.out]; exact hrf) hl5 hr2 hk5 hd5 hs5 hz.2.2.2.2 hz.2.1 hz.2.2.1 hz.2.2.2.1 hz.1 (Nat.le_trans HN2.out.2.1 hz.2.2.2.2) (HBE.out.trans (HBy.out.mono HBE.out.size)) hxx, by rw [List.length_append, List.length_singleton]; have := HPK.out; omega⟩
                  have hT5 : ∀ k, T k → k < w5.heap.size := fun k hk => by have := HTA.out k hk; have := HSZ5.out; omega
                  exact KeepS.trans (KeepS.trans HKS.out (kS_below (HBE.out.trans (HBy.out.mono HBE.out.size)) hT5)) (hxx.keepS HTZ.out)
        case tail =>
          rintro e a' wt ⟨he, D2, T2, F, rfl, hD2, hK2, hC, hF⟩
          refine inBlock_two he ?_
          clear he e
          obtain ⟨vF, hf1, hfR⟩ := hC.f
          obtain ⟨AF, cF, eF⟩ := Kd.R_slice hfR
          subst eF
          obtain ⟨AL, cL, eL⟩ := Kd.R_slice hC.r
          subst eL
          have hFl : F.length = min kk L.length := by rw [hF, List.length_take]; omega
          have f0 := cell_of_heap (i := 0) hf1.2 rfl
          have l0 := cell_of_heap (i := 0) hC.l.2 rfl
          have k0 := cell_of_heap (i := 0) hC.k.2 rfl
          have hwk : wrap64 (kk : Int) = (kk : Int) := wrap64_of' (by omega) (by have := HKB.out; omega)
          have hmn : Builtin.min2 (.int .i64 (kk : Int)) (.int .i64 (L.length : Int)) = pure (.int .i64 (F.length : Int)) := by
            rw [min2_int]
            congr 2
            rw [hFl]
            split <;> omega
          have HC := Lib.hid hC
          have HF := Lib.hid hF
          have HFL := Lib.hid hFl
          have HK2 := Lib.hid hK2
          have HD2 := Lib.hid hD2
          have HRF := Lib.hid (Kd.R_reads' hfR).2.2
          clear hC hF hFl hK2 hD2 hf1 hfR
          subst hfr2
          have HRL := Lib.hid (Kd.R_reads' HC.out.r).2.2
          have HLB := Lib.hid (show ∀ s ∈ L, s.1.length ≤ 1000 by
            intro s hs
            rw [HL.out] at hs
            obtain ⟨x, hx, rfl⟩ := List.mem_map.1 hs
            have hxo := allO_ok HVB.out.2.1 hx
            have h1 := hxo.1
            have h2 := st_split h1
            rw [h2, List.length_append, List.length_singleton] at h1
            have := HVB.out.1
            omega)
          have HFC := Lib.hid (And.intro f0 l0)
          gi_wp2_with (fail)
          clear f0 l0 k0 hwk hmn
          gi_loopg [80] F.length (fun kq v80 wr => ∃ i : Nat, kq + i = F.length ∧ v80 = .int .i64 i ∧ Aside0 (Below wt.heap.size wt wr))
          case atStart => exact ⟨0, rfl, rfl, ⟨Below.refl _ _⟩⟩
          case round =>
            obtain ⟨i, hik, rfl, HG⟩ := hrel
            by_cases hi : i < F.length
            · have hi1 : decide ((i : Int) < (F.length : Int)) = true := decide_eq_true (by omega)
              have hi2 : decide (i < F.length) = true := decide_eq_true hi
              have hiL : i < L.length := by have := HFL.out; omega
              have f0 := HG.out.cell' HFC.out.1
              have l0 := HG.out.cell' HFC.out.2
              obtain ⟨adF, E0, e0, E1, e1, E2, e2, rfl, r0, r1, r2, her⟩ := at_S (Kd.C_below HRF.out HG.out) (i : Int) (by omega) (by omega)
              obtain ⟨adL, G0, g0, G1, g1, G2, g2, rfl, t0, t1, t2, her2⟩ := at_S (Kd.C_below HRL.out HG.out) (i : Int) (by omega) (by omega)
              rw [Int.toNat_natCast] at r0 r1 r2 t0 t1 t2
              have hsame : rd_S F (i : Int) = rd_S L (i : Int) := by unfold rd_S; rw [HF.out]; simp [List.getD_eq_getElem?_getD, List.getElem?_take]; rw [if_pos (by have := HFL.out; omega)]
              have hsm : (rd_S F (i : Int)).1.length ≤ 5864062014634 := by
                rw [hsame]
                have h1 : rd_S L (i : Int) = L[i] := by unfold rd_S; simp [hiL]
                rw [h1]
                have := HLB.out _ (List.getElem_mem hiL)
                omega
              have heq : eqS (rd_S F (i : Int)).1 (rd_S F (i : Int)).2.1 (rd_S F (i : Int)).2.2 (rd_S L (i : Int)).1 (rd_S L (i : Int)).2.1 (rd_S L (i : Int)).2.2 = true := by rw [hsame]; simp [eqS]
              have p1 : (0 ≤ (i : Int)) = True := eq_true (by omega)
              have p2 : ((i : Int) < (F.length : Int)) = True := eq_true (by omega)
              have p3 : (i < F.length) = True := eq_true hi
              have p4 : ((i : Int) < (L.length : Int)) = True := eq_true (by omega)
              have p5 : (i < L.length) = True := eq_true hiL
              have HER := Lib.hid (And.intro her her2)
              have HEQ := Lib.hid heq
              have HSM := Lib.hid hsm
              have HSD2 := Lib.hid (And.intro f0 (And.intro l0 (And.intro r0 (And.intro r1 (And.intro r2 (And.intro t0 (And.intro t1 t2)))))))
              clear her her2 heq hsame hsm
              gi_wp2_with (fail)
              refine wpIn_np ?_
              refine startW_ (n := 10) (S := fun w' => w'.cell? ⟨Bf, 0, none⟩ = some (.slice (some adF) F.length cF) ∧ w'.cell? ⟨Bl, 0, none⟩ = some (.slice (some adL) L.length cL) ∧ w'.cell? (adF.add (i * 3)) = some (.slice E0 (rd_S F (i : Int)).1.length e0) ∧ w'.cell? ⟨(adF.add (i * 3)).block, (adF.add (i * 3)).off + 1, none⟩ = some (.slice E1 (rd_S F (i : Int)).2.1.length e1) ∧ w'.cell? ⟨(adF.add (i * 3)).block, (adF.add (i * 3)).off + 2, none⟩ = some (.slice E2 (rd_S F (i : Int)).2.2.length e2) ∧ w'.cell? (adL.add (i * 3)) = some (.slice G0 (rd_S L (i : Int)).1.length g0) ∧ w'.cell? ⟨(adL.add (i * 3)).block, (adL.add (i * 3)).off + 1, none⟩ = some (.slice G1 (rd_S L (i : Int)).2.1.length g1) ∧ w'.cell? ⟨(adL.add (i * 3)).block, (adL.add (i * 3)).off + 2, none⟩ = some (.slice G2 (rd_S L (i : Int)).2.2.length g2)) (ds := []) #[false, false, false, false, false, false, false, false, false, false] (by kernel_rfl) rfl rfl HSD2.out (fun hHeld => ?_); refine with_tabW tab6_25 bits6_25 (fun HT_ HW_ => ?_)
              obtain ⟨wd, hwd⟩ : ∃ wd, wd = wr.drew := ⟨_, rfl⟩
              have hbd : Below wr.heap.size wr wd := by rw [hwd]; exact below_drew1 (Below.refl _ _)
              rw [← hwd] at hHeld ⊢
              have hsb : ∀ w', Below wd.heap.size wd w' → w'.cell? ⟨Bf, 0, none⟩ = some (.slice (some adF) F.length cF) ∧ w'.cell? ⟨Bl, 0, none⟩ = some (.slice (some adL) L.length cL) ∧ w'.cell? (adF.add (i * 3)) = some (.slice E0 (rd_S F (i : Int)).1.length e0) ∧ w'.cell? ⟨(adF.add (i * 3)).block, (adF.add (i * 3)).off + 1, none⟩ = some (.slice E1 (rd_S F (i : Int)).2.1.length e1) ∧ w'.cell? ⟨(adF.add (i * 3)).block, (adF.add (i * 3)).off + 2, none⟩ = some (.slice E2 (rd_S F (i : Int)).2.2.length e2) ∧ w'.cell? (adL.add (i * 3)) = some (.slice G0 (rd_S L (i : Int)).1.length g0) ∧ w'.cell? ⟨(adL.add (i * 3)).block, (adL.add (i * 3)).off + 1, none⟩ = some (.slice G1 (rd_S L (i : Int)).2.1.length g1) ∧ w'.cell? ⟨(adL.add (i * 3)).block, (adL.add (i * 3)).off + 2, none⟩ = some (.slice G2 (rd_S L (i : Int)).2.2.length g2) := fun w' hb => ⟨hb.cell' hHeld.1, hb.cell' hHeld.2.1, hb.cell' hHeld.2.2.1, hb.cell' hHeld.2.2.2.1, hb.cell' hHeld.2.2.2.2.1, hb.cell' hHeld.2.2.2.2.2.1, hb.cell' hHeld.2.2.2.2.2.2.1, hb.cell' hHeld.2.2.2.2.2.2.2⟩
              have HSB := Lib.hid hsb
              have HBD := Lib.hid hbd
              clear hwd hbd hsb f0 l0 r0 r1 r2 t0 t1 t2
              refine take_ (i := 0) (N := some 83) (v := ?_) (a' := ?_) #[true, false, false, false, false, false, false, false, false, false] rfl rfl (take_ofW HT_.out HW_.out (by kernel_rfl)) (fun _ _ _ h => h) (Or.inl ⟨by rfl, ?_⟩) hHeld ?_ ?_
              rotate_left
              · rintro w' ⟨s0, s1, s2, s3, s4, s5, s6, s7⟩
                go_simp
                with_reducible rfl
              rotate_left
              · simp only [Act.put, List.setIfInBounds_toArray, List.set_cons_zero, List.set_cons_succ, i64_w, i32_w]
                rfl
              refine pure_ (i := 1) (N := some 84) (v := ?_) (a' := ?_) #[true, true, false, false, false, false, false, false, false, false] rfl rfl (any_of HT_.out (by kernel_rfl)) (fun _ _ _ h => h) (Or.inl ⟨by rfl, ?_⟩) ?_ ?_
              rotate_left
              · intro w'
                go_simp
                with_reducible rfl
              rotate_left
              · simp only [Act.put, List.setIfInBounds_toArray, List.set_cons_zero, List.set_cons_succ, i64_w, i32_w]
                rfl
              refine pure_ (i := 2) (N := some 85) (v := ?_) (a' := ?_) #[true, true, true, false, false, false, false, false, false, false] rfl rfl (any_of HT_.out (by kernel_rfl)) (fun _ _ _ h => h) (Or.inl ⟨by rfl, ?_⟩) ?_ ?_
              rotate_left
              · intro w'
                go_simp
                with_reducible rfl
              rotate_left
              · simp only [Act.put, List.setIfInBounds_toArray, List.set_cons_zero, List.set_cons_succ, i64_w, i32_w]
                rfl
              refine take_ (i := 3) (N := some 86) (v := ?_) (a' := ?_) #[true, true, true, true, false, false, false, false, false, false] rfl rfl (take_ofW HT_.out HW_.out (by kernel_rfl)) (fun _ _ _ h => h) (Or.inl ⟨by rfl, ?_⟩) hHeld ?_ ?_
              rotate_left
              · rintro w' ⟨s0, s1, s2, s3, s4, s5, s6, s7⟩
                go_simp
                with_reducible rfl
              rotate_left
              · simp only [Act.put, List.setIfInBounds_toArray, List.set_cons_zero, List.set_cons_succ, i64_w, i32_w]
                rfl
              refine take_ (i := 4) (N := some 87) (v := ?_) (a' := ?_) #[true, true, true, true, true, false, false, false, false, false] rfl rfl (take_ofW HT_.out HW_.out (by kernel_rfl)) (fun _ _ _ h => h) (Or.inl ⟨by rfl, ?_⟩) hHeld ?_ ?_
              rotate_left
              · rintro w' ⟨s0, s1, s2, s3, s4, s5, s6, s7⟩
                go_simp
                with_reducible rfl
              rotate_left
              · simp only [Act.put, List.setIfInBounds_toArray, List.set_cons_zero, List.set_cons_succ, i64_w, i32_w]
                rfl
              refine pure_ (i := 5) (N := some 88) (v := ?_) (a' := ?_) #[true, true, true, true, true, true, false, false, false, false] rfl rfl (any_of HT_.out (by kernel_rfl)) (fun _ _ _ h => h) (Or.inl ⟨by rfl, ?_⟩) ?_ ?_
              rotate_left
              · intro w'
                go_simp
                with_reducible rfl
              rotate_left
              · simp only [Act.put, List.setIfInBounds_toArray, List.set_cons_zero, List.set_cons_succ, i64_w, i32_w]
                rfl
              refine pure_ (i := 6) (N := some 89) (v := ?_) (a' := ?_) #[true, true, true, true, true, true, true, false, false, false] rfl rfl (any_of HT_.out (by kernel_rfl)) (fun _ _ _ h => h) (Or.inl ⟨by rfl, ?_⟩) ?_ ?_
              rotate_left
              · intro w'
                go_simp
                with_reducible rfl
              rotate_left
              · simp only [Act.put, List.setIfInBounds_toArray, List.set_cons_zero, List.set_cons_succ, i64_w, i32_w]
                rfl
              refine take_ (i := 7) (N := some 90) (v := ?_) (a' := ?_) #[true, true, true, true, true, true, true, true, false, false] rfl rfl (take_ofW HT_.out HW_.out (by kernel_rfl)) (fun _ _ _ h => h) (Or.inl ⟨by rfl, ?_⟩) hHeld ?_ ?_
              rotate_left
              · rintro w' ⟨s0, s1, s2, s3, s4, s5, s6, s7⟩
                go_simp
                with_reducible rfl
              rotate_left
              · simp only [Act.put, List.setIfInBounds_toArray, List.set_cons_zero, List.set_cons_succ, i64_w, i32_w]
                rfl
              refine one_ (i := 8) (N := some 91) #[true, true, true, true, true, true, true, true, true, false] rfl rfl (one_of HT_.out (by kernel_rfl)) (by decide) (fun K hK => ?_)
              refine goes_ Try.func23 (by kernel_rfl) rfl #[.agg #[.slice E0 (rd_S F (i : Int)).1.length e0, .slice E1 (rd_S F (i : Int)).2.1.length e1, .slice E2 (rd_S F (i : Int)).2.2.length e2], .agg #[.slice G0 (rd_S L (i : Int)).1.length g0, .slice G1 (rd_S L (i : Int)).2.1.length g1, .slice G2 (rd_S L (i : Int)).2.2.length g2]] (by rfl) rfl rfl (by first | rfl | simp [Act.eval]) ?_
              refine (equal_calls (SR.below HER.out.1 HBD.out) (SR.below HER.out.2 HBD.out) HSM.out).mono ?_
              rw [HEQ.out]
              rintro e w2 ⟨rfl, hb2⟩
              refine ⟨_, rfl, ?_⟩
              have HW2 := Lib.hid hb2
              clear hb2
              refine hK.out _ _ (HSB.out _ HW2.out) (fun hHeld => ?_)
              clear hK K
              refine norm_ (a' := ?_) ?_ ?_
              rotate_left
              · show Act.put _ (some 91) _ = _
                simp only [Act.put, List.setIfInBounds_toArray, List.set_cons_zero, List.set_cons_succ, i64_w, i32_w]
                rfl
              refine pure_ (i := 9) (N := some 92) (v := ?_) (a' := ?_) #[true, true, true, true, true, true, true, true, true, true] rfl rfl (any_of HT_.out (by kernel_rfl)) (fun _ _ _ h => h) (Or.inl ⟨by rfl, ?_⟩) ?_ ?_
              rotate_left
              · intro w'
                go_simp
                with_reducible rfl
              rotate_left
              · simp only [Act.put, List.setIfInBounds_toArray, List.set_cons_zero, List.set_cons_succ, i64_w, i32_w]
                rfl
              refine done_ (done_of HT_.out (by kernel_rfl)) ?_
              refine NP.normal ?_
              gi_wp2_with (fail)
              gi_roundg (F.length - (i + 1))
              case measure => omega
              case rel => exact ⟨i + 1, by omega, by rw [wrap64_of' (n := (i : Int) + 1) (by omega) (by have := HFL.out; have := HLL.out; omega)]; rfl, ⟨HG.out.trans ((HBD.out.trans (HW2.out.mono HBD.out.size)).mono HG.out.size)⟩⟩
            · have hi1 : decide ((i : Int) < (F.length : Int)) = false := decide_eq_false (by omega)
              have hi2 : decide (i < F.length) = false := decide_eq_false hi
              gi_wp2
              have hlt : ∀ {B : Nat} {o : Obj}, wt.heap[B]? = some o → wr.heap[B]? = some o := fun h => (HG.out.block _ (Array.getElem?_eq_some_iff.1 h).1).trans h
              have hne : D ≠ D2 := by have := HN2.out.2.2.1; have := HD2.out; omega
              have hK1 : (wr.putObj D2 (.deferred none)).heap[D]? = some (.deferred (some [])) := (World.putObj_heap_other hne).trans (hlt HC.out.d.2)
              refine ⟨by simp, .inl ⟨_, _, rfl, run_takeDeferred (hlt HK2.out), ⟨by simp, .inl ⟨_, _, rfl, run_takeDeferred hK1, ?_⟩⟩⟩⟩
              have hb1 := (OutT.put (T := fun _ => False) ⟨fun _ h => h.elim, HC.out.o.b.trans (HG.out.mono HC.out.o.b.size)⟩ (.deferred none) (Nat.le_trans HN2.out.2.1 HD2.out)).b
              have hb2 := (OutT.put (T := fun _ => False) ⟨fun _ h => h.elim, hb1⟩ (.deferred none) HN2.out.2.2.2.2.2.2.2.2.2).b
              exact ⟨.bool true, by simp [results, Try.f6, go_sem], rfl, hb2⟩
      case stop => exact fun _ _ _ _ _ _ _ h _ => h.elim
end Go.Proofs.Ytgcdeablfoomhaa.PAll
end
section
set_option linter.unusedVariables false
set_option linter.unusedSimpArgs false
namespace Go.Proofs.Ytgcdeablfoomhaa.PAll
open Go.RowKit Go.ChangeShapes Go.WideShapes Go.ChangeAt Go.Proofs.YtgcdeablfoomhaaW.PrintWords Go.Proofs.YtgcdeablfoomhaaW.PrintLast
section
variable {H : Type} {enc : TypeId × Value → H} {P : Program} {w : World} {base : Nat} {spare : Nat → Bool} {held : Bool}
/-- The cells of an element, read as_ an element. -/
def Opens (enc : TypeId × Value → H) (P : Program) (w : World) (base : Nat) (spare : Nat → Bool) (held : Bool) {α : Type} (d : Kd α) (e : TypeId) (good : α → Prop) : Prop :=
  ∀ (fuel : Nat) (cs : List Value) (x : DataW H × List MemPlace), DataW.trod enc P w base spare held fuel e cs = some x → ∃ p, d.K w p cs ∧ good p
theorem add_add_plain (a : Addr) (i j : Nat) : (a.add i).add j = a.add (i + j) := Addr.add_add a i j
theorem opens_row {α : Type} {d : Kd α} {t e : TypeId} {good : α → Prop} (ht : P.underlying t = some (.slice e)) (hc : P.cellsOf e = d.sz) (ho : Opens enc P w base spare held d e good)
    {fuel : Nat} {cs : List Value} {x : DataW H × List MemPlace} (h : DataW.trod enc P w base spare held fuel t cs = some x) :
    ∃ A cap, ∃ l : List α, cs = [.slice A l.length cap] ∧ l.length ≤ cap ∧ d.C w A l.length l ∧ ∀ x ∈ l, good x := by
  rcases DataW.trod_slice ht h with ⟨rfl, _⟩ | ⟨a, len, cap, elems, rest, n, _, rfl, _, hb, hl, hm, hlen, hel, _, _⟩
  · exact ⟨none, 0, [], rfl, Nat.le_refl _, ⟨rfl, by simp, fun hn => by simp at hn⟩, by simp⟩
  · have each : ∀ i : Fin len, ∃ p c, w.cells? base (a.add (i.1 * d.sz)) d.sz = some c ∧ d.K w p c ∧ good p := by
      intro i
      have h1 := hel i.1 i.2
      have hi : i.1 < elems.length := by rw [hlen]; exact i.2
      rw [hc, List.getElem?_eq_getElem hi, Option.bind_eq_some_iff] at h1
      obtain ⟨c, hcs, hy⟩ := h1
      obtain ⟨p, hp, hg⟩ := ho n c _ hy
      exact ⟨p, c, hcs, hp, hg⟩
    obtain ⟨f, hf⟩ := Classical.axiomOfChoice each
    have hL : ((List.finRange len).map f).length = len := by simp
    refine ⟨some a, cap, (List.finRange len).map f, by rw [hL], by rw [hL]; exact hl, ⟨by rw [hL], by rw [hL]; simp only [maxLen] at hm; omega, fun hn => ⟨a, rfl, fun j p hj => ?_⟩⟩, ?_⟩
    · have hjl : j < len := by
        have := (List.getElem?_eq_some_iff.1 hj).1
        rw [hL] at this; exact this
      obtain ⟨c, hcs, hp, hg⟩ := hf ⟨j, hjl⟩
      have he : p = f ⟨j, hjl⟩ := by
        have h2 := (List.getElem?_eq_some_iff.1 hj).2
        simp at h2
        exact h2.symm
      have hs := World.cells?_some hcs
      refine ⟨c, d.K_len hp, by rw [he]; exact hp, fun i u hu => ?_⟩
      have hic : i < d.sz := by have := (List.getElem?_eq_some_iff.1 hu).1; rw [d.K_len hp] at this; exact this
      have h3 := hs.2.2 i hic
      rw [add_add_plain] at h3
      rw [h3]; exact hu
    · intro x hx
      obtain ⟨i, _, rfl⟩ := List.mem_map.1 hx
      obtain ⟨c, _, _, hg⟩ := hf i
      exact hg
end
section
variable {H : Type} {enc : TypeId × Value → H} {w : World} {base : Nat} {spare : Nat → Bool} {held : Bool}
/-- A declaration: its kind and its length in their bounds. -/
theorem opens_48 : Opens enc Try.prog w base spare held k48 48 (fun x => (Lit.int .u8 x.f1).wf = true ∧ (Lit.int .i64 x.f2).wf = true) := by
  intro fuel cs x h
  obtain ⟨xs, n, _, _, hcs, hxs, hf⟩ := DataW.trod_struct Try.underlying48 h
  have hl : cs.length = 3 := by rw [hcs]; kernel_rfl
  obtain ⟨a, b, c, rfl⟩ : ∃ a b c, cs = [a, b, c] := by
    match cs, hl with
    | [a, b, c], _ => exact ⟨a, b, c, rfl⟩
  have hx3 : xs.length = 3 := hxs
  have h0 := hf 0 _ rfl
  have h1 := hf 1 _ rfl
  have h2 := hf 2 _ rfl
  rw [List.getElem?_eq_getElem (by omega)] at h0 h1 h2
  obtain ⟨s, hs, _, _⟩ := DataW.trod_string Try.underlying9 h0
  obtain ⟨k, hk, _, wk⟩ := DataW.trod_int Try.underlying5 h1
  obtain ⟨m, hm, _, wm⟩ := DataW.trod_int Try.underlying3 h2
  have e1 : Try.prog.cellsOf 9 = 1 := by kernel_rfl
  have e2 : Try.prog.cellsOf 5 = 1 := by kernel_rfl
  have e3 : Try.prog.cellsOf 3 = 1 := by kernel_rfl
  have hs' : [a] = [Value.string s] := by
    have : ([a, b, c].drop 0).take (Try.prog.cellsOf 9) = [Value.string s] := hs
    rw [e1] at this; simpa using this
  have hk' : [b] = [Value.int .u8 k] := by
    have : ([a, b, c].drop 1).take (Try.prog.cellsOf 5) = [Value.int .u8 k] := hk
    rw [e2] at this; simpa using this
  have hm' : [c] = [Value.int .i64 m] := by
    have : ([a, b, c].drop 2).take (Try.prog.cellsOf 3) = [Value.int .i64 m] := hm
    rw [e3] at this; simpa using this
  obtain rfl : a = .string s := by simpa using hs'
  obtain rfl : b = .int .u8 k := by simpa using hk'
  obtain rfl : c = .int .i64 m := by simpa using hm'
  exact ⟨⟨s, k, m⟩, k48_mk w ⟨s, k, m⟩, wk, wm⟩
/-- What a slice that a law is handed is. -/
theorem open_rowv {α : Type} {d : Kd α} {t e : TypeId} {good : α → Prop} {v : Value} {dd : DataW H} {p : List MemPlace} (ht : Try.prog.underlying t = some (.slice e)) (hc : Try.prog.cellsOf e = d.sz) (ho : Opens enc Try.prog w base spare held d e good)
    (hv : ∃ A len cap, v = .slice A len cap) (h : DataW.Trod enc Try.prog w base spare held t v dd p) : ∃ A cap, ∃ l : List α, v = .slice A l.length cap ∧ l.length ≤ cap ∧ d.C w A l.length l ∧ ∀ x ∈ l, good x := by
  obtain ⟨A0, len, cap0, rfl⟩ := hv
  obtain ⟨fuel, h⟩ := h
  obtain ⟨A, cap, l, hcs, h1, h2, h3⟩ := opens_row ht hc ho h
  refine ⟨A, cap, l, ?_, h1, h2, h3⟩
  simpa [Value.cells] using hcs
end
end Go.Proofs.Ytgcdeablfoomhaa.PAll
end
section
set_option linter.unusedVariables false
set_option linter.unusedSimpArgs false
namespace Go.Proofs.Ytgcdeablfoomhaa.PAll
open Go.RowKit Go.ChangeShapes Go.WideShapes Go.ChangeAt Go.Proofs.YtgcdeablfoomhaaW.PrintWords Go.Proofs.YtgcdeablfoomhaaW.PrintLast
variable {H : Type} {enc : TypeId × Value → H} {w : World} {base : Nat} {spare : Nat → Bool} {held : Bool}
set_option maxRecDepth 100000 in
theorem open_box {W : World} {r : Reach} {b0 : Nat} {v : Value} {dd : DataW H} {p : List MemPlace} (hval : Value.okWide Try.prog W r b0 24 v) (h : DataW.Trod enc Try.prog w base spare held 24 v dd p) :
    ∃ a0 a1 a2 : Int, v = .agg #[.int .i64 a0, .int .i64 a1, .int .i64 a2] ∧ (Lit.int .i64 a0).wf = true ∧ (Lit.int .i64 a1).wf = true ∧ (Lit.int .i64 a2).wf = true := by
  have hv : ∃ cs : Array Value, v = .agg cs ∧ cs.size = Try.prog.cellsOf 24 := by
    unfold Value.okWide at hval
    rw [Try.underlying24] at hval
    obtain ⟨cs, h1, h2, _⟩ := hval
    exact ⟨cs, h1, h2⟩
  obtain ⟨cs, rfl, hsz⟩ := hv
  obtain ⟨fuel, h⟩ := h
  have hcells : (Value.agg cs).cells.toList = cs.toList := rfl
  rw [hcells] at h
  obtain ⟨xs, n, _, _, hcs, hxs, hf⟩ := DataW.trod_struct Try.underlying24 h
  have e24 : Try.prog.cellsOf 24 = 3 := by kernel_rfl
  have hl : cs.toList.length = 3 := by rw [hcs, e24]
  obtain ⟨a, b, c, hcl⟩ : ∃ a b c, cs.toList = [a, b, c] := by
    match cs.toList, hl with
    | [a, b, c], _ => exact ⟨a, b, c, rfl⟩
  obtain rfl : cs = #[a, b, c] := by rw [← Array.toList_inj]; exact hcl
  have hx3 : xs.length = 3 := hxs
  have h0 := hf 0 _ rfl
  have h1 := hf 1 _ rfl
  have h2 := hf 2 _ rfl
  rw [List.getElem?_eq_getElem (by omega)] at h0 h1 h2
  have e3 : Try.prog.cellsOf 3 = 1 := by kernel_rfl
  obtain ⟨k0, hk0, _, w0⟩ := DataW.trod_int Try.underlying3 h0
  obtain ⟨k1, hk1, _, w1⟩ := DataW.trod_int Try.underlying3 h1
  obtain ⟨k2, hk2, _, w2⟩ := DataW.trod_int Try.underlying3 h2
  have hk0' : [a] = [Value.int .i64 k0] := by
    have : ([a, b, c].drop 0).take (Try.prog.cellsOf 3) = [Value.int .i64 k0] := hk0
    rw [e3] at this; simpa using this
  have hk1' : [b] = [Value.int .i64 k1] := by
    have : ([a, b, c].drop 1).take (Try.prog.cellsOf 3) = [Value.int .i64 k1] := hk1
    rw [e3] at this; simpa using this
  have hk2' : [c] = [Value.int .i64 k2] := by
    have : ([a, b, c].drop 2).take (Try.prog.cellsOf 3) = [Value.int .i64 k2] := hk2
    rw [e3] at this; simpa using this
  obtain rfl : a = .int .i64 k0 := by simpa using hk0'
  obtain rfl : b = .int .i64 k1 := by simpa using hk1'
  obtain rfl : c = .int .i64 k2 := by simpa using hk2'
  exact ⟨k0, k1, k2, rfl, w0, w1, w2⟩
theorem wf_u8 {a : Int} (h : (Lit.int .u8 a).wf = true) : 0 ≤ a ∧ a ≤ 255 := by
  have : IntKind.u8.min ≤ a ∧ a ≤ IntKind.u8.max := by simpa [Lit.wf] using h
  exact this
end Go.Proofs.Ytgcdeablfoomhaa.PAll
end
