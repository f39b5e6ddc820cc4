/- state.Decode: the state that bytes give, as new slices, or an error. -/
import Derived.Test.YtjphfhmkpknfaaaNum
import Derived.Test.YtjphfhmkpknfaaaPAllx2
import Derived.Deep.CutRange
set_option linter.unusedVariables false
set_option linter.unusedSimpArgs false
namespace Go.Proofs.Ytjphfhmkpknfaaa.PAll
open Go.RowKit Go.Proofs.YtjphfhmkpknfaaaW.PrintWords Go.Proofs.YtjphfhmkpknfaaaW.PrintLast Go.Proofs.YtjphfhmkpknfaaaW.PrintMore
attribute [local go_sem] max2_int min2_int max_two min_two max_three min_three max_four min_four

theorem BoxA.set0 {W : World} {B : Nat} {s0 s1 s2 : Value} (h : BoxA W B s0 s1 s2) (u : Value) : BoxA (W.setCell ⟨B, 0, none⟩ u) B u s1 s2 := heap_setCell_same W B 0 _ 25 u h
theorem BoxA.set1 {W : World} {B : Nat} {s0 s1 s2 : Value} (h : BoxA W B s0 s1 s2) (u : Value) : BoxA (W.setCell ⟨B, 1, none⟩ u) B s0 u s2 := heap_setCell_same W B 1 _ 25 u h
theorem BoxA.set2 {W : World} {B : Nat} {s0 s1 s2 : Value} (h : BoxA W B s0 s1 s2) (u : Value) : BoxA (W.setCell ⟨B, 2, none⟩ u) B s0 s1 u := heap_setCell_same W B 2 _ 25 u h
theorem BoxA.far {W : World} {B : Nat} {s0 s1 s2 : Value} (h : BoxA W B s0 s1 s2) {p : Addr} (hp : B ≠ p.block) (u : Value) : BoxA (W.setCell p u) B s0 s1 s2 := (heap_setCell_other W p B u hp).trans h
theorem RdBox.far {W : World} {B : Nat} {v : Value} {e : Int} (h : RdBox W B v e) {p : Addr} (hp : B ≠ p.block) (u : Value) : RdBox (W.setCell p u) B v e := (heap_setCell_other W p B u hp).trans h
theorem BoxA.f0 {W : World} {B : Nat} {s0 s1 s2 : Value} (h : BoxA W B s0 s1 s2) : W.frozen? ⟨B, 0, none⟩ = false := by simp [World.frozen?, show W.heap[B]? = _ from h]
theorem BoxA.f1 {W : World} {B : Nat} {s0 s1 s2 : Value} (h : BoxA W B s0 s1 s2) : W.frozen? ⟨B, 1, none⟩ = false := by simp [World.frozen?, show W.heap[B]? = _ from h]
theorem BoxA.f2 {W : World} {B : Nat} {s0 s1 s2 : Value} (h : BoxA W B s0 s1 s2) : W.frozen? ⟨B, 2, none⟩ = false := by simp [World.frozen?, show W.heap[B]? = _ from h]

abbrev nil3 : Value := .slice none 0 0
/-- The state of the walk: the result's box, the reader, the state's box, the bytes still to come. -/
structure DSt (w0 : World) (Z B S : Nat) (s0 s1 s2 : Value) (A : Option Addr) (c : Nat) (l : List Int) (e : Int) (W : World) : Prop where
  z : BoxA W Z nil3 nil3 nil3
  r : RdBox W B (.slice A l.length c) e
  s : BoxA W S s0 s1 s2
  cc : Kd.C (Kd.int .u8) w0 A l.length l
  lc : l.length ≤ c
  b : Below w0.heap.size w0 W
section
variable {w0 W W1 : World} {Z B S : Nat} {s0 s1 s2 : Value} {A : Option Addr} {c : Nat} {l : List Int} {e : Int}
theorem DSt.below (h : DSt w0 Z B S s0 s1 s2 A c l e W) (hb : Below W.heap.size W W1) : DSt w0 Z B S s0 s1 s2 A c l e W1 :=
  ⟨h.z.below hb h.z.lt, h.r.below hb, h.s.below hb h.s.lt, h.cc, h.lc, h.b.trans (hb.mono h.b.size)⟩
theorem DSt.read (h : DSt w0 Z B S s0 s1 s2 A c l e W) (hg : W.grownBy W1 (some B)) (hZ : Z ≠ B) (hS : S ≠ B) (hB : w0.heap.size ≤ B) {A' : Option Addr} {c' : Nat} {l' : List Int} {e' : Int} (hr : RdBox W1 B (.slice A' l'.length c') e') (hC : Kd.C (Kd.int .u8) w0 A' l'.length l') (hl : l'.length ≤ c') :
    DSt w0 Z B S s0 s1 s2 A' c' l' e' W1 :=
  ⟨h.z.kept hg (by simpa using hZ), hr, h.s.kept hg (by simpa using hS), hC, hl, h.b.grown hg h.b.size (fun k hk => by injection hk with hk; omega)⟩
theorem DSt.grown {α : Type} {d : Kd α} {t base : Nat} {ok : Nat → Prop} {v : Value} {xs : List α} (h : DSt w0 Z B S s0 s1 s2 A c l e W) (hg : W.grownBy W1 v.ownBlock) (hv : d.R t W base ok v xs) (h25 : (25 : Nat) ≠ t) (h73 : (73 : Nat) ≠ t) (hb : w0.heap.size ≤ base) : DSt w0 Z B S s0 s1 s2 A c l e W1 :=
  ⟨h.z.kept hg (boxA_ne hv h.z h25), h.r.kept hg (rdBox_ne hv h.r h73), h.s.kept hg (boxA_ne hv h.s h25), h.cc, h.lc, h.b.grown hg h.b.size (fun k hk => by obtain ⟨inner, ho⟩ := Kd.R_own hv; have := own_base ho k hk; omega)⟩
theorem DSt.set0 (h : DSt w0 Z B S s0 s1 s2 A c l e W) (hZ : Z ≠ S) (hB : B ≠ S) (hw : w0.heap.size ≤ S) (u : Value) : DSt w0 Z B S u s1 s2 A c l e (W.setCell ⟨S, 0, none⟩ u) :=
  ⟨h.z.far hZ u, h.r.far hB u, h.s.set0 u, h.cc, h.lc, h.b.setCell (p := ⟨S, 0, none⟩) hw u⟩
theorem DSt.set1 (h : DSt w0 Z B S s0 s1 s2 A c l e W) (hZ : Z ≠ S) (hB : B ≠ S) (hw : w0.heap.size ≤ S) (u : Value) : DSt w0 Z B S s0 u s2 A c l e (W.setCell ⟨S, 1, none⟩ u) :=
  ⟨h.z.far hZ u, h.r.far hB u, h.s.set1 u, h.cc, h.lc, h.b.setCell (p := ⟨S, 1, none⟩) hw u⟩
theorem DSt.set2 (h : DSt w0 Z B S s0 s1 s2 A c l e W) (hZ : Z ≠ S) (hB : B ≠ S) (hw : w0.heap.size ≤ S) (u : Value) : DSt w0 Z B S s0 s1 u A c l e (W.setCell ⟨S, 2, none⟩ u) :=
  ⟨h.z.far hZ u, h.r.far hB u, h.s.set2 u, h.cc, h.lc, h.b.setCell (p := ⟨S, 2, none⟩) hw u⟩
theorem DSt.count (h : DSt w0 Z B S s0 s1 s2 A c l e W) (hZ : Z ≠ B) (hS : S ≠ B) (hB : w0.heap.size ≤ B) (hl : l.length ≤ 1099511627776) (most : Int) :
    Calls Try.prog 44 #[.pointer (some ⟨B, 0, none⟩), .int .i64 most] W fun z w' => z = .returned (.int .i64 (cntF most l e).1) ∧ W.grownBy w' (some B) ∧ ∃ A' c', DSt w0 Z B S s0 s1 s2 A' c' (cntF most l e).2.1 (cntF most l e).2.2 w' := by
  refine (count_calls B A c l e most w0 W h.cc h.lc hl h.b h.r).mono ?_
  rintro z w' ⟨A', c', hz, h1, h2, h3, h4⟩
  exact ⟨hz, h4, A', c', h.read h4 hZ hS hB h1 h2 h3⟩
theorem DSt.list (h : DSt w0 Z B S s0 s1 s2 A c l e W) (hZ : Z ≠ B) (hS : S ≠ B) (hB : w0.heap.size ≤ B) (hl : l.length ≤ 1099511627776) (n : Nat) (hn : n ≤ 1000000) :
    Calls Try.prog 45 #[.pointer (some ⟨B, 0, none⟩), .int .i64 (n : Int)] W fun z w' => ∃ v, z = .returned v ∧ Kd.R (Kd.int .i64) 3 w' W.heap.size (fun _ => True) v (lstF n [] l e).1 ∧ W.grownBy w' (some B) ∧ ∃ A' c', DSt w0 Z B S s0 s1 s2 A' c' (lstF n [] l e).2.1 (lstF n [] l e).2.2 w' := by
  refine (list_calls B A c l e n w0 W h.cc h.lc hl hn h.b hB h.r).mono ?_
  rintro z w' ⟨v, A', c', hz, h0, h1, h2, h3, h4⟩
  exact ⟨v, hz, h0, h4, A', c', h.read h4 hZ hS hB h1 h2 h3⟩
/-- Rows of rows stay while the reader moves on. -/
theorem S_read {base : Nat} {ok : Nat → Prop} {v u : Value} {xs : List (List Int)} (h : Kd.S (Kd.slice 3 (Kd.int .i64)) 23 W base ok v xs) (hbx : RdBox W B u e) (hg : W.grownBy W1 (some B)) : Kd.S (Kd.slice 3 (Kd.int .i64)) 23 W1 base ok v xs :=
  Kd.S_mono (Kd.S_grown (Kd.S_types h hbx (by decide)) hg (fun k hk => by simpa using hk.2)) (fun _ hk => hk.1)
theorem S_setA {base : Nat} {ok : Nat → Prop} {v u : Value} {j : Nat} {xs : List (List Int)} (h : Kd.S (Kd.slice 3 (Kd.int .i64)) 23 W base ok v xs) (hbx : BoxA W S s0 s1 s2) : Kd.S (Kd.slice 3 (Kd.int .i64)) 23 (W.setCell ⟨S, j, none⟩ u) base ok v xs :=
  Kd.S_mono (Kd.S_far (Kd.S_types h hbx (by decide)) (fun k hk => by simpa using hk.2) u) (fun _ hk => hk.1)
theorem R_read {base : Nat} {ok : Nat → Prop} {v u : Value} {xs : List Int} (h : Kd.R (Kd.int .i64) 3 W base ok v xs) (hbx : RdBox W B u e) (hg : W.grownBy W1 (some B)) : Kd.R (Kd.int .i64) 3 W1 base ok v xs := by
  obtain ⟨h0, inner, ho, hr⟩ := h
  have hne : v.ownBlock ≠ some B := by
    intro he
    obtain ⟨cells, hc⟩ := own_typed ho B he
    rw [show W.heap[B]? = _ from hbx] at hc
    injection hc with hc
    injection hc with _ h2
    exact absurd h2 (by decide)
  refine ⟨h0, inner, own_move ho (fun k hk => hg.block k (own_lt ho k hk) (fun e => hne (by rw [hk, e]))), hr⟩
theorem R_setA {base : Nat} {ok : Nat → Prop} {v u : Value} {j : Nat} {xs : List Int} (h : Kd.R (Kd.int .i64) 3 W base ok v xs) (hbx : BoxA W S s0 s1 s2) : Kd.R (Kd.int .i64) 3 (W.setCell ⟨S, j, none⟩ u) base ok v xs := by
  obtain ⟨h0, inner, ho, hr⟩ := h
  refine ⟨h0, inner, own_move ho (fun k hk => heap_setCell_other W _ k u (fun e => ?_)), hr⟩
  obtain ⟨cells, hc⟩ := own_typed ho k hk
  rw [e, show W.heap[S]? = _ from hbx] at hc
  injection hc with hc
  injection hc with _ h2
  exact absurd h2 (by decide)
end
def okDec (l : List S44) (b : List Int) : Prop := l.length ≤ 1000 ∧ b.length ≤ 1000000 ∧ (b.all fun x => decide (0 ≤ x ∧ x < 256)) = true
instance (l : List S44) (b : List Int) : Decidable (okDec l b) := by unfold okDec; infer_instance
def decF (l : List S44) (b : List Int) (ok : Bool) : List (List Int) × List Int × List Int × Int :=
  if ok = true then decRest (decCells l [] b 0).1 (decCells l [] b 0).2.1 (decCells l [] b 0).2.2 else ([], [], [], 3)
theorem decCells_cons (v : S44) (vs : List S44) (acc : List (List Int)) (b : List Int) (e : Int) : decCells (v :: vs) acc b e = decCells vs (acc ++ [(lstF (rowN v b e).1.toNat [] (rowN v b e).2.1 (rowN v b e).2.2).1]) (lstF (rowN v b e).1.toNat [] (rowN v b e).2.1 (rowN v b e).2.2).2.1 (lstF (rowN v b e).1.toNat [] (rowN v b e).2.1 (rowN v b e).2.2).2.2 := rfl
def state_Decode.f (k : Nat) (l : List S44) (b : List Int) : Option (List (List Int) × List Int × List Int × Int) := (state_valid.f k l).bind fun vb => if okDec l b ∧ (vb = true → (l.all fun v => decide (mx v.f2 1 ≤ 100000)) = true) then some (decF l b vb) else none
theorem state_Decode.mono : ∀ a0 a1 k, LeO (state_Decode.f k a0 a1) (state_Decode.f (k + 1) a0 a1) := by
  intro a0 a1 k
  unfold state_Decode.f
  exact LeO.bind (state_valid.mono a0 k) (fun _ => LeO.refl _)
def DecPost (w : World) (r1 : List (List Int)) (r2 r3 : List Int) (r4 : Int) (e : Ending) (w' : World) : Prop :=
  ∃ v0_ v1_ v2_ : Value, e = .returned (.tuple #[.agg #[v0_, v1_, v2_], .int .i64 r4]) ∧ Kd.S (Kd.slice 3 (Kd.int .i64)) 23 w' w.heap.size (fun k_ => some k_ ≠ (v1_ : Value).ownBlock ∧ some k_ ≠ (v2_ : Value).ownBlock) v0_ r1 ∧ Kd.R (Kd.int .i64) 3 w' w.heap.size (fun k_ => some k_ ≠ (v2_ : Value).ownBlock) v1_ r2 ∧ Kd.R (Kd.int .i64) 3 w' w.heap.size (fun k_ => some k_ ≠ (v1_ : Value).ownBlock) v2_ r3 ∧ Below w.heap.size w w'
theorem DecPost.none {w w' : World} {r4 : Int} (hb : Below w.heap.size w w') : DecPost w [] [] [] r4 (.returned (.tuple #[.agg #[nil3, nil3, nil3], .int .i64 r4])) w' :=
  ⟨nil3, nil3, nil3, rfl, Kd.S_nil _ _ _ _ _, Kd.R_nil _ _ _ _ _, Kd.R_nil _ _ _ _ _, hb⟩
/-- A declaration's box. -/
def BoxV (W : World) (y : Nat) (v : S44) : Prop := W.heap[y]? = some (.cells #[.string v.f0, .int .u8 v.f1, .int .i64 v.f2] 44 (0, 0))
theorem BoxV.c0 {W : World} {y : Nat} {v : S44} (h : BoxV W y v) : W.cell? ⟨y, 0, none⟩ = some (.string v.f0) := by simp [World.cell?, show W.heap[y]? = _ from h]
theorem BoxV.c1 {W : World} {y : Nat} {v : S44} (h : BoxV W y v) : W.cell? ⟨y, 1, none⟩ = some (.int .u8 v.f1) := by simp [World.cell?, show W.heap[y]? = _ from h]
theorem BoxV.c2 {W : World} {y : Nat} {v : S44} (h : BoxV W y v) : W.cell? ⟨y, 2, none⟩ = some (.int .i64 v.f2) := by simp [World.cell?, show W.heap[y]? = _ from h]
theorem BoxV.lt {W : World} {y : Nat} {v : S44} (h : BoxV W y v) : y < W.heap.size := (Array.getElem?_eq_some_iff.1 h).1
theorem infoI23 : (Try.prog.info? 23).map (fun i => (i.zero, i.size, i.bytes)) = some (some (.slice none 0 0), 1, 24) := by kernel_rfl

set_option maxRecDepth 100000 in
set_option maxHeartbeats 8000000 in
theorem state_Decode.post (kv : Nat) (vb : Bool) (A0 : Option Addr) (c0 : Nat) (l0 : List S44) (A1 : Option Addr) (c1 : Nat) (l1 : List Int) (r1 : List (List Int)) (r2 r3 : List Int) (r4 : Int) (w : World)
    (hr0 : Kd.C k44 w A0 l0.length l0) (hc0 : l0.length ≤ c0) (hr1 : Kd.C (Kd.int .u8) w A1 l1.length l1) (hc1 : l1.length ≤ c1) (hv : state_valid.f kv l0 = some vb) (hok : okDec l0 l1) (heq : (r1, r2, r3, r4) = decF l0 l1 vb) (hl2 : vb = true → ∀ v ∈ l0, mx v.f2 1 ≤ 100000) :
    Calls Try.prog 28 #[.slice A0 l0.length c0, .slice A1 l1.length c1] w fun e w' => DecPost w r1 r2 r3 r4 e w' := by
  obtain ⟨hok1, hok2, hok3⟩ := hok
  have hby : areB l1 := by
    intro x hx
    have := List.all_eq_true.1 hok3 x hx
    simpa using this
  have HR0 := Lib.hid hr0
  have HR1 := Lib.hid hr1
  have HEQ := Lib.hid heq
  have HBY := Lib.hid hby
  have HL2 := Lib.hid hl2
  have HV := Lib.hid hv
  clear hr0 hr1 heq hby hl2 hv hok3
  go_enter Try.func28, Try.ntmps28
  go_upto_region 1 with (fail)
  obtain ⟨w1, hw1⟩ : ∃ w1, w1 = w.alloc (.cells #[nil3, nil3, nil3] 25) := ⟨_, rfl⟩
  rw [← hw1]
  have hz1 : BoxA w1 w.heap.size nil3 nil3 nil3 := by rw [hw1]; exact BoxA.new w _ _ _
  have hb1 : Below w.heap.size w w1 := by rw [hw1]; exact below_alloc (Below.refl _ _) _
  clear hw1
  have HZ := Lib.hid hz1
  have HB := Lib.hid hb1
  clear hz1 hb1
  go_wp2_with (fail)
  refine (state_valid.calls kv A0 c0 l0 vb w1 (Kd.C_below HR0.out HB.out) hc0 HV.out).mono ?_
  rintro e w2 ⟨rfl, hb2⟩
  have hz2 := HZ.out.below hb2 HZ.out.lt
  have hbw := HB.out.trans (hb2.mono HB.out.size)
  clear HZ HB hb2
  cases vb with
  | false =>
    obtain ⟨rfl, rfl, rfl, rfl⟩ : r1 = [] ∧ r2 = [] ∧ r3 = [] ∧ r4 = 3 := by
      have := HEQ.out
      simpa [decF] using this
    have h0 := hz2.c0
    have h1 := hz2.c1
    have h2 := hz2.c2
    have f0 := hz2.f0
    have f1 := hz2.f1
    have f2 := hz2.f2
    have HB := Lib.hid hbw
    have hz3 := hz2
    clear hz2 hbw
    have HZ := Lib.hid hz3
    clear hz3
    go_wp2
    refine bodyPost_ret (results_ct rfl _ _ w.heap.size 25 #[nil3, nil3, nil3] (0, 0) _ rfl (((HZ.out.set0 nil3).set1 nil3).set2 nil3) Try.underlying25 rfl (by kernel_rfl)) rfl ?_
    exact DecPost.none (((HB.out.setCell (p := ⟨w.heap.size, 0, none⟩) (Nat.le_refl _) _).setCell (p := ⟨w.heap.size, 1, none⟩) (Nat.le_refl _) _).setCell (p := ⟨w.heap.size, 2, none⟩) (Nat.le_refl _) _)
  | true =>
    have HEQ2 := Lib.hid (show (r1, r2, r3, r4) = decRest (decCells l0 [] l1 0).1 (decCells l0 [] l1 0).2.1 (decCells l0 [] l1 0).2.2 from HEQ.out)
    have HL3 := Lib.hid (HL2.out rfl)
    clear HEQ HL2
    go_upto_region 5 with (fail)
    obtain ⟨B, hB⟩ : ∃ B, B = w2.heap.size := ⟨_, rfl⟩
    obtain ⟨w3, hw3⟩ : ∃ w3, w3 = (w2.alloc (.cells #[.slice A1 l1.length c1, .int .i64 0] 73)).alloc (.cells #[nil3, nil3, nil3] 25) := ⟨_, rfl⟩
    rw [← hw3, ← hB]
    have hb3 : Below w2.heap.size w2 w3 := by rw [hw3]; exact below_alloc (below_alloc (Below.refl _ _) _) _
    have hD : DSt w w.heap.size B (B + 1) nil3 nil3 nil3 A1 c1 l1 0 w3 := by
      refine ⟨hz2.below hb3 hz2.lt, ?_, ?_, HR1.out, hc1, hbw.trans (hb3.mono hbw.size)⟩
      · rw [hw3, hB]
        exact (Below.heap_alloc _ _ _ (by simp)).trans (World.alloc_heap_new w2 _)
      · rw [hw3, hB]
        have := BoxA.new (w2.alloc (.cells #[.slice A1 l1.length c1, .int .i64 0] 73)) nil3 nil3 nil3
        rw [World.size_alloc] at this
        exact this
    have hZB : w.heap.size < B := by rw [hB]; exact hz2.lt
    have HD := Lib.hid hD
    clear hD hb3 hw3 hB hz2 hbw
    go_wp2_with (fail)
    go_loopg [20] l0.length (fun kq v20 wr => ∃ (i : Nat) (acc : List (List Int)) (lc : List Int) (ec : Int) (Ac : Option Addr) (cc : Nat) (s0 : Value), kq + i = l0.length ∧ v20 = .int .i64 i ∧ Aside0 (decCells l0 [] l1 0 = decCells (l0.drop i) acc lc ec) ∧ acc.length = i ∧ Aside0 (areB lc) ∧ lc.length ≤ 1000000 ∧
        Aside0 (DSt w w.heap.size B (B + 1) s0 nil3 nil3 Ac cc lc ec wr) ∧ Aside0 (Kd.S (Kd.slice 3 (Kd.int .i64)) 23 wr w.heap.size (fun _ => True) s0 acc))
    case atStart => exact ⟨0, [], l1, 0, A1, c1, nil3, rfl, rfl, ⟨rfl⟩, rfl, ⟨HBY.out⟩, hok2, ⟨HD.out⟩, ⟨Kd.S_nil _ _ _ _ _⟩⟩
    case round =>
      clear HD
      obtain ⟨i, acc, lc, ec, Ac, cc, s0, hik, rfl, HF, hai, HBL, hlc, HD, HS⟩ := hrel
      by_cases hi : i < l0.length
      · have hi1 : decide ((i : Int) < (l0.length : Int)) = true := decide_eq_true (by omega)
        have hi2 : ¬ l0.length ≤ i := by omega
        have hid : decide (i < l0.length) = true := decide_eq_true hi
        obtain ⟨ad, hA, hx0, hx1, hx2⟩ := at_T44 (Kd.C_below HR0.out HD.out.b) (i : Int) (by omega) (by omega)
        subst hA
        have p1 : (0 ≤ (i : Int)) = True := eq_true (by omega)
        have p2 : ((i : Int) < (l0.length : Int)) = True := eq_true (by omega)
        obtain ⟨vd, hvd⟩ : ∃ vd, vd = rd_T44 l0 (i : Int) := ⟨_, rfl⟩
        rw [← hvd] at hx0 hx1 hx2
        simp only [Int.toNat_natCast] at hx0 hx1 hx2
        have hvl : vd = l0[i] := by rw [hvd]; unfold rd_T44; simp [hi]
        have hvm : mx vd.f2 1 ≤ 100000 := by rw [hvl]; exact HL3.out _ (List.getElem_mem hi)
        have HVL := Lib.hid hvl
        clear hvd hvl
        go_upto_region 8 with (fail)
        obtain ⟨wa, hwa⟩ : ∃ wa, wa = wr.alloc (.cells #[.string vd.f0, .int .u8 vd.f1, .int .i64 vd.f2] 44) := ⟨_, rfl⟩
        obtain ⟨y, hy⟩ : ∃ y, y = wr.heap.size := ⟨_, rfl⟩
        rw [← hwa, ← hy]
        have hba : Below wr.heap.size wr wa := by rw [hwa]; exact below_alloc (Below.refl _ _) _
        have hbv : BoxV wa y vd := by rw [hwa, hy]; exact World.alloc_heap_new wr _
        have hd := HD.out.below hba
        have hs := Kd.S_below HS.out hba
        clear HD HS hwa hy hba hx0 hx1 hx2
        have hx0 := hbv.c0
        have hx1 := hbv.c1
        have hx2 := hbv.c2
        have HD := Lib.hid hd
        have HS := Lib.hid hs
        have HBV := Lib.hid hbv
        clear hd hs hbv
        go_wp2_with (fail)
        refine (state_size.calls vd.f0 vd.f1 vd.f2 (mx vd.f2 1) wa rfl).mono ?_
        rintro e wb ⟨rfl, hbb⟩
        have hd := HD.out.below hbb
        have hs := Kd.S_below HS.out hbb
        have hbv : BoxV wb y vd := (hbb.block y HBV.out.lt).trans HBV.out
        clear HD HS HBV hbb hx0 hx1 hx2
        have hx0 := hbv.c0
        have hx1 := hbv.c1
        have hx2 := hbv.c2
        have HD := Lib.hid hd
        have HS := Lib.hid hs
        clear hd hs hbv
        obtain ⟨rn, hrn⟩ : ∃ rn, rn = rowN vd lc ec := ⟨_, rfl⟩
        have hcnt := cntF_ok 1000 ec HBL.out (by decide)
        have hrn1 : 0 ≤ rn.1 ∧ rn.1 ≤ 100000 ∧ areB rn.2.1 ∧ rn.2.1.length ≤ lc.length := by
          rw [hrn]; unfold rowN
          split
          · exact ⟨hcnt.1, by omega, hcnt.2.2⟩
          · exact ⟨by unfold mx; dsimp only; split <;> omega, hvm, HBL.out, Nat.le_refl _⟩
        obtain ⟨n, hn⟩ : ∃ n : Nat, rn.1 = (n : Int) := ⟨rn.1.toNat, by omega⟩
        have HRN := Lib.hid hrn
        have HRN1 := Lib.hid hrn1
        have HN := Lib.hid hn
        have hnb : n ≤ 100000 := by omega
        have hlr : rn.2.1.length ≤ 1000000 := by omega
        clear hcnt hrn hrn1 hn
        go_upto_if 28 with (fail)
        go_cut [10] from 21 to 39 (fun s10 wx => ∃ (Ac : Option Addr) (cc : Nat), s10 = .int .i64 (n : Int) ∧ Aside0 (DSt w w.heap.size B (B + 1) s0 nil3 nil3 Ac cc rn.2.1 rn.2.2 wx) ∧ Aside0 (Kd.S (Kd.slice 3 (Kd.int .i64)) 23 wx w.heap.size (fun _ => True) s0 acc))
        case first =>
          by_cases hk : vd.f1 = 3
          · have hkb : (vd.f1 == 3) = true := by simpa using hk
            have hkd : decide (vd.f1 = 3) = true := decide_eq_true hk
            have hr1 : cntF 1000 lc ec = rn := by rw [HRN.out]; unfold rowN; rw [if_pos hk]
            have HR1' := Lib.hid hr1
            clear hk hr1
            go_wp2_with (fail)
            refine (HD.out.count (by omega) (by omega) (by omega) (by omega) 1000).mono ?_
            rintro z w5 ⟨rfl, hg5, A5, c5, hd5⟩
            rw [HR1'.out] at hd5 ⊢
            rw [HN.out]
            have hs5 := S_read HS.out HD.out.r hg5
            have HD5 := Lib.hid hd5
            have HS5 := Lib.hid hs5
            clear hd5 hs5 hg5
            go_wp2_with (fail)
            go_meet
            case rel => exact ⟨A5, c5, rfl, ⟨HD5.out⟩, ⟨HS5.out⟩⟩
          · have hkb : (vd.f1 == 3) = false := by simpa using hk
            have hkd : decide (vd.f1 = 3) = false := decide_eq_false hk
            have hr1 : (mx vd.f2 1, lc, ec) = rn := by rw [HRN.out]; unfold rowN; rw [if_neg hk]
            have hq1 : mx vd.f2 1 = (n : Int) := by rw [← HN.out, ← hr1]
            have hq2 : rn.2.1 = lc := by rw [← hr1]
            have hq3 : rn.2.2 = ec := by rw [← hr1]
            have HQ1 := Lib.hid hq1
            have HQ2 := Lib.hid hq2
            have HQ3 := Lib.hid hq3
            clear hk hr1 hq1 hq2 hq3
            go_wp2_with (fail)
            go_meet
            case rel => exact ⟨Ac, cc, by rw [HQ1.out], ⟨by rw [HQ2.out, HQ3.out]; exact HD.out⟩, ⟨HS.out⟩⟩
        case rest =>
          clear HD HS hx0 hx1 hx2
          obtain ⟨Ac, cc, rfl, HD, HS⟩ := hcut
          obtain ⟨row, hrow⟩ : ∃ row, row = lstF n [] rn.2.1 rn.2.2 := ⟨_, rfl⟩
          have hlst := lstF_ok n [] rn.2.2 HRN1.out.2.2.1
          rw [← hrow] at hlst
          have HROW := Lib.hid hrow
          have HBR := Lib.hid hlst.1
          have hlr2 : row.2.1.length ≤ 1000000 := by omega
          have hlr3 : row.1.length ≤ 100000 := by have := hlst.2.2; simp at this; omega
          clear hrow hlst
          go_upto_region 11 with (fail)
          have hmix : Try.prog.follows .mixedOrders = true := by kernel_rfl
          refine wp_region_any hmix ?_
          change wpAny _ _ _ _ _ _ _ (World.drew _)
          obtain ⟨wd, hwd⟩ : ∃ wd, wd = wc.drew := ⟨_, rfl⟩
          have nHD : DSt w w.heap.size B (B + 1) s0 nil3 nil3 Ac cc rn.2.1 rn.2.2 wd := by rw [hwd]; exact HD.out.below (below_drew1 (Below.refl _ _))
          have nHS : Kd.S (Kd.slice 3 (Kd.int .i64)) 23 wd w.heap.size (fun _ => True) s0 acc := by rw [hwd]; exact Kd.S_drew HS.out
          rw [← hwd]
          clear HD HS hwd
          have hsc := nHD.s.c0
          have HD := Lib.hid nHD
          have HS := Lib.hid nHS
          clear nHD nHS
          refine wpAny_take (i := 0) (v := ?_) rfl (by kernel_rfl) (by kernel_rfl) (by kernel_rfl) (fun _ _ _ h => h) (Or.inl ⟨by rfl, ?_⟩) ?_
          case refine_2 => intro w'; go_simp; try rfl
          refine wpAny_take (i := 2) (v := ?_) rfl (by kernel_rfl) (by kernel_rfl) (by kernel_rfl) (fun _ _ _ h => h) (Or.inl ⟨by rfl, ?_⟩) ?_
          case refine_2 => intro w'; go_simp; try rfl
          refine wpAny_take (i := 3) (v := ?_) rfl (by kernel_rfl) (by kernel_rfl) (by kernel_rfl) (fun _ _ _ h => h) (Or.inl ⟨by rfl, ?_⟩) ?_
          case refine_2 => intro w'; go_simp; try rfl
          refine wpAny_ready (rs := [1, 4]) (by kernel_rfl) (by simp) (AllReady.cons rfl (fun K hK => ?o1_1) (AllReady.cons rfl (fun K hK => ?o4_1) (AllReady.nil)))
          case o1_1 =>
            go_simp
            refine hK _ _ ?_
            clear hK K
            refine wpAny_ready (rs := [4]) (by kernel_rfl) (by simp) (AllReady.cons rfl (fun K hK => ?o4_2) (AllReady.nil))
            case o4_2 =>
              go_simp
              refine (HD.out.list (by omega) (by omega) (by omega) (by omega) n (by omega)).mono ?_
              rintro z wl ⟨vl, rfl, hvl, hgl, A5, c5, hd5⟩
              rw [← HROW.out] at hvl hd5
              have hs5 := S_read HS.out HD.out.r hgl
              obtain ⟨zl, hzl⟩ : ∃ zl, zl = wd.heap.size := ⟨_, rfl⟩
              have hzw : w.heap.size ≤ zl := by rw [hzl]; exact HD.out.b.size
              have hzg : zl ≤ wl.heap.size := by rw [hzl]; exact hgl.size
              have hs6 : Kd.S (Kd.slice 3 (Kd.int .i64)) 23 wl w.heap.size (fun k => k < zl) s0 acc := by
                have hb := Kd.S_mono (Kd.S_bound HS.out) (ok' := fun k => k < zl ∧ k ≠ B) (fun k hk => ⟨by rw [hzl]; exact hk.2.2.1, fun e => by obtain ⟨q, hq, cells, hc⟩ := hk.2.2.2; subst e; rw [show wd.heap[k]? = _ from HD.out.r] at hc; injection hc with hc; injection hc with _ h2; subst h2; revert hq; decide⟩)
                exact Kd.S_mono (Kd.S_grown hb hgl (fun k hk => by simpa using hk.2)) (fun k hk => hk.1)
              have hv6 : Kd.R (Kd.int .i64) 3 wl w.heap.size (fun k => zl ≤ k) vl row.1 := Kd.R_lower (Kd.R_mono (Kd.R_bound hvl) (fun k hk => by rw [hzl]; exact hk.2.1)) (by omega)
              have hsn : ∀ k, zl ≤ k → some k ≠ s0.ownBlock := fun k hk he => by have := (Kd.S_R hs6).1 k he.symm; omega
              clear HD HS hsc
              have hsc := hd5.s.c0
              have hsca : ∀ o, (wl.alloc o).cell? ⟨B + 1, 0, none⟩ = some s0 := fun o => (hd5.s.alloc o).c0
              have HD := Lib.hid hd5
              have HS := Lib.hid hs6
              have HVL2 := Lib.hid hv6
              have HSN := Lib.hid hsn
              obtain ⟨A7, c7, hv7⟩ := Kd.R_slice hvl
              subst hv7
              clear hvl hgl hd5 hs5 hzl hs6 hv6 hsn
              refine hK _ _ ?_
              clear hK K
              refine wpAny_ready (rs := [5]) (by kernel_rfl) (by simp) (AllReady.cons rfl (fun K hK => ?o5_3) (AllReady.nil))
              case o5_3 =>
                go_simp
                refine hK _ _ ?_
                clear hK K
                refine wpAny_ready (rs := [6]) (by kernel_rfl) (by simp) (AllReady.cons rfl (fun K hK => ?o6_4) (AllReady.nil))
                case o6_4 =>
                  refine Kd.S_append_step (Kd.slice 3 (Kd.int .i64)) (w0 := wl) w.heap.size (by rfl) (.tmp 32) (.tmp 36) 22 23 (.slice none 0 0) 24 rfl Try.underlying22 infoI23 rfl (by decide) (by omega) s0 acc row.1 [.slice A7 row.1.length c7] (fun _ => True) (fun k => zl ≤ k) rfl rfl ⟨.slice A7 row.1.length c7, rfl, HVL2.out⟩ (fun k hk => ⟨trivial, fun he => HSN.out k hk he⟩) (fun _ _ => trivial) (Kd.S_mono HS.out (fun k hk => ⟨trivial, by omega⟩)) (Below.refl _ _) (by omega) (by omega) ?_
                  intro v2 w6 ho hb6 hg hat
                  have hd6 := HD.out.grown hg (Kd.S_R HS.out) (by decide) (by decide) (Nat.le_refl _)
                  have hsc := hd6.s.c0
                  have hsf := hd6.s.f0
                  clear HD HS
                  have HD := Lib.hid hd6
                  have HS := Lib.hid ho
                  obtain ⟨A6, c6, hv6⟩ := Kd.R_slice (Kd.S_R ho)
                  rw [show (acc ++ [row.1]).length = i + 1 by simp; omega] at hv6
                  subst hv6
                  clear hd6 hg hat hb6 ho
                  refine hK _ _ ?_
                  clear hK K
                  refine wpAny_take (i := 7) (v := ?_) rfl (by kernel_rfl) (by kernel_rfl) (by kernel_rfl) (fun _ _ _ h => h) (Or.inl ⟨by rfl, ?_⟩) ?_
                  case refine_2 => intro w'; go_simp; try rfl
                  refine wpAny_ready (rs := [8]) (by kernel_rfl) (by simp) (AllReady.cons rfl (fun K hK => ?o8_5) (AllReady.nil))
                  case o8_5 =>
                    go_simp
                    have hd8 := HD.out.set0 (by omega) (by omega) (by omega) (.slice A6 (i + 1) c6)
                    have hs8 := S_setA (j := 0) (u := .slice A6 (i + 1) c6) HS.out HD.out.s
                    clear HD HS
                    have HD := Lib.hid hd8
                    have HS := Lib.hid hs8
                    clear hd8 hs8
                    refine hK _ _ ?_
                    clear hK K
                    refine wpAny_done (by kernel_rfl) ?_ _
                    go_wp2_with fail
                    go_roundg (l0.length - (i + 1))
                    case measure => omega
                    case rel => exact ⟨i + 1, acc ++ [row.1], row.2.1, row.2.2, A5, c5, .slice A6 (i + 1) c6, by omega, by go_num, ⟨by rw [HF.out, List.drop_eq_getElem_cons hi, ← HVL.out, decCells_cons, ← HRN.out, HN.out, Int.toNat_natCast, ← HROW.out]⟩, by simp; omega, ⟨HBR.out⟩, hlr2, ⟨HD.out⟩, ⟨HS.out⟩⟩
          case o4_1 =>
            go_simp
            refine (HD.out.list (by omega) (by omega) (by omega) (by omega) n (by omega)).mono ?_
            rintro z wl ⟨vl, rfl, hvl, hgl, A5, c5, hd5⟩
            rw [← HROW.out] at hvl hd5
            have hs5 := S_read HS.out HD.out.r hgl
            obtain ⟨zl, hzl⟩ : ∃ zl, zl = wd.heap.size := ⟨_, rfl⟩
            have hzw : w.heap.size ≤ zl := by rw [hzl]; exact HD.out.b.size
            have hzg : zl ≤ wl.heap.size := by rw [hzl]; exact hgl.size
            have hs6 : Kd.S (Kd.slice 3 (Kd.int .i64)) 23 wl w.heap.size (fun k => k < zl) s0 acc := by
              have hb := Kd.S_mono (Kd.S_bound HS.out) (ok' := fun k => k < zl ∧ k ≠ B) (fun k hk => ⟨by rw [hzl]; exact hk.2.2.1, fun e => by obtain ⟨q, hq, cells, hc⟩ := hk.2.2.2; subst e; rw [show wd.heap[k]? = _ from HD.out.r] at hc; injection hc with hc; injection hc with _ h2; subst h2; revert hq; decide⟩)
              exact Kd.S_mono (Kd.S_grown hb hgl (fun k hk => by simpa using hk.2)) (fun k hk => hk.1)
            have hv6 : Kd.R (Kd.int .i64) 3 wl w.heap.size (fun k => zl ≤ k) vl row.1 := Kd.R_lower (Kd.R_mono (Kd.R_bound hvl) (fun k hk => by rw [hzl]; exact hk.2.1)) (by omega)
            have hsn : ∀ k, zl ≤ k → some k ≠ s0.ownBlock := fun k hk he => by have := (Kd.S_R hs6).1 k he.symm; omega
            clear HD HS hsc
            have hsc := hd5.s.c0
            have hsca : ∀ o, (wl.alloc o).cell? ⟨B + 1, 0, none⟩ = some s0 := fun o => (hd5.s.alloc o).c0
            have HD := Lib.hid hd5
            have HS := Lib.hid hs6
            have HVL2 := Lib.hid hv6
            have HSN := Lib.hid hsn
            obtain ⟨A7, c7, hv7⟩ := Kd.R_slice hvl
            subst hv7
            clear hvl hgl hd5 hs5 hzl hs6 hv6 hsn
            refine hK _ _ ?_
            clear hK K
            refine wpAny_ready (rs := [1, 5]) (by kernel_rfl) (by simp) (AllReady.cons rfl (fun K hK => ?o1_6) (AllReady.cons rfl (fun K hK => ?o5_6) (AllReady.nil)))
            case o1_6 =>
              go_simp
              refine hK _ _ ?_
              clear hK K
              refine wpAny_ready (rs := [5]) (by kernel_rfl) (by simp) (AllReady.cons rfl (fun K hK => ?o5_7) (AllReady.nil))
              case o5_7 =>
                go_simp
                refine hK _ _ ?_
                clear hK K
                refine wpAny_ready (rs := [6]) (by kernel_rfl) (by simp) (AllReady.cons rfl (fun K hK => ?o6_8) (AllReady.nil))
                case o6_8 =>
                  refine Kd.S_append_step (Kd.slice 3 (Kd.int .i64)) (w0 := wl) w.heap.size (by rfl) (.tmp 32) (.tmp 36) 22 23 (.slice none 0 0) 24 rfl Try.underlying22 infoI23 rfl (by decide) (by omega) s0 acc row.1 [.slice A7 row.1.length c7] (fun _ => True) (fun k => zl ≤ k) rfl rfl ⟨.slice A7 row.1.length c7, rfl, HVL2.out⟩ (fun k hk => ⟨trivial, fun he => HSN.out k hk he⟩) (fun _ _ => trivial) (Kd.S_mono HS.out (fun k hk => ⟨trivial, by omega⟩)) (Below.refl _ _) (by omega) (by omega) ?_
                  intro v2 w6 ho hb6 hg hat
                  have hd6 := HD.out.grown hg (Kd.S_R HS.out) (by decide) (by decide) (Nat.le_refl _)
                  have hsc := hd6.s.c0
                  have hsf := hd6.s.f0
                  clear HD HS
                  have HD := Lib.hid hd6
                  have HS := Lib.hid ho
                  obtain ⟨A6, c6, hv6⟩ := Kd.R_slice (Kd.S_R ho)
                  rw [show (acc ++ [row.1]).length = i + 1 by simp; omega] at hv6
                  subst hv6
                  clear hd6 hg hat hb6 ho
                  refine hK _ _ ?_
                  clear hK K
                  refine wpAny_take (i := 7) (v := ?_) rfl (by kernel_rfl) (by kernel_rfl) (by kernel_rfl) (fun _ _ _ h => h) (Or.inl ⟨by rfl, ?_⟩) ?_
                  case refine_2 => intro w'; go_simp; try rfl
                  refine wpAny_ready (rs := [8]) (by kernel_rfl) (by simp) (AllReady.cons rfl (fun K hK => ?o8_9) (AllReady.nil))
                  case o8_9 =>
                    go_simp
                    have hd8 := HD.out.set0 (by omega) (by omega) (by omega) (.slice A6 (i + 1) c6)
                    have hs8 := S_setA (j := 0) (u := .slice A6 (i + 1) c6) HS.out HD.out.s
                    clear HD HS
                    have HD := Lib.hid hd8
                    have HS := Lib.hid hs8
                    clear hd8 hs8
                    refine hK _ _ ?_
                    clear hK K
                    refine wpAny_done (by kernel_rfl) ?_ _
                    go_wp2_with fail
                    go_roundg (l0.length - (i + 1))
                    case measure => omega
                    case rel => exact ⟨i + 1, acc ++ [row.1], row.2.1, row.2.2, A5, c5, .slice A6 (i + 1) c6, by omega, by go_num, ⟨by rw [HF.out, List.drop_eq_getElem_cons hi, ← HVL.out, decCells_cons, ← HRN.out, HN.out, Int.toNat_natCast, ← HROW.out]⟩, by simp; omega, ⟨HBR.out⟩, hlr2, ⟨HD.out⟩, ⟨HS.out⟩⟩
            case o5_6 =>
              go_simp
              refine hK _ _ ?_
              clear hK K
              refine wpAny_ready (rs := [1]) (by kernel_rfl) (by simp) (AllReady.cons rfl (fun K hK => ?o1_10) (AllReady.nil))
              case o1_10 =>
                go_simp
                refine hK _ _ ?_
                clear hK K
                refine wpAny_ready (rs := [6]) (by kernel_rfl) (by simp) (AllReady.cons rfl (fun K hK => ?o6_11) (AllReady.nil))
                case o6_11 =>
                  refine Kd.S_append_step (Kd.slice 3 (Kd.int .i64)) (w0 := wl) w.heap.size (by rfl) (.tmp 32) (.tmp 36) 22 23 (.slice none 0 0) 24 rfl Try.underlying22 infoI23 rfl (by decide) (by omega) s0 acc row.1 [.slice A7 row.1.length c7] (fun _ => True) (fun k => zl ≤ k) rfl rfl ⟨.slice A7 row.1.length c7, rfl, HVL2.out⟩ (fun k hk => ⟨trivial, fun he => HSN.out k hk he⟩) (fun _ _ => trivial) (Kd.S_mono HS.out (fun k hk => ⟨trivial, by omega⟩)) (Below.refl _ _) (by omega) (by omega) ?_
                  intro v2 w6 ho hb6 hg hat
                  have hd6 := HD.out.grown hg (Kd.S_R HS.out) (by decide) (by decide) (Nat.le_refl _)
                  have hsc := hd6.s.c0
                  have hsf := hd6.s.f0
                  clear HD HS
                  have HD := Lib.hid hd6
                  have HS := Lib.hid ho
                  obtain ⟨A6, c6, hv6⟩ := Kd.R_slice (Kd.S_R ho)
                  rw [show (acc ++ [row.1]).length = i + 1 by simp; omega] at hv6
                  subst hv6
                  clear hd6 hg hat hb6 ho
                  refine hK _ _ ?_
                  clear hK K
                  refine wpAny_take (i := 7) (v := ?_) rfl (by kernel_rfl) (by kernel_rfl) (by kernel_rfl) (fun _ _ _ h => h) (Or.inl ⟨by rfl, ?_⟩) ?_
                  case refine_2 => intro w'; go_simp; try rfl
                  refine wpAny_ready (rs := [8]) (by kernel_rfl) (by simp) (AllReady.cons rfl (fun K hK => ?o8_12) (AllReady.nil))
                  case o8_12 =>
                    go_simp
                    have hd8 := HD.out.set0 (by omega) (by omega) (by omega) (.slice A6 (i + 1) c6)
                    have hs8 := S_setA (j := 0) (u := .slice A6 (i + 1) c6) HS.out HD.out.s
                    clear HD HS
                    have HD := Lib.hid hd8
                    have HS := Lib.hid hs8
                    clear hd8 hs8
                    refine hK _ _ ?_
                    clear hK K
                    refine wpAny_done (by kernel_rfl) ?_ _
                    go_wp2_with fail
                    go_roundg (l0.length - (i + 1))
                    case measure => omega
                    case rel => exact ⟨i + 1, acc ++ [row.1], row.2.1, row.2.2, A5, c5, .slice A6 (i + 1) c6, by omega, by go_num, ⟨by rw [HF.out, List.drop_eq_getElem_cons hi, ← HVL.out, decCells_cons, ← HRN.out, HN.out, Int.toNat_natCast, ← HROW.out]⟩, by simp; omega, ⟨HBR.out⟩, hlr2, ⟨HD.out⟩, ⟨HS.out⟩⟩
      · have hi1 : decide ((i : Int) < (l0.length : Int)) = false := decide_eq_false (by omega)
        have hi2 : l0.length ≤ i := by omega
        have hid : decide (i < l0.length) = false := decide_eq_false hi
        have hdone : decCells l0 [] l1 0 = (acc, lc, ec) := by rw [HF.out, List.drop_eq_nil_of_le hi2]; rfl
        have heq := HEQ2.out
        rw [hdone] at heq
        have HEQ := Lib.hid heq
        clear heq hdone HEQ2 HF hai
        obtain ⟨q1, hq1⟩ : ∃ q1, q1 = cntF 4096 lc ec := ⟨_, rfl⟩
        have hq1o := cntF_ok 4096 ec HBL.out (by decide)
        rw [← hq1] at hq1o
        obtain ⟨n1, hn1⟩ : ∃ n1 : Nat, q1.1 = (n1 : Int) := ⟨q1.1.toNat, by omega⟩
        obtain ⟨t1, ht1⟩ : ∃ t1, t1 = decTail lc ec := ⟨_, rfl⟩
        have ht12 : lstF n1 [] q1.2.1 q1.2.2 = t1 := by rw [ht1]; unfold decTail; rw [← hq1, hn1, Int.toNat_natCast]
        have ht1o := lstF_ok n1 [] q1.2.2 hq1o.2.2.1
        rw [ht12] at ht1o
        have hlq1 : q1.2.1.length ≤ 1000000 := by omega
        have hlt1 : t1.2.1.length ≤ 1000000 := by omega
        have hnn1 : n1 ≤ 1000000 := by omega
        have Hq1 := Lib.hid hq1
        have Hn1 := Lib.hid hn1
        have Ht1 := Lib.hid ht1
        have Ht12 := Lib.hid ht12
        have HBt1 := Lib.hid ht1o.1
        clear hq1 hq1o hn1 ht1 ht12 ht1o
        go_wp2_with (fail)
        refine (HD.out.count (by omega) (by omega) (by omega) (by omega) 4096).mono ?_
        rintro z wc1 ⟨rfl, hgc, Ac', cc', hdc⟩
        rw [← Hq1.out] at hdc ⊢
        rw [Hn1.out]
        have nHS := S_read HS.out HD.out.r hgc
        clear HS
        have HS := Lib.hid nHS
        clear nHS
        clear HD
        have HD := Lib.hid hdc
        clear hdc hgc
        go_wp2_with (fail)
        refine (HD.out.list (by omega) (by omega) (by omega) (by omega) n1 (by omega)).mono ?_
        rintro z wl1 ⟨v1, rfl, hv, hgl, Al', cl', hdl⟩
        rw [Ht12.out] at hv hdl
        obtain ⟨z1, hz1⟩ : ∃ z1, z1 = wc1.heap.size := ⟨_, rfl⟩
        have hzz1 : w.heap.size ≤ z1 := by rw [hz1]; exact HD.out.b.size
        have hzgz1 : z1 ≤ wl1.heap.size := by rw [hz1]; exact hgl.size
        have nHS := S_read (Kd.S_mono (Kd.S_bound HS.out) (ok' := fun k => k < z1) (fun k hk => by rw [hz1]; exact hk.2.2.1)) HD.out.r hgl
        clear HS
        have HS := Lib.hid nHS
        clear nHS
        have hv : Kd.R (Kd.int .i64) 3 wl1 w.heap.size (fun k => z1 ≤ k) v1 t1.1 := Kd.R_lower (Kd.R_mono (Kd.R_bound hv) (fun k hk => by rw [hz1]; exact hk.2.1)) (by omega)
        obtain ⟨A3, d3, hve⟩ := Kd.R_slice hv
        subst hve
        clear HD hz1
        have HD := Lib.hid hdl
        have HVv1 := Lib.hid hv
        have hs1 := hdl.s.c1
        have hsf1 := hdl.s.f1
        clear hdl hv hgl
        obtain ⟨A2, d2, hs0⟩ := Kd.R_slice (Kd.S_R HS.out)
        subst hs0
        go_upto_region 14 with (fail)
        obtain ⟨wm, hwm⟩ : ∃ wm, wm = wl1.setCell ⟨B + 1, 1, none⟩ (.slice A3 t1.1.length d3) := ⟨_, rfl⟩
        rw [← hwm]
        have hd := HD.out.set1 (by omega) (by omega) (by omega) (.slice A3 t1.1.length d3)
        have hs := S_setA (j := 1) (u := .slice A3 t1.1.length d3) HS.out HD.out.s
        have hv := R_setA (j := 1) (u := .slice A3 t1.1.length d3) HVv1.out HD.out.s
        rw [← hwm] at hd hs hv
        have hzm : z1 ≤ wm.heap.size := by rw [hwm]; simp; omega
        clear HD HS HVv1 hwm hs1 hsf1
        have HD := Lib.hid hd
        have HS := Lib.hid hs
        have HVv1 := Lib.hid hv
        clear hd hs hv
        obtain ⟨q2, hq2⟩ : ∃ q2, q2 = cntF 4096 t1.2.1 t1.2.2 := ⟨_, rfl⟩
        have hq2o := cntF_ok 4096 t1.2.2 HBt1.out (by decide)
        rw [← hq2] at hq2o
        obtain ⟨n2, hn2⟩ : ∃ n2 : Nat, q2.1 = (n2 : Int) := ⟨q2.1.toNat, by omega⟩
        obtain ⟨t2, ht2⟩ : ∃ t2, t2 = decTail t1.2.1 t1.2.2 := ⟨_, rfl⟩
        have ht22 : lstF n2 [] q2.2.1 q2.2.2 = t2 := by rw [ht2]; unfold decTail; rw [← hq2, hn2, Int.toNat_natCast]
        have ht2o := lstF_ok n2 [] q2.2.2 hq2o.2.2.1
        rw [ht22] at ht2o
        have hlq2 : q2.2.1.length ≤ 1000000 := by omega
        have hlt2 : t2.2.1.length ≤ 1000000 := by omega
        have hnn2 : n2 ≤ 1000000 := by omega
        have Hq2 := Lib.hid hq2
        have Hn2 := Lib.hid hn2
        have Ht2 := Lib.hid ht2
        have Ht22 := Lib.hid ht22
        have HBt2 := Lib.hid ht2o.1
        clear hq2 hq2o hn2 ht2 ht22 ht2o
        go_wp2_with (fail)
        refine (HD.out.count (by omega) (by omega) (by omega) (by omega) 4096).mono ?_
        rintro z wc2 ⟨rfl, hgc, Ac', cc', hdc⟩
        have hszc := hgc.size
        rw [← Hq2.out] at hdc ⊢
        rw [Hn2.out]
        have nHS := S_read HS.out HD.out.r hgc
        clear HS
        have HS := Lib.hid nHS
        clear nHS
        have nHVv1 := R_read HVv1.out HD.out.r hgc
        clear HVv1
        have HVv1 := Lib.hid nHVv1
        clear nHVv1
        clear HD
        have HD := Lib.hid hdc
        clear hdc hgc
        go_wp2_with (fail)
        refine (HD.out.list (by omega) (by omega) (by omega) (by omega) n2 (by omega)).mono ?_
        rintro z wl2 ⟨v2, rfl, hv, hgl, Al', cl', hdl⟩
        rw [Ht22.out] at hv hdl
        obtain ⟨z2, hz2⟩ : ∃ z2, z2 = wc2.heap.size := ⟨_, rfl⟩
        have hzz2 : w.heap.size ≤ z2 := by rw [hz2]; exact HD.out.b.size
        have hzz : z1 ≤ z2 := by rw [hz2]; omega
        have hzgz2 : z2 ≤ wl2.heap.size := by rw [hz2]; exact hgl.size
        have nHS := S_read HS.out HD.out.r hgl
        clear HS
        have HS := Lib.hid nHS
        clear nHS
        have nHVv1 := R_read (Kd.R_mono (Kd.R_bound HVv1.out) (ok' := fun k => z1 ≤ k ∧ k < z2) (fun k hk => ⟨hk.1, by rw [hz2]; exact hk.2.2.1⟩)) HD.out.r hgl
        clear HVv1
        have HVv1 := Lib.hid nHVv1
        clear nHVv1
        have hv : Kd.R (Kd.int .i64) 3 wl2 w.heap.size (fun k => z2 ≤ k) v2 t2.1 := Kd.R_lower (Kd.R_mono (Kd.R_bound hv) (fun k hk => by rw [hz2]; exact hk.2.1)) (by omega)
        obtain ⟨A4, d4, hve⟩ := Kd.R_slice hv
        subst hve
        clear HD hz2
        have HD := Lib.hid hdl
        have HVv2 := Lib.hid hv
        have hs2 := hdl.s.c2
        have hsf2 := hdl.s.f2
        clear hdl hv hgl
        go_upto_region 15 with (fail)
        obtain ⟨wf, hwf⟩ : ∃ wf, wf = wl2.setCell ⟨B + 1, 2, none⟩ (.slice A4 t2.1.length d4) := ⟨_, rfl⟩
        rw [← hwf]
        have hd := HD.out.set2 (by omega) (by omega) (by omega) (.slice A4 t2.1.length d4)
        have hs := S_setA (j := 2) (u := .slice A4 t2.1.length d4) HS.out HD.out.s
        have hv1 := R_setA (j := 2) (u := .slice A4 t2.1.length d4) HVv1.out HD.out.s
        have hv2 := R_setA (j := 2) (u := .slice A4 t2.1.length d4) HVv2.out HD.out.s
        rw [← hwf] at hd hs hv1 hv2
        clear HD HS HVv1 HVv2 hwf hs2 hsf2
        have HD := Lib.hid hd
        have HS := Lib.hid hs
        have HVv1 := Lib.hid hv1
        have HVv2 := Lib.hid hv2
        clear hd hs hv1 hv2
        have hend : (r1, r2, r3, r4) = if decEnd t2.2.1 t2.2.2 ≠ 0 then ([], [], [], decEnd t2.2.1 t2.2.2) else (acc, t1.1, t2.1, 0) := by
          have := HEQ.out
          unfold decRest at this
          rwa [← Ht1.out, ← Ht2.out] at this
        have HEND := Lib.hid hend
        clear hend HEQ
        obtain ⟨lf, hlf⟩ : ∃ lf, lf = t2.2.1 := ⟨_, rfl⟩
        obtain ⟨ef, hef⟩ : ∃ ef, ef = t2.2.2 := ⟨_, rfl⟩
        have hD := HD.out
        have hE := HEND.out
        rw [← hlf, ← hef] at hD hE
        clear HD HEND
        have HD := Lib.hid hD
        have HEND := Lib.hid hE
        have hlfl : lf.length ≤ 1000000 := by rw [hlf]; omega
        clear hD hE hlf hef
        have hr0 := HD.out.r.c0
        have hr1 := HD.out.r.c1
        have hrf1 := HD.out.r.f1
        by_cases he : ef = 0
        · have heb : (ef == 0) = true := by simpa using he
          have he1 : (ef != 0) = false := by simpa using he
          have hed : decide (ef = 0) = true := decide_eq_true he
          by_cases hp : 0 < lf.length
          · have hpb : decide (0 < lf.length) = true := decide_eq_true hp
            have hpd : decide ((0 : Int) < (lf.length : Int)) = true := decide_eq_true (by omega)
            have hpn : ¬ lf.length = 0 := by omega
            obtain ⟨rfl, rfl, rfl, rfl⟩ : r1 = [] ∧ r2 = [] ∧ r3 = [] ∧ r4 = 3 := by
              have := HEND.out
              have e3 : decEnd lf ef = 3 := by unfold decEnd; rw [if_pos he, if_pos (by omega)]
              rw [e3, if_pos (by decide)] at this
              simpa using this
            clear he hp HEND
            go_upto_region 18 with (fail)
            obtain ⟨wx, hwx⟩ : ∃ wx, wx = wf.setCell ⟨B, 1, none⟩ (.int .i64 3) := ⟨_, rfl⟩
            rw [← hwx]
            have hz : BoxA wx w.heap.size nil3 nil3 nil3 := by rw [hwx]; exact HD.out.z.far (by simp; omega) _
            have hrd : RdBox wx B (.slice Al' lf.length cl') 3 := by rw [hwx]; exact HD.out.r.set1 3
            have hb : Below w.heap.size w wx := by rw [hwx]; exact HD.out.b.setCell (p := ⟨B, 1, none⟩) (by simp; omega) _
            clear hr0 hr1 hrf1 hwx HD HS HVv1 HVv2
            obtain ⟨ee, hee⟩ : ∃ ee : Int, ee = 3 := ⟨_, rfl⟩
            rw [← hee] at hrd ⊢
            have HEE := Lib.hid hee
            clear hee
            have hmix : Try.prog.follows .mixedOrders = true := by kernel_rfl
            refine wp_region_any hmix ?_
            change wpAny _ _ _ _ _ _ _ (World.drew _)
            obtain ⟨wd, hwd⟩ : ∃ wd, wd = wx.drew := ⟨_, rfl⟩
            have hz' : BoxA wd w.heap.size nil3 nil3 nil3 := by rw [hwd]; exact hz
            have hrd' : RdBox wd B (.slice Al' lf.length cl') ee := by rw [hwd]; exact hrd
            have hb' : Below w.heap.size w wd := by rw [hwd]; exact below_drew1 hb
            rw [← hwd]
            clear hz hrd hb hwd
            have hz0 := hz'.c0
            have hz1 := hz'.c1
            have hz2' := hz'.c2
            have hf0 := hz'.f0
            have hf1 := hz'.f1
            have hf2 := hz'.f2
            have hrc := hrd'.c1
            have hrc2 := (((hrd'.far (p := ⟨w.heap.size, 0, none⟩) (by simp; omega) nil3).far (p := ⟨w.heap.size, 1, none⟩) (by simp; omega) nil3).far (p := ⟨w.heap.size, 2, none⟩) (by simp; omega) nil3).c1
            have HZ := Lib.hid (((hz'.set0 nil3).set1 nil3).set2 nil3)
            have HBB := Lib.hid (((hb'.setCell (p := ⟨w.heap.size, 0, none⟩) (Nat.le_refl _) nil3).setCell (p := ⟨w.heap.size, 1, none⟩) (Nat.le_refl _) nil3).setCell (p := ⟨w.heap.size, 2, none⟩) (Nat.le_refl _) nil3)
            clear hz' hrd' hb'
            refine wpAny_take (i := 0) (v := ?_) rfl (by kernel_rfl) (by kernel_rfl) (by kernel_rfl) (fun _ _ _ h => h) (Or.inl ⟨by rfl, ?_⟩) ?_
            case refine_2 => intro w'; go_simp; try rfl
            refine wpAny_take (i := 1) (v := ?_) rfl (by kernel_rfl) (by kernel_rfl) (by kernel_rfl) (fun _ _ _ h => h) (Or.inl ⟨by rfl, ?_⟩) ?_
            case refine_2 => intro w'; go_simp; try rfl
            refine wpAny_take (i := 2) (v := ?_) rfl (by kernel_rfl) (by kernel_rfl) (by kernel_rfl) (fun _ _ _ h => h) (Or.inl ⟨by rfl, ?_⟩) ?_
            case refine_2 => intro w'; go_simp; try rfl
            refine wpAny_take (i := 3) (v := ?_) rfl (by kernel_rfl) (by kernel_rfl) (by kernel_rfl) (fun _ _ _ h => h) (Or.inl ⟨by rfl, ?_⟩) ?_
            case refine_2 => intro w'; go_simp; try rfl
            refine wpAny_ready (rs := [4, 5]) (by kernel_rfl) (by simp) (AllReady.cons rfl (fun K hK => ?e4_1) (AllReady.cons rfl (fun K hK => ?e5_1) (AllReady.nil)))
            case e4_1 =>
              go_simp
              refine hK _ _ ?_
              clear hK K
              refine wpAny_ready (rs := [5]) (by kernel_rfl) (by simp) (AllReady.cons rfl (fun K hK => ?e5_2) (AllReady.nil))
              case e5_2 =>
                go_simp
                refine hK _ _ ?_
                clear hK K
                refine wpAny_ready (rs := [6]) (by kernel_rfl) (by simp) (AllReady.cons rfl (fun K hK => ?e6_3) (AllReady.nil))
                case e6_3 =>
                  go_simp
                  refine hK _ _ ?_
                  clear hK K
                  refine wpAny_done (by kernel_rfl) ?_ _
                  go_wp2
                  refine bodyPost_ret (results_ct rfl _ _ w.heap.size 25 #[nil3, nil3, nil3] (0, 0) _ rfl HZ.out Try.underlying25 rfl (by kernel_rfl)) rfl ?_
                  rw [HEE.out]; exact DecPost.none HBB.out
            case e5_1 =>
              go_simp
              refine hK _ _ ?_
              clear hK K
              refine wpAny_ready (rs := [4]) (by kernel_rfl) (by simp) (AllReady.cons rfl (fun K hK => ?e4_4) (AllReady.nil))
              case e4_4 =>
                go_simp
                refine hK _ _ ?_
                clear hK K
                refine wpAny_ready (rs := [6]) (by kernel_rfl) (by simp) (AllReady.cons rfl (fun K hK => ?e6_5) (AllReady.nil))
                case e6_5 =>
                  go_simp
                  refine hK _ _ ?_
                  clear hK K
                  refine wpAny_done (by kernel_rfl) ?_ _
                  go_wp2
                  refine bodyPost_ret (results_ct rfl _ _ w.heap.size 25 #[nil3, nil3, nil3] (0, 0) _ rfl HZ.out Try.underlying25 rfl (by kernel_rfl)) rfl ?_
                  rw [HEE.out]; exact DecPost.none HBB.out
          · have hpb : decide (0 < lf.length) = false := decide_eq_false hp
            have hpd : decide ((0 : Int) < (lf.length : Int)) = false := decide_eq_false (by omega)
            have hpn : lf.length = 0 := by omega
            obtain ⟨rfl, rfl, rfl, rfl⟩ : r1 = acc ∧ r2 = t1.1 ∧ r3 = t2.1 ∧ r4 = 0 := by
              have := HEND.out
              have e3 : decEnd lf ef = 0 := by unfold decEnd; rw [if_pos he, if_neg (by omega)]
              rw [e3, if_neg (by decide)] at this
              simpa using this
            clear he hp HEND
            have hs0 := HD.out.s.c0
            have hs1 := HD.out.s.c1
            have hs2 := HD.out.s.c2
            have hz0 := HD.out.z.c0
            have hz1 := HD.out.z.c1
            have hz2 := HD.out.z.c2
            have hzf0 := HD.out.z.f0
            have hzf1 := HD.out.z.f1
            have hzf2 := HD.out.z.f2
            go_wp2
            refine bodyPost_ret (results_ct rfl _ _ w.heap.size 25 #[.slice A2 r1.length d2, .slice A3 t1.1.length d3, .slice A4 t2.1.length d4] (0, 0) _ rfl (((HD.out.z.set0 (.slice A2 r1.length d2)).set1 (.slice A3 t1.1.length d3)).set2 (.slice A4 t2.1.length d4)) Try.underlying25 rfl (by kernel_rfl)) rfl ?_
            have k1 : ∀ k, (Value.slice A3 t1.1.length d3).ownBlock = some k → z1 ≤ k ∧ k < z2 := HVv1.out.1
            have k2 : ∀ k, (Value.slice A4 t2.1.length d4).ownBlock = some k → z2 ≤ k := HVv2.out.1
            exact ⟨_, _, _, rfl, Kd.S_mono (S_setA (S_setA (S_setA HS.out HD.out.z) (HD.out.z.set0 _)) ((HD.out.z.set0 _).set1 _)) (fun k hk => ⟨fun e => by have := k1 k e.symm; omega, fun e => by have := k2 k e.symm; omega⟩),
              Kd.R_mono (R_setA (R_setA (R_setA HVv1.out HD.out.z) (HD.out.z.set0 _)) ((HD.out.z.set0 _).set1 _)) (fun k hk e => by have := k2 k e.symm; omega),
              Kd.R_mono (R_setA (R_setA (R_setA HVv2.out HD.out.z) (HD.out.z.set0 _)) ((HD.out.z.set0 _).set1 _)) (fun k hk e => by have := k1 k e.symm; omega),
              ((HD.out.b.setCell (p := ⟨w.heap.size, 0, none⟩) (Nat.le_refl _) _).setCell (p := ⟨w.heap.size, 1, none⟩) (Nat.le_refl _) _).setCell (p := ⟨w.heap.size, 2, none⟩) (Nat.le_refl _) _⟩
        · have heb : (ef == 0) = false := by simpa using he
          have he1 : (ef != 0) = true := by simpa using he
          have hed : decide (ef = 0) = false := decide_eq_false he
          obtain ⟨rfl, rfl, rfl, rfl⟩ : r1 = [] ∧ r2 = [] ∧ r3 = [] ∧ r4 = ef := by
            have := HEND.out
            have e3 : decEnd lf ef = ef := by unfold decEnd; rw [if_neg he]
            rw [e3, if_pos he] at this
            simpa using this
          clear he HEND
          have hz := HD.out.z
          have hrd := HD.out.r
          have hb := HD.out.b
          go_upto_region 18 with (fail)
          obtain ⟨wx, hwx⟩ : ∃ wx, wx = wf := ⟨_, rfl⟩
          rw [← hwx] at hz hrd hb ⊢
          clear hr0 hr1 hrf1 hwx HD HS HVv1 HVv2
          have hmix : Try.prog.follows .mixedOrders = true := by kernel_rfl
          refine wp_region_any hmix ?_
          change wpAny _ _ _ _ _ _ _ (World.drew _)
          obtain ⟨wd, hwd⟩ : ∃ wd, wd = wx.drew := ⟨_, rfl⟩
          have hz' : BoxA wd w.heap.size nil3 nil3 nil3 := by rw [hwd]; exact hz
          have hrd' : RdBox wd B (.slice Al' lf.length cl') r4 := by rw [hwd]; exact hrd
          have hb' : Below w.heap.size w wd := by rw [hwd]; exact below_drew1 hb
          rw [← hwd]
          clear hz hrd hb hwd
          have hz0 := hz'.c0
          have hz1 := hz'.c1
          have hz2' := hz'.c2
          have hf0 := hz'.f0
          have hf1 := hz'.f1
          have hf2 := hz'.f2
          have hrc := hrd'.c1
          have hrc2 := (((hrd'.far (p := ⟨w.heap.size, 0, none⟩) (by simp; omega) nil3).far (p := ⟨w.heap.size, 1, none⟩) (by simp; omega) nil3).far (p := ⟨w.heap.size, 2, none⟩) (by simp; omega) nil3).c1
          have HZ := Lib.hid (((hz'.set0 nil3).set1 nil3).set2 nil3)
          have HBB := Lib.hid (((hb'.setCell (p := ⟨w.heap.size, 0, none⟩) (Nat.le_refl _) nil3).setCell (p := ⟨w.heap.size, 1, none⟩) (Nat.le_refl _) nil3).setCell (p := ⟨w.heap.size, 2, none⟩) (Nat.le_refl _) nil3)
          clear hz' hrd' hb'
          refine wpAny_take (i := 0) (v := ?_) rfl (by kernel_rfl) (by kernel_rfl) (by kernel_rfl) (fun _ _ _ h => h) (Or.inl ⟨by rfl, ?_⟩) ?_
          case refine_2 => intro w'; go_simp; try rfl
          refine wpAny_take (i := 1) (v := ?_) rfl (by kernel_rfl) (by kernel_rfl) (by kernel_rfl) (fun _ _ _ h => h) (Or.inl ⟨by rfl, ?_⟩) ?_
          case refine_2 => intro w'; go_simp; try rfl
          refine wpAny_take (i := 2) (v := ?_) rfl (by kernel_rfl) (by kernel_rfl) (by kernel_rfl) (fun _ _ _ h => h) (Or.inl ⟨by rfl, ?_⟩) ?_
          case refine_2 => intro w'; go_simp; try rfl
          refine wpAny_take (i := 3) (v := ?_) rfl (by kernel_rfl) (by kernel_rfl) (by kernel_rfl) (fun _ _ _ h => h) (Or.inl ⟨by rfl, ?_⟩) ?_
          case refine_2 => intro w'; go_simp; try rfl
          refine wpAny_ready (rs := [4, 5]) (by kernel_rfl) (by simp) (AllReady.cons rfl (fun K hK => ?e4_1) (AllReady.cons rfl (fun K hK => ?e5_1) (AllReady.nil)))
          case e4_1 =>
            go_simp
            refine hK _ _ ?_
            clear hK K
            refine wpAny_ready (rs := [5]) (by kernel_rfl) (by simp) (AllReady.cons rfl (fun K hK => ?e5_2) (AllReady.nil))
            case e5_2 =>
              go_simp
              refine hK _ _ ?_
              clear hK K
              refine wpAny_ready (rs := [6]) (by kernel_rfl) (by simp) (AllReady.cons rfl (fun K hK => ?e6_3) (AllReady.nil))
              case e6_3 =>
                go_simp
                refine hK _ _ ?_
                clear hK K
                refine wpAny_done (by kernel_rfl) ?_ _
                go_wp2
                refine bodyPost_ret (results_ct rfl _ _ w.heap.size 25 #[nil3, nil3, nil3] (0, 0) _ rfl HZ.out Try.underlying25 rfl (by kernel_rfl)) rfl ?_
                exact DecPost.none HBB.out
          case e5_1 =>
            go_simp
            refine hK _ _ ?_
            clear hK K
            refine wpAny_ready (rs := [4]) (by kernel_rfl) (by simp) (AllReady.cons rfl (fun K hK => ?e4_4) (AllReady.nil))
            case e4_4 =>
              go_simp
              refine hK _ _ ?_
              clear hK K
              refine wpAny_ready (rs := [6]) (by kernel_rfl) (by simp) (AllReady.cons rfl (fun K hK => ?e6_5) (AllReady.nil))
              case e6_5 =>
                go_simp
                refine hK _ _ ?_
                clear hK K
                refine wpAny_done (by kernel_rfl) ?_ _
                go_wp2
                refine bodyPost_ret (results_ct rfl _ _ w.heap.size 25 #[nil3, nil3, nil3] (0, 0) _ rfl HZ.out Try.underlying25 rfl (by kernel_rfl)) rfl ?_
                exact DecPost.none HBB.out
theorem state_Decode.calls (k : Nat) (A0 : Option Addr) (c0 : Nat) (l0 : List S44) (A1 : Option Addr) (c1 : Nat) (l1 : List Int) (r1 : List (List Int)) (r2 r3 : List Int) (r4 : Int) (w : World)
    (hr0 : Kd.C k44 w A0 l0.length l0) (hc0 : l0.length ≤ c0) (hr1 : Kd.C (Kd.int .u8) w A1 l1.length l1) (hc1 : l1.length ≤ c1) (h : state_Decode.f k l0 l1 = some (r1, r2, r3, r4)) :
    Calls Try.prog 28 #[.slice A0 l0.length c0, .slice A1 l1.length c1] w fun e w' => ∃ v0_ v1_ v2_ : Value, e = .returned (.tuple #[.agg #[v0_, v1_, v2_], .int .i64 r4]) ∧ Kd.S (Kd.slice 3 (Kd.int .i64)) 23 w' w.heap.size (fun k_ => some k_ ≠ (v1_ : Value).ownBlock ∧ some k_ ≠ (v2_ : Value).ownBlock) v0_ r1 ∧ Kd.R (Kd.int .i64) 3 w' w.heap.size (fun k_ => some k_ ≠ (v2_ : Value).ownBlock) v1_ r2 ∧ Kd.R (Kd.int .i64) 3 w' w.heap.size (fun k_ => some k_ ≠ (v1_ : Value).ownBlock) v2_ r3 ∧ Below w.heap.size w w' := by
  unfold state_Decode.f at h
  obtain ⟨vb, hv, h⟩ := Option.bind_eq_some_iff.1 h
  by_cases hok : okDec l0 l1 ∧ (vb = true → (l0.all fun v => decide (mx v.f2 1 ≤ 100000)) = true)
  · rw [if_pos hok] at h
    exact state_Decode.post k vb A0 c0 l0 A1 c1 l1 r1 r2 r3 r4 w hr0 hc0 hr1 hc1 hv hok.1 (Option.some.inj h).symm (fun e v hvl => by have := List.all_eq_true.1 (hok.2 e) v hvl; simpa using this)
  · rw [if_neg hok] at h
    exact absurd h (by simp)
end Go.Proofs.Ytjphfhmkpknfaaa.PAll
