/- The examples of the chapter hold. -/
import Derived.Test.YtgcdeablfoomhaaAll2
import Derived.Test.YtgcdeablfoomhaaCnt1
import Derived.Test.YtgcdeablfoomhaaRan3
import Derived.Shelf.Abstract
set_option linter.unusedVariables false
set_option linter.unusedSimpArgs false
namespace Go.Proofs.Ytgcdeablfoomhaa.PAll
open Go.RowKit Go.Proofs.YtgcdeablfoomhaaW.PrintWords Go.Proofs.YtgcdeablfoomhaaW.PrintLast Go.Proofs.YtgcdeablfoomhaaW.PrintMore
attribute [local go_sem] Oper.semAt_some

theorem equalIn_func_nil (d : Nat) (w : World) (a : Fn) (b c : Array Value) : (Op.equalIn (d + 1) 30 (.func a b c) .nilFunc).run Try.prog w = .ok false w := by
  simp only [Op.equalIn]
  simp [run_underlying Try.underlying30]
theorem eql_func_nil (w : World) (a : Fn) (b c : Array Value) : (binOp .eql 30 (.func a b c) .nilFunc).run Try.prog w = .ok (.bool false) w := by
  have h := equalIn_func_nil 9999 w a b c
  simp only [binOp]
  simp [Op.equal, Op.maxDepth, h]
def goodS (x : List (List Int)) : Bool := x.dropLast.length == 1 && (x.dropLast.getD 0 []).length == 1
def headS (x : List (List Int)) : Int := (x.dropLast.getD 0 []).getD 0 0
/-- What awake keeps over its range. -/
structure AwI (W : World) (B0 B1 : Nat) (T : Nat → Prop) (pre : List (List (List Int))) (A : World) : Prop where
  o : OutT W T A
  r : OwnB B0 (.cells #[.bool false] 4) T A
  g : ∃ v, OwnB B1 (.cells #[v] 33) T A ∧ Kd.R (Kd.int .i64) 3 A W.heap.size (fun k => ¬ T k) v (pre.map headS)
  l : pre.length ≤ 4
  p : ∀ x ∈ pre, goodS x = true
theorem AwI.abide (W : World) (B0 B1 : Nat) : Abide (AwI W B0 B1) := by
  intro T T' s A B h hs hg
  obtain ⟨v, h1, h2⟩ := h.g
  exact ⟨OutT.abide (β := Unit) W T T' () A B h.o hs hg, OwnB.abide (β := Unit) B0 (fun _ => _) T T' () A B h.r hs hg, ⟨v, OwnB.abide (β := Unit) B1 (fun _ => _) T T' () A B h1 hs hg, ownR_abide h2 hs hg⟩, h.l, h.p⟩
theorem AwI.put {W : World} {B0 B1 : Nat} {T : Nat → Prop} {pre : List (List (List Int))} {A : World} (h : AwI W B0 B1 T pre A) {l : Nat} {o : Obj} (o' : Obj) (hlN : W.heap.size ≤ l) (hl : A.heap[l]? = some o) (ho : o.isCells = false) : AwI W B0 B1 T pre (A.putObj l o') := by
  obtain ⟨v, h1, h2⟩ := h.g
  exact ⟨h.o.put o' hlN, h.r.put o' hl ho, ⟨v, h1.put o' hl ho, R_put h2 o' hl ho⟩, h.l, h.p⟩
theorem AppP.awI {W : World} {B0 B1 : Nat} {T : Nat → Prop} {pre : List (List (List Int))} {x : List (List Int)} {wd w2 w3 : World} {v1 v2 : Value} {q : Int} (h : AppP (Kd.int .i64) W T 3 33 B1 v1 v2 (pre.map headS ++ [q]) wd w2 w3)
    (hI : AwI W B0 B1 T pre wd) (hne : B0 ≠ B1) (hx : goodS x = true) (hh : headS x = q) (hp : pre.length ≤ 3) : AwI W B0 B1 T (pre ++ [x]) w3 :=
  ⟨h.o, h.x _ _ _ hne (by decide) hI.r, ⟨v2, h.b, by have := h.r; rw [← hh] at this; simpa using this⟩, by simp; omega, fun z hz => by
    rcases List.mem_append.1 hz with hz | hz
    · exact hI.p z hz
    · rw [List.mem_singleton.1 hz]; exact hx⟩
/-- .. and where it is left. -/
structure AwX (W : World) (B0 : Nat) (c : Code) (T : Nat → Prop) (pre : List (List (List Int))) (A : World) : Prop where
  c : c = .ret
  n : ¬ (pre.length ≤ 4 ∧ ∀ x ∈ pre, goodS x = true)
theorem AwX.abide (W : World) (B0 : Nat) (c : Code) : Abide (AwX W B0 c) := fun T T' s A B h hs hg => ⟨h.c, h.n⟩
theorem al_c {w : World} {a : Addr} {v : Value} (h : w.cell? a = some v) (o : Obj) : (w.alloc o).cell? a = some v := (World.cell?_alloc_lt _ _ _ (World.block_lt_of_cell? _ _ h)).trans h
theorem aw_stop {W : World} {B0 B1 : Nat} {T : Nat → Prop} {pre : List (List (List Int))} {x : List (List Int)} {A : World} (hI : AwI W B0 B1 T pre A) (hbad : ¬ ((pre ++ [x]).length ≤ 4 ∧ ∀ z ∈ pre ++ [x], goodS z = true)) (a : Act) :
    postT T (AwI W B0 B1) (AwX W B0) (pre ++ [x]) A .ret a (A.setCell ⟨B0, 0, none⟩ (.bool false)) :=
  ⟨KeepsOthers.setCell _ _ _, keepS_set _ _ _ _ hI.r.1, rfl, hbad⟩
theorem tab11_9 : rtab .any (opsOf Try.f11 9) = (true, [([], []), ([], []), ([1], [1]), ([2], [2]), ([3], [3]), ([4], [4]), ([5], [5]), ([6], [6]), ([0, 7], [0, 7]), ([8, 8, 0, 1, 2, 3, 4, 5, 6, 7, 8], [8])]) := by kernel_rfl
theorem bits11_9 : waitsOk (true, [([], []), ([], []), ([1], [1]), ([2], [2]), ([3], [3]), ([4], [4]), ([5], [5]), ([6], [6]), ([0, 7], [0, 7]), ([8, 8, 0, 1, 2, 3, 4, 5, 6, 7, 8], [8])]).2 [0, 0, 2, 6, 14, 30, 62, 126, 255, 511] = true := by decide +kernel
theorem three_new (W : World) (a b c : Obj) : ((((W.alloc a).alloc b).alloc c).heap[W.heap.size]? = some a) ∧ ((((W.alloc a).alloc b).alloc c).heap[W.heap.size + 1]? = some b) ∧ ((((W.alloc a).alloc b).alloc c).heap[W.heap.size + 1 + 1]? = some c) ∧
    Below W.heap.size W (((W.alloc a).alloc b).alloc c) ∧ (((W.alloc a).alloc b).alloc c).heap.size = W.heap.size + 3 := by
  refine ⟨blk_alloc (blk_alloc (World.alloc_heap_new W _) _) _, ?_, ?_, (((Below.refl _ _).alloc (Nat.le_refl _) _).alloc (by simp) _).alloc (by simp; omega) _, by simp⟩
  · have := World.alloc_heap_new (W.alloc a) b
    rw [World.size_alloc] at this
    exact blk_alloc this _
  · have := World.alloc_heap_new ((W.alloc a).alloc b) c
    rwa [World.size_alloc, World.size_alloc] at this
theorem one_decl {w : World} {B : Nat} (x : S48) (h : w.heap[B]? = some (.cells #[.string x.f0, .int .u8 x.f1, .int .i64 x.f2] 48 (0, 0))) : Kd.C k48 w (some ⟨B, 0, none⟩) [x].length [x] := by
  refine ⟨rfl, by simp, fun _ => ⟨_, rfl, fun j p hj => ?_⟩⟩
  match j, hj with
  | 0, hj =>
    obtain rfl : x = p := by simpa using hj
    refine ⟨_, rfl, k48_mk w x, fun i u hu => ?_⟩
    match i, hu with
    | 0, hu => obtain rfl : _ = u := by simpa using hu
               exact cell_of_heap h rfl
    | 1, hu => obtain rfl : _ = u := by simpa using hu
               exact cell_of_heap h rfl
    | 2, hu => obtain rfl : _ = u := by simpa using hu
               exact cell_of_heap h rfl

set_option maxRecDepth 100000 in
set_option maxHeartbeats 8000000 in
theorem awake_calls (W : World) : Calls Try.prog 11 #[] W fun e w' => e = .returned (.bool true) ∧ Below W.heap.size W w' := by
  refine (callsIn_wide (n := 3)).1 ?_
  refine callsIn_of_wp_marks Try.func11 rfl trivial ?_ rfl
  simp only [Try.ntmps11, List.size_toArray, List.length_cons, List.length_nil, Nat.reduceAdd, Nat.reduceSub, Array.replicate_succ, Array.replicate_zero, List.push_toArray, List.append_toArray, List.nil_append, List.cons_append]
  gi_wp2_with (fail)
  obtain ⟨w0, hw0⟩ : ∃ w0, w0 = ((W.alloc (.cells #[.bool false] 4)).alloc (.cells #[.slice none 0 0] 33)).alloc (.cells #[.string ⟨#[120]⟩, .int .u8 1, .int .i64 0] 48) := ⟨_, rfl⟩
  obtain ⟨h0, h1, h2, hb, hsz⟩ := three_new W (.cells #[.bool false] 4) (.cells #[.slice none 0 0] 33) (.cells #[.string ⟨#[120]⟩, .int .u8 1, .int .i64 0] 48)
  rw [← hw0] at h0 h1 h2 hb hsz ⊢
  obtain ⟨B0, hB0⟩ : ∃ b, b = W.heap.size := ⟨_, rfl⟩
  obtain ⟨B1, hB1⟩ : ∃ b, b = W.heap.size + 1 := ⟨_, rfl⟩
  obtain ⟨B2, hB2⟩ : ∃ b, b = W.heap.size + 1 + 1 := ⟨_, rfl⟩
  rw [← hB2, ← hB1, ← hB0]
  rw [← hB0] at h0
  rw [← hB1] at h1
  rw [← hB2] at h2
  have hr := one_decl ⟨⟨#[120]⟩, 1, 0⟩ h2
  have HB := Lib.hid hb
  have HSZ := Lib.hid hsz
  have HBB := Lib.hid (And.intro hB0 (And.intro hB1 hB2))
  have HR := Lib.hid hr
  have HC0 := Lib.hid h0
  have HC1 := Lib.hid h1
  clear hb hsz hB0 hB1 hB2 hr h0 h1 h2 hw0
  refine ⟨trivial, (callsIn_wide.2 (all_calls _ _ _ _ _ _ _)).mono ?_⟩
  rintro e w1 ⟨Bv, Bb, rfl, cv, c0, c1, c2, hb1⟩
  have HS := Lib.hid (seq_all _ 1 0 0 _ _ Bv Bb w1 cv (Nat.le_refl _) (Kd.C_below HR.out hb1) c0 c1 c2)
  have HB1 := Lib.hid hb1
  clear cv c0 c1 c2 hb1
  have hen := eql_func_nil w1 (.func 31) #[] #[.pointer (some ⟨Bv, 0, none⟩), .pointer (some ⟨Bb, 0, none⟩)]
  gi_wp2_with (fail)
  clear hen
  have HSN : Hid (W.heap.size ≤ w1.heap.size) := Lib.hid (Nat.le_trans HB.out.size HB1.out.size)
  refine wpIn_fr ?_
  intro fr hfr
  refine wpIn_rangeFunc_A (gf := 31) (by rw [hfr]; rfl) (enters_of Try.func31 (by kernel_rfl) rfl) HS.out (Below.refl _ _) (fun _ _ => rfl)
    (Ax := AxS fun Bx y => { tmps := (fr.setIfInBounds 13 (.agg #[y.1, y.2, nil3])).setIfInBounds 3 (.pointer (some ⟨Bx, 0, none⟩)), defers := [] }) AxS_put
    (AwI W B0 B1) (AwX W B0) (AwI.abide W B0 B1) (AwX.abide W B0) (fun T s A l o o' h hl ho hc => h.put o' (Nat.le_trans HSN.out hl) ho hc) (fun c T s A l o o' h hl ho hc => ⟨h.c, h.n⟩) ?h0 ?assign ?body ?done ?stop
  case h0 =>
    obtain ⟨e0, e1, e2⟩ := HBB.out
    have hs := HSZ.out
    exact ⟨⟨fun _ h => h.elim, HB.out.trans (HB1.out.mono HB.out.size)⟩, ⟨not_false, (HB1.out.block _ (by omega)).trans HC0.out⟩, ⟨nil3, ⟨not_false, (HB1.out.block _ (by omega)).trans HC1.out⟩, Kd.R_nil _ _ _ _ _⟩, by simp, by simp⟩
  case assign =>
    rintro l z x y W1 K hG hz hK
    obtain ⟨A1, n1, c1, A2, n2, c2, rfl⟩ := GS_slices hG
    subst hfr
    simp only [encS, zip_one, List.setIfInBounds_toArray, List.set_cons_succ, List.set_cons_zero]
    gi_wp2
    exact hK _ _ (below_alloc (Below.refl _ _) _) ⟨W1.heap.size, hz, BoxA.new _ _ _ _, GS_below hG (below_alloc (Below.refl _ _) _), by simp only [List.setIfInBounds_toArray, List.set_cons_succ, List.set_cons_zero]⟩
  case body =>
    rintro l T pre x y a' Az A hI hT hbz ⟨Bx, hBx, hbox, hG, rfl⟩
    have hIA := AwI.abide W B0 B1 T T pre Az A hI (StepT.of_below hbz) (Grows.refl _ _)
    have hTA : ∀ k, T k → k < A.heap.size := fun k hk => Nat.lt_of_lt_of_le (hT k hk) hbz.size
    obtain ⟨v1, hg1z, hgRz⟩ := hI.g
    have hg1 : OwnB B1 (.cells #[v1] 33) T A := ⟨hg1z.1, (hbz.block _ (Array.getElem?_eq_some_iff.1 hg1z.2).1).trans hg1z.2⟩
    have hgR := Kd.R_below hgRz hbz
    obtain ⟨y0, y1⟩ := y
    obtain ⟨hG1, hG2⟩ := hG
    dsimp only at hbox hG1 hG2
    obtain ⟨cs, hcs⟩ : ∃ cs, cs = x.dropLast := ⟨_, rfl⟩
    rw [← hcs] at hG1
    obtain ⟨A1, c1, e1⟩ := Kd.R_slice hG1
    subst e1
    obtain ⟨Ag, cg, e2⟩ := Kd.R_slice hgR
    subst e2
    rw [List.length_map] at hg1 hgR
    have b0 := cell_of_heap (i := 0) hIA.r.2 rfl
    have fz : A.frozen? ⟨B0, 0, none⟩ = false := by simp [World.frozen?, hIA.r.2]
    have b1 := cell_of_heap (i := 0) hg1.2 rfl
    have x0 := hbox.c0
    have HST := Lib.hid (fun hb => aw_stop (x := x) hIA hb)
    have HIA := Lib.hid hIA
    have HTA := Lib.hid hTA
    have HG1 := Lib.hid hg1
    have HGR := Lib.hid hgR
    have HX1 := Lib.hid hG1
    have HCS := Lib.hid hcs
    clear hI hT hbz hbox hG2 hIA hTA hg1 hgR hG1 hcs hBx hg1z hgRz
    subst hfr
    simp only [List.setIfInBounds_toArray, List.set_cons_succ, List.set_cons_zero]
    by_cases hc : cs.length = 1
    · obtain ⟨c0, rfl⟩ : ∃ c0, cs = [c0] := List.length_eq_one_iff.1 hc
      clear hc
      simp only [List.length_cons, List.length_nil, Nat.zero_add] at x0 HX1
      obtain ⟨inner, hown⟩ := Kd.R_own HX1.out
      obtain ⟨g, cap, e3⟩ := ownsRow_succ (k := 0) hown
      injection e3 with e4 e7 e5
      clear e7
      subst e4 e5
      clear hown inner
      obtain ⟨c, hcl, ⟨v3, hv3, hR3⟩, hcc, _⟩ := Kd.R_elem HX1.out [] 0 (by decide) (by decide)
      subst hv3
      have x1 : A.cell? ⟨g, 0, none⟩ = some v3 := by have := hcc 0 v3 rfl; simpa using this
      obtain ⟨A3, c3, e6⟩ := Kd.R_slice hR3
      subst e6
      have hR3' : Kd.R (Kd.int .i64) 3 A Az.heap.size (fun k => True ∧ k ≠ g) (.slice A3 c0.length c3) c0 := hR3
      have x1' : A.cell? ⟨g, 0, none⟩ = some (.slice A3 c0.length c3) := x1
      clear hcl hcc hR3 x1
      by_cases hd : c0.length = 1
      · obtain ⟨q, rfl⟩ : ∃ q, c0 = [q] := List.length_eq_one_iff.1 hd
        simp only [List.length_cons, List.length_nil, Nat.zero_add] at x1' hR3'
        obtain ⟨inner, hown⟩ := Kd.R_own hR3'
        obtain ⟨g3, cap, e3⟩ := ownsRow_succ (k := 0) hown
        injection e3 with e4 e7 e5
        clear e7
        subst e4 e5
        have x2 := (Kd.R_celln 0 hR3' 0 (by decide) (by decide)).1
        replace x2 : A.cell? ⟨g3, 0, none⟩ = some (.int .i64 q) := x2
        clear hown inner hR3' hd
        by_cases hp : pre.length ≤ 3
        · have d3 : decide ((3 : Int) < (pre.length : Int)) = false := decide_eq_false (by omega)
          have d4 : decide (3 < pre.length) = false := decide_eq_false (by omega)
          have hgood : goodS x = true := by unfold goodS; rw [← HCS.out]; rfl
          have hhead : headS x = q := by unfold headS; rw [← HCS.out]; rfl
          have HGD := Lib.hid (And.intro hgood hhead)
          have HP := Lib.hid hp
          have HSD0 := Lib.hid (And.intro b1 (And.intro x0 (And.intro x1' x2)))
          clear hgood hhead hp
          gi_wp2_with (fail)
          refine startR_ (n := 10) (S := fun w' => w'.cell? ⟨B1, 0, none⟩ = some (.slice Ag pre.length cg) ∧ w'.cell? ⟨Bx, 0, none⟩ = some (.slice (some ⟨g, 0, none⟩) 1 c1) ∧ w'.cell? ⟨g, 0, none⟩ = some (.slice (some ⟨g3, 0, none⟩) 1 c3) ∧ w'.cell? ⟨g3, 0, none⟩ = some (.int .i64 q)) (ds := [8, 9]) #[false, false, false, false, false, false, false, false, false, false] (fun ⟨_, _, h⟩ => h) (by kernel_rfl) (by kernel_rfl) rfl rfl HSD0.out (fun hHeld => ?_); refine with_tabW tab11_9 bits11_9 (fun HT_ HW_ => ?_)
          obtain ⟨wd, hwd⟩ : ∃ wd, wd = A.drew := ⟨_, rfl⟩
          have hsd := HSD0.out
          have hid : AwI W B0 B1 T pre wd := by rw [hwd]; exact AwI.abide W B0 B1 T T pre A _ HIA.out (StepT.of_below (below_drew1 (Below.refl _ _))) (Grows.refl _ _)
          have htd : ∀ k, T k → k < wd.heap.size := by rw [hwd]; exact HTA.out
          have hgb : OwnB B1 (.cells #[.slice Ag pre.length cg] 33) T wd := by rw [hwd]; exact HG1.out
          have hrd := Kd.R_drew HGR.out
          rw [← hwd] at hrd
          have hse : A.drew = wd := hwd.symm
          rw [← hwd] at hHeld ⊢
          have HSD := Lib.hid hHeld
          have HID := Lib.hid hid
          have HTD := Lib.hid htd
          have HGB := Lib.hid hgb
          have HRD := Lib.hid hrd
          have HWD := Lib.hid hwd
          clear hwd hid htd hgb hrd hse hsd b0 fz b1 x0 x1' x2
          refine take_ (i := 0) (N := some 31) (v := ?_) (a' := ?_) #[true, false, false, false, false, false, false, false, false, false] rfl rfl (take_ofW HT_.out HW_.out (by kernel_rfl)) (fun _ _ _ h => h) (Or.inl ⟨by rfl, ?_⟩) hHeld ?_ ?_
          rotate_left
          · rintro w' ⟨s0, s1, s2, s3⟩
            go_simp
            with_reducible rfl
          rotate_left
          · simp only [Act.put, List.setIfInBounds_toArray, List.set_cons_zero, List.set_cons_succ, i64_w, i32_w]
            rfl
          refine pure_ (i := 1) (N := some 32) (v := ?_) (a' := ?_) #[true, true, false, false, false, false, false, false, false, false] rfl rfl (any_of HT_.out (by kernel_rfl)) (fun _ _ _ h => h) (Or.inl ⟨by rfl, ?_⟩) ?_ ?_
          rotate_left
          · intro w'
            go_simp
            with_reducible rfl
          rotate_left
          · simp only [Act.put, List.setIfInBounds_toArray, List.set_cons_zero, List.set_cons_succ, i64_w, i32_w]
            rfl
          refine take_ (i := 2) (N := some 33) (v := ?_) (a' := ?_) #[true, true, true, false, false, false, false, false, false, false] rfl rfl (take_ofW HT_.out HW_.out (by kernel_rfl)) (fun _ _ _ h => h) (Or.inl ⟨by rfl, ?_⟩) hHeld ?_ ?_
          rotate_left
          · rintro w' ⟨s0, s1, s2, s3⟩
            go_simp
            with_reducible rfl
          rotate_left
          · simp only [Act.put, List.setIfInBounds_toArray, List.set_cons_zero, List.set_cons_succ, i64_w, i32_w]
            rfl
          refine pure_ (i := 3) (N := some 34) (v := ?_) (a' := ?_) #[true, true, true, true, false, false, false, false, false, false] rfl rfl (any_of HT_.out (by kernel_rfl)) (fun _ _ _ h => h) (Or.inl ⟨by rfl, ?_⟩) ?_ ?_
          rotate_left
          · intro w'
            go_simp
            with_reducible rfl
          rotate_left
          · simp only [Act.put, List.setIfInBounds_toArray, List.set_cons_zero, List.set_cons_succ, i64_w, i32_w]
            rfl
          refine take_ (i := 4) (N := some 35) (v := ?_) (a' := ?_) #[true, true, true, true, true, false, false, false, false, false] rfl rfl (take_ofW HT_.out HW_.out (by kernel_rfl)) (fun _ _ _ h => h) (Or.inl ⟨by rfl, ?_⟩) hHeld ?_ ?_
          rotate_left
          · rintro w' ⟨s0, s1, s2, s3⟩
            go_simp
            with_reducible rfl
          rotate_left
          · simp only [Act.put, List.setIfInBounds_toArray, List.set_cons_zero, List.set_cons_succ, i64_w, i32_w]
            rfl
          refine pure_ (i := 5) (N := some 36) (v := ?_) (a' := ?_) #[true, true, true, true, true, true, false, false, false, false] rfl rfl (any_of HT_.out (by kernel_rfl)) (fun _ _ _ h => h) (Or.inl ⟨by rfl, ?_⟩) ?_ ?_
          rotate_left
          · intro w'
            go_simp
            with_reducible rfl
          rotate_left
          · simp only [Act.put, List.setIfInBounds_toArray, List.set_cons_zero, List.set_cons_succ, i64_w, i32_w]
            rfl
          refine take_ (i := 6) (N := some 37) (v := ?_) (a' := ?_) #[true, true, true, true, true, true, true, false, false, false] rfl rfl (take_ofW HT_.out HW_.out (by kernel_rfl)) (fun _ _ _ h => h) (Or.inl ⟨by rfl, ?_⟩) hHeld ?_ ?_
          rotate_left
          · rintro w' ⟨s0, s1, s2, s3⟩
            go_simp
            with_reducible rfl
          rotate_left
          · simp only [Act.put, List.setIfInBounds_toArray, List.set_cons_zero, List.set_cons_succ, i64_w, i32_w]
            rfl
          refine one_ (i := 7) (N := some 38) #[true, true, true, true, true, true, true, true, false, false] rfl rfl (one_of HT_.out (by kernel_rfl)) (by decide) (fun K hK => ?_)
          refine value_ (w1 := ?_) (v := ?_) (by rfl) rfl ?_ ?_
          rotate_left 2
          · go_simp
            constructor
            · rfl
            · rfl
          refine hK.out _ _ ⟨al_c HSD.out.1 _, al_c HSD.out.2.1 _, al_c HSD.out.2.2.1 _, al_c HSD.out.2.2.2 _⟩ (fun hHeld => ?_)
          clear hK K
          refine norm_ (a' := ?_) ?_ ?_
          rotate_left
          · show Act.put _ (some 38) _ = _
            simp only [Act.put, List.setIfInBounds_toArray, List.set_cons_zero, List.set_cons_succ, i64_w, i32_w]
            rfl
          refine last_ (i := 8) (N := some 39) #[true, true, true, true, true, true, true, true, true, false] rfl rfl (one_of HT_.out (by kernel_rfl)) (by decide) (fun K hK => ?_)
          refine Kd.R_append_step (Kd.int .i64) (w0 := W) W.heap.size (by rfl) (.tmp 31) (.tmp 38) 33 3 (.int .i64 0) 8 rfl Try.underlying33 info3 rfl (by decide) (by omega) (.slice Ag pre.length cg) (pre.map headS) q [.int .i64 q] (fun k => ¬ T k) (fun _ => False) rfl rfl rfl (fun _ h => h.elim) (fun k hk ht => by have := HTD.out k ht; omega) HRD.out HID.out.o.b HID.out.o.b.size (by have := HP.out; rw [List.length_map]; omega) ?_
          intro v2 w2 ho2 hb2 hg2 hat2
          have hap := own_app (d := Kd.int .i64) (by have := HBB.out; omega) HID.out.o HTD.out HGB.out (by decide) HRD.out ho2 hb2 hg2
          obtain ⟨A2, c2, e2⟩ := Kd.R_slice ho2
          subst e2
          rw [List.length_append, List.length_map, List.length_singleton] at hap
          have hfr := hap.fr
          have hcc := hap.ce
          have HAP0 := Lib.hid hap
          clear ho2 hb2 hg2 hat2 hap
          refine hK.out _ _ ?_
          clear hK K
          refine norm_ (a' := ?_) ?_ ?_
          rotate_left
          · show Act.put _ (some 39) _ = _
            simp only [Act.put, List.setIfInBounds_toArray, List.set_cons_zero, List.set_cons_succ, i64_w, i32_w]
            rfl
          refine last_ (i := 9) (N := none) #[true, true, true, true, true, true, true, true, true, true] rfl rfl (one_of HT_.out (by kernel_rfl)) (by decide) (fun K hK => ?_)
          refine skip_ (w1 := ?_) (by rfl) rfl ?_ ?_
          rotate_left
          · go_simp
            rfl
          refine hK.out _ _ ?_
          clear hfr hcc
          obtain ⟨w3, hw3⟩ : ∃ w3, w3 = w2.setCell ⟨B1, 0, none⟩ (.slice A2 (pre.length + 1) c2) := ⟨_, rfl⟩
          have hap := HAP0.out
          rw [← hw3] at hap
          rw [← hw3]
          have haw := hap.awI HID.out (by have := HBB.out; omega) HGD.out.1 HGD.out.2 HP.out
          have HAP := Lib.hid hap
          have HAW := Lib.hid haw
          clear hap haw HAP0 hw3
          clear hK K
          refine done_ (done_of HT_.out (by kernel_rfl)) ?_
          exact ⟨by have h := HAP.out.ot; rw [HWD.out] at h; exact (KeepsOthers.drew A).trans h, by have h := HAP.out.ks; rw [HWD.out] at h; exact KeepS.trans ⟨Nat.le_refl _, fun _ _ => rfl⟩ h, HAW.out⟩
        · have d3 : decide ((3 : Int) < (pre.length : Int)) = true := decide_eq_true (by omega)
          have d4 : decide (3 < pre.length) = true := decide_eq_true (by omega)
          have hbad : ¬ ((pre ++ [x]).length ≤ 4 ∧ ∀ z ∈ pre ++ [x], goodS z = true) := fun h => by
            have := h.1
            simp at this
            omega
          have HBAD := Lib.hid (HST.out hbad)
          clear hbad hp x2
          gi_wp2
          exact HBAD.out _
      · have d2 : ((c0.length : Int) != 1) = true := by simp; omega
        have hbad : ¬ ((pre ++ [x]).length ≤ 4 ∧ ∀ z ∈ pre ++ [x], goodS z = true) := fun h => by
          have := h.2 x (by simp)
          unfold goodS at this
          rw [← HCS.out] at this
          simp [hd] at this
        have HBAD := Lib.hid (HST.out hbad)
        clear hbad hd b1 hR3'
        gi_wp2
        exact HBAD.out _
    · have d1 : ((cs.length : Int) != 1) = true := by simp; omega
      have hbad : ¬ ((pre ++ [x]).length ≤ 4 ∧ ∀ z ∈ pre ++ [x], goodS z = true) := fun h => by
        have := h.2 x (by simp)
        unfold goodS at this
        rw [← HCS.out] at this
        simp [hc] at this
      have HBAD := Lib.hid (HST.out hbad)
      clear hbad hc b1
      gi_wp2
      exact HBAD.out _
  case done =>
    rintro D T xs W2 hD rfl hI hK
    have hall : allO [⟨⟨#[120]⟩, 1, 0⟩] 1 0 0 = [[[0], []], [[1], []], [[-1], []]] := by decide +kernel
    rw [hall] at hI
    obtain ⟨v, hg1, hgR⟩ := hI.g
    replace hgR : Kd.R (Kd.int .i64) 3 W2 W.heap.size (fun k => ¬ T k) v [0, 1, -1] := hgR
    have HI := Lib.hid hI
    have HG1 := Lib.hid hg1
    have HGR := Lib.hid hgR
    have HK := Lib.hid hK
    have HD := Lib.hid hD
    clear hall hI hg1 hgR hK hD
    subst hfr
    gi_wp2_with (fail)
    obtain ⟨w4, hw4⟩ : ∃ w4, w4 = W2.alloc (.cells #[.string ⟨#[118]⟩, .int .u8 2, .int .i64 2] 48) := ⟨_, rfl⟩
    obtain ⟨B4, hB4⟩ : ∃ b, b = W2.heap.size := ⟨_, rfl⟩
    rw [← hw4, ← hB4]
    have hn4 : w4.heap[B4]? = some (.cells #[.string ⟨#[118]⟩, .int .u8 2, .int .i64 2] 48 (0, 0)) := by rw [hw4, hB4]; exact World.alloc_heap_new W2 _
    have hb4 : Below W2.heap.size W2 w4 := by rw [hw4]; exact below_alloc (Below.refl _ _) _
    have hr4 := one_decl ⟨⟨#[118]⟩, 2, 2⟩ hn4
    clear hw4 hB4 hn4
    refine ⟨trivial, (callsIn_wide.2 (count_calls _ _ _ _ _ _ _ (Nat.le_refl _) hr4)).mono ?_⟩
    rintro e w5 ⟨rfl, hb5⟩
    have hcn : cntN [⟨⟨#[118]⟩, 2, 2⟩] 2 0 1 = 150 := by decide +kernel
    have hce : cntE [⟨⟨#[118]⟩, 2, 2⟩] 2 0 1 = 0 := by decide +kernel
    rw [hcn, hce]
    have hbb := hb4.trans (hb5.mono hb4.size)
    have hgR5 := Kd.R_below HGR.out hbb
    obtain ⟨inner, hown⟩ := Kd.R_own hgR5
    obtain ⟨g, cap, rfl⟩ := ownsRow_succ (k := 2) hown
    have i0 := (Kd.R_celln 0 hgR5 0 (by decide) (by decide)).1
    have i1 := (Kd.R_celln 0 hgR5 1 (by decide) (by decide)).1
    have i2 := (Kd.R_celln 0 hgR5 2 (by decide) (by decide)).1
    replace i0 : w5.cell? ⟨g, 0, none⟩ = some (.int .i64 0) := i0
    replace i1 : w5.cell? ⟨g, 1, none⟩ = some (.int .i64 1) := i1
    replace i2 : w5.cell? ⟨g, 2, none⟩ = some (.int .i64 (-1)) := i2
    have hlt : ∀ {B : Nat} {o : Obj}, W2.heap[B]? = some o → B < W2.heap.size := fun h => (Array.getElem?_eq_some_iff.1 h).1
    have h5 := (hbb.block _ (hlt HG1.out.2)).trans HG1.out.2
    have h6 := (hbb.block _ (hlt HI.out.r.2)).trans HI.out.r.2
    have b1 := cell_of_heap (i := 0) h5 rfl
    have b0 := cell_of_heap (i := 0) h6 rfl
    have fz : w5.frozen? ⟨B0, 0, none⟩ = false := by simp [World.frozen?, h6]
    have hK5 : w5.heap[D]? = some (.deferred (some [])) := (hbb.block _ (hlt HK.out)).trans HK.out
    have HH6 := Lib.hid h6
    have HK5 := Lib.hid hK5
    have HB5 := Lib.hid (HI.out.o.b.trans (hbb.mono HI.out.o.b.size))
    clear hcn hce hb4 hr4 hb5 hbb hgR5 hown inner hlt h5 h6 hK5
    gi_wp2
    have hKF := (KeepsOthers.setCell w5 ⟨B0, 0, none⟩ (.bool true)).same D _ HK5.out rfl
    refine ⟨by simp, .inl ⟨_, _, rfl, run_takeDeferred hKF, ?_⟩⟩
    have hcF := cell_of_heap (i := 0) (box_put (heap_setCell_same w5 B0 0 _ 4 (.bool true) HH6.out) (.deferred none) hKF rfl) rfl
    have hB0N : W.heap.size ≤ B0 := by have := HBB.out; omega
    have hbF := HB5.out.setCell (p := ⟨B0, 0, none⟩) hB0N (.bool true)
    have hbG := (OutT.put (T := fun _ => False) ⟨fun _ h => h.elim, hbF⟩ (.deferred none) (Nat.le_trans HSN.out HD.out)).b
    exact ⟨.bool true, by simp [results, Try.f11, go_sem, hcF], rfl, hbG⟩
  case stop =>
    rintro D c T pre W2 hD ⟨k, hk, rfl⟩ hx hK
    have hall : allO [⟨⟨#[120]⟩, 1, 0⟩] 1 0 0 = [[[0], []], [[1], []], [[-1], []]] := by decide +kernel
    have hn := hx.n
    rw [hall] at hn hk
    refine absurd ⟨?_, ?_⟩ hn
    · simp; omega
    · intro z hz
      have hz := List.mem_of_mem_take hz
      simp at hz
      rcases hz with rfl | rfl | rfl <;> rfl
end Go.Proofs.Ytgcdeablfoomhaa.PAll
