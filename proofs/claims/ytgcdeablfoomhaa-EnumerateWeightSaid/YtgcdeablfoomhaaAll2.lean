/- enumerate.All and what it hands back: the states of a box, as a range meets them. -/
import Derived.Test.YtgcdeablfoomhaaAll1
set_option linter.unusedVariables false
set_option linter.unusedSimpArgs false
namespace Go.Proofs.Ytgcdeablfoomhaa.PAll
open Go.RowKit Go.Proofs.YtgcdeablfoomhaaW.PrintWords Go.Proofs.YtgcdeablfoomhaaW.PrintLast Go.Proofs.YtgcdeablfoomhaaW.PrintMore

set_option maxRecDepth 100000 in
set_option maxHeartbeats 8000000 in
theorem all_bad (vars : List S48) (bv bl bi : Int) (A0 : Option Addr) (c0 : Nat) (Bv Bb l : Nat) (W : World) (hvB : validB vars bv bl bi = false)
    (hv : W.cell? ⟨Bv, 0, none⟩ = some (.slice A0 vars.length c0)) (hc0 : vars.length ≤ c0) (hr : Kd.C k48 W A0 vars.length vars)
    (hb0 : W.cell? ⟨Bb, 0, none⟩ = some (.int .i64 bv)) (hb1 : W.cell? ⟨Bb, 1, none⟩ = some (.int .i64 bl)) (hb2 : W.cell? ⟨Bb, 2, none⟩ = some (.int .i64 bi)) :
    Calls Try.prog 31 #[.func (.yield l) #[] #[], .pointer (some ⟨Bv, 0, none⟩), .pointer (some ⟨Bb, 0, none⟩)] W fun e W' => (∃ v, e = .returned v) ∧ Below W.heap.size W W' := by
  obtain ⟨kv, hkv⟩ := valid_f vars bv bl bi
  rw [hvB] at hkv
  have HR := Lib.hid hr
  have HKV := Lib.hid hkv
  clear hr hkv
  go_enter Try.func31, Try.ntmps31
  go_wp2_with (fail)
  refine (enumerate_valid.calls kv A0 c0 vars bv bl bi false W HR.out hc0 HKV.out).mono ?_
  rintro e w1 ⟨rfl, hb⟩
  have HB1 := Lib.hid hb
  clear hb
  go_wp2
  refine bodyPost_ret (results_none rfl _ _ _) rfl ?_
  exact ⟨⟨_, rfl⟩, HB1.out⟩

theorem cell_of_heap {w : World} {b i : Nat} {c : Array Value} {t : TypeId} {v : Value} (h : w.heap[b]? = some (.cells c t (0, 0))) (hv : c[i]? = some v) : w.cell? ⟨b, i, none⟩ = some v := by
  simp [World.cell?, h, hv]
/-- The states of a box, as a range meets them. -/
theorem seq_all (vars : List S48) (bv bl bi : Int) (A0 : Option Addr) (c0 : Nat) (Bv Bb : Nat) (w : World)
    (hv : w.cell? ⟨Bv, 0, none⟩ = some (.slice A0 vars.length c0)) (hc0 : vars.length ≤ c0) (hr : Kd.C k48 w A0 vars.length vars)
    (hb0 : w.cell? ⟨Bb, 0, none⟩ = some (.int .i64 bv)) (hb1 : w.cell? ⟨Bb, 1, none⟩ = some (.int .i64 bl)) (hb2 : w.cell? ⟨Bb, 2, none⟩ = some (.int .i64 bi)) :
    SeqT Try.prog 31 #[.pointer (some ⟨Bv, 0, none⟩), .pointer (some ⟨Bb, 0, none⟩)] encS GS (fun xs => xs = allO vars bv bl bi) (fun pre => ∃ k, k < (allO vars bv bl bi).length ∧ pre = (allO vars bv bl bi).take (k + 1)) w := by
  intro l J Jx W hbe hJ hJx hY h0
  have mv : ∀ {a : Addr} {x : Value}, w.cell? a = some x → W.cell? a = some x := fun h => (hbe.cell (World.block_lt_of_cell? _ _ h)).trans h
  have hr' := Kd.C_below hr hbe
  cases hvB : validB vars bv bl bi with
  | true => exact all_setup vars bv bl bi A0 c0 Bv Bb l W hvB (mv hv) hc0 hr' (mv hb0) (mv hb1) (mv hb2) J Jx hJ hJx (fun C hC => by subst hC; exact hY) h0
  | false =>
    refine (all_bad vars bv bl bi A0 c0 Bv Bb l W hvB (mv hv) hc0 hr' (mv hb0) (mv hb1) (mv hb2)).mono ?_
    rintro e W' ⟨he, hb⟩
    refine ⟨he, .inl ⟨_, [], ?_, hJ _ _ _ _ _ h0 (StepT.of_below hb) (Grows.refl _ _)⟩⟩
    unfold allO; rw [hvB]; rfl

set_option maxRecDepth 100000 in
set_option maxHeartbeats 8000000 in
theorem all_calls (A0 : Option Addr) (n c0 : Nat) (bv bl bi : Int) (W : World) :
    Calls Try.prog 14 #[.slice A0 n c0, .agg #[.int .i64 bv, .int .i64 bl, .int .i64 bi]] W fun e w' => ∃ Bv Bb, e = .returned (.func (.func 31) #[] #[.pointer (some ⟨Bv, 0, none⟩), .pointer (some ⟨Bb, 0, none⟩)]) ∧
      w'.cell? ⟨Bv, 0, none⟩ = some (.slice A0 n c0) ∧ w'.cell? ⟨Bb, 0, none⟩ = some (.int .i64 bv) ∧ w'.cell? ⟨Bb, 1, none⟩ = some (.int .i64 bl) ∧ w'.cell? ⟨Bb, 2, none⟩ = some (.int .i64 bi) ∧ Below W.heap.size W w' := by
  go_enter Try.func14, Try.ntmps14
  have h1 : ∀ o o' : Obj, ((W.alloc o).alloc o').heap[W.heap.size]? = some o := fun o o' => blk_alloc (World.alloc_heap_new W _) _
  have h2 : ∀ o o' : Obj, ((W.alloc o).alloc o').heap[W.heap.size + 1]? = some o' := fun o o' => by have := World.alloc_heap_new (W.alloc o) o'; rwa [World.size_alloc] at this
  have H1 := Lib.hid h1
  have H2 := Lib.hid h2
  clear h1 h2
  go_wp2
  go_ret
  exact ⟨W.heap.size, W.heap.size + 1, rfl, cell_of_heap (H1.out _ _) rfl, cell_of_heap (H2.out _ _) rfl, cell_of_heap (H2.out _ _) rfl, cell_of_heap (H2.out _ _) rfl, (below_alloc (Below.refl _ _) _).trans ((below_alloc (Below.refl _ _) _).mono (by simp))⟩
end Go.Proofs.Ytgcdeablfoomhaa.PAll
