/- pebble.Bennett: Bennett's strategy in a new slice and OK, or an empty slice and the error 2; nothing that was there changes. -/
import Derived.Test.YtpkamififbhheaaBenW
import Derived.Laws.EntriesVeiled
set_option linter.unusedVariables false
set_option linter.unusedSimpArgs false
namespace Go.Proofs.Ytpkamififbhheaa
open Go.RowKit Go.Shelf Go.Proofs.YtpkamififbhheaaW.PrintWords

namespace PAll
/-- What pebble.Bennett comes to. -/
def pebble_Bennett.f (n k : Int) : Option (List Int × Int) :=
  if n < 1 ∨ 500 < n ∨ k < 2 ∨ 500 < k then some ([], 2) else if (strat k n.toNat 0 n).length ≤ 8589934592 then some (strat k n.toNat 0 n, 0) else none

set_option maxRecDepth 100000 in
set_option maxHeartbeats 2000000 in
theorem pebble_Bennett.calls (a0 a1 : Int) (r1 : List Int) (r2 : Int) (w : World) (h : pebble_Bennett.f a0 a1 = some (r1, r2)) :
    Calls Try.prog 12 #[.int .i64 a0, .int .i64 a1] w fun e w' => ∃ v0_ : Value, e = .returned (.tuple #[v0_, .int .i64 r2]) ∧ Kd.R (Kd.int .i64) 3 w' w.heap.size (fun _ => True) v0_ r1 ∧ Below w.heap.size w w' := by
  unfold pebble_Bennett.f at h
  have fin : ∀ (W : World), Below w.heap.size w W → ∃ v0_ : Value, Ending.returned (.tuple #[.slice none 0 0, .int .i64 2]) = .returned (.tuple #[v0_, .int .i64 2]) ∧ Kd.R (Kd.int .i64) 3 W w.heap.size (fun _ => True) v0_ [] ∧ Below w.heap.size w W :=
    fun W hW => ⟨_, rfl, Kd.R_nil _ _ _ _ _, hW⟩
  have hB1 : Below w.heap.size w (w.alloc (.cells #[.int .i64 a1] 3)) := (Below.refl _ _).alloc (Nat.le_refl _) _
  by_cases h1 : a0 < 1
  · rw [if_pos (.inl h1)] at h
    obtain ⟨rfl, rfl⟩ : [] = r1 ∧ (2 : Int) = r2 := by simpa using h
    go_enter Try.func12, Try.ntmps12
    go_wp2
    go_ret2
    exact fin _ hB1
  by_cases h2 : 500 < a0
  · rw [if_pos (.inr (.inl h2))] at h
    obtain ⟨rfl, rfl⟩ : [] = r1 ∧ (2 : Int) = r2 := by simpa using h
    go_enter Try.func12, Try.ntmps12
    go_wp2
    go_ret2
    exact fin _ hB1
  by_cases h3 : a1 < 2
  · rw [if_pos (.inr (.inr (.inl h3)))] at h
    obtain ⟨rfl, rfl⟩ : [] = r1 ∧ (2 : Int) = r2 := by simpa using h
    go_enter Try.func12, Try.ntmps12
    go_wp2
    go_ret2
    exact fin _ hB1
  by_cases h4 : 500 < a1
  · rw [if_pos (.inr (.inr (.inr h4)))] at h
    obtain ⟨rfl, rfl⟩ : [] = r1 ∧ (2 : Int) = r2 := by simpa using h
    go_enter Try.func12, Try.ntmps12
    go_wp2
    go_ret2
    exact fin _ hB1
  rw [if_neg (by omega)] at h
  split at h
  case isFalse => cases h
  rename_i hl
  obtain ⟨rfl, rfl⟩ : strat a1 a0.toNat 0 a0 = r1 ∧ (0 : Int) = r2 := by simpa using h
  clear h fin hB1
  have hb1 := Boxed.new w 3 (.int .i64 a1)
  have hb2 := Boxed.new (w.alloc (.cells #[.int .i64 a1] 3)) 44 (stratV w.heap.size (w.heap.size + 1))
  rw [World.size_alloc] at hb2
  have hl' := Lib.hid hl
  clear hl
  go_enter Try.func12, Try.ntmps12
  go_wp2_with fail
  refine (strat_all a1 (by omega) (by omega) a0.toNat 0 a0 _ w.heap.size (w.heap.size + 1) (by omega) (by omega) (by omega) (by omega) (by omega) hl'.out (hb1.alloc _) hb2).mono ?_
  rintro e w1 ⟨v, rfl, hv, hb⟩
  have hsz := hb.size
  simp only [World.size_alloc] at hv hb hsz
  go_wp2
  go_ret2
  refine ⟨_, rfl, Kd.R_lower hv (by omega), ?_⟩
  exact (((Below.refl _ w).alloc (Nat.le_refl _) _).alloc (by simp) _).trans (hb.mono (by omega))
end PAll

end Go.Proofs.Ytpkamififbhheaa
