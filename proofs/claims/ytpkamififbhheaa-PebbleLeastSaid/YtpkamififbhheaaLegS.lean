/- What pebble.Legal comes to: plain functions on lists; and a map of whole numbers to bools that a call made, as a function. -/
import Derived.Test.YtpkamififbhheaaProg
import Derived.Test.YtpkamififbhheaaWWords
import Derived.Maps.OwnSet
import Derived.Maps.RangeWalk
import Derived.KernelRfl
set_option linter.unusedVariables false
set_option linter.unusedSimpArgs false
namespace Go.Proofs.Ytpkamififbhheaa
open Go.Maps Go.RowKit

def nodeOf (m : Int) : Int := if m < wrap64 (-m) then wrap64 (-m) else m
def onOf (ps : List Int) (x : Int) : Bool := x == 0 || ps.contains x
def updOn (ps : List Int) (node m : Int) : List Int := if 0 < m then node :: ps else ps.filter fun x => x != node
def badMove (n : Int) (ps : List Int) (m : Int) : Bool :=
  decide (nodeOf m < 1) || decide (n < nodeOf m) || (onOf ps (nodeOf m) == decide (0 < m)) || !onOf ps (nodeOf m - 1)
def legalGo (n : Int) : Int → List Int → List Int → Int × Bool
  | i, ps, [] => (i, if ps.any fun x => x != n then false else decide (1 ≤ n) && onOf ps n)
  | i, ps, m :: ms => if badMove n ps m then (i, false) else legalGo n (i + 1) (updOn ps (nodeOf m) m) ms

theorem onOf_upd (ps : List Int) (node m x : Int) (h1 : 1 ≤ node) : onOf (updOn ps node m) x = if x = node then decide (0 < m) else onOf ps x := by
  unfold onOf updOn
  by_cases hx : x = node
  · subst hx
    rw [if_pos rfl]
    have h0 : (x == 0) = false := by simp; omega
    by_cases hm : 0 < m
    · simp [hm]
    · simp [hm, h0]
  · rw [if_neg hx]
    by_cases hm : 0 < m
    · simp [hm, hx]
    · simp [hm, hx]
theorem upd_pos {ps : List Int} (h : ∀ x ∈ ps, 1 ≤ x ∧ x ≤ 9223372036854775807) {node m : Int} (h1 : 1 ≤ node) (h2 : node ≤ 9223372036854775807) : ∀ x ∈ updOn ps node m, 1 ≤ x ∧ x ≤ 9223372036854775807 := by
  unfold updOn
  intro x hx
  split at hx
  · rcases List.mem_cons.1 hx with rfl | hx
    · exact ⟨h1, h2⟩
    · exact h x hx
  · exact h x (List.mem_filter.1 hx).1

/-- Block B of w is a map that holds, for each whole number, what 'on' says (what it lacks is false). -/
def OnMap (w : World) (B n : Nat) (on : Int → Bool) : Prop :=
  ∃ D : DataW Unit, w.ownsMap Try.prog 3 (plainElem Try.prog 4) B n D ∧ ∀ x : Int, (Lit.int .i64 x).wf = true → D.atKey (.int .i64 x) (.lit (.bool false)) = .lit (.bool (on x))
theorem zeroBool (w : World) : (zeroValue 4).run Try.prog w = .ok (.bool false) w := by kernel_rfl
theorem plainBool_inv {v : Value} {y : DataW Unit × List MemPlace} (h : plainElem (H := Unit) Try.prog 4 v = some y) : ∃ c, v = .bool c ∧ y.1 = .lit (.bool c) := by
  unfold plainElem at h
  rw [Try.underlying4] at h
  cases v <;> simp at h
  subst h
  exact ⟨_, rfl, rfl⟩
theorem OnMap.look {w : World} {B n : Nat} {on : Int → Bool} (h : OnMap w B n on) (x : Int) (hx : (Lit.int .i64 x).wf = true) : (Instr.lookup 54 (.map (some B)) (.int .i64 x) false).run Try.prog w = .ok (.bool (on x)) w := by
  obtain ⟨D, hD, hon⟩ := h
  obtain ⟨v, ps, hrun, hv⟩ := hD.lookup (int_keyed Try.underlying3) Try.underlying54 (zeroBool w) (plainElem_bool Try.underlying4 false) (keyOf_int_mk Try.underlying3 hx)
  rw [hon x hx] at hv
  rw [hrun]
  unfold plainElem at hv
  rw [Try.underlying4] at hv
  cases v <;> simp at hv
  rw [hv.1]
theorem OnMap.upd {w : World} {B n : Nat} {on : Int → Bool} (h : OnMap w B n on) (hn : n < maxLen) (x : Int) (hx : (Lit.int .i64 x).wf = true) (b : Bool) :
    ∃ w', (Instr.mapUpdate 54 (.map (some B)) (.int .i64 x) (.bool b)).run Try.prog w = .ok () w' ∧ OnMap w' B (n + 1) (fun y => if y = x then b else on y) ∧ w.grownBy w' (some B) := by
  obtain ⟨D, hD, hon⟩ := h
  obtain ⟨w', hrun, hD', hg⟩ := hD.update (int_keyed Try.underlying3) Try.underlying54 hn (keyOf_int_mk Try.underlying3 hx) (plainElem_bool Try.underlying4 b)
  refine ⟨w', hrun, ⟨_, hD', fun y hy => ?_⟩, hg⟩
  show _ = DataW.lit (.bool (if y = x then b else on y))
  by_cases e : y = x
  · subst e
    rw [if_pos rfl, atKey_put_same hD.isMap (by first | trivial | exact ⟨_, _, rfl⟩ | simp [WideAt.IsKeyLit])]
  · rw [if_neg e, atKey_put_other (by intro h; cases h; exact e rfl)]
    exact hon y hy
theorem OnMap.made (w : World) : OnMap (w.alloc (.map #[] 0)) w.heap.size 0 (fun _ => false) :=
  ⟨.map [], World.ownsMap_made _ _ _ _, fun _ _ => rfl⟩
theorem OnMap.congr {w : World} {B n : Nat} {on on' : Int → Bool} (h : OnMap w B n on) (he : ∀ x, on x = on' x) : OnMap w B n on' := by
  obtain ⟨D, hD, hon⟩ := h
  exact ⟨D, hD, fun x hx => by rw [hon x hx, he]⟩
end Go.Proofs.Ytpkamififbhheaa
