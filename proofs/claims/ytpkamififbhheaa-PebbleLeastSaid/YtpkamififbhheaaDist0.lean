/- Configurations of at most 8 nodes as numbers below 256; tables of distances. -/
import Derived.Test.YtpkamififbhheaaGame
namespace Go.Proofs.Ytpkamififbhheaa.Pure

/-- The number of pebbles. -/
def pop (c : Nat) : Nat := (List.range 8).foldl (fun s i => if c.testBit i then s + 1 else s) 0
/-- A table is fair: 0 at the goal, and a move within p pebbles changes it by at most one. -/
def fair (n p : Nat) (D : List Nat) : Bool :=
  D.getD (2 ^ (n - 1)) 1 == 0 && (List.range (2 ^ n)).all fun c => (List.range n).all fun m =>
    !((m == 0 || c.testBit (m - 1)) && decide (pop c ≤ p) && decide (pop (c ^^^ 2 ^ m) ≤ p)) || decide (D.getD c 0 ≤ D.getD (c ^^^ 2 ^ m) 0 + 1)
theorem pop_flip : ∀ c : Fin 256, ∀ m : Fin 8, pop (c.1 ^^^ 2 ^ m.1) + (if c.1.testBit m.1 then 1 else 0) = pop c.1 + (if c.1.testBit m.1 then 0 else 1) := by decide +kernel
theorem pop_le : ∀ c : Fin 256, pop c.1 ≤ 8 := by decide +kernel
end Go.Proofs.Ytpkamififbhheaa.Pure
