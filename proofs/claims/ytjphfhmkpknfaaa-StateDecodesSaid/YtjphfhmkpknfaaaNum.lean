/- The number that bytes give, most significant first. -/
import Derived.Test.YtjphfhmkpknfaaaRea
import Derived.Laws.BitsLemmas
set_option linter.unusedVariables false
set_option linter.unusedSimpArgs false
namespace Go.Proofs.Ytjphfhmkpknfaaa.PAll
open Go.RowKit Go.Proofs.YtjphfhmkpknfaaaW.PrintWords Go.Proofs.YtjphfhmkpknfaaaW.PrintLast Go.Proofs.YtjphfhmkpknfaaaW.PrintMore

theorem u64_wrap (n : Int) : IntKind.u64.wrap n = n % 18446744073709551616 := by simp [IntKind.wrap, IntKind.bits, IntKind.signed]
theorem u64_wraps (n : Int) (h0 : 0 ≤ n) (h1 : n < 2 ^ 64) : IntKind.u64.wrap n = n := by
  rw [u64_wrap]
  have : (2 : Int) ^ 64 = 18446744073709551616 := by decide
  omega
theorem or_step (a c : Int) (ha : 0 ≤ a) (ha1 : a < 72057594037927936) (hc : 0 ≤ c) (hc1 : c < 256) : Go.bits .or .u64 (IntKind.u64.wrap (a * 256)) (IntKind.u64.wrap c) = a * 256 + c := by
  have e64 : (2 : Int) ^ 64 = 18446744073709551616 := by decide
  have e8 : (2 : Int) ^ 8 = 256 := by decide
  rw [u64_wraps (a * 256) (by omega) (by omega), u64_wraps c hc (by omega)]
  exact bits_join .u64 64 (by decide) u64_wraps 8 (a * 256) c (by omega) (by rw [e8]; omega) (by omega) hc (by rw [e8]; omega) (by omega)
/-- Bytes, as numbers. -/
def areB (l : List Int) : Prop := ∀ x ∈ l, 0 ≤ x ∧ x < 256
def valF (a : Int) (b : List Int) : Int := b.foldl (fun a c => a * 256 + c) a
theorem fold_val : ∀ (b : List Int) (a : Int) (n : Nat), areB b → 0 ≤ a → a < 256 ^ n → n + b.length ≤ 8 → b.foldl (fun x c => Go.bits .or .u64 (IntKind.u64.wrap (x * 256)) (IntKind.u64.wrap c)) a = valF a b ∧ 0 ≤ valF a b ∧ valF a b < 256 ^ (n + b.length)
  | [], a, n, _, h0, h1, _ => ⟨rfl, h0, by simpa [valF] using h1⟩
  | c :: b, a, n, hb, h0, h1, hn => by
    have hc := hb c List.mem_cons_self
    have hn7 : n ≤ 7 := by simp at hn; omega
    have hp : (256 : Int) ^ n ≤ 256 ^ 7 := (by decide : ∀ m : Fin 8, (256 : Int) ^ (m : Nat) ≤ 256 ^ 7) ⟨n, by omega⟩
    have e7 : (256 : Int) ^ 7 = 72057594037927936 := by decide
    have hlt : a * 256 + c < 256 ^ (n + 1) := by rw [Int.pow_succ]; omega
    have ih := fold_val b (a * 256 + c) (n + 1) (fun x hx => hb x (List.mem_cons_of_mem _ hx)) (by omega) hlt (by simp at hn; omega)
    rw [List.foldl_cons, or_step a c h0 (by omega) hc.1 hc.2]
    have e : valF a (c :: b) = valF (a * 256 + c) b := rfl
    rw [e, List.length_cons, show n + (b.length + 1) = n + 1 + b.length by omega]
    exact ih
theorem numF_val {b : List Int} (hb : areB b) (hl : b.length ≤ 8) : numF b = wrap64 (valF 0 b) ∧ 0 ≤ valF 0 b ∧ valF 0 b < 256 ^ b.length := by
  have h := fold_val b 0 0 hb (by omega) (by decide) (by omega)
  unfold numF
  rw [h.1]
  refine ⟨rfl, h.2.1, ?_⟩
  have := h.2.2
  rwa [Nat.zero_add] at this
theorem areB_take {l : List Int} (h : areB l) (n : Nat) : areB (l.take n) := fun x hx => h x (List.mem_of_mem_take hx)
theorem areB_drop {l : List Int} (h : areB l) (n : Nat) : areB (l.drop n) := fun x hx => h x (List.mem_of_mem_drop hx)
theorem numF_two {l : List Int} (hb : areB l) : 0 ≤ numF (l.take 2) ∧ numF (l.take 2) < 65536 := by
  have hl : (l.take 2).length ≤ 2 := by rw [List.length_take]; omega
  obtain ⟨h1, h2, h3⟩ := numF_val (areB_take hb 2) (by omega)
  have hp : (256 : Int) ^ (l.take 2).length ≤ 256 ^ 2 := (by decide : ∀ m : Fin 3, (256 : Int) ^ (m : Nat) ≤ 256 ^ 2) ⟨(l.take 2).length, by omega⟩
  have e2 : (256 : Int) ^ 2 = 65536 := by decide
  rw [h1, wrap64_of' (by omega) (by omega)]
  omega
theorem cntF_ok (most : Int) {b : List Int} (e : Int) (hb : areB b) (hm : 0 ≤ most) : 0 ≤ (cntF most b e).1 ∧ (cntF most b e).1 ≤ most ∧ areB (cntF most b e).2.1 ∧ (cntF most b e).2.1.length ≤ b.length := by
  unfold cntF
  split
  · exact ⟨Int.le_refl _, hm, hb, Nat.le_refl _⟩
  · split
    · exact ⟨Int.le_refl _, hm, hb, Nat.le_refl _⟩
    · have := numF_two hb
      split
      · exact ⟨Int.le_refl _, hm, areB_drop hb 2, by rw [List.length_drop]; omega⟩
      · exact ⟨this.1, by omega, areB_drop hb 2, by rw [List.length_drop]; omega⟩
theorem lstF_ok : ∀ (n : Nat) (acc : List Int) {b : List Int} (e : Int), areB b → areB (lstF n acc b e).2.1 ∧ (lstF n acc b e).2.1.length ≤ b.length ∧ (lstF n acc b e).1.length ≤ acc.length + n
  | 0, acc, b, e, hb => ⟨hb, Nat.le_refl _, Nat.le_refl _⟩
  | n + 1, acc, b, e, hb => by
    rw [lstF_succ]
    split
    · exact ⟨hb, Nat.le_refl _, by simp⟩
    · split
      · exact ⟨hb, Nat.le_refl _, by simp⟩
      · obtain ⟨h1, h2, h3⟩ := lstF_ok n (acc ++ [numF (b.take 8)]) 0 (areB_drop hb 8)
        refine ⟨h1, Nat.le_trans h2 (by rw [List.length_drop]; omega), Nat.le_trans h3 (by rw [List.length_append]; simp; omega)⟩

/-! #### what Decode does -/
def rowN (v : S44) (b : List Int) (e : Int) : Int × List Int × Int := if v.f1 = 3 then cntF 1000 b e else (mx v.f2 1, b, e)
def decCells : List S44 → List (List Int) → List Int → Int → List (List Int) × List Int × Int
  | [], acc, b, e => (acc, b, e)
  | v :: vs, acc, b, e => decCells vs (acc ++ [(lstF (rowN v b e).1.toNat [] (rowN v b e).2.1 (rowN v b e).2.2).1]) (lstF (rowN v b e).1.toNat [] (rowN v b e).2.1 (rowN v b e).2.2).2.1 (lstF (rowN v b e).1.toNat [] (rowN v b e).2.1 (rowN v b e).2.2).2.2
def decTail (b : List Int) (e : Int) : List Int × List Int × Int := lstF (cntF 4096 b e).1.toNat [] (cntF 4096 b e).2.1 (cntF 4096 b e).2.2
def decEnd (b : List Int) (e : Int) : Int := if e = 0 then (if (b.length : Int) > 0 then 3 else 0) else e
def decRest (c : List (List Int)) (b : List Int) (e : Int) : List (List Int) × List Int × List Int × Int :=
  if decEnd (decTail (decTail b e).2.1 (decTail b e).2.2).2.1 (decTail (decTail b e).2.1 (decTail b e).2.2).2.2 ≠ 0 then ([], [], [], decEnd (decTail (decTail b e).2.1 (decTail b e).2.2).2.1 (decTail (decTail b e).2.1 (decTail b e).2.2).2.2)
  else (c, (decTail b e).1, (decTail (decTail b e).2.1 (decTail b e).2.2).1, 0)
end Go.Proofs.Ytjphfhmkpknfaaa.PAll
