/- Plain laws: the bytes of states that fit are equal only for equal states. -/
import Derived.Test.YtjphfhmkpknfaaaPlainE
import Derived.Test.YtjphfhmkpknfaaaPlain3
set_option linter.unusedVariables false
set_option linter.unusedSimpArgs false
namespace Go.Proofs.Ytjphfhmkpknfaaa.Pure
open Go.RowKit Go.Proofs.Ytjphfhmkpknfaaa.PAll Go.Proofs.YtjphfhmkpknfaaaW.PrintWords Go.Proofs.YtjphfhmkpknfaaaW.PrintLast Go.Proofs.YtjphfhmkpknfaaaW.PrintMore

/-- The number that bytes give. -/
def valBE (b : List Int) : Int := b.foldl (fun a c => a * 256 + c) 0
theorem foldl_val (b : List Int) : ∀ a : Int, b.foldl (fun a c => a * 256 + c) a = a * 256 ^ b.length + valBE b := by
  unfold valBE
  induction b with
  | nil => intro a; simp
  | cons c b ih =>
    intro a
    rw [List.foldl_cons, ih (a * 256 + c), List.foldl_cons, ih (0 * 256 + c), List.length_cons, Int.pow_succ]
    have : (a * 256 + c) * 256 ^ b.length = a * (256 ^ b.length * 256) + c * 256 ^ b.length := by
      rw [Int.add_mul, Int.mul_assoc, Int.mul_comm 256]
    rw [this, Int.zero_mul, Int.zero_add, Int.add_assoc]
theorem valBE_cons (c : Int) (b : List Int) : valBE (c :: b) = c * 256 ^ b.length + valBE b := by
  show (c :: b).foldl (fun a c => a * 256 + c) 0 = _
  rw [List.foldl_cons, foldl_val, Int.zero_mul, Int.zero_add]
theorem mod_step (u : Int) (m : Int) (hm : 0 < m) : u % (m * 256) = u / m % 256 * m + u % m := by
  have h1 := Int.emod_add_mul_ediv u m
  have h2 := Int.emod_add_mul_ediv (u / m) 256
  have hlt := Int.emod_lt_of_pos u hm
  have hge := Int.emod_nonneg u (by omega : m ≠ 0)
  have h3 : u / (m * 256) = u / m / 256 := by rw [Int.ediv_ediv_of_nonneg (by omega)]
  have h4 := Int.emod_add_mul_ediv u (m * 256)
  rw [h3] at h4
  have h5 : m * (u / m) = m * (u / m % 256) + m * (256 * (u / m / 256)) := by rw [← Int.mul_add, h2]
  have h6 : m * 256 * (u / m / 256) = m * (256 * (u / m / 256)) := Int.mul_assoc _ _ _
  rw [Int.mul_comm (u / m % 256) m]
  omega
theorem valBE_bytes (x : Int) : ∀ n, valBE (bytesBE x n) = IntKind.u64.wrap x % 256 ^ n
  | 0 => by simp [valBE, bytesBE]
  | n + 1 => by
    rw [bytesBE, valBE_cons, bytesBE_length, valBE_bytes x n, Int.pow_succ, mod_step _ _ (Int.pow_pos (by decide))]; rfl
theorem u64_of (x : Int) : IntKind.u64.wrap x = x % 18446744073709551616 := by
  unfold IntKind.wrap
  simp [IntKind.bits, IntKind.signed]
def in64 (x : Int) : Prop := -9223372036854775808 ≤ x ∧ x < 9223372036854775808
theorem bytes8_inj {x y : Int} (hx : in64 x) (hy : in64 y) (h : bytesBE x 8 = bytesBE y 8) : x = y := by
  have h1 := valBE_bytes x 8
  have h2 := valBE_bytes y 8
  rw [h, h2, u64_of, u64_of] at h1
  unfold in64 at hx hy
  have e : (256 : Int) ^ 8 = 18446744073709551616 := by decide
  rw [e] at h1
  omega
theorem bytes2_inj {x y : Nat} (hx : x < 65536) (hy : y < 65536) (h : bytesBE (x : Int) 2 = bytesBE (y : Int) 2) : x = y := by
  have h1 := valBE_bytes x 2
  have h2 := valBE_bytes y 2
  rw [h, h2, u64_of, u64_of] at h1
  have e : (256 : Int) ^ 2 = 65536 := by decide
  rw [e] at h1
  omega
theorem numsB_inj : ∀ {a b r s : List Int}, (∀ x ∈ a, in64 x) → (∀ x ∈ b, in64 x) → a.length = b.length → numsB a ++ r = numsB b ++ s → a = b ∧ r = s
  | [], [], r, s, _, _, _, h => ⟨rfl, h⟩
  | [], y :: b, _, _, _, _, h, _ => by simp at h
  | x :: a, [], _, _, _, _, h, _ => by simp at h
  | x :: a, y :: b, r, s, ha, hb, hl, h => by
    have e1 : numsB (x :: a) ++ r = bytesBE x 8 ++ (numsB a ++ r) := by
      show (bytesBE x 8 ++ numsB a) ++ r = _
      rw [List.append_assoc]
    have e2 : numsB (y :: b) ++ s = bytesBE y 8 ++ (numsB b ++ s) := by
      show (bytesBE y 8 ++ numsB b) ++ s = _
      rw [List.append_assoc]
    rw [e1, e2] at h
    obtain ⟨h1, h2⟩ := List.append_inj h (by rw [bytesBE_length, bytesBE_length])
    obtain rfl := bytes8_inj (ha x List.mem_cons_self) (hb y List.mem_cons_self) h1
    obtain ⟨rfl, rfl⟩ := numsB_inj (fun z hz => ha z (List.mem_cons_of_mem _ hz)) (fun z hz => hb z (List.mem_cons_of_mem _ hz)) (by simpa using hl) h2
    exact ⟨rfl, rfl⟩
theorem listB_inj {a b r s : List Int} {c : Bool} (ha : ∀ x ∈ a, in64 x) (hb : ∀ x ∈ b, in64 x) (hl : if c = true then a.length < 65536 ∧ b.length < 65536 else a.length = b.length)
    (h : listB a c ++ r = listB b c ++ s) : a = b ∧ r = s := by
  unfold listB at h
  cases c
  · exact numsB_inj ha hb (by simpa using hl) (by simpa using h)
  · simp only [if_true, List.append_assoc] at h hl
    obtain ⟨h1, h2⟩ := List.append_inj h (by rw [bytesBE_length, bytesBE_length])
    exact numsB_inj ha hb (bytes2_inj hl.1 hl.2 h1) h2
theorem cellsB_inj : ∀ {l : List S44} {a b : List (List Int)} {r s : List Int}, (∀ q ∈ a, ∀ x ∈ q, in64 x) → (∀ q ∈ b, ∀ x ∈ q, in64 x) → a.length = l.length → b.length = l.length → fitAll l a = true → fitAll l b = true → cellsB l a ++ r = cellsB l b ++ s → a = b ∧ r = s
  | [], [], [], r, s, _, _, _, _, _, _, h => ⟨rfl, h⟩
  | [], _ :: _, _, _, _, _, _, h, _, _, _, _ => by simp at h
  | [], [], _ :: _, _, _, _, _, _, h, _, _, _ => by simp at h
  | _ :: _, [], _, _, _, _, _, h, _, _, _, _ => by simp at h
  | _ :: _, _ :: _, [], _, _, _, _, _, h, _, _, _ => by simp at h
  | v :: l, p :: a, q :: b, r, s, ha, hb, hla, hlb, fa, fb, h => by
    simp only [cellsB, List.append_assoc] at h
    simp only [fitAll, Bool.and_eq_true, fitCell] at fa fb
    obtain ⟨rfl, h2⟩ := listB_inj (ha p List.mem_cons_self) (hb q List.mem_cons_self) (by
      by_cases c : v.f1 = 3
      · rw [if_pos (by simp [c])]
        rw [if_pos c, decide_eq_true_eq] at fa fb
        omega
      · rw [if_neg (by simp [c])]
        rw [if_neg c, decide_eq_true_eq] at fa fb
        omega) h
    obtain ⟨rfl, rfl⟩ := cellsB_inj (fun z hz => ha z (List.mem_cons_of_mem _ hz)) (fun z hz => hb z (List.mem_cons_of_mem _ hz)) (by simpa using hla) (by simpa using hlb) fa.2 fb.2 h2
    exact ⟨rfl, rfl⟩
theorem encB_inj {l : List S44} {a b : List (List Int)} {i o i' o' : List Int} (ha : ∀ q ∈ a, ∀ x ∈ q, in64 x) (hb : ∀ q ∈ b, ∀ x ∈ q, in64 x) (hi : ∀ x ∈ i, in64 x) (hi' : ∀ x ∈ i', in64 x) (ho : ∀ x ∈ o, in64 x) (ho' : ∀ x ∈ o', in64 x)
    (fa : fitsP l a i o = true) (fb : fitsP l b i' o' = true) (h : encB l a i o = encB l b i' o') : a = b ∧ i = i' ∧ o = o' := by
  unfold fitsP at fa fb
  simp only [Bool.and_eq_true, decide_eq_true_eq] at fa fb
  obtain ⟨⟨⟨⟨_, la⟩, li⟩, lo⟩, ga⟩ := fa
  obtain ⟨⟨⟨⟨_, lb⟩, li'⟩, lo'⟩, gb⟩ := fb
  unfold encB at h
  rw [List.append_assoc, List.append_assoc] at h
  obtain ⟨h1, h2⟩ := cellsB_inj ha hb (by omega) (by omega) ga gb h
  obtain ⟨h3, h4⟩ := listB_inj hi hi' (by rw [if_pos rfl]; omega) h2
  obtain ⟨h5, _⟩ := listB_inj (r := []) (s := []) ho ho' (by rw [if_pos rfl]; omega) (by rw [h4])
  exact ⟨h1, h3, h5⟩
end Go.Proofs.Ytjphfhmkpknfaaa.Pure
