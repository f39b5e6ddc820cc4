/- Plain laws: Encode: the bytes of a state. -/
import Derived.Test.YtjphfhmkpknfaaaPAllx5
import Derived.Test.YtjphfhmkpknfaaaPlain2
set_option linter.unusedVariables false
set_option linter.unusedSimpArgs false
namespace Go.Proofs.Ytjphfhmkpknfaaa.Pure
open Go.RowKit Go.Proofs.Ytjphfhmkpknfaaa.PAll Go.Proofs.YtjphfhmkpknfaaaW.PrintWords Go.Proofs.YtjphfhmkpknfaaaW.PrintLast Go.Proofs.YtjphfhmkpknfaaaW.PrintMore

/-- The byte k of a number. -/
def byteOf (x : Int) (k : Nat) : Int := (IntKind.u64.wrap x) / 256 ^ k % 256
/-- The n low bytes, the most significant first. -/
def bytesBE (x : Int) : Nat → List Int
  | 0 => []
  | n + 1 => byteOf x n :: bytesBE x n
theorem bytesBE_length (x : Int) : ∀ n, (bytesBE x n).length = n
  | 0 => rfl
  | n + 1 => by simp [bytesBE, bytesBE_length x n]
theorem shr_byte (x : Int) (k : Nat) (hk : k < 8) : (shr .u64 (IntKind.u64.wrap x) (8 * (k : Int))) % 256 = byteOf x k := by
  unfold shr byteOf
  have e : min (8 * (k : Int)).toNat IntKind.u64.bits = 8 * k := by
    have : IntKind.u64.bits = 64 := rfl
    rw [this]; omega
  rw [e, Int.pow_mul]; rfl
theorem put_l0 (x : Int) : ∀ (n : Nat) (acc : List Int), n ≤ 8 → acc.length + n ≤ 2199023255552 → state_put.l0 (n + 1) acc x ((n : Int) - 1) = some (acc ++ bytesBE x n)
  | 0, acc, _, _ => by
    unfold state_put.l0
    rw [if_neg (by omega)]; simp [bytesBE]
  | n + 1, acc, hn, ha => by
    have ih := put_l0 x n (acc ++ [byteOf x n]) (by omega) (by simp; omega)
    have e : (((n + 1 : Nat) : Int) - 1) = (n : Int) := by omega
    rw [e]
    unfold state_put.l0
    have w1 : wrap64 (8 * (n : Int)) = 8 * (n : Int) := wrap64_of (by omega) (by omega)
    have w2 : wrap64 ((n : Int) - 1) = (n : Int) - 1 := wrap64_of (by omega) (by omega)
    have q1 : (n : Int) ≥ 0 := by omega
    have q2 : 0 ≤ 8 * (n : Int) := by omega
    have q3 : acc.length < 140737488355328 := by omega
    rw [if_pos q1, w1, if_pos q2, if_pos q3, shr_byte x n (by omega), w2, ih]
    simp [bytesBE]
theorem put_f (x : Int) (n : Nat) (acc : List Int) (hn : n ≤ 8) (ha : acc.length ≤ 1099511627776) : state_put.f (n + 1) acc x (n : Int) = some (acc ++ bytesBE x n) := by
  unfold state_put.f
  rw [wrap64_of (by omega) (by omega)]
  exact put_l0 x n acc hn (by omega)
/-- A list's numbers. -/
def numsB (l : List Int) : List Int := l.flatMap fun x => bytesBE x 8
theorem numsB_length (l : List Int) : (numsB l).length = 8 * l.length := by
  induction l with
  | nil => rfl
  | cons x l ih =>
    have : numsB (x :: l) = bytesBE x 8 ++ numsB l := rfl
    rw [this, List.length_append, bytesBE_length, ih, List.length_cons]; omega
theorem list_l0 (l : List Int) (hl : l.length ≤ 100000) : ∀ (r i : Nat) (acc : List Int), r + i = l.length → acc.length ≤ 549755813888 + 8 * i → state_list.l0 (r + 10) acc l (l.length : Int) (i : Int) = some (acc ++ numsB (l.drop i))
  | 0, i, acc, h, ha => by
    obtain ⟨z, hz⟩ : ∃ z, 0 + 10 = z + 1 := ⟨9, rfl⟩
    rw [hz]
    unfold state_list.l0
    rw [if_neg (by omega), List.drop_eq_nil_of_le (by omega)]; simp [numsB]
  | r + 1, i, acc, h, ha => by
    have hi : i < l.length := by omega
    have ed : l.drop i = l[i] :: l.drop (i + 1) := List.drop_eq_getElem_cons hi
    have hp := upto (fun k => state_put.mono acc l[i] 8 k) (put_f l[i] 8 acc (by omega) (by omega)) (show 8 + 1 ≤ r + 10 by omega)
    have ih := list_l0 l hl r (i + 1) (acc ++ bytesBE l[i] 8) (by omega) (by rw [List.length_append, bytesBE_length]; omega)
    rw [ed, show r + 1 + 10 = (r + 10) + 1 by omega]
    unfold state_list.l0
    rw [if_pos (by omega), if_pos (by omega), if_pos (by omega), rd_of hi]
    have hp' : state_put.f (r + 10) acc l[i] 8 = some (acc ++ bytesBE l[i] 8) := hp
    rw [hp', Option.bind_some, next_i (by omega), ih, List.append_assoc]; rfl
def listB (l : List Int) (counted : Bool) : List Int := (if counted = true then bytesBE (l.length : Int) 2 else []) ++ numsB l
theorem list_f (l : List Int) (hl : l.length ≤ 100000) (acc : List Int) (ha : acc.length ≤ 274877906944) (c : Bool) : state_list.f (l.length + 12) acc l c = some (acc ++ listB l c) := by
  unfold state_list.f listB
  have hj : ∀ acc' : List Int, acc'.length ≤ 549755813888 → state_list.j0 (l.length + 12) acc' l = some (acc' ++ numsB l) := by
    intro acc' ha'
    have h0 := list_l0 l hl l.length 0 acc' (by omega) (by omega)
    have h1 := upto (fun k => (state_list.mono_l k).2 acc' l (l.length : Int) 0) h0 (show l.length + 10 ≤ l.length + 11 by omega)
    rw [show l.length + 12 = (l.length + 11) + 1 by omega, state_list.j0, h1]; simp
  cases c
  · rw [if_neg (by simp), if_neg (by simp), hj acc (by omega)]; simp
  · rw [if_pos rfl, if_pos rfl]
    have hp := upto (fun k => state_put.mono acc (l.length : Int) 2 k) (put_f (l.length : Int) 2 acc (by omega) (by omega)) (show 2 + 1 ≤ l.length + 12 by omega)
    have hp' : state_put.f (l.length + 12) acc (l.length : Int) 2 = some (acc ++ bytesBE (l.length : Int) 2) := hp
    rw [hp', Option.bind_some, hj _ (by rw [List.length_append, bytesBE_length]; omega), List.append_assoc]
/-- The cells' bytes. -/
def cellsB : List S44 → List (List Int) → List Int
  | v :: vs, c :: cs => listB c (v.f1 == 3) ++ cellsB vs cs
  | _, _ => []
theorem listB_len (l : List Int) (c : Bool) : (listB l c).length ≤ 8 * l.length + 2 := by
  unfold listB
  rw [List.length_append, numsB_length]
  split
  · rw [bytesBE_length]; omega
  · simp
theorem encode_l0 (l : List S44) (cs : List (List Int)) (i o : List Int) (hl : l.length ≤ 1000) (hc : cs.length = l.length) (hr : ∀ r ∈ cs, r.length ≤ 5000) (hi : i.length ≤ 5000) (ho : o.length ≤ 5000) :
    ∀ (r j : Nat) (acc : List Int), r + j = l.length → acc.length ≤ 100000 * j → state_Encode.l0 (r + 5020) acc l (l.length : Int) (j : Int) cs i o = some (acc ++ cellsB (l.drop j) (cs.drop j) ++ listB i true ++ listB o true, 0)
  | 0, j, acc, h, ha => by
    have h1 := upto (fun k => state_list.mono acc i true k) (list_f i (by omega) acc (by omega) true) (show i.length + 12 ≤ 5019 by omega)
    have h2 := upto (fun k => state_list.mono (acc ++ listB i true) o true k) (list_f o (by omega) (acc ++ listB i true) (by have := listB_len i true; rw [List.length_append]; omega) true) (show o.length + 12 ≤ 5019 by omega)
    obtain ⟨z, hz⟩ : ∃ z, z = 5019 := ⟨_, rfl⟩
    rw [← hz] at h1 h2
    rw [show 0 + 5020 = z + 1 by omega]
    unfold state_Encode.l0
    rw [if_neg (by omega), h1, Option.bind_some, h2, Option.bind_some, List.drop_eq_nil_of_le (by omega)]
    simp [cellsB]
  | r + 1, j, acc, h, ha => by
    have hj : j < l.length := by omega
    have hjc : j < cs.length := by omega
    have ed : l.drop j = l[j] :: l.drop (j + 1) := List.drop_eq_getElem_cons hj
    have ec : cs.drop j = cs[j] :: cs.drop (j + 1) := List.drop_eq_getElem_cons hjc
    have hrj := hr cs[j] (List.getElem_mem hjc)
    have h1 := upto (fun k => state_list.mono acc cs[j] (l[j].f1 == 3) k) (list_f cs[j] (by omega) acc (by omega) (l[j].f1 == 3)) (show cs[j].length + 12 ≤ r + 5020 by omega)
    have hlb := listB_len cs[j] (l[j].f1 == 3)
    have ih := encode_l0 l cs i o hl hc hr hi ho r (j + 1) (acc ++ listB cs[j] (l[j].f1 == 3)) (by omega) (by rw [List.length_append]; omega)
    rw [ed, ec, show r + 1 + 5020 = (r + 5020) + 1 by omega]
    unfold state_Encode.l0
    rw [if_pos (by omega), if_pos (by omega), if_pos (by omega), if_pos (by omega), rdT_of hj, rdL_of hjc, h1, Option.bind_some, next_i (by omega), ih]
    simp [cellsB]
def encB (l : List S44) (cs : List (List Int)) (i o : List Int) : List Int := cellsB l cs ++ listB i true ++ listB o true
theorem encode_f (l : List S44) (cs : List (List Int)) (i o : List Int) (hl : l.length ≤ 1000) (hr : ∀ r ∈ cs, r.length ≤ 5000) (hi : i.length ≤ 5000) (ho : o.length ≤ 5000) :
    state_Encode.f 8000 l cs i o = some (if fitsP l cs i o = true then (encB l cs i o, 0) else ([], 3)) := by
  have hf := upto (fun k => state_Fits.mono l cs i o k) (fits_f l cs i o (by omega)) (show 2 * l.length + 2 ≤ 8000 by omega)
  unfold state_Encode.f
  rw [hf, Option.bind_some]
  by_cases c : fitsP l cs i o = true
  · rw [if_pos c, if_pos c]
    have hc : cs.length = l.length := by
      unfold fitsP at c
      simp only [Bool.and_eq_true, decide_eq_true_eq] at c
      omega
    have h0 := encode_l0 l cs i o hl hc hr hi ho l.length 0 [] (by omega) (by simp)
    have h1 := upto (fun k => state_Encode.mono_l k [] l (l.length : Int) 0 cs i o) h0 (show l.length + 5020 ≤ 8000 by omega)
    rw [h1]; simp [encB]
  · rw [if_neg c, if_neg c]
end Go.Proofs.Ytjphfhmkpknfaaa.Pure
