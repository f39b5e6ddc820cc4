/- Plain laws (written by wip/genslim.py out of Plain, Plain2, Plain3, PlainE, PlainF, PlainG, PlainH). -/
import Derived.Test.YtjphfhmkpknfaaaPAllx5
import Derived.Test.YtjphfhmkpknfaaaPAllx6
import Derived.Test.YtjphfhmkpknfaaaPAllx9
import Derived.Test.YtjphfhmkpknfaaaPAllx10
import Derived.Test.YtjphfhmkpknfaaaPAllx23
import Derived.Test.YtjphfhmkpknfaaaPAllx24
import Derived.Test.YtjphfhmkpknfaaaDec
set_option linter.unusedVariables false
set_option linter.unusedSimpArgs false
namespace Go.Proofs.Ytjphfhmkpknfaaa.PureD
open Go.RowKit Go.Proofs.Ytjphfhmkpknfaaa.PAll Go.Proofs.YtjphfhmkpknfaaaW.PrintWords Go.Proofs.YtjphfhmkpknfaaaW.PrintLast Go.Proofs.YtjphfhmkpknfaaaW.PrintMore

theorem wrap64_of {n : Int} (h : -9223372036854775808 ≤ n) (h2 : n < 9223372036854775808) : wrap64 n = n := by
  unfold wrap64; omega
theorem wf64 {a : Int} : (Lit.int .i64 a).wf = true ↔ -9223372036854775808 ≤ a ∧ a < 9223372036854775808 := by
  simp only [Lit.wf, IntKind.min, IntKind.max, IntKind.signed, IntKind.bits, Bool.and_eq_true, decide_eq_true_eq, if_true]
  omega
theorem upto {α : Type} {g : Nat → Option α} (hm : ∀ k, LeO (g k) (g (k + 1))) {k k' : Nat} {r : α} (h : g k = some r) (hk : k ≤ k') : g k' = some r := by
  obtain ⟨d, rfl⟩ := Nat.le.dest hk
  clear hk
  induction d with
  | zero => exact h
  | succ d ih => exact hm (k + d) r ih
theorem awake_ok : backsteplaw10_awake.f 300 = some true := by decide +kernel
theorem rdT_of {l : List S44} {i : Nat} (h : i < l.length) : rd_T44 l (i : Int) = l[i] := by
  unfold rd_T44; simp [h]
theorem rdL_of {l : List (List Int)} {i : Nat} (h : i < l.length) : rd_L1 l (i : Int) = l[i] := by
  unfold rd_L1; simp [h]
theorem rd_of {l : List Int} {i : Nat} (h : i < l.length) : rd l (i : Int) = l[i] := by
  unfold rd; simp [h]
theorem next_i {i : Nat} (h : i ≤ 1152921504606846976) : wrap64 ((i : Int) + 1) = ((i + 1 : Nat) : Int) := by rw [wrap64_of (by omega) (by omega)]; omega
def okVar (v : S44) : Bool := (decide (v.f1 = 2) && decide (1 ≤ v.f2) && decide (v.f2 ≤ 16)) || ((decide (v.f1 = 1) || decide (v.f1 = 3)) && decide (v.f2 = 0))
def validP (l : List S44) : Bool := l.all okVar && decide ((l.length : Int) ≤ 32)
theorem valid_l0 (l : List S44) (hl : l.length ≤ 1000000) : ∀ (r i : Nat), r + i = l.length → state_valid.l0 (2 * r + 1) l l (l.length : Int) (i : Int) = some ((l.drop i).all okVar && decide ((l.length : Int) ≤ 32))
  | 0, i, h => by
    unfold state_valid.l0
    rw [if_neg (by omega), List.drop_eq_nil_of_le (by omega)]; simp
  | r + 1, i, h => by
    have hi : i < l.length := by omega
    have ed : l.drop i = l[i] :: l.drop (i + 1) := List.drop_eq_getElem_cons hi
    have ih := valid_l0 l hl r (i + 1) (by omega)
    have hn := next_i (i := i) (by omega)
    have key : ∀ b : Bool, b = (decide (l[i].f1 = 2) && decide (1 ≤ l[i].f2) && decide (l[i].f2 ≤ 16)) → state_valid.j1 (2 * r + 1 + 1) l l (l.length : Int) (i : Int) b l[i].f0 l[i].f1 l[i].f2 = some (((l[i] :: l.drop (i + 1)).all okVar) && decide ((l.length : Int) ≤ 32)) := by
      intro b hb
      obtain ⟨z, hz⟩ : ∃ z, z = 2 * r + 1 := ⟨_, rfl⟩
      rw [← hz] at ih ⊢
      unfold state_valid.j1
      rw [hn, ih]
      simp only [List.all_cons]
      unfold okVar
      rw [← hb]
      by_cases hb1 : b = true
      · rw [if_pos hb1, hb1]; simp
      · rw [if_neg hb1]
        have hb0 : b = false := by simpa using hb1
        rw [hb0]
        by_cases c1 : l[i].f1 = 1
        · rw [if_pos c1]
          by_cases c2 : l[i].f2 = 0
          · rw [if_pos c2, decide_eq_true c1, decide_eq_true c2]; simp
          · rw [if_neg c2, decide_eq_false c2]; simp
        · rw [if_neg c1]
          by_cases c3 : l[i].f1 = 3
          · rw [if_pos c3]
            by_cases c2 : l[i].f2 = 0
            · rw [if_pos c2, decide_eq_true c3, decide_eq_true c2]; simp
            · rw [if_neg c2, decide_eq_false c2]; simp
          · rw [if_neg c3, decide_eq_false c1, decide_eq_false c3]; simp
    have e2 : 2 * (r + 1) + 1 = 2 * r + 1 + 1 + 1 := by omega
    obtain ⟨z, hz⟩ : ∃ z, z = 2 * r + 1 + 1 := ⟨_, rfl⟩
    rw [← hz] at key
    rw [e2, ed, ← hz]
    unfold state_valid.l0
    rw [if_pos (by omega), if_pos (by omega), if_pos (by omega), rdT_of hi]
    by_cases c1 : l[i].f1 = 2
    · rw [if_pos c1]
      by_cases c2 : l[i].f2 ≥ 1
      · rw [if_pos c2]
        exact key _ (by rw [decide_eq_true c1, decide_eq_true (show 1 ≤ l[i].f2 from c2)]; simp)
      · rw [if_neg c2]
        exact key _ (by rw [decide_eq_false (show ¬ 1 ≤ l[i].f2 from c2)]; simp)
    · rw [if_neg c1]
      exact key _ (by rw [decide_eq_false c1]; simp)
theorem valid_f (l : List S44) (hl : l.length ≤ 1000000) : state_valid.f (2 * l.length + 1) l = some (validP l) := by
  unfold state_valid.f
  simpa [validP] using valid_l0 l hl l.length 0 (by omega)
theorem refvalid_l0 (l : List S44) (hl : l.length ≤ 1000000) : ∀ (r i : Nat), r + i = l.length → backstepref10_Valid.l0 (r + 1) l (i : Int) = some ((l.drop i).all okVar && decide ((l.length : Int) ≤ 32))
  | 0, i, h => by
    unfold backstepref10_Valid.l0
    rw [if_neg (by omega), List.drop_eq_nil_of_le (by omega)]; simp
  | r + 1, i, h => by
    have hi : i < l.length := by omega
    have ed : l.drop i = l[i] :: l.drop (i + 1) := List.drop_eq_getElem_cons hi
    have ih := refvalid_l0 l hl r (i + 1) (by omega)
    have hn := next_i (i := i) (by omega)
    rw [ed]
    unfold backstepref10_Valid.l0
    rw [if_pos (by omega), if_pos (by omega), rdT_of hi, hn, ih]
    simp only [List.all_cons]
    unfold okVar
    by_cases c1 : l[i].f1 = 1
    · have c2 : ¬ l[i].f1 = 2 := by omega
      have c3 : ¬ l[i].f1 = 3 := by omega
      rw [if_pos c1, if_neg c2, decide_eq_true c1, decide_eq_false c2]
      by_cases c4 : l[i].f2 = 0
      · rw [if_pos c4, decide_eq_true c4]; simp
      · rw [if_neg c4, decide_eq_false c4]; simp
    · rw [if_neg c1]
      by_cases c3 : l[i].f1 = 3
      · have c2 : ¬ l[i].f1 = 2 := by omega
        rw [if_pos c3, if_neg c2, decide_eq_true c3, decide_eq_false c2]
        by_cases c4 : l[i].f2 = 0
        · rw [if_pos c4, decide_eq_true c4]; simp
        · rw [if_neg c4, decide_eq_false c4]; simp
      · rw [if_neg c3, decide_eq_false c1, decide_eq_false c3]
        by_cases c2 : l[i].f1 = 2
        · rw [if_pos c2, decide_eq_true c2]
          by_cases c4 : l[i].f2 ≥ 1
          · rw [if_pos c4, decide_eq_true (show 1 ≤ l[i].f2 from c4)]
            by_cases c5 : l[i].f2 ≤ 16
            · rw [if_pos c5, decide_eq_true c5]; simp
            · rw [if_neg c5, decide_eq_false c5]; simp
          · rw [if_neg c4, decide_eq_false (show ¬ 1 ≤ l[i].f2 from c4)]; simp
        · rw [if_neg c2, decide_eq_false c2]; simp
theorem refvalid_f (l : List S44) (hl : l.length ≤ 1000000) : backstepref10_Valid.f (l.length + 1) l = some (validP l) := by
  unfold backstepref10_Valid.f
  simpa [validP] using refvalid_l0 l hl l.length 0 (by omega)
/-- Whether a cell slice fits a declaration. -/
def fitCell (v : S44) (c : List Int) : Bool := if v.f1 = 3 then decide ((c.length : Int) ≤ 1000) else decide ((c.length : Int) = mx v.f2 1)
def fitAll : List S44 → List (List Int) → Bool
  | v :: vs, c :: cs => fitCell v c && fitAll vs cs
  | _, _ => true
def fitsP (l : List S44) (cs : List (List Int)) (i o : List Int) : Bool :=
  validP l && decide ((cs.length : Int) = (l.length : Int)) && decide ((i.length : Int) ≤ 4096) && decide ((o.length : Int) ≤ 4096) && fitAll l cs
theorem fits_l0 (l : List S44) (cs : List (List Int)) (a b : List Int) (hl : l.length ≤ 1000000) (hc : cs.length = l.length) : ∀ (r i : Nat), r + i = l.length → state_Fits.l0 (r + 1) l (l.length : Int) (i : Int) cs a b = some (fitAll (l.drop i) (cs.drop i))
  | 0, i, h => by
    unfold state_Fits.l0
    rw [if_neg (by omega), List.drop_eq_nil_of_le (by omega)]; simp [fitAll]
  | r + 1, i, h => by
    have hi : i < l.length := by omega
    have hic : i < cs.length := by omega
    have ed : l.drop i = l[i] :: l.drop (i + 1) := List.drop_eq_getElem_cons hi
    have ec : cs.drop i = cs[i] :: cs.drop (i + 1) := List.drop_eq_getElem_cons hic
    have ih := fits_l0 l cs a b hl hc r (i + 1) (by omega)
    have hn := next_i (i := i) (by omega)
    rw [ed, ec]
    unfold state_Fits.l0
    rw [if_pos (by omega), if_pos (by omega), if_pos (by omega), if_pos (by omega), rdT_of hi, rdL_of hic, hn, ih]
    simp only [fitAll, fitCell, state_size.f, Option.bind_some]
    by_cases c1 : l[i].f1 = 3
    · rw [if_pos c1, if_pos c1]
      by_cases c2 : (cs[i].length : Int) > 1000
      · rw [if_pos c2, decide_eq_false (by omega)]; simp
      · rw [if_neg c2, decide_eq_true (by omega)]; simp
    · rw [if_neg c1, if_neg c1]
      by_cases c2 : (cs[i].length : Int) = mx l[i].f2 1
      · rw [if_pos c2, decide_eq_true c2]; simp
      · rw [if_neg c2, decide_eq_false c2]; simp
theorem fits_j0t (k : Nat) (l : List S44) (cs : List (List Int)) (a b : List Int) : state_Fits.j0 (k + 1) l true cs a b = some false := by rw [state_Fits.j0, if_pos rfl]
theorem fits_j0f (k : Nat) (l : List S44) (cs : List (List Int)) (a b : List Int) : state_Fits.j0 (k + 1) l false cs a b = state_Fits.l0 k l (l.length : Int) 0 cs a b := by rw [state_Fits.j0, if_neg (by simp)]
theorem fits_f (l : List S44) (cs : List (List Int)) (a b : List Int) (hl : l.length ≤ 1000000) : state_Fits.f (2 * l.length + 2) l cs a b = some (fitsP l cs a b) := by
  have hv := upto (fun k => state_valid.mono l k) (valid_f l hl) (show 2 * l.length + 1 ≤ 2 * l.length + 2 by omega)
  obtain ⟨K, hK⟩ : ∃ K, K = 2 * l.length + 1 := ⟨_, rfl⟩
  unfold state_Fits.f fitsP
  rw [hv, Option.bind_some, show 2 * l.length + 2 = K + 1 by omega]
  cases hvp : validP l
  · rw [if_neg (by simp), fits_j0t]; simp
  · rw [if_pos rfl]
    by_cases c1 : (cs.length : Int) = (l.length : Int)
    · rw [if_pos c1, decide_eq_true c1]
      by_cases c2 : (a.length : Int) > 4096
      · rw [if_pos c2, fits_j0t, decide_eq_false (show ¬ (a.length : Int) ≤ 4096 by omega)]; simp
      · rw [if_neg c2, decide_eq_true (show (a.length : Int) ≤ 4096 by omega)]
        by_cases c3 : (b.length : Int) > 4096
        · rw [decide_eq_true c3, fits_j0t, decide_eq_false (show ¬ (b.length : Int) ≤ 4096 by omega)]; simp
        · have h0 := fits_l0 l cs a b hl (by omega) l.length 0 (by omega)
          have h0' := upto (fun k => (state_Fits.mono_l k).2 l (l.length : Int) 0 cs a b) h0 (show l.length + 1 ≤ K by omega)
          rw [decide_eq_false c3, fits_j0f, decide_eq_true (show (b.length : Int) ≤ 4096 by omega), h0']; simp
    · rw [if_neg c1, fits_j0t, decide_eq_false c1]; simp
/-- Two lists of numbers compared. -/
theorem ints_l0 (a b : List Int) (hl : a.length ≤ 1000000) (he : a.length = b.length) : ∀ (r i : Nat), r + i = a.length → backstepref10_Ints.l0 (r + 1) a b (i : Int) = some (decide (a.drop i = b.drop i))
  | 0, i, h => by
    unfold backstepref10_Ints.l0
    rw [if_neg (by omega), List.drop_eq_nil_of_le (by omega), List.drop_eq_nil_of_le (by omega)]; simp
  | r + 1, i, h => by
    have hi : i < a.length := by omega
    have hi2 : i < b.length := by omega
    have e1 : a.drop i = a[i] :: a.drop (i + 1) := List.drop_eq_getElem_cons hi
    have e2 : b.drop i = b[i] :: b.drop (i + 1) := List.drop_eq_getElem_cons hi2
    have ih := ints_l0 a b hl he r (i + 1) (by omega)
    rw [e1, e2]
    unfold backstepref10_Ints.l0
    rw [if_pos (by omega), if_pos (by omega), if_pos (by omega), rd_of hi, rd_of hi2, next_i (by omega), ih]
    by_cases c : a[i] = b[i]
    · rw [if_pos c]
      exact congrArg some (decide_eq_decide.2 ⟨fun h => by rw [c, h], fun h => (List.cons.inj h).2⟩)
    · rw [if_neg c]
      exact congrArg some (decide_eq_false (fun h => c (List.cons.inj h).1)).symm
theorem ints_f (a b : List Int) (hl : a.length ≤ 1000000) : backstepref10_Ints.f (a.length + 1) a b = some (decide (a = b)) := by
  unfold backstepref10_Ints.f
  by_cases c : (a.length : Int) = (b.length : Int)
  · rw [if_pos c]
    simpa using ints_l0 a b hl (by omega) a.length 0 (by omega)
  · rw [if_neg c, decide_eq_false]
    rintro rfl; exact c rfl
def smallP (cs : List (List Int)) (a b : List Int) : Prop := cs.length ≤ 40 ∧ a.length ≤ 60 ∧ b.length ≤ 60 ∧ ∀ r ∈ cs, r.length ≤ 60
instance (cs : List (List Int)) (a b : List Int) : Decidable (smallP cs a b) := by unfold smallP; infer_instance
def sameP (a : List (List Int)) (i o : List Int) (b : List (List Int)) (i' o' : List Int) : Bool := decide (a = b) && decide (i = i') && decide (o = o')
theorem refeq_l0 (a : List (List Int)) (i o : List Int) (b : List (List Int)) (i' o' : List Int) (hl : a.length ≤ 1000) (hr : ∀ x ∈ a, x.length ≤ 1000) (he : a.length = b.length) : ∀ (r j : Nat), r + j = a.length → backstepref10_Equal.l0 (r + 1002) (j : Int) a i o b i' o' = some (decide (a.drop j = b.drop j))
  | 0, j, h => by
    obtain ⟨z, hz⟩ : ∃ z, 0 + 1002 = z + 1 := ⟨1001, rfl⟩
    rw [hz]
    unfold backstepref10_Equal.l0
    rw [if_neg (by omega), List.drop_eq_nil_of_le (by omega), List.drop_eq_nil_of_le (by omega)]; simp
  | r + 1, j, h => by
    have hi : j < a.length := by omega
    have hi2 : j < b.length := by omega
    have e1 : a.drop j = a[j] :: a.drop (j + 1) := List.drop_eq_getElem_cons hi
    have e2 : b.drop j = b[j] :: b.drop (j + 1) := List.drop_eq_getElem_cons hi2
    have ih := refeq_l0 a i o b i' o' hl hr he r (j + 1) (by omega)
    have hm := hr a[j] (List.getElem_mem hi)
    have hq := upto (fun k => backstepref10_Ints.mono a[j] b[j] k) (ints_f a[j] b[j] (by omega)) (show a[j].length + 1 ≤ r + 1002 by omega)
    rw [e1, e2, show r + 1 + 1002 = (r + 1002) + 1 by omega]
    unfold backstepref10_Equal.l0
    rw [if_pos (by omega), if_pos (by omega), if_pos (by omega), rdL_of hi, rdL_of hi2, hq, Option.bind_some, next_i (by omega), ih]
    by_cases c : a[j] = b[j]
    · rw [if_pos (decide_eq_true c)]
      exact congrArg some (decide_eq_decide.2 ⟨fun h => by rw [c, h], fun h => (List.cons.inj h).2⟩)
    · rw [if_neg (by rw [decide_eq_false c]; simp)]
      exact congrArg some (decide_eq_false (fun h => c (List.cons.inj h).1)).symm
theorem refequal_f (a : List (List Int)) (i o : List Int) (b : List (List Int)) (i' o' : List Int) (hl : a.length ≤ 1000) (hr : ∀ x ∈ a, x.length ≤ 1000) (h1 : i.length ≤ 1000) (h2 : o.length ≤ 1000) :
    backstepref10_Equal.f 2100 a i o b i' o' = some (sameP a i o b i' o') := by
  have q1 := upto (fun k => backstepref10_Ints.mono i i' k) (ints_f i i' (by omega)) (show _ ≤ 2100 by omega)
  have q2 := upto (fun k => backstepref10_Ints.mono o o' k) (ints_f o o' (by omega)) (show _ ≤ 2100 by omega)
  have jt : backstepref10_Equal.j0 2100 true a i o b i' o' = some false := by
    obtain ⟨z, hz⟩ : ∃ z, 2100 = z + 1 := ⟨2099, rfl⟩
    rw [hz, backstepref10_Equal.j0, if_pos rfl]
  unfold backstepref10_Equal.f sameP
  by_cases c0 : (a.length : Int) = (b.length : Int)
  · rw [if_pos c0, q1, Option.bind_some]
    by_cases c1 : i = i'
    · rw [if_pos (decide_eq_true c1), decide_eq_true c1, q2, Option.bind_some]
      by_cases c2 : o = o'
      · have h3 := refeq_l0 a i o b i' o' hl hr (by omega) a.length 0 (by omega)
        obtain ⟨z, hz⟩ : ∃ z, 2100 = z + 1 := ⟨2099, rfl⟩
        have h4 := upto (fun k => (backstepref10_Equal.mono_l k).2 0 a i o b i' o') h3 (show a.length + 1002 ≤ z by omega)
        rw [decide_eq_true c2, hz, backstepref10_Equal.j0, if_neg (by simp), h4]; simp
      · rw [decide_eq_false c2]
        simp only [Bool.not_false, Bool.and_false]; exact jt
    · rw [if_neg (by rw [decide_eq_false c1]; simp), decide_eq_false c1]
      simp only [Bool.and_false, Bool.false_and]; exact jt
  · rw [if_neg c0, decide_eq_false (show ¬ a = b by rintro rfl; exact c0 rfl)]
    simp only [Bool.false_and]; exact jt
/-- The byte k of a number. -/
def byteOf (x : Int) (k : Nat) : Int := (IntKind.u64.wrap x) / 256 ^ k % 256
/-- The n low bytes, the most significant first. -/
def bytesBE (x : Int) : Nat → List Int
  | 0 => []
  | n + 1 => byteOf x n :: bytesBE x n
theorem bytesBE_length (x : Int) : ∀ n, (bytesBE x n).length = n
  | 0 => rfl
  | n + 1 => by simp [bytesBE, bytesBE_length x n]
theorem shr_byte (x : Int) (k : Nat) (hk : k < 8) : (shr .u64 (IntKind.u64.wrap x) (8 * (k : Int))) % 256 = byteOf x k := by
  unfold shr byteOf
  have e : min (8 * (k : Int)).toNat IntKind.u64.bits = 8 * k := by
    have : IntKind.u64.bits = 64 := rfl
    rw [this]; omega
  rw [e, Int.pow_mul]; rfl
theorem put_l0 (x : Int) : ∀ (n : Nat) (acc : List Int), n ≤ 8 → acc.length + n ≤ 2199023255552 → state_put.l0 (n + 1) acc x ((n : Int) - 1) = some (acc ++ bytesBE x n)
  | 0, acc, _, _ => by
    unfold state_put.l0
    rw [if_neg (by omega)]; simp [bytesBE]
  | n + 1, acc, hn, ha => by
    have ih := put_l0 x n (acc ++ [byteOf x n]) (by omega) (by simp; omega)
    have e : (((n + 1 : Nat) : Int) - 1) = (n : Int) := by omega
    rw [e]
    unfold state_put.l0
    have w1 : wrap64 (8 * (n : Int)) = 8 * (n : Int) := wrap64_of (by omega) (by omega)
    have w2 : wrap64 ((n : Int) - 1) = (n : Int) - 1 := wrap64_of (by omega) (by omega)
    have q1 : (n : Int) ≥ 0 := by omega
    have q2 : 0 ≤ 8 * (n : Int) := by omega
    have q3 : acc.length < 140737488355328 := by omega
    rw [if_pos q1, w1, if_pos q2, if_pos q3, shr_byte x n (by omega), w2, ih]
    simp [bytesBE]
theorem put_f (x : Int) (n : Nat) (acc : List Int) (hn : n ≤ 8) (ha : acc.length ≤ 1099511627776) : state_put.f (n + 1) acc x (n : Int) = some (acc ++ bytesBE x n) := by
  unfold state_put.f
  rw [wrap64_of (by omega) (by omega)]
  exact put_l0 x n acc hn (by omega)
/-- A list's numbers. -/
def numsB (l : List Int) : List Int := l.flatMap fun x => bytesBE x 8
theorem numsB_length (l : List Int) : (numsB l).length = 8 * l.length := by
  induction l with
  | nil => rfl
  | cons x l ih =>
    have : numsB (x :: l) = bytesBE x 8 ++ numsB l := rfl
    rw [this, List.length_append, bytesBE_length, ih, List.length_cons]; omega
theorem list_l0 (l : List Int) (hl : l.length ≤ 100000) : ∀ (r i : Nat) (acc : List Int), r + i = l.length → acc.length ≤ 549755813888 + 8 * i → state_list.l0 (r + 10) acc l (l.length : Int) (i : Int) = some (acc ++ numsB (l.drop i))
  | 0, i, acc, h, ha => by
    obtain ⟨z, hz⟩ : ∃ z, 0 + 10 = z + 1 := ⟨9, rfl⟩
    rw [hz]
    unfold state_list.l0
    rw [if_neg (by omega), List.drop_eq_nil_of_le (by omega)]; simp [numsB]
  | r + 1, i, acc, h, ha => by
    have hi : i < l.length := by omega
    have ed : l.drop i = l[i] :: l.drop (i + 1) := List.drop_eq_getElem_cons hi
    have hp := upto (fun k => state_put.mono acc l[i] 8 k) (put_f l[i] 8 acc (by omega) (by omega)) (show 8 + 1 ≤ r + 10 by omega)
    have ih := list_l0 l hl r (i + 1) (acc ++ bytesBE l[i] 8) (by omega) (by rw [List.length_append, bytesBE_length]; omega)
    rw [ed, show r + 1 + 10 = (r + 10) + 1 by omega]
    unfold state_list.l0
    rw [if_pos (by omega), if_pos (by omega), if_pos (by omega), rd_of hi]
    have hp' : state_put.f (r + 10) acc l[i] 8 = some (acc ++ bytesBE l[i] 8) := hp
    rw [hp', Option.bind_some, next_i (by omega), ih, List.append_assoc]; rfl
def listB (l : List Int) (counted : Bool) : List Int := (if counted = true then bytesBE (l.length : Int) 2 else []) ++ numsB l
theorem list_f (l : List Int) (hl : l.length ≤ 100000) (acc : List Int) (ha : acc.length ≤ 274877906944) (c : Bool) : state_list.f (l.length + 12) acc l c = some (acc ++ listB l c) := by
  unfold state_list.f listB
  have hj : ∀ acc' : List Int, acc'.length ≤ 549755813888 → state_list.j0 (l.length + 12) acc' l = some (acc' ++ numsB l) := by
    intro acc' ha'
    have h0 := list_l0 l hl l.length 0 acc' (by omega) (by omega)
    have h1 := upto (fun k => (state_list.mono_l k).2 acc' l (l.length : Int) 0) h0 (show l.length + 10 ≤ l.length + 11 by omega)
    rw [show l.length + 12 = (l.length + 11) + 1 by omega, state_list.j0, h1]; simp
  cases c
  · rw [if_neg (by simp), if_neg (by simp), hj acc (by omega)]; simp
  · rw [if_pos rfl, if_pos rfl]
    have hp := upto (fun k => state_put.mono acc (l.length : Int) 2 k) (put_f (l.length : Int) 2 acc (by omega) (by omega)) (show 2 + 1 ≤ l.length + 12 by omega)
    have hp' : state_put.f (l.length + 12) acc (l.length : Int) 2 = some (acc ++ bytesBE (l.length : Int) 2) := hp
    rw [hp', Option.bind_some, hj _ (by rw [List.length_append, bytesBE_length]; omega), List.append_assoc]
/-- The cells' bytes. -/
def cellsB : List S44 → List (List Int) → List Int
  | v :: vs, c :: cs => listB c (v.f1 == 3) ++ cellsB vs cs
  | _, _ => []
theorem listB_len (l : List Int) (c : Bool) : (listB l c).length ≤ 8 * l.length + 2 := by
  unfold listB
  rw [List.length_append, numsB_length]
  split
  · rw [bytesBE_length]; omega
  · simp
theorem encode_l0 (l : List S44) (cs : List (List Int)) (i o : List Int) (hl : l.length ≤ 1000) (hc : cs.length = l.length) (hr : ∀ r ∈ cs, r.length ≤ 5000) (hi : i.length ≤ 5000) (ho : o.length ≤ 5000) :
    ∀ (r j : Nat) (acc : List Int), r + j = l.length → acc.length ≤ 100000 * j → state_Encode.l0 (r + 5020) acc l (l.length : Int) (j : Int) cs i o = some (acc ++ cellsB (l.drop j) (cs.drop j) ++ listB i true ++ listB o true, 0)
  | 0, j, acc, h, ha => by
    have h1 := upto (fun k => state_list.mono acc i true k) (list_f i (by omega) acc (by omega) true) (show i.length + 12 ≤ 5019 by omega)
    have h2 := upto (fun k => state_list.mono (acc ++ listB i true) o true k) (list_f o (by omega) (acc ++ listB i true) (by have := listB_len i true; rw [List.length_append]; omega) true) (show o.length + 12 ≤ 5019 by omega)
    obtain ⟨z, hz⟩ : ∃ z, z = 5019 := ⟨_, rfl⟩
    rw [← hz] at h1 h2
    rw [show 0 + 5020 = z + 1 by omega]
    unfold state_Encode.l0
    rw [if_neg (by omega), h1, Option.bind_some, h2, Option.bind_some, List.drop_eq_nil_of_le (by omega)]
    simp [cellsB]
  | r + 1, j, acc, h, ha => by
    have hj : j < l.length := by omega
    have hjc : j < cs.length := by omega
    have ed : l.drop j = l[j] :: l.drop (j + 1) := List.drop_eq_getElem_cons hj
    have ec : cs.drop j = cs[j] :: cs.drop (j + 1) := List.drop_eq_getElem_cons hjc
    have hrj := hr cs[j] (List.getElem_mem hjc)
    have h1 := upto (fun k => state_list.mono acc cs[j] (l[j].f1 == 3) k) (list_f cs[j] (by omega) acc (by omega) (l[j].f1 == 3)) (show cs[j].length + 12 ≤ r + 5020 by omega)
    have hlb := listB_len cs[j] (l[j].f1 == 3)
    have ih := encode_l0 l cs i o hl hc hr hi ho r (j + 1) (acc ++ listB cs[j] (l[j].f1 == 3)) (by omega) (by rw [List.length_append]; omega)
    rw [ed, ec, show r + 1 + 5020 = (r + 5020) + 1 by omega]
    unfold state_Encode.l0
    rw [if_pos (by omega), if_pos (by omega), if_pos (by omega), if_pos (by omega), rdT_of hj, rdL_of hjc, h1, Option.bind_some, next_i (by omega), ih]
    simp [cellsB]
def encB (l : List S44) (cs : List (List Int)) (i o : List Int) : List Int := cellsB l cs ++ listB i true ++ listB o true
theorem encode_f (l : List S44) (cs : List (List Int)) (i o : List Int) (hl : l.length ≤ 1000) (hr : ∀ r ∈ cs, r.length ≤ 5000) (hi : i.length ≤ 5000) (ho : o.length ≤ 5000) :
    state_Encode.f 8000 l cs i o = some (if fitsP l cs i o = true then (encB l cs i o, 0) else ([], 3)) := by
  have hf := upto (fun k => state_Fits.mono l cs i o k) (fits_f l cs i o (by omega)) (show 2 * l.length + 2 ≤ 8000 by omega)
  unfold state_Encode.f
  rw [hf, Option.bind_some]
  by_cases c : fitsP l cs i o = true
  · rw [if_pos c, if_pos c]
    have hc : cs.length = l.length := by
      unfold fitsP at c
      simp only [Bool.and_eq_true, decide_eq_true_eq] at c
      omega
    have h0 := encode_l0 l cs i o hl hc hr hi ho l.length 0 [] (by omega) (by simp)
    have h1 := upto (fun k => state_Encode.mono_l k [] l (l.length : Int) 0 cs i o) h0 (show l.length + 5020 ≤ 8000 by omega)
    rw [h1]; simp [encB]
  · rw [if_neg c, if_neg c]
/-- The number that bytes give. -/
def valBE (b : List Int) : Int := b.foldl (fun a c => a * 256 + c) 0
theorem foldl_val (b : List Int) : ∀ a : Int, b.foldl (fun a c => a * 256 + c) a = a * 256 ^ b.length + valBE b := by
  unfold valBE
  induction b with
  | nil => intro a; simp
  | cons c b ih =>
    intro a
    rw [List.foldl_cons, ih (a * 256 + c), List.foldl_cons, ih (0 * 256 + c), List.length_cons, Int.pow_succ]
    have : (a * 256 + c) * 256 ^ b.length = a * (256 ^ b.length * 256) + c * 256 ^ b.length := by
      rw [Int.add_mul, Int.mul_assoc, Int.mul_comm 256]
    rw [this, Int.zero_mul, Int.zero_add, Int.add_assoc]
theorem valBE_cons (c : Int) (b : List Int) : valBE (c :: b) = c * 256 ^ b.length + valBE b := by
  show (c :: b).foldl (fun a c => a * 256 + c) 0 = _
  rw [List.foldl_cons, foldl_val, Int.zero_mul, Int.zero_add]
theorem mod_step (u : Int) (m : Int) (hm : 0 < m) : u % (m * 256) = u / m % 256 * m + u % m := by
  have h1 := Int.emod_add_mul_ediv u m
  have h2 := Int.emod_add_mul_ediv (u / m) 256
  have hlt := Int.emod_lt_of_pos u hm
  have hge := Int.emod_nonneg u (by omega : m ≠ 0)
  have h3 : u / (m * 256) = u / m / 256 := by rw [Int.ediv_ediv_of_nonneg (by omega)]
  have h4 := Int.emod_add_mul_ediv u (m * 256)
  rw [h3] at h4
  have h5 : m * (u / m) = m * (u / m % 256) + m * (256 * (u / m / 256)) := by rw [← Int.mul_add, h2]
  have h6 : m * 256 * (u / m / 256) = m * (256 * (u / m / 256)) := Int.mul_assoc _ _ _
  rw [Int.mul_comm (u / m % 256) m]
  omega
theorem valBE_bytes (x : Int) : ∀ n, valBE (bytesBE x n) = IntKind.u64.wrap x % 256 ^ n
  | 0 => by simp [valBE, bytesBE]
  | n + 1 => by
    rw [bytesBE, valBE_cons, bytesBE_length, valBE_bytes x n, Int.pow_succ, mod_step _ _ (Int.pow_pos (by decide))]; rfl
theorem u64_of (x : Int) : IntKind.u64.wrap x = x % 18446744073709551616 := by
  unfold IntKind.wrap
  simp [IntKind.bits, IntKind.signed]
def in64 (x : Int) : Prop := -9223372036854775808 ≤ x ∧ x < 9223372036854775808
theorem bytesBE_areB (x : Int) : ∀ n, areB (bytesBE x n)
  | 0 => by intro y hy; simp [bytesBE] at hy
  | n + 1 => by
    intro y hy
    rw [bytesBE] at hy
    rcases List.mem_cons.1 hy with rfl | hy
    · unfold byteOf; omega
    · exact bytesBE_areB x n y hy
theorem areB_append {a b : List Int} (ha : areB a) (hb : areB b) : areB (a ++ b) := by
  intro x hx
  rcases List.mem_append.1 hx with h | h
  · exact ha x h
  · exact hb x h
theorem valF_BE (b : List Int) : valF 0 b = valBE b := rfl
theorem numsB_cons (x : Int) (l : List Int) : numsB (x :: l) = bytesBE x 8 ++ numsB l := rfl
theorem drop_len {a b : List Int} {n : Nat} (h : a.length = n) : (a ++ b).drop n = b := by subst h; exact List.drop_left
theorem fits_len {l : List S44} {cs : List (List Int)} {i o : List Int} (hf : fitsP l cs i o = true) : cs.length = l.length := by
  unfold fitsP at hf
  simp only [Bool.and_eq_true, decide_eq_true_eq] at hf
  omega
/-- Bytes are what their number gives back. -/
theorem valF_cons (c : Int) (b : List Int) : valF 0 (c :: b) = c * 256 ^ b.length + valF 0 b := valBE_cons c b
theorem val_lt : ∀ {b : List Int}, areB b → 0 ≤ valF 0 b ∧ valF 0 b < 256 ^ b.length
  | [], _ => by constructor <;> simp [valF]
  | c :: b, h => by
    have hc := h c List.mem_cons_self
    obtain ⟨h1, h2⟩ := val_lt (fun x hx => h x (List.mem_cons_of_mem _ hx))
    rw [valF_cons, List.length_cons, Int.pow_succ]
    have hp : (0 : Int) < 256 ^ b.length := Int.pow_pos (by decide)
    have h3 : 0 ≤ c * 256 ^ b.length := Int.mul_nonneg hc.1 (by omega)
    have h4 : c * 256 ^ b.length ≤ 255 * 256 ^ b.length := Int.mul_le_mul_of_nonneg_right (by omega) (by omega)
    omega
theorem bytes_of_val : ∀ {b : List Int} (x : Int), areB b → IntKind.u64.wrap x % 256 ^ b.length = valF 0 b → bytesBE x b.length = b
  | [], x, _, _ => rfl
  | c :: b, x, h, hx => by
    have hc := h c List.mem_cons_self
    have hb : areB b := fun y hy => h y (List.mem_cons_of_mem _ hy)
    obtain ⟨h1, h2⟩ := val_lt hb
    have hp : (0 : Int) < 256 ^ b.length := Int.pow_pos (by decide)
    rw [List.length_cons, Int.pow_succ, mod_step _ _ hp, valF_cons] at hx
    have hm1 := Int.emod_nonneg (IntKind.u64.wrap x) (show (256 : Int) ^ b.length ≠ 0 by omega)
    have hm2 := Int.emod_lt_of_pos (IntKind.u64.wrap x) hp
    have e : IntKind.u64.wrap x / 256 ^ b.length % 256 = c := by
      have q1 : (IntKind.u64.wrap x / 256 ^ b.length % 256 * 256 ^ b.length + IntKind.u64.wrap x % 256 ^ b.length) / 256 ^ b.length = IntKind.u64.wrap x / 256 ^ b.length % 256 := by
        rw [Int.add_comm, Int.add_mul_ediv_right _ _ (by omega), Int.ediv_eq_zero_of_lt hm1 hm2, Int.zero_add]
      have q2 : (c * 256 ^ b.length + valF 0 b) / 256 ^ b.length = c := by
        rw [Int.add_comm, Int.add_mul_ediv_right _ _ (by omega), Int.ediv_eq_zero_of_lt h1 h2, Int.zero_add]
      rw [← q1, hx, q2]
    have e2 : IntKind.u64.wrap x % 256 ^ b.length = valF 0 b := by rw [e] at hx; omega
    rw [List.length_cons, bytesBE, bytes_of_val x hb e2]
    unfold byteOf
    rw [e]
theorem numF8 {b : List Int} (hb : areB b) (hl : b.length = 8) : bytesBE (numF b) 8 = b ∧ in64 (numF b) := by
  obtain ⟨h1, h2, h3⟩ := numF_val hb (by omega)
  rw [hl] at h3
  have e : (256 : Int) ^ 8 = 18446744073709551616 := by decide
  rw [e] at h3
  have hr : in64 (numF b) := by
    rw [h1]
    unfold in64 wrap64
    omega
  refine ⟨?_, hr⟩
  have := bytes_of_val (numF b) hb (by
    rw [hl, e, u64_of, h1]
    unfold wrap64
    omega)
  rwa [hl] at this
theorem numF2 {b : List Int} (hb : areB b) (hl : b.length = 2) : bytesBE (numF b) 2 = b := by
  obtain ⟨h1, h2, h3⟩ := numF_val hb (by omega)
  rw [hl] at h3
  have e : (256 : Int) ^ 2 = 65536 := by decide
  rw [e] at h3
  have := bytes_of_val (numF b) hb (by
    rw [hl, e, u64_of, h1]
    unfold wrap64
    omega)
  rwa [hl] at this
/-- What a list that was read whole has eaten. -/
theorem lst_dec : ∀ (n : Nat) (acc b : List Int) (l r : List Int), areB b → lstF n acc b 0 = (l, r, 0) → ∃ t, l = acc ++ t ∧ t.length = n ∧ b = numsB t ++ r ∧ ∀ x ∈ t, in64 x
  | 0, acc, b, l, r, _, h => by
    simp only [lstF, Prod.mk.injEq, and_true] at h
    exact ⟨[], by simp [h.1], rfl, by simp [numsB, h.2], by simp⟩
  | n + 1, acc, b, l, r, hb, h => by
    rw [lstF_succ, if_neg (by simp)] at h
    by_cases h8 : (b.length : Int) < 8
    · rw [if_pos h8] at h
      simp at h
    · rw [if_neg h8] at h
      obtain ⟨t, h1, h2, h3, h4⟩ := lst_dec n _ _ l r (areB_drop hb 8) h
      obtain ⟨p, q⟩ := numF8 (areB_take hb 8) (by rw [List.length_take]; omega)
      refine ⟨numF (b.take 8) :: t, by rw [h1, List.append_assoc]; rfl, by simp [h2], ?_, ?_⟩
      · rw [numsB_cons, p, List.append_assoc, ← h3, List.take_append_drop]
      · intro x hx
        rcases List.mem_cons.1 hx with rfl | hx
        · exact q
        · exact h4 x hx
theorem lst_err : ∀ (n : Nat) (acc b : List Int) (e : Int), e ≠ 0 → (lstF n acc b e).2.2 = e
  | 0, acc, b, e, _ => rfl
  | n + 1, acc, b, e, h => by rw [lstF_succ, if_pos h]
theorem cnt_err (most : Int) (b : List Int) (e : Int) (h : e ≠ 0) : cntF most b e = (0, b, e) := by unfold cntF; rw [if_pos h]
theorem cnt_dec {most : Int} {b r : List Int} {n : Int} (hb : areB b) (h : cntF most b 0 = (n, r, 0)) : 0 ≤ n ∧ n ≤ most ∧ b = bytesBE n 2 ++ r := by
  unfold cntF at h
  rw [if_neg (by simp)] at h
  by_cases h2 : (b.length : Int) < 2
  · rw [if_pos h2] at h; simp at h
  · rw [if_neg h2] at h
    by_cases h3 : numF (b.take 2) > most
    · rw [if_pos h3] at h; simp at h
    · rw [if_neg h3] at h
      simp only [Prod.mk.injEq, and_true] at h
      have hn := numF_two hb
      have hp := numF2 (areB_take hb 2) (by rw [List.length_take]; omega)
      rw [h.1] at hp hn h3
      exact ⟨hn.1, by omega, by rw [hp, ← h.2, List.take_append_drop]⟩
theorem tail_dec {b r i : List Int} (hb : areB b) (h : decTail b 0 = (i, r, 0)) : i.length ≤ 4096 ∧ b = listB i true ++ r ∧ areB r ∧ ∀ x ∈ i, in64 x := by
  unfold decTail at h
  obtain ⟨q, hq⟩ : ∃ q, q = cntF 4096 b 0 := ⟨_, rfl⟩
  rw [← hq] at h
  have hok := cntF_ok 4096 0 hb (by decide)
  rw [← hq] at hok
  by_cases he : q.2.2 = 0
  · obtain ⟨n, s, e⟩ := q
    simp only at he h hok
    subst he
    obtain ⟨h1, h2, h3⟩ := cnt_dec hb hq.symm
    obtain ⟨t, p1, p2, p3, p4⟩ := lst_dec _ _ _ _ _ hok.2.2.1 h
    rw [List.nil_append] at p1
    subst p1
    have e : ((i.length : Nat) : Int) = n := by omega
    refine ⟨by omega, ?_, ?_, p4⟩
    · unfold listB
      rw [if_pos rfl, e, List.append_assoc, ← p3]; exact h3
    · have := (lstF_ok n.toNat [] 0 hok.2.2.1).1
      rw [h] at this
      exact this
  · have := lst_err q.1.toNat [] q.2.1 q.2.2 he
    rw [h] at this
    exact absurd this.symm he
theorem row_dec {v : S44} {b c r : List Int} (hv : okVar v = true) (hb : areB b) (h : lstF (rowN v b 0).1.toNat [] (rowN v b 0).2.1 (rowN v b 0).2.2 = (c, r, 0)) : fitCell v c = true ∧ b = listB c (v.f1 == 3) ++ r ∧ areB r ∧ ∀ x ∈ c, in64 x := by
  unfold rowN at h
  by_cases hk : v.f1 = 3
  · have hk' : (v.f1 == 3) = true := by simpa using hk
    simp only [if_pos hk] at h
    obtain ⟨q, hq⟩ : ∃ q, q = cntF 1000 b 0 := ⟨_, rfl⟩
    rw [← hq] at h
    have hok := cntF_ok 1000 0 hb (by decide)
    rw [← hq] at hok
    by_cases he : q.2.2 = 0
    · obtain ⟨n, s, e⟩ := q
      simp only at he h hok
      subst he
      obtain ⟨h1, h2, h3⟩ := cnt_dec hb hq.symm
      obtain ⟨t, p1, p2, p3, p4⟩ := lst_dec _ _ _ _ _ hok.2.2.1 h
      rw [List.nil_append] at p1
      subst p1
      have e : ((c.length : Nat) : Int) = n := by omega
      refine ⟨by unfold fitCell; rw [if_pos hk, decide_eq_true_eq]; omega, ?_, ?_, p4⟩
      · unfold listB
        rw [hk', if_pos rfl, e, List.append_assoc, ← p3]; exact h3
      · have := (lstF_ok n.toNat [] 0 hok.2.2.1).1
        rw [h] at this
        exact this
    · have := lst_err q.1.toNat [] q.2.1 q.2.2 he
      rw [h] at this
      exact absurd this.symm he
  · have hk' : (v.f1 == 3) = false := by simpa using hk
    simp only [if_neg hk] at h
    obtain ⟨t, p1, p2, p3, p4⟩ := lst_dec _ _ _ _ _ hb h
    rw [List.nil_append] at p1
    subst p1
    have hm : 0 ≤ mx v.f2 1 := by unfold mx; split <;> omega
    refine ⟨by unfold fitCell; rw [if_neg hk, decide_eq_true_eq]; omega, ?_, ?_, p4⟩
    · unfold listB
      rw [hk', if_neg (by simp), List.nil_append]; exact p3
    · have := (lstF_ok (mx v.f2 1).toNat [] 0 hb).1
      rw [h] at this
      exact this
theorem rowN_err (v : S44) (b : List Int) (e : Int) (h : e ≠ 0) : (rowN v b e).2.2 = e := by
  unfold rowN
  split
  · rw [cnt_err _ _ _ h]
  · rfl
theorem cells_err : ∀ (l : List S44) (acc : List (List Int)) (b : List Int) (e : Int), e ≠ 0 → (decCells l acc b e).2.2 = e
  | [], acc, b, e, _ => rfl
  | v :: l, acc, b, e, h => by
    have h1 : (lstF (rowN v b e).1.toNat [] (rowN v b e).2.1 (rowN v b e).2.2).2.2 = e := by rw [lst_err _ _ _ _ (by rw [rowN_err v b e h]; exact h), rowN_err v b e h]
    rw [decCells_cons, h1]
    exact cells_err l _ _ e h
theorem cells_dec : ∀ (l : List S44) (acc : List (List Int)) (b r : List Int) (cs : List (List Int)), (∀ v ∈ l, okVar v = true) → areB b → decCells l acc b 0 = (cs, r, 0) →
    ∃ t, cs = acc ++ t ∧ t.length = l.length ∧ fitAll l t = true ∧ b = cellsB l t ++ r ∧ areB r ∧ ∀ c ∈ t, ∀ x ∈ c, in64 x
  | [], acc, b, r, cs, _, hb, h => by
    simp only [decCells, Prod.mk.injEq, and_true] at h
    exact ⟨[], by simp [h.1], rfl, rfl, by simp [cellsB, h.2], h.2 ▸ hb, by simp⟩
  | v :: l, acc, b, r, cs, hv, hb, h => by
    rw [decCells_cons] at h
    obtain ⟨q, hq⟩ : ∃ q, q = lstF (rowN v b 0).1.toNat [] (rowN v b 0).2.1 (rowN v b 0).2.2 := ⟨_, rfl⟩
    rw [← hq] at h
    by_cases he : q.2.2 = 0
    · obtain ⟨c, s, e⟩ := q
      simp only at he h
      subst he
      obtain ⟨h1, h2, h3, h4⟩ := row_dec (hv v List.mem_cons_self) hb hq.symm
      obtain ⟨t, p1, p2, p3, p4, p5, p6⟩ := cells_dec l _ _ _ _ (fun y hy => hv y (List.mem_cons_of_mem _ hy)) h3 h
      refine ⟨c :: t, by rw [p1, List.append_assoc]; rfl, by simp [p2], by simp [fitAll, h1, p3], ?_, p5, ?_⟩
      · rw [h2, p4]; simp [cellsB]
      · intro y hy
        rcases List.mem_cons.1 hy with rfl | hy
        · exact h4
        · exact p6 y hy
    · have := cells_err l (acc ++ [q.1]) q.2.1 q.2.2 he
      rw [h] at this
      exact absurd this.symm he
theorem tail_err (b : List Int) (e : Int) (h : e ≠ 0) : (decTail b e).2.2 = e := by
  unfold decTail
  rw [cnt_err _ _ _ h]
  exact lst_err _ _ _ _ h
/-- Bytes that Decode accepts are the encoding of what it returns. -/
theorem dec_dec {l : List S44} {b : List Int} {cs : List (List Int)} {i o : List Int} (hv : validP l = true) (hb : areB b) (h : decF l b true = (cs, i, o, 0)) :
    fitsP l cs i o = true ∧ b = encB l cs i o ∧ (∀ c ∈ cs, ∀ x ∈ c, in64 x) ∧ (∀ x ∈ i, in64 x) ∧ (∀ x ∈ o, in64 x) := by
  have hv2 := hv
  unfold validP at hv2
  simp only [Bool.and_eq_true, decide_eq_true_eq, List.all_eq_true] at hv2
  unfold decF at h
  rw [if_pos rfl] at h
  obtain ⟨q, hq⟩ : ∃ q, q = decCells l [] b 0 := ⟨_, rfl⟩
  rw [← hq] at h
  obtain ⟨c, s, e⟩ := q
  simp only at h
  unfold decRest at h
  obtain ⟨t1, ht1⟩ : ∃ t, t = decTail s e := ⟨_, rfl⟩
  obtain ⟨t2, ht2⟩ : ∃ t, t = decTail t1.2.1 t1.2.2 := ⟨_, rfl⟩
  rw [← ht1, ← ht2] at h
  by_cases hz : decEnd t2.2.1 t2.2.2 = 0
  · rw [if_neg (by rw [hz]; simp)] at h
    simp only [Prod.mk.injEq, and_true] at h
    obtain ⟨rfl, rfl, rfl⟩ := h
    have hz2 : t2.2.2 = 0 ∧ t2.2.1 = [] := by
      unfold decEnd at hz
      split at hz
      · rename_i hq0
        split at hz
        · simp at hz
        · rename_i hq1; exact ⟨hq0, List.eq_nil_of_length_eq_zero (by omega)⟩
      · rename_i hq0; exact absurd hz hq0
    have e1 : t1.2.2 = 0 := by
      by_cases h0 : t1.2.2 = 0
      · exact h0
      · have := tail_err t1.2.1 t1.2.2 h0
        rw [← ht2, hz2.1] at this
        exact absurd this.symm h0
    have e0 : e = 0 := by
      by_cases h0 : e = 0
      · exact h0
      · have := tail_err s e h0
        rw [← ht1, e1] at this
        exact absurd this.symm h0
    subst e0
    obtain ⟨t, p1, p2, p3, p4, p5, p6⟩ := cells_dec l [] b s c hv2.1 hb hq.symm
    rw [List.nil_append] at p1
    subst p1
    obtain ⟨i1, s1, e1'⟩ := t1
    simp only at e1
    subst e1
    obtain ⟨a1, a2, a3, a4⟩ := tail_dec p5 ht1.symm
    obtain ⟨i2, s2, e2'⟩ := t2
    obtain ⟨b1, b2⟩ := hz2
    simp only at b1 b2
    subst b1 b2
    obtain ⟨d1, d2, d3, d4⟩ := tail_dec a3 ht2.symm
    refine ⟨?_, ?_, p6, a4, d4⟩
    · unfold fitsP
      simp only [Bool.and_eq_true, decide_eq_true_eq]
      exact ⟨⟨⟨⟨hv, by omega⟩, by omega⟩, by omega⟩, p3⟩
    · unfold encB
      rw [p4, a2, d2, List.append_nil, List.append_assoc]
  · rw [if_pos hz] at h
    simp only [Prod.mk.injEq] at h
    exact absurd h.2.2.2 hz
/-- The reference's take, counted, Decode. -/
def refT (q : List Int × List Int × Int) : List Int × List Int × Int := if q.2.2 = 0 then q else ([], [], q.2.2)
theorem reftake_l1 (b : List Int) (hb : 8 ≤ b.length) (n : Int) (acc : List Int) (i : Int) (K : Nat) : ∀ (q j : Nat) (x : Int), q + j = 8 →
    backstepref10_take.l1 (K + q + 1) b n acc i x (j : Int) = backstepref10_take.l1 (K + 1) b n acc i (((b.take 8).drop j).foldl (fun x c => Go.bits .or .u64 (IntKind.u64.wrap (x * 256)) (IntKind.u64.wrap c)) x) 8
  | 0, j, x, h => by
    have : j = 8 := by omega
    subst this
    have e : (b.take 8).drop 8 = [] := List.drop_eq_nil_of_le (by rw [List.length_take]; omega)
    rw [e]; rfl
  | q + 1, j, x, h => by
    have hj : j < 8 := by omega
    have hjl : j < (b.take 8).length := by rw [List.length_take]; omega
    have ed : (b.take 8).drop j = (b.take 8)[j] :: (b.take 8).drop (j + 1) := List.drop_eq_getElem_cons hjl
    have eg : (b.take 8)[j] = b[j] := List.getElem_take
    have ih := reftake_l1 b hb n acc i K q (j + 1) (Go.bits .or .u64 (IntKind.u64.wrap (x * 256)) (IntKind.u64.wrap b[j])) (by omega)
    rw [ed, List.foldl_cons, eg, ← ih, show K + (q + 1) + 1 = (K + q + 1) + 1 by omega]
    conv => lhs; unfold backstepref10_take.l1
    rw [if_pos (by omega), if_pos (by omega), if_pos (by omega), rd_of (by omega), next_i (by omega)]
theorem reftake_l0 (n : Nat) (hn : n ≤ 1000000) : ∀ (r i : Nat) (acc b : List Int), r + i = n → acc.length ≤ i → b.length ≤ 1000000 → backstepref10_take.l0 (10 * r + 1) b (n : Int) acc (i : Int) = some (refT (lstF r acc b 0))
  | 0, i, acc, b, h, ha, hb => by
    unfold backstepref10_take.l0
    rw [if_neg (by omega)]; rfl
  | r + 1, i, acc, b, h, ha, hb => by
    rw [show 10 * (r + 1) + 1 = (10 * r + 10) + 1 by omega, lstF_succ, if_neg (by simp)]
    unfold backstepref10_take.l0
    rw [if_pos (by omega)]
    by_cases h8 : (b.length : Int) < 8
    · rw [if_pos h8, if_pos h8]; rfl
    · rw [if_neg h8, if_neg h8]
      have h1 := reftake_l1 b (by omega) (n : Int) acc (i : Int) (10 * r + 1) 8 0 0 (by omega)
      have ih := reftake_l0 n hn r (i + 1) (acc ++ [numF (b.take 8)]) (b.drop 8) (by omega) (by simp; omega) (by rw [List.length_drop]; omega)
      rw [show 10 * r + 10 = (10 * r + 1) + 8 + 1 by omega]
      have h1' : backstepref10_take.l1 ((10 * r + 1) + 8 + 1) b (n : Int) acc (i : Int) 0 0 = _ := h1
      rw [h1', List.drop_zero]
      conv => lhs; unfold backstepref10_take.l1
      rw [if_neg (by omega), if_pos (by omega), if_pos (by omega), next_i (by omega)]
      exact ih
theorem reftake_f (n : Nat) (hn : n ≤ 1000000) (b : List Int) (hb : b.length ≤ 1000000) : backstepref10_take.f (10 * n + 1) b (n : Int) = some (refT (lstF n [] b 0)) := by
  unfold backstepref10_take.f
  exact reftake_l0 n hn n 0 [] b (by omega) (by simp) hb
theorem num_two {b : List Int} (hb : areB b) (hl : 2 ≤ b.length) : numF (b.take 2) = b[0] * 256 + b[1] := by
  obtain ⟨h1, _, _⟩ := numF_val (areB_take hb 2) (by rw [List.length_take]; omega)
  have e : b.take 2 = [b[0], b[1]] := by
    match b, hl with
    | x :: y :: t, _ => rfl
  rw [h1, e]
  have h0 := hb b[0] (List.getElem_mem (by omega))
  have h2 := hb b[1] (List.getElem_mem (by omega))
  unfold valF
  simp only [List.foldl_cons, List.foldl_nil]
  rw [wrap64_of (by omega) (by omega)]
  omega
theorem refcounted_f (most : Nat) (hm : most ≤ 5000) {b : List Int} (hb : areB b) (hl : b.length ≤ 1000000) : backstepref10_counted.f 60000 b (most : Int) = some (refT (lstF (cntF most b 0).1.toNat [] (cntF most b 0).2.1 (cntF most b 0).2.2)) := by
  unfold backstepref10_counted.f cntF
  rw [if_neg (show ¬ ((0 : Int) ≠ 0) by simp)]
  by_cases h2 : (b.length : Int) < 2
  · rw [if_pos h2, if_pos h2]; rfl
  · rw [if_neg h2, if_neg h2, if_pos (by omega), if_pos (by omega)]
    have hn := numF_two hb
    have h0 := hb b[0] (List.getElem_mem (by omega))
    have h1 := hb b[1] (List.getElem_mem (by omega))
    have e0 : rd b 0 = b[0] := rd_of (i := 0) (by omega)
    have e1 : rd b 1 = b[1] := rd_of (i := 1) (by omega)
    have e : wrap64 ((wrap64 ((wrap64 (rd b 0)) * 256)) + (wrap64 (rd b 1))) = numF (b.take 2) := by
      rw [e0, e1, num_two hb (by omega), wrap64_of (n := b[0]) (by omega) (by omega), wrap64_of (n := b[1]) (by omega) (by omega), wrap64_of (n := b[0] * 256) (by omega) (by omega), wrap64_of (by omega) (by omega)]
      rfl
    rw [e]
    by_cases h3 : numF (b.take 2) > (most : Int)
    · rw [if_pos h3, if_pos h3]; rfl
    · rw [if_neg h3, if_neg h3, if_pos (by omega)]
      obtain ⟨m, hmm⟩ : ∃ m : Nat, numF (b.take 2) = (m : Int) := ⟨(numF (b.take 2)).toNat, by omega⟩
      have ht := upto (fun k => backstepref10_take.mono (b.drop 2) (m : Int) k) (reftake_f m (by omega) (b.drop 2) (by rw [List.length_drop]; omega)) (show 10 * m + 1 ≤ 60000 by omega)
      rw [hmm, ht, Option.bind_some]
      rfl
theorem rest_err (c : List (List Int)) (b : List Int) (e : Int) (h : e ≠ 0) : decRest c b e = ([], [], [], e) := by
  have h1 := tail_err b e h
  have h2 := tail_err (decTail b e).2.1 (decTail b e).2.2 (by rw [h1]; exact h)
  unfold decRest decEnd
  rw [h2, h1, if_neg h, if_pos h]
theorem refdec_l0 (l : List S44) (hl : l.length ≤ 1000) (hv : ∀ v ∈ l, okVar v = true) : ∀ (r i : Nat) (b : List Int) (acc : List (List Int)), r + i = l.length → acc.length ≤ i → areB b → b.length ≤ 1000000 →
    backstepref10_Decode.l0 (r + 60010) l b (i : Int) acc = some (decRest (decCells (l.drop i) acc b 0).1 (decCells (l.drop i) acc b 0).2.1 (decCells (l.drop i) acc b 0).2.2)
  | 0, i, b, acc, h, ha, hb, hbl => by
    have hi := upto (fun k => backstepref10_counted.mono b ((4096 : Nat) : Int) k) (refcounted_f 4096 (by omega) hb hbl) (show 60000 ≤ 60009 by omega)
    obtain ⟨z, hz⟩ : ∃ z, z = 60009 := ⟨_, rfl⟩
    rw [← hz] at hi
    rw [List.drop_eq_nil_of_le (by omega), show 0 + 60010 = z + 1 by omega]
    have hcnt := cntF_ok 4096 0 hb (by decide)
    obtain ⟨t1, ht1⟩ : ∃ t, t = decTail b 0 := ⟨_, rfl⟩
    have ht1' : lstF (cntF ((4096 : Nat) : Int) b 0).1.toNat [] (cntF ((4096 : Nat) : Int) b 0).2.1 (cntF ((4096 : Nat) : Int) b 0).2.2 = t1 := by rw [ht1]; rfl
    rw [ht1'] at hi
    have hi' : backstepref10_counted.f z b 4096 = some (refT t1) := hi
    have hok : areB t1.2.1 ∧ t1.2.1.length ≤ 1000000 := by
      have := lstF_ok (cntF 4096 b 0).1.toNat [] (cntF 4096 b 0).2.2 hcnt.2.2.1
      rw [ht1]
      unfold decTail
      exact ⟨this.1, by omega⟩
    show _ = some (decRest acc b 0)
    unfold backstepref10_Decode.l0
    rw [if_neg (by omega), hi', Option.bind_some]
    unfold refT decRest
    rw [← ht1]
    by_cases h1 : t1.2.2 = 0
    · have ho := upto (fun k => backstepref10_counted.mono t1.2.1 ((4096 : Nat) : Int) k) (refcounted_f 4096 (by omega) hok.1 hok.2) (show 60000 ≤ z by omega)
      obtain ⟨t2, ht2⟩ : ∃ t, t = decTail t1.2.1 t1.2.2 := ⟨_, rfl⟩
      have ht2' : lstF (cntF ((4096 : Nat) : Int) t1.2.1 0).1.toNat [] (cntF ((4096 : Nat) : Int) t1.2.1 0).2.1 (cntF ((4096 : Nat) : Int) t1.2.1 0).2.2 = t2 := by rw [ht2, h1]; rfl
      rw [ht2'] at ho
      have ho' : backstepref10_counted.f z t1.2.1 4096 = some (refT t2) := ho
      rw [if_pos h1, if_pos h1, ho', Option.bind_some, ← ht2]
      unfold refT decEnd
      by_cases h2 : t2.2.2 = 0
      · rw [if_pos h2, if_pos h2, if_pos h2]
        by_cases h3 : (t2.2.1.length : Int) > 0
        · rw [if_pos h3, if_pos h3, if_pos (by decide)]
        · rw [if_neg h3, if_neg h3, if_neg (by decide)]
      · rw [if_neg h2, if_neg h2, if_neg h2, if_pos h2]
    · have h2 := tail_err t1.2.1 t1.2.2 h1
      unfold decEnd
      rw [if_neg h1, h2, if_neg h1, if_neg h1, if_pos h1]
  | r + 1, i, b, acc, h, ha, hb, hbl => by
    have hi : i < l.length := by omega
    have ed : l.drop i = l[i] :: l.drop (i + 1) := List.drop_eq_getElem_cons hi
    have ho := hv l[i] (List.getElem_mem hi)
    unfold okVar at ho
    simp only [Bool.or_eq_true, Bool.and_eq_true, decide_eq_true_eq] at ho
    obtain ⟨q, hq⟩ : ∃ q, q = lstF (rowN l[i] b 0).1.toNat [] (rowN l[i] b 0).2.1 (rowN l[i] b 0).2.2 := ⟨_, rfl⟩
    have hqok : areB q.2.1 ∧ q.2.1.length ≤ 1000000 := by
      rw [hq]
      unfold rowN
      split
      · have hcnt := cntF_ok 1000 0 hb (by decide)
        have := lstF_ok (cntF 1000 b 0).1.toNat [] (cntF 1000 b 0).2.2 hcnt.2.2.1
        exact ⟨this.1, by omega⟩
      · have := lstF_ok (mx l[i].f2 1).toNat [] 0 hb
        exact ⟨this.1, by have := this.2.1; dsimp only at this ⊢; omega⟩
    have ih := refdec_l0 l hl hv r (i + 1) q.2.1 (acc ++ [q.1]) (by omega) (by simp; omega) hqok.1 hqok.2
    have hstep : ∀ (x : Option (List Int × List Int × Int)), x = some (refT q) → (x.bind fun bt => (if bt.2.2 = 0 then (if acc.length < 5864062014805 then (backstepref10_Decode.l0 (r + 60010) l bt.2.1 (wrap64 ((i : Int) + 1)) (acc ++ [bt.1])) else (none)) else (some (([] : List (List Int)), ([] : List Int), ([] : List Int), bt.2.2)))) =
        some (decRest (decCells (l.drop i) acc b 0).1 (decCells (l.drop i) acc b 0).2.1 (decCells (l.drop i) acc b 0).2.2) := by
      intro x hx
      rw [hx, Option.bind_some, ed, decCells_cons, ← hq]
      unfold refT
      by_cases he : q.2.2 = 0
      · rw [if_pos he, if_pos he, if_pos (by omega), next_i (by omega), ih, he]
      · rw [if_neg he]
        simp only
        rw [if_neg he, cells_err _ _ _ _ he, rest_err _ _ _ he]
    rw [show r + 1 + 60010 = (r + 60010) + 1 by omega]
    unfold backstepref10_Decode.l0
    rw [if_pos (by omega), if_pos (by omega), rdT_of hi]
    by_cases hk : l[i].f1 = 3
    · rw [if_pos hk]
      apply hstep
      have := upto (fun k => backstepref10_counted.mono b ((1000 : Nat) : Int) k) (refcounted_f 1000 (by omega) hb hbl) (show 60000 ≤ r + 60010 by omega)
      have e : rowN l[i] b 0 = cntF ((1000 : Nat) : Int) b 0 := by unfold rowN; rw [if_pos hk]; rfl
      rw [hq, e]
      exact this
    · rw [if_neg hk]
      apply hstep
      obtain ⟨m, hm⟩ : ∃ m : Nat, mx l[i].f2 1 = (m : Int) := ⟨(mx l[i].f2 1).toNat, by unfold mx; split <;> omega⟩
      have hm16 : m ≤ 16 := by
        have : mx l[i].f2 1 ≤ 16 := by unfold mx; split <;> omega
        omega
      have := upto (fun k => backstepref10_take.mono b (m : Int) k) (reftake_f m (by omega) b hbl) (show 10 * m + 1 ≤ r + 60010 by omega)
      have e : rowN l[i] b 0 = ((m : Int), b, 0) := by unfold rowN; rw [if_neg hk, hm]
      rw [hq, e, hm]
      exact this
theorem refdec_f (l : List S44) (hl : l.length ≤ 1000) (b : List Int) (hb : areB b) (hbl : b.length ≤ 1000000) : backstepref10_Decode.f (l.length + 60010) l b = some (decF l b (validP l)) := by
  have hv := upto (fun k => backstepref10_Valid.mono l k) (refvalid_f l (by omega)) (show l.length + 1 ≤ l.length + 60010 by omega)
  unfold backstepref10_Decode.f
  rw [hv, Option.bind_some]
  unfold decF
  cases hvp : validP l
  · rw [if_neg (by simp), if_neg (by simp)]
  · rw [if_pos rfl, if_pos rfl]
    have hall : ∀ v ∈ l, okVar v = true := by
      unfold validP at hvp
      simp only [Bool.and_eq_true, List.all_eq_true] at hvp
      exact hvp.1
    exact refdec_l0 l hl hall l.length 0 b [] (by omega) (by simp) hb hbl
theorem dec_cases (l : List S44) {b : List Int} (hb : areB b) : ∃ cs i o e, decF l b (validP l) = (cs, i, o, e) ∧ ((e ≠ 0 ∧ cs = [] ∧ i = [] ∧ o = []) ∨ (e = 0 ∧ fitsP l cs i o = true ∧ b = encB l cs i o)) := by
  cases hv : validP l
  · exact ⟨[], [], [], 3, by unfold decF; rw [if_neg (by simp)], .inl ⟨by decide, rfl, rfl, rfl⟩⟩
  · obtain ⟨q, hq⟩ : ∃ q, q = decF l b true := ⟨_, rfl⟩
    obtain ⟨cs, i, o, e⟩ := q
    refine ⟨cs, i, o, e, hq.symm, ?_⟩
    by_cases he : e = 0
    · subst he
      obtain ⟨h1, h2, _⟩ := dec_dec hv hb hq.symm
      exact .inr ⟨rfl, h1, h2⟩
    · refine .inl ⟨he, ?_⟩
      unfold decF decRest at hq
      rw [if_pos rfl] at hq
      split at hq
      · simp only [Prod.mk.injEq] at hq
        exact ⟨hq.1, hq.2.1, hq.2.2.1⟩
      · simp only [Prod.mk.injEq] at hq
        exact absurd hq.2.2.2 he
theorem cellsB_row : ∀ (l : List S44) (cs : List (List Int)), cs.length = l.length → ∀ c ∈ cs, 8 * c.length ≤ (cellsB l cs).length
  | [], [], _, c, hc => by simp at hc
  | [], _ :: _, h, _, _ => by simp at h
  | _ :: _, [], h, _, _ => by simp at h
  | v :: l, d :: cs, h, c, hc => by
    simp only [cellsB, List.length_append]
    rcases List.mem_cons.1 hc with rfl | hc
    · unfold listB
      rw [List.length_append, numsB_length]; omega
    · have := cellsB_row l cs (by simpa using h) c hc
      omega
theorem encB_rows {l : List S44} {cs : List (List Int)} {i o : List Int} (hl : cs.length = l.length) (h : (encB l cs i o).length ≤ 600) : (∀ c ∈ cs, c.length ≤ 100) ∧ i.length ≤ 100 ∧ o.length ≤ 100 := by
  unfold encB at h
  rw [List.length_append, List.length_append] at h
  have h1 : 8 * i.length ≤ (listB i true).length := by unfold listB; rw [List.length_append, numsB_length]; omega
  have h2 : 8 * o.length ≤ (listB o true).length := by unfold listB; rw [List.length_append, numsB_length]; omega
  exact ⟨fun c hc => by have := cellsB_row l cs hl c hc; omega, by omega, by omega⟩
theorem decode_f {l : List S44} {b : List Int} {r : List (List Int) × List Int × List Int × Int} (hl : l.length ≤ 1000) (hb : areB b) (hbl : b.length ≤ 100000) (h : decF l b (validP l) = r) : state_Decode.f (2 * l.length + 1) l b = some r := by
  unfold state_Decode.f
  rw [valid_f l (by omega), Option.bind_some, if_pos, h]
  refine ⟨⟨hl, by omega, ?_⟩, fun hv => ?_⟩
  · rw [List.all_eq_true]
    intro x hx
    have := hb x hx
    simpa using this
  · unfold validP at hv
    simp only [Bool.and_eq_true, decide_eq_true_eq, List.all_eq_true] at hv
    rw [List.all_eq_true]
    intro v hvl
    have := hv.1 v hvl
    unfold okVar at this
    simp only [Bool.or_eq_true, Bool.and_eq_true, decide_eq_true_eq] at this
    rw [decide_eq_true_eq]
    unfold mx
    split <;> omega
end Go.Proofs.Ytjphfhmkpknfaaa.PureD
