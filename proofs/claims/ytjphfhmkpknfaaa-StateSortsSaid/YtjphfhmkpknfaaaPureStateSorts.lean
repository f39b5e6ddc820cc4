/- StateSorts' plain law. -/
import Derived.Test.YtjphfhmkpknfaaaPAllx16
import Derived.Test.YtjphfhmkpknfaaaPlainF
import Derived.Test.YtjphfhmkpknfaaaOpenSt
import Derived.Lib.Bytes
set_option linter.unusedVariables false
set_option linter.unusedSimpArgs false
namespace Go.Proofs.Ytjphfhmkpknfaaa.Pure
open Go.RowKit Go.Proofs.Ytjphfhmkpknfaaa.PAll Go.Proofs.YtjphfhmkpknfaaaW.PrintWords Go.Proofs.YtjphfhmkpknfaaaW.PrintLast Go.Proofs.YtjphfhmkpknfaaaW.PrintMore

/-- Bytes, as numbers. -/
def areBytes (l : List Int) : Prop := ∀ x ∈ l, 0 ≤ x ∧ x < 256
theorem byteOf_byte (x : Int) (k : Nat) : 0 ≤ byteOf x k ∧ byteOf x k < 256 := by unfold byteOf; omega
theorem bytesBE_bytes (x : Int) : ∀ n, areBytes (bytesBE x n)
  | 0 => by intro y hy; simp [bytesBE] at hy
  | n + 1 => by
    intro y hy
    rw [bytesBE] at hy
    rcases List.mem_cons.1 hy with rfl | hy
    · exact byteOf_byte x n
    · exact bytesBE_bytes x n y hy
theorem areBytes_append {a b : List Int} (ha : areBytes a) (hb : areBytes b) : areBytes (a ++ b) := by
  intro x hx
  rcases List.mem_append.1 hx with h | h
  · exact ha x h
  · exact hb x h
theorem numsB_bytes (l : List Int) : areBytes (numsB l) := by
  intro y hy
  obtain ⟨x, _, hx⟩ := List.mem_flatMap.1 hy
  exact bytesBE_bytes x 8 y hx
theorem listB_bytes (l : List Int) (c : Bool) : areBytes (listB l c) := by
  unfold listB
  refine areBytes_append ?_ (numsB_bytes l)
  split
  · exact bytesBE_bytes _ 2
  · intro y hy; simp at hy
theorem cellsB_bytes : ∀ (l : List S44) (cs : List (List Int)), areBytes (cellsB l cs)
  | v :: l, c :: cs => areBytes_append (listB_bytes c _) (cellsB_bytes l cs)
  | [], _ => by intro y hy; simp [cellsB] at hy
  | _ :: _, [] => by intro y hy; simp [cellsB] at hy
theorem encB_bytes (l : List S44) (cs : List (List Int)) (i o : List Int) : areBytes (encB l cs i o) :=
  areBytes_append (areBytes_append (cellsB_bytes l cs) (listB_bytes i true)) (listB_bytes o true)
theorem ofBytes_inj : ∀ {a b : List Int}, areBytes a → areBytes b → (a.map fun n => UInt8.ofNat n.toNat) = (b.map fun n => UInt8.ofNat n.toNat) → a = b
  | [], [], _, _, _ => rfl
  | [], _ :: _, _, _, h => by simp at h
  | _ :: _, [], _, _, h => by simp at h
  | x :: a, y :: b, ha, hb, h => by
    simp only [List.map_cons, List.cons.injEq] at h
    have h1 := congrArg UInt8.toNat h.1
    have hx := ha x List.mem_cons_self
    have hy := hb y List.mem_cons_self
    simp only [UInt8.toNat_ofNat'] at h1
    obtain rfl : x = y := by omega
    obtain rfl := ofBytes_inj (fun z hz => ha z (List.mem_cons_of_mem _ hz)) (fun z hz => hb z (List.mem_cons_of_mem _ hz)) h.2
    rfl
theorem str_eq {a b : List Int} (ha : areBytes a) (hb : areBytes b) : ((strOfNums a).toList == (strOfNums b).toList) = decide (a = b) := by
  rw [Bool.eq_iff_iff, beq_iff_eq, decide_eq_true_eq]
  constructor
  · intro h
    rw [Lib.strOfNums_toList, Lib.strOfNums_toList] at h
    exact ofBytes_inj ha hb h
  · rintro rfl; rfl
theorem goodInts_in64 {l : List Int} (h : goodInts l) : ∀ x ∈ l, in64 x := fun x hx => wf64.1 (h x hx)
theorem StateSorts (l : List S44) (a : List (List Int)) (i o : List Int) (b : List (List Int)) (i' o' : List Int) (ga : ∀ x ∈ a, goodInts x) (gi : goodInts i) (go : goodInts o) (gb : ∀ x ∈ b, goodInts x) (gi' : goodInts i') (go' : goodInts o') :
    ∃ k, backsteplaw10_StateSorts.f k l a i o b i' o' = some true := by
  obtain ⟨K1, hK1⟩ := small_f a i o
  obtain ⟨K2, hK2⟩ := small_f b i' o'
  obtain ⟨K, hK⟩ : ∃ K, K = K1 + K2 + 20000 := ⟨_, rfl⟩
  have jt : backsteplaw10_StateSorts.j0 (K + 1) l true a i o b i' o' = some true := by rw [backsteplaw10_StateSorts.j0, if_pos rfl]
  have jf : l.length ≤ 40 → smallP a i o → smallP b i' o' → backsteplaw10_StateSorts.j0 (K + 1) l false a i o b i' o' = some true := by
    intro hl ha hb
    obtain ⟨ha1, ha2, ha3, ha4⟩ := ha
    obtain ⟨hb1, hb2, hb3, hb4⟩ := hb
    have q1 := upto (fun k => state_Encode.mono l a i o k) (encode_f l a i o (by omega) (fun x hx => by have := ha4 x hx; omega) (by omega) (by omega)) (show _ ≤ K by omega)
    have q2 := upto (fun k => state_Encode.mono l b i' o' k) (encode_f l b i' o' (by omega) (fun x hx => by have := hb4 x hx; omega) (by omega) (by omega)) (show _ ≤ K by omega)
    have q3 := upto (fun k => state_Equal.mono a i o b i' o' k) (equal_f a i o b i' o' (by omega) (fun x hx => by have := ha4 x hx; omega) (by omega) (by omega)) (show _ ≤ K by omega)
    rw [backsteplaw10_StateSorts.j0, if_neg (by simp), q1, Option.bind_some, q2, Option.bind_some]
    by_cases f1 : fitsP l a i o = true
    · rw [if_pos f1]
      by_cases f2 : fitsP l b i' o' = true
      · rw [if_pos f2, if_pos rfl, if_pos rfl, q3, Option.bind_some, str_eq (encB_bytes _ _ _ _) (encB_bytes _ _ _ _)]
        congr 1
        rw [beq_iff_eq, Bool.eq_iff_iff, decide_eq_true_eq]
        unfold sameP
        simp only [Bool.and_eq_true, decide_eq_true_eq]
        constructor
        · intro h
          obtain ⟨h1, h2, h3⟩ := encB_inj (fun q hq => goodInts_in64 (ga q hq)) (fun q hq => goodInts_in64 (gb q hq)) (goodInts_in64 gi) (goodInts_in64 gi') (goodInts_in64 go) (goodInts_in64 go') f1 f2 h
          exact ⟨⟨h1, h2⟩, h3⟩
        · rintro ⟨⟨rfl, rfl⟩, rfl⟩; rfl
      · rw [if_neg f2, if_pos rfl, if_neg (by decide)]
    · rw [if_neg f1, if_neg (by decide)]
  refine ⟨K + 1, ?_⟩
  have ha := upto (fun k => backsteplaw10_awake.mono k) awake_ok (show 300 ≤ K + 1 by omega)
  have s1 := upto (fun k => backsteplaw10_small.mono a i o k) hK1 (show K1 ≤ K + 1 by omega)
  have s2 := upto (fun k => backsteplaw10_small.mono b i' o' k) hK2 (show K2 ≤ K + 1 by omega)
  unfold backsteplaw10_StateSorts.f
  rw [ha, Option.bind_some, if_pos rfl]
  by_cases c : (l.length : Int) > 40
  · rw [if_pos c]; exact jt
  · rw [if_neg c, s1, Option.bind_some]
    by_cases c1 : smallP a i o
    · rw [if_pos c1, if_neg (by omega), s2, Option.bind_some]
      by_cases c2 : smallP b i' o'
      · rw [if_pos c2]
        exact jf (by omega) c1 c2
      · rw [if_neg c2]; exact jt
    · rw [if_neg c1, if_pos rfl]; exact jt
end Go.Proofs.Ytjphfhmkpknfaaa.Pure
