/- search.slot behind the last list: the state is handed over. The whole search. -/
import Derived.Test.YtgcdeablfoomhaaSeaSl
set_option linter.unusedVariables false
set_option linter.unusedSimpArgs false
namespace Go.Proofs.Ytgcdeablfoomhaa.PAll
open Go.RowKit Go.Proofs.YtgcdeablfoomhaaW.PrintWords Go.Proofs.YtgcdeablfoomhaaW.PrintLast Go.Proofs.YtgcdeablfoomhaaW.PrintMore

theorem Inv.reads {C : Cx} {T : Nat → Prop} {W : World} {rows : List (List Int)} (h : Inv C T W rows) (hC : C.Ok) : Kd.C (Kd.slice 3 (Kd.int .i64)) W (some ⟨C.L, 0, none⟩) rows.length rows := by
  obtain ⟨vs, h1, h2, h3, h4⟩ := h.r
  have hn := h.n
  refine ⟨rfl, ?_, fun _ => ⟨_, rfl, fun j p hj => ?_⟩⟩
  · have := hC.n1; omega
  obtain ⟨hjl, hjp⟩ := List.getElem?_eq_some_iff.1 hj
  have h5 := h3 j
  obtain ⟨A, c, e, hl, hC⟩ := Kd.R_reads h5
  have h6 := cell_list h2 j (by omega)
  rw [e] at h6
  have hg : rows.getD j [] = p := by rw [List.getD_eq_getElem?_getD, hj]; rfl
  rw [hg] at h6 hl hC
  refine ⟨[.slice A p.length c], rfl, ⟨A, c, rfl, hl, hC⟩, fun i u hu => ?_⟩
  match i, hu with
  | 0, hu =>
    have : u = .slice A p.length c := by simpa using hu.symm
    have hz : j * (Kd.slice 3 (Kd.int .i64)).sz + 0 = j := by show j * 1 + 0 = j; omega
    rw [this, addr0, hz]
    exact h6
/-- A state as it is handed over: its lists, the input the last one; its memory is new. -/
def encS (x : List (List Int)) (y : Value × Value) : Array Value := #[.agg #[y.1, y.2, nil3]]
def GS (z : Nat) (x : List (List Int)) (y : Value × Value) (A : World) : Prop :=
  Kd.R (Kd.slice 3 (Kd.int .i64)) 33 A z (fun _ => True) y.1 x.dropLast ∧ Kd.R (Kd.int .i64) 3 A z (fun _ => True) y.2 (x.getLastD [])
/-- What the caller of the search promises of its yield. -/
def YieldC (C : Cx) (J Jx : (Nat → Prop) → List (List (List Int)) → World → Prop) : Prop :=
  ∀ (T : Nat → Prop) (done : List (List (List Int))) (x : List (List Int)) (y : Value × Value) (Az A : World), J T done Az → (∀ k, T k → k < Az.heap.size) → Below Az.heap.size Az A → GS Az.heap.size x y A →
    YieldAt Fence.wide 0 Try.prog C.l (encS x y) A fun e B => (e = .returned (.bool true) ∧ J T (done ++ [x]) B ∧ KeepS T A B) ∨ (e = .returned (.bool false) ∧ Jx T (done ++ [x]) B ∧ KeepS T A B)

set_option maxRecDepth 100000 in
set_option maxHeartbeats 8000000 in
theorem slot_nil (C : Cx) (hC : C.Ok) (J Jx : (Nat → Prop) → List (List (List Int)) → World → Prop) (hJ : Abide J) (hJx : Abide Jx) (hY : YieldC C J Jx) : SlotC C J Jx [] := by
  intro pre wt T W done hd hlen hpl hw0 hw1 hj hi
  have hpn : pre.length = C.sl.length := by simpa using hlen
  have hout : (slotO C.rk [] wt).map (fun q => pre ++ q) = [pre] := by simp [slotO]
  rw [hout]
  simp only [List.length_nil, List.replicate_zero, List.append_nil] at hi ⊢
  obtain ⟨cs, inp, hpre⟩ : ∃ cs inp, pre = cs ++ [inp] := by
    have h1 : pre ≠ [] := by intro h; rw [h] at hpn; have := hC.n0; simp at hpn; omega
    exact ⟨pre.dropLast, pre.getLast h1, (List.dropLast_concat_getLast h1).symm⟩
  subst hpre
  have hcn : cs.length + 1 = C.sl.length := by simpa using hpn
  obtain ⟨b0, b1, b2, b3, b4, b5⟩ := hi.c.cell
  have q1 : (((cs ++ [inp]).length : Int) == (C.sl.length : Int)) = true := by rw [hpn]; simp
  have hfin : ∀ (b : Bool) (B : World) (A Az : World), Inv C T Az (cs ++ [inp]) → Below Az.heap.size Az A → KeepS T A B → ((b = true ∧ J T (done ++ [cs ++ [inp]]) B) ∨ (b = false ∧ Jx T (done ++ [cs ++ [inp]]) B)) → SPost C J Jx done [cs ++ [inp]] (cs ++ [inp]) (.returned (.bool b)) B := by
    intro b B A Az hI hbe hk hr
    refine ⟨b, T, rfl, ?_, (hI.below hbe).keepS hk⟩
    rcases hr with ⟨h1, h2⟩ | ⟨h1, h2⟩
    · exact .inl ⟨h1, h2⟩
    · exact .inr ⟨h1, 0, by simp, by simpa using h2⟩
  have HFIN := Lib.hid hfin
  have HI := Lib.hid hi
  have HJ := Lib.hid hj
  have HPL := Lib.hid hpl
  have HCN := Lib.hid hcn
  have HPN := Lib.hid hpn
  clear hfin hi hj hpl hcn hd hlen hout b1 b2 b3
  rw [hpn] at q1 ⊢
  clear hpn
  refine (callsIn_wide (n := 1)).1 ?_
  refine callsIn_of_wp Try.func33 rfl trivial ?_ rfl
  simp only [Try.ntmps33, List.size_toArray, List.length_cons, List.length_nil, Nat.reduceAdd, Nat.reduceSub, Array.replicate_succ, Array.replicate_zero, List.push_toArray, List.append_toArray, List.nil_append, List.cons_append]
  gi_wp2
  refine wpIn_region_any (by kernel_rfl) ?_
  change wpAnyIn _ _ _ _ _ _ _ _ _ (World.drew _)
  obtain ⟨Az, hAz⟩ : ∃ Az, Az = W.drew := ⟨_, rfl⟩
  have nb : Below W.heap.size W Az := by rw [hAz]; exact below_drew1 (Below.refl _ _)
  have b4' : Az.cell? ⟨C.B, 4, none⟩ = some (.slice (some ⟨C.L, 0, none⟩) C.sl.length C.sl.length) := by rw [hAz]; exact b4
  have b5' : Az.cell? ⟨C.B, 5, none⟩ = some (.func (.yield C.l) #[] #[]) := by rw [hAz]; exact b5
  rw [← hAz]
  have nHI := HI.out.below nb
  have nHJ := hJ _ _ _ _ _ HJ.out (StepT.of_below nb) (Grows.refl _ _)
  clear HI HJ nb hAz b4 b5 b0
  have HI := Lib.hid nHI
  have HJ := Lib.hid nHJ
  have hst := sea_state cs inp C.B (some ⟨C.L, 0, none⟩) C.sl.length Az (by rw [HCN.out]; exact b4') (by rw [HCN.out]; have h1 := HI.out.reads hC; rwa [HPN.out] at h1) (by have := hC.n1; have := HCN.out; omega) (fun r hr => by have := HPL.out r hr; omega)
  have HST := Lib.hid hst
  clear nHI nHJ hst
  refine wpAnyIn_take (i := 0) (v := ?_) rfl rfl (by kernel_rfl) (by kernel_rfl) (by kernel_rfl) (fun _ _ _ h => h) ⟨Or.inl ⟨by rfl, ?_⟩, fun _ => rfl⟩ ?_
  case refine_2 => intro w'; go_simp; try rfl
  refine wpAnyIn_take (i := 4) (v := ?_) rfl rfl (by kernel_rfl) (by kernel_rfl) (by kernel_rfl) (fun _ _ _ h => h) ⟨Or.inl ⟨by rfl, ?_⟩, fun _ => rfl⟩ ?_
  case refine_2 => intro w'; go_simp; try rfl
  refine wpAnyIn_take (i := 1) (v := ?_) rfl rfl (by kernel_rfl) (by kernel_rfl) (by kernel_rfl) (fun _ _ _ h => h) ⟨Or.inl ⟨by rfl, ?_⟩, fun _ => rfl⟩ ?_
  case refine_2 => intro w'; go_simp; try rfl
  refine wpAnyIn_take (i := 2) (v := ?_) rfl rfl (by kernel_rfl) (by kernel_rfl) (by kernel_rfl) (fun _ _ _ h => h) ⟨Or.inl ⟨by rfl, ?_⟩, fun _ => rfl⟩ ?_
  case refine_2 => intro w'; go_simp; try rfl
  refine wpAnyIn_ready (rs := [3, 5]) (by kernel_rfl) (by simp) (AllReadyIn.cons rfl (fun K hK => ?o3) (AllReadyIn.cons rfl (fun K hK => ?o5) AllReadyIn.nil))
  case o3 =>
    go_simp
    refine hK _ _ ?_
    clear hK K
    refine wpAnyIn_ready (rs := [5]) (by kernel_rfl) (by simp) (AllReadyIn.cons rfl (fun K hK => ?o5b) AllReadyIn.nil)
    case o5b =>
      go_simp
      refine ⟨trivial, (callsIn_wide.2 HST.out).mono ?_⟩
      rintro e A ⟨v0, v1, rfl, hv0, hv1, hbA⟩
      go_simp
      refine hK _ _ ?_
      clear hK K
      obtain ⟨fn, tmps, assign, body, hy, hR⟩ := hY T done (cs ++ [inp]) (v0, v1) Az A HJ.out HI.out.tlt hbA ⟨by simpa using hv0, by simpa using hv1⟩
      simp only [encS] at hy
      have HR := Lib.hid hR
      have HBA := Lib.hid hbA
      clear hR hv0 hv1 hbA
      refine wpAnyIn_ready (rs := [6]) (by kernel_rfl) (by simp) (AllReadyIn.cons rfl (fun K hK => ?o6) AllReadyIn.nil)
      case o6 =>
        go_simp
        refine HR.out.mono ?_
        rintro e B hpost
        have hb2 : ∃ b : Bool, e = .returned (.bool b) ∧ KeepS T A B ∧ ((b = true ∧ J T (done ++ [cs ++ [inp]]) B) ∨ (b = false ∧ Jx T (done ++ [cs ++ [inp]]) B)) := by
          rcases hpost with ⟨h1, h2, h3⟩ | ⟨h1, h2, h3⟩
          · exact ⟨true, h1, h3, .inl ⟨rfl, h2⟩⟩
          · exact ⟨false, h1, h3, .inr ⟨rfl, h2⟩⟩
        obtain ⟨b, rfl, hk, hr⟩ := hb2
        have HPOST := Lib.hid (HFIN.out b B A Az HI.out HBA.out hk hr)
        clear hpost hk hr hy
        go_simp
        refine hK _ _ ?_
        clear hK K
        refine wpAnyIn_take (i := 7) (v := ?_) rfl rfl (by kernel_rfl) (by kernel_rfl) (by kernel_rfl) (fun _ _ _ h => h) ⟨Or.inl ⟨by rfl, ?_⟩, fun _ => rfl⟩ ?_
        case refine_2 => intro w'; go_simp; try rfl
        refine wpAnyIn_done (by kernel_rfl) ?_ _
        gi_wp2
        go_ret
        exact HPOST.out
  case o5 =>
    go_simp
    refine ⟨trivial, (callsIn_wide.2 HST.out).mono ?_⟩
    rintro e A ⟨v0, v1, rfl, hv0, hv1, hbA⟩
    have b5A := (hbA.cell (World.block_lt_of_cell? _ _ b5')).trans b5'
    go_simp
    refine hK _ _ ?_
    clear hK K
    refine wpAnyIn_ready (rs := [3]) (by kernel_rfl) (by simp) (AllReadyIn.cons rfl (fun K hK => ?o3b) AllReadyIn.nil)
    case o3b =>
      go_simp
      refine hK _ _ ?_
      clear hK K
      obtain ⟨fn, tmps, assign, body, hy, hR⟩ := hY T done (cs ++ [inp]) (v0, v1) Az A HJ.out HI.out.tlt hbA ⟨by simpa using hv0, by simpa using hv1⟩
      simp only [encS] at hy
      have HR := Lib.hid hR
      have HBA := Lib.hid hbA
      clear hR hv0 hv1 hbA
      refine wpAnyIn_ready (rs := [6]) (by kernel_rfl) (by simp) (AllReadyIn.cons rfl (fun K hK => ?o6) AllReadyIn.nil)
      case o6 =>
        go_simp
        refine HR.out.mono ?_
        rintro e B hpost
        have hb2 : ∃ b : Bool, e = .returned (.bool b) ∧ KeepS T A B ∧ ((b = true ∧ J T (done ++ [cs ++ [inp]]) B) ∨ (b = false ∧ Jx T (done ++ [cs ++ [inp]]) B)) := by
          rcases hpost with ⟨h1, h2, h3⟩ | ⟨h1, h2, h3⟩
          · exact ⟨true, h1, h3, .inl ⟨rfl, h2⟩⟩
          · exact ⟨false, h1, h3, .inr ⟨rfl, h2⟩⟩
        obtain ⟨b, rfl, hk, hr⟩ := hb2
        have HPOST := Lib.hid (HFIN.out b B A Az HI.out HBA.out hk hr)
        clear hpost hk hr hy
        go_simp
        refine hK _ _ ?_
        clear hK K
        refine wpAnyIn_take (i := 7) (v := ?_) rfl rfl (by kernel_rfl) (by kernel_rfl) (by kernel_rfl) (fun _ _ _ h => h) ⟨Or.inl ⟨by rfl, ?_⟩, fun _ => rfl⟩ ?_
        case refine_2 => intro w'; go_simp; try rfl
        refine wpAnyIn_done (by kernel_rfl) ?_ _
        gi_wp2
        go_ret
        exact HPOST.out
/-- The whole search, from any list on. -/
theorem sea_slot (C : Cx) (hC : C.Ok) (J Jx : (Nat → Prop) → List (List (List Int)) → World → Prop) (hJ : Abide J) (hJx : Abide Jx) (hY : YieldC C J Jx) : ∀ rest, SlotC C J Jx rest
  | [] => slot_nil C hC J Jx hJ hJx hY
  | s :: r => slot_cons C hC J Jx hJ hJx s r fun left => by
    have hr := sea_slot C hC J Jx hJ hJx hY r
    induction left with
    | zero => exact elem_zero C hC J Jx hJ hJx r hr
    | succ n ih => exact elem_succ C hC J Jx hJ hJx r n ih
end Go.Proofs.Ytgcdeablfoomhaa.PAll
