/- state.reader: count and list, over what they do to the reader's two fields. -/
import Derived.Test.YtjphfhmkpknfaaaPart
import Derived.Test.YtjphfhmkpknfaaaPAllx20
import Derived.Deep.CutRange
set_option linter.unusedVariables false
set_option linter.unusedSimpArgs false
namespace Go.Proofs.Ytjphfhmkpknfaaa.PAll
open Go.RowKit Go.Proofs.YtjphfhmkpknfaaaW.PrintWords Go.Proofs.YtjphfhmkpknfaaaW.PrintLast Go.Proofs.YtjphfhmkpknfaaaW.PrintMore
attribute [local go_sem] max2_int min2_int max_two min_two max_three min_three max_four min_four

/-! #### the number of some bytes -/
def numF (b : List Int) : Int := wrap64 (b.foldl (fun x c => Go.bits .or .u64 (IntKind.u64.wrap (x * 256)) (IntKind.u64.wrap c)) 0)
theorem number_l0 (b : List Int) (hb : b.length ≤ 100) : ∀ (r i : Nat) (x : Int), r + i = b.length → state_number.l0 (r + 1) x b (b.length : Int) (i : Int) = some (wrap64 ((b.drop i).foldl (fun x c => Go.bits .or .u64 (IntKind.u64.wrap (x * 256)) (IntKind.u64.wrap c)) x))
  | 0, i, x, h => by
    unfold state_number.l0
    rw [if_neg (by omega), List.drop_eq_nil_of_le (by omega)]; rfl
  | r + 1, i, x, h => by
    have hi : i < b.length := by omega
    have ed : b.drop i = b[i] :: b.drop (i + 1) := List.drop_eq_getElem_cons hi
    have hn : wrap64 ((i : Int) + 1) = ((i + 1 : Nat) : Int) := by rw [wrap64_of' (by omega) (by omega)]; omega
    have hrd : rd b (i : Int) = b[i] := by unfold rd; simp [hi]
    rw [ed, List.foldl_cons]
    unfold state_number.l0
    rw [if_pos (by omega), if_pos (by omega), if_pos (by omega), hn, hrd, number_l0 b hb r (i + 1) _ (by omega)]
theorem number_f (b : List Int) (hb : b.length ≤ 100) : state_number.f (b.length + 1) b = some (numF b) := by
  unfold state_number.f numF
  have := number_l0 b hb b.length 0 0 (by omega)
  simpa using this

/-! #### what count and list do -/
def cntF (most : Int) (b : List Int) (e : Int) : Int × List Int × Int :=
  if e ≠ 0 then (0, b, e) else if (b.length : Int) < 2 then (0, b, 4) else if numF (b.take 2) > most then (0, b.drop 2, 5) else (numF (b.take 2), b.drop 2, 0)
def lstF : Nat → List Int → List Int → Int → List Int × List Int × Int
  | 0, acc, b, e => (acc, b, e)
  | n + 1, acc, b, e => if e ≠ 0 then ([], b, e) else if (b.length : Int) < 8 then ([], b, 4) else lstF n (acc ++ [numF (b.take 8)]) (b.drop 8) 0

theorem lstF_succ (n : Nat) (acc b : List Int) (e : Int) : lstF (n + 1) acc b e = if e ≠ 0 then ([], b, e) else if (b.length : Int) < 8 then ([], b, 4) else lstF n (acc ++ [numF (b.take 8)]) (b.drop 8) 0 := rfl
/-- The reader's box: the bytes still to come, the error. -/
def RdBox (W : World) (B : Nat) (v : Value) (e : Int) : Prop := W.heap[B]? = some (.cells #[v, .int .i64 e] 73 (0, 0))
section
variable {W W' : World} {B : Nat} {v : Value} {e : Int}
theorem RdBox.c0 (h : RdBox W B v e) : W.cell? ⟨B, 0, none⟩ = some v := by simp [World.cell?, show W.heap[B]? = _ from h]
theorem RdBox.c1 (h : RdBox W B v e) : W.cell? ⟨B, 1, none⟩ = some (.int .i64 e) := by simp [World.cell?, show W.heap[B]? = _ from h]
theorem RdBox.f0 (h : RdBox W B v e) : W.frozen? ⟨B, 0, none⟩ = false := by simp [World.frozen?, show W.heap[B]? = _ from h]
theorem RdBox.f1 (h : RdBox W B v e) : W.frozen? ⟨B, 1, none⟩ = false := by simp [World.frozen?, show W.heap[B]? = _ from h]
theorem RdBox.lt (h : RdBox W B v e) : B < W.heap.size := (Array.getElem?_eq_some_iff.1 h).1
theorem RdBox.set0 (h : RdBox W B v e) (u : Value) : RdBox (W.setCell ⟨B, 0, none⟩ u) B u e := heap_setCell_same W B 0 _ 73 u h
theorem RdBox.set1 (h : RdBox W B v e) (x : Int) : RdBox (W.setCell ⟨B, 1, none⟩ (.int .i64 x)) B v x := heap_setCell_same W B 1 _ 73 _ h
theorem RdBox.below (h : RdBox W B v e) (hb : Below W.heap.size W W') : RdBox W' B v e := (hb.block B h.lt).trans h
theorem RdBox.drawn (h : RdBox W B v e) (hd : Drawn0 W W') : RdBox W' B v e := h.below hd.below
theorem RdBox.kept (h : RdBox W B v e) {ob : Option Nat} (hg : W.grownBy W' ob) (hne : some B ≠ ob) : RdBox W' B v e := (hg.block B h.lt hne).trans h
end
theorem rdBox_ne {α : Type} {d : Kd α} {e B : Nat} {w : World} {base : Nat} {ok : Nat → Prop} {v u : Value} {x : Int} {xs : List α} (h : d.R e w base ok v xs) (hb : RdBox w B u x) (hte : (73 : Nat) ≠ e) : some B ≠ v.ownBlock := by
  intro he
  obtain ⟨inner, ho⟩ := Kd.R_own h
  obtain ⟨cells, hc⟩ := own_typed ho B he.symm
  rw [show w.heap[B]? = _ from hb] at hc
  injection hc with hc
  injection hc with _ h2
  exact hte h2
theorem grownBy_set (W : World) (a : Addr) (v : Value) : W.grownBy (W.setCell a v) (some a.block) :=
  ⟨rfl, rfl, rfl, by simp, fun k _ hk => heap_setCell_other W a k v (fun e => hk (by rw [e]))⟩
theorem grownBy_refl (W : World) (b : Option Nat) : W.grownBy W b := ⟨rfl, rfl, rfl, Nat.le_refl _, fun _ _ _ => rfl⟩
theorem grownBy_trans {W W1 W2 : World} {b : Option Nat} (h : W.grownBy W1 b) (h2 : W1.grownBy W2 b) : W.grownBy W2 b :=
  ⟨h2.os.trans h.os, h2.tape.trans h.tape, h2.output.trans h.output, Nat.le_trans h.size h2.size, fun k hk hne => (h2.block k (Nat.lt_of_lt_of_le hk h.size) hne).trans (h.block k hk hne)⟩
theorem grownBy_drawn {W W1 : World} (b : Option Nat) (h : Drawn0 W W1) : W.grownBy W1 b := by
  obtain ⟨n, rfl⟩ := h
  exact ⟨rfl, rfl, rfl, Nat.le_refl _, fun _ _ _ => rfl⟩

theorem hi73 : ∃ i, Try.prog.info? 5 = some i ∧ i.size = 1 := by
  have h : (Try.prog.info? 5).map (fun i => i.size) = some 1 := by kernel_rfl
  exact Option.map_eq_some_iff.1 h
theorem sl_take (A : Option Addr) (n c : Nat) (m : Nat) (hm : m ≤ n) (hc : n ≤ c) : ∀ W : World, (Instr.slice 47 (.slice A n c) none (some (.int .i64 (m : Int))) none).run Try.prog W = .ok (.slice A m c) W := by
  intro W
  obtain ⟨i, hi, hsz⟩ := hi73
  have hel : Try.prog.elem 47 = 5 := by simp [Program.elem, Try.underlying47]
  have hu : Try.prog.underlying 47 = some (.slice (Try.prog.elem 47)) := by rw [hel]; exact Try.underlying47
  have ha : (A.map fun x => x.add 0) = A := by cases A <;> simp [Addr.add]
  rw [run_slice_h W 47 A n c hu .i64 m (by omega) (by omega), hel]
  simp [sizeOf, typeInfo, hi, hsz, sliced, Result.andThen, ha]
theorem sl_drop (A : Option Addr) (n c : Nat) (m : Nat) (hm : m ≤ n) (hc : n ≤ c) : ∀ W : World, (Instr.slice 47 (.slice A n c) (some (.int .i64 (m : Int))) none none).run Try.prog W = .ok (.slice (if c = m then A else A.map (·.add m)) (n - m) (c - m)) W := by
  intro W
  obtain ⟨i, hi, hsz⟩ := hi73
  have hel : Try.prog.elem 47 = 5 := by simp [Program.elem, Try.underlying47]
  have hu : Try.prog.underlying 47 = some (.slice (Try.prog.elem 47)) := by rw [hel]; exact Try.underlying47
  rw [run_slice_l W 47 A n c hu .i64 m (by omega) (by omega), hel]
  simp [sizeOf, typeInfo, hi, hsz, sliced, Result.andThen]

set_option maxRecDepth 100000 in
set_option maxHeartbeats 4000000 in
theorem count_calls (B : Nat) (A : Option Addr) (c : Nat) (l : List Int) (e most : Int) (w0 w : World) (hr : Kd.C (Kd.int .u8) w0 A l.length l) (hc : l.length ≤ c) (hl : l.length ≤ 1099511627776) (hB0 : Below w0.heap.size w0 w) (hbx : RdBox w B (.slice A l.length c) e) :
    Calls Try.prog 44 #[.pointer (some ⟨B, 0, none⟩), .int .i64 most] w fun z w' => ∃ A' c', z = .returned (.int .i64 (cntF most l e).1) ∧ RdBox w' B (.slice A' (cntF most l e).2.1.length c') (cntF most l e).2.2 ∧ Kd.C (Kd.int .u8) w0 A' (cntF most l e).2.1.length (cntF most l e).2.1 ∧ (cntF most l e).2.1.length ≤ c' ∧ w.grownBy w' (some B) := by
  have HR := Lib.hid hr
  have HBX := Lib.hid hbx
  have HB0 := Lib.hid hB0
  have hcell0 := hbx.c0
  have hcell1 := hbx.c1
  have hfro0 := hbx.f0
  have hfro1 := hbx.f1
  clear hr hbx hB0
  by_cases he : e = 0
  · have heb : (e == 0) = true := by simpa using he
    have he1 : (e != 0) = false := by simpa using he
    have hed : decide (e = 0) = true := decide_eq_true he
    by_cases h2 : (l.length : Int) < 2
    · have h2b : decide ((l.length : Int) < 2) = true := decide_eq_true h2
      have hf : cntF most l e = (0, l, 4) := by unfold cntF; rw [if_neg (by simpa using he), if_pos h2]
      rw [hf]
      clear hf he
      have h2n : l.length < 2 := by omega
      have h2d : decide (l.length < 2) = true := decide_eq_true h2n
      go_enter Try.func44, Try.ntmps44
      go_wp2
      go_ret
      exact ⟨A, c, rfl, HBX.out.set1 4, HR.out, hc, grownBy_set _ _ _⟩
    · have h2b : decide ((l.length : Int) < 2) = false := decide_eq_false h2
      have h2n : ¬ l.length < 2 := by omega
      have h2d : decide (l.length < 2) = false := decide_eq_false h2n
      obtain ⟨b2, hb2⟩ : ∃ b2, b2 = l.take 2 := ⟨_, rfl⟩
      obtain ⟨A2, hA2⟩ : ∃ A2, A2 = (if c = 2 then A else A.map (·.add 2)) := ⟨_, rfl⟩
      have hb2l : b2.length = 2 := by rw [hb2, List.length_take]; omega
      have hs1 : ∀ W : World, (Instr.slice 47 (.slice A l.length c) none (some (.int .i64 2)) none).run Try.prog W = .ok (.slice A 2 c) W := sl_take A l.length c 2 (by omega) hc
      have hs2 : ∀ W : World, (Instr.slice 47 (.slice A l.length c) (some (.int .i64 2)) none none).run Try.prog W = .ok (.slice A2 (l.length - 2) (c - 2)) W := by rw [hA2]; exact sl_drop A l.length c 2 (by omega) hc
      have hC2 : Kd.C (Kd.int .u8) w0 A2 (l.drop 2).length (l.drop 2) := by rw [hA2]; exact Kd.C_drop HR.out (by omega) hc
      have hCt : Kd.C (Kd.int .u8) w0 A b2.length b2 := by rw [hb2]; exact Kd.C_take HR.out (by omega)
      have hcn := state_number.calls 3 A c b2 (numF b2) w (Kd.C_below hCt HB0.out) (by omega) (by have := number_f b2 (by omega); rwa [hb2l] at this)
      rw [hb2l] at hcn
      have HC2 := Lib.hid hC2
      have HCN := Lib.hid hcn
      have HB2 := Lib.hid hb2
      have hf : cntF most l e = if numF b2 > most then (0, l.drop 2, 5) else (numF b2, l.drop 2, 0) := by unfold cntF; rw [if_neg (by simpa using he), if_neg h2, ← hb2]
      obtain ⟨nn, hnn⟩ : ∃ nn, nn = numF b2 := ⟨_, rfl⟩
      rw [← hnn] at hf
      have HNN := Lib.hid hnn
      clear hC2 hCt hcn hb2 hb2l hA2 hnn
      by_cases hm : nn > most
      · rw [if_pos hm] at hf
        have hmb : decide (most < nn) = true := decide_eq_true hm
        rw [hf]
        clear hf he
        go_enter Try.func44, Try.ntmps44
        go_wp2_with (fail)
        refine HCN.out.mono ?_
        rintro z w1 ⟨rfl, hd1⟩
        rw [← HNN.out]
        have hbx1 := HBX.out.drawn hd1
        clear hcell0 hcell1 hfro0 hfro1
        have hcell0 := hbx1.c0
        have hcell1 := hbx1.c1
        have hfro0 := hbx1.f0
        have hfro1 := hbx1.f1
        have HBX1 := Lib.hid hbx1
        have HD1 := Lib.hid hd1
        clear hbx1 hd1
        go_wp2
        go_ret
        exact ⟨A2, c - 2, rfl, by rw [List.length_drop]; exact (HBX1.out.set0 _).set1 5, HC2.out, by rw [List.length_drop]; omega, grownBy_trans (grownBy_drawn _ HD1.out) (grownBy_trans (grownBy_set w1 ⟨B, 0, none⟩ _) (grownBy_set _ ⟨B, 1, none⟩ _))⟩
      · rw [if_neg hm] at hf
        have hmb : decide (most < nn) = false := decide_eq_false hm
        rw [hf]
        clear hf
        go_enter Try.func44, Try.ntmps44
        go_wp2_with (fail)
        refine HCN.out.mono ?_
        rintro z w1 ⟨rfl, hd1⟩
        rw [← HNN.out]
        have hbx1 := HBX.out.drawn hd1
        clear hcell0 hcell1 hfro0 hfro1
        have hcell0 := hbx1.c0
        have hcell1 := hbx1.c1
        have hfro0 := hbx1.f0
        have hfro1 := hbx1.f1
        have HBX1 := Lib.hid hbx1
        have HD1 := Lib.hid hd1
        clear hbx1 hd1
        have HE := Lib.hid he
        clear he
        go_wp2
        go_ret
        exact ⟨A2, c - 2, rfl, by rw [List.length_drop, ← HE.out]; exact HBX1.out.set0 _, HC2.out, by rw [List.length_drop]; omega, grownBy_trans (grownBy_drawn _ HD1.out) (grownBy_set w1 ⟨B, 0, none⟩ _)⟩
  · have heb : (e == 0) = false := by simpa using he
    have he1 : (e != 0) = true := by simpa using he
    have hed : decide (e = 0) = false := decide_eq_false he
    have hf : cntF most l e = (0, l, e) := by unfold cntF; rw [if_pos he]
    rw [hf]
    clear hf he
    go_enter Try.func44, Try.ntmps44
    go_wp2
    go_ret
    exact ⟨A, c, rfl, HBX.out, HR.out, hc, grownBy_refl _ _⟩
/-- What a call owns stays while a cell of a block below its base is written. -/
theorem Kd.R_setOther {α : Type} {d : Kd α} {e base : Nat} {w : World} {ok : Nat → Prop} {v u : Value} {xs : List α} {B j : Nat} (h : d.R e w base ok v xs) (hB : B < base) : d.R e (w.setCell ⟨B, j, none⟩ u) base ok v xs :=
  Kd.R_mono (Kd.R_move (Kd.R_bound h) (fun k hk => Below.heap_setCell w ⟨B, j, none⟩ u k (by have := hk.2.1; simp; omega))) (fun _ hk => hk.1)
theorem grownBy_own {W W1 W2 : World} {b ob : Option Nat} (h : W.grownBy W1 b) (h2 : W1.grownBy W2 ob) (hb : ∀ k, ob = some k → W.heap.size ≤ k) : W.grownBy W2 b :=
  ⟨h2.os.trans h.os, h2.tape.trans h.tape, h2.output.trans h.output, Nat.le_trans h.size h2.size, fun k hk hne => (h2.block k (Nat.lt_of_lt_of_le hk h.size) (fun e => by have := hb k e.symm; omega)).trans (h.block k hk hne)⟩

def ListPost (w0 w : World) (B : Nat) (Rs : List Int × List Int × Int) (z : Ending) (w' : World) : Prop :=
  ∃ v A' c', z = .returned v ∧ Kd.R (Kd.int .i64) 3 w' w.heap.size (fun _ => True) v Rs.1 ∧ RdBox w' B (.slice A' Rs.2.1.length c') Rs.2.2 ∧ Kd.C (Kd.int .u8) w0 A' Rs.2.1.length Rs.2.1 ∧ Rs.2.1.length ≤ c' ∧ w.grownBy w' (some B)
theorem ListPost.mk {w0 w : World} {B : Nat} {Rs : List Int × List Int × Int} {w' : World} (v : Value) (A' : Option Addr) (c' : Nat) (h1 : Kd.R (Kd.int .i64) 3 w' w.heap.size (fun _ => True) v Rs.1) (h2 : RdBox w' B (.slice A' Rs.2.1.length c') Rs.2.2) (h3 : Kd.C (Kd.int .u8) w0 A' Rs.2.1.length Rs.2.1) (h4 : Rs.2.1.length ≤ c') (h5 : w.grownBy w' (some B)) : ListPost w0 w B Rs (.returned v) w' :=
  ⟨v, A', c', rfl, h1, h2, h3, h4, h5⟩
set_option maxRecDepth 100000 in
set_option maxHeartbeats 4000000 in
theorem list_calls (B : Nat) (A : Option Addr) (c : Nat) (l : List Int) (e : Int) (n : Nat) (w0 w : World) (hr : Kd.C (Kd.int .u8) w0 A l.length l) (hc : l.length ≤ c) (hl : l.length ≤ 1099511627776) (hn : n ≤ 1000000) (hB0 : Below w0.heap.size w0 w) (hlo : w0.heap.size ≤ B) (hbx : RdBox w B (.slice A l.length c) e) :
    Calls Try.prog 45 #[.pointer (some ⟨B, 0, none⟩), .int .i64 (n : Int)] w fun z w' => ListPost w0 w B (lstF n [] l e) z w' := by
  have HR := Lib.hid hr
  have HBX := Lib.hid hbx
  have HB0 := Lib.hid hB0
  clear hr hbx hB0
  obtain ⟨Rs, hRs⟩ : ∃ Rs, Rs = lstF n [] l e := ⟨_, rfl⟩
  rw [← hRs]
  have HRS := Lib.hid hRs
  clear hRs
  go_enter Try.func45, Try.ntmps45
  go_wp2_with (fail)
  go_loopg [5, 7] n (fun kq v5 v7 wr => ∃ (i : Nat) (acc lc : List Int) (ec : Int) (Ac : Option Addr) (cc : Nat), kq + i = n ∧ v7 = .int .i64 i ∧ Aside0 (Rs = lstF kq acc lc ec) ∧ acc.length = i ∧ lc.length ≤ 1099511627776 ∧ lc.length ≤ cc ∧
      Aside0 (Kd.R (Kd.int .i64) 3 wr w.heap.size (fun _ => True) v5 acc) ∧ Aside0 (RdBox wr B (.slice Ac lc.length cc) ec) ∧ Aside0 (Kd.C (Kd.int .u8) w0 Ac lc.length lc) ∧ Aside0 (w.grownBy wr (some B)))
  case atStart => exact ⟨0, [], l, e, A, c, rfl, rfl, ⟨HRS.out⟩, rfl, hl, hc, ⟨Kd.R_nil _ _ _ _ _⟩, ⟨HBX.out⟩, ⟨HR.out⟩, ⟨grownBy_refl _ _⟩⟩
  case round =>
    have HSZ := Lib.hid HBX.out.lt
    clear HBX HR
    obtain ⟨i, acc, lc, ec, Ac, cc, hik, rfl, HF, hai, hlc, hcc, HV, HBX, HR, HG⟩ := hrel
    have hcell0 := HBX.out.c0
    have hcell1 := HBX.out.c1
    have hfro0 := HBX.out.f0
    have hfro1 := HBX.out.f1
    by_cases hi : i < n
    · have hib : decide ((i : Int) < (n : Int)) = true := decide_eq_true (by omega)
      have hi2 : ¬ n ≤ i := by omega
      have hid : decide (i < n) = true := decide_eq_true hi
      obtain ⟨m, hm⟩ : ∃ m, gk = m + 1 := ⟨gk - 1, by omega⟩
      by_cases he : ec = 0
      · have heb : (ec == 0) = true := by simpa using he
        have he1 : (ec != 0) = false := by simpa using he
        have hed : decide (ec = 0) = true := decide_eq_true he
        by_cases h8 : (lc.length : Int) < 8
        · have h8b : decide ((lc.length : Int) < 8) = true := decide_eq_true h8
          have h8n : lc.length < 8 := by omega
          have h8d : decide (lc.length < 8) = true := decide_eq_true h8n
          have hf : Rs = ([], lc, 4) := by rw [HF.out, hm, lstF_succ, if_neg (by simpa using he), if_pos h8]
          have HE := Lib.hid he
          clear he h8 hm HF HRS
          subst hf
          go_wp2
          go_ret
          exact ListPost.mk _ Ac cc (Kd.R_nil _ _ _ _ _) (HBX.out.set1 4) HR.out hcc (grownBy_trans HG.out (grownBy_set _ ⟨B, 1, none⟩ _))
        · have h8b : decide ((lc.length : Int) < 8) = false := decide_eq_false h8
          have h8n : ¬ lc.length < 8 := by omega
          have h8d : decide (lc.length < 8) = false := decide_eq_false h8n
          obtain ⟨b8, hb8⟩ : ∃ b8, b8 = lc.take 8 := ⟨_, rfl⟩
          obtain ⟨A2, hA2⟩ : ∃ A2, A2 = (if cc = 8 then Ac else Ac.map (·.add 8)) := ⟨_, rfl⟩
          have hb8l : b8.length = 8 := by rw [hb8, List.length_take]; omega
          have hs1 : ∀ W : World, (Instr.slice 47 (.slice Ac lc.length cc) none (some (.int .i64 8)) none).run Try.prog W = .ok (.slice Ac 8 cc) W := sl_take Ac lc.length cc 8 (by omega) hcc
          have hs2 : ∀ W : World, (Instr.slice 47 (.slice Ac lc.length cc) (some (.int .i64 8)) none none).run Try.prog W = .ok (.slice A2 (lc.length - 8) (cc - 8)) W := by rw [hA2]; exact sl_drop Ac lc.length cc 8 (by omega) hcc
          have hC2 : Kd.C (Kd.int .u8) w0 A2 (lc.drop 8).length (lc.drop 8) := by rw [hA2]; exact Kd.C_drop HR.out (by omega) hcc
          have hCt : Kd.C (Kd.int .u8) w0 Ac b8.length b8 := by rw [hb8]; exact Kd.C_take HR.out (by omega)
          have hwr : Below w0.heap.size w0 wr := HB0.out.grown HG.out HB0.out.size (fun k hk => by injection hk with hk; omega)
          have hcn := state_number.calls 9 Ac cc b8 (numF b8) wr (Kd.C_below hCt hwr) (by omega) (by have := number_f b8 (by omega); rwa [hb8l] at this)
          rw [hb8l] at hcn
          have HC2 := Lib.hid hC2
          have HCN := Lib.hid hcn
          have hf : Rs = lstF m (acc ++ [numF b8]) (lc.drop 8) 0 := by rw [HF.out, hm, lstF_succ, if_neg (by simpa using he), if_neg h8, ← hb8]
          have HFF := Lib.hid hf
          have HE := Lib.hid he
          have hmm : m = gk - 1 := by omega
          clear hC2 hCt hcn hb8 hb8l hA2 hf h8 hwr he HF
          go_wp2_with (fail)
          refine HCN.out.mono ?_
          rintro z w1 ⟨rfl, hd1⟩
          have hbx1 := HBX.out.drawn hd1
          have hv1 := Kd.R_below HV.out hd1.below
          have hg1 := grownBy_trans HG.out (grownBy_drawn _ hd1)
          have hz1 : w.heap.size ≤ w1.heap.size := hg1.size
          clear hcell0 hcell1 hfro0 hfro1
          have HBX1 := Lib.hid hbx1
          have HV1 := Lib.hid hv1
          have HG1 := Lib.hid hg1
          clear hbx1 hd1 hv1 hg1 HV HBX HG
          go_wp2_with ((with_reducible refine gate_builtin (b := .append) (xs := #[.tmp 30, .tmp 37]) rfl ?_); at_builtin; refine Kd.R_append (Kd.int .i64) (w0 := w1) w.heap.size rfl (.tmp 30) (.tmp 37) 23 3 (.int .i64 0) 8 rfl Try.underlying23 info3 rfl (by decide) (by omega) u5 acc (numF b8) [.int .i64 (numF b8)] (fun _ => True) (fun _ => False) rfl rfl rfl (fun _ h => h.elim) (fun _ _ => trivial) HV1.out (Below.refl _ _) (by omega) (by omega) ?_; intro v2 w2 ho hb2 hg hat; have hbx2 := HBX1.out.kept hg (rdBox_ne HV1.out HBX1.out (by decide)); have hcell0 := hbx2.c0; have hcell1 := hbx2.c1; have hfro0 := hbx2.f0; have hfro1 := hbx2.f1)
          have HBX2 := Lib.hid hbx2
          have HO := Lib.hid ho
          have hg2 := grownBy_own HG1.out hg (fun k hk => by obtain ⟨inner, hoo⟩ := Kd.R_own HV1.out; exact own_base hoo k hk)
          have HG2 := Lib.hid hg2
          have hlB := HSZ.out
          clear hg2 hg hat hb2 ho hbx2
          go_roundg m
          case measure => omega
          case rel => exact ⟨i + 1, acc ++ [numF b8], lc.drop 8, 0, A2, cc - 8, by omega, by go_num, ⟨HFF.out⟩, by simp; omega, by rw [List.length_drop]; omega, by rw [List.length_drop]; omega, ⟨Kd.R_setOther HO.out HSZ.out⟩, ⟨by rw [List.length_drop, ← HE.out]; exact HBX2.out.set0 _⟩, ⟨HC2.out⟩, ⟨grownBy_trans HG2.out (grownBy_set _ ⟨B, 0, none⟩ _)⟩⟩
      · have heb : (ec == 0) = false := by simpa using he
        have he1 : (ec != 0) = true := by simpa using he
        have hed : decide (ec = 0) = false := decide_eq_false he
        have hf : Rs = ([], lc, ec) := by rw [HF.out, hm, lstF_succ, if_pos (by simpa using he)]
        clear he hm HF HRS
        subst hf
        go_wp2
        go_ret
        exact ListPost.mk _ Ac cc (Kd.R_nil _ _ _ _ _) HBX.out HR.out hcc HG.out
    · have hib : decide ((i : Int) < (n : Int)) = false := decide_eq_false (by omega)
      have hi2 : n ≤ i := by omega
      have hid : decide (i < n) = false := decide_eq_false hi
      have hf : Rs = (acc, lc, ec) := by rw [HF.out, show gk = 0 by omega]; rfl
      clear HF HRS
      subst hf
      go_wp2
      go_ret
      exact ListPost.mk _ Ac cc HV.out HBX.out HR.out hcc HG.out
end Go.Proofs.Ytjphfhmkpknfaaa.PAll
