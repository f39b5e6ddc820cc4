/- pebble.Legal: for every n and every slice of at most 2^40 moves it returns what legalGo says; nothing that was there changes. -/
import Derived.Test.YtpkamififbhheaaLegS
import Derived.Test.YtpkamififbhheaaHelp
import Derived.Test.YtpkamififbhheaaWMore
import Derived.Maps.RangeWalk
import Derived.BigQuiet
import Derived.Deep.QuietTactic
import Derived.Outline
import Derived.OpenShut
set_option linter.unusedVariables false
set_option linter.unusedSimpArgs false
namespace Go.Proofs.Ytpkamififbhheaa
open Go.RowKit Go.Shelf Go.Maps Go.Proofs.YtpkamififbhheaaW.PrintWords Go.Proofs.YtpkamififbhheaaW.PrintMore
attribute [local go_sem] max2_int min2_int max_two min_two

set_option maxRecDepth 100000 in
set_option maxHeartbeats 4000000 in
theorem Legal_calls (n : Int) (hn : (Lit.int .i64 n).wf = true) (A : Option Addr) (c : Nat) (xs : List Int) (hl : xs.length ≤ 1099511627776) (hwx : ∀ x ∈ xs, (Lit.int .i64 x).wf = true) (w : World) (hr : Kd.C (Kd.int .i64) w A xs.length xs) :
    Calls Try.prog 18 #[.int .i64 n, .slice A xs.length c] w fun e w' => e = .returned (.tuple #[.int .i64 (legalGo n 0 [] xs).1, .bool (legalGo n 0 [] xs).2]) ∧ Below w.heap.size w w' := by
  have hcell : ∀ j, j < xs.length → ∃ ad, A = some ad ∧ ad.block < w.heap.size ∧ w.cell? (ad.add j) = some (Value.int .i64 (rd xs j)) := fun j hj => by
    obtain ⟨ad, e, hc⟩ := Kd.at_int hr (j : Int) (by omega) (by omega)
    have hc' : w.cell? (ad.add j) = some (Value.int .i64 (rd xs j)) := hc
    exact ⟨ad, e, by have := World.block_lt_of_cell? w _ hc'; rwa [Addr.add_block] at this, hc'⟩
  clear hr
  obtain ⟨N, hN⟩ : ∃ N, N = xs.length := ⟨_, rfl⟩
  rw [← hN] at hcell hl ⊢
  have HN := Lib.hid hN
  have HC := Lib.hid hcell
  clear hN hcell
  have hmm := @run_makeMap Try.prog
  obtain ⟨w2, hins, hon2, hg2⟩ := (OnMap.made w).upd (by unfold maxLen; omega) 0 (by decide) true
  have hB2 : Below w.heap.size w w2 := ((Below.refl _ w).alloc (Nat.le_refl _) _).grown hg2 (by simp) (fun k e => by cases e; exact Nat.le_refl _)
  have hon3 : OnMap w2 w.heap.size 1 (onOf []) := hon2.congr (fun x => by simp [onOf]; by_cases h : x = 0 <;> simp [h])
  have HO2 := Lib.hid hon3
  have HB2 := Lib.hid hB2
  clear hon2 hon3 hB2 hg2
  go_enter Try.func18, Try.ntmps18
  go_wp2
  have hnb := bounds_i64 hn
  go_loopw [16] (fun vi wr => ∃ (i : Nat) (ps : List Int), i ≤ N ∧ vi = .int .i64 i ∧ Aside0 (legalGo n 0 [] xs = legalGo n i ps (xs.drop i)) ∧ Aside0 (OnMap wr w.heap.size (i + 1) (onOf ps)) ∧ Aside0 (∀ x ∈ ps, 1 ≤ x ∧ x ≤ 9223372036854775807) ∧ Aside0 (Below w.heap.size w wr))
    (fun vi _ => N - (intOf vi).toNat)
  case atStart => exact ⟨0, [], Nat.zero_le _, rfl, ⟨by simp⟩, ⟨HO2.out⟩, ⟨by simp⟩, ⟨HB2.out⟩⟩
  case round =>
    obtain ⟨i, ps, hi, rfl, HG, HO, HP, HB⟩ := hrel
    by_cases hlt : i < N
    · obtain ⟨ad, rfl, hab, hcq⟩ := HC.out i hlt
      have hcx := (HB.out.cell (p := ad.add i) (by rw [Addr.add_block]; exact hab)).trans hcq
      have hxl : i < xs.length := by have := HN.out; omega
      obtain ⟨m, hm⟩ : ∃ m, m = rd xs i := ⟨_, rfl⟩
      have hmx : xs.drop i = m :: xs.drop (i + 1) := by
        rw [List.drop_eq_getElem_cons hxl, hm]; simp [rd, List.getD_eq_getElem?_getD, hxl]
      have hmw : (Lit.int .i64 m).wf = true := hwx m (by rw [hm]; simp [rd, List.getD_eq_getElem?_getD, hxl])
      rw [← hm] at hcx
      have HMX := Lib.hid hmx
      clear hm hmx hcq
      have hmb := bounds_i64 hmw
      obtain ⟨nd, hnd⟩ : ∃ nd, nd = nodeOf m := ⟨_, rfl⟩
      have hnd' : (if m < wrap64 (-m) then wrap64 (-m) else m) = nd := by rw [hnd]; rfl
      have hndw : (Lit.int .i64 nd).wf = true := by rw [hnd]; unfold nodeOf; split; exact wrap64_wf _; exact hmw
      have hndb := bounds_i64 hndw
      have HND := Lib.hid hnd
      clear hnd
      have HM := Lib.hid hmw
      have HW := Lib.hid hndw
      clear hmw hndw
      have hdone : ∀ (b : Bool), badMove n ps m = b → legalGo n 0 [] xs = if b then ((i : Int), false) else legalGo n (i + 1) (updOn ps nd m) (xs.drop (i + 1)) := fun b hb => by
        rw [HG.out, HMX.out, legalGo, hb, HND.out]
      have HD := Lib.hid hdone
      clear hdone
      go_upto_region 6 with (fail)
      clear hnd'
      by_cases h1 : nd < 1
      · have hfin := HD.out true (by unfold badMove; rw [← HND.out]; simp [h1])
        have HF := Lib.hid hfin
        clear hfin
        go_wp2
        go_ret2
        rw [HF.out]
        exact ⟨rfl, HB.out⟩
      · by_cases h2 : n < nd
        · have hfin := HD.out true (by unfold badMove; rw [← HND.out]; simp [h2])
          have HF := Lib.hid hfin
          clear hfin
          go_wp2
          go_ret2
          rw [HF.out]
          exact ⟨rfl, HB.out⟩
        · have hlook := HO.out.look nd HW.out
          have hw1 : (Lit.int .i64 (nd - 1)).wf = true := WalkArith.wf_i64 (by omega)
          have hlook1 := HO.out.look (nd - 1) hw1
          obtain ⟨b1, hb1⟩ : ∃ b1, b1 = onOf ps nd := ⟨_, rfl⟩
          obtain ⟨b2, hb2⟩ : ∃ b2, b2 = onOf ps (nd - 1) := ⟨_, rfl⟩
          rw [← hb1] at hlook
          rw [← hb2] at hlook1
          have hbad : badMove n ps m = ((b1 == decide (0 < m)) || !b2) := by
            unfold badMove; rw [← HND.out, ← hb1, ← hb2]; simp [h1, h2]
          have HBAD := Lib.hid hbad
          clear hbad hb1 hb2
          by_cases hm0 : 0 < m
          · cases b1
            · cases b2
              · have hfin := HD.out true (by rw [HBAD.out]; simp [hm0])
                have HF := Lib.hid hfin
                clear hfin
                go_wp2
                go_ret2
                rw [HF.out]
                exact ⟨rfl, HB.out⟩
              · have hfin := HD.out false (by rw [HBAD.out]; simp [hm0])
                have HF := Lib.hid hfin
                clear hfin
                obtain ⟨w3, hup, hon3, hg3⟩ := HO.out.upd (by unfold maxLen; omega) nd HW.out true
                have HO3 := Lib.hid hon3
                have HG3 := Lib.hid hg3
                clear hon3 hg3
                go_wp2
                go_roundw
                case measure => simp [intOf]; omega
                case rel =>
                  refine ⟨i + 1, updOn ps nd m, by omega, by go_num, ⟨?_⟩, ⟨?_⟩, ⟨upd_pos HP.out (by omega) (by omega)⟩, ⟨HB.out.grown HG3.out HB.out.size (fun k e => by cases e; exact Nat.le_refl _)⟩⟩
                  · rw [HF.out]; simp
                  · exact HO3.out.congr (fun x => by rw [onOf_upd ps nd m x (by omega)]; simp [hm0])
            · cases b2
              · have hfin := HD.out true (by rw [HBAD.out]; simp [hm0])
                have HF := Lib.hid hfin
                clear hfin
                go_wp2
                go_ret2
                rw [HF.out]
                exact ⟨rfl, HB.out⟩
              · have hfin := HD.out true (by rw [HBAD.out]; simp [hm0])
                have HF := Lib.hid hfin
                clear hfin
                go_wp2
                go_ret2
                rw [HF.out]
                exact ⟨rfl, HB.out⟩
          · cases b1
            · cases b2
              · have hfin := HD.out true (by rw [HBAD.out]; simp [hm0])
                have HF := Lib.hid hfin
                clear hfin
                go_wp2
                go_ret2
                rw [HF.out]
                exact ⟨rfl, HB.out⟩
              · have hfin := HD.out true (by rw [HBAD.out]; simp [hm0])
                have HF := Lib.hid hfin
                clear hfin
                go_wp2
                go_ret2
                rw [HF.out]
                exact ⟨rfl, HB.out⟩
            · cases b2
              · have hfin := HD.out true (by rw [HBAD.out]; simp [hm0])
                have HF := Lib.hid hfin
                clear hfin
                go_wp2
                go_ret2
                rw [HF.out]
                exact ⟨rfl, HB.out⟩
              · have hfin := HD.out false (by rw [HBAD.out]; simp [hm0])
                have HF := Lib.hid hfin
                clear hfin
                obtain ⟨w3, hup, hon3, hg3⟩ := HO.out.upd (by unfold maxLen; omega) nd HW.out false
                have HO3 := Lib.hid hon3
                have HG3 := Lib.hid hg3
                clear hon3 hg3
                go_wp2
                go_roundw
                case measure => simp [intOf]; omega
                case rel =>
                  refine ⟨i + 1, updOn ps nd m, by omega, by go_num, ⟨?_⟩, ⟨?_⟩, ⟨upd_pos HP.out (by omega) (by omega)⟩, ⟨HB.out.grown HG3.out HB.out.size (fun k e => by cases e; exact Nat.le_refl _)⟩⟩
                  · rw [HF.out]; simp
                  · exact HO3.out.congr (fun x => by rw [onOf_upd ps nd m x (by omega)]; simp [hm0])
    · obtain rfl : i = N := by omega
      obtain ⟨wo, rfl⟩ : ∃ wo : World, wo = wr := ⟨_, rfl⟩
      have hend : legalGo n 0 [] xs = ((i : Int), if ps.any (fun x => x != n) then false else decide (1 ≤ n) && onOf ps n) := by
        rw [HG.out, List.drop_eq_nil_of_le (by have := HN.out; omega)]; rfl
      have HE := Lib.hid hend
      obtain ⟨D, hD, hon⟩ := HO.out
      have HON := Lib.hid hon
      clear hend hon HG
      have hbw : w.heap.size < wo.heap.size := hD.lt
      go_wp2_with (at_range; refine wpList_range_own _ rfl _ 54 rfl 3 4 (int_keyed Try.underlying3) Try.underlying54 (plainElem Try.prog 4) w.heap.size (i + 1) D rfl hD ?_; intro w0 hrg0 hg0 hs0)
      go_frame
      have hB0 : Below w.heap.size w w0 := HB.out.grown hg0 HB.out.size (fun k e => by cases e)
      have HB0 := Lib.hid hB0
      clear hB0 hg0 hs0
      go_loopw [10] (fun _ wq => ∃ left cnt, wq.ranges Try.prog 3 (plainElem Try.prog 4) w.heap.size wo.heap.size (i + 1) D left cnt ∧ Aside0 (∀ x : Int, (Lit.int .i64 x).wf = true → left (.int .i64 x) = false → has D (.int .i64 x) = true → onOf ps x = true → x ≠ 0 → x = n) ∧ Aside0 (Below w.heap.size w wq))
        (fun _ wq => wq.rangeLeft w.heap.size wo.heap.size)
      case atStart => exact ⟨_, _, hrg0, ⟨fun x _ h1 h2 => by rw [h1] at h2; cases h2⟩, ⟨HB0.out⟩⟩
      case round =>
        obtain ⟨left, cnt, hrg, HV, HBq⟩ := hrel
        go_wp2_with (at_next; refine wpList_next_ranges _ rfl _ rfl 3 (int_keyed Try.underlying3) (plainElem Try.prog 4) (Value.int .i64) Value.bool (fun key kl hk => by obtain ⟨x, rfl, _⟩ := keyOf_int_inv Try.underlying3 hk; exact ⟨x, rfl⟩) (fun v y hv => by obtain ⟨c, rfl, _⟩ := plainBool_inv hv; exact ⟨c, rfl⟩) w.heap.size wo.heap.size (i + 1) D left cnt rfl hrg ?_ ?_)
        · intro hc0 hl0
          have hany : (ps.any fun x => x != n) = false := by
            rw [List.any_eq_false]
            intro x hx hxn
            have hpx := HP.out x hx
            have hwx' : (Lit.int .i64 x).wf = true := WalkArith.wf_i64 (by omega)
            have hox : onOf ps x = true := by simp [onOf, hx]
            have hat := HON.out x hwx'
            rw [hox] at hat
            have hhas : has D (.int .i64 x) = true := by
              cases hh : has D (.int .i64 x) with
              | true => rfl
              | false => rw [atKey_of_not_has hh] at hat; simp at hat
            have := HV.out x hwx' (hl0 _) hhas hox (by omega)
            simp [this] at hxn
          have hfin : legalGo n 0 [] xs = ((i : Int), decide (1 ≤ n) && onOf ps n) := by rw [HE.out, hany]; simp
          have HF := Lib.hid hfin
          clear hany hfin
          have hlook := hrg.owns
          have hlk : (Instr.lookup 54 (.map (some w.heap.size)) (.int .i64 n) false).run Try.prog wr.drew = .ok (.bool (onOf ps n)) wr.drew := OnMap.look (w := wr.drew) ⟨D, hrg.owns, HON.out⟩ n hn
          clear hlook hrg hl0
          obtain ⟨q, hq⟩ : ∃ q, q = onOf ps n := ⟨_, rfl⟩
          rw [← hq] at hlk
          have HQ := Lib.hid hq
          clear hq
          by_cases hn1 : 1 ≤ n
          · have hd : decide (1 ≤ n) = true := by simpa using hn1
            go_wp2
            go_region
            all_goals
              go_wp2
              go_ret2
              rw [HF.out, ← HQ.out]
              exact ⟨by simp [hn1], HBq.out.drew⟩
          · have hd : decide (1 ≤ n) = false := by simpa using hn1
            go_wp2
            go_region
            all_goals
              go_wp2
              go_ret2
              rw [HF.out, ← HQ.out]
              exact ⟨by rw [hd]; simp, HBq.out.drew⟩
        · intro x
          refine ⟨fun kl a b w1 cnt1 hk hlk hv hat hrg1 hlt1 hg1 hs1 hen => ?_, fun kl a b w1 cnt1 hk hlk hv hat hrg1 hlt1 hg1 hs1 hen => ?_⟩
          ·
            obtain ⟨x', ex, rfl, hwx'⟩ := keyOf_int_inv Try.underlying3 hk
            cases ex
            obtain ⟨c', ec, hy⟩ := plainBool_inv hv
            cases ec
            have hox : onOf ps x = false := by
              have h1 := HON.out x hwx'
              rw [hat, show a = _ from hy] at h1
              simpa using h1.symm
            have hle := hrg.left_eq
            have hle1 := hrg1.left_eq
            have hxb := bounds_i64 hwx'
            have HOX := Lib.hid hox
            have HX := Lib.hid hwx'
            have HRG := Lib.hid hrg1
            have HBg : Below w.heap.size w w1 := HBq.out.grown hg1 HBq.out.size (fun k e => by cases e; omega)
            have HBG := Lib.hid HBg
            have HLE := Lib.hid hle
            have HLE1 := Lib.hid hle1
            clear hox hk hv hat hy hrg hrg1 HBg hg1 hs1 hle hle1 hwx' hlk
            go_wp2
            go_roundw
            case measure => rw [HLE.out, HLE1.out]; exact hlt1
            case rel =>
              refine ⟨_, cnt1, HRG.out, ⟨fun z hz h1 h2 h3 h4 => ?_⟩, ⟨HBG.out⟩⟩
              by_cases e : z = x
              · subst e
                rw [HOX.out] at h3; cases h3
              · refine HV.out z hz ?_ h2 h3 h4
                have hs : (Lit.int .i64 z).sameKey (.int .i64 x) = false := sameKey_ne (by intro h; cases h; exact e rfl)
                simpa [hs] using h1
            
          ·
            obtain ⟨x', ex, rfl, hwx'⟩ := keyOf_int_inv Try.underlying3 hk
            cases ex
            obtain ⟨c', ec, hy⟩ := plainBool_inv hv
            cases ec
            have hox : onOf ps x = true := by
              have h1 := HON.out x hwx'
              rw [hat, show a = _ from hy] at h1
              simpa using h1.symm
            have hle := hrg.left_eq
            have hle1 := hrg1.left_eq
            have hxb := bounds_i64 hwx'
            have HOX := Lib.hid hox
            have HX := Lib.hid hwx'
            have HRG := Lib.hid hrg1
            have HBg : Below w.heap.size w w1 := HBq.out.grown hg1 HBq.out.size (fun k e => by cases e; omega)
            have HBG := Lib.hid HBg
            have HLE := Lib.hid hle
            have HLE1 := Lib.hid hle1
            clear hox hk hv hat hy hrg hrg1 HBg hg1 hs1 hle hle1 hwx' hlk
            by_cases hx0 : x = 0
            · have hx0b : (x == 0) = true := by simp [hx0]
              have hx0c : (x != 0) = false := by simp [hx0]
              have HX0 := Lib.hid hx0
              clear hx0
              go_wp2
              go_roundw
              case measure => rw [HLE.out, HLE1.out]; exact hlt1
              case rel =>
                refine ⟨_, cnt1, HRG.out, ⟨fun z hz h1 h2 h3 h4 => ?_⟩, ⟨HBG.out⟩⟩
                by_cases e : z = x
                · subst e
                  exact absurd HX0.out h4
                · refine HV.out z hz ?_ h2 h3 h4
                  have hs : (Lit.int .i64 z).sameKey (.int .i64 x) = false := sameKey_ne (by intro h; cases h; exact e rfl)
                  simpa [hs] using h1
              
            · have hx0c : (x != 0) = true := by simp [hx0]
              by_cases hxn : x = n
              · have hxnc : (x != n) = false := by simp [hxn]
                have HXN := Lib.hid hxn
                clear hxn
                go_wp2
                go_roundw
                case measure => rw [HLE.out, HLE1.out]; exact hlt1
                case rel =>
                  refine ⟨_, cnt1, HRG.out, ⟨fun z hz h1 h2 h3 h4 => ?_⟩, ⟨HBG.out⟩⟩
                  by_cases e : z = x
                  · subst e
                    exact HXN.out
                  · refine HV.out z hz ?_ h2 h3 h4
                    have hs : (Lit.int .i64 z).sameKey (.int .i64 x) = false := sameKey_ne (by intro h; cases h; exact e rfl)
                    simpa [hs] using h1
                
              · have hxnc : (x != n) = true := by simp [hxn]
                have hany : (ps.any fun x => x != n) = true := by
                  rw [List.any_eq_true]
                  have := HOX.out
                  exact ⟨x, by simpa [onOf, hx0] using this, hxnc⟩
                have hfin : legalGo n 0 [] xs = ((i : Int), false) := by rw [HE.out, hany]; simp
                have HF := Lib.hid hfin
                clear hany hfin
                go_wp2
                go_ret2
                rw [HF.out]
                exact ⟨rfl, HBG.out⟩

namespace PAll
/-- What pebble.Legal comes to. -/
def pebble_Legal.f (n : Int) (l : List Int) : Option (Int × Bool) :=
  if (Lit.int .i64 n).wf = true ∧ l.length ≤ 1099511627776 ∧ ∀ x ∈ l, (Lit.int .i64 x).wf = true then some (legalGo n 0 [] l) else none
theorem pebble_Legal.calls (a0 : Int) (A1 : Option Addr) (c1 : Nat) (l1 : List Int) (r1 : Int) (r2 : Bool) (w : World) (hr1 : Kd.C (Kd.int .i64) w A1 l1.length l1) (_hc1 : l1.length ≤ c1) (h : pebble_Legal.f a0 l1 = some (r1, r2)) :
    Calls Try.prog 18 #[.int .i64 a0, .slice A1 l1.length c1] w fun e w' => e = .returned (.tuple #[.int .i64 r1, .bool r2]) ∧ Below w.heap.size w w' := by
  unfold pebble_Legal.f at h
  split at h
  · rename_i hg
    have h2 := Option.some.inj h
    have h3 := Legal_calls a0 hg.1 A1 c1 l1 hg.2.1 hg.2.2 w hr1
    rw [h2] at h3
    exact h3
  · cases h
end PAll

end Go.Proofs.Ytpkamififbhheaa
