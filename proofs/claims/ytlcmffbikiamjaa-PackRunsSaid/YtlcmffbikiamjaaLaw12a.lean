/- The walks of PackTells, PackBounded and of the sanity check of chapter 12. -/
import Derived.Test.YtlcmffbikiamjaaPkP
import Derived.Test.YtlcmffbikiamjaaPkR
import Derived.Test.YtlcmffbikiamjaaPruns
import Derived.Test.YtlcmffbikiamjaaSame
import Derived.Deep.RegionHeld3
namespace Go.Proofs.Ytlcmffbikiamjaa
open Go Go.RowKit Iv
set_option linter.unusedVariables false

/-- SameBytes of two equal lists. -/
theorem same_yes (A A' : Option Addr) (n n' c c' : Nat) (xs : Bytes) (w : World) (B B' : Nat) (h : Lies w B 1 A n (xs.map bv)) (h' : Lies w B' 1 A' n' (xs.map bv)) (hn : n ≤ 1000000000000) (hn' : n' ≤ 1000000000000) :
    Calls Try.prog 32 #[.slice A n c, .slice A' n' c'] w fun e w' => e = .returned (.bool true) ∧ ∃ q, w' = w.drewN q :=
  (same_any A A' n n' c c' xs xs w (max B B') (h.more (Nat.le_max_left _ _)) (h'.more (Nat.le_max_right _ _)) hn hn').mono fun e w' ⟨he, hw⟩ => ⟨by rw [he]; simp, hw⟩

theorem pack_7 : pack [7] = [0, 7] := pack_run 7 0

set_option maxRecDepth 100000 in
set_option maxHeartbeats 400000 in
theorem awake12_any (w : World) :
    Calls Try.prog 41 #[] w fun e w' => e = .returned (.bool true) ∧ Below w.heap.size w w' := by
  have hlies : Lies (w.alloc (.cells #[.int .u8 7] 5)) (w.heap.size + 1) 1 (some ⟨w.heap.size, 0, none⟩) 1 (([7] : Bytes).map bv) :=
    ⟨rfl, fun _ => ⟨_, rfl, Nat.lt_succ_self _, cell_new1 w _ _⟩⟩
  have HC := Lib.hid (packP_any _ 1 1 (w.heap.size + 1) [7] _ hlies (by simp) (Nat.le_refl _) (by omega) w.heap.size (by simp))
  clear hlies
  go_enter Try.func41, Try.ntmps41
  go_wp2_with fail
  refine HC.out.mono ?_
  rintro e w1 ⟨v', rfl, hown, hg, hat⟩
  rw [pack_7] at hown
  have hbel : Below w.heap.size w w1 := ((Below.refl _ w).alloc (Nat.le_refl _) _).grown hg (by simp) (fun k hk => by cases hk)
  obtain ⟨g, cap, hv, _, _⟩ := hown.form (by decide)
  subst hv
  have c0 := hown.cellAt 0 (by decide)
  have c1 := hown.cellAt 1 (by decide)
  have d0 : w1.cell? ⟨g, 0, none⟩ = some (.int .u8 0) := c0
  have d1 : w1.cell? ⟨g, 1, none⟩ = some (.int .u8 7) := c1
  have hl : ([0, 7] : Bytes).length = 2 := rfl
  rw [hl]
  clear c0 c1 hl hown hg hat HC
  go_wp2_with fail
  go_ret
  exact ⟨rfl, hbel⟩

set_option maxRecDepth 100000 in
set_option maxHeartbeats 800000 in
theorem packBounded_any (A : Option Addr) (n c : Nat) (xs : Bytes) (w : World) (h : Lies w w.heap.size 1 A n (xs.map bv)) (hnc : n ≤ c) (hcm : c ≤ maxLen) (ho : A = none → c = 0) :
    Calls Try.prog 11 #[.slice A n c] w fun e w' => e = .returned (.bool true) ∧ Below w.heap.size w w' := by
  unfold maxLen at hcm
  clear ho
  by_cases h3 : 3000 < n
  · go_enter Try.func11, Try.ntmps11
    go_wp2_with fail
    go_ret
    exact ⟨rfl, Below.refl _ _⟩
  · have CP := Lib.hid (packP_any A n c _ xs w h (Nat.le_refl _) hnc (by omega) w.heap.size (Nat.le_refl _))
    have hpb := pack_bounded xs
    rw [h.lenB] at hpb
    obtain ⟨P, hP⟩ : ∃ P, P = (pack xs).length := ⟨_, rfl⟩
    rw [← hP] at hpb CP
    have hpi : (P : Int) ≤ (n : Int) + ((n : Int) + 127) / 128 := by omega
    clear hP
    go_enter Try.func11, Try.ntmps11
    go_wp2_with fail
    refine CP.out.mono ?_
    rintro e w1 ⟨v1, rfl, hown, hg, hat⟩
    have hbel : Below w.heap.size w w1 := (Below.refl _ w).grown hg (Nat.le_refl _) (fun k hk => by cases hk)
    obtain ⟨A1, c1, hv1, _⟩ := own_slice hown
    subst hv1
    clear hown hg hat
    go_wp2_with fail
    refine (awake12_any _).mono ?_
    rintro e w2 ⟨rfl, hb2⟩
    go_wp2_with fail
    go_ret
    exact ⟨rfl, hbel.trans (hb2.mono hbel.size)⟩

set_option maxRecDepth 100000 in
set_option maxHeartbeats 800000 in
theorem packTells_any (A : Option Addr) (n c : Nat) (xs : Bytes) (w : World) (h : Lies w w.heap.size 1 A n (xs.map bv)) (hnc : n ≤ c) (hcm : c ≤ maxLen) (ho : A = none → c = 0) :
    Calls Try.prog 10 #[.slice A n c] w fun e w' => e = .returned (.bool true) ∧ Below w.heap.size w w' := by
  unfold maxLen at hcm
  clear ho
  by_cases h3 : 3000 < n
  · go_enter Try.func10, Try.ntmps10
    go_wp2_with fail
    go_ret
    exact ⟨rfl, Below.refl _ _⟩
  · have hpb := pack_bounded xs
    rw [h.lenB] at hpb
    have CP := Lib.hid (packP_any A n c _ xs w h (Nat.le_refl _) hnc (by omega) w.heap.size (Nat.le_refl _))
    have CR := Lib.hid (fun (w1 : World) (hb : Below w.heap.size w w1) => packR_any A n c _ xs w1 (h.below hb) hb.size hnc (by omega) w.heap.size hb.size)
    go_enter Try.func10, Try.ntmps10
    go_wp2_with fail
    refine CP.out.mono ?_
    rintro e w1 ⟨v1, rfl, hown, hg, hat⟩
    have hbel : Below w.heap.size w w1 := (Below.refl _ w).grown hg (Nat.le_refl _) (fun k hk => by cases hk)
    obtain ⟨A1, c1, hv1, _⟩ := own_slice hown
    subst hv1
    have HO1 := Lib.hid hown
    clear hown hg hat
    go_wp2_with fail
    refine (CR.out _ hbel).mono ?_
    rintro e w2 ⟨v2, rfl, hown2, hg2, hat2⟩
    have hbel2 : Below w.heap.size w w2 := hbel.grown hg2 hbel.size (fun k hk => by cases hk)
    obtain ⟨A2, c2, hv2, _, _, hl2, _⟩ := own_slice hown2
    subst hv2
    have hl1 := Lies.ofOwn (own_keep HO1.out hg2 (fun g _ e => nomatch e))
    have CS := Lib.hid (same_yes A1 A2 _ _ c1 c2 (pack xs) w2 _ _ hl1 hl2 (by omega) (by omega))
    clear hown2 hl2 hl1 hg2 hat2
    go_wp2_with fail
    refine CS.out.mono ?_
    rintro e w3 ⟨rfl, q, rfl⟩
    have hbq : Below w.heap.size w (w2.drewN q) := ⟨hbel2.os, hbel2.tape, hbel2.output, hbel2.size, hbel2.block⟩
    go_wp2_with fail
    refine (awake12_any _).mono ?_
    rintro e w4 ⟨rfl, hb4⟩
    go_wp2_with fail
    go_ret
    exact ⟨rfl, hbq.trans (hb4.mono hbel2.size)⟩
end Go.Proofs.Ytlcmffbikiamjaa
