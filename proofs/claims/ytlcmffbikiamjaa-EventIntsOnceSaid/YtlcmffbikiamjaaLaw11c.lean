/- The walk of EventIntsOnce. -/
import Derived.Test.YtlcmffbikiamjaaLaw11b
import Derived.Deep.RegionHeld3
namespace Go.Proofs.Ytlcmffbikiamjaa
open Go Go.RowKit Iv
set_option linter.unusedVariables false

set_option maxRecDepth 100000 in
set_option maxHeartbeats 800000 in
theorem eventIntsOnce_any (A : Option Addr) (n c : Nat) (xs : Bytes) (w : World) (h : Lies w w.heap.size 1 A n (xs.map bv)) (hnc : n ≤ c) (hcm : c ≤ maxLen) (ho : A = none → c = 0) :
    Calls Try.prog 9 #[.slice A n c] w fun e w' => e = .returned (.bool true) ∧ Below w.heap.size w w' := by
  unfold maxLen at hcm
  clear ho
  by_cases h3 : 300 < n
  · go_enter Try.func9, Try.ntmps9
    go_wp2_with fail
    go_ret
    exact ⟨rfl, Below.refl _ _⟩
  · obtain ⟨m, k, er, hg⟩ : ∃ m k er, getI xs = (m, k, er) := ⟨_, _, _, rfl⟩
    have CP := Lib.hid (intP_parts A n c xs w _ h (by omega) hg)
    by_cases her : er = 0
    · subst her
      obtain ⟨hm, hk, hk1, hkl, htk⟩ := getI_once hg
      have hl : xs.length = n := h.lenB
      have hkn : k ≤ n := by omega
      have HT := Lib.hid htk
      have HK := Lib.hid hk
      have hcut : Lies w w.heap.size 1 A k ((xs.take k).map bv) := by
        have := h.take hkn
        rwa [Nat.mul_one, ← List.map_take] at this
      have HC := Lib.hid (putInt_any none 0 0 0 [] m w.drew Lies.nil (Nat.le_refl _) hm (by omega) w.heap.size (Nat.le_refl _))
      have hpl := putI_len hm
      have j1 : (1 : Int) ≤ (k : Int) := by omega
      have j2 : (k : Int) ≤ (n : Int) := by omega
      have j3 : (k : Int) ≤ (c : Int) := by omega
      have j0 : (0 : Int) ≤ (k : Int) := by omega
      clear hg hm hk htk hl hkl
      go_enter Try.func9, Try.ntmps9
      go_wp2_with fail
      refine CP.out.mono ?_
      rintro e w' ⟨rfl, rfl⟩
      go_wp2_with fail
      go_region_held3 (fun _ => True) (skip) (first
        | (go_at_call 27; refine HC.out.mono ?_; rintro e w1 ⟨v', rfl, hown, hgr, hat⟩; rw [List.nil_append] at hown; have hbel : Below w.heap.size w w1 := ((Below.refl _ w).drew).grown hgr (Nat.le_refl _) (fun k hk => by cases hk); obtain ⟨A', c', hv, hnc', _, hl', _⟩ := own_slice hown; subst hv)
        | (go_at_call 32; refine (same_any _ _ _ _ _ _ (putI m) (xs.take k) _ _ (by assumption) ((hcut.below (by assumption)).more (Below.size (by assumption))) (by omega) (by omega)).mono ?_; rintro e w2 ⟨rfl, q, rfl⟩))
      go_wp2_with fail
      go_ret
      have hT := HT.out
      exact ⟨by rw [hT]; simp, by
        have hb := hbel
        exact ⟨hb.os, hb.tape, hb.output, hb.size, hb.block⟩⟩
    · obtain ⟨e', he, hg'⟩ := (getI_err xs).resolve_left (by rw [hg]; exact her)
      rw [hg] at hg'
      simp only [Prod.mk.injEq] at hg'
      obtain ⟨rfl, rfl, rfl⟩ := hg'
      have hne : (er != 0) = true := by rw [bne_iff_ne]; exact her
      clear hg her he
      go_enter Try.func9, Try.ntmps9
      go_wp2_with fail
      refine CP.out.mono ?_
      rintro e w' ⟨rfl, rfl⟩
      go_wp2_with fail
      refine (awake11_any _).mono ?_
      rintro e w' ⟨rfl, hb⟩
      go_wp2_with fail
      go_ret
      exact ⟨rfl, hb⟩
end Go.Proofs.Ytlcmffbikiamjaa
