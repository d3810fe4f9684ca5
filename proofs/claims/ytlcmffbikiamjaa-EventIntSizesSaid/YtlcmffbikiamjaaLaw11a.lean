/- The walk of EventIntSizes. -/
import Derived.Test.YtlcmffbikiamjaaPut
namespace Go.Proofs.Ytlcmffbikiamjaa
open Go Go.RowKit Iv

theorem pow_fact (k : Nat) (h1 : 1 ≤ k) (h9 : k < 10) : ∃ p : Nat, 128 ^ (k - 1 + 1) / 2 = p ∧ wrap64 (2 ^ (7 * k - 1)) = (p : Int) ∧ wrap64 (-2 ^ (7 * k - 1)) = -(p : Int) := by
  refine ⟨_, rfl, ?_, ?_⟩
  all_goals
    unfold wrap64
    rcases (show k = 1 ∨ k = 2 ∨ k = 3 ∨ k = 4 ∨ k = 5 ∨ k = 6 ∨ k = 7 ∨ k = 8 ∨ k = 9 from by omega) with rfl | rfl | rfl | rfl | rfl | rfl | rfl | rfl | rfl <;> decide
set_option maxRecDepth 100000 in
set_option maxHeartbeats 400000 in
theorem eventIntSizes_any (m : Int) (w : World) (hm : inI64 m) :
    Calls Try.prog 3 #[.int .i64 m] w fun e w' => e = .returned (.bool true) ∧ Below w.heap.size w w' := by
  have HC := Lib.hid (putInt_any none 0 0 0 [] m w Lies.nil (Nat.le_refl _) hm (by omega) w.heap.size (Nat.le_refl _))
  have hl1 := putI_pos m
  have hl2 := putI_len hm
  have HS := Lib.hid (putI_size m)
  clear hm
  go_enter Try.func3, Try.ntmps3
  go_wp2_with fail
  refine HC.out.mono ?_
  rintro e w1 ⟨v', rfl, hown, hg, hat⟩
  rw [List.nil_append] at hown
  generalize hlen : (putI m).length = L at *
  have hbel : Below w.heap.size w w1 := (Below.refl _ _).grown hg (Nat.le_refl _) (fun k hk => by cases hk)
  obtain ⟨A, n, c, rfl, hn⟩ : ∃ A n c, v' = .slice A n c ∧ n = L := by
    rcases hown.2 with ⟨rfl, h0⟩ | ⟨g, cap, cur, rfl, _⟩
    · exact ⟨none, 0, 0, rfl, h0.symm⟩
    · exact ⟨_, _, _, rfl, rfl⟩
  subst hn
  clear hown hg hat HC
  clear hlen
  go_wp2_with fail
  go_loopw [4] (fun i wr => ∃ k : Nat, i = .int .i64 k ∧ 1 ≤ k ∧ k ≤ n ∧ wr = w1) (fun i _ => n - (intOf i).toNat)
  case atStart => exact ⟨1, rfl, by omega, by omega, rfl⟩
  case round =>
    obtain ⟨k, rfl, hk1, hkn, rfl⟩ := hrel
    by_cases hk10 : k < 10
    · obtain ⟨p, e0, e1, e2⟩ := pow_fact k hk1 hk10
      have hs := HS.out (k - 1)
      rw [e0] at hs
      by_cases hfit : -(p : Int) ≤ m ∧ m < p
      · have hnk := hs.2 hfit
        obtain rfl : n = k := by omega
        obtain ⟨f1, f2⟩ := hfit
        have f1' : ¬ m < -(p : Int) := by omega
        have f2' : ¬ (p : Int) ≤ m := by omega
        clear hs e0 HS
        go_wp2_with fail
        go_ret
        exact ⟨by simp, hbel⟩
      · have hnk : ¬ n ≤ k := fun h => hfit (hs.1 (by omega))
        have hgo : (p : Int) ≤ m ∨ m < -(p : Int) := by omega
        clear hs e0 HS hfit
        rcases hgo with hgo | hgo
        all_goals
          go_wp2_with fail
          go_roundw
          case rel => exact ⟨k + 1, by go_num, by omega, by omega, by first | rfl | trivial⟩
          case measure => simp [intOf]; omega
    · obtain rfl : k = 10 := by omega
      obtain rfl : n = 10 := by omega
      clear HS
      go_wp2_with fail
      go_ret
      exact ⟨by simp, hbel⟩
end Go.Proofs.Ytlcmffbikiamjaa
