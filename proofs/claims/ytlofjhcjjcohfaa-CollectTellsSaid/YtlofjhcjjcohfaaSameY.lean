/- The walk of SameBytes: it tells whether two lists of bytes are one. -/
import Derived.Test.YtlofjhcjjcohfaaWk
namespace Go.Proofs.Ytlofjhcjjcohfaa
open Go Go.RowKit Iv
set_option linter.unusedVariables false

set_option maxHeartbeats 400000 in
theorem same_any (A A' : Option Addr) (n n' c c' : Nat) (xs ys : Bytes) (w : World) (B : Nat) (h : Lies w B 1 A n (xs.map bv)) (h' : Lies w B 1 A' n' (ys.map bv)) (hn : n ≤ 1000000000000) (hn' : n' ≤ 1000000000000) :
    Calls Try.prog 17 #[.slice A n c, .slice A' n' c'] w fun e w' => e = .returned (.bool (decide (xs = ys))) ∧ ∃ q, w' = w.drewN q := by
  have hl : xs.length = n := by simpa using h.1
  have hl' : ys.length = n' := by simpa using h'.1
  by_cases hnn : n = n'
  · subst hnn
    have HL := Lib.hid hl
    have HL' := Lib.hid hl'
    clear hl hl'
    have hb : ((n : Int) != (n : Int)) = false := by simp
    go_enter Try.func17, Try.ntmps17
    go_wp2
    go_loopw [5] (fun i wr => ∃ k q : Nat, i = .int .i64 k ∧ k ≤ n ∧ wr = w.drewN q ∧ xs.take k = ys.take k) (fun i _ => n - (intOf i).toNat)
    case atStart => exact ⟨0, 0, rfl, by omega, rfl, rfl⟩
    case round =>
      obtain ⟨k, q, rfl, hk, rfl, heq⟩ := hrel
      have HE := Lib.hid heq
      clear heq
      by_cases hlt : k < n
      · obtain ⟨ad, u, rfl, hb1, hx, hc⟩ := h.cellAt hlt
        obtain ⟨ad', u', rfl, hb2, hx', hc'⟩ := h'.cellAt hlt
        simp only [List.getElem?_map, Option.map_eq_some_iff] at hx hx'
        obtain ⟨x, hx, rfl⟩ := hx
        obtain ⟨y, hy, rfl⟩ := hx'
        unfold bv at hc hc'
        have HX := Lib.hid hx
        have HY := Lib.hid hy
        clear hx hy
        by_cases hxy : x = y
        · have hne : ((x.toNat : Int) != (y.toNat : Int)) = false := by simp [hxy]
          have HXY := Lib.hid hxy
          clear hxy
          go_wp2
          go_quiet (fail)
          go_wp2
          go_roundw
          case rel => exact ⟨k + 1, q + nq, by go_num, by omega, by simp, by rw [take_next HX.out, take_next HY.out, HE.out, HXY.out]⟩
          case measure => simp [intOf]; omega
        · have hne : ((x.toNat : Int) != (y.toNat : Int)) = true := by
            rw [bne_iff_ne]
            intro e
            exact hxy (u8_eq (by omega))
          have HF : Hid (decide (xs = ys) = false) := by
            rw [decide_eq_false_iff_not]
            intro e
            have h1 := HX.out
            rw [e, HY.out] at h1
            injection h1 with h1
            exact hxy h1.symm
          clear hxy
          go_wp2
          go_quiet (fail)
          go_wp2
          go_ret
          exact ⟨ret_bool HF.out.symm, q + nq, by simp⟩
      · have hkn : k = n := by omega
        have HF : Hid (decide (xs = ys) = true) := by
          rw [decide_eq_true_iff]
          have := HE.out
          rwa [List.take_of_length_le (by have := HL.out; omega), List.take_of_length_le (by have := HL'.out; omega)] at this
        clear hkn
        go_wp2
        go_ret
        exact ⟨ret_bool HF.out.symm, q, rfl⟩
  · have hb : ((n : Int) != (n' : Int)) = true := by rw [bne_iff_ne]; omega
    have HF : Hid (decide (xs = ys) = false) := by
      rw [decide_eq_false_iff_not]
      intro e
      rw [e] at hl
      omega
    clear hnn hl hl'
    go_enter Try.func17, Try.ntmps17
    go_wp2
    go_ret
    exact ⟨ret_bool HF.out.symm, 0, rfl⟩
end Go.Proofs.Ytlofjhcjjcohfaa

/- SameBytes of two equal lists. -/
namespace Go.Proofs.Ytlofjhcjjcohfaa
open Go Go.RowKit Iv
set_option linter.unusedVariables false

/-- SameBytes of two equal lists. -/
theorem same_yes (A A' : Option Addr) (n n' c c' : Nat) (xs : Bytes) (w : World) (B B' : Nat) (h : Lies w B 1 A n (xs.map bv)) (h' : Lies w B' 1 A' n' (xs.map bv)) (hn : n ≤ 1000000000000) (hn' : n' ≤ 1000000000000) :
    Calls Try.prog 17 #[.slice A n c, .slice A' n' c'] w fun e w' => e = .returned (.bool true) ∧ ∃ q, w' = w.drewN q :=
  (same_any A A' n n' c c' xs xs w (max B B') (h.more (Nat.le_max_left _ _)) (h'.more (Nat.le_max_right _ _)) hn hn').mono fun e w' ⟨he, hw⟩ => ⟨by rw [he]; simp, hw⟩

end Go.Proofs.Ytlofjhcjjcohfaa
