/- The walks of the two readers of an integer (chapter 11): both are 'getI'. -/
import Derived.Test.YtlofjhcjjcohfaaPutR
import Derived.Laws.DeepNot64
namespace Go.Proofs.Ytlofjhcjjcohfaa
open Go Go.RowKit Iv
set_option linter.unusedVariables false

def three (r : Int × Nat × Int) : Value := .tuple #[.int .i64 r.1, .int .i64 (r.2.1 : Int), .int .i64 r.2.2]

set_option maxRecDepth 100000 in
set_option maxHeartbeats 800000 in
theorem intP_any (A : Option Addr) (n c : Nat) (xs : Bytes) (w : World) (B : Nat) (h : Lies w B 1 A n (xs.map bv)) (hn : n ≤ 1000000000000) :
    Calls Try.prog 54 #[.slice A n c] w fun e w' => e = .returned (three (getI xs)) ∧ w = w' := by
  have HL := Lib.hid h.lenB
  go_enter Try.func54, Try.ntmps54
  go_wp2
  go_loop [5, 6, 7, 8, 11] (fun u _ _ _ i => ∃ (k acc : Nat), i = .int .i64 k ∧ k ≤ n ∧ k ≤ 9 ∧ u = .int .u64 acc ∧ acc < 128 ^ k ∧ vget (xs.drop k) k acc = getI xs) (fun _ _ _ _ i => n - (intOf i).toNat)
  case atStart => exact ⟨0, 0, rfl, by omega, by omega, rfl, by simp, rfl⟩
  case round =>
    obtain ⟨k, acc, rfl, hkn, hk9, rfl, hacc, hv⟩ := hrel
    by_cases hlt : k < n
    · obtain ⟨ad, x, rfl, hb1, hx, hc⟩ := h.byte hlt
      have bx := byte_lt x
      have hdrop : xs.drop k = x :: xs.drop (k + 1) := by
        obtain ⟨hl, hx'⟩ := List.getElem?_eq_some_iff.1 hx
        rw [List.drop_eq_getElem_cons hl, hx']
      rw [hdrop] at hv
      simp only [vget] at hv
      clear hx hdrop
      have hand : bits .and .u8 (x.toNat : Int) 127 = ((x.toNat % 128 : Nat) : Int) := by
        have := u8_and_nat x.toNat 127 bx (by omega)
        rw [nat_mask7] at this
        exact this
      by_cases ha : k = 9 ∧ 1 < x.toNat
      · rw [if_pos ha] at hv
        obtain ⟨ha1, ha2⟩ := ha
        have HV := Lib.hid hv
        have ha3 : (1 : Int) < (x.toNat : Int) := by omega
        have ha4 : ((k : Int) == 9) = true := by rw [beq_iff_eq]; omega
        clear hv hacc ha1
        go_wp2_with fail
        go_ret3
        exact ⟨by rw [← HV.out]; rfl, rfl⟩
      · rw [if_neg ha] at hv
        obtain ⟨horx, hlo⟩ := or_step (x := x.toNat) hacc hk9 (by omega)
        by_cases hb : 128 ≤ x.toNat
        · rw [if_pos hb] at hv
          have HV := Lib.hid hv
          have hk8 : k < 9 := by omega
          have hnx : acc + x.toNat % 128 * 128 ^ k < 128 ^ (k + 1) := by
            have h1 : x.toNat % 128 * 128 ^ k ≤ 127 * 128 ^ k := Nat.mul_le_mul_right _ (by omega)
            rw [Nat.pow_succ]
            omega
          have HN := Lib.hid hnx
          clear hv hnx
          generalize acc + x.toNat % 128 * 128 ^ k = acc' at *
          have hk9' : ((k : Int) == 9) = false := by rw [beq_eq_false_iff_ne]; omega
          go_wp2_with fail
          go_round
          case rel => exact ⟨k + 1, acc', by go_num, by omega, by omega, rfl, HN.out, HV.out⟩
          case measure => simp [intOf]; omega
        · rw [if_neg hb] at hv
          have hlx : x.toNat % 128 = x.toNat := by omega
          rw [hlx] at hlo
          have hor : bits .or .u64 (acc : Int) (IntKind.u64.wrap ((x.toNat : Int) % 128 * 2 ^ (7 * k))) = ((acc + x.toNat * 128 ^ k : Nat) : Int) := by
            rw [hlx] at horx
            exact horx
          clear horx
          have hk9g : ((k : Int) == 9) = true → ¬ (1 : Int) < (x.toNat : Int) := by
            intro h
            rw [beq_iff_eq] at h
            omega
          have hltx : ¬ (128 : Int) ≤ (x.toNat : Int) := by omega
          by_cases hc0 : x.toNat = 0 ∧ 0 < k
          · rw [if_pos hc0] at hv
            have HV := Lib.hid hv
            have z1 : ((x.toNat : Int) == 0) = true := by rw [beq_iff_eq]; omega
            have z2 : (0 : Int) < (k : Int) := by omega
            generalize acc + x.toNat * 128 ^ k = acc' at *
            clear hv hc0
            cases hk9' : ((k : Int) == 9)
            · clear hk9g
              go_wp2_with fail
              go_ret3
              exact ⟨by rw [← HV.out]; rfl, rfl⟩
            · have hx1 := hk9g hk9'
              clear hk9g
              go_wp2_with fail
              go_ret3
              exact ⟨by rw [← HV.out]; rfl, rfl⟩
          · rw [if_neg hc0] at hv
            have HV := Lib.hid hv
            clear hv hlx
            generalize acc + x.toNat * 128 ^ k = acc' at *
            have hand1 : bits .and .u64 (acc' : Int) 1 = ((acc' % 2 : Nat) : Int) := by
              have := u64_and_nat acc' 1 hlo (by omega)
              rw [nat_mask1] at this
              exact this
            have z1 : (((x.toNat : Int) == 0) = false) ∨ (((x.toNat : Int) == 0) = true ∧ ¬ (0 : Int) < (k : Int) ∧ x.toNat = 0) := by
              by_cases h : x.toNat = 0
              · exact .inr ⟨by rw [beq_iff_eq]; omega, by omega, h⟩
              · exact .inl (by rw [beq_eq_false_iff_ne]; omega)
            have hodd : (((acc' : Int) % 2 != 0) = true ∧ zag acc' = -((acc' / 2 : Nat) : Int) - 1) ∨ (((acc' : Int) % 2 != 0) = false ∧ zag acc' = ((acc' / 2 : Nat) : Int)) := by
              unfold zag
              rcases Nat.mod_two_eq_zero_or_one acc' with h | h
              · exact .inr ⟨by rw [bne_eq_false_iff_eq]; omega, by rw [if_neg (by omega)]⟩
              · exact .inl ⟨by rw [bne_iff_ne]; omega, by rw [if_pos h]⟩
            have hk9b : (((k : Int) == 9) = true ∧ ¬ (1 : Int) < (x.toNat : Int)) ∨ ((k : Int) == 9) = false := by
              cases h : ((k : Int) == 9)
              · exact .inr rfl
              · exact .inl ⟨rfl, hk9g h⟩
            clear hk9g hc0
            rcases z1 with z1 | ⟨z1, z2, z3⟩
            all_goals
              rcases hk9b with ⟨k1, k2⟩ | k1
              all_goals
                rcases hodd with ⟨o1, o2⟩ | ⟨o1, o2⟩
                all_goals
                  have HO := Lib.hid o2
                  clear o2
                  try clear z3
                  go_wp2_with fail
                  go_ret3
                  exact ⟨by rw [← HV.out]; show Ending.returned (.tuple #[.int .i64 _, _, _]) = .returned (.tuple #[.int .i64 (zag acc'), _, _]); rw [HO.out]; rfl, rfl⟩
    · obtain rfl : k = n := by omega
      have HV := Lib.hid hv
      have hnil : xs.drop k = [] := List.drop_eq_nil_of_le (by have := HL.out; omega)
      have HN := Lib.hid hnil
      clear hv hnil
      go_wp2_with fail
      go_ret3
      exact ⟨by rw [← HV.out, HN.out]; rfl, rfl⟩
set_option maxRecDepth 100000 in
set_option maxHeartbeats 800000 in
theorem intR_any (A : Option Addr) (n c : Nat) (xs : Bytes) (w : World) (B : Nat) (h : Lies w B 1 A n (xs.map bv)) (hn : n ≤ 1000000000000) :
    Calls Try.prog 74 #[.slice A n c] w fun e w' => e = .returned (three (getI xs)) ∧ w = w' := by
  have HL := Lib.hid h.lenB
  go_enter Try.func74, Try.ntmps74
  go_wp2
  go_loop [5, 6, 7] (fun u i _ => ∃ (k acc : Nat), i = .int .i64 k ∧ k ≤ n ∧ k ≤ 9 ∧ u = .int .u64 acc ∧ acc < 128 ^ k ∧ vget (xs.drop k) k acc = getI xs) (fun _ i _ => n - (intOf i).toNat)
  case atStart => exact ⟨0, 0, rfl, by omega, by omega, rfl, by simp, rfl⟩
  case round =>
    obtain ⟨k, acc, rfl, hkn, hk9, rfl, hacc, hv⟩ := hrel
    by_cases hlt : k < n
    · obtain ⟨ad, x, rfl, hb1, hx, hc⟩ := h.byte hlt
      have bx := byte_lt x
      have hdrop : xs.drop k = x :: xs.drop (k + 1) := by
        obtain ⟨hl, hx'⟩ := List.getElem?_eq_some_iff.1 hx
        rw [List.drop_eq_getElem_cons hl, hx']
      rw [hdrop] at hv
      simp only [vget] at hv
      clear hx hdrop
      have hand : bits .and .u8 (x.toNat : Int) 127 = ((x.toNat % 128 : Nat) : Int) := by
        have := u8_and_nat x.toNat 127 bx (by omega)
        rw [nat_mask7] at this
        exact this
      by_cases ha : k = 9 ∧ 1 < x.toNat
      · rw [if_pos ha] at hv
        obtain ⟨ha1, ha2⟩ := ha
        have HV := Lib.hid hv
        have ha3 : (1 : Int) < (x.toNat : Int) := by omega
        have ha4 : ((k : Int) == 9) = true := by rw [beq_iff_eq]; omega
        clear hv hacc ha1
        go_wp2_with fail
        go_ret3
        exact ⟨by rw [← HV.out]; rfl, rfl⟩
      · rw [if_neg ha] at hv
        obtain ⟨horx, hlo⟩ := or_step (x := x.toNat) hacc hk9 (by omega)
        by_cases hb : 128 ≤ x.toNat
        · rw [if_pos hb] at hv
          have HV := Lib.hid hv
          have hk8 : k < 9 := by omega
          have hnx : acc + x.toNat % 128 * 128 ^ k < 128 ^ (k + 1) := by
            have h1 : x.toNat % 128 * 128 ^ k ≤ 127 * 128 ^ k := Nat.mul_le_mul_right _ (by omega)
            rw [Nat.pow_succ]
            omega
          have HN := Lib.hid hnx
          clear hv hnx
          generalize acc + x.toNat % 128 * 128 ^ k = acc' at *
          have hk9' : ((k : Int) == 9) = false := by rw [beq_eq_false_iff_ne]; omega
          go_wp2_with fail
          go_round
          case rel => exact ⟨k + 1, acc', by go_num, by omega, by omega, rfl, HN.out, HV.out⟩
          case measure => simp [intOf]; omega
        · rw [if_neg hb] at hv
          have hlx : x.toNat % 128 = x.toNat := by omega
          rw [hlx] at hlo
          have hor : bits .or .u64 (acc : Int) (IntKind.u64.wrap ((x.toNat : Int) % 128 * 2 ^ (7 * k))) = ((acc + x.toNat * 128 ^ k : Nat) : Int) := by
            rw [hlx] at horx
            exact horx
          clear horx
          have hk9g : ((k : Int) == 9) = true → ¬ (1 : Int) < (x.toNat : Int) := by
            intro h
            rw [beq_iff_eq] at h
            omega
          have hltx : ¬ (128 : Int) ≤ (x.toNat : Int) := by omega
          by_cases hc0 : x.toNat = 0 ∧ 0 < k
          · rw [if_pos hc0] at hv
            have HV := Lib.hid hv
            have z1 : ((x.toNat : Int) == 0) = true := by rw [beq_iff_eq]; omega
            have z2 : (0 : Int) < (k : Int) := by omega
            generalize acc + x.toNat * 128 ^ k = acc' at *
            clear hv hc0
            cases hk9' : ((k : Int) == 9)
            · clear hk9g
              go_wp2_with fail
              go_ret3
              exact ⟨by rw [← HV.out]; rfl, rfl⟩
            · have hx1 := hk9g hk9'
              clear hk9g
              go_wp2_with fail
              go_ret3
              exact ⟨by rw [← HV.out]; rfl, rfl⟩
          · rw [if_neg hc0] at hv
            have HV := Lib.hid hv
            clear hv hlx
            generalize acc + x.toNat * 128 ^ k = acc' at *
            have hnot : bits .xor .i64 (-1) ((acc' : Int) / 2) = -1 - ((acc' : Int) / 2) := i64_not (acc' / 2) (by omega)
            have hand1 : bits .and .u64 (acc' : Int) 1 = ((acc' % 2 : Nat) : Int) := by
              have := u64_and_nat acc' 1 hlo (by omega)
              rw [nat_mask1] at this
              exact this
            have z1 : (((x.toNat : Int) == 0) = false) ∨ (((x.toNat : Int) == 0) = true ∧ ¬ (0 : Int) < (k : Int) ∧ x.toNat = 0) := by
              by_cases h : x.toNat = 0
              · exact .inr ⟨by rw [beq_iff_eq]; omega, by omega, h⟩
              · exact .inl (by rw [beq_eq_false_iff_ne]; omega)
            have hodd : (((acc' : Int) % 2 == 1) = true ∧ zag acc' = -1 - ((acc' / 2 : Nat) : Int)) ∨ (((acc' : Int) % 2 == 1) = false ∧ zag acc' = ((acc' / 2 : Nat) : Int)) := by
              unfold zag
              rcases Nat.mod_two_eq_zero_or_one acc' with h | h
              · exact .inr ⟨by rw [beq_eq_false_iff_ne]; omega, by rw [if_neg (by omega)]⟩
              · exact .inl ⟨by rw [beq_iff_eq]; omega, by rw [if_pos h]; omega⟩
            have hk9b : (((k : Int) == 9) = true ∧ ¬ (1 : Int) < (x.toNat : Int)) ∨ ((k : Int) == 9) = false := by
              cases h : ((k : Int) == 9)
              · exact .inr rfl
              · exact .inl ⟨rfl, hk9g h⟩
            clear hk9g hc0
            rcases z1 with z1 | ⟨z1, z2, z3⟩
            all_goals
              rcases hk9b with ⟨k1, k2⟩ | k1
              all_goals
                rcases hodd with ⟨o1, o2⟩ | ⟨o1, o2⟩
                all_goals
                  have HO := Lib.hid o2
                  clear o2
                  try clear z3
                  go_wp2_with fail
                  all_goals
                    go_ret3
                    exact ⟨by rw [← HV.out]; show Ending.returned (.tuple #[.int .i64 _, _, _]) = .returned (.tuple #[.int .i64 (zag acc'), _, _]); rw [HO.out]; rfl, rfl⟩
    · obtain rfl : k = n := by omega
      have HV := Lib.hid hv
      have hnil : xs.drop k = [] := List.drop_eq_nil_of_le (by have := HL.out; omega)
      have HN := Lib.hid hnil
      clear hv hnil
      go_wp2_with fail
      go_ret3
      exact ⟨by rw [← HV.out, HN.out]; rfl, rfl⟩
end Go.Proofs.Ytlofjhcjjcohfaa
