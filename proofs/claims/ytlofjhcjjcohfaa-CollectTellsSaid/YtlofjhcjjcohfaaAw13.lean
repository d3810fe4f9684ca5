/- The walk of the two checksums (chapter 13): both are 'crc'. -/
import Derived.Test.YtlofjhcjjcohfaaWk
import Derived.Test.YtlofjhcjjcohfaaPl
import Derived.Lib.SlBytesConst
namespace Go.Proofs.Ytlofjhcjjcohfaa
open Go Go.RowKit Iv
set_option linter.unusedVariables false

theorem u32_and1 (c : Nat) (h : c < 4294967296) : bits .and .u32 (c : Int) 1 = ((c % 2 : Nat) : Int) := by
  have := u32_and_nat c 1 h (by omega)
  rw [nat_mask1] at this
  exact this

theorem sumP_any (A : Option Addr) (n c : Nat) (xs : Bytes) (w : World) (B : Nat) (h : Lies w B 1 A n (xs.map bv)) (hn : n ≤ 1000000000000) :
    Calls Try.prog 48 #[.slice A n c] w fun e w' => e = .returned (.int .u32 (crc xs : Nat)) ∧ w = w' := by
  have HL := Lib.hid h.lenB
  go_enter Try.func48, Try.ntmps48
  go_wp2
  go_loop [3, 5, 6, 9, 17] (fun s _ _ i _ => ∃ k : Nat, i = .int .i64 k ∧ k ≤ n ∧ s = .int .u32 (crcFold 4294967295 (xs.take k) : Nat)) (fun _ _ _ i _ => n - (intOf i).toNat)
  case atStart => exact ⟨0, rfl, by omega, rfl⟩
  case round =>
    obtain ⟨k, rfl, hk, rfl⟩ := hrel
    by_cases hlt : k < n
    · obtain ⟨ad, x, rfl, hb1, hx, hc⟩ := h.byte hlt
      have hS := crcFold_lt (xs.take k) (c := 4294967295) (by omega)
      have hbx := byte_lt x
      have HT := Lib.hid (show crcFold 4294967295 (xs.take (k + 1)) = crcSteps 8 (crcFold 4294967295 (xs.take k) ^^^ x.toNat) from by rw [take_next hx, crcFold_append]; rfl)
      clear hx
      generalize crcFold 4294967295 (xs.take k) = s at *
      have hxor := u32_xor_nat s x.toNat hS (by omega)
      have hD := xor_lt32 hS (show x.toNat < 4294967296 from by omega)
      go_wp2
      go_loop [3, 6, 17] (fun s' _ j => ∃ m : Nat, j = .int .i64 m ∧ m ≤ 8 ∧ s' = .int .u32 (crcSteps m (s ^^^ x.toNat) : Nat)) (fun _ _ j => 8 - (intOf j).toNat)
      case atStart => exact ⟨0, rfl, by omega, rfl⟩
      case round =>
        obtain ⟨m, rfl, hm, rfl⟩ := hrel
        have hM := crcSteps_lt m hD
        have HM := Lib.hid (crcSteps_succ m (s ^^^ x.toNat))
        generalize hy0 : crcSteps m (s ^^^ x.toNat) = y at *
        have HY0 := Lib.hid hy0
        clear hy0
        have hand := u32_and1 y hM
        have hodd : bits .xor .u32 ((y : Int) / 2) 3988292384 = ((y / 2 ^^^ 3988292384 : Nat) : Int) := u32_xor_nat (y / 2) 3988292384 (by omega) (by omega)
        by_cases hm8 : m < 8
        · rcases Nat.mod_two_eq_zero_or_one y with hy | hy
          · have hne : (((y : Int) % 2) != 0) = false := by rw [bne_eq_false_iff_eq]; omega
            have HY := Lib.hid (show crcStep y = y / 2 from by unfold crcStep; rw [if_neg (by omega)])
            clear hy
            go_wp2
            go_round
            case rel => exact ⟨m + 1, by go_num, by omega, by rw [HM.out, HY.out]; go_num⟩
            case measure => simp [intOf]; omega
          · have hne : (((y : Int) % 2) != 0) = true := by rw [bne_iff_ne]; omega
            have HY := Lib.hid (show crcStep y = (y / 2) ^^^ 3988292384 from by unfold crcStep; rw [if_pos hy])
            clear hy
            go_wp2
            go_round
            case rel => exact ⟨m + 1, by go_num, by omega, by rw [HM.out, HY.out]⟩
            case measure => simp [intOf]; omega
        · have hm9 : m = 8 := by omega
          subst hm9
          go_wp2
          go_round
          case rel => exact ⟨k + 1, by go_num, by omega, by rw [HT.out, HY0.out]⟩
          case measure => simp [intOf]; omega
    · have hkn : k = n := by omega
      subst hkn
      have hS := crcFold_lt (xs.take k) (c := 4294967295) (by omega)
      have HT := Lib.hid (show crc xs = 4294967295 ^^^ crcFold 4294967295 (xs.take k) from by unfold crc; rw [List.take_of_length_le (by have := HL.out; omega)])
      generalize crcFold 4294967295 (xs.take k) = s at *
      have hxor : bits .xor .u32 IntKind.u32.max (s : Int) = ((4294967295 ^^^ s : Nat) : Int) := u32_xor_nat 4294967295 s (by omega) hS
      go_wp2
      go_ret
      exact ⟨ret_int (by rw [HT.out]), rfl⟩
theorem sumR_any (A : Option Addr) (n c : Nat) (xs : Bytes) (w : World) (B : Nat) (h : Lies w B 1 A n (xs.map bv)) (hn : n ≤ 1000000000000) :
    Calls Try.prog 47 #[.slice A n c] w fun e w' => e = .returned (.int .u32 (crc xs : Nat)) ∧ w = w' := by
  have HL := Lib.hid h.lenB
  go_enter Try.func47, Try.ntmps47
  go_wp2
  go_loop [3, 4, 5] (fun s i _ => ∃ k : Nat, i = .int .i64 k ∧ k ≤ n ∧ s = .int .u32 (crcFold 4294967295 (xs.take k) : Nat)) (fun _ i _ => n - (intOf i).toNat)
  case atStart => exact ⟨0, rfl, by omega, rfl⟩
  case round =>
    obtain ⟨k, rfl, hk, rfl⟩ := hrel
    by_cases hlt : k < n
    · obtain ⟨ad, x, rfl, hb1, hx, hc⟩ := h.byte hlt
      have hS := crcFold_lt (xs.take k) (c := 4294967295) (by omega)
      have hbx := byte_lt x
      have HT := Lib.hid (show crcFold 4294967295 (xs.take (k + 1)) = crcSteps 8 (crcFold 4294967295 (xs.take k) ^^^ x.toNat) from by rw [take_next hx, crcFold_append]; rfl)
      clear hx
      generalize crcFold 4294967295 (xs.take k) = s at *
      have hxor := u32_xor_nat s x.toNat hS (by omega)
      have hD := xor_lt32 hS (show x.toNat < 4294967296 from by omega)
      go_wp2
      go_loop [3, 5] (fun s' j => ∃ m : Nat, j = .int .i64 m ∧ m ≤ 8 ∧ s' = .int .u32 (crcSteps m (s ^^^ x.toNat) : Nat)) (fun _ j => 8 - (intOf j).toNat)
      case atStart => exact ⟨0, rfl, by omega, rfl⟩
      case round =>
        obtain ⟨m, rfl, hm, rfl⟩ := hrel
        have hM := crcSteps_lt m hD
        have HM := Lib.hid (crcSteps_succ m (s ^^^ x.toNat))
        generalize hy0 : crcSteps m (s ^^^ x.toNat) = y at *
        have HY0 := Lib.hid hy0
        clear hy0
        have hand := u32_and1 y hM
        have hodd : bits .xor .u32 ((y : Int) / 2) 3988292384 = ((y / 2 ^^^ 3988292384 : Nat) : Int) := u32_xor_nat (y / 2) 3988292384 (by omega) (by omega)
        by_cases hm8 : m < 8
        · rcases Nat.mod_two_eq_zero_or_one y with hy | hy
          · have hne : (((y : Int) % 2) == 1) = false := by rw [beq_eq_false_iff_ne]; omega
            have HY := Lib.hid (show crcStep y = y / 2 from by unfold crcStep; rw [if_neg (by omega)])
            clear hy
            go_wp2
            go_round
            case rel => exact ⟨m + 1, by go_num, by omega, by rw [HM.out, HY.out]; go_num⟩
            case measure => simp [intOf]; omega
          · have hne : (((y : Int) % 2) == 1) = true := by rw [beq_iff_eq]; omega
            have HY := Lib.hid (show crcStep y = (y / 2) ^^^ 3988292384 from by unfold crcStep; rw [if_pos hy])
            clear hy
            go_wp2
            go_round
            case rel => exact ⟨m + 1, by go_num, by omega, by rw [HM.out, HY.out]⟩
            case measure => simp [intOf]; omega
        · have hm9 : m = 8 := by omega
          subst hm9
          go_wp2
          go_round
          case rel => exact ⟨k + 1, by go_num, by omega, by rw [HT.out, HY0.out]⟩
          case measure => simp [intOf]; omega
    · have hkn : k = n := by omega
      subst hkn
      have hS := crcFold_lt (xs.take k) (c := 4294967295) (by omega)
      have HT := Lib.hid (show crc xs = 4294967295 ^^^ crcFold 4294967295 (xs.take k) from by unfold crc; rw [List.take_of_length_le (by have := HL.out; omega)])
      generalize crcFold 4294967295 (xs.take k) = s at *
      have hxor : bits .xor .u32 (s : Int) 4294967295 = ((4294967295 ^^^ s : Nat) : Int) := by rw [Nat.xor_comm]; exact u32_xor_nat s 4294967295 hS (by omega)
      go_wp2
      go_ret
      exact ⟨ret_int (by rw [HT.out]), rfl⟩
end Go.Proofs.Ytlofjhcjjcohfaa

/- The sanity check of chapter 13. -/
namespace Go.Proofs.Ytlofjhcjjcohfaa
open Go Go.RowKit Iv
set_option linter.unusedVariables false

def nineBytes : Bytes := [49, 50, 51, 52, 53, 54, 55, 56, 57]
theorem crc_nine : crc nineBytes = 3421780262 := by decide +kernel

set_option maxRecDepth 100000 in
set_option maxHeartbeats 400000 in
theorem awake13_any (w : World) :
    Calls Try.prog 18 #[] w fun e w' => e = .returned (.bool true) ∧ Below w.heap.size w w' := by
  have kc := fun (w : World) (C : Array Value) (n c : Nat) => Lib.run_convert_bytes_const (P := Try.prog) w 27 5 C n c Try.underlying27 Try.underlying5
  go_enter Try.func18, Try.ntmps18
  go_wp2_with fail
  clear kc
  refine (sumP_any _ _ _ nineBytes _ (w.heap.size + 1) ⟨rfl, fun _ => ⟨_, rfl, by simp, fun j u hu => ?_⟩⟩ (by omega)).mono ?_
  · have hj : (⟨w.heap.size, 0, none⟩ : Addr).add j = ⟨w.heap.size, j, none⟩ := by unfold Addr.add; split <;> simp_all
    rw [hj, World.cell?_alloc_mark]
    simpa [nineBytes, bv] using hu
  rintro e w' ⟨rfl, rfl⟩
  rw [crc_nine]
  go_wp2_with fail
  go_ret
  exact ⟨rfl, (Below.refl _ _).alloc (Nat.le_refl _) _⟩

end Go.Proofs.Ytlofjhcjjcohfaa
