/- Numbers as the walks spell them: shifts, masks and complements of the unsigned kinds. -/
import Derived.Test.YtfbkkgfkhhibfaaGreatSum
import Derived.Test.YtfbkkgfkhhibfaaGreatAlc
namespace Iv
open Go Go.RowKit
theorem not64 {x : Nat} (h : x < 18446744073709551616) : 18446744073709551615 ^^^ x = 18446744073709551615 - x := by
  refine Nat.eq_of_testBit_eq fun i => ?_
  have e1 : (18446744073709551615 : Nat) = 2 ^ 64 - 1 := by decide
  have e2 : 18446744073709551615 - x = 2 ^ 64 - (x + 1) := by omega
  rw [e2, Nat.testBit_xor, e1, Nat.testBit_two_pow_sub_one, Nat.testBit_two_pow_sub_succ (by omega)]
  by_cases hi : i < 64
  · simp [hi]
  · have : x.testBit i = false := Nat.testBit_lt_two_pow (Nat.lt_of_lt_of_le h (by
      rw [show (18446744073709551616 : Nat) = 2 ^ 64 from by decide]
      exact Nat.pow_le_pow_right (by omega) (by omega)))
    simp [hi, this]
theorem zig_up {m : Int} (h : inI64 m) (h0 : ¬ m < 0) : IntKind.u64.wrap (IntKind.u64.wrap m * 2) = ((zig m : Nat) : Int) := by
  unfold inI64 at h
  unfold zig
  rw [if_neg h0, IntKind.wrap_u64, IntKind.wrap_u64]
  omega
theorem zig_down {m : Int} (h : inI64 m) (h0 : m < 0) : bits .xor .u64 IntKind.u64.max (IntKind.u64.wrap (IntKind.u64.wrap m * 2)) = ((zig m : Nat) : Int) := by
  unfold inI64 at h
  have e : IntKind.u64.wrap (IntKind.u64.wrap m * 2) = (((2 * m + 18446744073709551616).toNat : Nat) : Int) := by
    rw [IntKind.wrap_u64, IntKind.wrap_u64]
    omega
  rw [e]
  have hx := u64_xor_nat 18446744073709551615 ((2 * m + 18446744073709551616).toNat) (by omega) (by omega)
  rw [not64 (by omega)] at hx
  refine Eq.trans ?_ (hx.trans ?_)
  · rfl
  · unfold zig
    rw [if_pos h0]
    omega
theorem or128 (b : Nat) (h : b < 256) : b ||| 128 = b % 128 + 128 := by
  have : ∀ b : Fin 256, b.val ||| 128 = b.val % 128 + 128 := by decide +kernel
  exact this ⟨b, h⟩
theorem byte_or128 (u : Nat) : bits .or .u8 ((u : Int) % 256) 128 = ((u % 128 + 128 : Nat) : Int) := by
  have h := u8_or_nat (u % 256) 128 (by omega) (by omega)
  rw [or128 _ (by omega)] at h
  refine Eq.trans ?_ (h.trans ?_)
  · rfl
  · omega
theorem pow7 (k : Nat) : (2 : Nat) ^ (7 * k) = 128 ^ k := by rw [Nat.pow_mul]
theorem small_shift {x k : Nat} (hx : x < 128) (hk : k ≤ 9) (h9 : k = 9 → x ≤ 1) : x * 128 ^ k < 18446744073709551616 := by
  by_cases h : k = 9
  · have := h9 h
    subst h
    have : (128 : Nat) ^ 9 = 9223372036854775808 := by decide
    rw [this]
    omega
  · have h1 : (128 : Nat) ^ k ≤ 128 ^ 8 := Nat.pow_le_pow_right (by omega) (by omega)
    have h2 : (128 : Nat) ^ 8 = 72057594037927936 := by decide
    have h3 : x * 128 ^ k ≤ 127 * 128 ^ 8 := Nat.mul_le_mul (by omega) h1
    omega
theorem or_step {acc k x : Nat} (hacc : acc < 128 ^ k) (hk : k ≤ 9) (h9 : k = 9 → x % 128 ≤ 1) :
    bits .or .u64 (acc : Int) (IntKind.u64.wrap ((x : Int) % 128 * 2 ^ (7 * k))) = ((acc + x % 128 * 128 ^ k : Nat) : Int) ∧ acc + x % 128 * 128 ^ k < 18446744073709551616 := by
  have hs := small_shift (x := x % 128) (by omega) hk h9
  have hp : (128 : Nat) ^ k ≤ 128 ^ 9 := Nat.pow_le_pow_right (by omega) hk
  have h9' : (128 : Nat) ^ 9 = 9223372036854775808 := by decide
  have e : ((x : Int) % 128 * 2 ^ (7 * k)) = ((x % 128 * 128 ^ k : Nat) : Int) := by
    rw [← pow7]
    push_cast
    rfl
  have hw : IntKind.u64.wrap ((x : Int) % 128 * 2 ^ (7 * k)) = ((x % 128 * 128 ^ k : Nat) : Int) := by
    rw [e, IntKind.wrap_u64]
    omega
  have hj : acc ||| x % 128 * 128 ^ k = acc + x % 128 * 128 ^ k := by
    rw [Nat.or_comm, nat_join (7 * k) (x % 128 * 128 ^ k) acc (by rw [pow7]; exact Nat.mul_mod_left _ _) (by rw [pow7]; exact hacc), Nat.add_comm]
  refine ⟨?_, ?_⟩
  · rw [hw, u64_or_nat acc _ (by omega) hs, hj]
  · have hm : acc + x % 128 * 128 ^ k < 128 ^ k + x % 128 * 128 ^ k := by omega
    by_cases h : k = 9
    · have := h9 h
      subst h
      rw [h9'] at hacc hm hs ⊢
      omega
    · have h1 : (128 : Nat) ^ k ≤ 128 ^ 8 := Nat.pow_le_pow_right (by omega) (by omega)
      have h2 : (128 : Nat) ^ 8 = 72057594037927936 := by decide
      have h3 : x % 128 * 128 ^ k ≤ 127 * 128 ^ 8 := Nat.mul_le_mul (by omega) h1
      omega
end Iv

/- The walks of the two writers of an integer (chapter 11): both append 'putI'. -/
namespace Go.Proofs.YtfbkkgfkhhibfaaGreat
open Go Go.RowKit Iv
set_option linter.unusedVariables false
set_option maxRecDepth 100000 in
set_option maxHeartbeats 400000 in
theorem putV_any (base : Nat) (v : Value) (o : Option Nat) (xs : Bytes) (m : Int) (w : World) (hApp : App w base 5 1 v o xs.length (xs.map bv)) (hm : inI64 m) (hx : xs.length ≤ 1000000000000) (hbase : base ≤ w.heap.size) :
    Calls Tryz.prog 111 #[v, .int .i64 m] w fun e w' => ∃ v', e = .returned v' ∧ w'.ownsRow base 5 1 v' (xs ++ putI m).length ((xs ++ putI m).map bv) ∧ w.grownBy w' o ∧ At w o v'.ownBlock := by
  obtain ⟨i0, hi, hz0, hz1, hz2⟩ := info_parts info_u8
  have HI := Lib.hid hi
  have HZ0 := Lib.hid hz0
  have HZ1 := Lib.hid hz1
  have HZ2 := Lib.hid hz2
  clear hi hz0 hz1 hz2
  have hzl := zig_lt hm.1 hm.2
  have HQ := Lib.hid (show putI m = vput (zig m) from rfl)
  have hlen := putI_len hm
  have hup : ¬ m < 0 → IntKind.u64.wrap (IntKind.u64.wrap m * 2) = ((zig m : Nat) : Int) := zig_up hm
  have hdn : m < 0 → bits .xor .u64 IntKind.u64.max (IntKind.u64.wrap (IntKind.u64.wrap m * 2)) = ((zig m : Nat) : Int) := zig_down hm
  have HM := Lib.hid hm
  clear hm
  go_enter Tryz.func111, Tryz.ntmps111
  by_cases hneg : m < 0
  all_goals
    first | (have hd := hdn hneg) | (have hd := hup hneg)
    clear hup hdn
    generalize zig m = q0 at *
    go_wp2
    clear hd
    go_loopw [0, 5] (fun b u wr => ∃ (o' : Option Nat) (ys : Bytes) (q : Nat), u = .int .u64 (q : Int) ∧ App wr base 5 1 b o' ys.length (ys.map bv) ∧ ys ++ vput q = xs ++ vput q0 ∧ w.grownBy wr o ∧ At w o o' ∧ base ≤ wr.heap.size)
      (fun _ u _ => (intOf u).toNat)
    case atStart => exact ⟨o, xs, q0, rfl, hApp, rfl, World.grownBy.refl w o, .inl rfl, hbase⟩
    case round =>
      obtain ⟨o', ys, q, rfl, hap, heq, hgr, hat, hbr⟩ := hrel
      have HE := Lib.hid heq
      have hll := congrArg List.length heq
      simp only [List.length_append] at hll
      have hyl : ys.length + 1 ≤ 1000000000100 := by
        have := vput_pos q
        have : putI m = vput q0 := HQ.out
        rw [this] at hlen
        omega
      clear heq hll
      by_cases hq : 128 ≤ q
      · have hor := byte_or128 q
        have HV := Lib.hid (vput_ge hq)
        have hz : (0 : Nat) < 1 := by omega
        go_wp2_with (at_builtin; refine wpList_app _ rfl (.tmp 15) (.tmp 19) _ rfl base 5 i0 (.int .u8 0) 1 1 Tryz.underlying22 HI.out HZ0.out HZ1.out HZ2.out rfl hz _ o' ys.length (ys.map bv) rfl (hap.alloc _) ⟨wr.heap.size, 0, none⟩ 1 1 [.int .u8 ((q : Int) % 128 + 128)] rfl hz rfl (cell_new1 _ _ _) (one1 rfl) (by unfold maxLen; omega) (by omega) (by simp; omega) ?_; intro v' w1 hown1 hg1 hat1)
        have hb : Value.int .u8 ((q : Int) % 128 + 128) = bv (UInt8.ofNat (q % 128 + 128)) := by
          unfold bv
          rw [ofNat_toNat_lt (by omega)]
          rfl
        rw [hb] at hown1
        have hg2 := grown_alloc hg1
        have hat2 := hat1.alloc
        clear hg1 hat1 hor hb
        go_roundw
        case rel =>
          refine ⟨v'.ownBlock, ys ++ [UInt8.ofNat (q % 128 + 128)], q / 128, by go_num, ?_, ?_, grownBy_trans hgr hg2 hat, hat.trans hat2 hgr.size, Nat.le_trans hbr hg2.size⟩
          · rw [List.length_append, List.map_append]
            exact App.own hown1
          · rw [List.append_assoc, ← HE.out, HV.out]
            rfl
        case measure => simp [intOf]; omega
      · have hz : (0 : Nat) < 1 := by omega
        have HV := Lib.hid (vput_lt (show q < 128 by omega))
        go_wp2_with (at_builtin; refine wpList_app _ rfl (.tmp 23) (.tmp 26) _ rfl base 5 i0 (.int .u8 0) 1 1 Tryz.underlying22 HI.out HZ0.out HZ1.out HZ2.out rfl hz _ o' ys.length (ys.map bv) rfl (hap.alloc _) ⟨wr.heap.size, 0, none⟩ 1 1 [.int .u8 (q : Int)] rfl hz rfl (cell_new1 _ _ _) (one1 rfl) (by unfold maxLen; omega) (by omega) (by simp; omega) ?_; intro v' w1 hown1 hg1 hat1)
        have hb : Value.int .u8 (q : Int) = bv (UInt8.ofNat q) := by
          unfold bv
          rw [ofNat_toNat_lt (by omega)]
        rw [hb] at hown1
        have HF : xs ++ putI m = ys ++ [UInt8.ofNat q] := by
          rw [show putI m = vput q0 from HQ.out, ← HE.out, HV.out]
        have hfin : w1.ownsRow base 5 1 v' (xs ++ putI m).length ((xs ++ putI m).map bv) := by
          rw [HF, List.length_append, List.map_append]
          exact hown1
        have HF2 := Lib.hid hfin
        clear hfin HF hb hown1
        go_ret
        exact ⟨v', rfl, HF2.out, grownBy_trans hgr (grown_alloc hg1) hat, hat.trans hat1.alloc hgr.size⟩
set_option maxRecDepth 100000 in
set_option maxHeartbeats 400000 in
theorem putInt_any (A : Option Addr) (n c B : Nat) (xs : Bytes) (m : Int) (w : World) (h : Lies w B 1 A n (xs.map bv)) (hnc : n ≤ c) (hm : inI64 m) (hx : n ≤ 1000000000000) (base : Nat) (hbase : base ≤ w.heap.size) :
    Calls Tryz.prog 81 #[.slice A n c, .int .i64 m] w fun e w' => ∃ v', e = .returned v' ∧ w'.ownsRow base 5 1 v' (xs ++ putI m).length ((xs ++ putI m).map bv) ∧ w.grownBy w' none ∧ At w none v'.ownBlock := by
  have HL := Lib.hid h.lenB
  have hc1 := putV_any base (.slice A n n) none xs m w (by rw [HL.out]; exact App.cut h) hm (by rw [HL.out]; exact hx) hbase
  have HC := Lib.hid hc1
  clear hc1 hm
  have h0 : (0 : Int) ≤ (n : Int) := by omega
  go_enter Tryz.func81, Tryz.ntmps81
  go_wp2_with fail
  refine HC.out.mono ?_
  rintro e w1 ⟨v', rfl, hown, hg, hat⟩
  go_wp2_with fail
  go_ret
  exact ⟨v', rfl, hown, hg, hat⟩
end Go.Proofs.YtfbkkgfkhhibfaaGreat

/- The walk of the reference's writer of an integer (chapter 11). -/
namespace Go.Proofs.YtfbkkgfkhhibfaaGreat
open Go Go.RowKit Iv
set_option linter.unusedVariables false
set_option maxRecDepth 100000 in
set_option maxHeartbeats 800000 in
theorem putR_any (A : Option Addr) (n c B : Nat) (xs : Bytes) (m : Int) (w : World) (h : Lies w B 1 A n (xs.map bv)) (ho : A = none → c = 0) (hm : inI64 m) (hx : n ≤ 1000000000000) (base : Nat) (hbase : base ≤ w.heap.size) :
    Calls Tryz.prog 63 #[.slice A n c, .int .i64 m] w fun e w' => ∃ v', e = .returned v' ∧ w'.ownsRow base 5 1 v' (xs ++ putI m).length ((xs ++ putI m).map bv) ∧ w.grownBy w' none ∧ At w none v'.ownBlock := by
  obtain ⟨i0, hi, hz0, hz1, hz2⟩ := info_parts info_u8
  have HI := Lib.hid hi
  have HZ0 := Lib.hid hz0
  have HZ1 := Lib.hid hz1
  have HZ2 := Lib.hid hz2
  clear hi hz0 hz1 hz2
  have HX := Lib.hid h.lenB
  have HO := Lib.hid ho
  clear ho
  have hzl := zig_lt hm.1 hm.2
  have HQ := Lib.hid (show putI m = vput (zig m) from rfl)
  have hlen := putI_len hm
  have hup : ¬ m < 0 → IntKind.u64.wrap (IntKind.u64.wrap m * 2) = ((zig m : Nat) : Int) := zig_up hm
  have hdn : m < 0 → bits .xor .u64 IntKind.u64.max (IntKind.u64.wrap (IntKind.u64.wrap m * 2)) = ((zig m : Nat) : Int) := zig_down hm
  have hz : (0 : Nat) < 1 := by omega
  clear hm
  go_enter Tryz.func63, Tryz.ntmps63
  by_cases hneg : m < 0
  all_goals
    first | (have hd := hdn hneg) | (have hd := hup hneg)
    clear hup hdn
    generalize zig m = q0 at *
    go_wp2_with (at_builtin; refine wpList_join _ rfl (.tmp 14) (.tmp 15) _ rfl base 5 i0 (.int .u8 0) 1 1 Tryz.underlying22 HI.out HZ0.out HZ1.out HZ2.out rfl hz _ 0 [] rfl (ownsRow_empty w base 5 1 hbase) B A n c (xs.map bv) rfl (h.allocAny _) HO.out (bv_one _) (by unfold maxLen; omega) (by omega) (by simp; omega) ?_; intro v0 w0 hown0 hg0 hat0)
    have hg0' := grown_ofNew hg0 (Nat.le_refl _) none
    have hat0' := hat0.ofNew (Nat.le_refl _)
    have hA0 : App w0 base 5 1 v0 v0.ownBlock xs.length (xs.map bv) := by
      rw [HX.out]
      have := App.own hown0
      rwa [Nat.zero_add, List.nil_append] at this
    clear hd hown0 hg0 hat0
    go_loopw [5, 6] (fun u b wr => ∃ (o' : Option Nat) (ys : Bytes) (q : Nat), u = .int .u64 (q : Int) ∧ App wr base 5 1 b o' ys.length (ys.map bv) ∧ ys ++ vput q = xs ++ vput q0 ∧ w.grownBy wr none ∧ At w none o' ∧ base ≤ wr.heap.size)
      (fun u _ _ => (intOf u).toNat)
    case atStart => exact ⟨v0.ownBlock, xs, q0, rfl, hA0, rfl, hg0', hat0', Nat.le_trans hbase hg0'.size⟩
    case round =>
      obtain ⟨o', ys, q, rfl, hap, heq, hgr, hat, hbr⟩ := hrel
      have HE := Lib.hid heq
      have hll := congrArg List.length heq
      simp only [List.length_append] at hll
      have hyl : ys.length + 1 ≤ 1000000000100 := by
        have := vput_pos q
        have : putI m = vput q0 := HQ.out
        rw [this] at hlen
        have := HX.out
        omega
      clear heq hll
      by_cases hq : 128 ≤ q
      · have hor := byte_or128 q
        have HV := Lib.hid (vput_ge hq)
        have hz : (0 : Nat) < 1 := by omega
        go_wp2_with (at_builtin; refine wpList_app _ rfl (.tmp 19) (.tmp 23) _ rfl base 5 i0 (.int .u8 0) 1 1 Tryz.underlying22 HI.out HZ0.out HZ1.out HZ2.out rfl hz _ o' ys.length (ys.map bv) rfl (hap.alloc _) ⟨wr.heap.size, 0, none⟩ 1 1 [.int .u8 ((q : Int) % 128 + 128)] rfl hz rfl (cell_new1 _ _ _) (one1 rfl) (by unfold maxLen; omega) (by omega) (by simp; omega) ?_; intro v' w1 hown1 hg1 hat1)
        have hb : Value.int .u8 ((q : Int) % 128 + 128) = bv (UInt8.ofNat (q % 128 + 128)) := by
          unfold bv
          rw [ofNat_toNat_lt (by omega)]
          rfl
        rw [hb] at hown1
        have hg2 := grown_alloc hg1
        have hat2 := hat1.alloc
        clear hg1 hat1 hor hb
        go_roundw
        case rel =>
          refine ⟨v'.ownBlock, ys ++ [UInt8.ofNat (q % 128 + 128)], q / 128, by go_num, ?_, ?_, grownBy_trans hgr hg2 hat, hat.trans hat2 hgr.size, Nat.le_trans hbr hg2.size⟩
          · rw [List.length_append, List.map_append]
            exact App.own hown1
          · rw [List.append_assoc, ← HE.out, HV.out]
            rfl
        case measure => simp [intOf]; omega
      · have hz : (0 : Nat) < 1 := by omega
        have HV := Lib.hid (vput_lt (show q < 128 by omega))
        go_wp2_with (at_builtin; refine wpList_app _ rfl (.tmp 27) (.tmp 30) _ rfl base 5 i0 (.int .u8 0) 1 1 Tryz.underlying22 HI.out HZ0.out HZ1.out HZ2.out rfl hz _ o' ys.length (ys.map bv) rfl (hap.alloc _) ⟨wr.heap.size, 0, none⟩ 1 1 [.int .u8 (q : Int)] rfl hz rfl (cell_new1 _ _ _) (one1 rfl) (by unfold maxLen; omega) (by omega) (by simp; omega) ?_; intro v' w1 hown1 hg1 hat1)
        have hb : Value.int .u8 (q : Int) = bv (UInt8.ofNat q) := by
          unfold bv
          rw [ofNat_toNat_lt (by omega)]
        rw [hb] at hown1
        have HF : xs ++ putI m = ys ++ [UInt8.ofNat q] := by
          rw [show putI m = vput q0 from HQ.out, ← HE.out, HV.out]
        have hfin : w1.ownsRow base 5 1 v' (xs ++ putI m).length ((xs ++ putI m).map bv) := by
          rw [HF, List.length_append, List.map_append]
          exact hown1
        have HF2 := Lib.hid hfin
        clear hfin HF hb hown1
        go_ret
        exact ⟨v', rfl, HF2.out, grownBy_trans hgr (grown_alloc hg1) hat, hat.trans hat1.alloc hgr.size⟩
end Go.Proofs.YtfbkkgfkhhibfaaGreat
