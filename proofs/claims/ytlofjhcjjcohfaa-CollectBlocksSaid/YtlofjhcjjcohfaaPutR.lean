/- The walk of the reference's writer of an integer (chapter 11). -/
import Derived.Test.YtlofjhcjjcohfaaPut
import Derived.Test.YtlofjhcjjcohfaaMm
namespace Go.Proofs.Ytlofjhcjjcohfaa
open Go Go.RowKit Iv
set_option linter.unusedVariables false

set_option maxRecDepth 100000 in
set_option maxHeartbeats 800000 in
theorem putR_any (A : Option Addr) (n c B : Nat) (xs : Bytes) (m : Int) (w : World) (h : Lies w B 1 A n (xs.map bv)) (ho : A = none → c = 0) (hm : inI64 m) (hx : n ≤ 1000000000000) (base : Nat) (hbase : base ≤ w.heap.size) :
    Calls Try.prog 46 #[.slice A n c, .int .i64 m] w fun e w' => ∃ v', e = .returned v' ∧ w'.ownsRow base 5 1 v' (xs ++ putI m).length ((xs ++ putI m).map bv) ∧ w.grownBy w' none ∧ At w none v'.ownBlock := by
  obtain ⟨i0, hi, hz0, hz1, hz2⟩ := info_parts info_u8
  have HI := Lib.hid hi
  have HZ0 := Lib.hid hz0
  have HZ1 := Lib.hid hz1
  have HZ2 := Lib.hid hz2
  clear hi hz0 hz1 hz2
  have HX := Lib.hid h.lenB
  have HO := Lib.hid ho
  clear ho
  have hzl := zig_lt hm.1 hm.2
  have HQ := Lib.hid (show putI m = vput (zig m) from rfl)
  have hlen := putI_len hm
  have hup : ¬ m < 0 → IntKind.u64.wrap (IntKind.u64.wrap m * 2) = ((zig m : Nat) : Int) := zig_up hm
  have hdn : m < 0 → bits .xor .u64 IntKind.u64.max (IntKind.u64.wrap (IntKind.u64.wrap m * 2)) = ((zig m : Nat) : Int) := zig_down hm
  have hz : (0 : Nat) < 1 := by omega
  clear hm
  go_enter Try.func46, Try.ntmps46
  by_cases hneg : m < 0
  all_goals
    first | (have hd := hdn hneg) | (have hd := hup hneg)
    clear hup hdn
    generalize zig m = q0 at *
    go_wp2_with (at_builtin; refine wpList_join _ rfl (.tmp 14) (.tmp 15) _ rfl base 5 i0 (.int .u8 0) 1 1 Try.underlying27 HI.out HZ0.out HZ1.out HZ2.out rfl hz _ 0 [] rfl (ownsRow_empty w base 5 1 hbase) B A n c (xs.map bv) rfl (h.allocAny _) HO.out (bv_one _) (by unfold maxLen; omega) (by omega) (by simp; omega) ?_; intro v0 w0 hown0 hg0 hat0)
    have hg0' := grown_ofNew hg0 (Nat.le_refl _) none
    have hat0' := hat0.ofNew (Nat.le_refl _)
    have hA0 : App w0 base 5 1 v0 v0.ownBlock xs.length (xs.map bv) := by
      rw [HX.out]
      have := App.own hown0
      rwa [Nat.zero_add, List.nil_append] at this
    clear hd hown0 hg0 hat0
    go_loopw [5, 6] (fun u b wr => ∃ (o' : Option Nat) (ys : Bytes) (q : Nat), u = .int .u64 (q : Int) ∧ App wr base 5 1 b o' ys.length (ys.map bv) ∧ ys ++ vput q = xs ++ vput q0 ∧ w.grownBy wr none ∧ At w none o' ∧ base ≤ wr.heap.size)
      (fun u _ _ => (intOf u).toNat)
    case atStart => exact ⟨v0.ownBlock, xs, q0, rfl, hA0, rfl, hg0', hat0', Nat.le_trans hbase hg0'.size⟩
    case round =>
      obtain ⟨o', ys, q, rfl, hap, heq, hgr, hat, hbr⟩ := hrel
      have HE := Lib.hid heq
      have hll := congrArg List.length heq
      simp only [List.length_append] at hll
      have hyl : ys.length + 1 ≤ 1000000000100 := by
        have := vput_pos q
        have : putI m = vput q0 := HQ.out
        rw [this] at hlen
        have := HX.out
        omega
      clear heq hll
      by_cases hq : 128 ≤ q
      · have hor := byte_or128 q
        have HV := Lib.hid (vput_ge hq)
        have hz : (0 : Nat) < 1 := by omega
        go_wp2_with (at_builtin; refine wpList_app _ rfl (.tmp 19) (.tmp 23) _ rfl base 5 i0 (.int .u8 0) 1 1 Try.underlying27 HI.out HZ0.out HZ1.out HZ2.out rfl hz _ o' ys.length (ys.map bv) rfl (hap.alloc _) ⟨wr.heap.size, 0, none⟩ 1 1 [.int .u8 ((q : Int) % 128 + 128)] rfl hz rfl (cell_new1 _ _ _) (one1 rfl) (by unfold maxLen; omega) (by omega) (by simp; omega) ?_; intro v' w1 hown1 hg1 hat1)
        have hb : Value.int .u8 ((q : Int) % 128 + 128) = bv (UInt8.ofNat (q % 128 + 128)) := by
          unfold bv
          rw [ofNat_toNat_lt (by omega)]
          rfl
        rw [hb] at hown1
        have hg2 := grown_alloc hg1
        have hat2 := hat1.alloc
        clear hg1 hat1 hor hb
        go_roundw
        case rel =>
          refine ⟨v'.ownBlock, ys ++ [UInt8.ofNat (q % 128 + 128)], q / 128, by go_num, ?_, ?_, grownBy_trans hgr hg2 hat, hat.trans hat2 hgr.size, Nat.le_trans hbr hg2.size⟩
          · rw [List.length_append, List.map_append]
            exact App.own hown1
          · rw [List.append_assoc, ← HE.out, HV.out]
            rfl
        case measure => simp [intOf]; omega
      · have hz : (0 : Nat) < 1 := by omega
        have HV := Lib.hid (vput_lt (show q < 128 by omega))
        go_wp2_with (at_builtin; refine wpList_app _ rfl (.tmp 27) (.tmp 30) _ rfl base 5 i0 (.int .u8 0) 1 1 Try.underlying27 HI.out HZ0.out HZ1.out HZ2.out rfl hz _ o' ys.length (ys.map bv) rfl (hap.alloc _) ⟨wr.heap.size, 0, none⟩ 1 1 [.int .u8 (q : Int)] rfl hz rfl (cell_new1 _ _ _) (one1 rfl) (by unfold maxLen; omega) (by omega) (by simp; omega) ?_; intro v' w1 hown1 hg1 hat1)
        have hb : Value.int .u8 (q : Int) = bv (UInt8.ofNat q) := by
          unfold bv
          rw [ofNat_toNat_lt (by omega)]
        rw [hb] at hown1
        have HF : xs ++ putI m = ys ++ [UInt8.ofNat q] := by
          rw [show putI m = vput q0 from HQ.out, ← HE.out, HV.out]
        have hfin : w1.ownsRow base 5 1 v' (xs ++ putI m).length ((xs ++ putI m).map bv) := by
          rw [HF, List.length_append, List.map_append]
          exact hown1
        have HF2 := Lib.hid hfin
        clear hfin HF hb hown1
        go_ret
        exact ⟨v', rfl, HF2.out, grownBy_trans hgr (grown_alloc hg1) hat, hat.trans hat1.alloc hgr.size⟩
end Go.Proofs.Ytlofjhcjjcohfaa
