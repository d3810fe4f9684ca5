/- The walk of Unpack (chapter 12): 'unpack'. -/
import Derived.Test.YtlofjhcjjcohfaaWk
import Derived.Deep.DeepCutAuto
namespace Go.Proofs.Ytlofjhcjjcohfaa
open Go Go.RowKit Iv
set_option linter.unusedVariables false

set_option maxRecDepth 100000 in
set_option maxHeartbeats 3200000 in
theorem unpackP_any (A : Option Addr) (n c B : Nat) (xs : Bytes) (most : Int) (w : World) (hLie : Lies w B 1 A n (xs.map bv)) (hB : B ≤ w.heap.size) (hnc : n ≤ c) (hn : n ≤ 1000000000) (base : Nat) (hbase : base ≤ w.heap.size) :
    Calls Try.prog 73 #[.slice A n c, .int .i64 most] w fun e w' => ∃ v', e = .returned (.tuple #[v', .int .i64 (unpack xs most).2]) ∧ w'.ownsRow base 5 1 v' (unpack xs most).1.length ((unpack xs most).1.map bv) ∧ w.grownBy w' none ∧ At w none v'.ownBlock := by
  have HL := Lib.hid hLie.lenB
  obtain ⟨i0, hi, hz0, hz1, hz2⟩ := info_parts info_u8
  have HI := Lib.hid hi
  have HZ0 := Lib.hid hz0
  have HZ1 := Lib.hid hz1
  have HZ2 := Lib.hid hz2
  clear hi hz0 hz1 hz2
  have hz : (0 : Nat) < 1 := by omega
  go_enter Try.func73, Try.ntmps73
  go_wp2_with fail
  go_loopw [6, 7, 8, 9, 77] (fun v iv _ _ _ wr => ∃ (k : Nat) (ys : Bytes) (vv : Value), vv = v ∧ iv = .int .i64 (k : Int) ∧ k ≤ n ∧ UnAt 5 w base most xs k ys vv wr) (fun _ iv _ _ _ _ => n - (intOf iv).toNat)
  case atStart => exact ⟨0, [], _, rfl, rfl, Nat.zero_le _, UnAt.start _ _ _ _ _⟩
  case round =>
    obtain ⟨k, ys, vv, rfl, rfl, hkn, hU⟩ := hrel
    have hyl : ys.length ≤ 130 * k := hU.len
    have LB := hLie.grown hU.grown hB (fun g hg => nomatch hg)
    obtain ⟨Av, cv, hvv, _⟩ := own_slice hU.own
    subst hvv
    have HU := Lib.hid hU
    have hbw : base ≤ wr.heap.size := Nat.le_trans hbase hU.grown.size
    clear hU
    by_cases hlt : k < n
    · obtain ⟨ad, x, hA, _, hx, hcx⟩ := LB.byte hlt
      subst hA
      have hx8 := byte_lt x
      have HX := Lib.hid hx
      clear hx
      by_cases h7 : x.toNat < 128
      · have HF := HU.out.lit HX.out h7
        rw [HL.out] at HF
        by_cases h1 : n - (k + 1) < x.toNat + 1
        · rw [if_pos h1] at HF
          have HFF := Lib.hid HF
          clear HF
          go_wp2_with fail
          go_ret2
          rw [HFF.out]
          exact ⟨_, rfl, World.ownsRow_nil _ _ _ _, HU.out.grown, .inl rfl⟩
        · rw [if_neg h1] at HF
          by_cases h2 : most < (ys.length : Int) + x.toNat + 1
          · rw [if_pos h2] at HF
            have HFF := Lib.hid HF
            clear HF
            go_wp2_with fail
            go_ret2
            rw [HFF.out]
            exact ⟨_, rfl, World.ownsRow_nil _ _ _ _, HU.out.grown, .inl rfl⟩
          · have hcut : Lies wr B 1 (some ⟨ad.block, ad.off + (k + 1), none⟩) (k + x.toNat + 2 - (k + 1)) (((xs.drop (k + 1)).take (x.toNat + 1)).map bv) := by
              have h1 := (LB.drop (k := k + 1) (by omega)).take (m := x.toNat + 1) (by omega)
              simp only [Nat.mul_one] at h1
              rw [← List.map_drop, ← List.map_take] at h1
              rw [show k + x.toNat + 2 - (k + 1) = x.toNat + 1 from by omega]
              rw [show (⟨ad.block, ad.off + (k + 1), none⟩ : Addr) = ad.add (k + 1) from by simp [Addr.add]]
              exact h1
            have HCUT := Lib.hid hcut
            have hnc2 : ¬ c = k + 1 := by omega
            clear HF hcut
            go_wp2_with (at_builtin; refine wpList_join _ rfl (.tmp 35) (.tmp 43) _ rfl base 5 i0 (.int .u8 0) 1 1 Try.underlying27 HI.out HZ0.out HZ1.out HZ2.out rfl hz _ ys.length (ys.map bv) rfl HU.out.own B (some ⟨ad.block, ad.off + (k + 1), none⟩) (k + x.toNat + 2 - (k + 1)) (c - (k + 1)) _ rfl HCUT.out (fun e => nomatch e) (bv_one _) (by unfold maxLen; omega) (by omega) hbw ?_; intro v2 w2 hown2 hg2 hat2)
            rw [show k + x.toNat + 2 - (k + 1) = x.toNat + 1 from by omega] at hown2
            have HN := Lib.hid (HU.out.litNext HX.out h7 (by rw [HL.out]; omega) (by omega) hown2 hg2 hat2)
            clear hown2 hg2 hat2
            go_roundw
            case rel => exact ⟨k + x.toNat + 2, _, _, rfl, by go_num, by omega, HN.out⟩
            case measure => simp [intOf]; omega
      · have h7' : 128 ≤ x.toNat := by omega
        by_cases h1 : n ≤ k + 1
        · have HF := Lib.hid (HU.out.one HX.out h7' (by rw [HL.out]; exact h1))
          go_wp2_with fail
          go_ret2
          rw [HF.out]
          exact ⟨_, rfl, World.ownsRow_nil _ _ _ _, HU.out.grown, .inl rfl⟩
        · obtain ⟨ad', d, hA', _, hd, hcd⟩ := LB.byte (show k + 1 < n by omega)
          obtain rfl : ad = ad' := by injection hA'
          have hd8 := byte_lt d
          rw [show ad.add (k + 1) = (⟨ad.block, ad.off + (k + 1), none⟩ : Addr) from by simp [Addr.add]] at hcd
          have HD := Lib.hid hd
          have HF := HU.out.copy HX.out h7' hd
          clear hd hA'
          by_cases h0 : d.toNat = 0 ∨ ys.length < d.toNat
          · rw [if_pos h0] at HF
            have HFF := Lib.hid HF
            clear HF
            by_cases h00 : d.toNat = 0
            · have hbe : (((d.toNat : Nat) : Int) == 0) = true := by rw [beq_iff_eq]; omega
              clear h00 h0
              go_wp2_with fail
              go_ret2
              rw [HFF.out]
              exact ⟨_, rfl, World.ownsRow_nil _ _ _ _, HU.out.grown, .inl rfl⟩
            · have hbe : (((d.toNat : Nat) : Int) == 0) = false := by rw [beq_eq_false_iff_ne]; omega
              have h01 : (ys.length : Int) < (d.toNat : Int) := by omega
              clear h00 h0
              go_wp2_with fail
              go_ret2
              rw [HFF.out]
              exact ⟨_, rfl, World.ownsRow_nil _ _ _ _, HU.out.grown, .inl rfl⟩
          · rw [if_neg h0] at HF
            have hbe : (((d.toNat : Nat) : Int) == 0) = false := by rw [beq_eq_false_iff_ne]; omega
            have h01 : (d.toNat : Int) ≤ (ys.length : Int) := by omega
            have h02 : 1 ≤ d.toNat := by omega
            have H0 := Lib.hid h0
            clear h0
            by_cases h2 : most < (ys.length : Int) + x.toNat - 125
            · rw [if_pos h2] at HF
              have HFF := Lib.hid HF
              clear HF
              go_wp2_with fail
              go_ret2
              rw [HFF.out]
              exact ⟨_, rfl, World.ownsRow_nil _ _ _ _, HU.out.grown, .inl rfl⟩
            · clear HF
              obtain ⟨N, hN⟩ : ∃ N, N = x.toNat - 125 := ⟨_, rfl⟩
              have HNN := Lib.hid hN
              have hN1 : (N : Int) = (x.toNat : Int) - 125 := by omega
              have HN1 := Lib.hid hN1
              have hN2 : N ≤ 130 := by omega
              clear hN hN1
              go_wp2_with fail
              go_loopw [6, 77] (fun v jv wr => ∃ (j : Nat) (zs : Bytes) (v2 : Value), v2 = v ∧ jv = .int .i64 (j : Int) ∧ CpAt 5 w base ys d.toNat N j zs v2 wr) (fun _ jv _ => N - (intOf jv).toNat)
              case atStart => exact ⟨0, ys, _, rfl, rfl, ⟨HU.out.own, HU.out.grown, HU.out.at_, by simp, Nat.zero_le _, rfl⟩⟩
              case round =>
                obtain ⟨j, zs, v2, rfl, rfl, hC⟩ := hrel
                have hjN := hC.le
                have hz1 : zs.length ≤ ys.length + 130 := by have := hC.len; omega
                have hz2 : ys.length ≤ zs.length := by have := hC.len; omega
                have hz3 : (d.toNat : Int) ≤ (zs.length : Int) := by omega
                by_cases hj : j < N
                · obtain ⟨y, hy⟩ := hC.get h02 (by omega)
                  obtain ⟨A2, c2, hv2, _, _, hl2, _⟩ := own_slice hC.own
                  obtain ⟨ad2, y', hA2, _, hy', hcy⟩ := hl2.byte (show zs.length - d.toNat < zs.length by omega)
                  obtain rfl : y = y' := by rw [hy] at hy'; injection hy'
                  subst hv2 hA2
                  have HY := Lib.hid hy
                  have HC := Lib.hid hC
                  have hjx : (j : Int) < (x.toNat : Int) - 125 := by have := HN1.out; omega
                  have hbz : base ≤ wr.heap.size := Nat.le_trans hbase hC.grown.size
                  clear hy hy' hC hl2
                  go_wp2_with (at_builtin; refine wpList_app _ rfl (.tmp 79) (.tmp 87) _ rfl base 5 i0 (.int .u8 0) 1 1 Try.underlying27 HI.out HZ0.out HZ1.out HZ2.out rfl hz _ (Value.slice (some ad2) zs.length c2).ownBlock zs.length (zs.map bv) rfl (App.own (HC.out.own.alloc _)) ⟨wr.heap.size, 0, none⟩ 1 1 [.int .u8 (y.toNat : Int)] rfl hz rfl (cell_new1 _ _ _) (one1 rfl) (by unfold maxLen; omega) (by omega) (by simp; omega) ?_; intro v3 w3 hown3 hg3 hat3)
                  have hg3' := grown_alloc hg3
                  have hat3' := hat3.alloc
                  have HCN := Lib.hid (HC.out.next hj HY.out hown3 hg3' hat3')
                  clear hown3 hg3 hat3 hg3' hat3'
                  go_roundw
                  case rel => exact ⟨j + 1, _, _, rfl, by go_num, HCN.out⟩
                  case measure => simp [intOf]; omega
                · have HZ := Lib.hid (hC.done (by omega))
                  have hjx : ¬ (j : Int) < (x.toNat : Int) - 125 := by have := HN1.out; omega
                  have HC := Lib.hid hC
                  clear hC
                  have HU2 := Lib.hid (HU.out.copyNext HX.out h7' HD.out H0.out (by omega) (by rw [HZ.out, HNN.out]) HC.out.own HC.out.grown HC.out.at_)
                  go_wp2_with fail
                  go_roundw
                  case rel => exact ⟨k + 2, _, _, rfl, by go_num, by omega, HU2.out⟩
                  case measure => simp [intOf]; omega
    · have HF := Lib.hid (HU.out.done (by rw [HL.out]; omega))
      go_wp2_with fail
      go_ret2
      rw [HF.out]
      exact ⟨_, rfl, HU.out.own, HU.out.grown, HU.out.at_⟩
end Go.Proofs.Ytlofjhcjjcohfaa
