/- The walks of the reference's Pack and of its writer of a literal item (chapter 12): 'pack'. -/
import Derived.Test.YtlofjhcjjcohfaaMch
namespace Go.Proofs.Ytlofjhcjjcohfaa
open Go Go.RowKit Iv
set_option linter.unusedVariables false

set_option maxRecDepth 100000 in
set_option maxHeartbeats 1600000 in
theorem literal_any (base : Nat) (v pv : Value) (ys ps : Bytes) (w : World) (h : w.ownsRow base 5 1 v ys.length (ys.map bv)) (hp : w.ownsRow base 5 1 pv ps.length (ps.map bv)) (hap : Apart v pv)
    (h128 : ps.length ≤ 128) (hy : ys.length ≤ 100000000000) (hbase : base ≤ w.heap.size) :
    Calls Try.prog 72 #[v, pv] w fun e w' => ∃ v', e = .returned v' ∧ w'.ownsRow base 5 1 v' (ys ++ litB ps).length ((ys ++ litB ps).map bv) ∧ w.grownBy w' v.ownBlock ∧ At w v.ownBlock v'.ownBlock := by
  obtain ⟨A, c, hv, _, _, hlv, _⟩ := own_slice h
  obtain ⟨Ap, cp, hpv, _, _, hlp, hop⟩ := own_slice hp
  subst hv hpv
  obtain ⟨np, hnp⟩ : ∃ np, np = ps.length := ⟨_, rfl⟩
  rw [← hnp] at hp hap hlp h128 ⊢
  have HNP := Lib.hid hnp
  clear hnp
  by_cases h0 : np = 0
  · subst h0
    have hlit : litB ps = [] := by unfold litB; rw [if_neg (by rw [← HNP.out]; omega)]
    rw [hlit, List.append_nil]
    have HH := Lib.hid h
    clear h hp
    go_enter Try.func72, Try.ntmps72
    go_wp2_with fail
    go_ret
    exact ⟨_, rfl, HH.out, World.grownBy.refl w _, .inl rfl⟩
  · obtain ⟨i0, hi, hz0, hz1, hz2⟩ := info_parts info_u8
    have HI := Lib.hid hi
    have HZ0 := Lib.hid hz0
    have HZ1 := Lib.hid hz1
    have HZ2 := Lib.hid hz2
    clear hi hz0 hz1 hz2
    have hz : (0 : Nat) < 1 := by omega
    have hbe : ((np : Int) == 0) = false := by rw [beq_eq_false_iff_ne]; omega
    have HH := Lib.hid h
    have HP := Lib.hid hp
    have HAP := Lib.hid hap
    have HOP := Lib.hid hop
    clear h hp hap hop hlv hlp
    go_enter Try.func72, Try.ntmps72
    go_wp2_with (first
      | (at_builtin; refine wpList_app _ rfl (.tmp 9) (.tmp 14) _ rfl base 5 i0 (.int .u8 0) 1 1 Try.underlying27 HI.out HZ0.out HZ1.out HZ2.out rfl hz _ (Value.slice A ys.length c).ownBlock ys.length (ys.map bv) rfl (App.own (HH.out.alloc _)) ⟨w.heap.size, 0, none⟩ 1 1 [.int .u8 ((np : Int) - 1)] rfl hz rfl (cell_new1 _ _ _) (one1 rfl) (by unfold maxLen; omega) (by omega) (by simp; omega) ?_; intro v1 w1 hown1 hg1 hat1; have hg1' := grown_alloc hg1; have hat1' := hat1.alloc; have hp1 := keep_apart HAP.out HP.out hg1'; clear hg1 hat1)
      | (at_builtin; refine wpList_join _ rfl (.tmp 16) (.tmp 17) _ rfl base 5 i0 (.int .u8 0) 1 1 Try.underlying27 HI.out HZ0.out HZ1.out HZ2.out rfl hz _ (ys.length + 1) _ rfl hown1 w1.heap.size Ap np cp (ps.map bv) rfl (Lies.ofOwn hp1) HOP.out (bv_one _) (by unfold maxLen; omega) (by omega) (by have := hg1'.size; omega) ?_; intro v2 w2 hown2 hg2 hat2))
    go_ret
    have hbv : Value.int .u8 ((np : Int) - 1) = bv (UInt8.ofNat (np - 1)) := by
      unfold bv
      rw [ofNat_toNat_lt (by omega)]
      congr 1
      omega
    have hlit : ys ++ litB ps = (ys ++ [UInt8.ofNat (np - 1)]) ++ ps := by
      unfold litB
      rw [if_pos (by rw [← HNP.out]; omega), ← HNP.out]
      simp
    have hlen : (ys ++ litB ps).length = ys.length + 1 + np := by
      rw [hlit]
      have := HNP.out
      simp
      omega
    refine ⟨v2, rfl, ?_, grownBy_trans hg1' hg2 hat1', hat1'.trans hat2 hg1'.size⟩
    rw [hlen, hlit, List.map_append, List.map_append]
    rw [hbv] at hown2
    exact hown2

set_option maxRecDepth 100000 in
set_option maxHeartbeats 3200000 in
theorem packR_any (A : Option Addr) (n c B : Nat) (xs : Bytes) (w : World) (hLie : Lies w B 1 A n (xs.map bv)) (hB : B ≤ w.heap.size) (hnc : n ≤ c) (hn : n ≤ 1000000000) (base : Nat) (hbase : base ≤ w.heap.size) :
    Calls Try.prog 45 #[.slice A n c] w fun e w' => ∃ v', e = .returned v' ∧ w'.ownsRow base 5 1 v' (pack xs).length ((pack xs).map bv) ∧ w.grownBy w' none ∧ At w none v'.ownBlock := by
  have HL := Lib.hid hLie.lenB
  have hpb := pack_bounded xs
  have hln : xs.length = n := HL.out
  have hpn : (pack xs).length ≤ 3000000000 := by omega
  obtain ⟨i0, hi, hz0, hz1, hz2⟩ := info_parts info_u8
  have HI := Lib.hid hi
  have HZ0 := Lib.hid hz0
  have HZ1 := Lib.hid hz1
  have HZ2 := Lib.hid hz2
  clear hi hz0 hz1 hz2 hln hpb
  have hz : (0 : Nat) < 1 := by omega
  go_enter Try.func45, Try.ntmps45
  go_wp2_with fail
  go_loopw [3, 4, 5, 6, 7] (fun v pv iv _ _ wr => ∃ (i f : Nat) (ys : Bytes) (vv pp : Value), vv = v ∧ pp = pv ∧ iv = .int .i64 (i : Int) ∧ i ≤ n ∧ f ≤ i ∧ i - f < 128 ∧ wr.ownsRow base 5 1 vv ys.length (ys.map bv) ∧
      wr.ownsRow base 5 1 pp (i - f) (((xs.take i).drop f).map bv) ∧ Apart vv pp ∧ w.grownBy wr none ∧ At w none vv.ownBlock ∧ At w none pp.ownBlock ∧ ys ++ pk xs f i = pack xs) (fun _ _ iv _ _ _ => n - (intOf iv).toNat)
  case atStart => exact ⟨0, 0, [], _, _, rfl, rfl, rfl, Nat.zero_le _, Nat.zero_le _, by omega, World.ownsRow_nil _ _ _ _, World.ownsRow_nil _ _ _ _, Apart.nil _, World.grownBy.refl w none, .inl rfl, .inl rfl, rfl⟩
  case round =>
    obtain ⟨i, f, ys, vv, pp, rfl, rfl, rfl, hin, hfi, h128, hv, hp, hap, hgr, hatv, hatp, heq⟩ := hrel
    have hyl : ys.length ≤ 3000000000 := by
      have := congrArg List.length heq
      rw [List.length_append] at this
      omega
    have hbw : base ≤ wr.heap.size := Nat.le_trans hbase hgr.size
    have hpl : ((xs.take i).drop f).length = i - f := by have := HL.out; simp; omega
    have LB := hLie.grown hgr hB (fun g hg => nomatch hg)
    obtain ⟨Av, cv, hvv, _, _, hlv, _⟩ := own_slice hv
    obtain ⟨Ap, cp, hpv, _, _, hlp, hop⟩ := own_slice hp
    have hp' : wr.ownsRow base 5 1 pp ((xs.take i).drop f).length (((xs.take i).drop f).map bv) := by rw [hpl]; exact hp
    have CL := Lib.hid (fun (W : World) (hW : wr.grownBy W none) => literal_any base vv pp ys ((xs.take i).drop f) W (own_keep hv hW (fun g _ e => nomatch e)) (own_keep hp' hW (fun g _ e => nomatch e)) hap (by rw [hpl]; omega) (by omega) (Nat.le_trans hbw hW.size))
    subst hvv hpv
    have HE := Lib.hid heq
    have HV := Lib.hid hv
    have HP := Lib.hid hp
    have HAP := Lib.hid hap
    have HLP := Lib.hid (litB_lit (b := xs) (f := f) (e := i) hfi (by rw [HL.out]; exact hin))
    clear heq hv hp hap hp' hpl hlv hlp hop
    by_cases hlt : i < n
    · have CM := Lib.hid (matchR_any A n c B xs i wr LB hin (by omega))
      obtain ⟨S, D, hSD⟩ : ∃ S D, bestAt xs i = (S, D) := ⟨_, _, rfl⟩
      have HSD := Lib.hid hSD
      by_cases h3 : 3 ≤ S
      · have hbr : bestR xs i = (S, D) := by unfold bestR; rw [hSD]; exact if_neg (by simp only; omega)
        rw [hbr] at CM
        obtain ⟨b1, b2, b3, b4, b5, _⟩ := bestAt_copy (b := xs) (i := i) (by rw [HL.out]; exact hlt) (by rw [HSD.out]; exact h3)
        rw [HSD.out] at b1 b2 b3 b4 b5
        rw [HL.out] at b5
        simp only at b1 b2 b3 b4 b5
        have HPK := Lib.hid (pk_copy (b := xs) (f := f) (i := i) (by rw [HL.out]; exact hlt) (by rw [HSD.out]; exact h3))
        clear hSD hbr
        go_wp2_with (first
          | (go_at_call 71; refine CM.out.mono ?_; rintro e w1 ⟨rfl, q, rfl⟩))
        refine (CL.out _ (grown_toDrewN (World.grownBy.refl wr none) q)).mono ?_
        rintro e w2 ⟨v2, rfl, hown2, hg2, hat2⟩
        rw [HLP.out] at hown2
        have hy2 : (ys ++ lit xs f i).length ≤ 3000000200 := by
          have h1 := lit_len xs (f := f) (e := i) hfi (by rw [HL.out]; exact hin)
          rw [List.length_append, h1]
          split <;> omega
        obtain ⟨y2, hY2⟩ : ∃ y2, y2 = ys ++ lit xs f i := ⟨_, rfl⟩
        rw [← hY2] at hown2 hy2
        have HY2 := Lib.hid hY2
        obtain ⟨A2, c2, hv2, _⟩ := own_slice hown2
        subst hv2
        have hg2' := grown_drewN hg2
        have hat2' := hat2.drewN
        have hbw2 : base ≤ w2.heap.size := Nat.le_trans hbw hg2'.size
        clear hY2 hg2 hat2
        go_wp2_with (at_builtin; refine wpList_app _ rfl (.tmp 23) (.tmp 29) _ rfl base 5 i0 (.int .u8 0) 1 1 Try.underlying27 HI.out HZ0.out HZ1.out HZ2.out rfl hz _ (Value.slice A2 y2.length c2).ownBlock y2.length (y2.map bv) rfl (App.own (hown2.alloc _)) ⟨w2.heap.size, 0, none⟩ 2 2 [.int .u8 ((S : Int) + 125), .int .u8 (D : Int)] rfl (by omega) rfl (cell_new2 _ _ _ _) (one2 rfl rfl) (by unfold maxLen; omega) (by omega) (by simp; omega) ?_; intro v3 w3 hown3 hg3 hat3)
        have hg3' := grown_alloc hg3
        have hat3' := hat3.alloc
        clear hg3 hat3
        have hown3' : w3.ownsRow base 5 1 v3 (y2 ++ [UInt8.ofNat (S + 125), UInt8.ofNat D]).length ((y2 ++ [UInt8.ofNat (S + 125), UInt8.ofNat D]).map bv) := by
          have e1 : Value.int .u8 ((S : Int) + 125) = bv (UInt8.ofNat (S + 125)) := by
            unfold bv
            rw [ofNat_toNat_lt (by omega)]
            rfl
          have e2 : Value.int .u8 (D : Int) = bv (UInt8.ofNat D) := by
            unfold bv
            rw [ofNat_toNat_lt (by omega)]
          rw [e1, e2] at hown3
          rw [List.length_append, List.map_append]
          exact hown3
        have HO3 := Lib.hid hown3'
        have hgr3 := grownBy_trans (grownBy_trans hgr hg2' hatv) hg3' (hatv.trans hat2' hgr.size)
        have hat3 := (hatv.trans hat2' hgr.size).trans hat3' (Nat.le_trans hgr.size hg2'.size)
        clear hown3 hown3' hown2
        go_roundw
        case rel =>
          refine ⟨i + S, i + S, y2 ++ [UInt8.ofNat (S + 125), UInt8.ofNat D], _, _, rfl, rfl, by go_num, by omega, by omega, by omega, HO3.out, ?_, Apart.nil _, hgr3, hat3, .inl rfl, ?_⟩
          · have h0 : (xs.take (i + S)).drop (i + S) = [] := List.drop_eq_nil_of_le (by simp; omega)
            rw [h0, Nat.sub_self]
            exact World.ownsRow_nil _ _ _ _
          · rw [← HE.out, HPK.out, HSD.out, HY2.out]
            simp
        case measure => simp [intOf]; omega
      · have hbr : bestR xs i = (0, 0) := by unfold bestR; rw [hSD]; exact if_pos (by simp only; omega)
        rw [hbr] at CM
        obtain ⟨adx, x, hA, _, hx, hcx⟩ := LB.byte hlt
        have hpn := pend_next hfi hx
        have HPN := Lib.hid hpn
        subst hA
        have hap2 : Apart (.slice Ap (i - f) cp) (.slice Av ys.length cv) := HAP.out.symm
        have HAP2 := Lib.hid hap2
        clear hSD hbr hx hpn hap2
        by_cases hfull : i + 1 - f = 128
        · have HPK := Lib.hid (pk_full (b := xs) (f := f) (i := i) (by rw [HL.out]; exact hlt) (by rw [HSD.out]; simp only; omega) hfull)
          have hbe : (((i - f : Nat) : Int) + 1 == 128) = true := by rw [beq_iff_eq]; omega
          go_wp2_with (first
            | (go_at_call 71; refine CM.out.mono ?_; rintro e w1 ⟨rfl, q, rfl⟩)
            | (at_builtin; refine wpList_app _ rfl (.tmp 34) (.tmp 39) _ rfl base 5 i0 (.int .u8 0) 1 1 Try.underlying27 HI.out HZ0.out HZ1.out HZ2.out rfl hz _ (Value.slice Ap (i - f) cp).ownBlock (i - f) (((xs.take i).drop f).map bv) rfl (App.own ((own_keep HP.out (grown_toDrewN (World.grownBy.refl wr none) q) (fun g _ e => nomatch e)).alloc _)) ⟨wr.heap.size, 0, none⟩ 1 1 [.int .u8 (x.toNat : Int)] rfl hz rfl (cell_new1 _ _ _) (one1 rfl) (by unfold maxLen; omega) (by omega) (by simp; omega) ?_; intro v3 w3 hown3 hg3 hat3; have hg3' := grown_drewN (grown_alloc hg3); have hat3' := (hat3.alloc).drewN; obtain ⟨A3, c3, hv3, _⟩ := own_slice hown3; subst hv3))
          have hpl3 : ((xs.take (i + 1)).drop f).length = i - f + 1 := by have := HL.out; simp; omega
          have hown3' : w3.ownsRow base 5 1 (.slice A3 (i - f + 1) c3) (i - f + 1) (((xs.take (i + 1)).drop f).map bv) := by
            rw [HPN.out, List.map_append]
            exact hown3
          have hvv3 := keep_apart HAP2.out HV.out hg3'
          have hap3 : Apart (.slice Av ys.length cv) (.slice A3 (i - f + 1) c3) := (HAP2.out.step HV.out hat3').symm
          have hgr3 := grownBy_trans hgr hg3' hatp
          have hatp3 := hatp.trans hat3' hgr.size
          have HW3 := Lib.hid hown3'
          have HV3 := Lib.hid hvv3
          have HAP3 := Lib.hid hap3
          have HPL3 := Lib.hid hpl3
          clear hown3 hg3 hat3 hown3' hvv3 hap3 hpl3
          refine (literal_any base _ _ ys ((xs.take (i + 1)).drop f) w3 HV3.out (by rw [HPL3.out]; exact HW3.out) HAP3.out (by rw [HPL3.out]; omega) (by omega) (by have := hgr3.size; omega)).mono ?_
          rintro e w4 ⟨v4, rfl, hown4, hg4, hat4⟩
          rw [litB_lit (b := xs) (f := f) (e := i + 1) (by omega) (by rw [HL.out]; omega)] at hown4
          have HO4 := Lib.hid hown4
          clear hown4
          have hgr4 := grownBy_trans hgr3 hg4 hatv
          have hat4' := hatv.trans hat4 hgr3.size
          go_wp2_with fail
          go_roundw
          case rel =>
            refine ⟨i + 1, i + 1, ys ++ lit xs f (i + 1), _, _, rfl, rfl, by go_num, by omega, by omega, by omega, HO4.out, ?_, Apart.nil _, hgr4, hat4', .inl rfl, ?_⟩
            · have h0 : (xs.take (i + 1)).drop (i + 1) = [] := List.drop_eq_nil_of_le (by simp; omega)
              rw [h0, Nat.sub_self]
              exact World.ownsRow_nil _ _ _ _
            · rw [← HE.out, HPK.out, List.append_assoc]
          case measure => simp [intOf]; omega
        · have HPK := Lib.hid (pk_step (b := xs) (f := f) (i := i) (by rw [HL.out]; exact hlt) (by rw [HSD.out]; simp only; omega) hfull)
          have hbe : (((i - f : Nat) : Int) + 1 == 128) = false := by rw [beq_eq_false_iff_ne]; omega
          go_wp2_with (first
            | (go_at_call 71; refine CM.out.mono ?_; rintro e w1 ⟨rfl, q, rfl⟩)
            | (at_builtin; refine wpList_app _ rfl (.tmp 34) (.tmp 39) _ rfl base 5 i0 (.int .u8 0) 1 1 Try.underlying27 HI.out HZ0.out HZ1.out HZ2.out rfl hz _ (Value.slice Ap (i - f) cp).ownBlock (i - f) (((xs.take i).drop f).map bv) rfl (App.own ((own_keep HP.out (grown_toDrewN (World.grownBy.refl wr none) q) (fun g _ e => nomatch e)).alloc _)) ⟨wr.heap.size, 0, none⟩ 1 1 [.int .u8 (x.toNat : Int)] rfl hz rfl (cell_new1 _ _ _) (one1 rfl) (by unfold maxLen; omega) (by omega) (by simp; omega) ?_; intro v3 w3 hown3 hg3 hat3; have hg3' := grown_drewN (grown_alloc hg3); have hat3' := (hat3.alloc).drewN; obtain ⟨A3, c3, hv3, _⟩ := own_slice hown3; subst hv3))
          have hpl3 : ((xs.take (i + 1)).drop f).length = i - f + 1 := by have := HL.out; simp; omega
          have hown3' : w3.ownsRow base 5 1 (.slice A3 (i - f + 1) c3) (i - f + 1) (((xs.take (i + 1)).drop f).map bv) := by
            rw [HPN.out, List.map_append]
            exact hown3
          have hvv3 := keep_apart HAP2.out HV.out hg3'
          have hap3 : Apart (.slice Av ys.length cv) (.slice A3 (i - f + 1) c3) := (HAP2.out.step HV.out hat3').symm
          have hgr3 := grownBy_trans hgr hg3' hatp
          have hatp3 := hatp.trans hat3' hgr.size
          have HW3 := Lib.hid hown3'
          have HV3 := Lib.hid hvv3
          have HAP3 := Lib.hid hap3
          have HPL3 := Lib.hid hpl3
          clear hown3 hg3 hat3 hown3' hvv3 hap3 hpl3
          go_roundw
          case rel =>
            refine ⟨i + 1, f, ys, _, _, rfl, rfl, by go_num, by omega, by omega, by omega, HV3.out, ?_, HAP3.out, hgr3, hatv, hatp3, ?_⟩
            · rw [show i + 1 - f = i - f + 1 from by omega]
              exact HW3.out
            · rw [← HE.out, HPK.out]
          case measure => simp [intOf]; omega
    · have HIN := Lib.hid (show i = n by omega)
      have HPK := Lib.hid (pk_end (b := xs) (f := f) (i := i) (by rw [HL.out]; omega))
      go_wp2_with fail
      refine (CL.out _ (World.grownBy.refl wr none)).mono ?_
      rintro e w2 ⟨v2, rfl, hown2, hg2, hat2⟩
      have hfin : ys ++ litB ((xs.take i).drop f) = pack xs := by
        rw [HLP.out, ← HE.out, HPK.out, HL.out, HIN.out]
      rw [hfin] at hown2
      have HO2 := Lib.hid hown2
      clear hown2 hfin
      go_wp2_with fail
      go_ret
      exact ⟨v2, rfl, HO2.out, grownBy_trans hgr hg2 hatv, hatv.trans hat2 hgr.size⟩
end Go.Proofs.Ytlofjhcjjcohfaa
