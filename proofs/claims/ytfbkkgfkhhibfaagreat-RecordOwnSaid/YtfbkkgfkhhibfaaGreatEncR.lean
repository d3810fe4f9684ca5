/- The walks of the reference's Pack and of its writer of a literal item (chapter 12): 'pack'. -/
import Derived.Test.YtfbkkgfkhhibfaaGreatPkP
import Derived.Test.YtfbkkgfkhhibfaaGreatOpenNum
import Derived.Test.YtfbkkgfkhhibfaaGreatAppR
namespace Go.Proofs.YtfbkkgfkhhibfaaGreat
open Go Go.RowKit Iv
set_option linter.unusedVariables false
set_option maxRecDepth 100000 in
set_option maxHeartbeats 1600000 in
theorem literal_any (base : Nat) (v pv : Value) (ys ps : Bytes) (w : World) (h : w.ownsRow base 5 1 v ys.length (ys.map bv)) (hp : w.ownsRow base 5 1 pv ps.length (ps.map bv)) (hap : Apart v pv)
    (h128 : ps.length ≤ 128) (hy : ys.length ≤ 100000000000) (hbase : base ≤ w.heap.size) :
    Calls Tryz.prog 91 #[v, pv] w fun e w' => ∃ v', e = .returned v' ∧ w'.ownsRow base 5 1 v' (ys ++ litB ps).length ((ys ++ litB ps).map bv) ∧ w.grownBy w' v.ownBlock ∧ At w v.ownBlock v'.ownBlock := by
  obtain ⟨A, c, hv, _, _, hlv, _⟩ := own_slice h
  obtain ⟨Ap, cp, hpv, _, _, hlp, hop⟩ := own_slice hp
  subst hv hpv
  obtain ⟨np, hnp⟩ : ∃ np, np = ps.length := ⟨_, rfl⟩
  rw [← hnp] at hp hap hlp h128 ⊢
  have HNP := Lib.hid hnp
  clear hnp
  by_cases h0 : np = 0
  · subst h0
    have hlit : litB ps = [] := by unfold litB; rw [if_neg (by rw [← HNP.out]; omega)]
    rw [hlit, List.append_nil]
    have HH := Lib.hid h
    clear h hp
    go_enter Tryz.func91, Tryz.ntmps91
    go_wp2_with fail
    go_ret
    exact ⟨_, rfl, HH.out, World.grownBy.refl w _, .inl rfl⟩
  · obtain ⟨i0, hi, hz0, hz1, hz2⟩ := info_parts info_u8
    have HI := Lib.hid hi
    have HZ0 := Lib.hid hz0
    have HZ1 := Lib.hid hz1
    have HZ2 := Lib.hid hz2
    clear hi hz0 hz1 hz2
    have hz : (0 : Nat) < 1 := by omega
    have hbe : ((np : Int) == 0) = false := by rw [beq_eq_false_iff_ne]; omega
    have HH := Lib.hid h
    have HP := Lib.hid hp
    have HAP := Lib.hid hap
    have HOP := Lib.hid hop
    clear h hp hap hop hlv hlp
    go_enter Tryz.func91, Tryz.ntmps91
    go_wp2_with (first
      | (at_builtin; refine wpList_app _ rfl (.tmp 9) (.tmp 14) _ rfl base 5 i0 (.int .u8 0) 1 1 Tryz.underlying22 HI.out HZ0.out HZ1.out HZ2.out rfl hz _ (Value.slice A ys.length c).ownBlock ys.length (ys.map bv) rfl (App.own (HH.out.alloc _)) ⟨w.heap.size, 0, none⟩ 1 1 [.int .u8 ((np : Int) - 1)] rfl hz rfl (cell_new1 _ _ _) (one1 rfl) (by unfold maxLen; omega) (by omega) (by simp; omega) ?_; intro v1 w1 hown1 hg1 hat1; have hg1' := grown_alloc hg1; have hat1' := hat1.alloc; have hp1 := keep_apart HAP.out HP.out hg1'; clear hg1 hat1)
      | (at_builtin; refine wpList_join _ rfl (.tmp 16) (.tmp 17) _ rfl base 5 i0 (.int .u8 0) 1 1 Tryz.underlying22 HI.out HZ0.out HZ1.out HZ2.out rfl hz _ (ys.length + 1) _ rfl hown1 w1.heap.size Ap np cp (ps.map bv) rfl (Lies.ofOwn hp1) HOP.out (bv_one _) (by unfold maxLen; omega) (by omega) (by have := hg1'.size; omega) ?_; intro v2 w2 hown2 hg2 hat2))
    go_ret
    have hbv : Value.int .u8 ((np : Int) - 1) = bv (UInt8.ofNat (np - 1)) := by
      unfold bv
      rw [ofNat_toNat_lt (by omega)]
      congr 1
      omega
    have hlit : ys ++ litB ps = (ys ++ [UInt8.ofNat (np - 1)]) ++ ps := by
      unfold litB
      rw [if_pos (by rw [← HNP.out]; omega), ← HNP.out]
      simp
    have hlen : (ys ++ litB ps).length = ys.length + 1 + np := by
      rw [hlit]
      have := HNP.out
      simp
      omega
    refine ⟨v2, rfl, ?_, grownBy_trans hg1' hg2 hat1', hat1'.trans hat2 hg1'.size⟩
    rw [hlen, hlit, List.map_append, List.map_append]
    rw [hbv] at hown2
    exact hown2
set_option maxRecDepth 100000 in
set_option maxHeartbeats 3200000 in
theorem packR_any (A : Option Addr) (n c B : Nat) (xs : Bytes) (w : World) (hLie : Lies w B 1 A n (xs.map bv)) (hB : B ≤ w.heap.size) (hnc : n ≤ c) (hn : n ≤ 1000000000) (base : Nat) (hbase : base ≤ w.heap.size) :
    Calls Tryz.prog 62 #[.slice A n c] w fun e w' => ∃ v', e = .returned v' ∧ w'.ownsRow base 5 1 v' (pack xs).length ((pack xs).map bv) ∧ w.grownBy w' none ∧ At w none v'.ownBlock := by
  have HL := Lib.hid hLie.lenB
  have hpb := pack_bounded xs
  have hln : xs.length = n := HL.out
  have hpn : (pack xs).length ≤ 3000000000 := by omega
  obtain ⟨i0, hi, hz0, hz1, hz2⟩ := info_parts info_u8
  have HI := Lib.hid hi
  have HZ0 := Lib.hid hz0
  have HZ1 := Lib.hid hz1
  have HZ2 := Lib.hid hz2
  clear hi hz0 hz1 hz2 hln hpb
  have hz : (0 : Nat) < 1 := by omega
  go_enter Tryz.func62, Tryz.ntmps62
  go_wp2_with fail
  go_loopw [3, 4, 5, 6, 7] (fun v pv iv _ _ wr => ∃ (i f : Nat) (ys : Bytes) (vv pp : Value), vv = v ∧ pp = pv ∧ iv = .int .i64 (i : Int) ∧ i ≤ n ∧ f ≤ i ∧ i - f < 128 ∧ wr.ownsRow base 5 1 vv ys.length (ys.map bv) ∧
      wr.ownsRow base 5 1 pp (i - f) (((xs.take i).drop f).map bv) ∧ Apart vv pp ∧ w.grownBy wr none ∧ At w none vv.ownBlock ∧ At w none pp.ownBlock ∧ ys ++ pk xs f i = pack xs) (fun _ _ iv _ _ _ => n - (intOf iv).toNat)
  case atStart => exact ⟨0, 0, [], _, _, rfl, rfl, rfl, Nat.zero_le _, Nat.zero_le _, by omega, World.ownsRow_nil _ _ _ _, World.ownsRow_nil _ _ _ _, Apart.nil _, World.grownBy.refl w none, .inl rfl, .inl rfl, rfl⟩
  case round =>
    obtain ⟨i, f, ys, vv, pp, rfl, rfl, rfl, hin, hfi, h128, hv, hp, hap, hgr, hatv, hatp, heq⟩ := hrel
    have hyl : ys.length ≤ 3000000000 := by
      have := congrArg List.length heq
      rw [List.length_append] at this
      omega
    have hbw : base ≤ wr.heap.size := Nat.le_trans hbase hgr.size
    have hpl : ((xs.take i).drop f).length = i - f := by have := HL.out; simp; omega
    have LB := hLie.grown hgr hB (fun g hg => nomatch hg)
    obtain ⟨Av, cv, hvv, _, _, hlv, _⟩ := own_slice hv
    obtain ⟨Ap, cp, hpv, _, _, hlp, hop⟩ := own_slice hp
    have hp' : wr.ownsRow base 5 1 pp ((xs.take i).drop f).length (((xs.take i).drop f).map bv) := by rw [hpl]; exact hp
    have CL := Lib.hid (fun (W : World) (hW : wr.grownBy W none) => literal_any base vv pp ys ((xs.take i).drop f) W (own_keep hv hW (fun g _ e => nomatch e)) (own_keep hp' hW (fun g _ e => nomatch e)) hap (by rw [hpl]; omega) (by omega) (Nat.le_trans hbw hW.size))
    subst hvv hpv
    have HE := Lib.hid heq
    have HV := Lib.hid hv
    have HP := Lib.hid hp
    have HAP := Lib.hid hap
    have HLP := Lib.hid (litB_lit (b := xs) (f := f) (e := i) hfi (by rw [HL.out]; exact hin))
    clear heq hv hp hap hp' hpl hlv hlp hop
    by_cases hlt : i < n
    · have CM := Lib.hid (matchR_any A n c B xs i wr LB hin (by omega))
      obtain ⟨S, D, hSD⟩ : ∃ S D, bestAt xs i = (S, D) := ⟨_, _, rfl⟩
      have HSD := Lib.hid hSD
      by_cases h3 : 3 ≤ S
      · have hbr : bestR xs i = (S, D) := by unfold bestR; rw [hSD]; exact if_neg (by simp only; omega)
        rw [hbr] at CM
        obtain ⟨b1, b2, b3, b4, b5, _⟩ := bestAt_copy (b := xs) (i := i) (by rw [HL.out]; exact hlt) (by rw [HSD.out]; exact h3)
        rw [HSD.out] at b1 b2 b3 b4 b5
        rw [HL.out] at b5
        simp only at b1 b2 b3 b4 b5
        have HPK := Lib.hid (pk_copy (b := xs) (f := f) (i := i) (by rw [HL.out]; exact hlt) (by rw [HSD.out]; exact h3))
        clear hSD hbr
        go_wp2_with (first
          | (go_at_call 90; refine CM.out.mono ?_; rintro e w1 ⟨rfl, q, rfl⟩))
        refine (CL.out _ (grown_toDrewN (World.grownBy.refl wr none) q)).mono ?_
        rintro e w2 ⟨v2, rfl, hown2, hg2, hat2⟩
        rw [HLP.out] at hown2
        have hy2 : (ys ++ lit xs f i).length ≤ 3000000200 := by
          have h1 := lit_len xs (f := f) (e := i) hfi (by rw [HL.out]; exact hin)
          rw [List.length_append, h1]
          split <;> omega
        obtain ⟨y2, hY2⟩ : ∃ y2, y2 = ys ++ lit xs f i := ⟨_, rfl⟩
        rw [← hY2] at hown2 hy2
        have HY2 := Lib.hid hY2
        obtain ⟨A2, c2, hv2, _⟩ := own_slice hown2
        subst hv2
        have hg2' := grown_drewN hg2
        have hat2' := hat2.drewN
        have hbw2 : base ≤ w2.heap.size := Nat.le_trans hbw hg2'.size
        clear hY2 hg2 hat2
        go_wp2_with (at_builtin; refine wpList_app _ rfl (.tmp 23) (.tmp 29) _ rfl base 5 i0 (.int .u8 0) 1 1 Tryz.underlying22 HI.out HZ0.out HZ1.out HZ2.out rfl hz _ (Value.slice A2 y2.length c2).ownBlock y2.length (y2.map bv) rfl (App.own (hown2.alloc _)) ⟨w2.heap.size, 0, none⟩ 2 2 [.int .u8 ((S : Int) + 125), .int .u8 (D : Int)] rfl (by omega) rfl (cell_new2 _ _ _ _) (one2 rfl rfl) (by unfold maxLen; omega) (by omega) (by simp; omega) ?_; intro v3 w3 hown3 hg3 hat3)
        have hg3' := grown_alloc hg3
        have hat3' := hat3.alloc
        clear hg3 hat3
        have hown3' : w3.ownsRow base 5 1 v3 (y2 ++ [UInt8.ofNat (S + 125), UInt8.ofNat D]).length ((y2 ++ [UInt8.ofNat (S + 125), UInt8.ofNat D]).map bv) := by
          have e1 : Value.int .u8 ((S : Int) + 125) = bv (UInt8.ofNat (S + 125)) := by
            unfold bv
            rw [ofNat_toNat_lt (by omega)]
            rfl
          have e2 : Value.int .u8 (D : Int) = bv (UInt8.ofNat D) := by
            unfold bv
            rw [ofNat_toNat_lt (by omega)]
          rw [e1, e2] at hown3
          rw [List.length_append, List.map_append]
          exact hown3
        have HO3 := Lib.hid hown3'
        have hgr3 := grownBy_trans (grownBy_trans hgr hg2' hatv) hg3' (hatv.trans hat2' hgr.size)
        have hat3 := (hatv.trans hat2' hgr.size).trans hat3' (Nat.le_trans hgr.size hg2'.size)
        clear hown3 hown3' hown2
        go_roundw
        case rel =>
          refine ⟨i + S, i + S, y2 ++ [UInt8.ofNat (S + 125), UInt8.ofNat D], _, _, rfl, rfl, by go_num, by omega, by omega, by omega, HO3.out, ?_, Apart.nil _, hgr3, hat3, .inl rfl, ?_⟩
          · have h0 : (xs.take (i + S)).drop (i + S) = [] := List.drop_eq_nil_of_le (by simp; omega)
            rw [h0, Nat.sub_self]
            exact World.ownsRow_nil _ _ _ _
          · rw [← HE.out, HPK.out, HSD.out, HY2.out]
            simp
        case measure => simp [intOf]; omega
      · have hbr : bestR xs i = (0, 0) := by unfold bestR; rw [hSD]; exact if_pos (by simp only; omega)
        rw [hbr] at CM
        obtain ⟨adx, x, hA, _, hx, hcx⟩ := LB.byte hlt
        have hpn := pend_next hfi hx
        have HPN := Lib.hid hpn
        subst hA
        have hap2 : Apart (.slice Ap (i - f) cp) (.slice Av ys.length cv) := HAP.out.symm
        have HAP2 := Lib.hid hap2
        clear hSD hbr hx hpn hap2
        by_cases hfull : i + 1 - f = 128
        · have HPK := Lib.hid (pk_full (b := xs) (f := f) (i := i) (by rw [HL.out]; exact hlt) (by rw [HSD.out]; simp only; omega) hfull)
          have hbe : (((i - f : Nat) : Int) + 1 == 128) = true := by rw [beq_iff_eq]; omega
          go_wp2_with (first
            | (go_at_call 90; refine CM.out.mono ?_; rintro e w1 ⟨rfl, q, rfl⟩)
            | (at_builtin; refine wpList_app _ rfl (.tmp 34) (.tmp 39) _ rfl base 5 i0 (.int .u8 0) 1 1 Tryz.underlying22 HI.out HZ0.out HZ1.out HZ2.out rfl hz _ (Value.slice Ap (i - f) cp).ownBlock (i - f) (((xs.take i).drop f).map bv) rfl (App.own ((own_keep HP.out (grown_toDrewN (World.grownBy.refl wr none) q) (fun g _ e => nomatch e)).alloc _)) ⟨wr.heap.size, 0, none⟩ 1 1 [.int .u8 (x.toNat : Int)] rfl hz rfl (cell_new1 _ _ _) (one1 rfl) (by unfold maxLen; omega) (by omega) (by simp; omega) ?_; intro v3 w3 hown3 hg3 hat3; have hg3' := grown_drewN (grown_alloc hg3); have hat3' := (hat3.alloc).drewN; obtain ⟨A3, c3, hv3, _⟩ := own_slice hown3; subst hv3))
          have hpl3 : ((xs.take (i + 1)).drop f).length = i - f + 1 := by have := HL.out; simp; omega
          have hown3' : w3.ownsRow base 5 1 (.slice A3 (i - f + 1) c3) (i - f + 1) (((xs.take (i + 1)).drop f).map bv) := by
            rw [HPN.out, List.map_append]
            exact hown3
          have hvv3 := keep_apart HAP2.out HV.out hg3'
          have hap3 : Apart (.slice Av ys.length cv) (.slice A3 (i - f + 1) c3) := (HAP2.out.step HV.out hat3').symm
          have hgr3 := grownBy_trans hgr hg3' hatp
          have hatp3 := hatp.trans hat3' hgr.size
          have HW3 := Lib.hid hown3'
          have HV3 := Lib.hid hvv3
          have HAP3 := Lib.hid hap3
          have HPL3 := Lib.hid hpl3
          clear hown3 hg3 hat3 hown3' hvv3 hap3 hpl3
          refine (literal_any base _ _ ys ((xs.take (i + 1)).drop f) w3 HV3.out (by rw [HPL3.out]; exact HW3.out) HAP3.out (by rw [HPL3.out]; omega) (by omega) (by have := hgr3.size; omega)).mono ?_
          rintro e w4 ⟨v4, rfl, hown4, hg4, hat4⟩
          rw [litB_lit (b := xs) (f := f) (e := i + 1) (by omega) (by rw [HL.out]; omega)] at hown4
          have HO4 := Lib.hid hown4
          clear hown4
          have hgr4 := grownBy_trans hgr3 hg4 hatv
          have hat4' := hatv.trans hat4 hgr3.size
          go_wp2_with fail
          go_roundw
          case rel =>
            refine ⟨i + 1, i + 1, ys ++ lit xs f (i + 1), _, _, rfl, rfl, by go_num, by omega, by omega, by omega, HO4.out, ?_, Apart.nil _, hgr4, hat4', .inl rfl, ?_⟩
            · have h0 : (xs.take (i + 1)).drop (i + 1) = [] := List.drop_eq_nil_of_le (by simp; omega)
              rw [h0, Nat.sub_self]
              exact World.ownsRow_nil _ _ _ _
            · rw [← HE.out, HPK.out, List.append_assoc]
          case measure => simp [intOf]; omega
        · have HPK := Lib.hid (pk_step (b := xs) (f := f) (i := i) (by rw [HL.out]; exact hlt) (by rw [HSD.out]; simp only; omega) hfull)
          have hbe : (((i - f : Nat) : Int) + 1 == 128) = false := by rw [beq_eq_false_iff_ne]; omega
          go_wp2_with (first
            | (go_at_call 90; refine CM.out.mono ?_; rintro e w1 ⟨rfl, q, rfl⟩)
            | (at_builtin; refine wpList_app _ rfl (.tmp 34) (.tmp 39) _ rfl base 5 i0 (.int .u8 0) 1 1 Tryz.underlying22 HI.out HZ0.out HZ1.out HZ2.out rfl hz _ (Value.slice Ap (i - f) cp).ownBlock (i - f) (((xs.take i).drop f).map bv) rfl (App.own ((own_keep HP.out (grown_toDrewN (World.grownBy.refl wr none) q) (fun g _ e => nomatch e)).alloc _)) ⟨wr.heap.size, 0, none⟩ 1 1 [.int .u8 (x.toNat : Int)] rfl hz rfl (cell_new1 _ _ _) (one1 rfl) (by unfold maxLen; omega) (by omega) (by simp; omega) ?_; intro v3 w3 hown3 hg3 hat3; have hg3' := grown_drewN (grown_alloc hg3); have hat3' := (hat3.alloc).drewN; obtain ⟨A3, c3, hv3, _⟩ := own_slice hown3; subst hv3))
          have hpl3 : ((xs.take (i + 1)).drop f).length = i - f + 1 := by have := HL.out; simp; omega
          have hown3' : w3.ownsRow base 5 1 (.slice A3 (i - f + 1) c3) (i - f + 1) (((xs.take (i + 1)).drop f).map bv) := by
            rw [HPN.out, List.map_append]
            exact hown3
          have hvv3 := keep_apart HAP2.out HV.out hg3'
          have hap3 : Apart (.slice Av ys.length cv) (.slice A3 (i - f + 1) c3) := (HAP2.out.step HV.out hat3').symm
          have hgr3 := grownBy_trans hgr hg3' hatp
          have hatp3 := hatp.trans hat3' hgr.size
          have HW3 := Lib.hid hown3'
          have HV3 := Lib.hid hvv3
          have HAP3 := Lib.hid hap3
          have HPL3 := Lib.hid hpl3
          clear hown3 hg3 hat3 hown3' hvv3 hap3 hpl3
          go_roundw
          case rel =>
            refine ⟨i + 1, f, ys, _, _, rfl, rfl, by go_num, by omega, by omega, by omega, HV3.out, ?_, HAP3.out, hgr3, hatv, hatp3, ?_⟩
            · rw [show i + 1 - f = i - f + 1 from by omega]
              exact HW3.out
            · rw [← HE.out, HPK.out]
          case measure => simp [intOf]; omega
    · have HIN := Lib.hid (show i = n by omega)
      have HPK := Lib.hid (pk_end (b := xs) (f := f) (i := i) (by rw [HL.out]; omega))
      go_wp2_with fail
      refine (CL.out _ (World.grownBy.refl wr none)).mono ?_
      rintro e w2 ⟨v2, rfl, hown2, hg2, hat2⟩
      have hfin : ys ++ litB ((xs.take i).drop f) = pack xs := by
        rw [HLP.out, ← HE.out, HPK.out, HL.out, HIN.out]
      rw [hfin] at hown2
      have HO2 := Lib.hid hown2
      clear hown2 hfin
      go_wp2_with fail
      go_ret
      exact ⟨v2, rfl, HO2.out, grownBy_trans hgr hg2 hatv, hatv.trans hat2 hgr.size⟩
end Go.Proofs.YtfbkkgfkhhibfaaGreat

/- The walks of the reference's Payload and Encode (chapter 13). -/
namespace Go.Proofs.YtfbkkgfkhhibfaaGreat
open Go Go.RowKit Iv
set_option linter.unusedVariables false
set_option maxRecDepth 100000 in
set_option maxHeartbeats 3200000 in
theorem payloadR_any (x : Blk) (A : Option Addr) (n c B : Nat) (w : World) (h : Recs w B A n x.recs) (hB : B ≤ w.heap.size) (hrec : ∀ r ∈ x.recs, RecOk r) (hn : n ≤ 64) (base : Nat) (hbase : base ≤ w.heap.size) :
    Calls Tryz.prog 61 #[.agg #[.int .i64 x.thread, .int .i64 x.first, .slice A n c]] w fun e w' => ∃ A' n' c', e = .returned (.slice A' n' c') ∧ OutR w base A' n' c' (putRecs (-1) x.recs) w' := by
  have HL := Lib.hid h.1
  obtain ⟨W, hW⟩ : ∃ W, W = w.alloc (.cells #[.int .i64 x.thread, .int .i64 x.first, .slice A n c] 50) := ⟨_, rfl⟩
  have hWg : w.grownBy W none := by rw [hW]; exact World.grownBy_alloc w _ none
  have hb0 : Held W w.heap.size 50 #[.int .i64 x.thread, .int .i64 x.first, .slice A n c] := by rw [hW]; exact Held.new _ _ _
  have HW := Lib.hid hW
  have HB0 := Lib.hid hb0
  have HREC := Lib.hid hrec
  have hpl := putRecs_len x.recs (-1) hrec
  rw [h.1] at hpl
  obtain ⟨P, hP⟩ : ∃ P, P = putRecs (-1) x.recs := ⟨_, rfl⟩
  rw [← hP] at hpl
  have HP := Lib.hid hP
  have hbW : base ≤ W.heap.size := Nat.le_trans hbase hWg.size
  have hRW := h.grown hWg hB (fun _ e => nomatch e)
  have hBW : B ≤ W.heap.size := Nat.le_trans hB hWg.size
  clear hW hb0 hP hrec
  go_enter Tryz.func61, Tryz.ntmps61
  go_wp2_with fail
  rw [show w.alloc (.cells #[.int .i64 x.thread, .int .i64 x.first, .slice A n c] 50) = W from HW.out.symm]
  go_loopw [3, 4, 5] (fun pv sv iv wr => ∃ (k : Nat) (seq : Int) (ys : Bytes) (Ap : Option Addr) (np cp : Nat), pv = .slice Ap np cp ∧ iv = .int .i64 (k : Int) ∧ k ≤ n ∧ sv = .int .i64 seq ∧ inI64 seq ∧ OutR W base Ap np cp ys wr ∧ ys ++ putRecs seq (x.recs.drop k) = P) (fun _ _ iv _ => n - (intOf iv).toNat)
  case atStart => exact ⟨0, -1, [], none, 0, 0, rfl, rfl, Nat.zero_le _, rfl, ⟨by omega, by omega⟩, ⟨⟨World.ownsRow_nil _ _ _ _, World.grownBy.refl W none, .inl rfl⟩, rfl, Nat.le_refl _, fun _ => rfl⟩, by rw [HP.out]; rfl⟩
  case round =>
    obtain ⟨k, seq, ys, Ap, np, cp, rfl, rfl, hk, rfl, hseq, hout, heq⟩ := hrel
    have HE := Lib.hid heq
    have hyl : ys.length ≤ 600000 := by
      have := congrArg List.length heq
      rw [List.length_append] at this
      omega
    have hg := hout.1.2.1
    have hnp : np = ys.length := hout.2.1
    have HNP := Lib.hid hnp
    have hnp6 : np ≤ 600000 := by omega
    have HOUT := Lib.hid hout
    have f2 : wr.cell? ⟨w.heap.size, 2, none⟩ = some (.slice A n c) := (HB0.out.grown hg (fun e => nomatch e)).cell 2
    clear heq hnp hout
    by_cases hlt : k < n
    · obtain ⟨b, o, r, Ad, nd, cd, Af, nf, cf, hA, hb, hr, hH⟩ := hRW.at hlt
      have hHr := hH.grown hb hg hBW (fun _ e => nomatch e)
      obtain ⟨c0, c1, c2, c3, c4, c5, c6, c7⟩ := hHr.all
      have hrm : r ∈ x.recs := List.mem_of_getElem? hr
      have HRO := Lib.hid (HREC.out r hrm)
      have CAP := Lib.hid (appendR_any (W0 := W) Ap np cp wr.heap.size ys r Ad nd cd Af nf cf seq wr HOUT.out.lies HOUT.out.2.2.2 (by omega) HRO.out hseq hg (hH.ld.more hBW) (hH.lf.more hBW) base hbW)
      unfold recV at CAP
      have HPD := Lib.hid (putRecs_drop hr seq)
      have HHH := Lib.hid (fun (W' : World) (hgg : W.grownBy W' none) => (hH.grown hb hgg hBW (fun _ e => nomatch e)).all.1)
      clear hH hr hHr hrm
      subst hA
      go_wp2_with fail
      refine CAP.out.mono ?_
      rintro e w3 ⟨A3, n3, k3, rfl, hO3⟩
      clear c0 c1 c2 c3 c4 c5 c6 c7 f2
      have f2 : w3.cell? ⟨w.heap.size, 2, none⟩ = some (.slice (some ⟨b, o, none⟩) n c) := (HB0.out.grown hO3.1.2.1 (fun e => nomatch e)).cell 2
      have c0 := HHH.out w3 hO3.1.2.1
      have HO3 := Lib.hid hO3
      clear hO3
      go_wp2_with fail
      go_roundw
      case rel => exact ⟨k + 1, r.seq, ys ++ putRec r seq, A3, n3, k3, rfl, by go_num, by omega, rfl, HRO.out.seq, HO3.out, by rw [← HE.out, HPD.out, List.append_assoc]⟩
      case measure => simp [intOf]; omega
    · have hyP : ys = P := by
        have e1 := HE.out
        rw [List.drop_eq_nil_of_le (by rw [HL.out]; omega), putRecs, List.append_nil] at e1
        exact e1
      have HYP := Lib.hid hyP
      clear hyP
      go_wp2_with fail
      go_ret
      refine ⟨Ap, np, cp, rfl, ?_⟩
      obtain ⟨⟨q1, q2, q3⟩, q4, q5, q6⟩ := HOUT.out
      rw [← HP.out, ← HYP.out]
      exact ⟨⟨q1, grownBy_trans hWg q2 (.inl rfl), (At.refl w none).trans q3 hWg.size⟩, q4, q5, q6⟩
set_option maxRecDepth 100000 in
set_option maxHeartbeats 3200000 in
theorem encodeR_any (x : Blk) (A : Option Addr) (n c B : Nat) (w : World) (h : Recs w B A n x.recs) (hB : B ≤ w.heap.size) (hin : ∀ r ∈ x.recs, RecNums r) (base : Nat) (hbase : base ≤ w.heap.size) :
    Calls Tryz.prog 37 #[.agg #[.int .i64 x.thread, .int .i64 x.first, .slice A n c]] w (EncOut w base x) := by
  have HL := Lib.hid h.1
  obtain ⟨W, hW⟩ : ∃ W, W = w.alloc (.cells #[.int .i64 x.thread, .int .i64 x.first, .slice A n c] 50) := ⟨_, rfl⟩
  have hWg : w.grownBy W none := by rw [hW]; exact World.grownBy_alloc w _ none
  have hb0 : Held W w.heap.size 50 #[.int .i64 x.thread, .int .i64 x.first, .slice A n c] := by rw [hW]; exact Held.new _ _ _
  have HW := Lib.hid hW
  have HB0 := Lib.hid hb0
  have hRW := h.grown hWg hB (fun _ e => nomatch e)
  have hBW : B ≤ W.heap.size := Nat.le_trans hB hWg.size
  have hbW : base ≤ W.heap.size := Nat.le_trans hbase hWg.size
  have CF := Lib.hid (fits_any x A n c B W hRW hBW)
  clear hW hb0
  by_cases hf : fits x = 0
  · obtain ⟨z0, z1, z2, z3, z4, z5, z6⟩ := fits_zero hf
    have hn64 : n ≤ 64 := by rw [← h.1]; exact z1
    have hpl := putRecs_len x.recs (-1) (recOk_of z6 hin)
    rw [h.1] at hpl
    have CPL := Lib.hid (fun (W1 : World) (hg : W.grownBy W1 none) => payloadR_any x A n c B W1 (hRW.grown hg hBW (fun _ e => nomatch e)) (Nat.le_trans hBW hg.size) (recOk_of z6 hin) hn64 base (Nat.le_trans hbW hg.size))
    obtain ⟨P, hP⟩ : ∃ P, P = putRecs (-1) x.recs := ⟨_, rfl⟩
    rw [← hP] at hpl CPL
    have HP := Lib.hid hP
    have hq := pack_bounded P
    obtain ⟨Q, hQ⟩ : ∃ Q, Q = pack P := ⟨_, rfl⟩
    rw [← hQ] at hq
    have HQ := Lib.hid hQ
    rw [hf] at CF
    have HF0 := Lib.hid hf
    clear hP hQ z0 z1 z6 hin hf
    have hpl6 : P.length ≤ 600000 := by omega
    have hql7 : Q.length ≤ 700000 := by omega
    clear hq hpl
    obtain ⟨i0, hi, hz0, hz1, hz2⟩ := info_parts info_u8
    have HI := Lib.hid hi
    have HZ0 := Lib.hid hz0
    have HZ1 := Lib.hid hz1
    have HZ2 := Lib.hid hz2
    have hz : (0 : Nat) < 1 := by omega
    clear hi hz0 hz1 hz2
    go_enter Tryz.func37, Tryz.ntmps37
    go_wp2_with fail
    rw [show w.alloc (.cells #[.int .i64 x.thread, .int .i64 x.first, .slice A n c] 50) = W from HW.out.symm]
    refine CF.out.mono ?_
    rintro e w1 ⟨rfl, hg1⟩
    have f0 : w1.cell? ⟨w.heap.size, 0, none⟩ = some (.int .i64 x.thread) := (HB0.out.grown hg1 (fun e => nomatch e)).cell 0
    have f1 : w1.cell? ⟨w.heap.size, 1, none⟩ = some (.int .i64 x.first) := (HB0.out.grown hg1 (fun e => nomatch e)).cell 1
    have f2 : w1.cell? ⟨w.heap.size, 2, none⟩ = some (.slice A n c) := (HB0.out.grown hg1 (fun e => nomatch e)).cell 2
    go_wp2_with fail
    clear f0 f1 f2
    refine (CPL.out w1 hg1).mono ?_
    rintro e w2 ⟨A2, n2, c2, rfl, hO2⟩
    have hg2 := grownBy_trans hg1 hO2.1.2.1 (.inl rfl)
    have hn2 : n2 = P.length := hO2.2.1
    have CPK := Lib.hid (packR_any A2 n2 c2 w2.heap.size P w2 hO2.lies (Nat.le_refl _) hO2.2.2.1 (by omega) base (Nat.le_trans hbW hg2.size))
    rw [← HQ.out] at CPK
    have HO2 := Lib.hid hO2
    clear hO2
    subst hn2
    go_wp2_with fail
    refine CPK.out.mono ?_
    rintro e w3 ⟨v3, rfl, hown3, hg3, hat3⟩
    obtain ⟨A3, c3, hv3, hnc3, hcm3, hl3, ho3⟩ := own_slice hown3
    subst hv3
    have HL3 := Lib.hid hl3
    have hg03 := grownBy_trans hg2 hg3 (.inl rfl)
    have hbw3 : base ≤ w3.heap.size := Nat.le_trans hbW hg03.size
    have HB3 := Lib.hid (HB0.out.grown hg03 (fun e => nomatch e))
    have f0 : w3.cell? ⟨w.heap.size, 0, none⟩ = some (.int .i64 x.thread) := HB3.out.cell 0
    have f1 : w3.cell? ⟨w.heap.size, 1, none⟩ = some (.int .i64 x.first) := HB3.out.cell 1
    have fz : w.heap.size < w3.heap.size := HB3.out.lt
    have O0 : (w3.alloc (.cells #[.int .u8 84, .int .u8 x.thread] 5)).ownsRow base 5 1 (.slice (some ⟨w3.heap.size, 0, none⟩) 2 2) 2 (([84, UInt8.ofNat (x.thread % 256).toNat] : Bytes).map bv) := by
      rw [← head_cells x.thread ⟨by omega, by omega⟩]
      exact own_lit w3 base 5 [.int .u8 84, .int .u8 x.thread] hbw3 (by unfold maxLen; simp)
    obtain ⟨y0, hy0⟩ : ∃ y, y = ([84, UInt8.ofNat (x.thread % 256).toNat] : Bytes) := ⟨_, rfl⟩
    have hy0l : y0.length = 2 := by rw [hy0]; rfl
    rw [← hy0] at O0
    have HY0 := Lib.hid hy0
    have C0 := Lib.hid (putR_any (some ⟨w3.heap.size, 0, none⟩) 2 2 _ y0 x.first _ (Lies.ofOwn O0) (fun e => nomatch e) ⟨by omega, by omega⟩ (by omega) base (Nat.le_trans hbw3 (World.grownBy_alloc w3 _ none).size))
    have GL := Lib.hid (World.grownBy_alloc w3 (.cells #[.int .u8 84, .int .u8 x.thread] 5) none)
    have q1 := putI_len (n := x.first) ⟨by omega, by omega⟩
    have q2 := putI_len (n := (n : Int)) ⟨by omega, by omega⟩
    have q3 := putI_len (n := (P.length : Int)) ⟨by omega, by omega⟩
    have q4 := putI_len (n := (Q.length : Int)) ⟨by omega, by omega⟩
    clear hown3 hl3 O0 hy0
    go_wp2_with fail
    clear f0 f1
    refine C0.out.mono ?_
    rintro e w4 ⟨v4, rfl, hown4, hg4, hat4⟩
    have hg34 : w3.grownBy w4 none := grownBy_trans GL.out hg4 (.inl rfl)
    obtain ⟨y1, hy1⟩ : ∃ y, y = y0 ++ putI x.first := ⟨_, rfl⟩
    have hy1l : y1.length ≤ 12 := by rw [hy1, List.length_append]; omega
    rw [← hy1] at hown4
    have HY1 := Lib.hid hy1
    obtain ⟨A4, c4, hv4, hnc4, hcm4, hl4, ho4⟩ := own_slice hown4
    subst hv4
    have f2 : w4.cell? ⟨w.heap.size, 2, none⟩ = some (.slice A n c) := (HB3.out.grown hg34 (fun e => nomatch e)).cell 2
    have C1 := Lib.hid (putR_any A4 y1.length c4 _ y1 (n : Int) w4 hl4 ho4 ⟨by omega, by omega⟩ (by omega) base (Nat.le_trans hbw3 hg34.size))
    clear hown4 hl4 hy1
    go_wp2_with fail
    clear f2
    refine C1.out.mono ?_
    rintro e w5 ⟨v5, rfl, hown5, hg5, hat5⟩
    have hg35 := grownBy_trans hg34 hg5 (.inl rfl)
    obtain ⟨y2, hy2⟩ : ∃ y, y = y1 ++ putI (n : Int) := ⟨_, rfl⟩
    have hy2l : y2.length ≤ 22 := by rw [hy2, List.length_append]; omega
    rw [← hy2] at hown5
    have HY2 := Lib.hid hy2
    obtain ⟨A5, c5, hv5, hnc5, hcm5, hl5, ho5⟩ := own_slice hown5
    subst hv5
    have C2 := Lib.hid (putR_any A5 y2.length c5 _ y2 (P.length : Int) w5 hl5 ho5 ⟨by omega, by omega⟩ (by omega) base (Nat.le_trans hbw3 hg35.size))
    clear hown5 hl5 hy2
    go_wp2_with fail
    refine C2.out.mono ?_
    rintro e w6 ⟨v6, rfl, hown6, hg6, hat6⟩
    have hg36 := grownBy_trans hg35 hg6 (.inl rfl)
    obtain ⟨y3, hy3⟩ : ∃ y, y = y2 ++ putI (P.length : Int) := ⟨_, rfl⟩
    have hy3l : y3.length ≤ 32 := by rw [hy3, List.length_append]; omega
    rw [← hy3] at hown6
    have HY3 := Lib.hid hy3
    obtain ⟨A6, c6, hv6, hnc6, hcm6, hl6, ho6⟩ := own_slice hown6
    subst hv6
    have C3 := Lib.hid (putR_any A6 y3.length c6 _ y3 (Q.length : Int) w6 hl6 ho6 ⟨by omega, by omega⟩ (by omega) base (Nat.le_trans hbw3 hg36.size))
    clear hown6 hl6 hy3
    go_wp2_with fail
    refine C3.out.mono ?_
    rintro e w7 ⟨v7, rfl, hown7, hg7, hat7⟩
    have hg37 := grownBy_trans hg36 hg7 (.inl rfl)
    obtain ⟨y4, hy4⟩ : ∃ y, y = y3 ++ putI (Q.length : Int) := ⟨_, rfl⟩
    have hy4l : y4.length ≤ 42 := by rw [hy4, List.length_append]; omega
    rw [← hy4] at hown7
    have hhead : y4 = headBytes x.thread x.first n P.length Q.length := by
      rw [hy4, HY3.out, HY2.out, HY1.out, HY0.out]
      unfold headBytes
      simp only [List.append_assoc, List.cons_append, List.nil_append]
    have HHEAD := Lib.hid hhead
    have hbw7 : base ≤ w7.heap.size := Nat.le_trans hbw3 hg37.size
    have LQ := Lib.hid (HL3.out.grown hg37 (Nat.le_refl _) (fun _ e => nomatch e))
    clear q1 q2 q3 q4 hy4 hhead
    go_wp2_with (at_builtin; refine wpList_join _ rfl (.tmp 39) (.tmp 40) _ rfl base 5 i0 (.int .u8 0) 1 1 Tryz.underlying22 HI.out HZ0.out HZ1.out HZ2.out rfl hz _ y4.length (y4.map bv) rfl hown7 w3.heap.size A3 Q.length c3 (Q.map bv) rfl LQ.out ho3 (bv_one _) (by unfold maxLen; omega) (by omega) hbw7 ?_; intro v8 w8 hown8 hg8 hat8; rw [← List.map_append] at hown8; obtain ⟨A8, c8, hv8, hnc8, hcm8, hl8, ho8⟩ := own_slice hown8; subst hv8)
    have hW3 : w.grownBy w3 none := grownBy_trans hWg hg03 (.inl rfl)
    have hat37 : At w3 none v7.ownBlock := (At.refl w3 none).trans hat7 hg36.size
    have hg38 : w3.grownBy w8 none := grownBy_trans hg37 hg8 hat37
    have hg08 := grownBy_trans hW3 hg38 (.inl rfl)
    have HAT8 := Lib.hid ((At.refl w none).trans (hat37.trans hat8 hg37.size) hW3.size)
    have hbody : y4 ++ Q = blkBody x := by
      rw [HHEAD.out, HQ.out, HP.out]
      unfold blkBody
      rw [HL.out]
    have hbl : (blkBody x).length = y4.length + Q.length := by rw [← hbody, List.length_append]
    rw [hbody] at hown8 hl8
    have HO8 := Lib.hid hown8
    obtain ⟨s1, s2, s3, s4, hs4⟩ := sum4_parts (crc (blkBody x))
    have CSB := Lib.hid (sumR_any A8 (y4.length + Q.length) c8 (blkBody x) w8 w8.heap.size hl8 (by omega))
    have hcl := crc_lt (blkBody x)
    have hsc := sum4_cells (crc (blkBody x)) hcl
    rw [hs4] at hsc
    obtain ⟨s, hs⟩ : ∃ s, s = crc (blkBody x) := ⟨_, rfl⟩
    rw [← hs] at CSB hcl hsc hs4
    have HS := Lib.hid hs
    have HS4 := Lib.hid hs4
    have HSC := Lib.hid hsc
    have HBL := Lib.hid hbl
    have hb8 : base ≤ w8.heap.size := Nat.le_trans hbw7 hg8.size
    clear hown8 hl8 hs4 hs hsc hbody hbl hown7 hat7 hat37
    refine CSB.out.mono ?_
    rintro e w9 ⟨rfl, rfl⟩
    have LS := Lib.hid (lies_held (T := 5) (xs := ([s1, s2, s3, s4] : Bytes).map bv) (Held.new w8 _ _))
    rw [← HSC.out] at LS
    have O8 := Lib.hid (HO8.out.alloc (.cells #[.int .u8 ((s : Int) / 16777216), .int .u8 ((s : Int) / 65536 % 256), .int .u8 ((s : Int) / 256 % 256), .int .u8 ((s : Int) % 256)] 5))
    go_wp2_with (at_builtin; refine wpList_join _ rfl (.tmp 44) (.tmp 56) _ rfl base 5 i0 (.int .u8 0) 1 1 Tryz.underlying22 HI.out HZ0.out HZ1.out HZ2.out rfl hz _ (y4.length + Q.length) ((blkBody x).map bv) rfl O8.out (w8.heap.size + 1) (some ⟨w8.heap.size, 0, none⟩) 4 4 (([s1, s2, s3, s4] : Bytes).map bv) rfl LS.out (fun e => nomatch e) (bv_one _) (by unfold maxLen; omega) (by omega) (by simp; omega) ?_; intro v10 w10 hown10 hg10 hat10; rw [← List.map_append] at hown10)
    go_ret2
    have henc := encode_good HF0.out
    refine ⟨v10, by rw [henc]; rfl, ?_, grownBy_trans (grownBy_trans hg08 (World.grownBy_alloc w8 _ none) (.inl rfl)) hg10 HAT8.out⟩
    rw [henc]
    show w10.ownsRow base 5 1 v10 (blkBytes x).length ((blkBytes x).map bv)
    unfold blkBytes
    rw [← HS.out, HS4.out, List.length_append, HBL.out]
    exact hown10
  · obtain ⟨er, her⟩ : ∃ er, er = fits x := ⟨_, rfl⟩
    rw [← her] at CF hf
    have HF := Lib.hid her.symm
    have hne : (er != 0) = true := by rw [bne_iff_ne]; exact hf
    have HNE := Lib.hid hf
    clear her hf
    go_enter Tryz.func37, Tryz.ntmps37
    go_wp2_with fail
    rw [show w.alloc (.cells #[.int .i64 x.thread, .int .i64 x.first, .slice A n c] 50) = W from HW.out.symm]
    refine CF.out.mono ?_
    rintro e w1 ⟨rfl, hg1⟩
    go_wp2_with fail
    go_ret2
    exact encOut_bad HF.out HNE.out (grownBy_trans hWg hg1 (.inl rfl))
end Go.Proofs.YtfbkkgfkhhibfaaGreat
