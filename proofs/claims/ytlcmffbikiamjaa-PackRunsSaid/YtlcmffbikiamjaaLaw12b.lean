/- The walks of PackReads, PackRoundTrip, PackCuts and PackJoins. -/
import Derived.Test.YtlcmffbikiamjaaUnP
import Derived.Test.YtlcmffbikiamjaaUnR
import Derived.Test.YtlcmffbikiamjaaLaw12a
namespace Go.Proofs.Ytlcmffbikiamjaa
open Go Go.RowKit Iv
set_option linter.unusedVariables false

theorem belDrewN {B : Nat} {w w' : World} (h : Below B w w') (q : Nat) : Below B w (w'.drewN q) := ⟨h.os, h.tape, h.output, h.size, h.block⟩
theorem belGrown {w w1 w2 : World} (h : Below w.heap.size w w1) (hg : w1.grownBy w2 none) : Below w.heap.size w w2 := h.grown hg h.size (fun k hk => by cases hk)

theorem unpackP_parts (A : Option Addr) (n c B : Nat) (xs : Bytes) (most : Int) (w : World) (hLie : Lies w B 1 A n (xs.map bv)) (hB : B ≤ w.heap.size) (hnc : n ≤ c) (hn : n ≤ 1000000000) (base : Nat) (hbase : base ≤ w.heap.size) {ys : Bytes} {er : Int} (hu : unpack xs most = (ys, er)) :
    Calls Try.prog 42 #[.slice A n c, .int .i64 most] w fun e w' => ∃ v', e = .returned (.tuple #[v', .int .i64 er]) ∧ w'.ownsRow base 5 1 v' ys.length (ys.map bv) ∧ w.grownBy w' none ∧ At w none v'.ownBlock := by
  have := unpackP_any A n c B xs most w hLie hB hnc hn base hbase
  rw [hu] at this
  exact this
theorem unpackR_parts (A : Option Addr) (n c B : Nat) (xs : Bytes) (most : Int) (w : World) (hLie : Lies w B 1 A n (xs.map bv)) (hB : B ≤ w.heap.size) (hnc : n ≤ c) (hn : n ≤ 1000000000) (hm : inI64 most) (base : Nat) (hbase : base ≤ w.heap.size) {ys : Bytes} {er : Int} (hu : unpack xs most = (ys, er)) :
    Calls Try.prog 43 #[.slice A n c, .int .i64 most] w fun e w' => ∃ v', e = .returned (.tuple #[v', .int .i64 er]) ∧ w'.ownsRow base 5 1 v' ys.length (ys.map bv) ∧ w.grownBy w' none ∧ At w none v'.ownBlock := by
  have := unpackR_any A n c B xs most w hLie hB hnc hn hm base hbase
  rw [hu] at this
  exact this

set_option maxRecDepth 100000 in
set_option maxHeartbeats 800000 in
theorem packReads_any (A : Option Addr) (n c : Nat) (xs : Bytes) (most : Int) (w : World) (h : Lies w w.heap.size 1 A n (xs.map bv)) (hnc : n ≤ c) (hcm : c ≤ maxLen) (ho : A = none → c = 0) (hm : inI64 most) :
    Calls Try.prog 13 #[.slice A n c, .int .i64 most] w fun e w' => e = .returned (.bool true) ∧ Below w.heap.size w w' := by
  unfold maxLen at hcm
  clear ho
  have HM := Lib.hid hm
  clear hm
  by_cases h3 : 3000 < n
  · go_enter Try.func13, Try.ntmps13
    go_wp2_with fail
    go_ret
    exact ⟨rfl, Below.refl _ _⟩
  · have hul := unpack_len xs most
    rw [h.lenB] at hul
    obtain ⟨ys, er, hu⟩ : ∃ ys er, unpack xs most = (ys, er) := ⟨_, _, rfl⟩
    rw [hu] at hul
    simp only at hul
    have CP := Lib.hid (unpackP_parts A n c _ xs most w h (Nat.le_refl _) hnc (by omega) w.heap.size (Nat.le_refl _) hu)
    have CR := Lib.hid (fun (w1 : World) (hb : Below w.heap.size w w1) => unpackR_parts A n c _ xs most w1 (h.below hb) hb.size hnc (by omega) HM.out w.heap.size hb.size hu)
    have hbe : (er == er) = true := by simp
    clear hu
    go_enter Try.func13, Try.ntmps13
    go_wp2_with fail
    refine CP.out.mono ?_
    rintro e w1 ⟨v1, rfl, hown, hg, hat⟩
    have hbel : Below w.heap.size w w1 := belGrown (Below.refl _ w) hg
    obtain ⟨A1, c1, hv1, _⟩ := own_slice hown
    subst hv1
    have HO1 := Lib.hid hown
    clear hown hg hat
    go_wp2_with fail
    refine (CR.out _ hbel).mono ?_
    rintro e w2 ⟨v2, rfl, hown2, hg2, hat2⟩
    have hbel2 : Below w.heap.size w w2 := belGrown hbel hg2
    obtain ⟨A2, c2, hv2, _, _, hl2, _⟩ := own_slice hown2
    subst hv2
    have hl1 := Lies.ofOwn (own_keep HO1.out hg2 (fun g _ e => nomatch e))
    have CS := Lib.hid (same_yes A1 A2 _ _ c1 c2 ys w2 _ _ hl1 hl2 (by omega) (by omega))
    clear hown2 hl2 hl1 hg2 hat2
    go_wp2_with fail
    refine CS.out.mono ?_
    rintro e w3 ⟨rfl, q, rfl⟩
    have hbq := belDrewN hbel2 q
    go_wp2_with fail
    refine (awake12_any _).mono ?_
    rintro e w4 ⟨rfl, hb4⟩
    go_wp2_with fail
    go_ret
    exact ⟨rfl, hbq.trans (hb4.mono hbel2.size)⟩

theorem pack_nil : pack [] = [] := by
  unfold pack
  rw [pk_end (by simp)]
  rfl
theorem unpack_less (xs : Bytes) : unpack (pack xs) ((xs.length : Int) - 1) = ([], if xs.length = 0 then 0 else 2) := by
  by_cases h : xs.length = 0
  · obtain rfl : xs = [] := List.eq_nil_of_length_eq_zero h
    rw [pack_nil, if_pos h]
    exact unp_nil
  · rw [if_neg h]
    exact unpack_small (by omega)

set_option maxRecDepth 100000 in
set_option maxHeartbeats 800000 in
theorem packRoundTrip_any (A : Option Addr) (n c : Nat) (xs : Bytes) (w : World) (h : Lies w w.heap.size 1 A n (xs.map bv)) (hnc : n ≤ c) (hcm : c ≤ maxLen) (ho : A = none → c = 0) :
    Calls Try.prog 14 #[.slice A n c] w fun e w' => e = .returned (.bool true) ∧ Below w.heap.size w w' := by
  unfold maxLen at hcm
  clear ho
  by_cases h3 : 3000 < n
  · go_enter Try.func14, Try.ntmps14
    go_wp2_with fail
    go_ret
    exact ⟨rfl, Below.refl _ _⟩
  · have hpb := pack_bounded xs
    have hu1 := unpack_pack xs
    have hu2 := unpack_less xs
    rw [h.lenB] at hpb hu1 hu2
    have HX := Lib.hid h.lenB
    have HU1 := Lib.hid hu1
    obtain ⟨er, her⟩ : ∃ er : Int, er = (if n = 0 then 0 else 2) := ⟨_, rfl⟩
    rw [← her] at hu2
    have HU2 := Lib.hid hu2
    have hbe : ((er == 2) == decide (0 < n)) = true := by
      by_cases h0 : n = 0
      · rw [if_pos h0] at her
        simp [her, h0]
      · rw [if_neg h0] at her
        have : 0 < n := by omega
        simp [her, this]
    have HBE := Lib.hid hbe
    have CP := Lib.hid (packP_any A n c _ xs w h (Nat.le_refl _) hnc (by omega) w.heap.size (Nat.le_refl _))
    clear hu1 hu2 her hbe
    go_enter Try.func14, Try.ntmps14
    go_wp2_with fail
    refine CP.out.mono ?_
    rintro e w1 ⟨v1, rfl, hown, hg, hat⟩
    have hbel : Below w.heap.size w w1 := belGrown (Below.refl _ w) hg
    obtain ⟨A1, c1, hv1, hnc1, _, hl1, _⟩ := own_slice hown
    subst hv1
    have HO1 := Lib.hid hown
    have CU := Lib.hid (unpackP_parts A1 _ c1 _ (pack xs) (n : Int) w1 hl1 (Nat.le_refl _) hnc1 (by omega) w.heap.size hbel.size HU1.out)
    clear hown hg hat hl1
    go_wp2_with fail
    refine CU.out.mono ?_
    rintro e w2 ⟨v2, rfl, hown2, hg2, hat2⟩
    have hbel2 : Below w.heap.size w w2 := belGrown hbel hg2
    obtain ⟨A2, c2, hv2, hnc2, _, _, _⟩ := own_slice hown2
    subst hv2
    have hl1 := Lies.ofOwn (own_keep HO1.out hg2 (fun g _ e => nomatch e))
    have HO2 := Lib.hid hown2
    have CU2 := Lib.hid (unpackP_parts A1 _ c1 _ (pack xs) ((n : Int) - 1) w2 hl1 (Nat.le_refl _) hnc1 (by omega) w.heap.size hbel2.size HU2.out)
    clear hown2 hl1 hg2 hat2
    go_wp2_with fail
    refine CU2.out.mono ?_
    rintro e w3 ⟨v3, rfl, hown3, hg3, hat3⟩
    have hbel3 : Below w.heap.size w w3 := belGrown hbel2 hg3
    obtain ⟨A3, c3, hv3, hnc3, _, _, _⟩ := own_slice hown3
    subst hv3
    have hl2 := Lies.ofOwn (own_keep HO2.out hg3 (fun g _ e => nomatch e))
    rw [HX.out] at hl2
    have CS := Lib.hid (same_yes A2 A _ _ c2 c xs w3 _ _ hl2 (h.below hbel3) (by omega) (by omega))
    clear hown3 hl2 hg3 hat3
    rw [HX.out]
    go_wp2_with fail
    refine CS.out.mono ?_
    rintro e w4 ⟨rfl, q, rfl⟩
    have hbq := belDrewN hbel3 q
    have hbe := HBE.out
    go_wp2_with fail
    refine (awake12_any _).mono ?_
    rintro e w5 ⟨rfl, hb5⟩
    go_wp2_with fail
    go_ret
    exact ⟨rfl, hbq.trans (hb5.mono hbel3.size)⟩

set_option maxRecDepth 100000 in
set_option maxHeartbeats 800000 in
theorem packCuts_any (A : Option Addr) (n c : Nat) (xs : Bytes) (cut : Int) (w : World) (h : Lies w w.heap.size 1 A n (xs.map bv)) (hnc : n ≤ c) (hcm : c ≤ maxLen) (ho : A = none → c = 0) (hcut : 0 ≤ cut ∧ cut ≤ 65535) :
    Calls Try.prog 16 #[.slice A n c, .int .u16 cut] w fun e w' => e = .returned (.bool true) ∧ Below w.heap.size w w' := by
  unfold maxLen at hcm
  clear ho
  obtain ⟨hc0, hc1⟩ := hcut
  by_cases h0 : n = 0
  · have hbe : (((n : Nat) : Int) == 0) = true := by rw [beq_iff_eq]; omega
    clear h0
    go_enter Try.func16, Try.ntmps16
    go_wp2_with fail
    go_ret
    exact ⟨rfl, Below.refl _ _⟩
  · have hbe : (((n : Nat) : Int) == 0) = false := by rw [beq_eq_false_iff_ne]; omega
    by_cases h3 : 2000 < n
    · clear h0
      go_enter Try.func16, Try.ntmps16
      go_wp2_with fail
      go_ret
      exact ⟨rfl, Below.refl _ _⟩
    · have hpb := pack_bounded xs
      have HX := Lib.hid h.lenB
      rw [h.lenB] at hpb
      have hpp := pack_ne (b := xs) (by have := HX.out; omega)
      obtain ⟨P, hP⟩ : ∃ P, P = (pack xs).length := ⟨_, rfl⟩
      have HP := Lib.hid hP
      have CP := packP_any A n c _ xs w h (Nat.le_refl _) hnc (by omega) w.heap.size (Nat.le_refl _)
      rw [← hP] at CP hpb hpp
      obtain ⟨K, hK⟩ : ∃ K : Nat, (K : Int) = cut % (P : Int) := ⟨(cut % (P : Int)).toNat, by have := Int.emod_nonneg cut (show (P : Int) ≠ 0 by omega); omega⟩
      have hKP : K < P := by
        have := Int.emod_lt_of_pos cut (show (0 : Int) < (P : Int) by omega)
        omega
      have hkk : cut % (P : Int) = (K : Int) := hK.symm
      have hbp : (((P : Nat) : Int) == 0) = false := by rw [beq_eq_false_iff_ne]; omega
      have HCP := Lib.hid CP
      obtain ⟨ys, er, hu⟩ : ∃ ys er, unpack ((pack xs).take K) (xs.length : Int) = (ys, er) := ⟨_, _, rfl⟩
      have HC := Lib.hid (unpack_cut (b := xs) (k := K) (by omega))
      rw [h.lenB] at hu
      have HU := Lib.hid hu
      clear hK hP CP h0 hu
      go_enter Try.func16, Try.ntmps16
      go_wp2_with fail
      refine HCP.out.mono ?_
      rintro e w1 ⟨v1, rfl, hown, hg, hat⟩
      have hbel : Below w.heap.size w w1 := belGrown (Below.refl _ w) hg
      obtain ⟨A1, c1, hv1, hnc1, _, hl1, _⟩ := own_slice hown
      subst hv1
      have hl2 : Lies w1 w1.heap.size 1 A1 K (((pack xs).take K).map bv) := by
        have := hl1.take (m := K) (by omega)
        rwa [Nat.mul_one, ← List.map_take] at this
      have CU := Lib.hid (unpackP_parts A1 K c1 _ ((pack xs).take K) (n : Int) w1 hl2 (Nat.le_refl _) (by omega) (by omega) w.heap.size hbel.size HU.out)
      clear hown hg hat hl1 hl2
      go_wp2_with fail
      refine CU.out.mono ?_
      rintro e w2 ⟨v2, rfl, hown2, hg2, hat2⟩
      have hbel2 : Below w.heap.size w w2 := belGrown hbel hg2
      rcases HC.out with h9 | ⟨j, hj, h9⟩
      · rw [HX.out, HU.out] at h9
        simp only [Prod.mk.injEq] at h9
        obtain ⟨rfl, rfl⟩ := h9
        obtain ⟨A2, c2, hv2, _⟩ := own_slice hown2
        subst hv2
        clear hown2 hg2 hat2
        go_wp2_with fail
        go_ret
        exact ⟨rfl, hbel2⟩
      · rw [HX.out, HU.out] at h9
        simp only [Prod.mk.injEq] at h9
        obtain ⟨rfl, rfl⟩ := h9
        have hjn : j < n := by have := HX.out; omega
        have hlj : (xs.take j).length = j := by have := HX.out; simp; omega
        rw [hlj] at hown2
        obtain ⟨A2, c2, hv2, _, _, hl2, _⟩ := own_slice hown2
        subst hv2
        have hl3 : Lies w2 w.heap.size 1 A j ((xs.take j).map bv) := by
          have := (h.below hbel2).take (m := j) (by omega)
          rwa [Nat.mul_one, ← List.map_take] at this
        have CS := Lib.hid (same_yes A2 A _ _ c2 c (xs.take j) w2 _ _ hl2 hl3 (by omega) (by omega))
        have jj : (j : Int) ≤ (n : Int) := by omega
        clear hown2 hg2 hat2 hl2 hl3
        clear hlj
        go_wp2_with fail
        refine CS.out.mono ?_
        rintro e w4 ⟨rfl, q, rfl⟩
        have hbq := belDrewN hbel2 q
        go_wp2_with fail
        go_ret
        exact ⟨rfl, hbq⟩

set_option maxRecDepth 100000 in
set_option maxHeartbeats 1600000 in
theorem packJoins_any (A : Option Addr) (n c : Nat) (xs : Bytes) (A2 : Option Addr) (n2 c2 : Nat) (ys : Bytes) (w : World) (h : Lies w w.heap.size 1 A n (xs.map bv)) (hnc : n ≤ c) (hcm : c ≤ maxLen) (ho : A = none → c = 0)
    (h2 : Lies w w.heap.size 1 A2 n2 (ys.map bv)) (hnc2 : n2 ≤ c2) (hcm2 : c2 ≤ maxLen) (ho2 : A2 = none → c2 = 0) :
    Calls Try.prog 15 #[.slice A n c, .slice A2 n2 c2] w fun e w' => e = .returned (.bool true) ∧ Below w.heap.size w w' := by
  unfold maxLen at hcm hcm2
  have HO := Lib.hid ho
  have HO2 := Lib.hid ho2
  clear ho ho2
  by_cases h3 : 1000 < n
  · go_enter Try.func15, Try.ntmps15
    go_wp2_with fail
    go_ret
    exact ⟨rfl, Below.refl _ _⟩
  · by_cases h4 : 1000 < n2
    · go_enter Try.func15, Try.ntmps15
      go_wp2_with fail
      go_ret
      exact ⟨rfl, Below.refl _ _⟩
    · have hpb := pack_bounded xs
      have hpb2 := pack_bounded ys
      have HX := Lib.hid h.lenB
      have HY := Lib.hid h2.lenB
      rw [h.lenB] at hpb
      rw [h2.lenB] at hpb2
      have hu := unpack_join xs ys
      rw [h.lenB, h2.lenB] at hu
      rw [show (((n + n2 : Nat) : Nat) : Int) = (n : Int) + (n2 : Int) from by simp] at hu
      have HU := Lib.hid hu
      obtain ⟨P, hP⟩ : ∃ P, P = (pack xs).length := ⟨_, rfl⟩
      obtain ⟨P2, hP2⟩ : ∃ P, P = (pack ys).length := ⟨_, rfl⟩
      have HP := Lib.hid hP
      have HP2 := Lib.hid hP2
      rw [← hP] at hpb
      rw [← hP2] at hpb2
      have CP := Lib.hid (fun (w1 : World) (hb : Below w.heap.size w w1) => packP_any A n c _ xs w1 (h.below hb) hb.size hnc (by omega) w.heap.size hb.size)
      have CP2 := Lib.hid (fun (w1 : World) (hb : Below w.heap.size w w1) => packP_any A2 n2 c2 _ ys w1 (h2.below hb) hb.size hnc2 (by omega) w.heap.size hb.size)
      obtain ⟨i0, hi, hz0, hz1, hz2⟩ := info_parts info_u8
      have HI := Lib.hid hi
      have HZ0 := Lib.hid hz0
      have HZ1 := Lib.hid hz1
      have HZ2 := Lib.hid hz2
      have hz : (0 : Nat) < 1 := by omega
      clear hi hz0 hz1 hz2 hu hP hP2
      have e0 := ownsRow_empty w w.heap.size 5 1 (Nat.le_refl _)
      go_enter Try.func15, Try.ntmps15
      go_wp2_with fail
      refine (CP.out _ ((Below.refl _ w).alloc (Nat.le_refl _) _)).mono ?_
      rintro e w1 ⟨v1, rfl, hown, hg, hat⟩
      rw [← HP.out] at hown
      obtain ⟨A3, c3, hv3, hnc3, hcm3, hl3, ho3⟩ := own_slice hown
      subst hv3
      have HO3 := Lib.hid ho3
      have hbel := ((Below.refl _ w).alloc (Nat.le_refl _) (.cells #[] 5)).grown hg (by simp) (fun k hk => by cases hk)
      have e1 := own_keep e0 hg (fun g _ e => nomatch e)
      have E1 := Lib.hid e1
      clear hown hg hat ho3 e0 e1
      go_wp2_with (at_builtin; refine wpList_join _ rfl (.tmp 16) (.tmp 18) _ rfl w.heap.size 5 i0 (.int .u8 0) 1 1 Try.underlying22 HI.out HZ0.out HZ1.out HZ2.out rfl hz _ 0 [] rfl E1.out w1.heap.size A3 P c3 ((pack xs).map bv) rfl hl3 HO3.out (bv_one _) (by unfold maxLen; omega) (by omega) hbel.size ?_; intro v4 w4 hown4 hg4 hat4)
      rw [Nat.zero_add, List.nil_append] at hown4
      obtain ⟨A4, c4, hv4, _⟩ := own_slice hown4
      subst hv4
      have hbel4 : Below w.heap.size w w4 := hbel.grown hg4 hbel.size (fun k hk => (E1.out.lt k hk).1)
      have HO4 := Lib.hid hown4
      clear hown4 hg4 hat4
      refine (CP2.out _ hbel4).mono ?_
      rintro e w5 ⟨v5, rfl, hown5, hg5, hat5⟩
      rw [← HP2.out] at hown5
      have hbel5 : Below w.heap.size w w5 := belGrown hbel4 hg5
      obtain ⟨A5, c5, hv5, _, _, hl5, ho5⟩ := own_slice hown5
      subst hv5
      have HO5 := Lib.hid ho5
      have E5 := Lib.hid (own_keep HO4.out hg5 (fun g _ e => nomatch e))
      clear hown5 hg5 hat5 ho5
      go_wp2_with (at_builtin; refine wpList_join _ rfl (.tmp 19) (.tmp 21) _ rfl w.heap.size 5 i0 (.int .u8 0) 1 1 Try.underlying22 HI.out HZ0.out HZ1.out HZ2.out rfl hz _ P ((pack xs).map bv) rfl E5.out w5.heap.size A5 P2 c5 ((pack ys).map bv) rfl hl5 HO5.out (bv_one _) (by unfold maxLen; omega) (by omega) hbel5.size ?_; intro v6 w6 hown6 hg6 hat6)
      rw [← List.map_append] at hown6
      have hbel6 : Below w.heap.size w w6 := hbel5.grown hg6 hbel5.size (fun k hk => (E5.out.lt k hk).1)
      obtain ⟨A6, c6, hv6, hnc6, _, hl6, _⟩ := own_slice hown6
      subst hv6
      have CU := Lib.hid (unpackP_parts A6 (P + P2) c6 _ (pack xs ++ pack ys) ((n : Int) + (n2 : Int)) w6 hl6 (Nat.le_refl _) hnc6 (by omega) w.heap.size hbel6.size HU.out)
      clear hown6 hg6 hat6 hl6 hl5 hl3
      refine CU.out.mono ?_
      rintro e w7 ⟨v7, rfl, hown7, hg7, hat7⟩
      obtain ⟨N, hN⟩ : ∃ N, N = (xs ++ ys).length := ⟨_, rfl⟩
      rw [← hN] at hown7
      have hN2 : N = n + n2 := by rw [hN, List.length_append, HX.out, HY.out]
      have HN := Lib.hid hN
      have HN2 := Lib.hid hN2
      clear hN hN2
      have hbel7 : Below w.heap.size w w7 := belGrown hbel6 hg7
      obtain ⟨A7, c7, hv7, _, _, _, _⟩ := own_slice hown7
      subst hv7
      have HO7 := Lib.hid hown7
      have e7 := ownsRow_empty w7 w.heap.size 5 1 hbel7.size
      have E7 := Lib.hid e7
      clear hown7 hg7 hat7 e7
      go_wp2_with (first
        | (at_builtin; refine wpList_joinG _ rfl (.tmp 37) (.tmp 38) _ rfl w.heap.size 5 i0 (.int .u8 0) 1 1 Try.underlying22 HI.out HZ0.out HZ1.out HZ2.out rfl hz _ 0 [] rfl E7.out w.heap.size A n c (xs.map bv) rfl ((h.below hbel7).allocAny _) HO.out (bv_one _) (by unfold maxLen; omega) (by omega) (by have := hbel7.size; simp; omega) ?_; intro v8 w8 hown8 hg8 hat8; have hg8' := grown_ofNew hg8 (Nat.le_refl _) none; have hat8' := hat8.ofNew (Nat.le_refl _); rw [Nat.zero_add, List.nil_append] at hown8)
        | (at_builtin; refine wpList_joinG _ rfl (.tmp 39) (.tmp 40) _ rfl w.heap.size 5 i0 (.int .u8 0) 1 1 Try.underlying22 HI.out HZ0.out HZ1.out HZ2.out rfl hz _ n (xs.map bv) rfl hown8 w.heap.size A2 n2 c2 (ys.map bv) rfl ((h2.below hbel7).grown hg8' hbel7.size (fun g hg => nomatch hg)) HO2.out (bv_one _) (by unfold maxLen; omega) (by omega) (by have := hg8'.size; have := hbel7.size; omega) ?_; intro v9 w9 hown9 hg9 hat9))
      rw [← List.map_append] at hown9
      have hg79 : w7.grownBy w9 none := grownBy_trans hg8' hg9 hat8'
      have hbel9 : Below w.heap.size w w9 := belGrown hbel7 hg79
      obtain ⟨A9, c9, hv9, _, _, hl9, _⟩ := own_slice hown9
      subst hv9
      have hl7 := Lies.ofOwn (own_keep HO7.out hg79 (fun g _ e => nomatch e))
      have CS := Lib.hid (same_yes A7 A9 _ _ c7 c9 (xs ++ ys) w9 _ _ hl7 hl9 (by rw [HN2.out]; omega) (by omega))
      clear hown9 hg9 hat9 hl9 hl7 hown8 hg8 hat8 hg8' hat8' hg79
      refine CS.out.mono ?_
      rintro e w10 ⟨rfl, q, rfl⟩
      have hbq := belDrewN hbel9 q
      go_wp2_with fail
      refine (awake12_any _).mono ?_
      rintro e w11 ⟨rfl, hb11⟩
      go_wp2_with fail
      go_ret
      exact ⟨rfl, hbq.trans (hb11.mono hbel9.size)⟩
end Go.Proofs.Ytlcmffbikiamjaa
