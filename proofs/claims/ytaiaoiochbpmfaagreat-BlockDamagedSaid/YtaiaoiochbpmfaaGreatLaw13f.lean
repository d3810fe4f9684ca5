/- The walk of BlockRoundTrip. -/
import Derived.Test.YtaiaoiochbpmfaaGreatJn
import Derived.Test.YtaiaoiochbpmfaaGreatAlc
import Derived.Test.YtaiaoiochbpmfaaGreatApd
import Derived.Test.YtaiaoiochbpmfaaGreatSm13
import Derived.Test.YtaiaoiochbpmfaaGreatEncR
import Derived.Test.YtaiaoiochbpmfaaGreatLaw13e
namespace Go.Proofs.YtaiaoiochbpmfaaGreat
open Go Go.RowKit Iv Mk
set_option linter.unusedVariables false
set_option linter.unusedSimpArgs false
theorem grown_row {base : Nat} {w0 wr w4 : World} {o : Option Nat} (h : w0.grownBy wr none) (h4 : wr.grownBy w4 o) (ho : ∀ g, o = some g → w0.heap.size ≤ g) : w0.grownBy w4 none :=
  ⟨h4.os.trans h.os, h4.tape.trans h.tape, h4.output.trans h.output, Nat.le_trans h.size h4.size, fun k hk _ => (h4.block k (Nat.lt_of_lt_of_le hk h.size) (fun e => by have := ho k e.symm; omega)).trans (h.block k hk (fun e => nomatch e))⟩
theorem elok_u8b : ElOk Tryz.prog 22 5 1 1 := elOk Tryz.underlying22 info_u8 rfl (by decide) (by decide)
set_option maxRecDepth 100000 in
set_option maxHeartbeats 3200000 in
theorem blockRoundTrip_any (A1 : Option Addr) (n1 c1 : Nat) (xs : Bytes) (A2 : Option Addr) (n2 c2 : Nat) (ys : Bytes) (a2 a3 a4 : Int) (A5 : Option Addr) (n5 c5 : Nat) (ms : Bytes) (w : World) (hL1 : Lies w w.heap.size 1 A1 n1 (xs.map bv)) (hnc1 : n1 ≤ c1) (hcm1 : c1 ≤ maxLen) (ho1 : A1 = none → c1 = 0) (hL2 : Lies w w.heap.size 1 A2 n2 (ys.map bv)) (hnc2 : n2 ≤ c2) (hcm2 : c2 ≤ maxLen) (ho2 : A2 = none → c2 = 0) (hf2 : 0 ≤ a2 ∧ a2 ≤ 255) (hf3 : 0 ≤ a3 ∧ a3 ≤ 255) (hf4 : 0 ≤ a4 ∧ a4 ≤ 255) (hL5 : Lies w w.heap.size 1 A5 n5 (ms.map bv)) (hnc5 : n5 ≤ c5) (hcm5 : c5 ≤ maxLen) (ho5 : A5 = none → c5 = 0) :
    Calls Tryz.prog 5 #[.slice A1 n1 c1, .slice A2 n2 c2, .int .u8 a2, .int .u8 a3, .int .u8 a4, .slice A5 n5 c5] w fun e w' => e = .returned (.bool true) ∧ Below w.heap.size w w' := by
  obtain ⟨tn, rfl⟩ : ∃ tn : Nat, a2 = (tn : Int) := ⟨a2.toNat, by omega⟩
  obtain ⟨fn, rfl⟩ : ∃ fn : Nat, a3 = (fn : Int) := ⟨a3.toNat, by omega⟩
  obtain ⟨nn, rfl⟩ : ∃ nn : Nat, a4 = (nn : Int) := ⟨a4.toNat, by omega⟩
  unfold maxLen at hcm1 hcm2 hcm5
  by_cases hb1 : 200 < n1
  · clear ho1 ho2 ho5
    go_enter Tryz.func5, Tryz.ntmps5
    go_wp2_with fail
    go_ret
    exact ⟨rfl, Below.refl _ _⟩
  by_cases hb2 : 100 < n2
  · clear ho1 ho2 ho5
    go_enter Tryz.func5, Tryz.ntmps5
    go_wp2_with fail
    go_ret
    exact ⟨rfl, Below.refl _ _⟩
  by_cases hb5 : 200 < n5
  · clear ho1 ho2 ho5
    go_enter Tryz.func5, Tryz.ntmps5
    go_wp2_with fail
    go_ret
    exact ⟨rfl, Below.refl _ _⟩
  have CM := Lib.hid (made13_any w A1 n1 c1 w.heap.size xs hL1 hnc1 (by omega) A2 n2 c2 w.heap.size ys hL2 hnc2 (by omega) tn fn nn (by omega) (by omega) (by omega))
  have HL5 := Lib.hid hL5
  have HO5 := Lib.hid ho5
  clear ho1 ho2 ho5 hL1 hL2 hL5 hf2 hf3 hf4
  go_enter Tryz.func5, Tryz.ntmps5
  go_wp2_with fail
  refine CM.out.mono ?_
  rintro e w1 ⟨x, A, c, rfl, hR, hM, hnc, ho, g1⟩
  obtain ⟨W2, hW2⟩ : ∃ W2, W2 = w1.alloc (.cells #[.int .i64 x.thread, .int .i64 x.first, .slice A x.recs.length c] 53) := ⟨_, rfl⟩
  obtain ⟨g2, hh2, hz2⟩ := al1 hW2
  have HW2 := Lib.hid hW2
  have HR := Lib.hid (hR.grown g2 (Nat.le_refl _) (fun _ e => nomatch e))
  have HM := Lib.hid hM
  have HG2 := Lib.hid (grown_then g1 g2)
  have HH2 := Lib.hid hh2
  have HB2 := Lib.hid g2.size
  have HC := Lib.hid (fun (W' : World) (g : W2.grownBy W' none) => (show W'.cell? ⟨w1.heap.size, 0, none⟩ = some (.int .i64 x.thread) ∧ W'.cell? ⟨w1.heap.size, 1, none⟩ = some (.int .i64 x.first) ∧ W'.cell? ⟨w1.heap.size, 2, none⟩ = some (.slice A x.recs.length c) from ⟨(hh2.grown g (fun e => nomatch e)).cell 0, (hh2.grown g (fun e => nomatch e)).cell 1, (hh2.grown g (fun e => nomatch e)).cell 2⟩))
  have CP := Lib.hid (encodeP_any x A x.recs.length c w1.heap.size W2 HR.out g2.size (recNums_of hM) (by have := hM.len; omega) W2.heap.size (Nat.le_refl _))
  have CR := Lib.hid (fun (W' : World) (g : W2.grownBy W' none) => encodeR_any x A x.recs.length c w1.heap.size W' (HR.out.grown g HB2.out (fun _ e => nomatch e)) (Nat.le_trans HB2.out g.size) (recNums_of HM.out) W'.heap.size (Nat.le_refl _))
  clear hR hM hnc ho g1 g2 hh2 hz2 hW2
  go_upto_region 4 with fail
  rw [show (World.alloc _ _) = W2 from HW2.out.symm]
  obtain ⟨x0, x1, x2⟩ := HC.out W2 (World.grownBy.refl W2 none)
  go_wp2_with fail
  refine CP.out.mono ?_
  rintro e w3 ⟨v3, rfl, hown3, g3⟩
  have HOWN3 := Lib.hid hown3
  have HG3 := Lib.hid g3
  clear hown3 g3 x0 x1 x2
  obtain ⟨x0, x1, x2⟩ := HC.out w3 HG3.out
  go_wp2_with fail
  refine (CR.out w3 HG3.out).mono ?_
  rintro e w4 ⟨v4, rfl, hown4, g4⟩
  have HG4 := Lib.hid (grown_then HG3.out g4)
  have hown3 := own_keep HOWN3.out g4 (fun _ _ e => nomatch e)
  clear x0 x1 x2 HOWN3
  obtain ⟨ys2, er, he⟩ : ∃ ys2 er, encode x = (ys2, er) := ⟨_, _, rfl⟩
  have hbyt := HM.out.bytes
  have hcase := encode_made HM.out
  rw [he] at hown3 hown4 hbyt hcase ⊢
  dsimp only at hown3 hown4 hbyt ⊢
  obtain ⟨P, hP⟩ : ∃ P, P = ys2.length := ⟨_, rfl⟩
  rw [← hP] at hown3 hown4 hbyt
  obtain ⟨A3, c3, hv3, hnc3, hcm3, hl3, hno3⟩ := own_slice hown3
  obtain ⟨A4, c4, hv4, hnc4, hcm4, hl4, hno4⟩ := own_slice hown4
  subst hv3 hv4
  unfold maxLen at hcm3 hcm4
  have CS := Lib.hid (same_yes A3 A4 P P c3 c4 ys2 w4 _ _ hl3 hl4 (by omega) (by omega))
  have HL3 := Lib.hid hl3
  have HN3 := Lib.hid hno3
  have HP := Lib.hid hP
  have hee : (er != er) = false := by simp
  have HHE := Lib.hid he
  have HCS := Lib.hid hcase
  clear hown3 hown4 hl3 hl4 hno3 hno4 g4 hP he hcase
  go_wp2_with fail
  refine CS.out.mono ?_
  rintro e w5 ⟨rfl, q5, hq5⟩
  have g5 : w4.grownBy w5 none := by rw [hq5]; exact grown_toDrewN (World.grownBy.refl w4 none) q5
  clear hq5
  have HG5 := Lib.hid (grown_then HG4.out g5)
  have HL5b := Lib.hid (HL3.out.grown g5 (Nat.le_refl _) (fun _ e => nomatch e))
  have HB5 := Lib.hid g5.size
  clear g5
  obtain ⟨x0, x1, x2⟩ := HC.out w5 HG5.out
  rcases HCS.out with ⟨h0, hq⟩ | ⟨h0, hf, hq⟩
  · simp only [Prod.mk.injEq] at hq
    obtain ⟨hq1, rfl⟩ := hq
    have hz : ((x.recs.length : Int) == 0) = true := by simp [h0]
    clear hq1
    go_wp2_with fail
    refine (awake13_any _).mono ?_
    rintro e w6 ⟨rfl, hb⟩
    go_wp2_with fail
    go_ret
    have gg := grown_then HG2.out HG5.out
    exact ⟨rfl, (belGr (Below.refl _ _) gg).trans (hb.mono gg.size)⟩
  · simp only [Prod.mk.injEq] at hq
    obtain ⟨hq1, rfl⟩ := hq
    have HQ := Lib.hid hq1
    have HF := Lib.hid hf
    have hz : ((x.recs.length : Int) == 0) = false := by rw [beq_eq_false_iff_ne]; omega
    clear hq1 hf h0
    go_upto_region 10 with fail
    have gal := Lib.hid (World.grownBy_alloc w5 (.cells #[] 5) none)
    have HL6 := Lib.hid (HL5b.out.grown gal.out HB5.out (fun _ e => nomatch e))
    have HM5 := Lib.hid (grown_then HG2.out (grown_then HG5.out gal.out))
    have HLm := Lib.hid (HL5.out.grown HM5.out (Nat.le_refl _) (fun _ e => nomatch e))
    clear x0 x1 x2
    go_wp2_with (first
      | (at_builtin; refine list_joinW _ (.tmp 69) (.tmp 70) _ 5 1 1 elok_u8b rfl rfl w5.heap.size _ 0 [] rfl (own_lit w5 w5.heap.size 5 [] (Nat.le_refl _) (by unfold maxLen; decide)) w4.heap.size A3 P c3 (ys2.map bv) rfl HL6.out HN3.out (bv_one _) (by omega) gal.out.size ?_; intro A9 c9 w9 hc9 hm9 hown9 hg9 hat9; rw [Nat.zero_add, List.nil_append] at hown9)
      | (at_builtin; go_loud (refine list_joinW _ (.tmp 71) (.tmp 72) _ 5 1 1 elok_u8b rfl rfl w5.heap.size _ P (ys2.map bv) rfl hown9 w.heap.size A5 n5 c5 (ms.map bv) rfl (HLm.out.grown hg9 (Nat.le_trans HM5.out.size (Nat.le_refl _)) (fun g e => by have e : some w5.heap.size = some g := e; injection e with e; have := (grown_then HG2.out HG5.out).size; omega)) HO5.out (bv_one _) (by omega) (Nat.le_trans gal.out.size hg9.size) ?_); intro A8 c8 w8 hc8 hm8 hown8 hg8 hat8)
      | fail)
    obtain ⟨A8', c8', hv8, hnc8, hcm8, hl8, hno8⟩ := own_slice hown8
    injection hv8 with j1 j2 j3
    subst j1 j3
    rw [← List.map_append] at hl8
    have hdec := decode_encode HF.out HM.out.recOk ms
    rw [← HQ.out, ← HP.out] at hdec
    have CD := decodeP_any A8 (P + n5) c8 w8.heap.size (ys2 ++ ms) w8 hl8 (Nat.le_refl _) hnc8 hcm8 hno8 (by omega)
    rw [hdec] at CD
    have CD := Lib.hid CD
    have hg8n : W2.grownBy w8 none := grown_row (base := 0) (grown_row (base := 0) (grown_then HG5.out gal.out) hg9 (fun g e => by have e : some w5.heap.size = some g := e; injection e with e; have := HG5.out.size; omega)) hg8 (fun g e => by have := (hown9.lt g e).1; have := HG5.out.size; omega)
    have HG8 := Lib.hid hg8n
    clear hown9 hg9 hat9 hown8 hg8 hat8 hl8 hdec hno8 hg8n j2
    go_wp2_with fail
    refine CD.out.mono ?_
    rintro e w10 ⟨A10, n10, c10, rfl, hR10, g10, hn10, hm10, ho10⟩
    dsimp only at hR10 ⊢
    obtain ⟨W11, hW11⟩ : ∃ W11, W11 = w10.alloc (.cells #[.int .i64 x.thread, .int .i64 x.first, .slice A10 n10 c10] 53) := ⟨_, rfl⟩
    obtain ⟨g11, hh11, hz11⟩ := al1 hW11
    have HW11 := Lib.hid hW11
    have HG11 := Lib.hid (grown_then HG8.out (grown_then g10 g11))
    obtain ⟨x0, x1, x2⟩ := HC.out W11 HG11.out
    have y0 : W11.cell? ⟨w10.heap.size, 0, none⟩ = some (.int .i64 x.thread) := hh11.cell 0
    have y1 : W11.cell? ⟨w10.heap.size, 1, none⟩ = some (.int .i64 x.first) := hh11.cell 1
    have y2 : W11.cell? ⟨w10.heap.size, 2, none⟩ = some (.slice A10 n10 c10) := hh11.cell 2
    have CSM := Lib.hid (same13_yes x A x.recs.length c A10 n10 c10 W11.heap.size W11 ((HR.out.grown HG11.out HB2.out (fun _ e => nomatch e)).more (Nat.le_trans HB2.out HG11.out.size)) ((hR10.keep g11 (fun _ e => nomatch e)).recs) (Nat.le_refl _) HM.out.recOk (by have := HM.out.len; omega))
    have hpp : ((P : Int) == (P : Int)) = true := by simp
    clear hR10 g10 hn10 hm10 ho10 hW11 g11 hh11 hz11
    go_upto_region 11 with fail
    rw [show (World.alloc _ _) = W11 from HW11.out.symm]
    go_wp2_with fail
    refine CSM.out.mono ?_
    rintro e w12 ⟨rfl, g12⟩
    go_wp2_with fail
    go_ret
    exact ⟨rfl, belGr (Below.refl _ _) (grown_then HG2.out (grown_then HG11.out g12))⟩
end Go.Proofs.YtaiaoiochbpmfaaGreat
