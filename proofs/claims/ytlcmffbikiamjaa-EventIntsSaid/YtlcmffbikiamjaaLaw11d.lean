/- The walk of EventInts. -/
import Derived.Test.YtlcmffbikiamjaaPutR
import Derived.Test.YtlcmffbikiamjaaLaw11b
namespace Go.Proofs.Ytlcmffbikiamjaa
open Go Go.RowKit Iv
set_option linter.unusedVariables false

set_option maxRecDepth 100000 in
set_option maxHeartbeats 1600000 in
theorem eventInts_any (A : Option Addr) (n c : Nat) (xs : Bytes) (m : Int) (A2 : Option Addr) (n2 c2 : Nat) (ys : Bytes) (w : World)
    (h : Lies w w.heap.size 1 A n (xs.map bv)) (hnc : n ≤ c) (hcm : c ≤ maxLen) (ho : A = none → c = 0) (hm : inI64 m)
    (h2 : Lies w w.heap.size 1 A2 n2 (ys.map bv)) (hnc2 : n2 ≤ c2) (hcm2 : c2 ≤ maxLen) (ho2 : A2 = none → c2 = 0) :
    Calls Try.prog 7 #[.slice A n c, .int .i64 m, .slice A2 n2 c2] w fun e w' => e = .returned (.bool true) ∧ Below w.heap.size w w' := by
  unfold maxLen at hcm hcm2
  by_cases h3 : 300 < n
  · clear ho ho2 hm
    go_enter Try.func7, Try.ntmps7
    go_wp2_with fail
    go_ret
    exact ⟨rfl, Below.refl _ _⟩
  · by_cases h4 : 300 < n2
    · clear ho ho2 hm
      go_enter Try.func7, Try.ntmps7
      go_wp2_with fail
      go_ret
      exact ⟨rfl, Below.refl _ _⟩
    · obtain ⟨i0, hi, hz0, hz1, hz2⟩ := info_parts info_u8
      have HI := Lib.hid hi
      have HZ0 := Lib.hid hz0
      have HZ1 := Lib.hid hz1
      have HZ2 := Lib.hid hz2
      clear hi hz0 hz1 hz2
      have hlen := putI_len hm
      have hpos := putI_pos m
      have HO := Lib.hid ho
      have HO2 := Lib.hid ho2
      have HX := Lib.hid h.lenB
      have HM := Lib.hid hm
      have HG := Lib.hid (getI_putI hm ys)
      have CP := Lib.hid (putInt_any A n c w.heap.size xs m w h hnc hm (by omega) w.heap.size (Nat.le_refl _))
      clear ho ho2 hm
      have hz : (0 : Nat) < 1 := by omega
      go_enter Try.func7, Try.ntmps7
      go_wp2_with fail
      refine CP.out.mono ?_
      rintro e w1 ⟨v1, rfl, hown1, hg1, hat1⟩
      have hb1 : Below w.heap.size w w1 := (Below.refl _ w).grown hg1 (Nat.le_refl _) (fun k hk => by cases hk)
      obtain ⟨L, hL⟩ : ∃ L, L = (xs ++ putI m).length := ⟨_, rfl⟩
      have hLn : L = n + (putI m).length := by rw [hL, List.length_append, HX.out]
      rw [← hL] at hown1
      obtain ⟨A1, c1, hv, hnc1, hcm1, hl1, ho1⟩ := own_slice hown1
      subst hv
      have HL := Lib.hid hL
      have HLn := Lib.hid hLn
      have hLb : L ≤ 310 := by omega
      have hLlo : n + 1 ≤ L := by omega
      have HO1 := Lib.hid ho1
      unfold maxLen at hcm1
      clear hL hLn ho1
      go_wp2_with fail
      refine (putR_any A n c w.heap.size xs m w1 (h.below hb1) HO.out HM.out (by omega) w.heap.size hb1.size).mono ?_
      rintro e w2 ⟨v2, rfl, hown2, hg2, hat2⟩
      have hb2 : Below w.heap.size w w2 := hb1.grown hg2 hb1.size (fun k hk => by cases hk)
      have hl12 := hl1.grown hg2 (Nat.le_refl _) (fun g hg => by cases hg)
      rw [← HL.out] at hown2
      obtain ⟨A3, c3, hv, hnc3, hcm3, hl3, ho3⟩ := own_slice hown2
      subst hv
      clear ho3
      go_wp2_with fail
      refine (same_any A1 A3 L L c1 c3 (xs ++ putI m) (xs ++ putI m) _ w2.heap.size (hl12.more hg2.size) hl3 (by omega) (by omega)).mono ?_
      rintro e w3 ⟨rfl, q, rfl⟩
      have hdec : decide (xs ++ putI m = xs ++ putI m) = true := by simp
      rw [hdec]
      clear hdec hown2 hl3
      have hcut : Lies w2 w1.heap.size 1 (A1.map fun x => x.add n) (L - n) ((putI m).map bv) := by
        have := hl12.drop (k := n) (by omega)
        rw [Nat.mul_one, ← List.map_drop, ← HX.out, List.drop_left] at this
        rw [← HX.out]
        exact this
      have hcn : A1.map (fun x => x.add n) = none → c1 - n = 0 := by
        intro e
        have : A1 = none := by
          cases A1 with
          | none => rfl
          | some a => simp at e
        have := HO1.out this
        omega
      have HCN := Lib.hid hcn
      have hlm : ((putI m).map bv).length = L - n := by simp; have := HLn.out; omega
      have h22 := (h2.below hb2)
      have e0 := ownsRow_empty (w2.drewN q) w.heap.size 5 1 hb2.size
      have jn : (n : Int) ≤ (L : Int) := by omega
      clear hl1 hl12 hcn hlm
      go_wp2_with (first
        | (at_builtin; refine wpList_join _ rfl (.tmp 36) (.tmp 40) _ rfl w.heap.size 5 i0 (.int .u8 0) 1 1 Try.underlying22 HI.out HZ0.out HZ1.out HZ2.out rfl hz _ 0 [] rfl e0 w1.heap.size _ (L - n) (c1 - n) ((putI m).map bv) rfl (hcut.drewN q |>.allocAny _) HCN.out (bv_one _) (by unfold maxLen; omega) (by omega) (by simp; have := hb2.size; omega) ?_; intro v4 w4 hown4 hg4 hat4; have hg4' := grown_ofNew hg4 (Nat.le_refl _) none; have hat4' := hat4.ofNew (Nat.le_refl _); rw [Nat.zero_add, List.nil_append] at hown4)
        | (at_builtin; refine wpList_join _ rfl (.tmp 41) (.tmp 42) _ rfl w.heap.size 5 i0 (.int .u8 0) 1 1 Try.underlying22 HI.out HZ0.out HZ1.out HZ2.out rfl hz _ (L - n) ((putI m).map bv) rfl hown4 w.heap.size A2 n2 c2 (ys.map bv) rfl ((h22.drewN q).grown hg4' hb2.size (fun g hg => by cases hg)) HO2.out (bv_one _) (by unfold maxLen; omega) (by omega) (by have := hg4'.size; have := hb2.size; simp at *; omega) ?_; intro v5 w5 hown5 hg5 hat5))
      rw [← List.map_append] at hown5
      obtain ⟨A5, c5, hv, hnc5, hcm5, hl5, ho5⟩ := own_slice hown5
      subst hv
      have hb5 : Below w.heap.size w w5 := by
        have hbq : Below w.heap.size w (w2.drewN q) := ⟨hb2.os, hb2.tape, hb2.output, hb2.size, hb2.block⟩
        have h54 := grownBy_trans hg4' hg5 hat4'
        exact hbq.grown h54 hb2.size (fun k hk => by cases hk)
      have hLn2 : L - n = (putI m).length := by have := HLn.out; omega
      have HL2 := Lib.hid hLn2
      have hbe : (((L : Int) - (n : Int)) == ((putI m).length : Int)) = true := by rw [beq_iff_eq]; omega
      clear ho5 hown5 hLn2 hown4 hg4 hat4 hg5 hat5 hg4' hat4' e0 hcut h22 hcm5
      refine (intP_parts A5 _ c5 (putI m ++ ys) w5 _ hl5 (by omega) HG.out).mono ?_
      rintro e w6 ⟨rfl, rfl⟩
      have hbe2 : (((putI m).length : Int) == ((L : Int) - (n : Int))) = true := by rw [beq_iff_eq]; have := HLn.out; omega
      go_wp2_with fail
      go_ret
      exact ⟨rfl, hb5⟩
end Go.Proofs.Ytlcmffbikiamjaa
