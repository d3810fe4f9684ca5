/- The walks of large and BlockTells. -/
import Derived.Test.YtlofjhcjjcohfaaEncR
import Derived.Test.YtlofjhcjjcohfaaSameY
import Derived.Test.YtlofjhcjjcohfaaAw13
namespace Go.Proofs.Ytlofjhcjjcohfaa
open Go Go.RowKit Iv
set_option linter.unusedVariables false

/-- What 'large' gives: where it says no, the block has few records. -/
def LargeOut (n : Nat) (w : World) (e : Ending) (w' : World) : Prop := ∃ b, e = .returned (.bool b) ∧ (b = false → n ≤ 200) ∧ w.grownBy w' none

set_option maxRecDepth 100000 in
set_option maxHeartbeats 1600000 in
theorem large13_any (x : Blk) (A : Option Addr) (n c B : Nat) (w : World) (h : Recs w B A n x.recs) (hB : B ≤ w.heap.size) (hnc : n ≤ c) (hcm : c ≤ maxLen) :
    Calls Try.prog 14 #[.agg #[.int .i64 x.thread, .int .i64 x.first, .slice A n c]] w (LargeOut n w) := by
  unfold maxLen at hcm
  obtain ⟨W, hW⟩ : ∃ W, W = w.alloc (.cells #[.int .i64 x.thread, .int .i64 x.first, .slice A n c] 38) := ⟨_, rfl⟩
  have hWg : w.grownBy W none := by rw [hW]; exact World.grownBy_alloc w _ none
  have hb0 : Held W w.heap.size 38 #[.int .i64 x.thread, .int .i64 x.first, .slice A n c] := by rw [hW]; exact Held.new _ _ _
  have HW := Lib.hid hW
  have HB0 := Lib.hid hb0
  clear hW hb0
  go_enter Try.func14, Try.ntmps14
  go_wp2_with fail
  rw [show w.alloc (.cells #[.int .i64 x.thread, .int .i64 x.first, .slice A n c] 38) = W from HW.out.symm]
  go_loopw [3, 4] (fun sv iv wr => ∃ (k : Nat) (t : Int), iv = .int .i64 (k : Int) ∧ k ≤ n ∧ sv = .int .i64 t ∧ W.grownBy wr none) (fun _ iv _ => n - (intOf iv).toNat)
  case atStart => exact ⟨0, 0, rfl, Nat.zero_le _, rfl, World.grownBy.refl W none⟩
  case round =>
    obtain ⟨k, t, rfl, hk, rfl, hg⟩ := hrel
    have f2 : wr.cell? ⟨w.heap.size, 2, none⟩ = some (.slice A n c) := (HB0.out.grown hg (fun e => nomatch e)).cell 2
    have hgw := grownBy_trans hWg hg (.inl rfl)
    by_cases hlt : k < n
    · obtain ⟨b, o, r, Ad, nd, cd, Af, nf, cf, hA, hb, hr, hH⟩ := (h.grown hgw hB (fun _ e => nomatch e)).at hlt
      obtain ⟨c0, c1, c2, c3, c4, c5, c6, c7⟩ := hH.all
      subst hA
      have i0 : (0 : Int) ≤ (k : Int) := by omega
      have i1 : (k : Int) < (n : Int) := by omega
      clear hr hH
      go_upto_region 5 with fail
      go_quiet (fail)
      go_wp2_with fail
      · go_ret
        exact ⟨true, rfl, (fun e => nomatch e), grown_toDrewN hgw _⟩
      · go_roundw
        case rel => exact ⟨k + 1, _, by go_num, by omega, rfl, grown_toDrewN hg _⟩
        case measure => simp [intOf]; omega
    · go_wp2_with fail
      go_ret
      exact ⟨_, rfl, (fun hb => by simp at hb; omega), hgw⟩

theorem encode_len {x : Blk} (hin : ∀ r ∈ x.recs, RecNums r) : (encode x).1.length ≤ 1000000000000 := by
  by_cases hf : fits x = 0
  · rw [encode_good hf]
    obtain ⟨z0, z1, z2, z3, z4, z5, z6⟩ := fits_zero hf
    have hpl := putRecs_len x.recs (-1) (recOk_of z6 hin)
    have hq := pack_bounded (putRecs (-1) x.recs)
    have q1 := putI_len (n := x.first) ⟨by omega, by omega⟩
    have q2 := putI_len (n := (x.recs.length : Int)) ⟨by omega, by omega⟩
    have q3 := putI_len (n := ((putRecs (-1) x.recs).length : Int)) ⟨by omega, by omega⟩
    have q4 := putI_len (n := ((pack (putRecs (-1) x.recs)).length : Int)) ⟨by omega, by omega⟩
    unfold blkBytes blkBody headBytes
    simp only [List.length_append, List.length_cons, sum4_len]
    omega
  · unfold encode
    rw [if_neg hf]
    simp

set_option maxRecDepth 100000 in
set_option maxHeartbeats 1600000 in
theorem blockTells_any (x : Blk) (A : Option Addr) (n c : Nat) (w : World) (h : Recs w w.heap.size A n x.recs) (hin : ∀ r ∈ x.recs, RecNums r) (hnc : n ≤ c) (hcm : c ≤ maxLen) :
    Calls Try.prog 4 #[.agg #[.int .i64 x.thread, .int .i64 x.first, .slice A n c]] w fun e w' => e = .returned (.bool true) ∧ Below w.heap.size w w' := by
  obtain ⟨W, hW⟩ : ∃ W, W = w.alloc (.cells #[.int .i64 x.thread, .int .i64 x.first, .slice A n c] 38) := ⟨_, rfl⟩
  have hWg : w.grownBy W none := by rw [hW]; exact World.grownBy_alloc w _ none
  have hb0 : Held W w.heap.size 38 #[.int .i64 x.thread, .int .i64 x.first, .slice A n c] := by rw [hW]; exact Held.new _ _ _
  have HW := Lib.hid hW
  have HB0 := Lib.hid hb0
  have hRW := h.grown hWg (Nat.le_refl _) (fun _ e => nomatch e)
  have CL := Lib.hid (large13_any x A n c _ W hRW hWg.size hnc hcm)
  have CP := Lib.hid (fun (W1 : World) (hg : W.grownBy W1 none) (hn : n ≤ 200) => encodeP_any x A n c _ W1 (hRW.grown hg hWg.size (fun _ e => nomatch e)) (Nat.le_trans hWg.size hg.size) hin (by omega) w.heap.size (Nat.le_trans hWg.size hg.size))
  have CR := Lib.hid (fun (W1 : World) (hg : W.grownBy W1 none) => encodeR_any x A n c _ W1 (hRW.grown hg hWg.size (fun _ e => nomatch e)) (Nat.le_trans hWg.size hg.size) hin w.heap.size (Nat.le_trans hWg.size hg.size))
  have henl := encode_len hin
  have HENL := Lib.hid henl
  clear hW hb0 hin henl
  unfold maxLen at hcm
  go_enter Try.func4, Try.ntmps4
  go_wp2_with fail
  rw [show w.alloc (.cells #[.int .i64 x.thread, .int .i64 x.first, .slice A n c] 38) = W from HW.out.symm]
  refine CL.out.mono ?_
  rintro e w1 ⟨b, rfl, hb200, hg1⟩
  have belw : ∀ w', w.grownBy w' none → Below w.heap.size w w' := fun w' hg => belGr (Below.refl _ _) hg
  have BELW := Lib.hid belw
  have hgw1 := grownBy_trans hWg hg1 (.inl rfl)
  clear belw
  cases b with
  | true =>
    clear hb200
    go_wp2_with fail
    go_ret
    exact ⟨rfl, BELW.out _ hgw1⟩
  | false =>
    have hn200 := hb200 rfl
    clear hb200
    have f0 : w1.cell? ⟨w.heap.size, 0, none⟩ = some (.int .i64 x.thread) := (HB0.out.grown hg1 (fun e => nomatch e)).cell 0
    have f1 : w1.cell? ⟨w.heap.size, 1, none⟩ = some (.int .i64 x.first) := (HB0.out.grown hg1 (fun e => nomatch e)).cell 1
    have f2 : w1.cell? ⟨w.heap.size, 2, none⟩ = some (.slice A n c) := (HB0.out.grown hg1 (fun e => nomatch e)).cell 2
    go_wp2_with fail
    clear f0 f1 f2
    refine (CP.out w1 hg1 hn200).mono ?_
    rintro e w2 ⟨v2, rfl, hown2, hg2⟩
    have hg02 := grownBy_trans hg1 hg2 (.inl rfl)
    obtain ⟨A2, c2, hv2, _, _, hl2, _⟩ := own_slice hown2
    subst hv2
    have HL2 := Lib.hid hl2
    have f0 : w2.cell? ⟨w.heap.size, 0, none⟩ = some (.int .i64 x.thread) := (HB0.out.grown hg02 (fun e => nomatch e)).cell 0
    have f1 : w2.cell? ⟨w.heap.size, 1, none⟩ = some (.int .i64 x.first) := (HB0.out.grown hg02 (fun e => nomatch e)).cell 1
    have f2 : w2.cell? ⟨w.heap.size, 2, none⟩ = some (.slice A n c) := (HB0.out.grown hg02 (fun e => nomatch e)).cell 2
    clear hown2 hl2
    go_wp2_with fail
    clear f0 f1 f2
    refine (CR.out w2 hg02).mono ?_
    rintro e w3 ⟨v3, rfl, hown3, hg3⟩
    have hg03 := grownBy_trans hg02 hg3 (.inl rfl)
    obtain ⟨A3, c3, hv3, _, _, hl3, _⟩ := own_slice hown3
    subst hv3
    have CS := Lib.hid (same_yes A2 A3 _ _ c2 c3 (encode x).1 w3 _ _ (HL2.out.grown hg3 (Nat.le_refl _) (fun _ e => nomatch e)) hl3 HENL.out HENL.out)
    have bq : ((encode x).2 == (encode x).2) = true := by simp
    clear hown3 hl3
    go_wp2_with fail
    refine CS.out.mono ?_
    rintro e w4 ⟨rfl, q, rfl⟩
    go_wp2_with fail
    refine (awake13_any _).mono ?_
    rintro e w5 ⟨rfl, hb5⟩
    have bel3 := BELW.out _ (grown_toDrewN (grownBy_trans hWg hg03 (.inl rfl)) q)
    go_wp2_with fail
    go_ret
    exact ⟨rfl, bel3.trans (hb5.mono bel3.size)⟩
end Go.Proofs.Ytlofjhcjjcohfaa
