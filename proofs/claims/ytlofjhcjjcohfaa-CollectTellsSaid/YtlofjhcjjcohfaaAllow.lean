/- The walks of allowed and of Fits (chapter 13). -/
import Derived.Test.YtlofjhcjjcohfaaOpenRec
import Derived.Deep.DeepCutAuto
namespace Go.Proofs.Ytlofjhcjjcohfaa
open Go Go.RowKit Iv
set_option linter.unusedVariables false

/-- Nothing is wrong ahead of the records. -/
def headOk (x : Blk) : Bool := decide (0 < x.recs.length) && decide (0 ≤ x.thread) && decide (x.thread < 4) && decide (0 ≤ x.first) && decide (x.first ≤ 400)
theorem okBlk_head (x : Blk) : okBlk x = (headOk x && okRecs x.thread (-1) x.recs) := rfl

/-- A record that is wrong ends the list. -/
theorem okRecs_step (thread seq : Int) (recs : List Rec) (k : Nat) (r : Rec) (hr : recs[k]? = some r) :
    okRecs thread seq (recs.drop k) = (decide (r.ev.thread = thread) && decide (seq < r.seq) && decide (r.ev.deps.length ≤ 400) && decide (r.ev.from_.length ≤ 400) && okRecs thread r.seq (recs.drop (k + 1))) := by
  obtain ⟨hl, rfl⟩ := List.getElem?_eq_some_iff.1 hr
  rw [List.drop_eq_getElem_cons hl, okRecs]

set_option maxRecDepth 100000 in
set_option maxHeartbeats 3200000 in
theorem allowed_any (x : Blk) (A : Option Addr) (n c B : Nat) (w : World) (h : Recs w B A n x.recs) (hB : B ≤ w.heap.size) (hn : n ≤ 1000000) :
    Calls Try.prog 39 #[.agg #[.int .i64 x.thread, .int .i64 x.first, .slice A n c]] w fun e w' => e = .returned (.bool (okBlk x)) ∧ w.grownBy w' none := by
  obtain ⟨thread, first, recs⟩ := x
  dsimp only at h ⊢
  have HL := Lib.hid h.1
  by_cases hh : n = 0 ∨ thread < 0 ∨ 4 ≤ thread ∨ first < 0 ∨ 400 < first
  · have HF : Hid (okBlk ⟨thread, first, recs⟩ = false) := by
      have := HL.out
      rw [okBlk_head]
      have : headOk ⟨thread, first, recs⟩ = false := by
        unfold headOk
        simp only [Bool.and_eq_false_iff, decide_eq_false_iff_not]
        omega
      rw [this]
      exact Lib.hid rfl
    by_cases a0 : n = 0
    · have b0 : ((n : Int) == 0) = true := by rw [beq_iff_eq]; omega
      clear hh a0
      go_enter Try.func39, Try.ntmps39
      go_wp2_with fail
      go_ret
      exact ⟨ret_bool HF.out.symm, World.grownBy_alloc w _ none⟩
    · have b0 : ((n : Int) == 0) = false := by rw [beq_eq_false_iff_ne]; omega
      have n0 : 0 < n := by omega
      clear a0
      by_cases a1 : thread < 0
      · clear hh
        go_enter Try.func39, Try.ntmps39
        go_wp2_with fail
        go_ret
        exact ⟨ret_bool HF.out.symm, World.grownBy_alloc w _ none⟩
      · by_cases a2 : (4 : Int) ≤ thread
        · clear hh
          go_enter Try.func39, Try.ntmps39
          go_wp2_with fail
          go_ret
          exact ⟨ret_bool HF.out.symm, World.grownBy_alloc w _ none⟩
        · by_cases a3 : first < 0
          · clear hh
            go_enter Try.func39, Try.ntmps39
            go_wp2_with fail
            go_ret
            exact ⟨ret_bool HF.out.symm, World.grownBy_alloc w _ none⟩
          · have a4 : (400 : Int) < first := by omega
            clear hh
            go_enter Try.func39, Try.ntmps39
            go_wp2_with fail
            go_ret
            exact ⟨ret_bool HF.out.symm, World.grownBy_alloc w _ none⟩
  · have b0 : ((n : Int) == 0) = false := by rw [beq_eq_false_iff_ne]; omega
    have b1 : ¬ thread < 0 := by omega
    have b2 : ¬ (4 : Int) ≤ thread := by omega
    have b3 : ¬ first < 0 := by omega
    have b4 : ¬ (400 : Int) < first := by omega
    have HX : Hid (okBlk ⟨thread, first, recs⟩ = okRecs thread (-1) recs) := by
      have hl := HL.out
      rw [okBlk_head]
      have : headOk ⟨thread, first, recs⟩ = true := by
        unfold headOk
        simp only [Bool.and_eq_true, decide_eq_true_eq]
        omega
      rw [this]
      exact Lib.hid rfl
    clear hh
    obtain ⟨W, hW⟩ : ∃ W, W = w.alloc (.cells #[.int .i64 thread, .int .i64 first, .slice A n c] 38) := ⟨_, rfl⟩
    have hWg : w.grownBy W none := by rw [hW]; exact World.grownBy_alloc w _ none
    have hb0 : Held W w.heap.size 38 #[.int .i64 thread, .int .i64 first, .slice A n c] := by rw [hW]; exact Held.new _ _ _
    have HW := Lib.hid hW
    clear hW
    go_enter Try.func39, Try.ntmps39
    go_wp2_with fail
    rw [show w.alloc (.cells #[.int .i64 thread, .int .i64 first, .slice A n c] 38) = W from HW.out.symm]
    go_loopw [3, 5, 33] (fun sv _ iv wr => ∃ (k : Nat) (seq : Int), iv = .int .i64 (k : Int) ∧ k ≤ n ∧ sv = .int .i64 seq ∧ W.grownBy wr none ∧ okRecs thread seq (recs.drop k) = okRecs thread (-1) recs) (fun _ _ iv _ => n - (intOf iv).toNat)
    case atStart => exact ⟨0, -1, rfl, Nat.zero_le _, rfl, World.grownBy.refl W none, rfl⟩
    case round =>
      obtain ⟨k, seq, rfl, hk, rfl, hg, ho⟩ := hrel
      have HO := Lib.hid ho
      clear ho
      have hgw := grownBy_trans hWg hg (.inl rfl)
      by_cases hlt : k < n
      · obtain ⟨b, o, r, Ad, nd, cd, Af, nf, cf, hA, hb, hr, hH⟩ := (h.grown hgw hB (fun _ e => nomatch e)).at hlt
        have k0 : wr.cell? ⟨w.heap.size, 0, none⟩ = some (.int .i64 thread) := (hb0.grown hg (fun e => nomatch e)).cell 0
        have kz : w.heap.size < wr.heap.size := (hb0.grown hg (fun e => nomatch e)).lt
        obtain ⟨c0, c1, c2, c3, c4, c5, c6, c7⟩ := hH.all
        subst hA
        have HS := Lib.hid (okRecs_step thread seq recs k r hr)
        have l1 := hH.ld.lenI
        have l2 := hH.lf.lenI
        have L1 := Lib.hid l1
        have L2 := Lib.hid l2
        have HG1 := Lib.hid (grownBy_trans hgw (World.grownBy_alloc wr (.cells #[.int .i64 r.seq, .int .i64 r.ev.thread, .int .i64 r.ev.kind, .int .i64 r.ev.obj, .int .i64 r.ev.value, .int .i64 r.ev.site, .slice Ad nd cd, .slice Af nf cf] 26) none) (.inl rfl))
        have HG2 := Lib.hid (grownBy_trans hg (World.grownBy_alloc wr (.cells #[.int .i64 r.seq, .int .i64 r.ev.thread, .int .i64 r.ev.kind, .int .i64 r.ev.obj, .int .i64 r.ev.value, .int .i64 r.ev.site, .slice Ad nd cd, .slice Af nf cf] 26) none) (.inl rfl))
        clear hr hH l1 l2 hg
        by_cases h0 : r.ev.thread ≠ thread ∨ r.seq ≤ seq ∨ 400 < nd ∨ 400 < nf
        · have HF : Hid (okBlk ⟨thread, first, recs⟩ = false) := by
            have e1 := L1.out
            have e2 := L2.out
            have : okRecs thread seq (recs.drop k) = false := by
              rw [HS.out]
              have : (decide (r.ev.thread = thread) && decide (seq < r.seq) && decide (r.ev.deps.length ≤ 400) && decide (r.ev.from_.length ≤ 400)) = false := by
                simp only [Bool.and_eq_false_iff, decide_eq_false_iff_not]
                omega
              rw [this]
              rfl
            rw [HX.out, ← HO.out, this]
            exact Lib.hid rfl
          by_cases a0 : r.ev.thread = thread
          · have g0 : (r.ev.thread != thread) = false := by rw [bne_eq_false_iff_eq]; exact a0
            have A0 := Lib.hid a0
            by_cases a1 : r.seq ≤ seq
            · clear h0 a0
              go_wp2_with fail
              go_ret
              exact ⟨ret_bool HF.out.symm, HG1.out⟩
            · by_cases a2 : (400 : Int) < (nd : Int)
              · clear h0 a0
                go_wp2_with fail
                go_ret
                exact ⟨ret_bool HF.out.symm, HG1.out⟩
              · have a3 : (400 : Int) < (nf : Int) := by omega
                clear h0 a0
                go_wp2_with fail
                go_ret
                exact ⟨ret_bool HF.out.symm, HG1.out⟩
          · have g0 : (r.ev.thread != thread) = true := by rw [bne_iff_ne]; exact a0
            clear h0 a0
            go_wp2_with fail
            go_ret
            exact ⟨ret_bool HF.out.symm, HG1.out⟩
        · have g0 : (r.ev.thread != thread) = false := by rw [bne_eq_false_iff_eq]; omega
          have g1 : ¬ r.seq ≤ seq := by omega
          have g2 : ¬ (400 : Int) < (nd : Int) := by omega
          have g3 : ¬ (400 : Int) < (nf : Int) := by omega
          have HN : Hid (okRecs thread r.seq (recs.drop (k + 1)) = okRecs thread (-1) recs) := by
            have e1 := L1.out
            have e2 := L2.out
            have : (decide (r.ev.thread = thread) && decide (seq < r.seq) && decide (r.ev.deps.length ≤ 400) && decide (r.ev.from_.length ≤ 400)) = true := by
              simp only [Bool.and_eq_true, decide_eq_true_eq]
              omega
            have e3 := HS.out
            rw [this, Bool.true_and, HO.out] at e3
            exact Lib.hid e3.symm
          clear h0
          go_wp2_with fail
          go_roundw
          case rel => exact ⟨k + 1, r.seq, by go_num, by omega, rfl, HG2.out, HN.out⟩
          case measure => simp [intOf]; omega
      · have HF : Hid (okBlk ⟨thread, first, recs⟩ = true) := by
          have e1 := HO.out
          rw [List.drop_eq_nil_of_le (by rw [HL.out]; omega)] at e1
          rw [HX.out, ← e1]
          exact Lib.hid rfl
        go_wp2_with fail
        go_ret
        exact ⟨ret_bool HF.out.symm, hgw⟩
end Go.Proofs.Ytlofjhcjjcohfaa
