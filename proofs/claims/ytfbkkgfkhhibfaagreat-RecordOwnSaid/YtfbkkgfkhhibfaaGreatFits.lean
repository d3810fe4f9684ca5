/- The walk of Fits (chapter 13, the reference's). -/
import Derived.Test.YtfbkkgfkhhibfaaGreatRrow
import Derived.Test.YtfbkkgfkhhibfaaGreatSum
namespace Go.Proofs.YtfbkkgfkhhibfaaGreat
open Go Go.RowKit Iv
set_option linter.unusedVariables false
set_option maxRecDepth 100000 in
set_option maxHeartbeats 3200000 in
theorem fits_head (x : Blk) (A : Option Addr) (n c : Nat) (w : World) (hl : x.recs.length = n) (hh : 64 < n ∨ n = 0 ∨ x.thread < 0 ∨ 4 ≤ x.thread ∨ x.first < 0 ∨ 400 < x.first) :
    Calls Tryz.prog 60 #[.agg #[.int .i64 x.thread, .int .i64 x.first, .slice A n c]] w fun e w' => e = .returned (.int .i64 (fits x)) ∧ w.grownBy w' none := by
  obtain ⟨thread, first, recs⟩ := x
  dsimp only at hl hh ⊢
  by_cases h64 : 64 < n
  · have HF : Hid (fits ⟨thread, first, recs⟩ = 2) := Lib.hid (by unfold fits; rw [if_pos (by show 64 < recs.length; omega)])
    clear hh hl
    go_enter Tryz.func60, Tryz.ntmps60
    go_wp2_with fail
    go_ret
    exact ⟨ret_int HF.out.symm, World.grownBy_alloc w _ none⟩
  · have HF : Hid (fits ⟨thread, first, recs⟩ = 1) := by
      have : headOk ⟨thread, first, recs⟩ = false := by
        unfold headOk
        simp only [Bool.and_eq_false_iff, decide_eq_false_iff_not]
        omega
      have h2 : okBlk ⟨thread, first, recs⟩ = false := by rw [okBlk_head, this]; rfl
      exact Lib.hid (by unfold fits; rw [if_neg (by show ¬ 64 < recs.length; omega), h2]; rfl)
    clear hl
    by_cases a0 : n = 0
    · have b0 : ((n : Int) == 0) = true := by rw [beq_iff_eq]; omega
      clear hh a0
      go_enter Tryz.func60, Tryz.ntmps60
      go_wp2_with fail
      go_ret
      exact ⟨ret_int HF.out.symm, World.grownBy_alloc w _ none⟩
    · have b0 : ((n : Int) == 0) = false := by rw [beq_eq_false_iff_ne]; omega
      have n0 : 0 < n := by omega
      clear a0
      by_cases a1 : thread < 0
      · clear hh
        go_enter Tryz.func60, Tryz.ntmps60
        go_wp2_with fail
        go_ret
        exact ⟨ret_int HF.out.symm, World.grownBy_alloc w _ none⟩
      · by_cases a2 : (4 : Int) ≤ thread
        · clear hh
          go_enter Tryz.func60, Tryz.ntmps60
          go_wp2_with fail
          go_ret
          exact ⟨ret_int HF.out.symm, World.grownBy_alloc w _ none⟩
        · by_cases a3 : first < 0
          · clear hh
            go_enter Tryz.func60, Tryz.ntmps60
            go_wp2_with fail
            go_ret
            exact ⟨ret_int HF.out.symm, World.grownBy_alloc w _ none⟩
          · have a4 : (400 : Int) < first := by omega
            clear hh
            go_enter Tryz.func60, Tryz.ntmps60
            go_wp2_with fail
            go_ret
            exact ⟨ret_int HF.out.symm, World.grownBy_alloc w _ none⟩
set_option maxRecDepth 100000 in
set_option maxHeartbeats 3200000 in
theorem fits_any (x : Blk) (A : Option Addr) (n c B : Nat) (w : World) (h : Recs w B A n x.recs) (hB : B ≤ w.heap.size) :
    Calls Tryz.prog 60 #[.agg #[.int .i64 x.thread, .int .i64 x.first, .slice A n c]] w fun e w' => e = .returned (.int .i64 (fits x)) ∧ w.grownBy w' none := by
  by_cases hh : 64 < n ∨ n = 0 ∨ x.thread < 0 ∨ 4 ≤ x.thread ∨ x.first < 0 ∨ 400 < x.first
  · exact fits_head x A n c w h.1 hh
  · obtain ⟨thread, first, recs⟩ := x
    dsimp only at h hh ⊢
    have HL := Lib.hid h.1
    have b0 : ((n : Int) == 0) = false := by rw [beq_eq_false_iff_ne]; omega
    have b1 : ¬ thread < 0 := by omega
    have b2 : ¬ (4 : Int) ≤ thread := by omega
    have b3 : ¬ first < 0 := by omega
    have b4 : ¬ (400 : Int) < first := by omega
    have b5 : ¬ 64 < n := by omega
    have HX : Hid (fits ⟨thread, first, recs⟩ = if okRecs thread (-1) recs then 0 else 1) := by
      have hl := HL.out
      have : headOk ⟨thread, first, recs⟩ = true := by
        unfold headOk
        simp only [Bool.and_eq_true, decide_eq_true_eq]
        omega
      have h2 : okBlk ⟨thread, first, recs⟩ = okRecs thread (-1) recs := by rw [okBlk_head, this]; rfl
      exact Lib.hid (by unfold fits; rw [if_neg (by show ¬ 64 < recs.length; omega), h2])
    clear hh
    obtain ⟨W, hW⟩ : ∃ W, W = w.alloc (.cells #[.int .i64 thread, .int .i64 first, .slice A n c] 50) := ⟨_, rfl⟩
    have hWg : w.grownBy W none := by rw [hW]; exact World.grownBy_alloc w _ none
    have hb0 : Held W w.heap.size 50 #[.int .i64 thread, .int .i64 first, .slice A n c] := by rw [hW]; exact Held.new _ _ _
    have HW := Lib.hid hW
    clear hW
    go_enter Tryz.func60, Tryz.ntmps60
    go_wp2_with fail
    rw [show w.alloc (.cells #[.int .i64 thread, .int .i64 first, .slice A n c] 50) = W from HW.out.symm]
    go_loopw [3, 4] (fun iv _ wr => ∃ (k : Nat) (seq : Int), iv = .int .i64 (k : Int) ∧ k ≤ n ∧ ((k = 0 ∧ seq = -1) ∨ (∃ j p, k = j + 1 ∧ recs[j]? = some p ∧ seq = p.seq ∧ 0 ≤ seq)) ∧ W.grownBy wr none ∧ okRecs thread seq (recs.drop k) = okRecs thread (-1) recs) (fun iv _ _ => n - (intOf iv).toNat)
    case atStart => exact ⟨0, -1, rfl, Nat.zero_le _, .inl ⟨rfl, rfl⟩, World.grownBy.refl W none, rfl⟩
    case round =>
      obtain ⟨k, seq, rfl, hk, hseq, hg, ho⟩ := hrel
      have HO := Lib.hid ho
      clear ho
      have hgw := grownBy_trans hWg hg (.inl rfl)
      have k0 : wr.cell? ⟨w.heap.size, 0, none⟩ = some (.int .i64 thread) := (hb0.grown hg (fun e => nomatch e)).cell 0
      have k2 : wr.cell? ⟨w.heap.size, 2, none⟩ = some (.slice A n c) := (hb0.grown hg (fun e => nomatch e)).cell 2
      have kz : w.heap.size < wr.heap.size := (hb0.grown hg (fun e => nomatch e)).lt
      by_cases hlt : k < n
      · have hRR := h.grown hgw hB (fun _ e => nomatch e)
        obtain ⟨b, o, r, Ad, nd, cd, Af, nf, cf, hA, hb, hr, hH⟩ := hRR.at hlt
        obtain ⟨c0, c1, c2, c3, c4, c5, c6, c7⟩ := hH.all
        have HS := Lib.hid (okRecs_step thread seq recs k r hr)
        have l1 := hH.ld.lenI
        have l2 := hH.lf.lenI
        have L1 := Lib.hid l1
        have L2 := Lib.hid l2
        obtain ⟨W2, hW2⟩ : ∃ W2, W2 = wr.alloc (.cells #[.int .i64 r.seq, .int .i64 r.ev.thread, .int .i64 r.ev.kind, .int .i64 r.ev.obj, .int .i64 r.ev.value, .int .i64 r.ev.site, .slice Ad nd cd, .slice Af nf cf] 54) := ⟨_, rfl⟩
        have hg12 : wr.grownBy W2 none := by rw [hW2]; exact World.grownBy_alloc wr _ none
        have hg2 := grownBy_trans hg hg12 (.inl rfl)
        have hgw2 := grownBy_trans hWg hg2 (.inl rfl)
        have hb2 : Held W2 wr.heap.size 54 (recV r Ad nd cd Af nf cf) := by rw [hW2]; exact Held.new _ _ _
        have HW2 := Lib.hid hW2
        have HG2 := Lib.hid hg2
        have HGW2 := Lib.hid hgw2
        have d0 : W2.cell? ⟨wr.heap.size, 0, none⟩ = some (.int .i64 r.seq) := hb2.cell 0
        have d1 : W2.cell? ⟨wr.heap.size, 1, none⟩ = some (.int .i64 r.ev.thread) := hb2.cell 1
        have d6 : W2.cell? ⟨wr.heap.size, 6, none⟩ = some (.slice Ad nd cd) := hb2.cell 6
        have d7 : W2.cell? ⟨wr.heap.size, 7, none⟩ = some (.slice Af nf cf) := hb2.cell 7
        have m0 : W2.cell? ⟨w.heap.size, 0, none⟩ = some (.int .i64 thread) := (hb0.grown hg2 (fun e => nomatch e)).cell 0
        have m2 : W2.cell? ⟨w.heap.size, 2, none⟩ = some (.slice A n c) := (hb0.grown hg2 (fun e => nomatch e)).cell 2
        have hbad : Hid (r.ev.thread ≠ thread ∨ r.seq ≤ seq ∨ 400 < nd ∨ 400 < nf → fits ⟨thread, first, recs⟩ = 1) := by
          refine Lib.hid fun h0 => ?_
          have e1 := L1.out
          have e2 := L2.out
          have : okRecs thread seq (recs.drop k) = false := by
            rw [HS.out]
            have : (decide (r.ev.thread = thread) && decide (seq < r.seq) && decide (r.ev.deps.length ≤ 400) && decide (r.ev.from_.length ≤ 400)) = false := by
              simp only [Bool.and_eq_false_iff, decide_eq_false_iff_not]
              omega
            rw [this]
            rfl
          rw [HX.out, ← HO.out, this]
          rfl
        have hgood : Hid (r.ev.thread = thread → seq < r.seq → nd ≤ 400 → nf ≤ 400 → okRecs thread r.seq (recs.drop (k + 1)) = okRecs thread (-1) recs) := by
          refine Lib.hid fun x1 x2 x3 x4 => ?_
          have e1 := L1.out
          have e2 := L2.out
          have : (decide (r.ev.thread = thread) && decide (seq < r.seq) && decide (r.ev.deps.length ≤ 400) && decide (r.ev.from_.length ≤ 400)) = true := by
            simp only [Bool.and_eq_true, decide_eq_true_eq]
            omega
          have e3 := HS.out
          rw [this, Bool.true_and, HO.out] at e3
          exact e3.symm
        have HR := Lib.hid hr
        clear hH l1 l2 hg hW2 hb2 hr hg12 hg2 hgw2
        subst hA
        go_upto_region 9 with fail
        rw [show wr.alloc (.cells #[.int .i64 r.seq, .int .i64 r.ev.thread, .int .i64 r.ev.kind, .int .i64 r.ev.obj, .int .i64 r.ev.value, .int .i64 r.ev.site, .slice Ad nd cd, .slice Af nf cf] 54) = W2 from HW2.out.symm]
        clear c0 c1 c2 c3 c4 c5 c6 c7
        by_cases a0 : r.ev.thread = thread
        · have g0 : (r.ev.thread != thread) = false := by rw [bne_eq_false_iff_eq]; exact a0
          have A0 := Lib.hid a0
          clear a0
          by_cases a1 : r.seq ≤ seq
          · have HF := Lib.hid (hbad.out (.inr (.inl a1)))
            rcases hseq with ⟨hk0, hs0⟩ | ⟨j, p, hkj, hp, hsp, hp0⟩
            · have q1 : decide (r.seq < 0) = true := decide_eq_true (by omega)
              clear hk0 hs0 a1
              go_quiet (fail)
              go_wp2_with fail
              go_ret
              exact ⟨ret_int HF.out.symm, grown_toDrewN HGW2.out _⟩
            · obtain ⟨b', o', p', Ad', nd', cd', Af', nf', cf', hA', hb', hp', hH'⟩ := hRR.at (k := j) (by omega)
              simp only [Option.some.injEq, Addr.mk.injEq, and_true] at hA'
              obtain ⟨rfl, rfl⟩ := hA'
              have hpp : p' = p := by rw [hp] at hp'; exact Option.some.inj hp'.symm
              subst hpp
              have e0 : W2.cell? ⟨b, o + j * 8, none⟩ = some (.int .i64 p'.seq) := World.grownBy.cell (by rw [HW2.out]; exact World.grownBy_alloc wr _ none) hH'.all.1 (by simp)
              have q2 : decide ((0 : Int) < (k : Int)) = true := decide_eq_true (by omega)
              have q2' : decide (0 < k) = true := decide_eq_true (by omega)
              have q3 : decide (r.seq ≤ p'.seq) = true := decide_eq_true (by omega)
              have hwj : IntKind.i64.wrap ((k : Int) - 1) = (j : Int) := by rw [IntWalk.i64_in _ (by omega)]; omega
              have j0 : (0 : Int) ≤ (j : Int) := by omega
              have j1 : (j : Int) < (n : Int) := by omega
              by_cases hneg : r.seq < 0
              · have q1 : decide (r.seq < 0) = true := decide_eq_true hneg
                clear hkj hp hsp hp0 a1 hb' hp' hH' hneg hRR
                go_quiet (fail)
                go_wp2_with fail
                go_ret
                exact ⟨ret_int HF.out.symm, grown_toDrewN HGW2.out _⟩
              · have q1 : decide (r.seq < 0) = false := decide_eq_false hneg
                clear hkj hp hsp hp0 a1 hb' hp' hH' hneg hRR
                go_quiet (fail)
                go_wp2_with fail
                go_ret
                exact ⟨ret_int HF.out.symm, grown_toDrewN HGW2.out _⟩
          · have q1 : decide (r.seq < 0) = false := decide_eq_false (by rcases hseq with ⟨_, hs0⟩ | ⟨_, _, _, _, hsp, hp0⟩ <;> omega)
            have HA1 : Hid (seq < r.seq) := Lib.hid (by omega)
            rcases hseq with ⟨hk0, hs0⟩ | ⟨j, p, hkj, hp, hsp, hp0⟩
            · have q2 : decide ((0 : Int) < (k : Int)) = false := decide_eq_false (by omega)
              have q2' : decide (0 < k) = false := decide_eq_false (by omega)
              have HSQ : Hid (0 ≤ r.seq) := Lib.hid (by omega)
              have HK0 := Lib.hid hk0
              clear hk0 hs0 a1 hRR
              by_cases a2 : (400 : Int) < (nd : Int)
              · have s2 : decide ((400 : Int) < (nd : Int)) = true := decide_eq_true a2
                have s2' : decide (400 < nd) = true := decide_eq_true (by omega)
                have HF := Lib.hid (hbad.out (.inr (.inr (.inl (by omega)))))
                clear a2
                go_quiet (fail)
                go_wp2_with fail
                go_ret
                exact ⟨ret_int HF.out.symm, grown_toDrewN HGW2.out _⟩
              · have s2 : decide ((400 : Int) < (nd : Int)) = false := decide_eq_false a2
                have s2' : decide (400 < nd) = false := decide_eq_false (by omega)
                by_cases a3 : (400 : Int) < (nf : Int)
                · have s3 : decide ((400 : Int) < (nf : Int)) = true := decide_eq_true a3
                  have s3' : decide (400 < nf) = true := decide_eq_true (by omega)
                  have HF := Lib.hid (hbad.out (.inr (.inr (.inr (by omega)))))
                  clear a2 a3
                  go_quiet (fail)
                  go_wp2_with fail
                  go_ret
                  exact ⟨ret_int HF.out.symm, grown_toDrewN HGW2.out _⟩
                · have s3 : decide ((400 : Int) < (nf : Int)) = false := decide_eq_false a3
                  have s3' : decide (400 < nf) = false := decide_eq_false (by omega)
                  have HG := Lib.hid (hgood.out A0.out HA1.out (by omega) (by omega))
                  clear a2 a3
                  go_quiet (fail)
                  go_wp2_with fail
                  go_roundw
                  case rel => exact ⟨k + 1, r.seq, by go_num, by omega, .inr ⟨k, r, rfl, HR.out, rfl, HSQ.out⟩, grown_toDrewN HG2.out _, HG.out⟩
                  case measure => simp [intOf]; omega
            · obtain ⟨b', o', p', Ad', nd', cd', Af', nf', cf', hA', hb', hp', hH'⟩ := hRR.at (k := j) (by omega)
              simp only [Option.some.injEq, Addr.mk.injEq, and_true] at hA'
              obtain ⟨rfl, rfl⟩ := hA'
              have hpp : p' = p := by rw [hp] at hp'; exact Option.some.inj hp'.symm
              subst hpp
              have e0 : W2.cell? ⟨b, o + j * 8, none⟩ = some (.int .i64 p'.seq) := World.grownBy.cell (by rw [HW2.out]; exact World.grownBy_alloc wr _ none) hH'.all.1 (by simp)
              have q2 : decide ((0 : Int) < (k : Int)) = true := decide_eq_true (by omega)
              have q2' : decide (0 < k) = true := decide_eq_true (by omega)
              have q3 : decide (r.seq ≤ p'.seq) = false := decide_eq_false (by omega)
              have hwj : IntKind.i64.wrap ((k : Int) - 1) = (j : Int) := by rw [IntWalk.i64_in _ (by omega)]; omega
              have j0 : (0 : Int) ≤ (j : Int) := by omega
              have j1 : (j : Int) < (n : Int) := by omega
              have HSQ : Hid (0 ≤ r.seq) := Lib.hid (by omega)
              clear hkj hp hsp hp0 a1 hb' hp' hH' hRR
              by_cases a2 : (400 : Int) < (nd : Int)
              · have s2 : decide ((400 : Int) < (nd : Int)) = true := decide_eq_true a2
                have s2' : decide (400 < nd) = true := decide_eq_true (by omega)
                have HF := Lib.hid (hbad.out (.inr (.inr (.inl (by omega)))))
                clear a2
                go_quiet (fail)
                go_wp2_with fail
                go_ret
                exact ⟨ret_int HF.out.symm, grown_toDrewN HGW2.out _⟩
              · have s2 : decide ((400 : Int) < (nd : Int)) = false := decide_eq_false a2
                have s2' : decide (400 < nd) = false := decide_eq_false (by omega)
                by_cases a3 : (400 : Int) < (nf : Int)
                · have s3 : decide ((400 : Int) < (nf : Int)) = true := decide_eq_true a3
                  have s3' : decide (400 < nf) = true := decide_eq_true (by omega)
                  have HF := Lib.hid (hbad.out (.inr (.inr (.inr (by omega)))))
                  clear a2 a3
                  go_quiet (fail)
                  go_wp2_with fail
                  go_ret
                  exact ⟨ret_int HF.out.symm, grown_toDrewN HGW2.out _⟩
                · have s3 : decide ((400 : Int) < (nf : Int)) = false := decide_eq_false a3
                  have s3' : decide (400 < nf) = false := decide_eq_false (by omega)
                  have HG := Lib.hid (hgood.out A0.out HA1.out (by omega) (by omega))
                  clear a2 a3
                  go_quiet (fail)
                  go_wp2_with fail
                  go_roundw
                  case rel => exact ⟨k + 1, r.seq, by go_num, by omega, .inr ⟨k, r, rfl, HR.out, rfl, HSQ.out⟩, grown_toDrewN HG2.out _, HG.out⟩
                  case measure => simp [intOf]; omega
        · have g0 : (r.ev.thread != thread) = true := by rw [bne_iff_ne]; exact a0
          have HF := Lib.hid (hbad.out (.inl a0))
          clear a0 hseq
          go_quiet (fail)
          go_wp2_with fail
          go_ret
          exact ⟨ret_int HF.out.symm, grown_toDrewN HGW2.out _⟩
      · have HF : Hid (fits ⟨thread, first, recs⟩ = 0) := by
          have e1 := HO.out
          rw [List.drop_eq_nil_of_le (by rw [HL.out]; omega)] at e1
          rw [HX.out, ← e1]
          exact Lib.hid rfl
        clear hseq
        go_wp2_with fail
        go_ret
        exact ⟨ret_int HF.out.symm, hgw⟩
end Go.Proofs.YtfbkkgfkhhibfaaGreat
