/- The walk of 'same'. -/
import Derived.Test.YtfbkkgfkhhibfaaGreatDecR
import Derived.Test.YtfbkkgfkhhibfaaGreatRcp
namespace Go.Proofs.YtfbkkgfkhhibfaaGreat
open Go Go.RowKit Iv
set_option linter.unusedVariables false
theorem tailP_ok (b : Bytes) (t : UInt8) (first : Int) (n : Nat) (size : Int) (from_ end_ : Nat) : (∀ r ∈ (tailP b t first n size from_ end_).1.recs, RecOk r) ∧ (tailP b t first n size from_ end_).1.recs.length ≤ n := by
  cases h : leftRecs b t n size from_ end_ with
  | none => rw [tailP_none h]; exact ⟨fun r hr => by simp [zeroBlk] at hr, by simp [zeroBlk]⟩
  | some l =>
    obtain ⟨h1, h2, h3⟩ := tailP_some (first := first) h
    rw [h1]
    split
    · exact ⟨h3, Nat.le_of_eq h2⟩
    · exact ⟨fun r hr => by simp [zeroBlk] at hr, by simp [zeroBlk]⟩
theorem decode_ok (b : Bytes) : (∀ r ∈ (Iv.decode b).1.recs, RecOk r) ∧ (Iv.decode b).1.recs.length ≤ 64 := by
  have hz : (∀ r ∈ zeroBlk.recs, RecOk r) ∧ zeroBlk.recs.length ≤ 64 := ⟨fun r hr => by simp [zeroBlk] at hr, by simp [zeroBlk]⟩
  unfold Iv.decode decodeBy
  split
  · exact hz
  · split
    · exact hz
    · split
      · exact hz
      · split
        · exact hz
        · split
          · exact hz
          · rename_i hb
            split
            · exact hz
            · split
              · exact hz
              · have h1 := headBad_false (by simpa using hb)
                exact ⟨(tailP_ok _ _ _ _ _ _ _).1, Nat.le_trans (tailP_ok _ _ _ _ _ _ _).2 (by omega)⟩
end Go.Proofs.YtfbkkgfkhhibfaaGreat

/- The walk of the reference's Blocks (chapter 15). -/
namespace Go.Proofs.YtfbkkgfkhhibfaaGreat
open Go Go.RowKit Iv
set_option linter.unusedVariables false
theorem gr_row2 {W0 wr w1 : World} {o : Option Nat} (h : W0.grownBy wr none) (hg : wr.grownBy w1 o) (ho : ∀ g, o = some g → W0.heap.size ≤ g) : W0.grownBy w1 none := by
  refine grownBy_trans h hg ?_
  cases o with
  | none => exact .inl rfl
  | some g => exact .inr ⟨g, rfl, ho g rfl⟩
theorem blk_new (w : World) (x : Blk) (A : Option Addr) (n c : Nat) : ∀ j u, (blkV x A n c).toList[j]? = some u → (w.alloc (.cells (blkV x A n c) 50)).cell? ((⟨w.heap.size, 0, none⟩ : Addr).add j) = some u := by
  obtain ⟨ad, e, _, hc⟩ := (blk_lies w x A n c).2 (by omega)
  injection e with e
  subst e
  exact hc
set_option maxRecDepth 100000 in
set_option maxHeartbeats 3200000 in
theorem blocksR_any (A : Option Addr) (n c B : Nat) (xs : Bytes) (th : Int) (w : World) (h : Lies w B 1 A n (xs.map bv)) (hB : B ≤ w.heap.size) (hnc : n ≤ c) (hcm : c ≤ maxLen) (ho : A = none → c = 0) (hn6 : n ≤ 1000000) :
    Calls Tryz.prog 12 #[.slice A n c, .int .i64 th] w (BlksOut (blocksAll th xs 0 (-1)) w) := by
  have HL := Lib.hid h
  have HLN := Lib.hid h.lenB
  have HO := Lib.hid ho
  unfold maxLen at hcm
  clear h ho
  go_enter Tryz.func12, Tryz.ntmps12
  go_wp2_with fail
  go_loopw [6, 7, 8, 9] (fun v av rv lv wr => ∃ (k : Nat) (rc la : Int) (done : List (Blk × Nat)) (css : List Value), av = .int .i64 (k : Int) ∧ rv = .int .i64 rc ∧ lv = .int .i64 la ∧ k ≤ n ∧ (0 ≤ rc ∧ rc ≤ 1000) ∧ inI64 la ∧ wr.ownsRow w.heap.size 50 3 v done.length css ∧ BlksAt wr w.heap.size v.ownBlock css (done.map (·.1)) ∧ w.grownBy wr none ∧ done ++ blocksAll th (xs.drop k) rc la = blocksAll th xs 0 (-1) ∧ sizeB done = k ∧ done.length ≤ k) (fun _ av _ _ _ => n - (intOf av).toNat)
  case atStart => exact ⟨0, 0, -1, [], [], rfl, rfl, rfl, Nat.zero_le _, ⟨by omega, by omega⟩, ⟨by omega, by omega⟩, World.ownsRow_nil _ _ _ _, BlksAt.nil _ _ _, World.grownBy.refl w none, rfl, rfl, Nat.le_refl _⟩
  case round =>
    obtain ⟨k, rc, la, done, css, rfl, rfl, rfl, hk, ⟨hr0, hr1⟩, hla, hown, hrow, hg, hall, hsz, hdl⟩ := hrel
    have hcut0 := (HL.out.grown hg hB (fun _ e => nomatch e)).dropIf (k := k) hk hnc
    obtain ⟨A', hA'⟩ : ∃ A', (if c = k then A else A.map fun x => x.add k) = A' := ⟨_, rfl⟩
    have hcut : Lies wr B 1 A' (n - k) ((xs.drop k).map bv) := by
      rw [Nat.mul_one, ← List.map_drop, hA'] at hcut0
      exact hcut0
    have hA'0 : A' = none → c - k = 0 := by
      intro e0
      rw [← hA'] at e0
      split at e0
      · omega
      · simp only [Option.map_eq_none_iff] at e0
        have := HO.out e0
        omega
    obtain ⟨d, hd⟩ : ∃ d, d = Iv.decode (xs.drop k) := ⟨_, rfl⟩
    have CD := Lib.hid (decodeR_any A' (n - k) (c - k) B (xs.drop k) wr hcut (Nat.le_trans hB hg.size) (by omega) (by unfold maxLen; omega) hA'0 (by omega))
    rw [← hd] at CD
    have HD := Lib.hid hd
    have HOWN := Lib.hid hown
    have HROW := Lib.hid hrow
    have HG := Lib.hid hg
    have HALL := Lib.hid hall
    have HSZ := Lib.hid hsz
    have HLA := Lib.hid hla
    obtain ⟨Av, cv, hvv, hvn, hvm, _, hvo⟩ := own_slice hown
    have k1 : (0 : Int) ≤ (k : Int) := by omega
    have k2 : (k : Int) ≤ (n : Int) := by omega
    have k3 : (k : Int) ≤ (c : Int) := by omega
    clear hcut0 hcut hA'0 hd hown hrow hg hall hsz hla hvo
    subst hvv
    go_wp2_with fail
    refine CD.out.mono ?_
    rintro e w2 ⟨A2, n2, c2, rfl, hrec2, hg2, hnc2, hcm2, ho2⟩
    obtain ⟨⟨th2, fi, rs⟩, sz, er⟩ := d
    dsimp only at hrec2 ⊢
    obtain ⟨W2, hW2⟩ : ∃ W2, W2 = w2.alloc (.cells #[.int .i64 th2, .int .i64 fi, .slice A2 n2 c2] 50) := ⟨_, rfl⟩
    have hg12 : w2.grownBy W2 none := by rw [hW2]; exact World.grownBy_alloc w2 _ none
    have hb2 : Held W2 w2.heap.size 50 #[.int .i64 th2, .int .i64 fi, .slice A2 n2 c2] := by rw [hW2]; exact Held.new _ _ _
    have hww : wr.heap.size ≤ w2.heap.size := hg2.size
    have hgr2 := grownBy_trans hg2 hg12 (.inl rfl)
    have hREC := hrec2.keep hg12 (fun _ e => nomatch e)
    have hfin : ∀ W', W2.grownBy W' none → blocksAll th (xs.drop k) rc la = [] → BlksOut (blocksAll th xs 0 (-1)) w (.returned (.tuple #[.slice Av done.length cv, .int .i64 (k : Int)])) W' := by
      intro W' hg' hnil
      have hg3 := grownBy_trans hgr2 hg' (.inl rfl)
      rw [← HALL.out, hnil, List.append_nil]
      exact ⟨_, css, by rw [HSZ.out], own_keep HOWN.out hg3 (fun _ _ e => nomatch e), HROW.out.keep hg3 (fun _ e => nomatch e), grownBy_trans HG.out hg3 (.inl rfl)⟩
    have HFIN := Lib.hid hfin
    have HB2 := Lib.hid hb2
    have HW2 := Lib.hid hW2
    have HGR2 := Lib.hid hgr2
    have HREC := Lib.hid hREC
    have x0 : W2.cell? ⟨w2.heap.size, 0, none⟩ = some (.int .i64 th2) := hb2.cell 0
    have x1 : W2.cell? ⟨w2.heap.size, 1, none⟩ = some (.int .i64 fi) := hb2.cell 1
    have x2 : W2.cell? ⟨w2.heap.size, 2, none⟩ = some (.slice A2 n2 c2) := hb2.cell 2
    clear hW2 hb2 hgr2 hREC hfin hrec2 hg2 hg12
    go_upto_region 4 with fail
    rw [show w2.alloc (.cells #[.int .i64 th2, .int .i64 fi, .slice A2 n2 c2] 50) = W2 from HW2.out.symm]
    by_cases he : er = 0
    · subst he
      by_cases ht : th2 = th
      · subst ht
        by_cases hf : fi = rc
        · subst hf
          obtain ⟨f0, fk, fl, fp⟩ := decode_good HD.out.symm
          obtain ⟨z0, z1, z2, z3, z4, z5, z6⟩ := fits_zero f0
          have hln : rs.length = n2 := HREC.out.1
          dsimp only at z0 z1 z4 z5
          have hdl2 : (xs.drop k).length = n - k := by rw [List.length_drop, HLN.out]
          obtain ⟨r0, hr0'⟩ : ∃ r0, rs[0]? = some r0 := ⟨rs[0], List.getElem?_eq_getElem z0⟩
          obtain ⟨m, hm⟩ : ∃ m, n2 = m + 1 := ⟨n2 - 1, by omega⟩
          obtain ⟨rl, hrl⟩ : ∃ rl, rs[m]? = some rl := ⟨rs[m], List.getElem?_eq_getElem (by omega)⟩
          obtain ⟨b, o, _, _, _, _, _, _, rfl, q0⟩ := HREC.out.2 0 r0 hr0'
          obtain ⟨b', o', _, _, _, _, _, _, eA, ql⟩ := HREC.out.2 m rl hrl
          injection eA with eA
          injection eA with eA1 eA2
          subst eA1 eA2
          have y0 : W2.cell? ⟨b, o, none⟩ = some (.int .i64 r0.seq) := by have := q0.cells 0 (.int .i64 r0.seq) rfl; simpa using this
          have yl : W2.cell? ⟨b, o + m * 8, none⟩ = some (.int .i64 rl.seq) := by have := ql.cells 0 (.int .i64 rl.seq) rfl; simpa using this
          have i1 : (0 : Int) < (n2 : Int) := by omega
          obtain ⟨rs', hrs⟩ : ∃ rs', rs = r0 :: rs' := by
            cases rs with
            | nil => simp at hr0'
            | cons a l => simp at hr0'; exact ⟨l, by rw [hr0']⟩
          have HGB : Hid (goodB th2 fi la (Iv.decode (xs.drop k)) = decide (la < r0.seq)) := Lib.hid (by rw [← HD.out]; unfold goodB; rw [hrs]; simp)
          by_cases hq : r0.seq ≤ la
          · have HNIL := Lib.hid (show blocksAll th2 (xs.drop k) fi la = [] from blocksAll_bad (by rw [HGB.out]; exact decide_eq_false (by omega)))
            clear hrs fp fk fl f0 hr0' hrl
            go_wp2_with fail
            go_ret2
            exact HFIN.out _ (World.grownBy.refl W2 none) HNIL.out
          · have HGOOD := Lib.hid (blocksAll_good (th := th2) (recs := fi) (last := la) (b := xs.drop k) (by rw [HGB.out]; exact decide_eq_true (by omega)))
            have HLS : Hid (lastSeq (⟨th2, fi, rs⟩ : Blk) la = rl.seq) := Lib.hid (by
              unfold lastSeq
              dsimp only
              rw [List.getLast?_eq_getElem?, show rs.length - 1 = m by omega, hrl])
            have hrli := ((decode_ok (xs.drop k)).1 rl (by rw [← HD.out]; exact List.mem_of_getElem? hrl)).seq
            have HRLI := Lib.hid hrli
            have hszn : sz ≤ n - k := by omega
            have hb0 : 0 ≤ fi + (n2 : Int) ∧ fi + (n2 : Int) ≤ 1000 := by omega
            have HB00 := Lib.hid hb0
            clear hb0
            have hsp : 0 < sz := fp
            have hmm : (n2 : Int) - 1 = (m : Int) := by omega
            have hkz : k + sz ≤ n := by omega
            have hw1 : IntKind.i64.wrap ((k : Int) + (sz : Int)) = (k : Int) + (sz : Int) := IntWalk.i64_in _ (by omega)
            have hw2 : IntKind.i64.wrap (fi + (n2 : Int)) = fi + (n2 : Int) := IntWalk.i64_in _ (by omega)
            have hwm : IntKind.i64.wrap (m : Int) = (m : Int) := IntWalk.i64_in _ (by omega)
            have i2 : (0 : Int) ≤ (m : Int) := by omega
            have i3 : (m : Int) < (n2 : Int) := by omega
            clear hrs fk fl f0 hr0' hrl hrli hm hln
            go_upto_region 6 with fail
            have hbW : b < W2.heap.size := ql.hib
            have hbl : wr.heap.size ≤ b := ql.lob
            have HYL := Lib.hid yl
            have HLT0 := Lib.hid (fun g (e : (Value.slice Av done.length cv).ownBlock = some g) => (HOWN.out.lt g e).2)
            have HOW2 := Lib.hid (own_keep HOWN.out HGR2.out (fun _ _ e => nomatch e))
            obtain ⟨j0, hi, hz0, hz1, hz2⟩ := info_parts info_blk
            have HI := Lib.hid hi
            have HZ0 := Lib.hid hz0
            have HZ1 := Lib.hid hz1
            have HZ2 := Lib.hid hz2
            have hz : (0 : Nat) < 3 := by omega
            have hw2s : w.heap.size ≤ W2.heap.size := Nat.le_trans HG.out.size HGR2.out.size
            have hdn : done.length ≤ 1000000 := by omega
            clear y0 yl hi hz0 hz1 hz2 q0 ql
            go_wp2_with (at_builtin; refine wpList_app _ rfl (.tmp 46) (.tmp 48) _ rfl w.heap.size 50 j0 _ 3 40 Tryz.underlying45 HI.out HZ0.out HZ1.out HZ2.out rfl hz _ (Value.slice Av done.length cv).ownBlock done.length css rfl (App.own (HOW2.out.alloc _)) ⟨W2.heap.size, 0, none⟩ 1 1 (blkV ⟨th2, fi, rs⟩ (some ⟨b, o, none⟩) n2 c2).toList rfl (by omega) rfl (blk_new W2 ⟨th2, fi, rs⟩ _ n2 c2) (blkV_one _ _ _ _) (by unfold maxLen; omega) (by omega) (by simp; omega) ?_; intro v4 w4 hown4 hg4 hat4; obtain ⟨A4, c4, hv4, hvn4, hvm4, _, hvo4⟩ := own_slice hown4; have hx2 : w4.cell? ⟨w2.heap.size, 2, none⟩ = some (.slice (some ⟨b, o, none⟩) n2 c2) := (((HB2.out.alloc _).grown hg4 (fun e => by have := HLT0.out _ e.symm; omega)).cell 2); have hyl : w4.cell? ⟨b, o + m * 8, none⟩ = some (.int .i64 rl.seq) := (Eq.trans (World.cell?_of_block (hg4.block b (by simp; omega) (fun e => by have := HLT0.out _ e.symm; omega))) ((World.cell?_alloc_lt _ _ _ hbW).trans HYL.out)); subst hv4)
            have hRO2 := (((HROW.out.keep HGR2.out (fun _ e => nomatch e)).keep (World.grownBy_alloc W2 (.cells (blkV ⟨th2, fi, rs⟩ (some ⟨b, o, none⟩) n2 c2) 50) none) (fun _ e => nomatch e)).snoc (x := ⟨th2, fi, rs⟩) (((HREC.out.keep (World.grownBy_alloc W2 (.cells (blkV ⟨th2, fi, rs⟩ (some ⟨b, o, none⟩) n2 c2) 50) none) (fun _ e => nomatch e)).off HLT0.out).lower HG.out.size) hnc2 hcm2 ho2).grow hg4 hat4
            have HRO4 := Lib.hid hRO2
            have HOW4 := Lib.hid hown4
            have hat : At wr (Value.slice Av done.length cv).ownBlock (Value.slice A4 (done.length + 1) c4).ownBlock := (At.refl wr _).trans hat4 (by have := HGR2.out.size; simp; omega)
            have hg14 : wr.grownBy w4 (Value.slice Av done.length cv).ownBlock := grownBy_trans (grownBy_trans (grown_anyRow HGR2.out _) (World.grownBy_alloc W2 _ _) (.inl rfl)) hg4 (.inl rfl)
            have HG4 := Lib.hid (gr_row2 HG.out hg14 (fun g e => (HOWN.out.lt g e).1))
            clear hRO2 hown4 hat hg14 hg4 hat4
            go_roundw
            case rel => exact ⟨k + sz, fi + (n2 : Int), rl.seq, done ++ [(⟨th2, fi, rs⟩, sz)], _, by go_num, rfl, rfl, hkz, HB00.out, HRLI.out, by rw [List.length_append]; exact HOW4.out, by rw [List.map_append]; exact HRO4.out, HG4.out, by
              rw [← HALL.out, HGOOD.out, ← HD.out, List.append_assoc]
              dsimp only
              rw [HLS.out, List.drop_drop, HREC.out.1]
              rfl, by unfold sizeB at HSZ ⊢; rw [List.map_append, List.sum_append, HSZ.out]; simp, by rw [List.length_append]; simp; omega⟩
            case measure => simp [intOf]; omega
        · have hbf : (fi != rc) = true := by rw [bne_iff_ne]; exact hf
          have HNIL := Lib.hid (show blocksAll th2 (xs.drop k) rc la = [] from blocksAll_bad (by rw [← HD.out]; unfold goodB; simp [hf]))
          clear hf
          go_wp2_with fail
          go_ret2
          exact HFIN.out _ (World.grownBy.refl W2 none) HNIL.out
      · have hbt : (th2 != th) = true := by rw [bne_iff_ne]; exact ht
        have HNIL := Lib.hid (show blocksAll th (xs.drop k) rc la = [] from blocksAll_bad (by rw [← HD.out]; unfold goodB; simp [ht]))
        clear ht
        go_wp2_with fail
        go_ret2
        exact HFIN.out _ (World.grownBy.refl W2 none) HNIL.out
    · have HNIL := Lib.hid (show blocksAll th (xs.drop k) rc la = [] from blocksAll_bad (by rw [← HD.out]; unfold goodB; simp [he]))
      have hbe : (er != 0) = true := by rw [bne_iff_ne]; exact he
      clear he
      go_wp2_with fail
      go_ret2
      exact HFIN.out _ (World.grownBy.refl W2 none) HNIL.out
end Go.Proofs.YtfbkkgfkhhibfaaGreat
