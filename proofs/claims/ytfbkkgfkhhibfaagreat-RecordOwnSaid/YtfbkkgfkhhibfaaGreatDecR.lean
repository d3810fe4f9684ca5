/- The walk of the reference's Decode (chapter 13): 'decode' too. -/
import Derived.Test.YtfbkkgfkhhibfaaGreatRrecR
import Derived.Test.YtfbkkgfkhhibfaaGreatEncR
import Derived.Test.YtfbkkgfkhhibfaaGreatSum
import Derived.Test.YtfbkkgfkhhibfaaGreatOpenNum
namespace Go.Proofs.YtfbkkgfkhhibfaaGreat
open Go Go.RowKit Iv
set_option linter.unusedVariables false
theorem decodeR_head {b : Bytes} {x t : UInt8} {u : Bytes} (hb : b = x :: t :: u) (hx : x.toNat = 84) (he : (hs b 4).err ≠ 0) : decodeR b = (zeroBlk, 0, (hs b 4).err) := by
  rw [← decode_same]; exact decode_head hb hx he
theorem decodeR_rest {b : Bytes} {x t : UInt8} {u : Bytes} (hb : b = x :: t :: u) (hx : x.toNat = 84) (he : (hs b 4).err = 0) : decodeR b =
    if headBad t (getHead b) then (zeroBlk, 0, 11)
    else if b.length < (hs b 4).at_ + (hn b 3).toNat + 4 then (zeroBlk, 0, 9)
    else if (b.drop ((hs b 4).at_ + (hn b 3).toNat)).take 4 ≠ sum4 (crc (b.take ((hs b 4).at_ + (hn b 3).toNat))) then (zeroBlk, 0, 10)
    else tailR b t (hn b 0) (hn b 1).toNat (hn b 2) (hs b 4).at_ ((hs b 4).at_ + (hn b 3).toNat) := by
  subst hb
  unfold decodeR decodeBy
  simp only [hx, ne_eq, not_true_eq_false, if_false]
  rw [if_neg (by rw [head_hs]; simpa using he)]
  rfl
theorem tailR_bad {b : Bytes} {t : UInt8} {first : Int} {n : Nat} {size : Int} {from_ end_ : Nat} (h : (unpack ((b.take end_).drop from_) size).2 ≠ 0 ∨ allRecs t.toNat n (unpack ((b.take end_).drop from_) size).1 = none) : tailR b t first n size from_ end_ = (zeroBlk, 0, 11) := by
  unfold tailR
  dsimp only
  split
  · rename_i hc
    rcases h with h | h
    · exact absurd hc h
    · unfold allRecs finRecs at h
      split at h
      · cases h
      · rename_i hx
        split
        · rename_i l he
          exact absurd he (hx l)
        · rfl
  · rfl
theorem tailR_some {b : Bytes} {t : UInt8} {first : Int} {n : Nat} {size : Int} {from_ end_ : Nat} {l : List Rec} (h0 : (unpack ((b.take end_).drop from_) size).2 = 0) (h : allRecs t.toNat n (unpack ((b.take end_).drop from_) size).1 = some l) :
    tailR b t first n size from_ end_ = (if encode ⟨t.toNat, first, l⟩ = (b.take (end_ + 4), 0) then (⟨t.toNat, first, l⟩, end_ + 4, 0) else (zeroBlk, 0, 11)) ∧ l.length = n ∧ ∀ r ∈ l, RecOk r := by
  unfold allRecs finRecs at h
  split at h
  · rename_i l' he
    simp only [List.nil_append, Option.some.injEq] at h
    subst h
    have ho := getRecs_once (t.toNat : Int) ⟨by omega, by have := byte_lt t; omega⟩ n (-1) _ _ _ he
    refine ⟨?_, ho.1, fun r hr => (ho.2.2 r hr).1⟩
    unfold tailR
    dsimp only
    rw [if_pos h0, he]
  · cases h
set_option maxRecDepth 100000 in
set_option maxHeartbeats 3200000 in
theorem decodeR_any (A : Option Addr) (n c B : Nat) (xs : Bytes) (w : World) (h : Lies w B 1 A n (xs.map bv)) (hB : B ≤ w.heap.size) (hnc : n ≤ c) (hcm : c ≤ maxLen) (ho : A = none → c = 0) (hn6 : n ≤ 1000000) :
    Calls Tryz.prog 29 #[.slice A n c] w (DecOut w (Iv.decode xs)) := by
  rw [decode_same]
  have HL := Lib.hid h.lenB
  have HO := Lib.hid ho
  unfold maxLen at hcm
  obtain ⟨W, hW⟩ : ∃ W, W = w.alloc (.cells #[.int .i64 0, .int .i64 0, .slice none 0 0] 50) := ⟨_, rfl⟩
  have hWg : w.grownBy W none := by rw [hW]; exact World.grownBy_alloc w _ none
  have hb0 : Held W w.heap.size 50 #[.int .i64 0, .int .i64 0, .slice none 0 0] := by rw [hW]; exact Held.new _ _ _
  have HW := Lib.hid hW
  have HB0 := Lib.hid hb0
  have HWG := Lib.hid hWg
  have hLW := h.grown hWg hB (fun _ e => nomatch e)
  have HBW := Lib.hid (Nat.le_trans hB hWg.size)
  have v0 := hb0.cell 0
  have v1 := hb0.cell 1
  have v2 := hb0.cell 2
  have y0 := hb0.free 0
  have y1 := hb0.free 1
  have y2 := hb0.free 2
  clear hW hb0 hWg h
  by_cases h0 : n = 0
  · have hb0 : ((n : Int) == 0) = true := by rw [beq_iff_eq]; omega
    have HF : Hid (decodeR xs = (zeroBlk, 0, 9)) := by
      have : xs = [] := List.eq_nil_of_length_eq_zero (by rw [HL.out]; exact h0)
      rw [this]
      exact Lib.hid rfl
    clear h0 ho
    go_enter Tryz.func29, Tryz.ntmps29
    go_upto_region 1 with fail
    rw [show w.alloc (.cells #[.int .i64 0, .int .i64 0, .slice none 0 0] 50) = W from HW.out.symm]
    go_wp2_with fail
    obtain ⟨s1, s2, _⟩ := stores3 HB0.out HWG.out (Nat.le_refl _) (.int .i64 0) (.int .i64 0) (.slice none 0 0)
    obtain ⟨W9, hW9⟩ : ∃ W9, W9 = ((W.setCell ⟨w.heap.size, 0, none⟩ (.int .i64 0)).setCell ⟨w.heap.size, 1, none⟩ (.int .i64 0)).setCell ⟨w.heap.size, 2, none⟩ (.slice none 0 0) := ⟨_, rfl⟩
    rw [← hW9] at s1 s2
    rw [show ((W.setCell ⟨w.heap.size, 0, none⟩ (.int .i64 0)).setCell ⟨w.heap.size, 1, none⟩ (.int .i64 0)).setCell ⟨w.heap.size, 2, none⟩ (.slice none 0 0) = W9 from hW9.symm]
    have d0 : W9.cell? ⟨w.heap.size, 0, none⟩ = some (.int .i64 0) := s1.cell 0
    have d1 : W9.cell? ⟨w.heap.size, 1, none⟩ = some (.int .i64 0) := s1.cell 1
    have d2 : W9.cell? ⟨w.heap.size, 2, none⟩ = some (.slice none 0 0) := s1.cell 2
    exact bodyPost_ret (v := .tuple #[.agg #[.int .i64 0, .int .i64 0, .slice none 0 0], .int .i64 0, .int .i64 9]) (by simp [results, Tryz.results29, go_sem, d0, d1, d2]) rfl (decOut_bad HF.out s2)
  · have hb0 : ((n : Int) == 0) = false := by rw [beq_eq_false_iff_ne]; omega
    have hnp : 0 < n := by omega
    obtain ⟨ad, x0, hA, _, hx0, hc0⟩ := hLW.byte (k := 0) (by omega)
    subst hA
    rw [show ad.add 0 = ad from by simp [Addr.add]] at hc0
    by_cases h84 : x0.toNat = 84
    · have hne : ((x0.toNat : Int) != 84) = false := by rw [bne_eq_false_iff_eq]; omega
      by_cases h2 : n < 2
      · have HF : Hid (decodeR xs = (zeroBlk, 0, 9)) := by
          have hl := HL.out
          match xs, hx0, hl with
          | [a], hx0, _ =>
            simp only [List.getElem?_cons_zero, Option.some.injEq] at hx0
            subst hx0
            exact Lib.hid (by unfold decodeR decodeBy; simp [h84])
          | _ :: _ :: _, _, hl => exfalso; simp only [List.length_cons] at hl; omega
          | [], hx0, _ => simp at hx0
        clear h0 ho h84 hx0
        go_enter Tryz.func29, Tryz.ntmps29
        go_upto_region 1 with fail
        rw [show w.alloc (.cells #[.int .i64 0, .int .i64 0, .slice none 0 0] 50) = W from HW.out.symm]
        go_wp2_with fail
        obtain ⟨s1, s2, _⟩ := stores3 HB0.out HWG.out (Nat.le_refl _) (.int .i64 0) (.int .i64 0) (.slice none 0 0)
        obtain ⟨W9, hW9⟩ : ∃ W9, W9 = ((W.setCell ⟨w.heap.size, 0, none⟩ (.int .i64 0)).setCell ⟨w.heap.size, 1, none⟩ (.int .i64 0)).setCell ⟨w.heap.size, 2, none⟩ (.slice none 0 0) := ⟨_, rfl⟩
        rw [← hW9] at s1 s2
        rw [show ((W.setCell ⟨w.heap.size, 0, none⟩ (.int .i64 0)).setCell ⟨w.heap.size, 1, none⟩ (.int .i64 0)).setCell ⟨w.heap.size, 2, none⟩ (.slice none 0 0) = W9 from hW9.symm]
        have d0 : W9.cell? ⟨w.heap.size, 0, none⟩ = some (.int .i64 0) := s1.cell 0
        have d1 : W9.cell? ⟨w.heap.size, 1, none⟩ = some (.int .i64 0) := s1.cell 1
        have d2 : W9.cell? ⟨w.heap.size, 2, none⟩ = some (.slice none 0 0) := s1.cell 2
        exact bodyPost_ret (v := .tuple #[.agg #[.int .i64 0, .int .i64 0, .slice none 0 0], .int .i64 0, .int .i64 9]) (by simp [results, Tryz.results29, go_sem, d0, d1, d2]) rfl (decOut_bad HF.out s2)
      · obtain ⟨ad', t1, hA', _, hx1, hc1⟩ := hLW.byte (k := 1) (by omega)
        simp only [Option.some.injEq] at hA'
        subst hA'
        have hxs : ∃ u, xs = x0 :: t1 :: u := by
          match xs, hx0, hx1 with
          | a :: b :: u, hx0, hx1 =>
            simp only [List.getElem?_cons_zero, List.getElem?_cons_succ, Option.some.injEq] at hx0 hx1
            subst hx0 hx1
            exact ⟨u, rfl⟩
          | [a], _, hx1 => simp at hx1
          | [], hx0, _ => simp at hx0
        obtain ⟨u, hxs⟩ := hxs
        have DH := Lib.hid (fun he => decodeR_head (b := xs) hxs h84 he)
        have DR := Lib.hid (fun he => decodeR_rest (b := xs) hxs h84 he)
        have HAT := Lib.hid (fun k => hs_at xs (by rw [HL.out]; omega) k)
        have hn2 : 2 ≤ n := by omega
        have HN2 := Lib.hid hn2
        have HLW := Lib.hid hLW
        have HC1 := Lib.hid hc1
        clear hxs h84 hx0 hx1 h0 h2 ho hLW hc1
        go_enter Tryz.func29, Tryz.ntmps29
        go_upto_region 1 with fail
        rw [show w.alloc (.cells #[.int .i64 0, .int .i64 0, .slice none 0 0] 50) = W from HW.out.symm]
        go_upto_region 8 with fail
        clear hc0
        obtain ⟨W1, hW1⟩ : ∃ W1, W1 = W.alloc (.cells (rdCells (some ad) n c ⟨2, 0⟩) 128) := ⟨_, rfl⟩
        have hg1 : W.grownBy W1 none := by rw [hW1]; exact World.grownBy_alloc W _ none
        have hb1 : Held W1 W.heap.size 128 (rdCells (some ad) n c (hs xs 0)) := by rw [hW1]; exact Held.new _ _ _
        have HG1 := Lib.hid hg1
        have HB1 := Lib.hid hb1
        have HG5 := Lib.hid HB0.out.lt
        have HW1 := Lib.hid hW1
        have CN := Lib.hid (fun (k : Nat) (W' : World) (hh : Held W' W.heap.size 128 (rdCells (some ad) n c (hs xs k))) (hg : W.grownBy W' none) =>
          numberR_any W.heap.size (some ad) n c B xs (hs xs k) W' hh (HLW.out.grown hg HBW.out (fun _ e => nomatch e)) hnc HO.out (by omega) (by have := HAT.out k; rw [HL.out] at this; exact this))
        clear hW1 hg1 hb1 v0 v1 v2 y0 y1 y2
        go_wp2_with fail
        unfold rdCells at HW1
        dsimp only at HW1
        rw [show W.alloc (.cells #[.slice (some ad) n c, .int .i64 2, .int .i64 0] 128) = W1 from HW1.out.symm]
        refine (CN.out 0 W1 HB1.out HG1.out).mono ?_
        rintro e w2 ⟨rfl, h2, g2⟩
        have HB2 : Hid (Held w2 W.heap.size 128 (rdCells (some ad) n c (hs xs 1))) := Lib.hid h2
        have HG2 := Lib.hid (grownBy_trans HG1.out g2 (.inr ⟨_, rfl, Nat.le_refl _⟩))
        obtain ⟨f0, hf0⟩ : ∃ f, f = (rdNum xs (hs xs 0)).1 := ⟨_, rfl⟩
        rw [← hf0]
        have HF0 : Hid (f0 = hn xs 0) := Lib.hid hf0
        clear h2 g2 hf0
        go_wp2_with fail
        refine (CN.out 1 w2 HB2.out HG2.out).mono ?_
        rintro e w3 ⟨rfl, h2, g2⟩
        have HB3 : Hid (Held w3 W.heap.size 128 (rdCells (some ad) n c (hs xs 2))) := Lib.hid h2
        have HG3 := Lib.hid (grownBy_trans HG2.out g2 (.inr ⟨_, rfl, Nat.le_refl _⟩))
        obtain ⟨f1, hf1⟩ : ∃ f, f = (rdNum xs (hs xs 1)).1 := ⟨_, rfl⟩
        rw [← hf1]
        have HF1 : Hid (f1 = hn xs 1) := Lib.hid hf1
        clear h2 g2 hf1
        go_wp2_with fail
        refine (CN.out 2 w3 HB3.out HG3.out).mono ?_
        rintro e w4 ⟨rfl, h2, g2⟩
        have HB4 : Hid (Held w4 W.heap.size 128 (rdCells (some ad) n c (hs xs 3))) := Lib.hid h2
        have HG4 := Lib.hid (grownBy_trans HG3.out g2 (.inr ⟨_, rfl, Nat.le_refl _⟩))
        obtain ⟨f2, hf2⟩ : ∃ f, f = (rdNum xs (hs xs 2)).1 := ⟨_, rfl⟩
        rw [← hf2]
        have HF2 : Hid (f2 = hn xs 2) := Lib.hid hf2
        clear h2 g2 hf2
        go_wp2_with fail
        refine (CN.out 3 w4 HB4.out HG4.out).mono ?_
        rintro e wq ⟨rfl, h2, g2⟩
        have HBR : Hid (Held wq W.heap.size 128 (rdCells (some ad) n c (hs xs 4))) := Lib.hid h2
        have HGW1q := Lib.hid (grownBy_trans HG4.out g2 (.inr ⟨_, rfl, Nat.le_refl _⟩))
        obtain ⟨f3, hf3⟩ : ∃ f, f = (rdNum xs (hs xs 3)).1 := ⟨_, rfl⟩
        rw [← hf3]
        have HF3 : Hid (f3 = hn xs 3) := Lib.hid hf3
        clear h2 g2 hf3
        obtain ⟨a, hae⟩ : ∃ a, a = (hs xs 4).at_ := ⟨_, rfl⟩
        obtain ⟨er, hee⟩ : ∃ er, er = (hs xs 4).err := ⟨_, rfl⟩
        have ha := HAT.out 4
        rw [HL.out, ← hae] at ha
        have r1 : wq.cell? ⟨W.heap.size, 1, none⟩ = some (.int .i64 (a : Int)) := by rw [hae]; exact HBR.out.cell 1
        have r2 : wq.cell? ⟨W.heap.size, 2, none⟩ = some (.int .i64 er) := by rw [hee]; exact HBR.out.cell 2
        have HAE := Lib.hid hae
        have HEE := Lib.hid hee
        have HBq := Lib.hid (HB0.out.grown HGW1q.out (fun e => nomatch e))
        have HGWq := Lib.hid (grownBy_trans HWG.out HGW1q.out (.inl rfl))
        have y0 := HBq.out.free 0
        have y1 := HBq.out.free 1
        have y2 := HBq.out.free 2
        have v0 := HBq.out.cell 0
        have v1 := HBq.out.cell 1
        have v2 := HBq.out.cell 2
        clear hae hee
        by_cases her : er = 0
        · subst her
          have HDR := Lib.hid (DR.out HEE.out.symm)
          have hbad : headBad t1 (getHead xs) = true ↔ 4 ≤ t1.toNat ∨ f0 < 0 ∨ 400 < f0 ∨ f1 < 1 ∨ 64 < f1 ∨ f2 < 0 ∨ 1048576 < f2 ∨ f3 < 0 ∨ 1048576 < f3 := by
            rw [head_hs]
            unfold headBad
            simp only [← HF0.out, ← HF1.out, ← HF2.out, ← HF3.out, Bool.or_eq_true, decide_eq_true_eq]
            omega
          have HBAD := Lib.hid hbad
          rw [← HAE.out, ← HF0.out, ← HF1.out, ← HF2.out, ← HF3.out] at HDR
          have ct : wq.cell? (ad.add 1) = some (.int .u8 (t1.toNat : Int)) := World.grownBy.cell HGW1q.out HC1.out (by simp)
          have ct' : wq.cell? ⟨ad.block, ad.off + 1, none⟩ = some (.int .u8 (t1.toNat : Int)) := by
            have := ct
            simpa [Addr.add] using this
          have hn1 : 1 < n := HN2.out
          have htb := byte_lt t1
          clear hbad ct
          go_upto_region 14 with fail
          by_cases g0 : (4 : Int) ≤ (t1.toNat : Int)
          · have HF : Hid (decodeR xs = (zeroBlk, 0, 11)) := Lib.hid (by rw [HDR.out, if_pos (HBAD.out.2 (by omega))])
            clear r1 r2
            go_wp2_with fail
            obtain ⟨s1, s2, _⟩ := stores3 HBq.out HGWq.out (Nat.le_refl _) (.int .i64 0) (.int .i64 0) (.slice none 0 0)
            obtain ⟨W9, hW9⟩ : ∃ W9, W9 = ((wq.setCell ⟨w.heap.size, 0, none⟩ (.int .i64 0)).setCell ⟨w.heap.size, 1, none⟩ (.int .i64 0)).setCell ⟨w.heap.size, 2, none⟩ (.slice none 0 0) := ⟨_, rfl⟩
            rw [← hW9] at s1 s2
            rw [show ((wq.setCell ⟨w.heap.size, 0, none⟩ (.int .i64 0)).setCell ⟨w.heap.size, 1, none⟩ (.int .i64 0)).setCell ⟨w.heap.size, 2, none⟩ (.slice none 0 0) = W9 from hW9.symm]
            have d0 : W9.cell? ⟨w.heap.size, 0, none⟩ = some (.int .i64 0) := s1.cell 0
            have d1 : W9.cell? ⟨w.heap.size, 1, none⟩ = some (.int .i64 0) := s1.cell 1
            have d2 : W9.cell? ⟨w.heap.size, 2, none⟩ = some (.slice none 0 0) := s1.cell 2
            exact bodyPost_ret (v := .tuple #[.agg #[.int .i64 0, .int .i64 0, .slice none 0 0], .int .i64 0, .int .i64 11]) (by simp [results, Tryz.results29, go_sem, d0, d1, d2]) rfl (decOut_bad HF.out s2)
          · skip
            by_cases g1 : f0 < 0
            · have HF : Hid (decodeR xs = (zeroBlk, 0, 11)) := Lib.hid (by rw [HDR.out, if_pos (HBAD.out.2 (by omega))])
              clear r1 r2
              go_wp2_with fail
              obtain ⟨s1, s2, _⟩ := stores3 HBq.out HGWq.out (Nat.le_refl _) (.int .i64 0) (.int .i64 0) (.slice none 0 0)
              obtain ⟨W9, hW9⟩ : ∃ W9, W9 = ((wq.setCell ⟨w.heap.size, 0, none⟩ (.int .i64 0)).setCell ⟨w.heap.size, 1, none⟩ (.int .i64 0)).setCell ⟨w.heap.size, 2, none⟩ (.slice none 0 0) := ⟨_, rfl⟩
              rw [← hW9] at s1 s2
              rw [show ((wq.setCell ⟨w.heap.size, 0, none⟩ (.int .i64 0)).setCell ⟨w.heap.size, 1, none⟩ (.int .i64 0)).setCell ⟨w.heap.size, 2, none⟩ (.slice none 0 0) = W9 from hW9.symm]
              have d0 : W9.cell? ⟨w.heap.size, 0, none⟩ = some (.int .i64 0) := s1.cell 0
              have d1 : W9.cell? ⟨w.heap.size, 1, none⟩ = some (.int .i64 0) := s1.cell 1
              have d2 : W9.cell? ⟨w.heap.size, 2, none⟩ = some (.slice none 0 0) := s1.cell 2
              exact bodyPost_ret (v := .tuple #[.agg #[.int .i64 0, .int .i64 0, .slice none 0 0], .int .i64 0, .int .i64 11]) (by simp [results, Tryz.results29, go_sem, d0, d1, d2]) rfl (decOut_bad HF.out s2)
            · skip
              by_cases g2 : (400 : Int) < f0
              · have HF : Hid (decodeR xs = (zeroBlk, 0, 11)) := Lib.hid (by rw [HDR.out, if_pos (HBAD.out.2 (by omega))])
                clear r1 r2
                go_wp2_with fail
                obtain ⟨s1, s2, _⟩ := stores3 HBq.out HGWq.out (Nat.le_refl _) (.int .i64 0) (.int .i64 0) (.slice none 0 0)
                obtain ⟨W9, hW9⟩ : ∃ W9, W9 = ((wq.setCell ⟨w.heap.size, 0, none⟩ (.int .i64 0)).setCell ⟨w.heap.size, 1, none⟩ (.int .i64 0)).setCell ⟨w.heap.size, 2, none⟩ (.slice none 0 0) := ⟨_, rfl⟩
                rw [← hW9] at s1 s2
                rw [show ((wq.setCell ⟨w.heap.size, 0, none⟩ (.int .i64 0)).setCell ⟨w.heap.size, 1, none⟩ (.int .i64 0)).setCell ⟨w.heap.size, 2, none⟩ (.slice none 0 0) = W9 from hW9.symm]
                have d0 : W9.cell? ⟨w.heap.size, 0, none⟩ = some (.int .i64 0) := s1.cell 0
                have d1 : W9.cell? ⟨w.heap.size, 1, none⟩ = some (.int .i64 0) := s1.cell 1
                have d2 : W9.cell? ⟨w.heap.size, 2, none⟩ = some (.slice none 0 0) := s1.cell 2
                exact bodyPost_ret (v := .tuple #[.agg #[.int .i64 0, .int .i64 0, .slice none 0 0], .int .i64 0, .int .i64 11]) (by simp [results, Tryz.results29, go_sem, d0, d1, d2]) rfl (decOut_bad HF.out s2)
              · skip
                by_cases g3 : f1 < 1
                · have HF : Hid (decodeR xs = (zeroBlk, 0, 11)) := Lib.hid (by rw [HDR.out, if_pos (HBAD.out.2 (by omega))])
                  clear r1 r2
                  go_wp2_with fail
                  obtain ⟨s1, s2, _⟩ := stores3 HBq.out HGWq.out (Nat.le_refl _) (.int .i64 0) (.int .i64 0) (.slice none 0 0)
                  obtain ⟨W9, hW9⟩ : ∃ W9, W9 = ((wq.setCell ⟨w.heap.size, 0, none⟩ (.int .i64 0)).setCell ⟨w.heap.size, 1, none⟩ (.int .i64 0)).setCell ⟨w.heap.size, 2, none⟩ (.slice none 0 0) := ⟨_, rfl⟩
                  rw [← hW9] at s1 s2
                  rw [show ((wq.setCell ⟨w.heap.size, 0, none⟩ (.int .i64 0)).setCell ⟨w.heap.size, 1, none⟩ (.int .i64 0)).setCell ⟨w.heap.size, 2, none⟩ (.slice none 0 0) = W9 from hW9.symm]
                  have d0 : W9.cell? ⟨w.heap.size, 0, none⟩ = some (.int .i64 0) := s1.cell 0
                  have d1 : W9.cell? ⟨w.heap.size, 1, none⟩ = some (.int .i64 0) := s1.cell 1
                  have d2 : W9.cell? ⟨w.heap.size, 2, none⟩ = some (.slice none 0 0) := s1.cell 2
                  exact bodyPost_ret (v := .tuple #[.agg #[.int .i64 0, .int .i64 0, .slice none 0 0], .int .i64 0, .int .i64 11]) (by simp [results, Tryz.results29, go_sem, d0, d1, d2]) rfl (decOut_bad HF.out s2)
                · skip
                  by_cases g4 : (64 : Int) < f1
                  · have HF : Hid (decodeR xs = (zeroBlk, 0, 11)) := Lib.hid (by rw [HDR.out, if_pos (HBAD.out.2 (by omega))])
                    clear r1 r2
                    go_wp2_with fail
                    obtain ⟨s1, s2, _⟩ := stores3 HBq.out HGWq.out (Nat.le_refl _) (.int .i64 0) (.int .i64 0) (.slice none 0 0)
                    obtain ⟨W9, hW9⟩ : ∃ W9, W9 = ((wq.setCell ⟨w.heap.size, 0, none⟩ (.int .i64 0)).setCell ⟨w.heap.size, 1, none⟩ (.int .i64 0)).setCell ⟨w.heap.size, 2, none⟩ (.slice none 0 0) := ⟨_, rfl⟩
                    rw [← hW9] at s1 s2
                    rw [show ((wq.setCell ⟨w.heap.size, 0, none⟩ (.int .i64 0)).setCell ⟨w.heap.size, 1, none⟩ (.int .i64 0)).setCell ⟨w.heap.size, 2, none⟩ (.slice none 0 0) = W9 from hW9.symm]
                    have d0 : W9.cell? ⟨w.heap.size, 0, none⟩ = some (.int .i64 0) := s1.cell 0
                    have d1 : W9.cell? ⟨w.heap.size, 1, none⟩ = some (.int .i64 0) := s1.cell 1
                    have d2 : W9.cell? ⟨w.heap.size, 2, none⟩ = some (.slice none 0 0) := s1.cell 2
                    exact bodyPost_ret (v := .tuple #[.agg #[.int .i64 0, .int .i64 0, .slice none 0 0], .int .i64 0, .int .i64 11]) (by simp [results, Tryz.results29, go_sem, d0, d1, d2]) rfl (decOut_bad HF.out s2)
                  · skip
                    by_cases g5 : f2 < 0
                    · have HF : Hid (decodeR xs = (zeroBlk, 0, 11)) := Lib.hid (by rw [HDR.out, if_pos (HBAD.out.2 (by omega))])
                      clear r1 r2
                      go_wp2_with fail
                      obtain ⟨s1, s2, _⟩ := stores3 HBq.out HGWq.out (Nat.le_refl _) (.int .i64 0) (.int .i64 0) (.slice none 0 0)
                      obtain ⟨W9, hW9⟩ : ∃ W9, W9 = ((wq.setCell ⟨w.heap.size, 0, none⟩ (.int .i64 0)).setCell ⟨w.heap.size, 1, none⟩ (.int .i64 0)).setCell ⟨w.heap.size, 2, none⟩ (.slice none 0 0) := ⟨_, rfl⟩
                      rw [← hW9] at s1 s2
                      rw [show ((wq.setCell ⟨w.heap.size, 0, none⟩ (.int .i64 0)).setCell ⟨w.heap.size, 1, none⟩ (.int .i64 0)).setCell ⟨w.heap.size, 2, none⟩ (.slice none 0 0) = W9 from hW9.symm]
                      have d0 : W9.cell? ⟨w.heap.size, 0, none⟩ = some (.int .i64 0) := s1.cell 0
                      have d1 : W9.cell? ⟨w.heap.size, 1, none⟩ = some (.int .i64 0) := s1.cell 1
                      have d2 : W9.cell? ⟨w.heap.size, 2, none⟩ = some (.slice none 0 0) := s1.cell 2
                      exact bodyPost_ret (v := .tuple #[.agg #[.int .i64 0, .int .i64 0, .slice none 0 0], .int .i64 0, .int .i64 11]) (by simp [results, Tryz.results29, go_sem, d0, d1, d2]) rfl (decOut_bad HF.out s2)
                    · skip
                      by_cases g6 : (1048576 : Int) < f2
                      · have HF : Hid (decodeR xs = (zeroBlk, 0, 11)) := Lib.hid (by rw [HDR.out, if_pos (HBAD.out.2 (by omega))])
                        clear r1 r2
                        go_wp2_with fail
                        obtain ⟨s1, s2, _⟩ := stores3 HBq.out HGWq.out (Nat.le_refl _) (.int .i64 0) (.int .i64 0) (.slice none 0 0)
                        obtain ⟨W9, hW9⟩ : ∃ W9, W9 = ((wq.setCell ⟨w.heap.size, 0, none⟩ (.int .i64 0)).setCell ⟨w.heap.size, 1, none⟩ (.int .i64 0)).setCell ⟨w.heap.size, 2, none⟩ (.slice none 0 0) := ⟨_, rfl⟩
                        rw [← hW9] at s1 s2
                        rw [show ((wq.setCell ⟨w.heap.size, 0, none⟩ (.int .i64 0)).setCell ⟨w.heap.size, 1, none⟩ (.int .i64 0)).setCell ⟨w.heap.size, 2, none⟩ (.slice none 0 0) = W9 from hW9.symm]
                        have d0 : W9.cell? ⟨w.heap.size, 0, none⟩ = some (.int .i64 0) := s1.cell 0
                        have d1 : W9.cell? ⟨w.heap.size, 1, none⟩ = some (.int .i64 0) := s1.cell 1
                        have d2 : W9.cell? ⟨w.heap.size, 2, none⟩ = some (.slice none 0 0) := s1.cell 2
                        exact bodyPost_ret (v := .tuple #[.agg #[.int .i64 0, .int .i64 0, .slice none 0 0], .int .i64 0, .int .i64 11]) (by simp [results, Tryz.results29, go_sem, d0, d1, d2]) rfl (decOut_bad HF.out s2)
                      · skip
                        by_cases g7 : f3 < 0
                        · have HF : Hid (decodeR xs = (zeroBlk, 0, 11)) := Lib.hid (by rw [HDR.out, if_pos (HBAD.out.2 (by omega))])
                          clear r1 r2
                          go_wp2_with fail
                          obtain ⟨s1, s2, _⟩ := stores3 HBq.out HGWq.out (Nat.le_refl _) (.int .i64 0) (.int .i64 0) (.slice none 0 0)
                          obtain ⟨W9, hW9⟩ : ∃ W9, W9 = ((wq.setCell ⟨w.heap.size, 0, none⟩ (.int .i64 0)).setCell ⟨w.heap.size, 1, none⟩ (.int .i64 0)).setCell ⟨w.heap.size, 2, none⟩ (.slice none 0 0) := ⟨_, rfl⟩
                          rw [← hW9] at s1 s2
                          rw [show ((wq.setCell ⟨w.heap.size, 0, none⟩ (.int .i64 0)).setCell ⟨w.heap.size, 1, none⟩ (.int .i64 0)).setCell ⟨w.heap.size, 2, none⟩ (.slice none 0 0) = W9 from hW9.symm]
                          have d0 : W9.cell? ⟨w.heap.size, 0, none⟩ = some (.int .i64 0) := s1.cell 0
                          have d1 : W9.cell? ⟨w.heap.size, 1, none⟩ = some (.int .i64 0) := s1.cell 1
                          have d2 : W9.cell? ⟨w.heap.size, 2, none⟩ = some (.slice none 0 0) := s1.cell 2
                          exact bodyPost_ret (v := .tuple #[.agg #[.int .i64 0, .int .i64 0, .slice none 0 0], .int .i64 0, .int .i64 11]) (by simp [results, Tryz.results29, go_sem, d0, d1, d2]) rfl (decOut_bad HF.out s2)
                        · skip
                          by_cases g8 : (1048576 : Int) < f3
                          · have HF : Hid (decodeR xs = (zeroBlk, 0, 11)) := Lib.hid (by rw [HDR.out, if_pos (HBAD.out.2 (by omega))])
                            clear r1 r2
                            go_wp2_with fail
                            obtain ⟨s1, s2, _⟩ := stores3 HBq.out HGWq.out (Nat.le_refl _) (.int .i64 0) (.int .i64 0) (.slice none 0 0)
                            obtain ⟨W9, hW9⟩ : ∃ W9, W9 = ((wq.setCell ⟨w.heap.size, 0, none⟩ (.int .i64 0)).setCell ⟨w.heap.size, 1, none⟩ (.int .i64 0)).setCell ⟨w.heap.size, 2, none⟩ (.slice none 0 0) := ⟨_, rfl⟩
                            rw [← hW9] at s1 s2
                            rw [show ((wq.setCell ⟨w.heap.size, 0, none⟩ (.int .i64 0)).setCell ⟨w.heap.size, 1, none⟩ (.int .i64 0)).setCell ⟨w.heap.size, 2, none⟩ (.slice none 0 0) = W9 from hW9.symm]
                            have d0 : W9.cell? ⟨w.heap.size, 0, none⟩ = some (.int .i64 0) := s1.cell 0
                            have d1 : W9.cell? ⟨w.heap.size, 1, none⟩ = some (.int .i64 0) := s1.cell 1
                            have d2 : W9.cell? ⟨w.heap.size, 2, none⟩ = some (.slice none 0 0) := s1.cell 2
                            exact bodyPost_ret (v := .tuple #[.agg #[.int .i64 0, .int .i64 0, .slice none 0 0], .int .i64 0, .int .i64 11]) (by simp [results, Tryz.results29, go_sem, d0, d1, d2]) rfl (decOut_bad HF.out s2)
                          · skip
                            have hnb : ¬ headBad t1 (getHead xs) = true := by rw [HBAD.out]; omega
                            have HNB : Hid (headBad t1 (getHead xs) = false) := Lib.hid (by simpa using hnb)
                            clear hnb
                            rw [HNB.out] at HDR
                            simp only [Bool.false_eq_true, if_false] at HDR
                            obtain ⟨N, rfl⟩ : ∃ N : Nat, f1 = (N : Int) := ⟨f1.toNat, by omega⟩
                            obtain ⟨P, rfl⟩ : ∃ P : Nat, f3 = (P : Int) := ⟨f3.toNat, by omega⟩
                            rw [Int.toNat_natCast, Int.toNat_natCast] at HDR
                            have bf0 : 0 ≤ f0 ∧ f0 ≤ 400 ∧ 0 ≤ f2 ∧ f2 ≤ 1048576 ∧ N ≤ 64 ∧ P ≤ 1048576 := by omega
                            obtain ⟨b0, b1, b2, b3, b4, b5⟩ := bf0
                            obtain ⟨E, hEd⟩ : ∃ E, E = a + P := ⟨_, rfl⟩
                            have hEE : (a : Int) + (P : Int) = (E : Int) := by omega
                            have aE : a ≤ E := by omega
                            rw [← hEd] at HDR
                            have hneg' : w.heap.size ≠ W.heap.size := Nat.ne_of_lt HG5.out
                            by_cases hE : n < E + 4
                            · have HF : Hid (decodeR xs = (zeroBlk, 0, 9)) := Lib.hid (by rw [HDR.out, if_pos (by rw [HL.out]; exact hE)])
                              have hlt9 : (n : Int) - (a : Int) < (P : Int) + 4 := by omega
                              clear hEd hE
                              go_wp2_with fail
                              obtain ⟨s1, s2, _⟩ := stores3 HBq.out HGWq.out (Nat.le_refl _) (.int .i64 0) (.int .i64 0) (.slice none 0 0)
                              obtain ⟨W9, hW9⟩ : ∃ W9, W9 = ((wq.setCell ⟨w.heap.size, 0, none⟩ (.int .i64 0)).setCell ⟨w.heap.size, 1, none⟩ (.int .i64 0)).setCell ⟨w.heap.size, 2, none⟩ (.slice none 0 0) := ⟨_, rfl⟩
                              rw [← hW9] at s1 s2
                              rw [show ((wq.setCell ⟨w.heap.size, 0, none⟩ (.int .i64 0)).setCell ⟨w.heap.size, 1, none⟩ (.int .i64 0)).setCell ⟨w.heap.size, 2, none⟩ (.slice none 0 0) = W9 from hW9.symm]
                              have d0 : W9.cell? ⟨w.heap.size, 0, none⟩ = some (.int .i64 0) := s1.cell 0
                              have d1 : W9.cell? ⟨w.heap.size, 1, none⟩ = some (.int .i64 0) := s1.cell 1
                              have d2 : W9.cell? ⟨w.heap.size, 2, none⟩ = some (.slice none 0 0) := s1.cell 2
                              exact bodyPost_ret (v := .tuple #[.agg #[.int .i64 0, .int .i64 0, .slice none 0 0], .int .i64 0, .int .i64 9]) (by simp [results, Tryz.results29, go_sem, d0, d1, d2]) rfl (decOut_bad HF.out s2)
                            · rw [if_neg (by rw [HL.out]; exact hE)] at HDR
                              have En : E + 4 ≤ n := by omega
                              have hnE : ¬ (n : Int) - (a : Int) < (P : Int) + 4 := by omega
                              clear hE hEd
                              go_upto_region 19 with fail
                              have LQ := HLW.out.grown HGW1q.out HBW.out (fun _ e => nomatch e)
                              have hzs : ∃ z0 z1 z2 z3 : UInt8, (xs.drop E).take 4 = [z0, z1, z2, z3] ∧ wq.cell? (ad.add E) = some (.int .u8 (z0.toNat : Int)) ∧ wq.cell? ⟨ad.block, ad.off + (E + 1), none⟩ = some (.int .u8 (z1.toNat : Int)) ∧
                                  wq.cell? ⟨ad.block, ad.off + (E + 2), none⟩ = some (.int .u8 (z2.toNat : Int)) ∧ wq.cell? ⟨ad.block, ad.off + (E + 3), none⟩ = some (.int .u8 (z3.toNat : Int)) := by
                                obtain ⟨a0, z0, e0, _, x0, c0⟩ := LQ.byte (k := E) (by omega)
                                obtain ⟨a1, z1, e1, _, x1, c1⟩ := LQ.byte (k := E + 1) (by omega)
                                obtain ⟨a2, z2, e2, _, x2, c2⟩ := LQ.byte (k := E + 2) (by omega)
                                obtain ⟨a3, z3, e3, _, x3, c3⟩ := LQ.byte (k := E + 3) (by omega)
                                simp only [Option.some.injEq] at e0 e1 e2 e3
                                subst e0 e1 e2 e3
                                refine ⟨z0, z1, z2, z3, ?_, c0, by simpa [Addr.add] using c1, by simpa [Addr.add] using c2, by simpa [Addr.add] using c3⟩
                                rw [drop_cons x0, drop_cons x1, drop_cons x2, drop_cons x3]
                                rfl
                              obtain ⟨z0, z1, z2, z3, hz4, e0, e1, e2, e3⟩ := hzs
                              obtain ⟨s0, s1, s2, s3, hs4⟩ := sum4_parts (crc (xs.take E))
                              have hcut : Lies wq B 1 (some ad) E ((xs.take E).map bv) := by
                                have := LQ.take (m := E) (by omega)
                                rwa [Nat.mul_one, ← List.map_take] at this
                              have CSB := Lib.hid (sumR_any (some ad) E c (xs.take E) wq B hcut (by omega))
                              have hcl := crc_lt (xs.take E)
                              have hsc := sum4_cells (crc (xs.take E)) hcl
                              rw [hs4] at hsc
                              simp only [List.map_cons, List.map_nil, bv] at hsc
                              simp only [Array.mk.injEq, List.cons.injEq, and_true, Value.int.injEq, true_and] at hsc
                              obtain ⟨t0, t1', t2, t3⟩ := hsc
                              obtain ⟨s, hs⟩ : ∃ s, s = crc (xs.take E) := ⟨_, rfl⟩
                              rw [← hs] at CSB hcl t0 t1' t2 t3
                              have HZ4 := Lib.hid hz4
                              have HS4 := Lib.hid hs4
                              have T0 := Lib.hid t0
                              have T1 := Lib.hid t1'
                              have T2 := Lib.hid t2
                              have T3 := Lib.hid t3
                              have ec : (E : Int) ≤ (c : Int) := by omega
                              have e4 : (E : Int) + 4 ≤ (n : Int) := by omega
                              clear hs hz4 hs4 hcut t0 t1' t2 t3
                              go_upto_region 20 with (first | (go_at_call 48; refine CSB.out.mono ?_; rintro e w9 ⟨rfl, rfl⟩))
                              by_cases j0 : z0 = s0
                              rotate_left
                              · have q0 : ((z0.toNat : Int) != (s : Int) / 16777216) = true := by rw [T0.out, bne_iff_ne]; intro h; exact j0 (u8_eq (by omega))
                                have hne4 : [z0, z1, z2, z3] ≠ [s0, s1, s2, s3] := by intro h; simp only [List.cons.injEq, and_true] at h; exact j0 h.1
                                have HF : Hid (decodeR xs = (zeroBlk, 0, 10)) := Lib.hid (by rw [HDR.out, if_pos (by rw [HZ4.out, HS4.out]; exact hne4)])
                                clear hne4 j0 r1 r2 ct'
                                go_wp2_with fail
                                obtain ⟨s1, s2, _⟩ := stores3 HBq.out HGWq.out (Nat.le_refl _) (.int .i64 0) (.int .i64 0) (.slice none 0 0)
                                obtain ⟨W9, hW9⟩ : ∃ W9, W9 = ((wq.setCell ⟨w.heap.size, 0, none⟩ (.int .i64 0)).setCell ⟨w.heap.size, 1, none⟩ (.int .i64 0)).setCell ⟨w.heap.size, 2, none⟩ (.slice none 0 0) := ⟨_, rfl⟩
                                rw [← hW9] at s1 s2
                                rw [show ((wq.setCell ⟨w.heap.size, 0, none⟩ (.int .i64 0)).setCell ⟨w.heap.size, 1, none⟩ (.int .i64 0)).setCell ⟨w.heap.size, 2, none⟩ (.slice none 0 0) = W9 from hW9.symm]
                                have d0 : W9.cell? ⟨w.heap.size, 0, none⟩ = some (.int .i64 0) := s1.cell 0
                                have d1 : W9.cell? ⟨w.heap.size, 1, none⟩ = some (.int .i64 0) := s1.cell 1
                                have d2 : W9.cell? ⟨w.heap.size, 2, none⟩ = some (.slice none 0 0) := s1.cell 2
                                exact bodyPost_ret (v := .tuple #[.agg #[.int .i64 0, .int .i64 0, .slice none 0 0], .int .i64 0, .int .i64 10]) (by simp [results, Tryz.results29, go_sem, d0, d1, d2]) rfl (decOut_bad HF.out s2)
                              have q0 : ((z0.toNat : Int) != (s : Int) / 16777216) = false := by rw [T0.out, bne_eq_false_iff_eq, j0]
                              have J0 := Lib.hid j0
                              clear j0
                              by_cases j1 : z1 = s1
                              rotate_left
                              · have q1 : ((z1.toNat : Int) != (s : Int) / 65536 % 256) = true := by rw [T1.out, bne_iff_ne]; intro h; exact j1 (u8_eq (by omega))
                                have hne4 : [z0, z1, z2, z3] ≠ [s0, s1, s2, s3] := by intro h; simp only [List.cons.injEq, and_true] at h; exact j1 h.2.1
                                have HF : Hid (decodeR xs = (zeroBlk, 0, 10)) := Lib.hid (by rw [HDR.out, if_pos (by rw [HZ4.out, HS4.out]; exact hne4)])
                                clear hne4 j1 r1 r2 ct'
                                go_wp2_with fail
                                obtain ⟨s1, s2, _⟩ := stores3 HBq.out HGWq.out (Nat.le_refl _) (.int .i64 0) (.int .i64 0) (.slice none 0 0)
                                obtain ⟨W9, hW9⟩ : ∃ W9, W9 = ((wq.setCell ⟨w.heap.size, 0, none⟩ (.int .i64 0)).setCell ⟨w.heap.size, 1, none⟩ (.int .i64 0)).setCell ⟨w.heap.size, 2, none⟩ (.slice none 0 0) := ⟨_, rfl⟩
                                rw [← hW9] at s1 s2
                                rw [show ((wq.setCell ⟨w.heap.size, 0, none⟩ (.int .i64 0)).setCell ⟨w.heap.size, 1, none⟩ (.int .i64 0)).setCell ⟨w.heap.size, 2, none⟩ (.slice none 0 0) = W9 from hW9.symm]
                                have d0 : W9.cell? ⟨w.heap.size, 0, none⟩ = some (.int .i64 0) := s1.cell 0
                                have d1 : W9.cell? ⟨w.heap.size, 1, none⟩ = some (.int .i64 0) := s1.cell 1
                                have d2 : W9.cell? ⟨w.heap.size, 2, none⟩ = some (.slice none 0 0) := s1.cell 2
                                exact bodyPost_ret (v := .tuple #[.agg #[.int .i64 0, .int .i64 0, .slice none 0 0], .int .i64 0, .int .i64 10]) (by simp [results, Tryz.results29, go_sem, d0, d1, d2]) rfl (decOut_bad HF.out s2)
                              have q1 : ((z1.toNat : Int) != (s : Int) / 65536 % 256) = false := by rw [T1.out, bne_eq_false_iff_eq, j1]
                              have J1 := Lib.hid j1
                              clear j1
                              by_cases j2 : z2 = s2
                              rotate_left
                              · have q2 : ((z2.toNat : Int) != (s : Int) / 256 % 256) = true := by rw [T2.out, bne_iff_ne]; intro h; exact j2 (u8_eq (by omega))
                                have hne4 : [z0, z1, z2, z3] ≠ [s0, s1, s2, s3] := by intro h; simp only [List.cons.injEq, and_true] at h; exact j2 h.2.2.1
                                have HF : Hid (decodeR xs = (zeroBlk, 0, 10)) := Lib.hid (by rw [HDR.out, if_pos (by rw [HZ4.out, HS4.out]; exact hne4)])
                                clear hne4 j2 r1 r2 ct'
                                go_wp2_with fail
                                obtain ⟨s1, s2, _⟩ := stores3 HBq.out HGWq.out (Nat.le_refl _) (.int .i64 0) (.int .i64 0) (.slice none 0 0)
                                obtain ⟨W9, hW9⟩ : ∃ W9, W9 = ((wq.setCell ⟨w.heap.size, 0, none⟩ (.int .i64 0)).setCell ⟨w.heap.size, 1, none⟩ (.int .i64 0)).setCell ⟨w.heap.size, 2, none⟩ (.slice none 0 0) := ⟨_, rfl⟩
                                rw [← hW9] at s1 s2
                                rw [show ((wq.setCell ⟨w.heap.size, 0, none⟩ (.int .i64 0)).setCell ⟨w.heap.size, 1, none⟩ (.int .i64 0)).setCell ⟨w.heap.size, 2, none⟩ (.slice none 0 0) = W9 from hW9.symm]
                                have d0 : W9.cell? ⟨w.heap.size, 0, none⟩ = some (.int .i64 0) := s1.cell 0
                                have d1 : W9.cell? ⟨w.heap.size, 1, none⟩ = some (.int .i64 0) := s1.cell 1
                                have d2 : W9.cell? ⟨w.heap.size, 2, none⟩ = some (.slice none 0 0) := s1.cell 2
                                exact bodyPost_ret (v := .tuple #[.agg #[.int .i64 0, .int .i64 0, .slice none 0 0], .int .i64 0, .int .i64 10]) (by simp [results, Tryz.results29, go_sem, d0, d1, d2]) rfl (decOut_bad HF.out s2)
                              have q2 : ((z2.toNat : Int) != (s : Int) / 256 % 256) = false := by rw [T2.out, bne_eq_false_iff_eq, j2]
                              have J2 := Lib.hid j2
                              clear j2
                              by_cases j3 : z3 = s3
                              rotate_left
                              · have q3 : ((z3.toNat : Int) != (s : Int) % 256) = true := by rw [T3.out, bne_iff_ne]; intro h; exact j3 (u8_eq (by omega))
                                have hne4 : [z0, z1, z2, z3] ≠ [s0, s1, s2, s3] := by intro h; simp only [List.cons.injEq, and_true] at h; exact j3 h.2.2.2
                                have HF : Hid (decodeR xs = (zeroBlk, 0, 10)) := Lib.hid (by rw [HDR.out, if_pos (by rw [HZ4.out, HS4.out]; exact hne4)])
                                clear hne4 j3 r1 r2 ct'
                                go_wp2_with fail
                                obtain ⟨s1, s2, _⟩ := stores3 HBq.out HGWq.out (Nat.le_refl _) (.int .i64 0) (.int .i64 0) (.slice none 0 0)
                                obtain ⟨W9, hW9⟩ : ∃ W9, W9 = ((wq.setCell ⟨w.heap.size, 0, none⟩ (.int .i64 0)).setCell ⟨w.heap.size, 1, none⟩ (.int .i64 0)).setCell ⟨w.heap.size, 2, none⟩ (.slice none 0 0) := ⟨_, rfl⟩
                                rw [← hW9] at s1 s2
                                rw [show ((wq.setCell ⟨w.heap.size, 0, none⟩ (.int .i64 0)).setCell ⟨w.heap.size, 1, none⟩ (.int .i64 0)).setCell ⟨w.heap.size, 2, none⟩ (.slice none 0 0) = W9 from hW9.symm]
                                have d0 : W9.cell? ⟨w.heap.size, 0, none⟩ = some (.int .i64 0) := s1.cell 0
                                have d1 : W9.cell? ⟨w.heap.size, 1, none⟩ = some (.int .i64 0) := s1.cell 1
                                have d2 : W9.cell? ⟨w.heap.size, 2, none⟩ = some (.slice none 0 0) := s1.cell 2
                                exact bodyPost_ret (v := .tuple #[.agg #[.int .i64 0, .int .i64 0, .slice none 0 0], .int .i64 0, .int .i64 10]) (by simp [results, Tryz.results29, go_sem, d0, d1, d2]) rfl (decOut_bad HF.out s2)
                              have q3 : ((z3.toNat : Int) != (s : Int) % 256) = false := by rw [T3.out, bne_eq_false_iff_eq, j3]
                              have J3 := Lib.hid j3
                              clear j3
                              rw [if_neg (by rw [HZ4.out, HS4.out, J0.out, J1.out, J2.out, J3.out]; simp)] at HDR
                              have haE : ¬ c = a := by omega
                              have cai : (0 : Int) ≤ (a : Int) := by omega
                              have cae : (a : Int) ≤ (E : Int) := by omega
                              obtain ⟨tv, htv⟩ : ∃ tv : Int, tv = (t1.toNat : Int) := ⟨_, rfl⟩
                              have tv0 : 0 ≤ tv := by omega
                              have tv4 : tv < 4 := by omega
                              have ctq : wq.cell? ⟨ad.block, ad.off + 1, none⟩ = some (.int .u8 tv) := by rw [htv]; exact ct'
                              have HTV := Lib.hid htv
                              have hBq : B ≤ wq.heap.size := Nat.le_trans HBW.out HGW1q.out.size
                              have hcut2 : Lies wq B 1 (some (ad.add a)) (E - a) (((xs.take E).drop a).map bv) := by
                                have h1 := LQ.take (m := E) (by omega)
                                have h2 := h1.drop (k := a) (by omega)
                                rw [Nat.mul_one, Nat.mul_one, ← List.map_take, ← List.map_drop] at h2
                                exact h2
                              have CU := Lib.hid (unpackR_any (some (ad.add a)) (E - a) (c - a) B ((xs.take E).drop a) f2 wq hcut2 hBq (by omega) (by omega) ⟨by omega, by omega⟩ wq.heap.size (Nat.le_refl _))
                              have hul := unpack_len ((xs.take E).drop a) f2
                              rw [hcut2.lenB] at hul
                              obtain ⟨ps, er, hu⟩ : ∃ ps er, unpack ((xs.take E).drop a) f2 = (ps, er) := ⟨_, _, rfl⟩
                              rw [hu] at CU hul
                              dsimp only at CU hul
                              have HU := Lib.hid hu
                              clear htv ct' LQ hcut2 hu v0 v1 v2 y0 y1 y2
                              go_upto_region 22 with fail
                              clear q0 q1 q2 q3 e0 e1 e2 e3
                              go_wp2_with fail
                              refine CU.out.mono ?_
                              rintro e w5 ⟨v5, rfl, hown5, hg5, hat5⟩
                              obtain ⟨A5, c5, hv5, hn5, hm5, hl5, ho5⟩ := own_slice hown5
                              subst hv5
                              have ct5 : w5.cell? ⟨ad.block, ad.off + 1, none⟩ = some (.int .u8 tv) := World.grownBy.cell hg5 ctq (by simp)
                              have CRR := Lib.hid (recordsR_any A5 ps.length c5 ps N tv w5 hl5 hn5 ho5 (by omega) (by omega) ⟨by omega, by omega⟩)
                              have HCT := Lib.hid ctq
                              clear hown5 hl5 r1 r2 ctq
                              go_wp2_with fail
                              clear ct5
                              refine CRR.out.mono ?_
                              rintro e w6 ⟨A6, n6, c6, rs, ok, rfl, hR6, hg6, hn6', hm6, ho6, hres⟩
                              have hg56 := grownBy_trans hg5 hg6 (.inl rfl)
                              have ct6 : w6.cell? ⟨ad.block, ad.off + 1, none⟩ = some (.int .u8 tv) := World.grownBy.cell hg56 HCT.out (by simp)
                              obtain ⟨W7, hW7⟩ : ∃ W7, W7 = w6.alloc (.cells #[.int .i64 tv, .int .i64 f0, .slice A6 n6 c6] 50) := ⟨_, rfl⟩
                              have hg67 : w6.grownBy W7 none := by rw [hW7]; exact World.grownBy_alloc w6 _ none
                              have hb7 : Held W7 w6.heap.size 50 #[.int .i64 tv, .int .i64 f0, .slice A6 n6 c6] := by rw [hW7]; exact Held.new _ _ _
                              have hg57 := grownBy_trans hg56 hg67 (.inl rfl)
                              have HW7 := Lib.hid hW7
                              have HX7 := Lib.hid hb7
                              have HR7 := Lib.hid (hR6.keep hg67 (fun _ e => nomatch e))
                              have HBB7 := Lib.hid (HBq.out.grown hg57 (fun e => nomatch e))
                              have HGc7 := Lib.hid (grownBy_trans HGWq.out hg57 (.inl rfl))
                              have HGW7 := Lib.hid (grownBy_trans HGW1q.out hg57 (.inl rfl))
                              have HLO := Lib.hid (show w.heap.size ≤ w5.heap.size from (grownBy_trans HGWq.out hg5 (.inl rfl)).size)
                              have HLT := Lib.hid (show w.heap.size < w5.heap.size from Nat.lt_of_lt_of_le HBq.out.lt hg5.size)
                              have HRES := Lib.hid hres
                              have x0c : W7.cell? ⟨w6.heap.size, 0, none⟩ = some (.int .i64 tv) := hb7.cell 0
                              have x1c : W7.cell? ⟨w6.heap.size, 1, none⟩ = some (.int .i64 f0) := hb7.cell 1
                              have x2c : W7.cell? ⟨w6.heap.size, 2, none⟩ = some (.slice A6 n6 c6) := hb7.cell 2
                              have y0 := HBB7.out.free 0
                              have y1 := HBB7.out.free 1
                              have y2 := HBB7.out.free 2
                              have v0 := HBB7.out.cell 0
                              have v1 := HBB7.out.cell 1
                              have v2 := HBB7.out.cell 2
                              clear hW7 hb7 hR6 hres
                              go_upto_region 25 with fail
                              rw [show w6.alloc (.cells #[.int .i64 tv, .int .i64 f0, .slice A6 n6 c6] 50) = W7 from HW7.out.symm]
                              clear ct6
                              by_cases her : er = 0
                              rotate_left
                              · have hbe : (er != 0) = true := by rw [bne_iff_ne]; exact her
                                have HF : Hid (decodeR xs = (zeroBlk, 0, 11)) := Lib.hid (by rw [HDR.out, tailR_bad (.inl (by rw [HU.out]; exact her))])
                                clear her x0c x1c x2c
                                go_wp2_with fail
                                obtain ⟨s1, s2, _⟩ := stores3 HBB7.out HGc7.out (Nat.le_refl _) (.int .i64 0) (.int .i64 0) (.slice none 0 0)
                                obtain ⟨W9, hW9⟩ : ∃ W9, W9 = ((W7.setCell ⟨w.heap.size, 0, none⟩ (.int .i64 0)).setCell ⟨w.heap.size, 1, none⟩ (.int .i64 0)).setCell ⟨w.heap.size, 2, none⟩ (.slice none 0 0) := ⟨_, rfl⟩
                                rw [← hW9] at s1 s2
                                rw [show ((W7.setCell ⟨w.heap.size, 0, none⟩ (.int .i64 0)).setCell ⟨w.heap.size, 1, none⟩ (.int .i64 0)).setCell ⟨w.heap.size, 2, none⟩ (.slice none 0 0) = W9 from hW9.symm]
                                have d0 : W9.cell? ⟨w.heap.size, 0, none⟩ = some (.int .i64 0) := s1.cell 0
                                have d1 : W9.cell? ⟨w.heap.size, 1, none⟩ = some (.int .i64 0) := s1.cell 1
                                have d2 : W9.cell? ⟨w.heap.size, 2, none⟩ = some (.slice none 0 0) := s1.cell 2
                                exact bodyPost_ret (v := .tuple #[.agg #[.int .i64 0, .int .i64 0, .slice none 0 0], .int .i64 0, .int .i64 11]) (by simp [results, Tryz.results29, go_sem, d0, d1, d2]) rfl (decOut_bad HF.out s2)
                              subst her
                              cases ok with
                              | false =>
                                have HF : Hid (decodeR xs = (zeroBlk, 0, 11)) := Lib.hid (by rw [HDR.out, tailR_bad (.inr (by rw [HU.out, ← HTV.out]; exact HRES.out))])
                                clear x0c x1c x2c
                                go_wp2_with fail
                                obtain ⟨s1, s2, _⟩ := stores3 HBB7.out HGc7.out (Nat.le_refl _) (.int .i64 0) (.int .i64 0) (.slice none 0 0)
                                obtain ⟨W9, hW9⟩ : ∃ W9, W9 = ((W7.setCell ⟨w.heap.size, 0, none⟩ (.int .i64 0)).setCell ⟨w.heap.size, 1, none⟩ (.int .i64 0)).setCell ⟨w.heap.size, 2, none⟩ (.slice none 0 0) := ⟨_, rfl⟩
                                rw [← hW9] at s1 s2
                                rw [show ((W7.setCell ⟨w.heap.size, 0, none⟩ (.int .i64 0)).setCell ⟨w.heap.size, 1, none⟩ (.int .i64 0)).setCell ⟨w.heap.size, 2, none⟩ (.slice none 0 0) = W9 from hW9.symm]
                                have d0 : W9.cell? ⟨w.heap.size, 0, none⟩ = some (.int .i64 0) := s1.cell 0
                                have d1 : W9.cell? ⟨w.heap.size, 1, none⟩ = some (.int .i64 0) := s1.cell 1
                                have d2 : W9.cell? ⟨w.heap.size, 2, none⟩ = some (.slice none 0 0) := s1.cell 2
                                exact bodyPost_ret (v := .tuple #[.agg #[.int .i64 0, .int .i64 0, .slice none 0 0], .int .i64 0, .int .i64 11]) (by simp [results, Tryz.results29, go_sem, d0, d1, d2]) rfl (decOut_bad HF.out s2)
                              | true =>
                                obtain ⟨ht1, ht2, ht3⟩ := tailR_some (b := xs) (t := t1) (first := f0) (n := N) (size := f2) (from_ := a) (end_ := E) (l := rs) (by rw [HU.out]) (by rw [HU.out, ← HTV.out]; exact HRES.out)
                                rw [ht1, ← HTV.out] at HDR
                                have CE := Lib.hid (encodeR_any ⟨tv, f0, rs⟩ A6 n6 c6 W7.heap.size W7 HR7.out.recs (Nat.le_refl _) (fun r hr => nums_ok (ht3 r hr)) W7.heap.size (Nat.le_refl _))
                                have hel := encode_len (x := ⟨tv, f0, rs⟩) (fun r hr => nums_ok (ht3 r hr))
                                obtain ⟨ys, er, hys⟩ : ∃ ys er, encode ⟨tv, f0, rs⟩ = (ys, er) := ⟨_, _, rfl⟩
                                have HYS := Lib.hid hys
                                rw [hys] at HDR hel
                                dsimp only at hel
                                clear ht1 ht2 ht3 hys v0 v1 v2 y0 y1 y2
                                go_wp2_with fail
                                refine CE.out.mono ?_
                                rintro e w8 ⟨v8, rfl, hown8, hg8⟩
                                rw [HYS.out] at hown8 ⊢
                                dsimp only at hown8 ⊢
                                obtain ⟨A8, c8, hv8, hn8, hm8, hl8, ho8⟩ := own_slice hown8
                                subst hv8
                                have HL8 := Lib.hid hl8
                                have HB8 := Lib.hid (HBB7.out.grown hg8 (fun e => nomatch e))
                                have HG8 := Lib.hid (grownBy_trans HGc7.out hg8 (.inl rfl))
                                have HX8 := Lib.hid (HX7.out.grown hg8 (fun e => nomatch e))
                                have HR8 := Lib.hid (HR7.out.keep hg8 (fun _ e => nomatch e))
                                have y0 := HB8.out.free 0
                                have y1 := HB8.out.free 1
                                have y2 := HB8.out.free 2
                                have v0 := HB8.out.cell 0
                                have v1 := HB8.out.cell 1
                                have v2 := HB8.out.cell 2
                                clear x0c x1c x2c hown8 hl8
                                by_cases her : er = 0
                                rotate_left
                                · have hbe : (er != 0) = true := by rw [bne_iff_ne]; exact her
                                  have HF : Hid (decodeR xs = (zeroBlk, 0, 11)) := Lib.hid (by rw [HDR.out, if_neg (fun hh => her (Prod.mk.inj hh).2)])
                                  clear her
                                  go_wp2_with fail
                                  obtain ⟨s1, s2, _⟩ := stores3 HB8.out HG8.out (Nat.le_refl _) (.int .i64 0) (.int .i64 0) (.slice none 0 0)
                                  obtain ⟨W9, hW9⟩ : ∃ W9, W9 = ((w8.setCell ⟨w.heap.size, 0, none⟩ (.int .i64 0)).setCell ⟨w.heap.size, 1, none⟩ (.int .i64 0)).setCell ⟨w.heap.size, 2, none⟩ (.slice none 0 0) := ⟨_, rfl⟩
                                  rw [← hW9] at s1 s2
                                  rw [show ((w8.setCell ⟨w.heap.size, 0, none⟩ (.int .i64 0)).setCell ⟨w.heap.size, 1, none⟩ (.int .i64 0)).setCell ⟨w.heap.size, 2, none⟩ (.slice none 0 0) = W9 from hW9.symm]
                                  have d0 : W9.cell? ⟨w.heap.size, 0, none⟩ = some (.int .i64 0) := s1.cell 0
                                  have d1 : W9.cell? ⟨w.heap.size, 1, none⟩ = some (.int .i64 0) := s1.cell 1
                                  have d2 : W9.cell? ⟨w.heap.size, 2, none⟩ = some (.slice none 0 0) := s1.cell 2
                                  exact bodyPost_ret (v := .tuple #[.agg #[.int .i64 0, .int .i64 0, .slice none 0 0], .int .i64 0, .int .i64 11]) (by simp [results, Tryz.results29, go_sem, d0, d1, d2]) rfl (decOut_bad HF.out s2)
                                subst her
                                have hcut4 : Lies w8 B 1 (some ad) (E + 4) ((xs.take (E + 4)).map bv) := by
                                  have h1 := (HLW.out.grown (grownBy_trans HGW7.out hg8 (.inl rfl)) HBW.out (fun _ e => nomatch e)).take (m := E + 4) (by omega)
                                  rw [Nat.mul_one, ← List.map_take] at h1
                                  exact h1
                                have CQ := Lib.hid (same_any A8 (some ad) ys.length (E + 4) c8 c ys (xs.take (E + 4)) w8 (max w8.heap.size B) (HL8.out.more (Nat.le_max_left _ _)) (hcut4.more (Nat.le_max_right _ _)) hel (by omega))
                                have ec4 : (E : Int) + 4 ≤ (c : Int) := by omega
                                clear hcut4
                                by_cases hq : ys = xs.take (E + 4)
                                rotate_left
                                · have HF : Hid (decodeR xs = (zeroBlk, 0, 11)) := Lib.hid (by rw [HDR.out, if_neg (fun hh => hq (Prod.mk.inj hh).1)])
                                  rw [decide_eq_false hq] at CQ
                                  clear hq
                                  go_upto_region 28 with fail
                                  clear v0 v1 v2 y0 y1 y2
                                  go_upto_region 29 with (first | (go_at_call 51; refine CQ.out.mono ?_; rintro e w9 ⟨rfl, q, rfl⟩))
                                  obtain ⟨wz, hwz⟩ : ∃ wz, wz = w8.drewN q := ⟨_, rfl⟩
                                  rw [show w8.drewN q = wz from hwz.symm]
                                  have HB9 : Hid (Held wz w.heap.size 50 #[.int .i64 0, .int .i64 0, .slice none 0 0]) := by rw [hwz]; exact Lib.hid (HB8.out.drewN q)
                                  have HG9 : Hid (w.grownBy wz none) := by rw [hwz]; exact Lib.hid (grown_toDrewN HG8.out q)
                                  have y0 := HB9.out.free 0
                                  have y1 := HB9.out.free 1
                                  have y2 := HB9.out.free 2
                                  have v0 := HB9.out.cell 0
                                  have v1 := HB9.out.cell 1
                                  have v2 := HB9.out.cell 2
                                  clear hwz
                                  go_wp2_with fail
                                  obtain ⟨s1, s2, _⟩ := stores3 HB9.out HG9.out (Nat.le_refl _) (.int .i64 0) (.int .i64 0) (.slice none 0 0)
                                  obtain ⟨W9, hW9⟩ : ∃ W9, W9 = ((wz.setCell ⟨w.heap.size, 0, none⟩ (.int .i64 0)).setCell ⟨w.heap.size, 1, none⟩ (.int .i64 0)).setCell ⟨w.heap.size, 2, none⟩ (.slice none 0 0) := ⟨_, rfl⟩
                                  rw [← hW9] at s1 s2
                                  rw [show ((wz.setCell ⟨w.heap.size, 0, none⟩ (.int .i64 0)).setCell ⟨w.heap.size, 1, none⟩ (.int .i64 0)).setCell ⟨w.heap.size, 2, none⟩ (.slice none 0 0) = W9 from hW9.symm]
                                  have d0 : W9.cell? ⟨w.heap.size, 0, none⟩ = some (.int .i64 0) := s1.cell 0
                                  have d1 : W9.cell? ⟨w.heap.size, 1, none⟩ = some (.int .i64 0) := s1.cell 1
                                  have d2 : W9.cell? ⟨w.heap.size, 2, none⟩ = some (.slice none 0 0) := s1.cell 2
                                  exact bodyPost_ret (v := .tuple #[.agg #[.int .i64 0, .int .i64 0, .slice none 0 0], .int .i64 0, .int .i64 11]) (by simp [results, Tryz.results29, go_sem, d0, d1, d2]) rfl (decOut_bad HF.out s2)
                                have HD : Hid (decodeR xs = (⟨tv, f0, rs⟩, E + 4, 0)) := Lib.hid (by rw [HDR.out, if_pos (by rw [hq])])
                                rw [decide_eq_true hq] at CQ
                                clear hq v0 v1 v2 y0 y1 y2
                                go_upto_region 30 with (first | (go_at_call 51; refine CQ.out.mono ?_; rintro e w9 ⟨rfl, q, rfl⟩))
                                obtain ⟨wz, hwz⟩ : ∃ wz, wz = w8.drewN q := ⟨_, rfl⟩
                                rw [show w8.drewN q = wz from hwz.symm]
                                have hB9 : Held wz w.heap.size 50 #[.int .i64 0, .int .i64 0, .slice none 0 0] := by rw [hwz]; exact HB8.out.drewN q
                                have hG9 : w.grownBy wz none := by rw [hwz]; exact grown_toDrewN HG8.out q
                                have hX9 : Held wz w6.heap.size 50 #[.int .i64 tv, .int .i64 f0, .slice A6 n6 c6] := by rw [hwz]; exact HX8.out.drewN q
                                have hR9 : RecsNew wz w5.heap.size A6 n6 rs := by rw [hwz]; exact HR8.out.keep (grown_toDrewN (World.grownBy.refl w8 none) q) (fun _ e => nomatch e)
                                have y0 := hB9.free 0
                                have y1 := hB9.free 1
                                have y2 := hB9.free 2
                                have v0 := hB9.cell 0
                                have v1 := hB9.cell 1
                                have v2 := hB9.cell 2
                                have x0c : wz.cell? ⟨w6.heap.size, 0, none⟩ = some (.int .i64 tv) := hX9.cell 0
                                have x1c : wz.cell? ⟨w6.heap.size, 1, none⟩ = some (.int .i64 f0) := hX9.cell 1
                                have x2c : wz.cell? ⟨w6.heap.size, 2, none⟩ = some (.slice A6 n6 c6) := hX9.cell 2
                                have HR9 := Lib.hid hR9
                                clear hwz hR9
                                go_wp2_with fail
                                obtain ⟨s1, s2, s3⟩ := stores3 hB9 hG9 (Nat.le_refl _) (.int .i64 tv) (.int .i64 f0) (.slice A6 n6 c6)
                                have hR10 := (HR9.out.keep s3 (fun g e => by injection e with e; have := HLT.out; omega)).lower HLO.out
                                obtain ⟨W9, hW9⟩ : ∃ W9, W9 = ((wz.setCell ⟨w.heap.size, 0, none⟩ (.int .i64 tv)).setCell ⟨w.heap.size, 1, none⟩ (.int .i64 f0)).setCell ⟨w.heap.size, 2, none⟩ (.slice A6 n6 c6) := ⟨_, rfl⟩
                                rw [← hW9] at s1 s2 hR10
                                rw [show ((wz.setCell ⟨w.heap.size, 0, none⟩ (.int .i64 tv)).setCell ⟨w.heap.size, 1, none⟩ (.int .i64 f0)).setCell ⟨w.heap.size, 2, none⟩ (.slice A6 n6 c6) = W9 from hW9.symm]
                                have d0 : W9.cell? ⟨w.heap.size, 0, none⟩ = some (.int .i64 tv) := s1.cell 0
                                have d1 : W9.cell? ⟨w.heap.size, 1, none⟩ = some (.int .i64 f0) := s1.cell 1
                                have d2 : W9.cell? ⟨w.heap.size, 2, none⟩ = some (.slice A6 n6 c6) := s1.cell 2
                                clear s3 hW9
                                refine bodyPost_ret (v := .tuple #[.agg #[.int .i64 tv, .int .i64 f0, .slice A6 n6 c6], .int .i64 ((E : Int) + 4), .int .i64 0]) (by simp [results, Tryz.results29, go_sem, d0, d1, d2]) rfl ?_
                                rw [HD.out]
                                exact ⟨A6, n6, c6, rfl, hR10, s2, hn6', hm6, ho6⟩
        · have hbe : (er != 0) = true := by rw [bne_iff_ne]; exact her
          have HF : Hid (decodeR xs = (zeroBlk, 0, er)) := Lib.hid (by rw [DH.out (by rw [← HEE.out]; exact her), ← HEE.out])
          clear her
          go_upto_region 13 with fail
          have hn0 : ¬ W.heap.size = w.heap.size := Nat.ne_of_gt HG5.out
          have hn0' : ¬ w.heap.size = W.heap.size := Nat.ne_of_lt HG5.out
          go_region
          all_goals
            go_wp2_with fail
            obtain ⟨s1, s2, _⟩ := stores3 HBq.out HGWq.out (Nat.le_refl _) (.int .i64 0) (.int .i64 0) (.slice none 0 0)
            replace s1 := s1.drew
            replace s2 := grown_toDrew s2
            obtain ⟨W9, hW9⟩ : ∃ W9, W9 = (((wq.setCell ⟨w.heap.size, 0, none⟩ (.int .i64 0)).setCell ⟨w.heap.size, 1, none⟩ (.int .i64 0)).setCell ⟨w.heap.size, 2, none⟩ (.slice none 0 0)).drew := ⟨_, rfl⟩
            rw [← hW9] at s1 s2
            rw [show (((wq.setCell ⟨w.heap.size, 0, none⟩ (.int .i64 0)).setCell ⟨w.heap.size, 1, none⟩ (.int .i64 0)).setCell ⟨w.heap.size, 2, none⟩ (.slice none 0 0)).drew = W9 from hW9.symm]
            have d0 : W9.cell? ⟨w.heap.size, 0, none⟩ = some (.int .i64 0) := s1.cell 0
            have d1 : W9.cell? ⟨w.heap.size, 1, none⟩ = some (.int .i64 0) := s1.cell 1
            have d2 : W9.cell? ⟨w.heap.size, 2, none⟩ = some (.slice none 0 0) := s1.cell 2
            exact bodyPost_ret (v := .tuple #[.agg #[.int .i64 0, .int .i64 0, .slice none 0 0], .int .i64 0, .int .i64 er]) (by simp [results, Tryz.results29, go_sem, d0, d1, d2]) rfl (decOut_bad HF.out s2)
    · have hne : ((x0.toNat : Int) != 84) = true := by rw [bne_iff_ne]; omega
      have HF : Hid (decodeR xs = (zeroBlk, 0, 11)) := by
        cases xs with
        | nil => simp at hx0
        | cons a u =>
          simp only [List.getElem?_cons_zero, Option.some.injEq] at hx0
          subst hx0
          exact Lib.hid (by unfold decodeR decodeBy; simp [h84])
      clear h0 ho h84 hx0
      go_enter Tryz.func29, Tryz.ntmps29
      go_upto_region 1 with fail
      rw [show w.alloc (.cells #[.int .i64 0, .int .i64 0, .slice none 0 0] 50) = W from HW.out.symm]
      go_wp2_with fail
      obtain ⟨s1, s2, _⟩ := stores3 HB0.out HWG.out (Nat.le_refl _) (.int .i64 0) (.int .i64 0) (.slice none 0 0)
      obtain ⟨W9, hW9⟩ : ∃ W9, W9 = ((W.setCell ⟨w.heap.size, 0, none⟩ (.int .i64 0)).setCell ⟨w.heap.size, 1, none⟩ (.int .i64 0)).setCell ⟨w.heap.size, 2, none⟩ (.slice none 0 0) := ⟨_, rfl⟩
      rw [← hW9] at s1 s2
      rw [show ((W.setCell ⟨w.heap.size, 0, none⟩ (.int .i64 0)).setCell ⟨w.heap.size, 1, none⟩ (.int .i64 0)).setCell ⟨w.heap.size, 2, none⟩ (.slice none 0 0) = W9 from hW9.symm]
      have d0 : W9.cell? ⟨w.heap.size, 0, none⟩ = some (.int .i64 0) := s1.cell 0
      have d1 : W9.cell? ⟨w.heap.size, 1, none⟩ = some (.int .i64 0) := s1.cell 1
      have d2 : W9.cell? ⟨w.heap.size, 2, none⟩ = some (.slice none 0 0) := s1.cell 2
      exact bodyPost_ret (v := .tuple #[.agg #[.int .i64 0, .int .i64 0, .slice none 0 0], .int .i64 0, .int .i64 11]) (by simp [results, Tryz.results29, go_sem, d0, d1, d2]) rfl (decOut_bad HF.out s2)
end Go.Proofs.YtfbkkgfkhhibfaaGreat
