/- The walk of RecordCuts. -/
import Derived.Test.YtaiaoiochbpmfaaGreatTrd
import Derived.Test.YtaiaoiochbpmfaaGreatLaw14s
import Derived.Test.YtaiaoiochbpmfaaGreatRrow
import Derived.Test.YtaiaoiochbpmfaaGreatAlc
import Derived.Test.YtaiaoiochbpmfaaGreatRcp
namespace Go.Proofs.YtaiaoiochbpmfaaGreat
open Go Go.RowKit Iv
set_option linter.unusedVariables false
set_option linter.unusedSimpArgs false
theorem min_if (z n : Nat) : (if z < n then (z : Int) else (n : Int)) = ((min z n : Nat) : Int) := by split <;> omega
theorem sub_min (L z P : Nat) (h : P = L - z) : (L : Int) - ((min z L : Nat) : Int) = (P : Int) := by omega
theorem wrap_len {P : Nat} (h : P ≤ 4000000) : wrap64 (P : Int) = (P : Int) := IntWalk.wrap64_in _ (by omega)
set_option maxRecDepth 100000 in
set_option maxHeartbeats 3200000 in
theorem recordCuts_of (hTC : TraceC) (hPC : PlanC) (A1 : Option Addr) (n1 c1 : Nat) (xs : Bytes) (A2 : Option Addr) (n2 c2 : Nat) (ys : Bytes) (a3 a4 : Int) (A3 : Option Addr) (n3 c3 : Nat) (fs : Bytes) (A4 : Option Addr) (n4 c4 : Nat) (us : Bytes) (w : World) (hL1 : Lies w w.heap.size 1 A1 n1 (xs.map bv)) (hnc1 : n1 ≤ c1) (hcm1 : c1 ≤ maxLen) (ho1 : A1 = none → c1 = 0) (hL2 : Lies w w.heap.size 1 A2 n2 (ys.map bv)) (hnc2 : n2 ≤ c2) (hcm2 : c2 ≤ maxLen) (ho2 : A2 = none → c2 = 0) (hf3 : 0 ≤ a3 ∧ a3 ≤ 255) (hf4 : 0 ≤ a4 ∧ a4 ≤ 255) (hL3 : Lies w w.heap.size 1 A3 n3 (fs.map bv)) (hnc3 : n3 ≤ c3) (hcm3 : c3 ≤ maxLen) (hL4 : Lies w w.heap.size 1 A4 n4 (us.map bv)) (hnc4 : n4 ≤ c4) (hcm4 : c4 ≤ maxLen) :
    Calls Tryz.prog 9 #[.slice A1 n1 c1, .slice A2 n2 c2, .agg #[.int .u8 a3, .int .u8 a4, .slice A3 n3 c3, .slice A4 n4 c4]] w fun e w' => e = .returned (.bool true) ∧ Below w.heap.size w w' := by
  have HTC := Lib.hid hTC
  have HPC := Lib.hid hPC
  clear ho1 ho2 hTC hPC
  obtain ⟨cap, rfl⟩ : ∃ cap : Nat, a3 = (cap : Int) := ⟨a3.toNat, by omega⟩
  obtain ⟨stop, rfl⟩ : ∃ stop : Nat, a4 = (stop : Int) := ⟨a4.toNat, by omega⟩
  obtain ⟨W, hW⟩ : ∃ W, W = w.alloc (.cells #[.int .u8 (cap : Int), .int .u8 (stop : Int), .slice A3 n3 c3, .slice A4 n4 c4] 24) := ⟨_, rfl⟩
  have hWg : w.grownBy W none := by rw [hW]; exact World.grownBy_alloc w _ none
  have hb0 : Held W w.heap.size 24 #[.int .u8 (cap : Int), .int .u8 (stop : Int), .slice A3 n3 c3, .slice A4 n4 c4] := by rw [hW]; exact Held.new _ _ _
  have HW := Lib.hid hW
  have HB0 := Lib.hid hb0
  have HWG := Lib.hid hWg
  have HBEL := Lib.hid (fun (W' : World) (hg : w.grownBy W' none) => belGr (Below.refl w.heap.size w) hg)
  by_cases hb1 : 200 < n1
  · clear hL1 hL2 hL3 hL4 hcm1 hcm2 hcm3 hcm4 hnc1 hnc2 hnc3 hnc4 hb0 hWg hW
    go_enter Tryz.func9, Tryz.ntmps9
    go_upto_region 1 with fail
    rw [show w.alloc _ = W from HW.out.symm]
    go_wp2_with fail
    go_ret
    exact ⟨rfl, HBEL.out _ HWG.out⟩
  by_cases hb2 : 100 < n2
  · clear hL1 hL2 hL3 hL4 hcm1 hcm2 hcm3 hcm4 hnc1 hnc2 hnc3 hnc4 hb0 hWg hW
    go_enter Tryz.func9, Tryz.ntmps9
    go_upto_region 1 with fail
    rw [show w.alloc _ = W from HW.out.symm]
    go_wp2_with fail
    go_ret
    exact ⟨rfl, HBEL.out _ HWG.out⟩
  have CT := Lib.hid (HTC.out W A1 n1 c1 w.heap.size xs (hL1.grown hWg (Nat.le_refl _) (fun _ e => nomatch e)) hnc1 (by omega) A2 n2 c2 w.heap.size ys (hL2.grown hWg (Nat.le_refl _) (fun _ e => nomatch e)) hnc2 (by omega))
  have CN := Lib.hid (fun (W' : World) (hg : w.grownBy W' none) (n : Nat) (h1 : 1 ≤ n) (h4 : n ≤ 4) => HPC.out W' n cap stop h1 h4 (by omega) (by omega) A3 n3 c3 w.heap.size fs (hL3.grown hg (Nat.le_refl _) (fun _ e => nomatch e)) hnc3 hcm3 A4 n4 c4 w.heap.size us (hL4.grown hg (Nat.le_refl _) (fun _ e => nomatch e)) hnc4 hcm4)
  have hn2 : n2 ≤ 100 := by omega
  have HN2 := Lib.hid hn2
  clear hL1 hL2 hL3 hL4 hcm1 hcm2 hcm3 hcm4 hnc1 hnc2 hnc3 hnc4 hb0 hWg hW hf3 hf4
  go_enter Tryz.func9, Tryz.ntmps9
  go_upto_region 1 with fail
  rw [show w.alloc _ = W from HW.out.symm]
  go_wp2_with fail
  refine CT.out.mono ?_
  rintro e wt ⟨a0, a1, a2, a3, a4, a5, A, c0, c1', c2', c3', c4', c5, c, n, k, l, rfl, htr, gt⟩
  have HTR := Lib.hid htr
  have GT := Lib.hid (grown_then HWG.out gt)
  obtain ⟨W5, hW5⟩ : ∃ W5, W5 = wt.alloc (.cells #[.slice a0 5 c0, .slice a1 3 c1', .slice a2 1 c2', .slice a3 1 c3', .slice a4 n c4', .slice a5 k c5, .slice A l.length c] 34) := ⟨_, rfl⟩
  have hb5 : Held W5 wt.heap.size 34 #[.slice a0 5 c0, .slice a1 3 c1', .slice a2 1 c2', .slice a3 1 c3', .slice a4 n c4', .slice a5 k c5, .slice A l.length c] := by rw [hW5]; exact Held.new _ _ _
  have hg5 : wt.grownBy W5 none := by rw [hW5]; exact World.grownBy_alloc wt _ none
  have HW5 := Lib.hid hW5
  have HB5 := Lib.hid hb5
  have G5 := Lib.hid hg5
  have GA := Lib.hid (grown_then gt hg5)
  clear hW5 hb5 hg5 gt htr
  go_upto_region 4 with fail
  rw [show wt.alloc _ = W5 from HW5.out.symm]
  have hN5 := HB0.out.grown GA.out (fun e => nomatch e)
  have f0 := hN5.cell 0
  have f1 := hN5.cell 1
  have f2 := hN5.cell 2
  have f3 := hN5.cell 3
  have t4 := HB5.out.cell 4
  have t6 := HB5.out.cell 6
  clear hN5
  go_wp2_with fail
  refine (CN.out W5 (grown_then GT.out G5.out) n HTR.out.n1 HTR.out.n4).mono ?_
  rintro e wp ⟨p, Af, cf, Ac, cc, rfl, hp, hF, hC, gp⟩
  clear f0 f1 f2 f3
  unfold planV
  obtain ⟨W6, hW6⟩ : ∃ W6, W6 = wp.alloc (.cells #[.int .i64 p.cap, .slice Af p.flushes.length cf, .int .i64 p.stop, .slice Ac p.cuts.length cc] 39) := ⟨_, rfl⟩
  have hb6 : Held W6 wp.heap.size 39 #[.int .i64 p.cap, .slice Af p.flushes.length cf, .int .i64 p.stop, .slice Ac p.cuts.length cc] := by rw [hW6]; exact Held.new _ _ _
  have hg6 : wp.grownBy W6 none := by rw [hW6]; exact World.grownBy_alloc wp _ none
  have HW6 := Lib.hid hW6
  have gW6 := grown_then gp hg6
  have hE : Evs wt wt.heap.size A l.length l := HTR.out.evs
  have hl100 : l.length ≤ 100 := Nat.le_trans HTR.out.len HN2.out
  have hnum := made_fit HTR.out.n4 hl100 HTR.out.ok
  have g56 := grown_then G5.out gW6
  have hz6 : wp.heap.size ≤ W6.heap.size := hg6.size
  have hzt : wt.heap.size ≤ wp.heap.size := (grown_then G5.out gp).size
  have hEp : ∀ W' : World, wp.grownBy W' none → Evs W' wp.heap.size A l.length l := fun W' hg => by
    have := hE.grown (grown_then (grown_then G5.out gp) hg) (Nat.le_refl _) (fun _ e => nomatch e)
    exact ⟨this.1, fun k e hk => by
      obtain ⟨b, o, Ad, cd, Af, cf, q1, q2, q3, q4, q5⟩ := this.2 k e hk
      exact ⟨b, o, Ad, cd, Af, cf, q1, by omega, q3, q4.more hzt, q5.more hzt⟩⟩
  obtain ⟨cap', fl', st', cu'⟩ := p
  have her1 : filesErr l n ⟨cap', fl', st', cu'⟩ = 0 := made_good HTR.out.n1 HTR.out.n4 hp hl100 HTR.out.ok
  have her : filesErr l n ⟨cap', fl', st', []⟩ = 0 := made_good HTR.out.n1 HTR.out.n4 (plnG_nocut hp) hl100 HTR.out.ok
  have hs0 : 0 ≤ st' := hp.s0
  have hs1 : st' ≤ 255 := hp.s1
  have hfl20 : fl'.length ≤ 20 := hp.fl
  have hcl4 : cu'.length ≤ n := hp.cl
  have hck : ∀ q ∈ cu', 0 ≤ q ∧ q ≤ 255 := hp.ck
  have hn4 : n ≤ 4 := HTR.out.n4
  have CP := Lib.hid (fun (W' : World) (hg : wp.grownBy W' none) => filesP_any l A l.length c n ⟨cap', fl', st', []⟩ Af fl'.length cf none 0 0 wp.heap.size W' (hEp W' hg) (hF.grown hg (Nat.le_refl _) (fun _ e => nomatch e)) (by exact ⟨rfl, fun h => absurd h (Nat.lt_irrefl 0)⟩) hg.size (by omega) (by omega) (by omega) hnum ⟨⟨by dsimp only; omega, by dsimp only; omega⟩, fun q hq => nomatch hq⟩)
  have CP1 := Lib.hid (fun (W' : World) (hg : wp.grownBy W' none) => filesP_any l A l.length c n ⟨cap', fl', st', cu'⟩ Af fl'.length cf Ac cu'.length cc wp.heap.size W' (hEp W' hg) (hF.grown hg (Nat.le_refl _) (fun _ e => nomatch e)) (hC.grown hg (Nat.le_refl _) (fun _ e => nomatch e)) hg.size (by omega) (by omega) (by omega) hnum ⟨⟨by dsimp only; omega, by dsimp only; omega⟩, fun q hq => by have := hck q hq; exact ⟨by omega, by omega⟩⟩)
  have HB6 := Lib.hid hb6
  have GP6 := Lib.hid hg6
  have FT := Lib.hid (fun (W' : World) (hg : wp.grownBy W' none) => HB5.out.grown (grown_then gp hg) (fun e => nomatch e))
  have FC := Lib.hid (fun (W' : World) (hg : wp.grownBy W' none) => hC.grown hg (Nat.le_refl _) (fun _ e => nomatch e))
  have G6 := Lib.hid (grown_then (grown_then GT.out G5.out) gp)
  have HNUM := Lib.hid hnum
  have HER := Lib.hid her
  have HER1 := Lib.hid her1
  have HCK := Lib.hid hck
  clear hW6 hg6 gW6 hE hnum her her1 g56 hz6 hzt hEp hp hF hC gp t4 t6 hl100 hs0 hs1 hfl20 hb6 hcl4 hck hn4
  go_upto_region 5 with fail
  rw [show wp.alloc _ = W6 from HW6.out.symm]
  have hT := FT.out W6 GP6.out
  have f0 := HB6.out.cell 0
  have f1 := HB6.out.cell 1
  have f2 := HB6.out.cell 2
  have f3 := HB6.out.cell 3
  have t4 := hT.cell 4
  have t6 := hT.cell 6
  clear hT
  go_wp2_with fail
  refine (CP1.out W6 GP6.out).mono ?_
  rintro e w2 ⟨v2, rfl, hg2, hbad2, hgood2⟩
  rw [HER1.out] at hbad2 hgood2 ⊢
  obtain ⟨t2, g2, vf2, ht2, rfl, hF2⟩ := hgood2 rfl
  obtain rfl : n = t2 := by omega
  have hb2 := HB6.out.grown hg2 (fun e => nomatch e)
  have gp2 := grown_then GP6.out hg2
  obtain ⟨W7, hW7⟩ : ∃ W7, W7 = w2.setCell ⟨wp.heap.size, 3, none⟩ (.slice none 0 0) := ⟨_, rfl⟩
  have hb7 : Held W7 wp.heap.size 39 #[.int .i64 cap', .slice Af fl'.length cf, .int .i64 st', .slice none 0 0] := by rw [hW7]; exact hb2.store 3 (.slice none 0 0)
  have gs7 : w2.grownBy W7 (some wp.heap.size) := by rw [hW7]; exact grown_store w2 wp.heap.size 3 _
  have gp7 : wp.grownBy W7 none := grown_row2 gp2 gs7 (fun g e => by injection e with e; omega)
  have hlt6 : wp.heap.size < W6.heap.size := HB6.out.lt
  have hF7 := hF2.row gs7 hlt6
  have HW7 := Lib.hid hW7
  have HB7 := Lib.hid hb7
  have GP7 := Lib.hid gp7
  have HF7 := Lib.hid hF7
  clear f0 f1 f2 f3 t4 t6 hbad2 hgood2 hF2 hW7 gp2 gs7 gp7 hlt6 hF7 hb7 hg2 ht2
  have f3 := hb2.cell 3
  have z3 := hb2.free 3
  clear hb2
  go_upto_region 8 with fail
  rw [show w2.setCell _ _ = W7 from HW7.out.symm]
  clear f3 z3
  have hT := FT.out W7 GP7.out
  have f0 := HB7.out.cell 0
  have f1 := HB7.out.cell 1
  have f2 := HB7.out.cell 2
  have f3 := HB7.out.cell 3
  have t4 := hT.cell 4
  have t6 := hT.cell 6
  clear hT
  go_wp2_with fail
  refine (CP.out W7 GP7.out).mono ?_
  rintro e w3 ⟨v3, rfl, hg3, hbad3, hgood3⟩
  rw [HER.out] at hbad3 hgood3 ⊢
  obtain ⟨t3, g3, vf3, ht3, rfl, hF3⟩ := hgood3 rfl
  obtain rfl : n = t3 := by omega
  have HF3 := Lib.hid hF3
  have HF2 := Lib.hid (HF7.out.keep hg3)
  have hT3 := FT.out w3 (grown_then GP7.out hg3)
  have HC3 := Lib.hid (FC.out w3 (grown_then GP7.out hg3))
  have HG3 := Lib.hid (grown_then (grown_then G6.out GP7.out) hg3)
  clear f0 f1 f2 f3 t4 t6 hbad3 hgood3 hF3 hg3 ht3
  have t4 := hT3.cell 4
  clear hT3
  obtain ⟨fa, hfa⟩ : ∃ fa, fa = filesOf l ⟨cap', fl', st', cu'⟩ := ⟨_, rfl⟩
  obtain ⟨fb, hfb⟩ : ∃ fb, fb = filesOf l ⟨cap', fl', st', []⟩ := ⟨_, rfl⟩
  rw [← hfa] at HF2
  rw [← hfb] at HF3
  have hgr : ∀ t, fa t = match cu'[t]? with | some x => cutFile (fb t) x | none => fb t := fun t => by rw [hfa, hfb]; exact files_cut l ⟨cap', fl', st', cu'⟩ t
  obtain ⟨tt, cq, htt, hpg⟩ := planGood HER.out
  obtain rfl : tt = n := by omega
  have hln : ∀ t, t < tt → (fb t).length ≤ 4000000 := fun t ht => by rw [hfb]; exact hpg.fileLen HNUM.out t ht
  have HGR := Lib.hid hgr
  have HLN := Lib.hid hln
  have HN4 := Lib.hid HTR.out.n4
  have htn : ((tt : Int) != (tt : Int)) = false := by simp
  have htt4 : tt ≤ 4 := HN4.out
  clear hfa hfb hgr htt hpg hln
  go_upto_region 11 with fail
  clear t4
  go_wp2_with fail
  go_loopw [14] (fun iv wr => ∃ k q : Nat, iv = .int .i64 (k : Int) ∧ k ≤ tt ∧ wr = w3.drewN q) (fun iv _ => tt - (intOf iv).toNat)
  case atStart => exact ⟨0, 0, rfl, Nat.zero_le _, rfl⟩
  case round =>
    obtain ⟨k, q, rfl, hk, rfl⟩ := hrel
    by_cases hlt : k < tt
    · obtain ⟨B1, d1, hv1, n1', m1, l1, _⟩ := own_slice (HF2.out.own k hlt)
      obtain ⟨B2, d2, hv2, n2', m2, l2, _⟩ := own_slice (HF3.out.own k hlt)
      have x1 : (w3.drewN q).cell? ⟨g2, k, none⟩ = some (.slice B1 (fa k).length d1) := by
        have := (HF2.out.h.drewN q).cell k
        rw [this, fam_get _ hlt, hv1]
      have x2 : (w3.drewN q).cell? ⟨g3, k, none⟩ = some (.slice B2 (fb k).length d2) := by
        have := (HF3.out.h.drewN q).cell k
        rw [this, fam_get _ hlt, hv2]
      have i0 : (0 : Int) ≤ (k : Int) := by omega
      have i1 : (k : Int) < (tt : Int) := by omega
      have hl4 := HLN.out k hlt
      have hfk := HGR.out k
      have hpp : (((fa k).length : Int) != ((fa k).length : Int)) = false := by simp
      have hb0 : (0 : Int) ≤ ((fa k).length : Int) := by omega
      by_cases hck : k < cu'.length
      · obtain ⟨ad, z, hA, _, hz, hcell⟩ := HC3.out.int hck
        have hz2 := HCK.out z (List.mem_of_getElem? hz)
        obtain ⟨zn, rfl⟩ : ∃ zn : Nat, z = (zn : Int) := ⟨z.toNat, by omega⟩
        simp only [hz] at hfk
        unfold cutFile at hfk
        rw [Int.toNat_natCast] at hfk
        have hP : (fa k).length = (fb k).length - zn := by rw [hfk, List.length_take]; omega
        have lt2 : Lies w3 w3.heap.size 1 B2 (fa k).length ((fa k).map bv) := by
          have := l2.take (m := (fa k).length) (by omega)
          rw [Nat.mul_one, ← List.map_take, hP, ← hfk, ← hP] at this
          exact this
        subst hA
        have x3 : (w3.drewN q).cell? (ad.add k) = some (.int .i64 (zn : Int)) := hcell
        have i2 : (k : Int) < (cu'.length : Int) := by omega
        clear hcell hz hz2
        have hb1 : ((fa k).length : Int) ≤ (d2 : Int) := by omega
        have HS := Lib.hid (fun q2 => same_yes B1 B2 (fa k).length (fa k).length d1 d2 (fa k) (w3.drewN q2) _ _ (l1.drewN q2) (lt2.drewN q2) (by omega) (by omega))
        have hif : (if zn < (fb k).length then (zn : Int) else ((fb k).length : Int)) = ((min zn (fb k).length : Nat) : Int) := min_if zn (fb k).length
        have hsub : ((fb k).length : Int) - ((min zn (fb k).length : Nat) : Int) = ((fa k).length : Int) := sub_min _ _ _ hP
        have hwr : wrap64 ((fa k).length : Int) = ((fa k).length : Int) := wrap_len (by omega)
        clear hv1 hv2 l1 l2 lt2 hfk hl4 hP
        go_upto_region 17 with fail
        go_region_held3 (fun w' => w'.cell? ⟨g2, k, none⟩ = some (.slice B1 (fa k).length d1) ∧ w'.cell? ⟨g3, k, none⟩ = some (.slice B2 (fb k).length d2))
          (exact And.intro x1 x2)
          (first | (go_at_call 22; ((with_reducible refine (HS.out _).mono ?_); rintro e w2 ⟨rfl, q2, rfl⟩)) | fail)
        go_wp2_with fail
        go_roundw
        case rel => exact ⟨k + 1, _, by go_num, by omega, rfl⟩
        case measure => simp [intOf]; omega
      · have hn : cu'[k]? = none := List.getElem?_eq_none_iff.2 (by omega)
        simp only [hn] at hfk
        have lt2 : Lies w3 w3.heap.size 1 B2 (fa k).length ((fa k).map bv) := by rw [hfk]; exact l2
        rw [← hfk] at x2
        have i2 : ¬ (k : Int) < (cu'.length : Int) := by omega
        have hl5 : (fa k).length ≤ 4000000 := by rw [hfk]; exact hl4
        have m5 : (fa k).length ≤ d2 := by rw [hfk]; exact n2'
        clear hn
        have hb1 : ((fa k).length : Int) ≤ (d2 : Int) := by omega
        have HS := Lib.hid (fun q2 => same_yes B1 B2 (fa k).length (fa k).length d1 d2 (fa k) (w3.drewN q2) _ _ (l1.drewN q2) (lt2.drewN q2) (by omega) (by omega))
        clear hv1 hv2 l1 l2 lt2 hfk hl4
        go_upto_region 17 with fail
        go_region_held3 (fun w' => w'.cell? ⟨g2, k, none⟩ = some (.slice B1 (fa k).length d1) ∧ w'.cell? ⟨g3, k, none⟩ = some (.slice B2 (fa k).length d2))
          (exact And.intro x1 x2)
          (first | (go_at_call 22; ((with_reducible refine (HS.out _).mono ?_); rintro e w2 ⟨rfl, q2, rfl⟩)) | fail)
        go_wp2_with fail
        go_roundw
        case rel => exact ⟨k + 1, _, by go_num, by omega, rfl⟩
        case measure => simp [intOf]; omega
    · go_wp2_with (first | (go_at_call 16; refine (awake14_any _).mono ?_; rintro e w5 ⟨rfl, hg5⟩) | fail)
      go_ret
      exact ⟨rfl, HBEL.out _ (grown_then (grown_toDrewN HG3.out q) hg5)⟩
end Go.Proofs.YtaiaoiochbpmfaaGreat
