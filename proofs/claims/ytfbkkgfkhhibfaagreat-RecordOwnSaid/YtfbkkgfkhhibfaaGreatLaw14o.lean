/- The walk of RecordOwn. -/
import Derived.Test.YtfbkkgfkhhibfaaGreatTrd
import Derived.Test.YtfbkkgfkhhibfaaGreatAw14
import Derived.Test.YtfbkkgfkhhibfaaGreatRrow
import Derived.Test.YtfbkkgfkhhibfaaGreatAlc
import Derived.Test.YtfbkkgfkhhibfaaGreatRcp
import Derived.Test.YtfbkkgfkhhibfaaGreatBlR
namespace Go.Proofs.YtfbkkgfkhhibfaaGreat
open Go Go.RowKit Iv
set_option linter.unusedVariables false
set_option linter.unusedSimpArgs false
set_option maxRecDepth 100000 in
set_option maxHeartbeats 3200000 in
theorem recordOwn_of (hTC : TraceC) (hPC : PlanC) (A1 : Option Addr) (n1 c1 : Nat) (xs : Bytes) (A2 : Option Addr) (n2 c2 : Nat) (ys : Bytes) (a3 a4 : Int) (A3 : Option Addr) (n3 c3 : Nat) (fs : Bytes) (A4 : Option Addr) (n4 c4 : Nat) (us : Bytes) (a5 : Int) (w : World) (hL1 : Lies w w.heap.size 1 A1 n1 (xs.map bv)) (hnc1 : n1 ≤ c1) (hcm1 : c1 ≤ maxLen) (ho1 : A1 = none → c1 = 0) (hL2 : Lies w w.heap.size 1 A2 n2 (ys.map bv)) (hnc2 : n2 ≤ c2) (hcm2 : c2 ≤ maxLen) (ho2 : A2 = none → c2 = 0) (hf3 : 0 ≤ a3 ∧ a3 ≤ 255) (hf4 : 0 ≤ a4 ∧ a4 ≤ 255) (hL3 : Lies w w.heap.size 1 A3 n3 (fs.map bv)) (hnc3 : n3 ≤ c3) (hcm3 : c3 ≤ maxLen) (ho3 : A3 = none → c3 = 0) (hL4 : Lies w w.heap.size 1 A4 n4 (us.map bv)) (hnc4 : n4 ≤ c4) (hcm4 : c4 ≤ maxLen) (ho4 : A4 = none → c4 = 0) (hf5 : 0 ≤ a5 ∧ a5 ≤ 255) :
    Calls Tryz.prog 3 #[.slice A1 n1 c1, .slice A2 n2 c2, .agg #[.int .u8 a3, .int .u8 a4, .slice A3 n3 c3, .slice A4 n4 c4], .int .u8 a5] w fun e w' => e = .returned (.bool true) ∧ Below w.heap.size w w' := by
  have HTC := Lib.hid hTC
  have HPC := Lib.hid hPC
  clear hTC hPC
  obtain ⟨tn, rfl⟩ : ∃ tn : Nat, a5 = (tn : Int) := ⟨a5.toNat, by omega⟩
  have HTN := Lib.hid (show tn < 256 by omega)
  clear hf5
  obtain ⟨cap, rfl⟩ : ∃ cap : Nat, a3 = (cap : Int) := ⟨a3.toNat, by omega⟩
  obtain ⟨stop, rfl⟩ : ∃ stop : Nat, a4 = (stop : Int) := ⟨a4.toNat, by omega⟩
  obtain ⟨W, hW⟩ : ∃ W, W = w.alloc (.cells #[.int .u8 (cap : Int), .int .u8 (stop : Int), .slice A3 n3 c3, .slice A4 n4 c4] 24) := ⟨_, rfl⟩
  have hWg : w.grownBy W none := by rw [hW]; exact World.grownBy_alloc w _ none
  have hb0 : Held W w.heap.size 24 #[.int .u8 (cap : Int), .int .u8 (stop : Int), .slice A3 n3 c3, .slice A4 n4 c4] := by rw [hW]; exact Held.new _ _ _
  have HW := Lib.hid hW
  have HB0 := Lib.hid hb0
  have HWG := Lib.hid hWg
  have HBEL := Lib.hid (fun (W' : World) (hg : w.grownBy W' none) => belGr (Below.refl w.heap.size w) hg)
  by_cases hb1 : 200 < n1
  · clear ho1 ho2 ho3 ho4 hL1 hL2 hL3 hL4 hcm1 hcm2 hcm3 hcm4 hnc1 hnc2 hnc3 hnc4 hb0 hWg hW
    go_enter Tryz.func3, Tryz.ntmps3
    go_upto_region 1 with fail
    rw [show w.alloc _ = W from HW.out.symm]
    go_wp2_with fail
    go_ret
    exact ⟨rfl, HBEL.out _ HWG.out⟩
  by_cases hb2 : 100 < n2
  · clear ho1 ho2 ho3 ho4 hL1 hL2 hL3 hL4 hcm1 hcm2 hcm3 hcm4 hnc1 hnc2 hnc3 hnc4 hb0 hWg hW
    go_enter Tryz.func3, Tryz.ntmps3
    go_upto_region 1 with fail
    rw [show w.alloc _ = W from HW.out.symm]
    go_wp2_with fail
    go_ret
    exact ⟨rfl, HBEL.out _ HWG.out⟩
  have CT := Lib.hid (HTC.out W w.heap.size A1 n1 c1 xs (hL1.grown hWg (Nat.le_refl _) (fun _ e => nomatch e)) hnc1 (by omega) ho1 A2 n2 c2 ys (hL2.grown hWg (Nat.le_refl _) (fun _ e => nomatch e)) hnc2 (by omega) ho2)
  have CN := Lib.hid (fun (W' : World) (hg : w.grownBy W' none) (n : Nat) (h1 : 1 ≤ n) (h4 : n ≤ 4) => HPC.out W' n cap stop h1 h4 (by omega) (by omega) A3 n3 c3 w.heap.size fs (hL3.grown hg (Nat.le_refl _) (fun _ e => nomatch e)) hnc3 hcm3 ho3 A4 n4 c4 w.heap.size us (hL4.grown hg (Nat.le_refl _) (fun _ e => nomatch e)) hnc4 hcm4 ho4)
  have hn2 : n2 ≤ 100 := by omega
  have HN2 := Lib.hid hn2
  clear ho1 ho2 ho3 ho4 hL1 hL2 hL3 hL4 hcm1 hcm2 hcm3 hcm4 hnc1 hnc2 hnc3 hnc4 hb0 hWg hW hf3 hf4
  go_enter Tryz.func3, Tryz.ntmps3
  go_upto_region 1 with fail
  rw [show w.alloc _ = W from HW.out.symm]
  go_wp2_with fail
  refine CT.out.mono ?_
  rintro e wt ⟨a0, z0, c0, X0, a1, z1, c1', X1, a2, z2, c2', X2, a3, z3, c3', X3, a4, n, c4', X4, a5, k, c5, X5, A, c, l, rfl, -, htr, -, -, gt⟩
  have HTR := Lib.hid htr
  have GT := Lib.hid (grown_then HWG.out gt)
  obtain ⟨W5, hW5⟩ : ∃ W5, W5 = wt.alloc (.cells #[.slice a0 z0 c0, .slice a1 z1 c1', .slice a2 z2 c2', .slice a3 z3 c3', .slice a4 n c4', .slice a5 k c5, .slice A l.length c] 34) := ⟨_, rfl⟩
  have hb5 : Held W5 wt.heap.size 34 #[.slice a0 z0 c0, .slice a1 z1 c1', .slice a2 z2 c2', .slice a3 z3 c3', .slice a4 n c4', .slice a5 k c5, .slice A l.length c] := by rw [hW5]; exact Held.new _ _ _
  have hg5 : wt.grownBy W5 none := by rw [hW5]; exact World.grownBy_alloc wt _ none
  have HW5 := Lib.hid hW5
  have HB5 := Lib.hid hb5
  have G5 := Lib.hid hg5
  have GA := Lib.hid (grown_then gt hg5)
  clear hW5 hb5 hg5 gt htr
  go_upto_region 4 with fail
  rw [show wt.alloc _ = W5 from HW5.out.symm]
  have hN5 := HB0.out.grown GA.out (fun e => nomatch e)
  have f0 := hN5.cell 0
  have f1 := hN5.cell 1
  have f2 := hN5.cell 2
  have f3 := hN5.cell 3
  have t4 := HB5.out.cell 4
  have t6 := HB5.out.cell 6
  clear hN5
  go_wp2_with fail
  refine (CN.out W5 (grown_then GT.out G5.out) n HTR.out.n1 HTR.out.n4).mono ?_
  rintro e wp ⟨p, Af, cf, Ac, cc, rfl, hp, hF, hC, gp⟩
  clear f0 f1 f2 f3
  unfold planV
  obtain ⟨W6, hW6⟩ : ∃ W6, W6 = wp.alloc (.cells #[.int .i64 p.cap, .slice Af p.flushes.length cf, .int .i64 p.stop, .slice Ac p.cuts.length cc] 39) := ⟨_, rfl⟩
  have hb6 : Held W6 wp.heap.size 39 #[.int .i64 p.cap, .slice Af p.flushes.length cf, .int .i64 p.stop, .slice Ac p.cuts.length cc] := by rw [hW6]; exact Held.new _ _ _
  have hg6 : wp.grownBy W6 none := by rw [hW6]; exact World.grownBy_alloc wp _ none
  have HW6 := Lib.hid hW6
  have gW6 := grown_then gp hg6
  have hE : Evs wt wt.heap.size A l.length l := HTR.out.evs
  have hl100 : l.length ≤ 100 := Nat.le_trans HTR.out.len HN2.out
  have hnum := made_fit HTR.out.n4 hl100 HTR.out.ok
  have g56 := grown_then G5.out gW6
  have hz6 : wp.heap.size ≤ W6.heap.size := hg6.size
  have hzt : wt.heap.size ≤ wp.heap.size := (grown_then G5.out gp).size
  have hEp : ∀ W' : World, wp.grownBy W' none → Evs W' wp.heap.size A l.length l := fun W' hg => by
    have := hE.grown (grown_then (grown_then G5.out gp) hg) (Nat.le_refl _) (fun _ e => nomatch e)
    exact ⟨this.1, fun k e hk => by
      obtain ⟨b, o, Ad, cd, Af, cf, q1, q2, q3, q4, q5⟩ := this.2 k e hk
      exact ⟨b, o, Ad, cd, Af, cf, q1, by omega, q3, q4.more hzt, q5.more hzt⟩⟩
  obtain ⟨cap', fl', st', cu'⟩ := p
  have her : filesErr l n ⟨cap', fl', st', []⟩ = 0 := made_good HTR.out.n1 HTR.out.n4 (plnG_nocut hp) hl100 HTR.out.ok
  have hs0 : 0 ≤ st' := hp.s0
  have hs1 : st' ≤ 255 := hp.s1
  have hfl20 : fl'.length ≤ 20 := hp.fl
  have CP := Lib.hid (fun (s : Int) (h0 : 0 ≤ s) (h1 : s ≤ 300) (W' : World) (hg : wp.grownBy W' none) => filesP_any l A l.length c n ⟨cap', fl', s, []⟩ Af fl'.length cf none 0 0 wp.heap.size W' (hEp W' hg) (hF.grown hg (Nat.le_refl _) (fun _ e => nomatch e)) (by exact ⟨rfl, fun h => absurd h (Nat.lt_irrefl 0)⟩) hg.size (by omega) (by omega) (by omega) hnum ⟨⟨by dsimp only; omega, by dsimp only; omega⟩, fun q hq => nomatch hq⟩)
  obtain ⟨W7, hW7⟩ : ∃ W7, W7 = W6.setCell ⟨wp.heap.size, 3, none⟩ (.slice none 0 0) := ⟨_, rfl⟩
  have hb7 : Held W7 wp.heap.size 39 #[.int .i64 cap', .slice Af fl'.length cf, .int .i64 st', .slice none 0 0] := by rw [hW7]; exact hb6.store 3 (.slice none 0 0)
  have gp7 : wp.grownBy W7 none := by rw [hW7]; exact grown_row2 hg6 (grown_store W6 wp.heap.size 3 _) (fun g e => by injection e with e; omega)
  have HW7 := Lib.hid hW7
  have HB7 := Lib.hid hb7
  have GP7 := Lib.hid gp7
  have FT := Lib.hid (fun (W' : World) (hg : wp.grownBy W' none) => HB5.out.grown (grown_then gp hg) (fun e => nomatch e))
  have G6 := Lib.hid (grown_then (grown_then GT.out G5.out) gp)
  have HNUM := Lib.hid hnum
  have H100 := Lib.hid hl100
  have HEV := Lib.hid hEp
  have HER := Lib.hid her
  have hpos : 0 ≤ st' + 1 ∧ st' + 1 ≤ 300 := ⟨by omega, by omega⟩
  have hst : 0 ≤ st' ∧ st' ≤ 300 := ⟨hs0, by omega⟩
  have hwr : IntKind.i64.wrap (st' + 1) = st' + 1 := IntWalk.i64_in _ (by omega)
  have HWR := Lib.hid hwr
  have HPS := Lib.hid (And.intro hst hpos)
  have hp6 := hb6
  clear hW6 hg6 gW6 hE hnum her g56 hz6 hzt hEp hp hF hC gp t4 t6 hl100 hW7 gp7 hs0 hs1 hfl20 hpos hst hwr hb7 hb6
  go_upto_region 5 with fail
  rw [show wp.alloc _ = W6 from HW6.out.symm]
  have f3 := hp6.cell 3
  have z3 := hp6.free 3
  clear hp6
  go_upto_region 6 with fail
  rw [show W6.setCell _ _ = W7 from HW7.out.symm]
  clear f3 z3
  have hT := FT.out W7 GP7.out
  have f0 := HB7.out.cell 0
  have f1 := HB7.out.cell 1
  have f2 := HB7.out.cell 2
  have f3 := HB7.out.cell 3
  have t4 := hT.cell 4
  have t6 := hT.cell 6
  clear hT
  go_wp2_with fail
  refine (CP.out st' HPS.out.1.1 HPS.out.1.2 W7 GP7.out).mono ?_
  rintro e w2 ⟨v2, rfl, hg2, hbad2, hgood2⟩
  rw [HER.out] at hbad2 hgood2 ⊢
  obtain ⟨t2, g2, vf2, ht2, rfl, hF2⟩ := hgood2 rfl
  obtain rfl : n = t2 := by omega
  have HF2 := Lib.hid hF2
  have gp2 := grown_then GP7.out hg2
  have hT3 := FT.out w2 gp2
  have FE := Lib.hid (fun (W' : World) (hg : w2.grownBy W' none) => FT.out W' (grown_then gp2 hg))
  have FB := Lib.hid (fun (W' : World) (hg : w2.grownBy W' none) => HB7.out.grown (grown_then hg2 hg) (fun e => nomatch e))
  have G2 := Lib.hid (grown_then (grown_then G6.out GP7.out) hg2)
  have FV := Lib.hid (fun (W' : World) (hg : w2.grownBy W' none) => HEV.out W' (grown_then gp2 hg))
  clear f0 f1 f2 f3 t4 t6 hbad2 hgood2 hF2 hg2 ht2 gp2
  have t4 := hT3.cell 4
  clear hT3
  obtain ⟨fa, hfa⟩ : ∃ fa, fa = filesOf l ⟨cap', fl', st', []⟩ := ⟨_, rfl⟩
  rw [← hfa] at HF2
  obtain ⟨tt, cq, htt, hpg⟩ := planGood HER.out
  obtain rfl : tt = n := by omega
  have HC64 := Lib.hid hpg.c64
  have htt1 : 1 ≤ tt := HTR.out.n1
  have htt4 : tt ≤ 4 := HTR.out.n4
  obtain ⟨kk, hkk⟩ : ∃ kk, kk = tn % tt := ⟨_, rfl⟩
  have hkl : kk < tt := by rw [hkk]; exact Nat.mod_lt _ (by omega)
  have hcap : cap' = ((cq + 1 : Nat) : Int) := hpg.cap
  obtain ⟨bs, ob1, ob2, ob3, ob4⟩ := hpg.own HNUM.out rfl kk hkl
  rw [← hfa] at ob1 ob2
  have OB1 := Lib.hid ob1
  have OB2 := Lib.hid ob2
  have OB3 := Lib.hid ob3
  have OB4 := Lib.hid ob4
  have hln : (fa kk).length ≤ 1000000 := by
    have h1 := hpg.recorded HNUM.out _ (show lastN l ⟨cap', fl', st', []⟩ ≤ l.length by unfold lastN; omega) kk hkl
    have h2 := h1.size
    have h3 := h1.hi
    have hN : lastN l ⟨cap', fl', st', []⟩ ≤ l.length := by unfold lastN; omega
    have h4 := H100.out
    rw [hfa, filesOf_nocut (p := ⟨cap', fl', st', []⟩) rfl]
    omega
  obtain ⟨B1, d1, hv1, n1', m1, l1, o1⟩ := own_slice (HF2.out.own kk hkl)
  have x1 : w2.cell? ⟨g2, kk, none⟩ = some (.slice B1 (fa kk).length d1) := by
    have := HF2.out.h.cell kk
    rw [this, fam_get _ hkl, hv1]
  have CB := Lib.hid (blocksR_any B1 (fa kk).length d1 w2.heap.size (fa kk) (kk : Int) w2 l1 (Nat.le_refl _) n1' m1 o1 hln)
  rw [OB1.out] at CB
  have HX := Lib.hid (fun (W' : World) (hg : w2.grownBy W' none) => World.cell?_of_block (a := ⟨g2, kk, none⟩) (hg.block g2 (HF2.out.h.lt) (fun e => nomatch e)) ▸ x1)
  have ew : IntKind.i64.wrap (tn : Int) = (tn : Int) := IntWalk.i64_in _ (by have := HTN.out; omega)
  have em : (tn : Int).tmod (tt : Int) = (kk : Int) := by rw [hkk]; rfl
  have ez : ((tt : Int) == 0) = false := by simp; omega
  have i0 : (0 : Int) ≤ (kk : Int) := by omega
  have i1 : (kk : Int) < (tt : Int) := by omega
  have htn : ((tt : Int) != (tt : Int)) = false := by simp
  clear hfa htt hpg ob1 ob2 ob3 ob4 hln hv1 l1 o1 n1' m1 hkk
  subst hcap
  go_upto_region 10 with fail
  go_wp2_with fail
  refine CB.out.mono ?_
  rintro e w3 ⟨v, css, rfl, hown, hbat, hg3⟩
  have em1 : (bs.map fun b => (b, (blkBytes b).length)).map (·.1) = bs := by rw [List.map_map]; simp [Function.comp_def]
  rw [em1] at hbat
  rw [OB2.out] at ⊢
  rw [List.length_map] at hown
  obtain ⟨A2, c2, hv2, n2', m2, l2, o2⟩ := own_slice hown
  subst hv2
  have HBB := Lib.hid hbat.toB
  have HM2 := Lib.hid (Nat.le_trans n2' m2)
  have HL2 := Lib.hid l2
  have HO2 := Lib.hid hown
  have HG3 := Lib.hid hg3
  have htl : (((fa kk).length : Int) != ((fa kk).length : Int)) = false := by simp
  have x3 := HX.out w3 hg3
  clear hown hbat hg3 l2 o2 em1 t4 x1 em ez ew htn m2
  have HBK := Lib.hid (fun (i : Nat) (x : Blk) (hx : bs[i]? = some x) (W' : World) (hg : w3.grownBy W' none) => (by
    have hi := (List.getElem?_eq_some_iff.1 hx).1
    obtain ⟨gb, cb, hv, _, hlt⟩ := HO2.out.form (by omega)
    injection hv with hA _ _
    obtain ⟨R, n, c, q1, q2, q3, q4, q5⟩ := (HBB.out.keep hg (Nat.le_refl _) (Rng.none _ _)).2 i x hx
    refine ⟨gb, R, n, c, hA, ?_, q2, q3⟩
    have h2 := HO2.out.cells (g := gb) (by rw [hA]; rfl) (i * 3 + 2) (.slice R n c) (q1 2 _ rfl)
    rw [World.cell?_of_block (hg.block gb hlt (fun e => nomatch e)), show (⟨gb, i * 3 + 2, none⟩ : Addr) = (⟨gb, 0, none⟩ : Addr).add (i * 3 + 2) by unfold Addr.add; split <;> simp_all]
    exact h2 : ∃ (gb : Nat) (R : Option Addr) (n c : Nat), A2 = some ⟨gb, 0, none⟩ ∧ W'.cell? ⟨gb, i * 3 + 2, none⟩ = some (.slice R n c) ∧ RecsB W' w2.heap.size w3.heap.size R n x.recs ∧ n ≤ c))
  go_upto_region 13 with fail
  clear x3 htl i0 i1
  go_wp2_with fail
  go_loopw [16, 17] (fun av iv wr => ∃ a i : Nat, av = .int .i64 (a : Int) ∧ iv = .int .i64 (i : Int) ∧ i ≤ bs.length ∧ a ≤ l.length ∧ Hid (OwnL l kk a (recsB (bs.drop i))) ∧ w3.grownBy wr none) (fun av iv _ => bs.length - (intOf iv).toNat)
  case atStart => exact ⟨0, 0, rfl, rfl, Nat.zero_le _, Nat.zero_le _, Lib.hid (by simpa using OB4.out), World.grownBy.refl _ none⟩
  case round =>
    obtain ⟨a, i, rfl, rfl, hi, ha, hOw, hg⟩ := hrel
    by_cases hlt : i < bs.length
    · obtain ⟨x, hx⟩ : ∃ x, bs[i]? = some x := ⟨_, List.getElem?_eq_getElem hlt⟩
      obtain ⟨gb, R, n, cr, hA, hcell3, hR, hnc⟩ := HBK.out i x hx w3 (World.grownBy.refl w3 none)
      have hgbl : gb < w3.heap.size := World.block_lt_of_cell? w3 _ hcell3
      have FC := Lib.hid (fun (W' : World) (hg : w3.grownBy W' none) => (World.cell?_of_block (a := ⟨gb, i * 3 + 2, none⟩) (hg.block gb hgbl (fun e => nomatch e))).trans hcell3)
      have FR := Lib.hid (fun (W' : World) (hg : w3.grownBy W' none) => hR.keep hg (Nat.le_refl _) (Rng.none _ _))
      have hcell := FC.out wr hg
      clear hcell3 hgbl
      have hrn : x.recs.length = n := hR.1
      have hnq : n ≤ cq + 1 := by rw [← hrn]; exact OB3.out x (List.mem_of_getElem? hx)
      have hdrop : recsB (bs.drop i) = x.recs ++ recsB (bs.drop (i + 1)) := by
        obtain ⟨h1, h2⟩ := List.getElem?_eq_some_iff.1 hx
        rw [List.drop_eq_getElem_cons hlt, h2]
        rfl
      rw [hdrop] at hOw
      have hpc := (FB.out wr (grown_then HG3.out hg)).cell 0
      have HR := Lib.hid hR
      have HRN := Lib.hid hrn
      have dq1 : decide ((cq : Int) + 1 < (n : Int)) = false := by simp; omega
      have dq2 : decide (cq + 1 < n) = false := by simp; omega
      have i0 : (0 : Int) ≤ (i : Int) := by omega
      have i1 : (i : Int) < (bs.length : Int) := by omega
      have HNQ := Lib.hid hnq
      subst hA
      clear hR hrn hdrop hx hnq
      go_upto_region 17 with fail
      go_region_held3 (fun w' => w'.cell? ⟨gb, i * 3 + 2, none⟩ = some (.slice R n cr) ∧ w'.cell? ⟨wp.heap.size, 0, none⟩ = some (.int .i64 ((cq + 1 : Nat) : Int)))
        (exact And.intro hcell hpc)
        (fail)
      clear hcell hpc dq1 dq2
      go_wp2_with fail
      go_loopw [16, 18] (fun av jv wr2 => ∃ a j : Nat, av = .int .i64 (a : Int) ∧ jv = .int .i64 (j : Int) ∧ j ≤ n ∧ a ≤ l.length ∧ Hid (OwnL l kk a (x.recs.drop j ++ recsB (bs.drop (i + 1)))) ∧ w3.grownBy wr2 none) (fun av jv _ => n - (intOf jv).toNat)
      case atStart => exact ⟨a, 0, rfl, rfl, Nat.zero_le _, ha, Lib.hid (by simpa using hOw.out), grown_toDrew hg⟩
      case round =>
        obtain ⟨a1, j, rfl, rfl, hj, ha1, hOw1, hg1⟩ := hrel
        have hcell := FC.out wr hg1
        by_cases hltj : j < n
        · obtain ⟨r, hr⟩ : ∃ r, x.recs[j]? = some r := ⟨_, List.getElem?_eq_getElem (by rw [HRN.out]; exact hltj)⟩
          obtain ⟨b, o, Ad, nd, cd, Af, nf, cf, hRA, hRec⟩ := (FR.out wr hg1).2 j r hr
          have hOw2 := hOw1.out
          rw [show x.recs.drop j = r :: x.recs.drop (j + 1) by
            obtain ⟨h1, h2⟩ := List.getElem?_eq_some_iff.1 hr
            rw [List.drop_eq_getElem_cons h1, h2]] at hOw2
          obtain ⟨⟨q, hq1, hq2, hq3, hq4, hq5⟩, hOw3⟩ := hOw2
          have k0 : wr.cell? ⟨b, o + j * 8, none⟩ = some (.int .i64 r.seq) := hRec.cells 0 _ rfl
          have k1 : wr.cell? ⟨b, o + j * 8 + 1, none⟩ = some (.int .i64 r.ev.thread) := hRec.cells 1 _ rfl
          have k2 : wr.cell? ⟨b, o + j * 8 + 2, none⟩ = some (.int .i64 r.ev.kind) := hRec.cells 2 _ rfl
          have k3 : wr.cell? ⟨b, o + j * 8 + 3, none⟩ = some (.int .i64 r.ev.obj) := hRec.cells 3 _ rfl
          have k4 : wr.cell? ⟨b, o + j * 8 + 4, none⟩ = some (.int .i64 r.ev.value) := hRec.cells 4 _ rfl
          have k5 : wr.cell? ⟨b, o + j * 8 + 5, none⟩ = some (.int .i64 r.ev.site) := hRec.cells 5 _ rfl
          have k6 : wr.cell? ⟨b, o + j * 8 + 6, none⟩ = some (.slice Ad nd cd) := hRec.cells 6 _ rfl
          have k7 : wr.cell? ⟨b, o + j * 8 + 7, none⟩ = some (.slice Af nf cf) := hRec.cells 7 _ rfl
          obtain ⟨W4, hW4⟩ : ∃ W4, W4 = wr.alloc (.cells #[.int .i64 r.seq, .int .i64 r.ev.thread, .int .i64 r.ev.kind, .int .i64 r.ev.obj, .int .i64 r.ev.value, .int .i64 r.ev.site, .slice Ad nd cd, .slice Af nf cf] 54) := ⟨_, rfl⟩
          have hb4 : Held W4 wr.heap.size 54 #[.int .i64 r.seq, .int .i64 r.ev.thread, .int .i64 r.ev.kind, .int .i64 r.ev.obj, .int .i64 r.ev.value, .int .i64 r.ev.site, .slice Ad nd cd, .slice Af nf cf] := by rw [hW4]; exact Held.new _ _ _
          have hg4 : w3.grownBy W4 none := grown_then hg1 (by rw [hW4]; exact World.grownBy_alloc wr _ none)
          have HW4 := Lib.hid hW4
          have HB4 := Lib.hid hb4
          have HG4 := Lib.hid hg4
          have HQ1 := Lib.hid hq1
          have HQ3 := Lib.hid hq3
          have HQ4 := Lib.hid hq4
          have HQ5 := Lib.hid hq5
          have HO3 := Lib.hid hOw3
          have hql : q < l.length := (List.getElem?_eq_some_iff.1 hq4).1
          subst hRA
          have j0 : (0 : Int) ≤ (j : Int) := by omega
          have j1 : (j : Int) < (n : Int) := by omega
          clear hRec hW4 hb4 hg4 hq1 hq3 hq4 hq5 hOw3 hr
          go_upto_region 23 with fail
          rw [show wr.alloc _ = W4 from HW4.out.symm]
          clear k0 k1 k2 k3 k4 k5 k6 k7 hcell j0 j1
          obtain ⟨gr, hgr⟩ : ∃ gr, gr = wr.heap.size := ⟨_, rfl⟩
          simp only [← hgr] at HB4 ⊢
          clear hgr
          have FT4 := (FE.out W4 (grown_then HG3.out HG4.out)).cell 6
          have FV4 := Lib.hid (FV.out W4 (grown_then HG3.out HG4.out))
          have rc0 := HB4.out.cell 0
          have hl1 := H100.out
          go_loopw [16] (fun av wr => ∃ a2 : Nat, av = .int .i64 (a2 : Int) ∧ a1 ≤ a2 ∧ a2 ≤ q ∧ wr = W4) (fun av _ => q - (intOf av).toNat)
          case atStart => exact ⟨a1, rfl, Nat.le_refl _, hq2, rfl⟩
          case round =>
            obtain ⟨a2, rfl, h12, h2q, rfl⟩ := hrel
            by_cases hlt2 : a2 < q
            · have hs1 : (a2 : Int) < r.seq := by rw [HQ1.out]; omega
              obtain ⟨e, he, hne⟩ := HQ3.out a2 h12 hlt2
              obtain ⟨be, oe, _, _, _, _, hAe, _, hce, _, _⟩ := FV4.out.2 a2 e he
              have c0 : wr.cell? ⟨be, oe + a2 * 7, none⟩ = some (.int .i64 e.thread) := hce 0 _ rfl
              have d1 : decide ((l.length : Int) ≤ (a2 : Int)) = false := by simp; omega
              have d2 : decide (l.length ≤ a2) = false := by simp; omega
              have d3 : (e.thread == (kk : Int)) = false := by simpa using hne
              have i0 : (0 : Int) ≤ (a2 : Int) := by omega
              have i1 : (a2 : Int) < (l.length : Int) := by omega
              subst hAe
              clear hce he hne
              go_wp2_with fail
              go_roundw
              case rel => exact ⟨a2 + 1, by go_num, by omega, by omega, trivial⟩
              case measure => simp [intOf]; omega
            · obtain rfl : a2 = q := by omega
              have hs1 : ¬ (a2 : Int) < r.seq := by rw [HQ1.out]; omega
              obtain ⟨be, oe, _, _, _, _, hAe, _, hce, _, _⟩ := FV4.out.2 a2 r.ev HQ4.out
              have c0 : wr.cell? ⟨be, oe + a2 * 7, none⟩ = some (.int .i64 r.ev.thread) := hce 0 _ rfl
              have c1 : wr.cell? ⟨be, oe + a2 * 7 + 1, none⟩ = some (.int .i64 r.ev.kind) := hce 1 _ rfl
              have rc2 := HB4.out.cell 2
              have d0 : ((a2 : Int) != r.seq) = false := by rw [HQ1.out]; simp
              have d1 : decide ((l.length : Int) ≤ (a2 : Int)) = false := by simp; omega
              have d2 : decide (l.length ≤ a2) = false := by simp; omega
              have d3 : (r.ev.thread != (kk : Int)) = false := by rw [HQ5.out]; simp
              have d4 : (r.ev.kind != r.ev.kind) = false := by simp
              have i0 : (0 : Int) ≤ (a2 : Int) := by omega
              have i1 : (a2 : Int) < (l.length : Int) := by omega
              subst hAe
              clear hce
              go_upto_region 27 with fail
              go_region_held3 (fun w' => w'.cell? ⟨gr, 0, none⟩ = some (.int .i64 r.seq) ∧ w'.cell? ⟨gr, 2, none⟩ = some (.int .i64 r.ev.kind) ∧ w'.cell? ⟨wt.heap.size, 6, none⟩ = some (.slice (some ⟨be, oe, none⟩) l.length c) ∧ w'.cell? ⟨be, oe + a2 * 7, none⟩ = some (.int .i64 r.ev.thread) ∧ w'.cell? ⟨be, oe + a2 * 7 + 1, none⟩ = some (.int .i64 r.ev.kind))
                (exact ⟨rc0, rc2, FT4, c0, c1⟩)
                (fail)
              have hO4 : OwnL l kk (a2 + 1) (x.recs.drop (j + 1) ++ recsB (bs.drop (i + 1))) := by
                have := HO3.out
                rw [HQ1.out, Int.toNat_natCast] at this
                exact this
              have HO4 := Lib.hid hO4
              have hgd := grown_toDrew HG4.out
              have hn64 : n ≤ 64 := by have h1 := HNQ.out; have h2 := HC64.out; omega
              clear hO4 c0 c1 rc0 rc2 FT4 d0 d1 d2 d3 d4 hs1
              go_wp2_with fail
              go_roundw
              case rel => exact ⟨a2 + 1, j + 1, by go_num, by go_num, by omega, by omega, HO4, hgd⟩
              case measure => simp [intOf]; omega
        · have hO5 : OwnL l kk a1 (recsB (bs.drop (i + 1))) := by
            have := hOw1.out
            rw [List.drop_eq_nil_of_le (by rw [HRN.out]; omega), List.nil_append] at this
            exact this
          have HO5 := Lib.hid hO5
          have hl1 := H100.out
          have hbl : bs.length ≤ 9223372036854775807 := HM2.out
          clear hO5
          go_wp2_with fail
          go_roundw
          case rel => exact ⟨a1, i + 1, by go_num, by go_num, by omega, by omega, HO5, hg1⟩
          case measure => simp [intOf]; omega
    · go_wp2_with (first | (go_at_call 13; refine (awake14_any _).mono ?_; rintro e w5 ⟨rfl, hg5⟩) | fail)
      go_ret
      exact ⟨rfl, HBEL.out _ (grown_then (grown_then (grown_then G2.out HG3.out) hg) hg5)⟩
end Go.Proofs.YtfbkkgfkhhibfaaGreat
