/- The walk of the reference's checks (chapter 14). -/
import Derived.Test.YtaiaoiochbpmfaaGreatPln
namespace Go.Proofs.YtaiaoiochbpmfaaGreat
open Go Go.RowKit Iv
set_option linter.unusedVariables false
set_option maxRecDepth 100000 in
set_option maxHeartbeats 3200000 in
theorem plan_head (l : List Ev) (Al : Option Addr) (nl cl : Nat) (thr : Int) (p : Pln) (Af : Option Addr) (nf cf : Nat) (Ac : Option Addr) (nc cc : Nat) (w : World) (hcl : p.cuts.length = nc) (h : planHead thr p = false ∨ thr < (nc : Int)) :
    Calls Tryz.prog 34 #[.slice Al nl cl, .int .i64 thr, .agg (planV p Af nf cf Ac nc cc)] w fun e w' => e = .returned (.int .i64 (filesErr l thr p)) ∧ w.grownBy w' none := by
  obtain ⟨cap, fl, stop, cu⟩ := p
  dsimp only at hcl
  have HF : Hid (filesErr l thr ⟨cap, fl, stop, cu⟩ = 1) := by
    have : planOk thr ⟨cap, fl, stop, cu⟩ = false := by
      unfold planOk
      rcases h with h | h
      · rw [h]; rfl
      · rw [hcl, decide_eq_false (by omega), Bool.and_false]
    exact Lib.hid (by unfold filesErr; rw [this]; rfl)
  have hh : thr < 1 ∨ 4 < thr ∨ cap < 1 ∨ 64 < cap ∨ stop < 0 ∨ thr < (nc : Int) := by
    rcases h with h | h
    · unfold planHead at h
      simp only [Bool.and_eq_false_iff, decide_eq_false_iff_not] at h
      omega
    · omega
  unfold planV
  dsimp only
  clear h hcl
  by_cases a1 : thr < 1
  · clear hh
    go_enter Tryz.func34, Tryz.ntmps34
    go_wp2_with fail
    go_ret
    exact ⟨ret_int HF.out.symm, World.grownBy_alloc w _ none⟩
  · by_cases a2 : (4 : Int) < thr
    · clear hh
      go_enter Tryz.func34, Tryz.ntmps34
      go_wp2_with fail
      go_ret
      exact ⟨ret_int HF.out.symm, World.grownBy_alloc w _ none⟩
    · by_cases a3 : cap < 1
      · clear hh
        go_enter Tryz.func34, Tryz.ntmps34
        go_wp2_with fail
        go_ret
        exact ⟨ret_int HF.out.symm, World.grownBy_alloc w _ none⟩
      · by_cases a4 : (64 : Int) < cap
        · clear hh
          go_enter Tryz.func34, Tryz.ntmps34
          go_wp2_with fail
          go_ret
          exact ⟨ret_int HF.out.symm, World.grownBy_alloc w _ none⟩
        · by_cases a5 : stop < 0
          · clear hh
            go_enter Tryz.func34, Tryz.ntmps34
            go_wp2_with fail
            go_ret
            exact ⟨ret_int HF.out.symm, World.grownBy_alloc w _ none⟩
          · have a6 : thr < (nc : Int) := by omega
            clear hh
            go_enter Tryz.func34, Tryz.ntmps34
            go_wp2_with fail
            go_ret
            exact ⟨ret_int HF.out.symm, World.grownBy_alloc w _ none⟩
set_option maxRecDepth 100000 in
set_option maxHeartbeats 3200000 in
theorem plan_any (l : List Ev) (Al : Option Addr) (nl cl : Nat) (thr : Int) (p : Pln) (Af : Option Addr) (nf cf : Nat) (Ac : Option Addr) (nc cc B : Nat) (w : World) (hl : Evs w B Al nl l) (hf : Fls w B Af nf p.flushes) (hcu : Lies w B 1 Ac nc (p.cuts.map iv)) (hB : B ≤ w.heap.size) (hnf : nf ≤ 1000000) (hnc : nc ≤ 1000000) :
    Calls Tryz.prog 34 #[.slice Al nl cl, .int .i64 thr, .agg (planV p Af nf cf Ac nc cc)] w fun e w' => e = .returned (.int .i64 (filesErr l thr p)) ∧ w.grownBy w' none := by
  have hlc : p.cuts.length = nc := hcu.lenI
  by_cases hh : planHead thr p = false ∨ thr < (nc : Int)
  · exact plan_head l Al nl cl thr p Af nf cf Ac nc cc w hlc hh
  · obtain ⟨cap, fl, stop, cu⟩ := p
    have hp : planHead thr ⟨cap, fl, stop, cu⟩ = true := by
      cases h : planHead thr ⟨cap, fl, stop, cu⟩ with
      | true => rfl
      | false => exact absurd (.inl h) hh
    have a6 : ¬ thr < (nc : Int) := fun h => hh (.inr h)
    dsimp only at hlc hf hcu
    have HOK : Hid (planOk thr ⟨cap, fl, stop, cu⟩ = (fl.all (flushOk thr) && cu.all (fun n => decide (0 ≤ n)))) := Lib.hid (by unfold planOk; rw [hp, hlc, decide_eq_true (by omega : (nc : Int) ≤ thr)]; simp)
    unfold planHead at hp
    simp only [Bool.and_eq_true, decide_eq_true_eq] at hp
    have a1 : ¬ thr < 1 := by omega
    have a2 : ¬ (4 : Int) < thr := by omega
    have a3 : ¬ cap < 1 := by omega
    have a4 : ¬ (64 : Int) < cap := by omega
    have a5 : ¬ stop < 0 := by omega
    have HLC := Lib.hid hlc
    have HLF := Lib.hid hf.1
    have HLL := Lib.hid hl.1
    clear hh hlc hp
    obtain ⟨W, hW⟩ : ∃ W, W = w.alloc (.cells #[.int .i64 cap, .slice Af nf cf, .int .i64 stop, .slice Ac nc cc] 39) := ⟨_, rfl⟩
    have hWg : w.grownBy W none := by rw [hW]; exact World.grownBy_alloc w _ none
    have hb0 : Held W w.heap.size 39 #[.int .i64 cap, .slice Af nf cf, .int .i64 stop, .slice Ac nc cc] := by rw [hW]; exact Held.new _ _ _
    have HW := Lib.hid hW
    clear hW
    unfold planV
    dsimp only
    go_enter Tryz.func34, Tryz.ntmps34
    go_upto_region 3 with fail
    rw [show w.alloc (.cells #[.int .i64 cap, .slice Af nf cf, .int .i64 stop, .slice Ac nc cc] 39) = W from HW.out.symm]
    have k1 : W.cell? ⟨w.heap.size, 1, none⟩ = some (.slice Af nf cf) := hb0.cell 1
    have k3 : W.cell? ⟨w.heap.size, 3, none⟩ = some (.slice Ac nc cc) := hb0.cell 3
    go_wp2_with fail
    go_loopw [7] (fun iv wr => ∃ k : Nat, iv = .int .i64 (k : Int) ∧ k ≤ nf ∧ wr = W ∧ (fl.drop k).all (flushOk thr) = fl.all (flushOk thr)) (fun iv _ => nf - (intOf iv).toNat)
    case atStart => exact ⟨0, rfl, Nat.zero_le _, rfl, rfl⟩
    case round =>
      obtain ⟨k, rfl, hk, hwr, ho⟩ := hrel
      subst hwr
      have HO := Lib.hid ho
      clear ho
      by_cases hlt : k < nf
      · obtain ⟨b, o, f, rfl, hbB, hfk, f0, f1⟩ := (hf.grown hWg hB (fun _ e => nomatch e)).at hlt
        have HS := Lib.hid (all_drop (f := flushOk thr) hfk)
        clear hfk
        by_cases hgood : flushOk thr f = true
        · have hgd := hgood
          unfold flushOk at hgd
          simp only [Bool.and_eq_true, decide_eq_true_eq] at hgd
          have g1 : ¬ f.1 < 0 := by omega
          have g2 : ¬ f.2 < 0 := by omega
          have g3 : ¬ thr ≤ f.2 := by omega
          have HGD := Lib.hid hgood
          clear hgood hgd
          go_wp2_with fail
          go_roundw
          case rel => exact ⟨k + 1, by go_num, by omega, trivial, by have := HS.out; rw [HO.out, HGD.out, Bool.true_and] at this; exact this.symm⟩
          case measure => simp [intOf]; omega
        · have HF : Hid (filesErr l thr ⟨cap, fl, stop, cu⟩ = 1) := Lib.hid (by
            have h1 := HS.out
            rw [HO.out, Bool.eq_false_iff.2 hgood, Bool.false_and] at h1
            have h2 := HOK.out
            rw [h1, Bool.false_and] at h2
            unfold filesErr
            rw [h2]
            rfl)
          have hb : f.1 < 0 ∨ f.2 < 0 ∨ thr ≤ f.2 := by
            unfold flushOk at hgood
            simp only [Bool.and_eq_true, decide_eq_true_eq] at hgood
            omega
          have HWG := Lib.hid hWg
          clear hgood
          by_cases g1 : f.1 < 0
          · clear hb
            go_wp2_with fail
            go_ret
            exact ⟨ret_int HF.out.symm, HWG.out⟩
          · by_cases g2 : f.2 < 0
            · clear hb
              go_wp2_with fail
              go_ret
              exact ⟨ret_int HF.out.symm, HWG.out⟩
            · have g3 : thr ≤ f.2 := by omega
              clear hb
              go_wp2_with fail
              go_ret
              exact ⟨ret_int HF.out.symm, HWG.out⟩
      · have hkn : k = nf := by omega
        have HALL : Hid (fl.all (flushOk thr) = true) := Lib.hid (by
          have := HO.out
          rw [List.drop_eq_nil_of_le (by have := HLF.out; omega)] at this
          exact this.symm)
        subst hkn
        have hc2 := hcu.grown hWg hB (fun _ e => nomatch e)
        have hl2 := hl.grown hWg hB (fun _ e => nomatch e)
        have HWG := Lib.hid hWg
        clear hWg hf hcu hl hb0
        obtain ⟨W1, hW1⟩ : ∃ W1, W1 = wr := ⟨_, rfl⟩
        subst hW1
        go_wp2_with fail
        go_loopw [8] (fun iv wr => ∃ j : Nat, iv = .int .i64 (j : Int) ∧ j ≤ nc ∧ wr = W1 ∧ (cu.drop j).all (fun n => decide (0 ≤ n)) = cu.all (fun n => decide (0 ≤ n))) (fun iv _ => nc - (intOf iv).toNat)
        case atStart => exact ⟨0, rfl, Nat.zero_le _, rfl, rfl⟩
        case round =>
          obtain ⟨j, rfl, hj, hwr, hoj⟩ := hrel
          subst hwr
          have HOJ := Lib.hid hoj
          clear hoj
          by_cases hjl : j < nc
          · obtain ⟨ad, u, rfl, hb1, hx, hc⟩ := hc2.cellAt hjl
            simp only [List.getElem?_map, Option.map_eq_some_iff] at hx
            obtain ⟨x, hx, rfl⟩ := hx
            unfold iv at hc
            have HS := Lib.hid (all_drop (f := fun n : Int => decide (0 ≤ n)) hx)
            clear hx
            by_cases hx0 : x < 0
            · have HF : Hid (filesErr l thr ⟨cap, fl, stop, cu⟩ = 1) := Lib.hid (by
                have h1 := HS.out
                rw [HOJ.out, decide_eq_false (by omega), Bool.false_and] at h1
                have h2 := HOK.out
                rw [h1, Bool.and_false] at h2
                unfold filesErr
                rw [h2]
                rfl)
              go_wp2_with fail
              go_ret
              exact ⟨ret_int HF.out.symm, HWG.out⟩
            · have HX : Hid (decide (0 ≤ x) = true) := Lib.hid (decide_eq_true (by omega))
              go_wp2_with fail
              go_roundw
              case rel => exact ⟨j + 1, by go_num, by omega, trivial, by have := HS.out; rw [HOJ.out, HX.out, Bool.true_and] at this; exact this.symm⟩
              case measure => simp [intOf]; omega
          · have HFE : Hid (filesErr l thr ⟨cap, fl, stop, cu⟩ = if 400 < nl then 2 else if l.all (evOk thr) then 0 else 1) := Lib.hid (by
              have h1 := HOJ.out
              rw [List.drop_eq_nil_of_le (by have := HLC.out; omega)] at h1
              have h2 := HOK.out
              rw [HALL.out, ← h1] at h2
              unfold filesErr
              rw [h2, HLL.out]
              rfl)
            clear hc2
            by_cases h400 : (400 : Int) < (nl : Int)
            · have HF : Hid (filesErr l thr ⟨cap, fl, stop, cu⟩ = 2) := Lib.hid (by rw [HFE.out, if_pos (by omega)])
              go_wp2_with fail
              go_ret
              exact ⟨ret_int HF.out.symm, HWG.out⟩
            · have HFE2 : Hid (filesErr l thr ⟨cap, fl, stop, cu⟩ = if l.all (evOk thr) then 0 else 1) := Lib.hid (by rw [HFE.out, if_neg (by omega)])
              obtain ⟨W2, hW2⟩ : ∃ W2, W2 = wr := ⟨_, rfl⟩
              subst hW2
              go_wp2_with fail
              go_loopw [9] (fun iv wr => ∃ m : Nat, iv = .int .i64 (m : Int) ∧ m ≤ nl ∧ wr = W2 ∧ (l.drop m).all (evOk thr) = l.all (evOk thr)) (fun iv _ => nl - (intOf iv).toNat)
              case atStart => exact ⟨0, rfl, Nat.zero_le _, rfl, rfl⟩
              case round =>
                obtain ⟨m, rfl, hm, hwr, hom⟩ := hrel
                subst hwr
                have HOM := Lib.hid hom
                clear hom
                by_cases hml : m < nl
                · obtain ⟨b, o, e, Ad, cd, Ae, ce, rfl, hb, hem, e0, e1, e2, e3, e4, e5, e6, _, _⟩ := hl2.at hml
                  have HS := Lib.hid (all_drop (f := evOk thr) hem)
                  clear hem e1 e2 e3 e4
                  by_cases hgood : evOk thr e = true
                  · have hgd := hgood
                    unfold evOk at hgd
                    simp only [Bool.and_eq_true, decide_eq_true_eq] at hgd
                    have g1 : ¬ e.thread < 0 := by omega
                    have g2 : ¬ thr ≤ e.thread := by omega
                    have g3 : ¬ (400 : Int) < (e.deps.length : Int) := by omega
                    have g4 : ¬ (400 : Int) < (e.from_.length : Int) := by omega
                    have HGD := Lib.hid hgood
                    clear hgood hgd
                    go_wp2_with fail
                    go_roundw
                    case rel => exact ⟨m + 1, by go_num, by omega, trivial, by have := HS.out; rw [HOM.out, HGD.out, Bool.true_and] at this; exact this.symm⟩
                    case measure => simp [intOf]; omega
                  · have HF : Hid (filesErr l thr ⟨cap, fl, stop, cu⟩ = 1) := Lib.hid (by
                      have h1 := HS.out
                      rw [HOM.out, Bool.eq_false_iff.2 hgood, Bool.false_and] at h1
                      rw [HFE2.out, h1]
                      rfl)
                    have hb : e.thread < 0 ∨ thr ≤ e.thread ∨ (400 : Int) < (e.deps.length : Int) ∨ (400 : Int) < (e.from_.length : Int) := by
                      unfold evOk at hgood
                      simp only [Bool.and_eq_true, decide_eq_true_eq] at hgood
                      omega
                    clear hgood
                    by_cases g1 : e.thread < 0
                    · clear hb
                      go_wp2_with fail
                      go_ret
                      exact ⟨ret_int HF.out.symm, HWG.out⟩
                    · by_cases g2 : thr ≤ e.thread
                      · clear hb
                        go_wp2_with fail
                        go_ret
                        exact ⟨ret_int HF.out.symm, HWG.out⟩
                      · by_cases g3 : (400 : Int) < (e.deps.length : Int)
                        · clear hb
                          go_wp2_with fail
                          go_ret
                          exact ⟨ret_int HF.out.symm, HWG.out⟩
                        · have g4 : (400 : Int) < (e.from_.length : Int) := by omega
                          clear hb
                          go_wp2_with fail
                          go_ret
                          exact ⟨ret_int HF.out.symm, HWG.out⟩
                · have HF : Hid (filesErr l thr ⟨cap, fl, stop, cu⟩ = 0) := Lib.hid (by
                    have h1 := HOM.out
                    rw [List.drop_eq_nil_of_le (by have := HLL.out; omega)] at h1
                    rw [HFE2.out, ← h1]
                    rfl)
                  go_wp2_with fail
                  go_ret
                  exact ⟨ret_int HF.out.symm, HWG.out⟩
end Go.Proofs.YtaiaoiochbpmfaaGreat
