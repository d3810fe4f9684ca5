/- The walk of Files (chapter 14). -/
import Derived.Test.YtfbkkgfkhhibfaaGreatRadd
import Derived.Test.YtfbkkgfkhhibfaaGreatTrd
import Derived.BigRegion
namespace Go.Proofs.YtfbkkgfkhhibfaaGreat
open Go Go.RowKit Iv
set_option linter.unusedVariables false
theorem addP_cap (cap : Int) (c1 c2 c3 : Value) (W0 : World) (base B thr gR gB gW gF : Nat) (s : St) (wr : World) (cc n t : Nat) (e : Ev) (Ad : Option Addr) (cd : Nat) (Af : Option Addr) (cf : Nat) (hcap : cap = ((cc + 1 : Nat) : Int))
    (h : RP 93 #[.int .i64 cap, c1, c2, c3, .slice (some ⟨gB, 0, none⟩) thr thr, .slice (some ⟨gW, 0, none⟩) thr thr, .slice (some ⟨gF, 0, none⟩) thr thr] W0 base B thr gR gB gW gF s wr)
    (hG : Iv.Good cc n thr s) (het : e.thread = (t : Int)) (ht : t < thr) (hthr : thr ≤ 4) (hc : cc + 1 ≤ 64) (hn : n + 1 ≤ 400) (hd : e.deps.length ≤ 400) (hf : e.from_.length ≤ 400) (hr : RecFit ⟨n, e⟩)
    (hld : Lies wr B 1 Ad e.deps.length (e.deps.map iv)) (hlf : Lies wr B 1 Af e.from_.length (e.from_.map iv)) :
    Calls Tryz.prog 27 #[.pointer (some ⟨gR, 0, none⟩), .int .i64 (n : Int), .agg (evV e Ad e.deps.length cd Af e.from_.length cf)] wr fun x w' => x = .returned (.int .i64 0) ∧
      RP 93 #[.int .i64 cap, c1, c2, c3, .slice (some ⟨gB, 0, none⟩) thr thr, .slice (some ⟨gW, 0, none⟩) thr thr, .slice (some ⟨gF, 0, none⟩) thr thr] W0 base B thr gR gB gW gF (s.add cap n e) w' := by
  subst hcap
  exact addP_any c1 c2 c3 W0 base B thr gR gB gW gF s wr cc n t e Ad cd Af cf h hG het ht hthr hc hn hd hf hr hld hlf
set_option maxRecDepth 100000 in
set_option maxHeartbeats 3200000 in
theorem filesP_any (l : List Ev) (Al : Option Addr) (nl cl : Nat) (thr : Int) (p : Pln) (Af : Option Addr) (nf cf : Nat) (Ac : Option Addr) (nc cc B : Nat) (w : World) (hl : Evs w B Al nl l) (hf : Fls w B Af nf p.flushes) (hcu : Lies w B 1 Ac nc (p.cuts.map iv)) (hB : B ≤ w.heap.size) (hnf : nf ≤ 1000000) (hnc : nc ≤ 1000000) (hnl : nl ≤ 1000000) (hnum : ∀ e ∈ l, RecFit ⟨0, e⟩) (hi64 : inI64 p.stop ∧ allI64 p.cuts) :
    Calls Tryz.prog 11 #[.slice Al nl cl, .int .i64 thr, .agg (planV p Af nf cf Ac nc cc)] w fun e w' => FilesOut l thr p w e w' := by
  obtain ⟨cap, fl, stop, cu⟩ := p
  obtain ⟨W, hW⟩ : ∃ W, W = w.alloc (.cells #[.int .i64 cap, .slice Af nf cf, .int .i64 stop, .slice Ac nc cc] 39) := ⟨_, rfl⟩
  have hWg : w.grownBy W none := by rw [hW]; exact World.grownBy_alloc w _ none
  have hb0 : Held W w.heap.size 39 #[.int .i64 cap, .slice Af nf cf, .int .i64 stop, .slice Ac nc cc] := by rw [hW]; exact Held.new _ _ _
  have CA := Lib.hid (fun (W' : World) (hg : W.grownBy W' none) => planAllowed_any thr ⟨cap, fl, stop, cu⟩ Af nf cf Ac nc cc B W' (hf.grown (grownBy_trans hWg hg (.inl rfl)) hB (fun _ e => nomatch e)) (hcu.grown (grownBy_trans hWg hg (.inl rfl)) hB (fun _ e => nomatch e)) (Nat.le_trans hB (Nat.le_trans hWg.size hg.size)) hnf hnc)
  have HW := Lib.hid hW
  have HWG := Lib.hid hWg
  have HB0 := Lib.hid hb0
  have HN := Lib.hid hnum
  have HL := Lib.hid hl
  have HF := Lib.hid hf
  have HC := Lib.hid hcu
  have HI := Lib.hid hi64
  have HLL := Lib.hid hl.1
  clear hW hnum hi64
  obtain ⟨b, hbk⟩ : ∃ b, b = planOk thr ⟨cap, fl, stop, cu⟩ := ⟨_, rfl⟩
  rw [← hbk] at CA
  have HBK := Lib.hid hbk
  clear hbk
  unfold planV at CA ⊢
  dsimp only at CA ⊢
  have k0 : W.cell? ⟨w.heap.size, 0, none⟩ = some (.int .i64 cap) := hb0.cell 0
  have k1 : W.cell? ⟨w.heap.size, 1, none⟩ = some (.slice Af nf cf) := hb0.cell 1
  have k2 : W.cell? ⟨w.heap.size, 2, none⟩ = some (.int .i64 stop) := hb0.cell 2
  have k3 : W.cell? ⟨w.heap.size, 3, none⟩ = some (.slice Ac nc cc) := hb0.cell 3
  clear hl hf hcu hb0 hWg
  go_enter Tryz.func11, Tryz.ntmps11
  go_upto_region 1 with fail
  rw [show w.alloc (.cells #[.int .i64 cap, .slice Af nf cf, .int .i64 stop, .slice Ac nc cc] 39) = W from HW.out.symm]
  cases b with
  | false =>
    go_wp2_with (first | (go_at_call 26; refine (CA.out W (World.grownBy.refl W none)).mono ?_; rintro e w2 ⟨rfl, hg2⟩) | fail)
    go_ret2
    exact filesOut_bad (by unfold filesErr; rw [← HBK.out]; rfl) (by decide) (grownBy_trans HWG.out hg2 (.inl rfl))
  | true =>
    by_cases h4 : (400 : Int) < (nl : Int)
    · go_wp2_with (first | (go_at_call 26; refine (CA.out W (World.grownBy.refl W none)).mono ?_; rintro e w2 ⟨rfl, hg2⟩) | fail)
      go_ret2
      exact filesOut_bad (by unfold filesErr; rw [← HBK.out, HLL.out, if_pos rfl, if_pos (by omega)]) (by decide) (grownBy_trans HWG.out hg2 (.inl rfl))
    · have HE : Hid (filesErr l thr ⟨cap, fl, stop, cu⟩ = if l.all (evOk thr) then 0 else 1) := Lib.hid (by unfold filesErr; rw [← HBK.out, HLL.out, if_pos rfl, if_neg (by omega)])
      go_wp2_with (first | (go_at_call 26; refine (CA.out W (World.grownBy.refl W none)).mono ?_; rintro e w2 ⟨rfl, hg2⟩) | fail)
      have HG2 := Lib.hid hg2
      clear hg2 k0 k1 k2 k3
      go_loopw [27] (fun iv wr => ∃ k : Nat, iv = .int .i64 (k : Int) ∧ k ≤ nl ∧ w2.grownBy wr none ∧ (l.drop k).all (evOk thr) = l.all (evOk thr)) (fun iv _ => nl - (intOf iv).toNat)
      case atStart => exact ⟨0, rfl, Nat.zero_le _, World.grownBy.refl w2 none, rfl⟩
      case round =>
        obtain ⟨k, rfl, hk, hg, ho⟩ := hrel
        have HO := Lib.hid ho
        clear ho
        have hgw := grownBy_trans HWG.out (grownBy_trans HG2.out hg (.inl rfl)) (.inl rfl)
        by_cases hlt : k < nl
        · obtain ⟨b, o, e, Ad, cd, Ae, ce, rfl, hb, hem, e0, e1, e2, e3, e4, e5, e6, _, _⟩ := (HL.out.grown hgw hB (fun _ e => nomatch e)).at hlt
          have HS := Lib.hid (all_drop (f := evOk thr) hem)
          have hbw : b < wr.heap.size := by have := hgw.size; omega
          have HG1 : Hid (w2.grownBy (wr.alloc (.cells #[.int .i64 e.thread, .int .i64 e.kind, .int .i64 e.obj, .int .i64 e.value, .int .i64 e.site, .slice Ad e.deps.length cd, .slice Ae e.from_.length ce] 52)) none) := Lib.hid (grownBy_trans hg (World.grownBy_alloc wr _ none) (.inl rfl))
          clear hem
          by_cases hgood : evOk thr e = true
          · have hgd := hgood
            unfold evOk at hgd
            simp only [Bool.and_eq_true, decide_eq_true_eq] at hgd
            have g1 : ¬ e.thread < 0 := by omega
            have g2 : ¬ thr ≤ e.thread := by omega
            have g3 : ¬ (400 : Int) < (e.deps.length : Int) := by omega
            have g4 : ¬ (400 : Int) < (e.from_.length : Int) := by omega
            have HGD := Lib.hid hgood
            clear hgood hgd
            go_wp2_with fail
            go_roundw
            case rel => exact ⟨k + 1, by go_num, by omega, HG1.out, by have := HS.out; rw [HO.out, HGD.out, Bool.true_and] at this; exact this.symm⟩
            case measure => simp [intOf]; omega
          · have HF : Hid (filesErr l thr ⟨cap, fl, stop, cu⟩ = 1) := Lib.hid (by
              have h1 := HS.out
              rw [HO.out, Bool.eq_false_iff.2 hgood, Bool.false_and] at h1
              rw [HE.out, h1]
              rfl)
            have hb : e.thread < 0 ∨ thr ≤ e.thread ∨ (400 : Int) < (e.deps.length : Int) ∨ (400 : Int) < (e.from_.length : Int) := by
              unfold evOk at hgood
              simp only [Bool.and_eq_true, decide_eq_true_eq] at hgood
              omega
            have HGX : Hid (w.grownBy (wr.alloc (.cells #[.int .i64 e.thread, .int .i64 e.kind, .int .i64 e.obj, .int .i64 e.value, .int .i64 e.site, .slice Ad e.deps.length cd, .slice Ae e.from_.length ce] 52)) none) := Lib.hid (grownBy_trans HWG.out (grownBy_trans HG2.out HG1.out (.inl rfl)) (.inl rfl))
            clear hgood
            by_cases g1 : e.thread < 0
            · clear hb
              go_wp2_with fail
              go_ret2
              exact filesOut_bad HF.out (by decide) HGX.out
            · by_cases g2 : thr ≤ e.thread
              · clear hb
                go_wp2_with fail
                go_ret2
                exact filesOut_bad HF.out (by decide) HGX.out
              · by_cases g3 : (400 : Int) < (e.deps.length : Int)
                · clear hb
                  go_wp2_with fail
                  go_ret2
                  exact filesOut_bad HF.out (by decide) HGX.out
                · have g4 : (400 : Int) < (e.from_.length : Int) := by omega
                  clear hb
                  go_wp2_with fail
                  go_ret2
                  exact filesOut_bad HF.out (by decide) HGX.out
        · have hall : l.all (evOk thr) = true := by
            have h1 := HO.out
            rw [List.drop_eq_nil_of_le (by have := HLL.out; omega)] at h1
            exact h1.symm
          obtain ⟨t, c, rfl, hpg⟩ := planGood (by rw [HE.out, hall]; rfl)
          have HP := Lib.hid hpg
          have ht4 := hpg.thr4
          have mk1 := fun w => make_any Tryz.underlying91 info_recs rfl (by omega) w ht4
          have mk2 := fun w => make_any Tryz.underlying37 info_int rfl (by omega) w ht4
          have mk3 := fun w => make_any Tryz.underlying41 info_bytes rfl (by omega) w ht4
          have HGW := Lib.hid hgw
          have hb2 := HB0.out.grown (grownBy_trans HG2.out hg (.inl rfl)) (fun e => nomatch e)
          have k0 : wr.cell? ⟨w.heap.size, 0, none⟩ = some (.int .i64 cap) := hb2.cell 0
          have k1 : wr.cell? ⟨w.heap.size, 1, none⟩ = some (.slice Af nf cf) := hb2.cell 1
          have k2 : wr.cell? ⟨w.heap.size, 2, none⟩ = some (.int .i64 stop) := hb2.cell 2
          have k3 : wr.cell? ⟨w.heap.size, 3, none⟩ = some (.slice Ac nc cc) := hb2.cell 3
          have hlt2 : w.heap.size < wr.heap.size := hb2.lt
          have hne : ¬ k < nl := hlt
          clear hpg hall hb2 hg hgw h4 hlt
          obtain ⟨W1, hW1⟩ : ∃ W1, W1 = wr := ⟨_, rfl⟩
          subst hW1
          go_upto_region 11 with fail
          go_cut [10] (fun v wx => ∃ gR gB gW gF : Nat, v = .pointer (some ⟨gR, 0, none⟩) ∧ RP 93 #[.int .i64 cap, .slice Af nf cf, .int .i64 stop, .slice Ac nc cc, .slice (some ⟨gB, 0, none⟩) t t, .slice (some ⟨gW, 0, none⟩) t t, .slice (some ⟨gF, 0, none⟩) t t] W1 (W1.heap.size + 4) B t gR gB gW gF St.none wx)
          case first =>
            go_region_held3 (fun w' => w'.cell? ⟨w.heap.size, 0, none⟩ = some (.int .i64 cap) ∧ w'.cell? ⟨w.heap.size, 1, none⟩ = some (.slice Af nf cf) ∧ w'.cell? ⟨w.heap.size, 2, none⟩ = some (.int .i64 stop) ∧ w'.cell? ⟨w.heap.size, 3, none⟩ = some (.slice Ac nc cc) ∧ W1.grownBy w' none)
              ((with_reducible (refine rs_of4 k0 k1 k2 k3 ?_; first
                | assumption
                | ((repeat' (first | apply grownAl2 | apply grown_toDrew)); exact World.grownBy.refl _ _)
                | fail)))
              (first | fail)
            all_goals
              go_wp2_with fail
              go_meet
              case rel =>
                obtain ⟨h0, h1, h2, h3, hg, hs⟩ := held4 W1 _ _ _ _ _ _ _ _
                exact ⟨_, _, _, _, rfl, RP.init (by with_reducible first | exact h0 | exact h1 | exact h2 | exact h3) (by with_reducible first | exact h0 | exact h1 | exact h2 | exact h3) (by with_reducible first | exact h0 | exact h1 | exact h2 | exact h3) (by with_reducible first | exact h0 | exact h1 | exact h2 | exact h3) hg ⟨by omega, by omega, by omega, by omega⟩ ⟨by omega, by omega, by omega, by omega⟩ ⟨by omega, by omega, by omega⟩ ⟨by omega, by omega, by omega⟩ (Nat.le_trans hB HGW.out.size) (by rw [hs]; exact Nat.le_refl _)⟩
          case rest =>
            obtain ⟨gR, gB, gW, gF, hv10, hrp⟩ := hcut
            subst hv10
            clear k0 k1 k2 k3 mk1 mk2 mk3
            have hstop : 0 ≤ stop := HP.out.stop
            have h4 : nl ≤ 400 := by have := HP.out.len; have := HLL.out; omega
            obtain ⟨N, hN⟩ : ∃ N, N = lastN l ⟨cap, fl, stop, cu⟩ := ⟨_, rfl⟩
            have hN1 : (N : Int) ≤ stop := by rw [hN]; unfold lastN; simp only; omega
            have hN2 : N ≤ nl := by rw [hN]; unfold lastN; have := HLL.out; omega
            have hN3 : (N : Int) = stop ∨ N = nl := by rw [hN]; unfold lastN; have := HLL.out; simp only; omega
            have HNN := Lib.hid hN
            clear hN
            have hBW : B ≤ W1.heap.size := Nat.le_trans hB HGW.out.size
            have HL1 := Lib.hid (HL.out.grown HGW.out hB (fun _ e => nomatch e))
            have HF1 := Lib.hid (HF.out.grown HGW.out hB (fun _ e => nomatch e))
            have HC1 := Lib.hid (HC.out.grown HGW.out hB (fun _ e => nomatch e))
            have HRP0 := Lib.hid hrp
            clear hrp
            go_wp2_with fail
            go_loopw [11] (fun iv wr => ∃ n : Nat, iv = .int .i64 (n : Int) ∧ n ≤ N + 1 ∧ RP 93 #[.int .i64 cap, .slice Af nf cf, .int .i64 stop, .slice Ac nc cc, .slice (some ⟨gB, 0, none⟩) t t, .slice (some ⟨gW, 0, none⟩) t t, .slice (some ⟨gF, 0, none⟩) t t] W1 (W1.heap.size + 4) B t gR gB gW gF (rec0 l ⟨cap, fl, stop, cu⟩ n) wr) (fun iv _ => N + 1 - (intOf iv).toNat)
            case atStart => exact ⟨0, rfl, Nat.zero_le _, HRP0.out⟩
            case round =>
              obtain ⟨n, rfl, hn, hrp⟩ := hrel
              have HRP := Lib.hid hrp
              have r2 : wr.cell? ⟨gR, 2, none⟩ = some (.int .i64 stop) := hrp.rec_.cell 2
              have r1 : wr.cell? ⟨gR, 1, none⟩ = some (.slice Af nf cf) := hrp.rec_.cell 1
              have r3 : wr.cell? ⟨gR, 3, none⟩ = some (.slice Ac nc cc) := hrp.rec_.cell 3
              clear hrp
              by_cases hgo : n ≤ N
              · have HRA : Hid (Iv.Good c n t (recA l ⟨cap, fl, stop, cu⟩ n)) := Lib.hid (HP.out.recA HN.out n (by have := HLL.out; omega))
                have HRF : Hid ((recA l ⟨cap, fl, stop, cu⟩ n).flush n fl = rec0 l ⟨cap, fl, stop, cu⟩ (n + 1)) := Lib.hid (recA_flush (p := ⟨cap, fl, stop, cu⟩) (by have := HLL.out; omega))
                have hm1 : ¬ stop < (n : Int) := by omega
                have hm2 : ¬ (nl : Int) < (n : Int) := by omega
                go_upto_if 72 with fail
                go_cut [12] (fun _ wx => RP 93 #[.int .i64 cap, .slice Af nf cf, .int .i64 stop, .slice Ac nc cc, .slice (some ⟨gB, 0, none⟩) t t, .slice (some ⟨gW, 0, none⟩) t t, .slice (some ⟨gF, 0, none⟩) t t] W1 (W1.heap.size + 4) B t gR gB gW gF (recA l ⟨cap, fl, stop, cu⟩ n) wx)
                case first =>
                  by_cases hn0 : (0 : Int) < (n : Int)
                  · obtain ⟨m, hm⟩ : ∃ m, n = m + 1 := ⟨n - 1, by omega⟩
                    have hmm : (n : Int) - 1 = (m : Int) := by omega
                    have hml : m < nl := by omega
                    obtain ⟨b, o, e, Ad, cd, Ae, ce, rfl, hb, hem, e0, e1, e2, e3, e4, e5, e6, hld, hlf⟩ := (HL1.out.grown HRP.out.gr hBW (fun _ e => nomatch e)).at hml
                    have hmem : e ∈ l := List.mem_of_getElem? hem
                    obtain ⟨v1, v2, v3, v4⟩ := HP.out.ev e hmem
                    have HADD := Lib.hid (addP_cap cap _ _ _ W1 (W1.heap.size + 4) B t gR gB gW gF (rec0 l ⟨cap, fl, stop, cu⟩ n) wr c m e.thread.toNat e Ad cd Ae ce HP.out.cap HRP.out (by rw [hm]; exact HP.out.recorded HN.out m (by have := HLL.out; omega)) (by omega) (by omega) ht4 HP.out.c64 (by omega) v3 v4 ((HN.out e hmem).seqOf ⟨by omega, by omega⟩) hld hlf)
                    have HNX : Hid (recA l ⟨cap, fl, stop, cu⟩ n = (rec0 l ⟨cap, fl, stop, cu⟩ n).add cap m e) := Lib.hid (by rw [hm]; exact recA_next (p := ⟨cap, fl, stop, cu⟩) hem)
                    clear hld hlf hem hmem v1 v2 v3 v4 hm
                    unfold evV at HADD
                    go_wp2_with (first | (go_at_call 27; refine HADD.out.mono ?_; rintro x w9 ⟨rfl, h9⟩) | fail)
                    all_goals
                      go_meet
                      case rel => rw [HNX.out]; exact h9
                  · have HX : Hid (recA l ⟨cap, fl, stop, cu⟩ n = rec0 l ⟨cap, fl, stop, cu⟩ n) := Lib.hid (by have : n = 0 := by omega
                                                                                                               subst this; rfl)
                    go_wp2_with fail
                    all_goals
                      go_meet
                      case rel => rw [HX.out]; exact HRP.out
                case rest =>
                  have HRP2 := Lib.hid hcut
                  have q1 : wc.cell? ⟨gR, 1, none⟩ = some (.slice Af nf cf) := hcut.rec_.cell 1
                  clear hcut r1 r2 r3 HRP
                  go_wp2_with fail
                  go_loopw [88] (fun iv wy => ∃ (k : Nat) (s : St), iv = .int .i64 (k : Int) ∧ k ≤ nf ∧ RP 93 #[.int .i64 cap, .slice Af nf cf, .int .i64 stop, .slice Ac nc cc, .slice (some ⟨gB, 0, none⟩) t t, .slice (some ⟨gW, 0, none⟩) t t, .slice (some ⟨gF, 0, none⟩) t t] W1 (W1.heap.size + 4) B t gR gB gW gF s wy ∧ Iv.Good c n t s ∧ s.flush n (fl.drop k) = rec0 l ⟨cap, fl, stop, cu⟩ (n + 1)) (fun iv _ => nf - (intOf iv).toNat)
                  case atStart => exact ⟨0, _, rfl, Nat.zero_le _, HRP2.out, HRA.out, HRF.out⟩
                  case round =>
                    obtain ⟨k2, s, rfl, hk2, hrp2, hgd2, hfl2⟩ := hrel
                    have HRP3 := Lib.hid hrp2
                    have HGD3 := Lib.hid hgd2
                    have HFL3 := Lib.hid hfl2
                    clear hrp2 hgd2 hfl2
                    by_cases hkf : k2 < nf
                    · obtain ⟨b, o, f, rfl, hbB, hfk, f0, f1⟩ := (HF1.out.grown HRP3.out.gr hBW (fun _ e => nomatch e)).at hkf
                      obtain ⟨g1, g2, g3⟩ := HP.out.fl f (List.mem_of_getElem? hfk)
                      have HFD := Lib.hid (flush_drop hfk s n)
                      have hgal := World.grownBy_alloc wr (.cells #[.int .i64 f.1, .int .i64 f.2] 68) none
                      have HRP4 := Lib.hid (HRP3.out.keep hgal)
                      have HWR := Lib.hid (fun (W' : World) (hg : (wr.alloc (.cells #[.int .i64 f.1, .int .i64 f.2] 68)).grownBy W' none) => writeP_any _ _ _ _ W1 (W1.heap.size + 4) B t gR gB gW gF s W' c n f.2.toNat (HRP4.out.keep hg) (HGD3.out _ (by omega)) (by omega) ht4 (by have := HP.out.c64; omega) (by omega))
                      have hft : ((f.2.toNat : Nat) : Int) = f.2 := by omega
                      rw [hft] at HWR
                      have HT := Lib.hid (show f.2.toNat < t by omega)
                      clear hgal hfk hft
                      by_cases hfn : f.1 = (n : Int)
                      · have hfb : (f.1 == (n : Int)) = true := beq_iff_eq.2 hfn
                        have HFN := Lib.hid hfn
                        clear hfn
                        go_wp2_with (first | (go_at_call 28; refine (HWR.out _ (World.grownBy.refl _ none)).mono ?_; rintro x w9 ⟨rfl, h9⟩) | fail)
                        go_roundw
                        case rel => exact ⟨k2 + 1, s.write f.2.toNat, by go_num, by omega, h9, HGD3.out.write (by have := HP.out.c64; omega) (by omega) ht4 _ HT.out, by have := HFD.out; rw [if_pos HFN.out] at this; rw [← this]; exact HFL3.out⟩
                        case measure => simp [intOf]; omega
                      · have hfb : (f.1 == (n : Int)) = false := beq_eq_false_iff_ne.2 hfn
                        have HFN := Lib.hid hfn
                        clear hfn
                        go_wp2_with fail
                        go_roundw
                        case rel => exact ⟨k2 + 1, s, by go_num, by omega, HRP4.out, HGD3.out, by have := HFD.out; rw [if_neg HFN.out] at this; rw [← this]; exact HFL3.out⟩
                        case measure => simp [intOf]; omega
                    · have HSN : Hid (s = rec0 l ⟨cap, fl, stop, cu⟩ (n + 1)) := Lib.hid (by have := HFL3.out; rw [List.drop_eq_nil_of_le (by have := HF1.out.1; omega)] at this; exact this)
                      go_wp2_with fail
                      go_roundw
                      case rel => exact ⟨n + 1, by go_num, by omega, by rw [← HSN.out]; exact HRP3.out⟩
                      case measure => simp [intOf]; omega
              · have hx : n = N + 1 := by omega
                have HX : Hid (rec0 l ⟨cap, fl, stop, cu⟩ n = cutSt (recorded l ⟨cap, fl, stop, cu⟩ (lastN l ⟨cap, fl, stop, cu⟩)) cu 0) := Lib.hid (by rw [hx, HNN.out, cutSt_zero]; rfl)
                rw [HX.out] at HRP
                have hm3 : ((nl : Int) < stop ∧ (nl : Int) < (n : Int)) ∨ (¬ (nl : Int) < stop ∧ stop < (n : Int)) := by omega
                have hcl : cu.length ≤ t := HP.out.cul
                have HCL : Hid (cu.length = nc) := Lib.hid HC1.out.lenI
                obtain ⟨S, hS⟩ : ∃ S, S = recorded l ⟨cap, fl, stop, cu⟩ (lastN l ⟨cap, fl, stop, cu⟩) := ⟨_, rfl⟩
                have HS := Lib.hid hS
                rw [← hS] at HRP
                have hfin : ∀ w9, RP 93 #[.int .i64 cap, .slice Af nf cf, .int .i64 stop, .slice Ac nc cc, .slice (some ⟨gB, 0, none⟩) t t, .slice (some ⟨gW, 0, none⟩) t t, .slice (some ⟨gF, 0, none⟩) t t] W1 (W1.heap.size + 4) B t gR gB gW gF (cutSt S cu cu.length) w9 → FilesOut l (t : Int) ⟨cap, fl, stop, cu⟩ w (.returned (.tuple #[.slice (some ⟨gF, 0, none⟩) t t, .int .i64 0])) w9 := by
                  intro w9 h9
                  have he : filesErr l (t : Int) ⟨cap, fl, stop, cu⟩ = 0 := HP.out.ok
                  obtain ⟨vf, hvf⟩ := h9.files w HGW.out.size
                  refine ⟨_, by rw [he], grownBy_trans HGW.out h9.gr (.inl rfl), fun h => absurd he h, fun _ => ⟨t, gF, vf, rfl, rfl, ?_⟩⟩
                  have : filesOf l ⟨cap, fl, stop, cu⟩ = (cutSt S cu cu.length).file := by rw [hS]; rfl
                  rw [this]
                  exact hvf
                have HFIN := Lib.hid hfin
                clear hS hfin hx
                have hm4 : ((nl : Int) < stop ∧ (nl : Int) < (n : Int) ∧ decide (n ≤ nl) = false) ∨ (¬ (nl : Int) < stop ∧ stop < (n : Int) ∧ decide ((n : Int) ≤ stop) = false) := by
                  rcases hm3 with ⟨q0, q1⟩ | ⟨q0, q1⟩
                  · exact .inl ⟨q0, q1, decide_eq_false (by omega)⟩
                  · exact .inr ⟨q0, q1, decide_eq_false (by omega)⟩
                clear hm3
                rcases hm4 with ⟨hm0, hm1, hmd⟩ | ⟨hm0, hm1, hmd⟩
                all_goals
                  go_wp2_with fail
                  go_loopw [107] (fun iv wr => ∃ j : Nat, iv = .int .i64 (j : Int) ∧ j ≤ nc ∧ RP 93 #[.int .i64 cap, .slice Af nf cf, .int .i64 stop, .slice Ac nc cc, .slice (some ⟨gB, 0, none⟩) t t, .slice (some ⟨gW, 0, none⟩) t t, .slice (some ⟨gF, 0, none⟩) t t] W1 (W1.heap.size + 4) B t gR gB gW gF (cutSt S cu j) wr) (fun iv _ => nc - (intOf iv).toNat)
                  case atStart => exact ⟨0, rfl, Nat.zero_le _, HRP.out⟩
                  case round =>
                    obtain ⟨j, rfl, hj, hrp3⟩ := hrel
                    have HRP3 := Lib.hid hrp3
                    have q6 : wr.cell? ⟨gR, 6, none⟩ = some (.slice (some ⟨gF, 0, none⟩) t t) := hrp3.rec_.cell 6
                    clear r1 r2 r3 hrp3
                    by_cases hjn : j < nc
                    · obtain ⟨ad, u, rfl, hb1, hx, hc⟩ := (HC1.out.grown HRP3.out.gr hBW (fun _ e => nomatch e)).cellAt hjn
                      simp only [List.getElem?_map, Option.map_eq_some_iff] at hx
                      obtain ⟨x, hx, rfl⟩ := hx
                      unfold iv at hc
                      have hx0 : 0 ≤ x := HP.out.cu x (List.mem_of_getElem? hx)
                      have hx1 := HI.out.2 x (List.mem_of_getElem? hx)
                      obtain ⟨vb3, vf3, css3, hM⟩ := HRP3.out.ex
                      have hjt : j < t := by have := HCL.out; omega
                      have HNX := Lib.hid (cutSt_next (s := S) hx)
                      have HAT := Lib.hid (cutSt_at S cu j)
                      obtain ⟨A3, c3, hv3, hn3, hm3, hl3, ho3⟩ := own_slice (hM.of_ j hjt)
                      have kF : wr.cell? ⟨gF, j, none⟩ = some (.slice A3 ((cutSt S cu j).file j).length c3) := by rw [hM.hF.cell j, fam_get _ hjt, hv3]
                      have zF := hM.hF.free j
                      have i0 : (0 : Int) ≤ (j : Int) := by omega
                      have i1 : (j : Int) < (t : Int) := by omega
                      obtain ⟨L, hL⟩ : ∃ L, L = ((cutSt S cu j).file j).length := ⟨_, rfl⟩
                      have KF := Lib.hid kF
                      rw [← hL] at kF hn3
                      have HL := Lib.hid hL
                      have hL63 : L ≤ 9223372036854775807 := by unfold maxLen at hm3; omega
                      obtain ⟨m, hm⟩ : ∃ m, m = L - x.toNat := ⟨_, rfl⟩
                      have hml : m ≤ L := by omega
                      have hx2 : x ≤ 9223372036854775807 := hx1.2
                      have hw : IntKind.i64.wrap ((L : Int) - x) = (L : Int) - x := IntWalk.i64_in _ (by omega)
                      have HMM := Lib.hid hm
                      clear hx hx1 hM hv3 hl3 ho3 hL
                      have hmx : (if x < (L : Int) then (L : Int) - x else 0) = (m : Int) := by
                        have hm' := HMM.out
                        split
                        · omega
                        · omega
                      have h0m : (0 : Int) ≤ (m : Int) := by omega
                      have hmc : (m : Int) ≤ (c3 : Int) := by omega
                      clear hm hm3
                      go_upto_region 30 with fail
                      go_still_tail 19, (by kernel_rfl)
                      change wpList _ _ _ _ _ wr.drew
                      have HRPd := Lib.hid (HRP3.out.keep (grown_toDrew (World.grownBy.refl wr none)))
                      have kFd : wr.drew.cell? ⟨gF, j, none⟩ = some (.slice A3 ((cutSt S cu j).file j).length c3) := KF.out
                      have zFd : wr.drew.frozen? ⟨gF, j, none⟩ = false := zF
                      clear q6 kF KF zF hc HRP3
                      generalize wr.drew = wd at HRPd kFd zFd ⊢
                      have KFD := Lib.hid kFd
                      go_wp2_with fail
                      go_roundw
                      case rel => exact ⟨j + 1, by go_num, by omega, by
                        rw [HNX.out, ← HAT.out]
                        unfold cutFile
                        rw [← HL.out, ← HMM.out]
                        have := HRPd.out.cut hjt KFD.out (m := m) (by rw [← HL.out]; exact hml)
                        exact this⟩
                      case measure => simp [intOf]; omega
                    · have HJ : Hid (j = cu.length) := Lib.hid (by have := HCL.out; omega)
                      go_wp2_with fail
                      go_ret2
                      exact HFIN.out _ (by rw [← HJ.out]; exact HRP3.out)
end Go.Proofs.YtfbkkgfkhhibfaaGreat
