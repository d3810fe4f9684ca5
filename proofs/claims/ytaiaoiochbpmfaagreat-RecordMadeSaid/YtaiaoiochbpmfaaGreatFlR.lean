/- The walk of the reference's Files (chapter 14). -/
import Derived.Test.YtaiaoiochbpmfaaGreatRwrR
import Derived.Test.YtaiaoiochbpmfaaGreatPlnR
import Derived.Test.YtaiaoiochbpmfaaGreatHeldE
import Derived.Test.YtaiaoiochbpmfaaGreatRadd
import Derived.BigRegion
namespace Go.Proofs.YtaiaoiochbpmfaaGreat
open Go Go.RowKit Iv
set_option linter.unusedVariables false
set_option maxRecDepth 100000 in
set_option maxHeartbeats 3200000 in
theorem filesR_any (l : List Ev) (Al : Option Addr) (nl cl : Nat) (thr : Int) (p : Pln) (Af : Option Addr) (nf cf : Nat) (Ac : Option Addr) (nc cc B : Nat) (w : World) (hl : Evs w B Al nl l) (hf : Fls w B Af nf p.flushes) (hcu : Lies w B 1 Ac nc (p.cuts.map iv)) (hB : B ≤ w.heap.size) (hnf : nf ≤ 1000000) (hnc : nc ≤ 1000000) (hnl : nl ≤ 1000000) (hnum : ∀ e ∈ l, RecFit ⟨0, e⟩) (hi64 : inI64 p.stop ∧ allI64 p.cuts) :
    Calls Tryz.prog 14 #[.slice Al nl cl, .int .i64 thr, .agg (planV p Af nf cf Ac nc cc)] w fun e w' => FilesOut l thr p w e w' := by
  obtain ⟨cap, fl, stop, cu⟩ := p
  obtain ⟨W, hW⟩ : ∃ W, W = w.alloc (.cells #[.int .i64 cap, .slice Af nf cf, .int .i64 stop, .slice Ac nc cc] 39) := ⟨_, rfl⟩
  have hWg : w.grownBy W none := by rw [hW]; exact World.grownBy_alloc w _ none
  have hb0 : Held W w.heap.size 39 #[.int .i64 cap, .slice Af nf cf, .int .i64 stop, .slice Ac nc cc] := by rw [hW]; exact Held.new _ _ _
  have CA := Lib.hid (fun (W' : World) (hg : W.grownBy W' none) => plan_any l Al nl cl thr ⟨cap, fl, stop, cu⟩ Af nf cf Ac nc cc B W' (hl.grown (grownBy_trans hWg hg (.inl rfl)) hB (fun _ e => nomatch e)) (hf.grown (grownBy_trans hWg hg (.inl rfl)) hB (fun _ e => nomatch e)) (hcu.grown (grownBy_trans hWg hg (.inl rfl)) hB (fun _ e => nomatch e)) (Nat.le_trans hB (Nat.le_trans hWg.size hg.size)) hnf hnc)
  have HW := Lib.hid hW
  have HWG := Lib.hid hWg
  have HB0 := Lib.hid hb0
  have HN := Lib.hid hnum
  have HL := Lib.hid hl
  have HF := Lib.hid hf
  have HC := Lib.hid hcu
  have HI := Lib.hid hi64
  have HLL := Lib.hid hl.1
  clear hW hnum hi64
  obtain ⟨b, hbk⟩ : ∃ b, b = filesErr l thr ⟨cap, fl, stop, cu⟩ := ⟨_, rfl⟩
  rw [← hbk] at CA
  have HBK := Lib.hid hbk
  clear hbk
  unfold planV at CA ⊢
  dsimp only at CA ⊢
  have k0 : W.cell? ⟨w.heap.size, 0, none⟩ = some (.int .i64 cap) := hb0.cell 0
  have k1 : W.cell? ⟨w.heap.size, 1, none⟩ = some (.slice Af nf cf) := hb0.cell 1
  have k2 : W.cell? ⟨w.heap.size, 2, none⟩ = some (.int .i64 stop) := hb0.cell 2
  have k3 : W.cell? ⟨w.heap.size, 3, none⟩ = some (.slice Ac nc cc) := hb0.cell 3
  clear hl hf hcu hb0 hWg
  go_enter Tryz.func14, Tryz.ntmps14
  go_upto_region 1 with fail
  rw [show w.alloc (.cells #[.int .i64 cap, .slice Af nf cf, .int .i64 stop, .slice Ac nc cc] 39) = W from HW.out.symm]
  by_cases hb0 : b = 0
  · subst hb0
    go_upto_region 2 with (first | (go_at_call 34; refine (CA.out W (World.grownBy.refl W none)).mono ?_; rintro e w2 ⟨rfl, hg2⟩) | fail)
    have hgw := grownBy_trans HWG.out hg2 (.inl rfl)
    obtain ⟨t, c, rfl, hpg⟩ := planGood HBK.out.symm
    have HP := Lib.hid hpg
    have ht4 := hpg.thr4
    have mk1 := fun w => make_any Tryz.underlying93 info_recs rfl (by omega) w ht4
    have mk2 := fun w => make_any Tryz.underlying37 info_int rfl (by omega) w ht4
    have mk3 := fun w => make_any Tryz.underlying41 info_bytes rfl (by omega) w ht4
    have HGW := Lib.hid hgw
    have HB1 := Lib.hid (HB0.out.grown hg2 (fun e => nomatch e))
    have hlt2 : w.heap.size < w2.heap.size := HB1.out.lt
    clear hpg hgw hg2 k0 k1 k2 k3
    obtain ⟨W1, hW1⟩ : ∃ W1, W1 = w2 := ⟨_, rfl⟩
    subst hW1
    go_upto_region 4 with fail
    go_cut [9] (fun v wx => ∃ gR gB gW gF : Nat, v = .pointer (some ⟨gR, 0, none⟩) ∧ RP 101 #[.slice (some ⟨gB, 0, none⟩) t t, .slice (some ⟨gW, 0, none⟩) t t, .slice (some ⟨gF, 0, none⟩) t t] W1 (W1.heap.size + 4) B t gR gB gW gF St.none wx)
    case first =>
      go_region_held3 (fun w' => True) (exact True.intro) (first | fail)
      all_goals
        go_wp2_with fail
        go_meet
        case rel =>
          obtain ⟨h0, h1, h2, h3, hg, hs⟩ := held4 W1 _ _ _ _ _ _ _ _
          exact ⟨_, _, _, _, rfl, RP.init (by with_reducible first | exact h0 | exact h1 | exact h2 | exact h3) (by with_reducible first | exact h0 | exact h1 | exact h2 | exact h3) (by with_reducible first | exact h0 | exact h1 | exact h2 | exact h3) (by with_reducible first | exact h0 | exact h1 | exact h2 | exact h3) hg ⟨by omega, by omega, by omega, by omega⟩ ⟨by omega, by omega, by omega, by omega⟩ ⟨by omega, by omega, by omega⟩ ⟨by omega, by omega, by omega⟩ (Nat.le_trans hB HGW.out.size) (by rw [hs]; exact Nat.le_refl _)⟩
    case rest =>
      obtain ⟨gR, gB, gW, gF, hv10, hrp⟩ := hcut
      subst hv10
      clear mk1 mk2 mk3
      have hstop : 0 ≤ stop := HP.out.stop
      have h4 : nl ≤ 400 := by have := HP.out.len; have := HLL.out; omega
      obtain ⟨N, hN⟩ : ∃ N, N = lastN l ⟨cap, fl, stop, cu⟩ := ⟨_, rfl⟩
      have hN1 : (N : Int) ≤ stop := by rw [hN]; unfold lastN; simp only; omega
      have hN2 : N ≤ nl := by rw [hN]; unfold lastN; have := HLL.out; omega
      have hN3 : (N : Int) = stop ∨ N = nl := by rw [hN]; unfold lastN; have := HLL.out; simp only; omega
      have HNN := Lib.hid hN
      clear hN
      have hBW : B ≤ W1.heap.size := Nat.le_trans hB HGW.out.size
      have HL1 := Lib.hid (HL.out.grown HGW.out hB (fun _ e => nomatch e))
      have HF1 := Lib.hid (HF.out.grown HGW.out hB (fun _ e => nomatch e))
      have HC1 := Lib.hid (HC.out.grown HGW.out hB (fun _ e => nomatch e))
      have HRP0 := Lib.hid hrp
      clear hrp
      go_wp2_with fail
      go_loopw [10] (fun iv wr => ∃ n : Nat, iv = .int .i64 (n : Int) ∧ n ≤ N + 1 ∧ RP 101 #[.slice (some ⟨gB, 0, none⟩) t t, .slice (some ⟨gW, 0, none⟩) t t, .slice (some ⟨gF, 0, none⟩) t t] W1 (W1.heap.size + 4) B t gR gB gW gF (rec0 l ⟨cap, fl, stop, cu⟩ n) wr) (fun iv _ => N + 1 - (intOf iv).toNat)
      case atStart => exact ⟨0, rfl, Nat.zero_le _, HRP0.out⟩
      case round =>
        obtain ⟨n, rfl, hn, hrp⟩ := hrel
        have HRP := Lib.hid hrp
        have HPL := Lib.hid (HB1.out.grown hrp.gr (fun e => nomatch e))
        have r1 : wr.cell? ⟨w.heap.size, 1, none⟩ = some (.slice Af nf cf) := HPL.out.cell 1
        have r2 : wr.cell? ⟨w.heap.size, 2, none⟩ = some (.int .i64 stop) := HPL.out.cell 2
        have r3 : wr.cell? ⟨w.heap.size, 3, none⟩ = some (.slice Ac nc cc) := HPL.out.cell 3
        clear hrp
        by_cases hgo : n ≤ N
        · have HRA : Hid (Iv.Good c n t (recA l ⟨cap, fl, stop, cu⟩ n)) := Lib.hid (HP.out.recA HN.out n (by have := HLL.out; omega))
          have HRF : Hid ((recA l ⟨cap, fl, stop, cu⟩ n).flush n fl = rec0 l ⟨cap, fl, stop, cu⟩ (n + 1)) := Lib.hid (recA_flush (p := ⟨cap, fl, stop, cu⟩) (by have := HLL.out; omega))
          have hm1 : decide ((n : Int) ≤ stop) = true := decide_eq_true (by omega)
          have hm2 : decide (n ≤ nl) = true := decide_eq_true (by omega)
          go_upto_if 43 with fail
          go_cut [11] (fun _ wx => RP 101 #[.slice (some ⟨gB, 0, none⟩) t t, .slice (some ⟨gW, 0, none⟩) t t, .slice (some ⟨gF, 0, none⟩) t t] W1 (W1.heap.size + 4) B t gR gB gW gF (recA l ⟨cap, fl, stop, cu⟩ n) wx)
          case first =>
            by_cases hn0 : (0 : Int) < (n : Int)
            · obtain ⟨m, hm⟩ : ∃ m, n = m + 1 := ⟨n - 1, by omega⟩
              have hmm : (n : Int) - 1 = (m : Int) := by omega
              have hwm : IntKind.i64.wrap (m : Int) = (m : Int) := IntWalk.i64_in _ (by omega)
              have hml : m < nl := by omega
              obtain ⟨b, o, e, Ad, cd, Ae, ce, rfl, hb, hem, e0, e1, e2, e3, e4, e5, e6, hld, hlf⟩ := (HL1.out.grown HRP.out.gr hBW (fun _ e => nomatch e)).at hml
              have hmem : e ∈ l := List.mem_of_getElem? hem
              obtain ⟨v1, v2, v3, v4⟩ := HP.out.ev e hmem
              have HEM := Lib.hid hem
              have HMEM := Lib.hid hmem
              have HLD0 := Lib.hid hld
              have HLF0 := Lib.hid hlf
              obtain ⟨et, het⟩ : ∃ et : Nat, e.thread = (et : Int) := ⟨e.thread.toNat, by omega⟩
              rw [het] at e0
              have hett : et < t := by omega
              have HETT := Lib.hid hett
              have HET := Lib.hid het
              have HV3 := Lib.hid v3
              have HV4 := Lib.hid v4
              have HM1 := Lib.hid hm
              clear hem hmem hld hlf het hett v1 v2 v3 v4 hm
              go_upto_region 10 with fail
              clear e0 e1 e2 e3 e4 e5 e6
              have hem := HEM.out
              have hmem := HMEM.out
              have hld := HLD0.out
              have hlf := HLF0.out
              have het := HET.out
              have hett := HETT.out
              have v3 := HV3.out
              have v4 := HV4.out
              have hm := HM1.out
              have htn : e.thread.toNat = et := by omega
              have HNX : Hid (recA l ⟨cap, fl, stop, cu⟩ n = (rec0 l ⟨cap, fl, stop, cu⟩ n).add cap m e) := Lib.hid (by rw [hm]; exact recA_next (p := ⟨cap, fl, stop, cu⟩) hem)
              have HRFT := Lib.hid ((HN.out e hmem).seqOf (n := (m : Int)) ⟨by omega, by omega⟩)
              have HGD := Lib.hid (show Iv.Good c m t (rec0 l ⟨cap, fl, stop, cu⟩ n) by rw [hm]; exact HP.out.recorded HN.out m (by have := HLL.out; omega))
              have HTN := Lib.hid htn
              obtain ⟨s, hs⟩ : ∃ s, s = rec0 l ⟨cap, fl, stop, cu⟩ n := ⟨_, rfl⟩
              rw [← hs] at HNX HGD
              have HRPs := HRP.out
              rw [← hs] at HRPs
              obtain ⟨We, hWe⟩ : ∃ We, We = wr.alloc (.cells #[.int .i64 (et : Int), .int .i64 e.kind, .int .i64 e.obj, .int .i64 e.value, .int .i64 e.site, .slice Ad e.deps.length cd, .slice Ae e.from_.length ce] 69) := ⟨_, rfl⟩
              have hWg : wr.grownBy We none := by rw [hWe]; exact World.grownBy_alloc wr _ none
              obtain ⟨gE, hgE⟩ : ∃ gE, gE = wr.heap.size := ⟨_, rfl⟩
              have hE : Held We gE 69 #[.int .i64 (et : Int), .int .i64 e.kind, .int .i64 e.obj, .int .i64 e.value, .int .i64 e.site, .slice Ad e.deps.length cd, .slice Ae e.from_.length ce] := by rw [hWe, hgE]; exact Held.new _ _ _
              have HWE := Lib.hid hWe
              have HGE := Lib.hid hgE
              clear hWe hgE hmem hem hs htn het hm
              obtain ⟨⟨vb, vf, css, hM0⟩, hR0, hgr0, hlo, hnr⟩ := HRPs
              have hM := hM0.keep hWg
              have hR := hR0.grown hWg (fun e => nomatch e)
              have hgr := gr_row hgr0 hWg (fun g e => nomatch e)
              have HBLT := Lib.hid (fun g (e : (vb et).ownBlock = some g) => ((hM0.ob et hett).lt g e).2)
              have HBS0 := Lib.hid hM0.bs
              clear hM0 hR0 hgr0
              have hBr : B ≤ wr.heap.size := by have := HRP.out.gr.size; omega
              have HLD := Lib.hid (hld.grown hWg hBr (fun _ e => nomatch e))
              have HLF := Lib.hid (hlf.grown hWg hBr (fun _ e => nomatch e))
              have HGR := Lib.hid hgr
              have i0 : (0 : Int) ≤ (et : Int) := by omega
              have i1 : (et : Int) < (t : Int) := by omega
              have HE := Lib.hid hE
              obtain ⟨Ab, cb, hvb, hbn, hbm, _, hbo⟩ := own_slice (hM.ob et hett)
              have hob := hM.ob et hett
              rw [hvb] at hob
              have HOB := Lib.hid hob
              have hlen := (HGD.out et hett).len
              obtain ⟨nb, hnb⟩ : ∃ nb, nb = (s.buf et).length := ⟨_, rfl⟩
              have HNB := Lib.hid hnb
              have HM := Lib.hid hM
              have HR := Lib.hid hR
              have HVB := Lib.hid hvb
              obtain ⟨j0, hi, hz0, hz1, hz2⟩ := info_parts info_rec
              have HI0 := Lib.hid hi
              have HZ0 := Lib.hid hz0
              have HZ1 := Lib.hid hz1
              have HZ2 := Lib.hid hz2
              have hz : (0 : Nat) < 8 := by omega
              have hc64 := HP.out.c64
              have hnb64 : nb ≤ 64 := by omega
              have HNEB : Hid ((Value.slice Ab nb cb).ownBlock ≠ some gB) := Lib.hid (by rw [hnb]; exact own_ne hob hM.lt.1)
              have HNER : Hid ((Value.slice Ab nb cb).ownBlock ≠ some gR) := Lib.hid (by rw [hnb]; exact own_ne hob hnr.1)
              have HNEE : Hid ((Value.slice Ab nb cb).ownBlock ≠ some gE) := Lib.hid (fun e => by have := HBLT.out gE (by rw [hvb, ← hnb]; exact e); rw [HGE.out] at this; omega)
              have HBS := Lib.hid hM.bs
              have S0 : Hid ((fun w' => w'.cell? ⟨gR, 0, none⟩ = some (.slice (some ⟨gB, 0, none⟩) t t) ∧ w'.cell? ⟨gE, 0, none⟩ = some (.int .i64 (et : Int)) ∧ w'.cell? ⟨gE, 1, none⟩ = some (.int .i64 e.kind) ∧ w'.cell? ⟨gE, 2, none⟩ = some (.int .i64 e.obj) ∧ w'.cell? ⟨gE, 3, none⟩ = some (.int .i64 e.value) ∧ w'.cell? ⟨gE, 4, none⟩ = some (.int .i64 e.site) ∧ w'.cell? ⟨gE, 5, none⟩ = some (.slice Ad e.deps.length cd) ∧ w'.cell? ⟨gE, 6, none⟩ = some (.slice Ae e.from_.length ce) ∧ w'.cell? ⟨gB, et, none⟩ = some (.slice Ab nb cb)) We) := Lib.hid ⟨hR.cell 0, hE.cell 0, hE.cell 1, hE.cell 2, hE.cell 3, hE.cell 4, hE.cell 5, hE.cell 6, by rw [hM.hB.cell et, fam_get _ hett, hvb, hnb]⟩
              have HS9 : Hid (∀ W', We.grownBy W' none → (fun w' => w'.cell? ⟨gR, 0, none⟩ = some (.slice (some ⟨gB, 0, none⟩) t t) ∧ w'.cell? ⟨gE, 0, none⟩ = some (.int .i64 (et : Int)) ∧ w'.cell? ⟨gE, 1, none⟩ = some (.int .i64 e.kind) ∧ w'.cell? ⟨gE, 2, none⟩ = some (.int .i64 e.obj) ∧ w'.cell? ⟨gE, 3, none⟩ = some (.int .i64 e.value) ∧ w'.cell? ⟨gE, 4, none⟩ = some (.int .i64 e.site) ∧ w'.cell? ⟨gE, 5, none⟩ = some (.slice Ad e.deps.length cd) ∧ w'.cell? ⟨gE, 6, none⟩ = some (.slice Ae e.from_.length ce) ∧ w'.cell? ⟨gB, et, none⟩ = some (.slice Ab nb cb)) W') := Lib.hid fun W' hg => ⟨(HR.out.grown hg (fun e => nomatch e)).cell 0, (HE.out.grown hg (fun e => nomatch e)).cell 0, (HE.out.grown hg (fun e => nomatch e)).cell 1, (HE.out.grown hg (fun e => nomatch e)).cell 2, (HE.out.grown hg (fun e => nomatch e)).cell 3, (HE.out.grown hg (fun e => nomatch e)).cell 4, (HE.out.grown hg (fun e => nomatch e)).cell 5, (HE.out.grown hg (fun e => nomatch e)).cell 6, by rw [(HM.out.hB.grown hg (fun e => nomatch e)).cell et, fam_get _ hett, HVB.out, HNB.out]⟩
              have HRV : Hid (recV ⟨m, e⟩ Ad e.deps.length cd Ae e.from_.length ce = #[.int .i64 (m : Int), .int .i64 (et : Int), .int .i64 e.kind, .int .i64 e.obj, .int .i64 e.value, .int .i64 e.site, .slice Ad e.deps.length cd, .slice Ae e.from_.length ce]) := Lib.hid (by unfold recV; rw [HET.out])
              have hrl := rec_lies We ⟨m, e⟩ Ad e.deps.length cd Ae e.from_.length ce
              rw [HRV.out] at hrl
              have HRL := Lib.hid hrl.drew
              have HGA := Lib.hid (grown_toDrew (World.grownBy_alloc We (.cells #[.int .i64 (m : Int), .int .i64 (et : Int), .int .i64 e.kind, .int .i64 e.obj, .int .i64 e.value, .int .i64 e.site, .slice Ad e.deps.length cd, .slice Ae e.from_.length ce] 71) none))
              have HO1 : Hid (∀ u ∈ (#[.int .i64 (m : Int), .int .i64 (et : Int), .int .i64 e.kind, .int .i64 e.obj, .int .i64 e.value, .int .i64 e.site, .slice Ad e.deps.length cd, .slice Ae e.from_.length ce] : Array Value).toList, u.oneCell' = true) := Lib.hid (by have := rec_one ⟨m, e⟩ Ad e.deps.length cd Ae e.from_.length ce; rw [HRV.out] at this; exact this)
              have hobn := hob
              rw [← hnb] at hobn
              have HOBA := Lib.hid (own_keep hobn HGA.out (fun _ _ e => nomatch e))
              have HS10 : Hid (∀ W', (We.alloc (.cells #[.int .i64 (m : Int), .int .i64 (et : Int), .int .i64 e.kind, .int .i64 e.obj, .int .i64 e.value, .int .i64 e.site, .slice Ad e.deps.length cd, .slice Ae e.from_.length ce] 71)).drew.grownBy W' (Value.slice Ab nb cb).ownBlock → (fun w' => w'.cell? ⟨gR, 0, none⟩ = some (.slice (some ⟨gB, 0, none⟩) t t) ∧ w'.cell? ⟨gE, 0, none⟩ = some (.int .i64 (et : Int)) ∧ w'.cell? ⟨gE, 1, none⟩ = some (.int .i64 e.kind) ∧ w'.cell? ⟨gE, 2, none⟩ = some (.int .i64 e.obj) ∧ w'.cell? ⟨gE, 3, none⟩ = some (.int .i64 e.value) ∧ w'.cell? ⟨gE, 4, none⟩ = some (.int .i64 e.site) ∧ w'.cell? ⟨gE, 5, none⟩ = some (.slice Ad e.deps.length cd) ∧ w'.cell? ⟨gE, 6, none⟩ = some (.slice Ae e.from_.length ce) ∧ w'.cell? ⟨gB, et, none⟩ = some (.slice Ab nb cb)) W') := Lib.hid fun W' hg => by
                have q1 := (HR.out.grown HGA.out (fun e => nomatch e)).grown hg (fun e => HNER.out e.symm)
                have q2 := (HE.out.grown HGA.out (fun e => nomatch e)).grown hg (fun e => HNEE.out e.symm)
                have q3 := (HM.out.hB.grown HGA.out (fun e => nomatch e)).grown hg (fun e => HNEB.out e.symm)
                exact ⟨q1.cell 0, q2.cell 0, q2.cell 1, q2.cell 2, q2.cell 3, q2.cell 4, q2.cell 5, q2.cell 6, by rw [q3.cell et, fam_get _ hett, HVB.out, HNB.out]⟩
              have HZF : Hid (∀ W', (We.alloc (.cells #[.int .i64 (m : Int), .int .i64 (et : Int), .int .i64 e.kind, .int .i64 e.obj, .int .i64 e.value, .int .i64 e.site, .slice Ad e.deps.length cd, .slice Ae e.from_.length ce] 71)).drew.grownBy W' (Value.slice Ab nb cb).ownBlock → W'.frozen? ⟨gB, et, none⟩ = false) := Lib.hid fun W' hg => ((HM.out.hB.grown HGA.out (fun e => nomatch e)).grown hg (fun e => HNEB.out e.symm)).free et
              have HLO := Lib.hid hlo
              have HNR := Lib.hid hnr
              clear hlo hnr v3 v4 hc64 hM hR hgr hld hlf hWg hE hvb hob hobn hi hz0 hz1 hz2 hrl hlen hnb hbn hbm hbo
              rw [← HGE.out, show wr.alloc (.cells #[.int .i64 (et : Int), .int .i64 e.kind, .int .i64 e.obj, .int .i64 e.value, .int .i64 e.site, .slice Ad e.deps.length cd, .slice Ae e.from_.length ce] 69) = We from HWE.out.symm]
              refine wp_region_E (z := 21) (S := fun w' => w'.cell? ⟨gR, 0, none⟩ = some (.slice (some ⟨gB, 0, none⟩) t t) ∧ w'.cell? ⟨gE, 0, none⟩ = some (.int .i64 (et : Int)) ∧ w'.cell? ⟨gE, 1, none⟩ = some (.int .i64 e.kind) ∧ w'.cell? ⟨gE, 2, none⟩ = some (.int .i64 e.obj) ∧ w'.cell? ⟨gE, 3, none⟩ = some (.int .i64 e.value) ∧ w'.cell? ⟨gE, 4, none⟩ = some (.int .i64 e.site) ∧ w'.cell? ⟨gE, 5, none⟩ = some (.slice Ad e.deps.length cd) ∧ w'.cell? ⟨gE, 6, none⟩ = some (.slice Ae e.from_.length ce) ∧ w'.cell? ⟨gB, et, none⟩ = some (.slice Ab nb cb)) (by kernel_rfl) (by exact HS9.out _ (grown_toDrew (World.grownBy.refl We none))) (fun hHeld => ?_)
              refine wpAnyE_take (i := 0) (oi := ⟨some 49, _, _, _, _, _⟩) (v := ?_) rfl (by kernel_rfl) (by kernel_rfl) (by kernel_rfl) (by kernel_rfl) (fun _ _ _ h => h) (Or.inl ⟨by rfl, ?_⟩) (by assumption) ?_
              rotate_left
              · intro w hSw; (try dsimp only at hSw); go_simp; (try with_reducible rfl)
              try simp only [Act.put, List.setIfInBounds_toArray, List.set_cons_zero, List.set_cons_succ]
              refine wpAnyE_take (i := 1) (oi := ⟨some 50, _, _, _, _, _⟩) (v := ?_) rfl (by kernel_rfl) (by kernel_rfl) (by kernel_rfl) (by kernel_rfl) (fun _ _ _ h => h) (Or.inl ⟨by rfl, ?_⟩) (by assumption) ?_
              rotate_left
              · intro w hSw; (try dsimp only at hSw); go_simp; (try with_reducible rfl)
              try simp only [Act.put, List.setIfInBounds_toArray, List.set_cons_zero, List.set_cons_succ]
              refine wpAnyE_take (i := 2) (oi := ⟨some 51, _, _, _, _, _⟩) (v := ?_) rfl (by kernel_rfl) (by kernel_rfl) (by kernel_rfl) (by kernel_rfl) (fun _ _ _ h => h) (Or.inl ⟨by rfl, ?_⟩) (by assumption) ?_
              rotate_left
              · intro w hSw; (try dsimp only at hSw); go_simp; (try with_reducible rfl)
              try simp only [Act.put, List.setIfInBounds_toArray, List.set_cons_zero, List.set_cons_succ]
              refine wpAnyE_take (i := 3) (oi := ⟨some 52, _, _, _, _, _⟩) (v := ?_) rfl (by kernel_rfl) (by kernel_rfl) (by kernel_rfl) (by kernel_rfl) (fun _ _ _ h => h) (Or.inl ⟨by rfl, ?_⟩) (by assumption) ?_
              rotate_left
              · intro w hSw; (try dsimp only at hSw); go_simp; (try with_reducible rfl)
              try simp only [Act.put, List.setIfInBounds_toArray, List.set_cons_zero, List.set_cons_succ]
              refine wpAnyE_take (i := 4) (oi := ⟨some 53, _, _, _, _, _⟩) (v := ?_) rfl (by kernel_rfl) (by kernel_rfl) (by kernel_rfl) (by kernel_rfl) (fun _ _ _ h => h) (Or.inl ⟨by rfl, ?_⟩) (by assumption) ?_
              rotate_left
              · intro w hSw; (try dsimp only at hSw); go_simp; (try with_reducible rfl)
              try simp only [Act.put, List.setIfInBounds_toArray, List.set_cons_zero, List.set_cons_succ]
              refine wpAnyE_take (i := 5) (oi := ⟨some 54, _, _, _, _, _⟩) (v := ?_) rfl (by kernel_rfl) (by kernel_rfl) (by kernel_rfl) (by kernel_rfl) (fun _ _ _ h => h) (Or.inl ⟨by rfl, ?_⟩) (by assumption) ?_
              rotate_left
              · intro w hSw; (try dsimp only at hSw); go_simp; (try with_reducible rfl)
              try simp only [Act.put, List.setIfInBounds_toArray, List.set_cons_zero, List.set_cons_succ]
              refine wpAnyE_take (i := 6) (oi := ⟨some 55, _, _, _, _, _⟩) (v := ?_) rfl (by kernel_rfl) (by kernel_rfl) (by kernel_rfl) (by kernel_rfl) (fun _ _ _ h => h) (Or.inl ⟨by rfl, ?_⟩) (by assumption) ?_
              rotate_left
              · intro w hSw; (try dsimp only at hSw); go_simp; (try with_reducible rfl)
              try simp only [Act.put, List.setIfInBounds_toArray, List.set_cons_zero, List.set_cons_succ]
              refine wpAnyE_take (i := 7) (oi := ⟨some 56, _, _, _, _, _⟩) (v := ?_) rfl (by kernel_rfl) (by kernel_rfl) (by kernel_rfl) (by kernel_rfl) (fun _ _ _ h => h) (Or.inl ⟨by rfl, ?_⟩) (by assumption) ?_
              rotate_left
              · intro w hSw; (try dsimp only at hSw); go_simp; (try with_reducible rfl)
              try simp only [Act.put, List.setIfInBounds_toArray, List.set_cons_zero, List.set_cons_succ]
              refine wpAnyE_take (i := 8) (oi := ⟨some 57, _, _, _, _, _⟩) (v := ?_) rfl (by kernel_rfl) (by kernel_rfl) (by kernel_rfl) (by kernel_rfl) (fun _ _ _ h => h) (Or.inl ⟨by rfl, ?_⟩) (by assumption) ?_
              rotate_left
              · intro w hSw; (try dsimp only at hSw); go_simp; (try with_reducible rfl)
              try simp only [Act.put, List.setIfInBounds_toArray, List.set_cons_zero, List.set_cons_succ]
              refine wpAnyE_take (i := 9) (oi := ⟨some 58, _, _, _, _, _⟩) (v := ?_) rfl (by kernel_rfl) (by kernel_rfl) (by kernel_rfl) (by kernel_rfl) (fun _ _ _ h => h) (Or.inl ⟨by rfl, ?_⟩) (by assumption) ?_
              rotate_left
              · intro w hSw; (try dsimp only at hSw); go_simp; (try with_reducible rfl)
              try simp only [Act.put, List.setIfInBounds_toArray, List.set_cons_zero, List.set_cons_succ]
              refine wpAnyE_take (i := 10) (oi := ⟨some 59, _, _, _, _, _⟩) (v := ?_) rfl (by kernel_rfl) (by kernel_rfl) (by kernel_rfl) (by kernel_rfl) (fun _ _ _ h => h) (Or.inl ⟨by rfl, ?_⟩) (by assumption) ?_
              rotate_left
              · intro w hSw; (try dsimp only at hSw); go_simp; (try with_reducible rfl)
              try simp only [Act.put, List.setIfInBounds_toArray, List.set_cons_zero, List.set_cons_succ]
              refine wpAnyE_take (i := 11) (oi := ⟨some 60, _, _, _, _, _⟩) (v := ?_) rfl (by kernel_rfl) (by kernel_rfl) (by kernel_rfl) (by kernel_rfl) (fun _ _ _ h => h) (Or.inl ⟨by rfl, ?_⟩) (by assumption) ?_
              rotate_left
              · intro w hSw; (try dsimp only at hSw); go_simp; (try with_reducible rfl)
              try simp only [Act.put, List.setIfInBounds_toArray, List.set_cons_zero, List.set_cons_succ]
              refine wpAnyE_take (i := 12) (oi := ⟨some 61, _, _, _, _, _⟩) (v := ?_) rfl (by kernel_rfl) (by kernel_rfl) (by kernel_rfl) (by kernel_rfl) (fun _ _ _ h => h) (Or.inl ⟨by rfl, ?_⟩) (by assumption) ?_
              rotate_left
              · intro w hSw; (try dsimp only at hSw); go_simp; (try with_reducible rfl)
              try simp only [Act.put, List.setIfInBounds_toArray, List.set_cons_zero, List.set_cons_succ]
              refine wpAnyE_take (i := 13) (oi := ⟨some 62, _, _, _, _, _⟩) (v := ?_) rfl (by kernel_rfl) (by kernel_rfl) (by kernel_rfl) (by kernel_rfl) (fun _ _ _ h => h) (Or.inl ⟨by rfl, ?_⟩) (by assumption) ?_
              rotate_left
              · intro w hSw; (try dsimp only at hSw); go_simp; (try with_reducible rfl)
              try simp only [Act.put, List.setIfInBounds_toArray, List.set_cons_zero, List.set_cons_succ]
              refine wpAnyE_take (i := 14) (oi := ⟨some 63, _, _, _, _, _⟩) (v := ?_) rfl (by kernel_rfl) (by kernel_rfl) (by kernel_rfl) (by kernel_rfl) (fun _ _ _ h => h) (Or.inl ⟨by rfl, ?_⟩) (by assumption) ?_
              rotate_left
              · intro w hSw; (try dsimp only at hSw); go_simp; (try with_reducible rfl)
              try simp only [Act.put, List.setIfInBounds_toArray, List.set_cons_zero, List.set_cons_succ]
              refine wpAnyE_take (i := 15) (oi := ⟨some 64, _, _, _, _, _⟩) (v := ?_) rfl (by kernel_rfl) (by kernel_rfl) (by kernel_rfl) (by kernel_rfl) (fun _ _ _ h => h) (Or.inl ⟨by rfl, ?_⟩) (by assumption) ?_
              rotate_left
              · intro w hSw; (try dsimp only at hSw); go_simp; (try with_reducible rfl)
              try simp only [Act.put, List.setIfInBounds_toArray, List.set_cons_zero, List.set_cons_succ]
              refine wpAnyE_take (i := 16) (oi := ⟨some 65, _, _, _, _, _⟩) (v := ?_) rfl (by kernel_rfl) (by kernel_rfl) (by kernel_rfl) (by kernel_rfl) (fun _ _ _ h => h) (Or.inl ⟨by rfl, ?_⟩) (by assumption) ?_
              rotate_left
              · intro w hSw; (try dsimp only at hSw); go_simp; (try with_reducible rfl)
              try simp only [Act.put, List.setIfInBounds_toArray, List.set_cons_zero, List.set_cons_succ]
              refine wpAnyE_take (i := 17) (oi := ⟨some 66, _, _, _, _, _⟩) (v := ?_) rfl (by kernel_rfl) (by kernel_rfl) (by kernel_rfl) (by kernel_rfl) (fun _ _ _ h => h) (Or.inl ⟨by rfl, ?_⟩) (by assumption) ?_
              rotate_left
              · intro w hSw; (try dsimp only at hSw); go_simp; (try with_reducible rfl)
              try simp only [Act.put, List.setIfInBounds_toArray, List.set_cons_zero, List.set_cons_succ]
              refine wpAnyE_one (i := 18) (o := ⟨some 67, _, _, _, _, _⟩) (by kernel_rfl) rfl (fun K hK => ?_)
              rw [if_pos (by rfl)]
              go_simp
              refine hK.out _ _ (by with_reducible exact HS9.out _ (grown_toDrew (World.grownBy_alloc We _ none))) (fun hHeld2 => ?_)
              clear hK K hHeld
              have hHeld := hHeld2
              clear hHeld2
              try simp only [Act.put, List.setIfInBounds_toArray, List.set_cons_zero, List.set_cons_succ]
              refine wpAnyE_one (i := 19) (o := ⟨some 68, _, _, _, _, _⟩) (by kernel_rfl) rfl (fun K hK => ?_)
              refine step_join (o := ⟨some 68, _, _, _, _, _⟩) _ (by rfl) (.tmp 62) (.tmp 67) _ (by rfl) (W1.heap.size + 4) 71 j0 _ 8 96 Tryz.underlying51 HI0.out HZ0.out HZ1.out HZ2.out (by rfl) hz _ nb (css et) (by rfl) HOBA.out _ (some ⟨We.heap.size, 0, none⟩) 1 1 (#[.int .i64 (m : Int), .int .i64 (et : Int), .int .i64 e.kind, .int .i64 e.obj, .int .i64 e.value, .int .i64 e.site, .slice Ad e.deps.length cd, .slice Ae e.from_.length ce] : Array Value).toList (by rfl) HRL.out (by intro h; nomatch h) HO1.out (by unfold maxLen; omega) (by omega) (Nat.le_trans HBS.out HGA.out.size) ?_
              intro v4 w4 hown4 hg4 hat4
              obtain ⟨A4, k4, hv4, _⟩ := own_slice hown4
              subst hv4
              refine hK.out _ _ (by exact HS10.out _ hg4) (fun hHeld2 => ?_)
              clear hK K hHeld
              have hHeld := hHeld2
              clear hHeld2
              try simp only [Act.put, List.setIfInBounds_toArray, List.set_cons_zero, List.set_cons_succ]
              refine wpAnyE_take (i := 20) (oi := ⟨some 69, _, _, _, _, _⟩) (v := ?_) rfl (by kernel_rfl) (by kernel_rfl) (by kernel_rfl) (by kernel_rfl) (fun _ _ _ h => h) (Or.inl ⟨by rfl, ?_⟩) (by assumption) ?_
              rotate_left
              · intro w hSw; (try dsimp only at hSw); go_simp; (try with_reducible rfl)
              try simp only [Act.put, List.setIfInBounds_toArray, List.set_cons_zero, List.set_cons_succ]
              refine wpAnyE_last (o := ⟨none, _, _, _, _, _⟩) (by kernel_rfl) rfl (fun K hK => ?_)
              rw [if_pos (by rfl)]
              have qz := HZF.out _ hg4
              have qc : w4.cell? ⟨gB, et, none⟩ = some (.slice Ab nb cb) := hHeld.2.2.2.2.2.2.2.2
              go_simp
              refine hK.out _ _ ?_
              clear hK K
              try simp only [Act.put, List.setIfInBounds_toArray, List.set_cons_zero, List.set_cons_succ]
              refine wpAnyE_done (by kernel_rfl) ?_ _
              obtain ⟨q, hq⟩ : ∃ q, q = nb + 1 := ⟨_, rfl⟩
              obtain ⟨w5, hw5⟩ : ∃ w5, w5 = w4.setCell ⟨gB, et, none⟩ (.slice A4 (nb + 1) k4) := ⟨_, rfl⟩
              rw [← hw5]
              have st := grown_store w4 gB et (Value.slice A4 (nb + 1) k4)
              have hbw : B ≤ We.heap.size := by have := HBS.out; omega
              have hbc4 := (((HM.out.oc et hett).grow HGA.out hbw (fun _ e => nomatch e)).snoc (r := ⟨m, e⟩) (cd := cd) (cf := ce) (HLD.out.grown HGA.out hbw (fun _ e => nomatch e)) (HLF.out.grown HGA.out hbw (fun _ e => nomatch e))).grow hg4 (Nat.le_trans hbw HGA.out.size) (fun g e => by have := (HOBA.out.lt g e).1; have := HM.out.lt; have := HM.out.ge; omega)
              rw [HRV.out] at hbc4
              have hrp5 : RP 101 #[.slice (some ⟨gB, 0, none⟩) t t, .slice (some ⟨gW, 0, none⟩) t t, .slice (some ⟨gF, 0, none⟩) t t] W1 (W1.heap.size + 4) B t gR gB gW gF (s.push et ⟨m, e⟩) w5 := by
                rw [hw5]
                refine ⟨⟨_, _, _, (HM.out.keep HGA.out).grewB hett (by rw [List.length_append, ← HNB.out]; exact hown4) hbc4 (by rw [HVB.out, ← HNB.out]; exact hg4) (by rw [HVB.out, ← HNB.out]; exact hat4)⟩, ((HR.out.grown HGA.out (fun e => nomatch e)).grown hg4 (fun e => HNER.out e.symm)).far (p := ⟨gB, et, none⟩) HNR.out.2.1 _, ?_, HLO.out, HNR.out⟩
                exact gr_row (gr_row (gr_row HGR.out HGA.out (fun g e => nomatch e)) hg4 (fun g e => by have := (HOBA.out.lt g e).1; have := HLO.out.1; omega)) st (fun g e => by injection e with e; have := HLO.out.2.1; omega)
              have hev5 : Held w5 gE 69 #[.int .i64 (et : Int), .int .i64 e.kind, .int .i64 e.obj, .int .i64 e.value, .int .i64 e.site, .slice Ad e.deps.length cd, .slice Ae e.from_.length ce] := by
                rw [hw5]
                exact ((HE.out.grown HGA.out (fun e => nomatch e)).grown hg4 (fun e => HNEE.out e.symm)).far (p := ⟨gB, et, none⟩) (by have := HM.out.lt; have := HBS0.out; have := HGE.out; show gE ≠ gB; omega) _
              have hpl5 := HB1.out.grown hrp5.gr (fun e => nomatch e)
              have hpush : (s.push et ⟨m, e⟩).buf et = s.buf et ++ [⟨m, e⟩] := by unfold St.push; simp [upd_same]
              have hgood := HGD.out.pushed (e := e) (by have := HET.out; omega) HV3.out HV4.out HRFT.out
              rw [HTN.out] at hgood
              have CW := Lib.hid (fun (W' : World) (hg : w5.grownBy W' none) => writeR_any W1 (W1.heap.size + 4) B t gR gB gW gF (s.push et ⟨m, e⟩) W' (c + 1) (m + 1) et (hrp5.keep hg) (hgood et hett) hett ht4 HP.out.c64 (by omega))
              have HRP5 := Lib.hid hrp5
              have y4 : w5.cell? ⟨gR, 0, none⟩ = some (.slice (some ⟨gB, 0, none⟩) t t) := hrp5.rec_.cell 0
              have y0 : w5.cell? ⟨w.heap.size, 0, none⟩ = some (.int .i64 cap) := hpl5.cell 0
              obtain ⟨⟨vb2, vf2, css2, hM2⟩, _⟩ := hrp5
              have y1 : w5.cell? ⟨gB, et, none⟩ = some (.slice A4 q k4) := by
                have h9 := ((HM.out.hB.grown HGA.out (fun e => nomatch e)).grown hg4 (fun e => HNEB.out e.symm)).store et (.slice A4 (nb + 1) k4)
                rw [← hw5] at h9
                rw [h9.cell et, hq]
                simp [fam, hett]
              have x0 : w5.cell? ⟨gE, 0, none⟩ = some (.int .i64 (et : Int)) := hev5.cell 0
              have x1 : w5.cell? ⟨gE, 1, none⟩ = some (.int .i64 e.kind) := hev5.cell 1
              have HADD : Hid (s.add cap m e = if ((q : Int) = cap ∨ e.kind = 2) then (s.push et ⟨m, e⟩).write et else s.push et ⟨m, e⟩) := by
                refine Lib.hid ?_
                unfold St.add
                rw [HTN.out, hq, HNB.out]
              have HNXX := HNX
              clear hw5 hq st hbc4 hev5 hpl5 hpush hgood hM2 hown4 hg4 hat4 hHeld
              by_cases hq1 : (q : Int) = cap
              · have hqb : ((q : Int) == cap) = true := beq_iff_eq.2 hq1
                have HQ := Lib.hid hq1
                clear hq1
                go_wp2_with fail
                go_quiet (fail)
                go_wp2_with (first | (go_at_call 35; refine (CW.out _ (grown_toDrewN (World.grownBy.refl w5 none) _)).mono ?_; rintro x w9 ⟨rfl, h9⟩) | fail)
                go_meet
                case rel => rw [HNX.out, HADD.out, if_pos (.inl HQ.out)]; exact h9
              · have hqb : ((q : Int) == cap) = false := beq_eq_false_iff_ne.2 hq1
                by_cases hk : e.kind = 2
                · have hkb : (e.kind == 2) = true := beq_iff_eq.2 hk
                  have HK := Lib.hid hk
                  clear hq1 hk
                  go_wp2_with fail
                  go_quiet (fail)
                  go_wp2_with (first | (go_at_call 35; refine (CW.out _ (grown_toDrewN (World.grownBy.refl w5 none) _)).mono ?_; rintro x w9 ⟨rfl, h9⟩) | fail)
                  go_meet
                  case rel => rw [HNX.out, HADD.out, if_pos (.inr HK.out)]; exact h9
                · have hkb : (e.kind == 2) = false := beq_eq_false_iff_ne.2 hk
                  have HNN2 : Hid (¬ ((q : Int) = cap ∨ e.kind = 2)) := Lib.hid (fun h => h.elim hq1 hk)
                  clear hq1 hk
                  go_wp2_with fail
                  go_quiet (fail)
                  go_wp2_with fail
                  go_meet
                  case rel => rw [HNX.out, HADD.out, if_neg HNN2.out]; exact HRP5.out.keep (grown_toDrewN (World.grownBy.refl w5 none) _)
            · have HX : Hid (recA l ⟨cap, fl, stop, cu⟩ n = rec0 l ⟨cap, fl, stop, cu⟩ n) := Lib.hid (by have : n = 0 := by omega
                                                                                                         subst this; rfl)
              go_wp2_with fail
              go_meet
              case rel => rw [HX.out]; exact HRP.out
          case rest =>
            have HRP2 := Lib.hid hcut
            have HPL2 := Lib.hid (HB1.out.grown hcut.gr (fun e => nomatch e))
            clear hcut r1 r2 r3 HRP HPL
            go_wp2_with fail
            go_loopw [12] (fun iv wy => ∃ (k : Nat) (s : St), iv = .int .i64 (k : Int) ∧ k ≤ nf ∧ RP 101 #[.slice (some ⟨gB, 0, none⟩) t t, .slice (some ⟨gW, 0, none⟩) t t, .slice (some ⟨gF, 0, none⟩) t t] W1 (W1.heap.size + 4) B t gR gB gW gF s wy ∧ Iv.Good c n t s ∧ s.flush n (fl.drop k) = rec0 l ⟨cap, fl, stop, cu⟩ (n + 1)) (fun iv _ => nf - (intOf iv).toNat)
            case atStart => exact ⟨0, _, rfl, Nat.zero_le _, HRP2.out, HRA.out, HRF.out⟩
            case round =>
              obtain ⟨k2, s, rfl, hk2, hrp2, hgd2, hfl2⟩ := hrel
              have HRP3 := Lib.hid hrp2
              have HGD3 := Lib.hid hgd2
              have HFL3 := Lib.hid hfl2
              have r1 : wr.cell? ⟨w.heap.size, 1, none⟩ = some (.slice Af nf cf) := (HB1.out.grown hrp2.gr (fun e => nomatch e)).cell 1
              clear hrp2 hgd2 hfl2
              by_cases hkf : k2 < nf
              · obtain ⟨b, o, f, rfl, hbB, hfk, f0, f1⟩ := (HF1.out.grown HRP3.out.gr hBW (fun _ e => nomatch e)).at hkf
                obtain ⟨g1, g2, g3⟩ := HP.out.fl f (List.mem_of_getElem? hfk)
                have HFD := Lib.hid (flush_drop hfk s n)
                have HWR := Lib.hid (writeR_any W1 (W1.heap.size + 4) B t gR gB gW gF s wr c n f.2.toNat HRP3.out (HGD3.out _ (by omega)) (by omega) ht4 (by have := HP.out.c64; omega) (by omega))
                have hft : ((f.2.toNat : Nat) : Int) = f.2 := by omega
                rw [hft] at HWR
                have HT := Lib.hid (show f.2.toNat < t by omega)
                clear hfk hft
                by_cases hfn : f.1 = (n : Int)
                · have hfb : (f.1 == (n : Int)) = true := beq_iff_eq.2 hfn
                  have HFN := Lib.hid hfn
                  clear hfn
                  go_wp2_with (first | (go_at_call 35; refine HWR.out.mono ?_; rintro x w9 ⟨rfl, h9⟩) | fail)
                  go_roundw
                  case rel => exact ⟨k2 + 1, s.write f.2.toNat, by go_num, by omega, h9, HGD3.out.write (by have := HP.out.c64; omega) (by omega) ht4 _ HT.out, by have := HFD.out; rw [if_pos HFN.out] at this; rw [← this]; exact HFL3.out⟩
                  case measure => simp [intOf]; omega
                · have hfb : (f.1 == (n : Int)) = false := beq_eq_false_iff_ne.2 hfn
                  have HFN := Lib.hid hfn
                  clear hfn
                  go_wp2_with fail
                  go_roundw
                  case rel => exact ⟨k2 + 1, s, by go_num, by omega, HRP3.out, HGD3.out, by have := HFD.out; rw [if_neg HFN.out] at this; rw [← this]; exact HFL3.out⟩
                  case measure => simp [intOf]; omega
              · have HSN : Hid (s = rec0 l ⟨cap, fl, stop, cu⟩ (n + 1)) := Lib.hid (by have := HFL3.out; rw [List.drop_eq_nil_of_le (by have := HF1.out.1; omega)] at this; exact this)
                go_wp2_with fail
                go_roundw
                case rel => exact ⟨n + 1, by go_num, by omega, by rw [← HSN.out]; exact HRP3.out⟩
                case measure => simp [intOf]; omega
        · have hx : n = N + 1 := by omega
          have HX : Hid (rec0 l ⟨cap, fl, stop, cu⟩ n = cutSt (recorded l ⟨cap, fl, stop, cu⟩ (lastN l ⟨cap, fl, stop, cu⟩)) cu 0) := Lib.hid (by rw [hx, HNN.out, cutSt_zero]; rfl)
          rw [HX.out] at HRP
          have hcl : cu.length ≤ t := HP.out.cul
          have HCL : Hid (cu.length = nc) := Lib.hid HC1.out.lenI
          obtain ⟨S, hS⟩ : ∃ S, S = recorded l ⟨cap, fl, stop, cu⟩ (lastN l ⟨cap, fl, stop, cu⟩) := ⟨_, rfl⟩
          rw [← hS] at HRP
          have hfin : ∀ w9, RP 101 #[.slice (some ⟨gB, 0, none⟩) t t, .slice (some ⟨gW, 0, none⟩) t t, .slice (some ⟨gF, 0, none⟩) t t] W1 (W1.heap.size + 4) B t gR gB gW gF (cutSt S cu cu.length) w9 → FilesOut l (t : Int) ⟨cap, fl, stop, cu⟩ w (.returned (.tuple #[.slice (some ⟨gF, 0, none⟩) t t, .int .i64 0])) w9 := by
            intro w9 h9
            have he : filesErr l (t : Int) ⟨cap, fl, stop, cu⟩ = 0 := HP.out.ok
            obtain ⟨vf, hvf⟩ := h9.files w HGW.out.size
            refine ⟨_, by rw [he], grownBy_trans HGW.out h9.gr (.inl rfl), fun h => absurd he h, fun _ => ⟨t, gF, vf, rfl, rfl, ?_⟩⟩
            have : filesOf l ⟨cap, fl, stop, cu⟩ = (cutSt S cu cu.length).file := by rw [hS]; rfl
            rw [this]
            exact hvf
          have HFIN := Lib.hid hfin
          have hm4 : (decide ((n : Int) ≤ stop) = false) ∨ (decide ((n : Int) ≤ stop) = true ∧ decide (n ≤ nl) = false) := by
            by_cases h : (n : Int) ≤ stop
            · exact .inr ⟨decide_eq_true h, decide_eq_false (by omega)⟩
            · exact .inl (decide_eq_false h)
          clear hS hfin hx
          rcases hm4 with hmd | ⟨hmd, hme⟩
          all_goals
            go_wp2_with fail
            go_loopw [13] (fun iv wr => ∃ j : Nat, iv = .int .i64 (j : Int) ∧ j ≤ nc ∧ RP 101 #[.slice (some ⟨gB, 0, none⟩) t t, .slice (some ⟨gW, 0, none⟩) t t, .slice (some ⟨gF, 0, none⟩) t t] W1 (W1.heap.size + 4) B t gR gB gW gF (cutSt S cu j) wr) (fun iv _ => nc - (intOf iv).toNat)
            case atStart => exact ⟨0, rfl, Nat.zero_le _, HRP.out⟩
            case round =>
              obtain ⟨j, rfl, hj, hrp3⟩ := hrel
              have HRP3 := Lib.hid hrp3
              have q6 : wr.cell? ⟨gR, 2, none⟩ = some (.slice (some ⟨gF, 0, none⟩) t t) := hrp3.rec_.cell 2
              have r3' : wr.cell? ⟨w.heap.size, 3, none⟩ = some (.slice Ac nc cc) := (HB1.out.grown hrp3.gr (fun e => nomatch e)).cell 3
              clear r1 r2 r3 hrp3
              by_cases hjn : j < nc
              · obtain ⟨ad, u, rfl, hb1, hx, hc⟩ := (HC1.out.grown HRP3.out.gr hBW (fun _ e => nomatch e)).cellAt hjn
                simp only [List.getElem?_map, Option.map_eq_some_iff] at hx
                obtain ⟨x, hx, rfl⟩ := hx
                unfold iv at hc
                have hx0 : 0 ≤ x := HP.out.cu x (List.mem_of_getElem? hx)
                have hx1 := HI.out.2 x (List.mem_of_getElem? hx)
                obtain ⟨vb3, vf3, css3, hM⟩ := HRP3.out.ex
                have hjt : j < t := by have := HCL.out; omega
                have HNX := Lib.hid (cutSt_next (s := S) hx)
                have HAT := Lib.hid (cutSt_at S cu j)
                obtain ⟨A3, c3, hv3, hn3, hm3, hl3, ho3⟩ := own_slice (hM.of_ j hjt)
                have kF : wr.cell? ⟨gF, j, none⟩ = some (.slice A3 ((cutSt S cu j).file j).length c3) := by rw [hM.hF.cell j, fam_get _ hjt, hv3]
                have zF := hM.hF.free j
                have i0 : (0 : Int) ≤ (j : Int) := by omega
                have i1 : (j : Int) < (t : Int) := by omega
                obtain ⟨L, hL⟩ : ∃ L, L = ((cutSt S cu j).file j).length := ⟨_, rfl⟩
                have KF := Lib.hid kF
                rw [← hL] at kF hn3
                have HL := Lib.hid hL
                have hL63 : L ≤ 9223372036854775807 := by unfold maxLen at hm3; omega
                obtain ⟨m, hm⟩ : ∃ m, m = L - x.toNat := ⟨_, rfl⟩
                have hml : m ≤ L := by omega
                obtain ⟨q, hq⟩ : ∃ q, q = min L x.toNat := ⟨_, rfl⟩
                have hmn : (if (L : Int) < x then (L : Int) else x) = (q : Int) := by
                  split
                  · omega
                  · omega
                have hsub : (L : Int) - (q : Int) = (m : Int) := by omega
                have hwm : IntKind.i64.wrap (m : Int) = (m : Int) := IntWalk.i64_in _ (by omega)
                have HMM := Lib.hid hm
                have h0m : (0 : Int) ≤ (m : Int) := by omega
                have hmc : (m : Int) ≤ (c3 : Int) := by omega
                clear hx hx1 hM hv3 hl3 ho3 hL hm hq hm3
                go_upto_region 22 with fail
                go_still_tail 19, (by kernel_rfl)
                change wpList _ _ _ _ _ wr.drew
                have HRPd := Lib.hid (HRP3.out.keep (grown_toDrew (World.grownBy.refl wr none)))
                have kFd : wr.drew.cell? ⟨gF, j, none⟩ = some (.slice A3 ((cutSt S cu j).file j).length c3) := KF.out
                have zFd : wr.drew.frozen? ⟨gF, j, none⟩ = false := zF
                clear q6 kF KF zF hc HRP3 r3'
                generalize wr.drew = wd at HRPd kFd zFd ⊢
                have KFD := Lib.hid kFd
                go_wp2_with fail
                go_roundw
                case rel => exact ⟨j + 1, by go_num, by omega, by
                  rw [HNX.out, ← HAT.out]
                  unfold cutFile
                  rw [← HL.out, ← HMM.out]
                  have := HRPd.out.cut hjt KFD.out (m := m) (by rw [← HL.out]; exact hml)
                  exact this⟩
                case measure => simp [intOf]; omega
              · have HJ : Hid (j = cu.length) := Lib.hid (by have := HCL.out; omega)
                go_wp2_with fail
                go_ret2
                exact HFIN.out _ (by rw [← HJ.out]; exact HRP3.out)
  · have hbb : (b == 0) = false := beq_eq_false_iff_ne.2 hb0
    go_wp2_with (first | (go_at_call 34; refine (CA.out W (World.grownBy.refl W none)).mono ?_; rintro e w2 ⟨rfl, hg2⟩) | fail)
    go_ret2
    exact filesOut_bad HBK.out.symm hb0 (grownBy_trans HWG.out hg2 (.inl rfl))
end Go.Proofs.YtaiaoiochbpmfaaGreat
