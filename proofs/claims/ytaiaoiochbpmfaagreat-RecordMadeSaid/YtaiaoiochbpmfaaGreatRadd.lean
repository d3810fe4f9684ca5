/- The walk of the recorder's add (chapter 14). -/
import Derived.Test.YtaiaoiochbpmfaaGreatRwrR
import Derived.Test.YtaiaoiochbpmfaaGreatRrow
import Derived.Deep.QuietTactic
import Derived.BigQuiet
namespace Go.Proofs.YtaiaoiochbpmfaaGreat
open Go Go.RowKit Iv
set_option linter.unusedVariables false
theorem RP.keep {T : TypeId} {cells : Array Value} {W0 wr w1 : World} {base B thr gR gB gW gF : Nat} {s : St} (h : RP T cells W0 base B thr gR gB gW gF s wr) (hg : wr.grownBy w1 none) : RP T cells W0 base B thr gR gB gW gF s w1 := by
  obtain ⟨⟨vb, vf, css, hM⟩, hR, hgr, hlo, hnr⟩ := h
  exact ⟨⟨vb, vf, css, hM.keep hg⟩, hR.grown hg (fun e => nomatch e), gr_row hgr hg (fun g e => nomatch e), hlo, hnr⟩
theorem rec_lies (w : World) (r : Rec) (Ad : Option Addr) (nd cd : Nat) (Af : Option Addr) (nf cf : Nat) :
    Lies (w.alloc (.cells (recV r Ad nd cd Af nf cf) 71)) (w.alloc (.cells (recV r Ad nd cd Af nf cf) 71)).heap.size 8 (some ⟨w.heap.size, 0, none⟩) 1 (recV r Ad nd cd Af nf cf).toList := by
  obtain ⟨A, c, hv, _, _, hl, _⟩ := own_slice (World.ownsRow_lit (base := w.heap.size) (e := 71) (size := 8) w (recV r Ad nd cd Af nf cf) 1 (Nat.le_refl _) (by unfold maxLen; omega) rfl)
  injection hv with hA
  subst hA
  exact hl
theorem rec_one (r : Rec) (Ad : Option Addr) (nd cd : Nat) (Af : Option Addr) (nf cf : Nat) : ∀ u ∈ (recV r Ad nd cd Af nf cf).toList, u.oneCell' = true := by
  intro u hu
  simp only [recV, List.mem_cons, List.not_mem_nil, or_false] at hu
  rcases hu with h | h | h | h | h | h | h | h <;> rw [h] <;> rfl
set_option maxRecDepth 100000 in
set_option maxHeartbeats 3200000 in
theorem addP_any (c1 c2 c3 : Value) (W0 : World) (base B thr gR gB gW gF : Nat) (s : St) (wr : World) (cc n t : Nat) (e : Ev) (Ad : Option Addr) (cd : Nat) (Af : Option Addr) (cf : Nat)
    (h : RP 95 #[.int .i64 ((cc + 1 : Nat) : Int), c1, c2, c3, .slice (some ⟨gB, 0, none⟩) thr thr, .slice (some ⟨gW, 0, none⟩) thr thr, .slice (some ⟨gF, 0, none⟩) thr thr] W0 base B thr gR gB gW gF s wr)
    (hG : Iv.Good cc n thr s) (het : e.thread = (t : Int)) (ht : t < thr) (hthr : thr ≤ 4) (hc : cc + 1 ≤ 64) (hn : n + 1 ≤ 400) (hd : e.deps.length ≤ 400) (hf : e.from_.length ≤ 400) (hr : RecFit ⟨n, e⟩)
    (hld : Lies wr B 1 Ad e.deps.length (e.deps.map iv)) (hlf : Lies wr B 1 Af e.from_.length (e.from_.map iv)) :
    Calls Tryz.prog 32 #[.pointer (some ⟨gR, 0, none⟩), .int .i64 (n : Int), .agg (evV e Ad e.deps.length cd Af e.from_.length cf)] wr fun x w' => x = .returned (.int .i64 0) ∧
      RP 95 #[.int .i64 ((cc + 1 : Nat) : Int), c1, c2, c3, .slice (some ⟨gB, 0, none⟩) thr thr, .slice (some ⟨gW, 0, none⟩) thr thr, .slice (some ⟨gF, 0, none⟩) thr thr] W0 base B thr gR gB gW gF (s.add ((cc + 1 : Nat) : Int) n e) w' := by
  have hBw : B ≤ wr.heap.size := by have := h.ex; obtain ⟨_, _, _, hM⟩ := this; have := hM.bs; have := hM.lt; have := hM.ge; omega
  obtain ⟨W, hW⟩ : ∃ W, W = wr.alloc (.cells (evV e Ad e.deps.length cd Af e.from_.length cf) 69) := ⟨_, rfl⟩
  have hWg : wr.grownBy W none := by rw [hW]; exact World.grownBy_alloc wr _ none
  have hE : Held W wr.heap.size 69 (evV e Ad e.deps.length cd Af e.from_.length cf) := by rw [hW]; exact Held.new _ _ _
  have HW := Lib.hid hW
  obtain ⟨⟨vb, vf, css, hM0⟩, hR0, hgr0, hlo, hnr⟩ := h
  have hM := hM0.keep hWg
  have hR := hR0.grown hWg (fun e => nomatch e)
  have hgr := gr_row hgr0 hWg (fun g e => nomatch e)
  have HBLT := Lib.hid (fun g (e : (vb t).ownBlock = some g) => ((hM0.ob t ht).lt g e).2)
  have HBS0 := Lib.hid hM0.bs
  clear hM0 hR0 hgr0
  have HLD := Lib.hid (hld.grown hWg hBw (fun _ e => nomatch e))
  have HLF := Lib.hid (hlf.grown hWg hBw (fun _ e => nomatch e))
  have HG := Lib.hid hG
  have HRF := Lib.hid hr
  have HGR := Lib.hid hgr
  have i0 : (0 : Int) ≤ (t : Int) := by omega
  have i1 : (t : Int) < (thr : Int) := by omega
  have hgE : wr.heap.size < W.heap.size := by rw [hW]; simp
  have htn : e.thread.toNat = t := by omega
  unfold evV at hE hW ⊢
  rw [het] at hE hW ⊢
  have e0 : W.cell? ⟨wr.heap.size, 0, none⟩ = some (.int .i64 (t : Int)) := hE.cell 0
  have e1 : W.cell? ⟨wr.heap.size, 1, none⟩ = some (.int .i64 e.kind) := hE.cell 1
  have e2 : W.cell? ⟨wr.heap.size, 2, none⟩ = some (.int .i64 e.obj) := hE.cell 2
  have e3 : W.cell? ⟨wr.heap.size, 3, none⟩ = some (.int .i64 e.value) := hE.cell 3
  have e4 : W.cell? ⟨wr.heap.size, 4, none⟩ = some (.int .i64 e.site) := hE.cell 4
  have e5 : W.cell? ⟨wr.heap.size, 5, none⟩ = some (.slice Ad e.deps.length cd) := hE.cell 5
  have e6 : W.cell? ⟨wr.heap.size, 6, none⟩ = some (.slice Af e.from_.length cf) := hE.cell 6
  have HW2 := Lib.hid hW
  have HE := Lib.hid hE
  obtain ⟨Ab, cb, hvb, hbn, hbm, _, hbo⟩ := own_slice (hM.ob t ht)
  have hob := hM.ob t ht
  rw [hvb] at hob
  have HOB := Lib.hid hob
  have r4 : W.cell? ⟨gR, 4, none⟩ = some (.slice (some ⟨gB, 0, none⟩) thr thr) := hR.cell 4
  have b1 : W.cell? ⟨gB, t, none⟩ = some (.slice Ab (s.buf t).length cb) := by rw [hM.hB.cell t, fam_get _ ht, hvb]
  have z1 := hM.hB.free t
  have hlen := (hG t ht).len
  have HM := Lib.hid hM
  have HR := Lib.hid hR
  have HVB := Lib.hid hvb
  obtain ⟨j0, hi, hz0, hz1, hz2⟩ := info_parts info_rec
  have HI := Lib.hid hi
  have HZ0 := Lib.hid hz0
  have HZ1 := Lib.hid hz1
  have HZ2 := Lib.hid hz2
  have hz : (0 : Nat) < 8 := by omega
  have HNEB : Hid ((Value.slice Ab (s.buf t).length cb).ownBlock ≠ some gB) := Lib.hid (own_ne hob hM.lt.1)
  have HNER : Hid ((Value.slice Ab (s.buf t).length cb).ownBlock ≠ some gR) := Lib.hid (own_ne hob hnr.1)
  have HBS := Lib.hid hM.bs
  clear hM hR hgr hld hlf hG hr hWg hW hE hvb hob hi hz0 hz1 hz2
  go_enter Tryz.func32, Tryz.ntmps32
  go_upto_region 1 with fail
  rw [show wr.alloc (.cells #[.int .i64 (t : Int), .int .i64 e.kind, .int .i64 e.obj, .int .i64 e.value, .int .i64 e.site, .slice Ad e.deps.length cd, .slice Af e.from_.length cf] 69) = W from HW2.out.symm]
  clear HW HW2
  go_upto_region 2 with fail
  have HRV : Hid (recV ⟨n, e⟩ Ad e.deps.length cd Af e.from_.length cf = #[.int .i64 (n : Int), .int .i64 (t : Int), .int .i64 e.kind, .int .i64 e.obj, .int .i64 e.value, .int .i64 e.site, .slice Ad e.deps.length cd, .slice Af e.from_.length cf]) := Lib.hid (by unfold recV; rw [het])
  obtain ⟨Wa, hWa⟩ : ∃ Wa, Wa = W.alloc (.cells #[.int .i64 (n : Int), .int .i64 (t : Int), .int .i64 e.kind, .int .i64 e.obj, .int .i64 e.value, .int .i64 e.site, .slice Ad e.deps.length cd, .slice Af e.from_.length cf] 71) := ⟨_, rfl⟩
  have hga : W.grownBy Wa none := by rw [hWa]; exact World.grownBy_alloc W _ none
  have hrl := rec_lies W ⟨n, e⟩ Ad e.deps.length cd Af e.from_.length cf
  rw [HRV.out, ← hWa] at hrl
  have a4 := (HR.out.grown hga (fun e => nomatch e)).cell 4
  have a1 : Wa.cell? ⟨gB, t, none⟩ = some (.slice Ab (s.buf t).length cb) := by rw [(HM.out.hB.grown hga (fun e => nomatch e)).cell t, fam_get _ ht, HVB.out]
  have HRL := Lib.hid hrl.drew
  have HGA := Lib.hid (grown_toDrew hga)
  have HO1 : Hid (∀ u ∈ (#[.int .i64 (n : Int), .int .i64 (t : Int), .int .i64 e.kind, .int .i64 e.obj, .int .i64 e.value, .int .i64 e.site, .slice Ad e.deps.length cd, .slice Af e.from_.length cf] : Array Value).toList, u.oneCell' = true) := Lib.hid (by have := rec_one ⟨n, e⟩ Ad e.deps.length cd Af e.from_.length cf; rw [HRV.out] at this; exact this)
  have HOBA := Lib.hid (own_keep HOB.out (grown_toDrew hga) (fun _ _ e => nomatch e))
  subst hWa
  clear hrl hga
  go_cut [26] (fun _ wx => RP 95 #[.int .i64 ((cc + 1 : Nat) : Int), c1, c2, c3, .slice (some ⟨gB, 0, none⟩) thr thr, .slice (some ⟨gW, 0, none⟩) thr thr, .slice (some ⟨gF, 0, none⟩) thr thr] W0 base B thr gR gB gW gF (s.push t ⟨n, e⟩) wx ∧ W.heap.size ≤ wx.heap.size ∧ Held wx wr.heap.size 69 #[.int .i64 (t : Int), .int .i64 e.kind, .int .i64 e.obj, .int .i64 e.value, .int .i64 e.site, .slice Ad e.deps.length cd, .slice Af e.from_.length cf])
  case first =>
    go_region_law
      (first
        | (refine step_join (o := ⟨some 26, _, _, _, _, _⟩) _ (by rfl) (.tmp 21) (.tmp 25) _ (by rfl) base 71 j0 _ 8 96 Tryz.underlying51 HI.out HZ0.out HZ1.out HZ2.out (by rfl) hz _ (s.buf t).length (css t) (by rfl) HOBA.out _ (some ⟨W.heap.size, 0, none⟩) 1 1 (#[.int .i64 (n : Int), .int .i64 (t : Int), .int .i64 e.kind, .int .i64 e.obj, .int .i64 e.value, .int .i64 e.site, .slice Ad e.deps.length cd, .slice Af e.from_.length cf] : Array Value).toList (by rfl) HRL.out (by intro h; nomatch h) HO1.out (by unfold maxLen; omega) (by omega) (Nat.le_trans HBS.out HGA.out.size) ?_; intro v4 w4 hown4 hg4 hat4; obtain ⟨A4, k4, hv4, _⟩ := own_slice hown4; subst hv4; have q4 := ((HR.out.grown HGA.out (fun e => nomatch e)).grown hg4 (fun e => HNER.out e.symm)).cell 4; have q1 : w4.cell? ⟨gB, t, none⟩ = some (.slice Ab (s.buf t).length cb) := (by rw [((HM.out.hB.grown HGA.out (fun e => nomatch e)).grown hg4 (fun e => HNEB.out e.symm)).cell t, fam_get _ ht, HVB.out]); have qz := ((HM.out.hB.grown HGA.out (fun e => nomatch e)).grown hg4 (fun e => HNEB.out e.symm)).free t)
        | fail)
    all_goals
      go_wp2_with fail
      go_meet
      case rel =>
        have st := grown_store w4 gB t (Value.slice A4 ((s.buf t).length + 1) k4)
        have hbc := HM.out.oc t ht
        have hbw : B ≤ W.heap.size := by omega
        have hbc4 := ((hbc.grow HGA.out hbw (fun _ e => nomatch e)).snoc (r := ⟨n, e⟩) (cd := cd) (cf := cf) (HLD.out.grown HGA.out hbw (fun _ e => nomatch e)) (HLF.out.grown HGA.out hbw (fun _ e => nomatch e))).grow hg4 (Nat.le_trans hbw HGA.out.size) (fun g e => by have := (HOBA.out.lt g e).1; have := HM.out.lt; have := HM.out.ge; omega)
        rw [HRV.out] at hbc4
        refine ⟨⟨⟨_, _, _, (HM.out.keep HGA.out).grewB ht (by rw [List.length_append]; exact hown4) hbc4 (by rw [HVB.out]; exact hg4) (by rw [HVB.out]; exact hat4)⟩, ((HR.out.grown HGA.out (fun e => nomatch e)).grown hg4 (fun e => HNER.out e.symm)).far (p := ⟨gB, t, none⟩) hnr.2.1 _, ?_, hlo, hnr⟩, Nat.le_trans HGA.out.size (Nat.le_trans hg4.size st.size), ?_⟩
        · exact gr_row (gr_row (gr_row HGR.out HGA.out (fun g e => nomatch e)) hg4 (fun g e => by have := (HOBA.out.lt g e).1; have := hlo.1; omega)) st (fun g e => by injection e with e; have := hlo.2.1; omega)
        · have hx := (HE.out.grown HGA.out (fun e => nomatch e)).grown hg4 (fun e => by have := HBLT.out _ (by rw [HVB.out]; exact e.symm); omega)
          exact hx.far (p := ⟨gB, t, none⟩) (by have := HM.out.lt; have := HBS0.out; show wr.heap.size ≠ gB; omega) _
  case rest =>
    obtain ⟨hrp, hsz, hev⟩ := hcut
    have hgood := HG.out.pushed (e := e) (by omega) hd hf HRF.out
    rw [htn] at hgood
    have CW := Lib.hid (fun (W' : World) (hg : wc.grownBy W' none) => writeP_any _ _ _ _ W0 base B thr gR gB gW gF (s.push t ⟨n, e⟩) W' (cc + 1) (n + 1) t (hrp.keep hg) (hgood t ht) ht hthr hc hn)
    have HRP := Lib.hid hrp
    obtain ⟨⟨vb2, vf2, css2, hM⟩, hR, _, _, _⟩ := hrp
    obtain ⟨A6, k6, hvb6, _⟩ := own_slice (hM.ob t ht)
    obtain ⟨m, hm⟩ : ∃ m, m = ((s.push t ⟨n, e⟩).buf t).length := ⟨_, rfl⟩
    obtain ⟨C, hC⟩ : ∃ C, C = cc + 1 := ⟨_, rfl⟩
    have HMM := Lib.hid hm
    have HCC := Lib.hid hC
    have r4 : wc.cell? ⟨gR, 4, none⟩ = some (.slice (some ⟨gB, 0, none⟩) thr thr) := hR.cell 4
    have r0 : wc.cell? ⟨gR, 0, none⟩ = some (.int .i64 (C : Int)) := by rw [hC]; exact hR.cell 0
    have b1 : wc.cell? ⟨gB, t, none⟩ = some (.slice A6 m k6) := by rw [hM.hB.cell t, fam_get _ ht, hvb6, hm]
    have x1 : wc.cell? ⟨wr.heap.size, 1, none⟩ = some (.int .i64 e.kind) := hev.cell 1
    have HADD : Hid (s.add ((cc + 1 : Nat) : Int) n e = if ((m : Int) = (C : Int) ∨ e.kind = 2) then (s.push t ⟨n, e⟩).write t else s.push t ⟨n, e⟩) := by
      refine Lib.hid ?_
      have hm2 : m = (s.buf t).length + 1 := by rw [hm]; unfold St.push; simp [upd_same]
      unfold St.add
      rw [htn, hm2, hC]
    clear hM hR hev hvb6 hm hC a4 a1 e0 e1 e2 e3 e4 e5 e6 z1
    by_cases hq : (m : Int) = (C : Int)
    · have hqb : ((m : Int) == (C : Int)) = true := beq_iff_eq.2 hq
      have HQ := Lib.hid hq
      clear hq
      go_wp2_with fail
      go_quiet (fail)
      go_wp2_with (first | (go_at_call 33; refine (CW.out _ (grown_toDrewN (World.grownBy.refl wc none) _)).mono ?_; rintro x w9 ⟨rfl, h9⟩) | fail)
      go_ret
      exact ⟨rfl, by rw [HADD.out, if_pos (.inl HQ.out)]; exact h9⟩
    · have hqb : ((m : Int) == (C : Int)) = false := beq_eq_false_iff_ne.2 hq
      by_cases hk : e.kind = 2
      · have hkb : (e.kind == 2) = true := beq_iff_eq.2 hk
        have HK := Lib.hid hk
        clear hq hk
        go_wp2_with fail
        go_quiet (fail)
        go_wp2_with (first | (go_at_call 33; refine (CW.out _ (grown_toDrewN (World.grownBy.refl wc none) _)).mono ?_; rintro x w9 ⟨rfl, h9⟩) | fail)
        go_ret
        exact ⟨rfl, by rw [HADD.out, if_pos (.inr HK.out)]; exact h9⟩
      · have hkb : (e.kind == 2) = false := beq_eq_false_iff_ne.2 hk
        have HN : Hid (¬ ((m : Int) = (C : Int) ∨ e.kind = 2)) := Lib.hid (fun h => h.elim hq hk)
        clear hq hk
        go_wp2_with fail
        go_quiet (fail)
        go_wp2_with fail
        go_ret
        exact ⟨rfl, by rw [HADD.out, if_neg HN.out]; exact HRP.out.keep (grown_toDrewN (World.grownBy.refl wc none) _)⟩
end Go.Proofs.YtaiaoiochbpmfaaGreat
