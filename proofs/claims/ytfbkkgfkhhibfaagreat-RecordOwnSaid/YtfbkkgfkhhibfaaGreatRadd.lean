/- The walk of the recorder's write (chapter 14). -/
import Derived.Test.YtfbkkgfkhhibfaaGreatPln
import Derived.Test.YtfbkkgfkhhibfaaGreatOpenNum
import Derived.Deep.RegionLaw
import Derived.Deep.RegionHeld3
import Derived.Deep.DeepCutAuto
import Derived.StillTailTactics
import Derived.Test.YtfbkkgfkhhibfaaGreatRrow
import Derived.Deep.QuietTactic
import Derived.BigQuiet
namespace Go.Proofs.YtfbkkgfkhhibfaaGreat
open Go Go.RowKit Iv
set_option linter.unusedVariables false
structure RP (T : TypeId) (cells : Array Value) (W0 : World) (base B thr gR gB gW gF : Nat) (s : St) (wr : World) : Prop where
  ex : ∃ vb vf css, RM base B thr gB gW gF s vb vf css wr
  rec_ : Held wr gR T cells
  gr : W0.grownBy wr none
  lo : W0.heap.size ≤ base ∧ W0.heap.size ≤ gB ∧ W0.heap.size ≤ gW ∧ W0.heap.size ≤ gF
  nr : gR < base ∧ gR ≠ gB ∧ gR ≠ gW ∧ gR ≠ gF
theorem gr_row {W0 wr w1 : World} {o : Option Nat} (h : W0.grownBy wr none) (hg : wr.grownBy w1 o) (ho : ∀ g, o = some g → W0.heap.size ≤ g) : W0.grownBy w1 none := by
  refine grownBy_trans h hg ?_
  cases o with
  | none => exact .inl rfl
  | some g => exact .inr ⟨g, rfl, ho g rfl⟩
theorem recFit_nums {r : Rec} (h : RecFit r) : RecNums r := ⟨h.seq, h.thread, h.kind, h.obj, h.value, h.site, h.deps, h.from_⟩
set_option maxRecDepth 100000 in
set_option maxHeartbeats 3200000 in
theorem writeP_any (c0 c1 c2 c3 : Value) (W0 : World) (base B thr gR gB gW gF : Nat) (s : St) (wr : World) (cc n t : Nat)
    (h : RP 93 #[c0, c1, c2, c3, .slice (some ⟨gB, 0, none⟩) thr thr, .slice (some ⟨gW, 0, none⟩) thr thr, .slice (some ⟨gF, 0, none⟩) thr thr] W0 base B thr gR gB gW gF s wr)
    (hG : GoodT cc n t (s.buf t) (s.first t) (s.file t)) (ht : t < thr) (hthr : thr ≤ 4) (hc : cc ≤ 64) (hn : n ≤ 400) :
    Calls Tryz.prog 28 #[.pointer (some ⟨gR, 0, none⟩), .int .i64 (t : Int)] wr fun e w' => e = .returned (.int .i64 0) ∧
      RP 93 #[c0, c1, c2, c3, .slice (some ⟨gB, 0, none⟩) thr thr, .slice (some ⟨gW, 0, none⟩) thr thr, .slice (some ⟨gF, 0, none⟩) thr thr] W0 base B thr gR gB gW gF (s.write t) w' := by
  obtain ⟨⟨vb, vf, css, hM⟩, hR, hgr, hlo, hnr⟩ := h
  obtain ⟨Ab, cb, hvb, hbn, hbm, _, hbo⟩ := own_slice (hM.ob t ht)
  have r4 : wr.cell? ⟨gR, 4, none⟩ = some (.slice (some ⟨gB, 0, none⟩) thr thr) := hR.cell 4
  have r5 : wr.cell? ⟨gR, 5, none⟩ = some (.slice (some ⟨gW, 0, none⟩) thr thr) := hR.cell 5
  have b1 : wr.cell? ⟨gB, t, none⟩ = some (.slice Ab (s.buf t).length cb) := by rw [hM.hB.cell t, fam_get _ ht, hvb]
  have b2 : wr.cell? ⟨gW, t, none⟩ = some (.int .i64 (s.first t)) := by rw [hM.hW.cell t, fam_get _ ht]
  have i0 : (0 : Int) ≤ (t : Int) := by omega
  have i1 : (t : Int) < (thr : Int) := by omega
  have HM := Lib.hid hM
  have HR := Lib.hid hR
  have HVB := Lib.hid hvb
  have HG := Lib.hid hG
  by_cases h0 : (s.buf t).length = 0
  · have hbe : (((s.buf t).length : Int) == 0) = true := by rw [beq_iff_eq]; omega
    have HS : Hid (s.write t = s) := Lib.hid (by unfold St.write; rw [if_pos h0])
    have HH : Hid (RP 93 #[c0, c1, c2, c3, .slice (some ⟨gB, 0, none⟩) thr thr, .slice (some ⟨gW, 0, none⟩) thr thr, .slice (some ⟨gF, 0, none⟩) thr thr] W0 base B thr gR gB gW gF s wr) := Lib.hid ⟨⟨vb, vf, css, hM⟩, hR, hgr, hlo, hnr⟩
    clear h0 hM hR hvb hG
    go_enter Tryz.func28, Tryz.ntmps28
    go_wp2_with fail
    go_ret
    exact ⟨rfl, by rw [HS.out]; exact HH.out⟩
  · obtain ⟨nb, hnb⟩ : ∃ nb, nb = (s.buf t).length := ⟨_, rfl⟩
    have hbe : ((nb : Int) == 0) = false := by rw [beq_eq_false_iff_ne]; omega
    obtain ⟨ge, gl⟩ := hG.enc (by omega) hc hn (by omega)
    have hBw : B ≤ wr.heap.size := by have := hM.bs; have := hM.lt; have := hM.ge; omega
    have hown := hM.ob t ht
    rw [hvb] at hown
    have CE := Lib.hid (encodeP_any ⟨t, s.first t, s.buf t⟩ Ab (s.buf t).length cb wr.heap.size wr.drew ((hM.oc t ht).recs hown rfl hBw).drew (Nat.le_refl _) (fun r hr => recFit_nums (hG.fit r hr)) (by have := hG.len; omega) wr.heap.size (Nat.le_refl _))
    rw [← hnb] at b1 hown
    obtain ⟨ys, er, hys⟩ : ∃ ys er, encode ⟨t, s.first t, s.buf t⟩ = (ys, er) := ⟨_, _, rfl⟩
    rw [hys] at ge gl
    dsimp only at ge gl
    subst ge
    have HYS := Lib.hid hys
    have hnl : nb ≤ 64 := by have := hG.len; omega
    have yl : ys.length ≤ 640000 := by omega
    have HNB := Lib.hid hnb
    have hsz := hG.size
    have hhi := hG.hi
    have fl : (s.file t).length ≤ 4000000 := by omega
    rw [← hnb] at CE
    clear h0 hM hR hvb hG hys hown hnb hsz hhi
    go_enter Tryz.func28, Tryz.ntmps28
    go_upto_region 3 with fail
    go_region_held3 (fun w' => w'.cell? ⟨gR, 4, none⟩ = some (.slice (some ⟨gB, 0, none⟩) thr thr) ∧ w'.cell? ⟨gR, 5, none⟩ = some (.slice (some ⟨gW, 0, none⟩) thr thr) ∧ w'.cell? ⟨gB, t, none⟩ = some (.slice Ab nb cb) ∧ w'.cell? ⟨gW, t, none⟩ = some (.int .i64 (s.first t)))
      (first | go_keep | (refine ⟨?_, ?_, ?_, ?_⟩ <;> exact World.grownBy.cell (w := wr) (by assumption) (by assumption) (by simp)) | fail)
      (first | (go_at_call 46; ((with_reducible refine CE.out.mono ?_); rintro e w2 ⟨v2, rfl, hown2, hg2⟩; replace hg2 := grown_drew hg2; rw [HYS.out] at hown2 ⊢)) | fail)
    obtain ⟨A2, k2, hv2, hn2, hm2, hl2, ho2⟩ := own_slice hown2
    subst hv2
    have HL2 := Lib.hid hl2
    have HM2 := Lib.hid (HM.out.keep hg2)
    have HR2 := Lib.hid (HR.out.grown hg2 (fun e => nomatch e))
    have HGR2 := Lib.hid (grownBy_trans hgr hg2 (.inl rfl))
    clear hown2 hl2 r4 r5 b1 b2
    go_upto_region 6 with fail
    obtain ⟨Af, cf, hvf, hfn, hfm, _, hfo⟩ := own_slice (HM2.out.of_ t ht)
    have HVF := Lib.hid hvf
    have hof := HM2.out.of_ t ht
    rw [hvf] at hof
    have r6 : w2.cell? ⟨gR, 6, none⟩ = some (.slice (some ⟨gF, 0, none⟩) thr thr) := HR2.out.cell 6
    have b3 : w2.cell? ⟨gF, t, none⟩ = some (.slice Af (s.file t).length cf) := by rw [HM2.out.hF.cell t, fam_get _ ht, hvf]
    have z3 := HM2.out.hF.free t
    have hbs2 : base ≤ w2.heap.size := HM2.out.bs
    obtain ⟨l1, l2, l3⟩ := HM2.out.lt
    have HOF := Lib.hid hof
    obtain ⟨j0, hi, hz0, hz1, hz2⟩ := info_parts info_u8
    have HI := Lib.hid hi
    have HZ0 := Lib.hid hz0
    have HZ1 := Lib.hid hz1
    have HZ2 := Lib.hid hz2
    have hz : (0 : Nat) < 1 := by omega
    have HNEF : Hid ((Value.slice Af (s.file t).length cf).ownBlock ≠ some gF) := Lib.hid (own_ne hof l3)
    have HNER : Hid ((Value.slice Af (s.file t).length cf).ownBlock ≠ some gR) := Lib.hid (own_ne hof hnr.1)
    have HGE : Hid (∀ g, (Value.slice Af (s.file t).length cf).ownBlock = some g → W0.heap.size ≤ g) := Lib.hid (fun g e => by have := (hof.lt g e).1; have := hlo.1; omega)
    clear hvf hof hi hz0 hz1 hz2 hgr
    go_cut [52] (fun _ wx => RP 93 #[c0, c1, c2, c3, .slice (some ⟨gB, 0, none⟩) thr thr, .slice (some ⟨gW, 0, none⟩) thr thr, .slice (some ⟨gF, 0, none⟩) thr thr] W0 base B thr gR gB gW gF ⟨s.buf, s.first, upd s.file t (s.file t ++ ys)⟩ wx)
    case first =>
      go_region_law
        ((refine step_join _ (by rfl) (.tmp 50) (.tmp 51) _ (by rfl) base 5 j0 (.int .u8 0) 1 1 Tryz.underlying22 HI.out HZ0.out HZ1.out HZ2.out (by rfl) hz (.slice Af (s.file t).length cf) (s.file t).length ((s.file t).map bv) (by rfl) HOF.out.drew w2.heap.size A2 ys.length k2 (ys.map bv) (by rfl) HL2.out.drew ho2 (bv_one _) (by unfold maxLen; omega) (by omega) hbs2 ?_; intro v4 w4 hown4 hg4 hat4; obtain ⟨A4, k4, hv4, _⟩ := own_slice hown4; subst hv4; have q6 := (HR2.out.drew.grown hg4 (fun e => HNER.out e.symm)).cell 6; have q3 : w4.cell? ⟨gF, t, none⟩ = some (.slice Af (s.file t).length cf) := (by rw [(HM2.out.hF.drew.grown hg4 (fun e => HNEF.out e.symm)).cell t, fam_get _ ht, HVF.out]); have qz := (HM2.out.hF.drew.grown hg4 (fun e => HNEF.out e.symm)).free t))
      all_goals
        go_wp2_with fail
        go_meet
        case rel =>
          have HM2d := HM2.out.keep (grown_toDrew (World.grownBy.refl w2 none))
          refine ⟨⟨_, _, _, HM2d.grewF ht (by rw [List.length_append, List.map_append]; exact hown4) (by rw [HVF.out]; exact hg4) (by rw [HVF.out]; exact hat4)⟩, (HR2.out.drew.grown hg4 (fun e => HNER.out e.symm)).far (p := ⟨gF, t, none⟩) hnr.2.2.2 _, ?_, hlo, hnr⟩
          exact gr_row (gr_row HGR2.out (grown_drew hg4) HGE.out) (grown_store w4 gF t _) (fun g e => by injection e with e; have := hlo.2.2.2; omega)
    case rest =>
      clear r6 b3 z3
      obtain ⟨⟨vb2, vf2, css2, hM⟩, hR, hgr, _, _⟩ := hcut
      obtain ⟨A5, k5, hvb5, hn5, hm5, _, ho5⟩ := own_slice (hM.ob t ht)
      have r4 : wc.cell? ⟨gR, 4, none⟩ = some (.slice (some ⟨gB, 0, none⟩) thr thr) := hR.cell 4
      have r5 : wc.cell? ⟨gR, 5, none⟩ = some (.slice (some ⟨gW, 0, none⟩) thr thr) := hR.cell 5
      have b1 : wc.cell? ⟨gB, t, none⟩ = some (.slice A5 nb k5) := by rw [hM.hB.cell t, fam_get _ ht, hvb5, HNB.out]
      have b2 : wc.cell? ⟨gW, t, none⟩ = some (.int .i64 (s.first t)) := by rw [hM.hW.cell t, fam_get _ ht]
      have z2 := hM.hW.free t
      have f0 := HG.out.lo
      have f1 : s.first t ≤ 400 := by have := HG.out.hi; omega
      have hw : IntKind.i64.wrap (s.first t + (nb : Int)) = s.first t + (nb : Int) := IntWalk.i64_in _ (by omega)
      have HM3 := Lib.hid hM
      have HR3 := Lib.hid hR
      have HG3 := Lib.hid hgr
      clear hM hR hgr hvb5
      go_wp2_with fail
      go_still_tail 17, (by kernel_rfl)
      change wpList _ _ _ _ _ wc.drew
      have hd := grown_toDrew (World.grownBy.refl wc none)
      have HM4 := Lib.hid (HM3.out.keep hd)
      have HR4 := Lib.hid (HR3.out.grown hd (fun e => nomatch e))
      have HG4 := Lib.hid (gr_row HG3.out hd (fun g e => nomatch e))
      generalize wc.drew = wd at HM4 HR4 HG4 ⊢
      clear r4 r5 b1 b2 z2 hd HM3 HR3 HG3
      have b2 : wd.cell? ⟨gW, t, none⟩ = some (.int .i64 (s.first t)) := by rw [HM4.out.hW.cell t, fam_get _ ht]
      have z2 := HM4.out.hW.free t
      obtain ⟨we, hwe⟩ : ∃ we, we = wd.setCell ⟨gW, t, none⟩ (.int .i64 (s.first t + (nb : Int))) := ⟨_, rfl⟩
      have HM5 := Lib.hid (HM4.out.setW (t := t) (s.first t + (nb : Int)))
      have HR5 := Lib.hid (HR4.out.far (p := ⟨gW, t, none⟩) hnr.2.2.1 (.int .i64 (s.first t + (nb : Int))))
      have HG5 := Lib.hid (gr_row HG4.out (grown_store wd gW t (.int .i64 (s.first t + (nb : Int)))) (fun g e => by injection e with e; have := hlo.2.2.1; omega))
      rw [← hwe] at HM5 HR5 HG5
      have HWE := Lib.hid hwe
      clear hwe
      go_upto_region 8 with fail
      rw [show wd.setCell ⟨gW, t, none⟩ (.int .i64 (s.first t + (nb : Int))) = we from HWE.out.symm]
      clear b2 z2
      have r4 : we.cell? ⟨gR, 4, none⟩ = some (.slice (some ⟨gB, 0, none⟩) thr thr) := HR5.out.cell 4
      obtain ⟨A6, k6, hvb6, _⟩ := own_slice (HM5.out.ob t ht)
      have b1 : we.cell? ⟨gB, t, none⟩ = some (.slice A6 (s.buf t).length k6) := by rw [HM5.out.hB.cell t, fam_get _ ht, hvb6]
      have z1 := HM5.out.hB.free t
      clear hvb6
      go_wp2_with fail
      go_ret
      refine ⟨rfl, ?_⟩
      have HS : Hid (s.write t = ⟨upd s.buf t [], upd s.first t (s.first t + (nb : Int)), upd s.file t (s.file t ++ ys)⟩) := by
        refine Lib.hid ?_
        unfold St.write
        rw [if_neg (by rw [← HNB.out]; intro e; rw [e] at hbe; simp at hbe), HNB.out]
        rw [show encode (blkOf s t) = (ys, 0) from HYS.out]
      rw [HS.out]
      refine ⟨⟨_, _, _, HM5.out.clearB ht⟩, HR5.out.far (p := ⟨gB, t, none⟩) hnr.2.1 _, ?_, hlo, hnr⟩
      exact gr_row HG5.out (grown_store we gB t _) (fun g e => by injection e with e; have := hlo.2.1; omega)
end Go.Proofs.YtfbkkgfkhhibfaaGreat

/- The walk of the recorder's add (chapter 14). -/
namespace Go.Proofs.YtfbkkgfkhhibfaaGreat
open Go Go.RowKit Iv
set_option linter.unusedVariables false
theorem RP.keep {T : TypeId} {cells : Array Value} {W0 wr w1 : World} {base B thr gR gB gW gF : Nat} {s : St} (h : RP T cells W0 base B thr gR gB gW gF s wr) (hg : wr.grownBy w1 none) : RP T cells W0 base B thr gR gB gW gF s w1 := by
  obtain ⟨⟨vb, vf, css, hM⟩, hR, hgr, hlo, hnr⟩ := h
  exact ⟨⟨vb, vf, css, hM.keep hg⟩, hR.grown hg (fun e => nomatch e), gr_row hgr hg (fun g e => nomatch e), hlo, hnr⟩
theorem rec_lies (w : World) (r : Rec) (Ad : Option Addr) (nd cd : Nat) (Af : Option Addr) (nf cf : Nat) :
    Lies (w.alloc (.cells (recV r Ad nd cd Af nf cf) 54)) (w.alloc (.cells (recV r Ad nd cd Af nf cf) 54)).heap.size 8 (some ⟨w.heap.size, 0, none⟩) 1 (recV r Ad nd cd Af nf cf).toList := by
  obtain ⟨A, c, hv, _, _, hl, _⟩ := own_slice (World.ownsRow_lit (base := w.heap.size) (e := 54) (size := 8) w (recV r Ad nd cd Af nf cf) 1 (Nat.le_refl _) (by unfold maxLen; omega) rfl)
  injection hv with hA
  subst hA
  exact hl
theorem rec_one (r : Rec) (Ad : Option Addr) (nd cd : Nat) (Af : Option Addr) (nf cf : Nat) : ∀ u ∈ (recV r Ad nd cd Af nf cf).toList, u.oneCell' = true := by
  intro u hu
  simp only [recV, List.mem_cons, List.not_mem_nil, or_false] at hu
  rcases hu with h | h | h | h | h | h | h | h <;> rw [h] <;> rfl
set_option maxRecDepth 100000 in
set_option maxHeartbeats 3200000 in
theorem addP_any (c1 c2 c3 : Value) (W0 : World) (base B thr gR gB gW gF : Nat) (s : St) (wr : World) (cc n t : Nat) (e : Ev) (Ad : Option Addr) (cd : Nat) (Af : Option Addr) (cf : Nat)
    (h : RP 93 #[.int .i64 ((cc + 1 : Nat) : Int), c1, c2, c3, .slice (some ⟨gB, 0, none⟩) thr thr, .slice (some ⟨gW, 0, none⟩) thr thr, .slice (some ⟨gF, 0, none⟩) thr thr] W0 base B thr gR gB gW gF s wr)
    (hG : Iv.Good cc n thr s) (het : e.thread = (t : Int)) (ht : t < thr) (hthr : thr ≤ 4) (hc : cc + 1 ≤ 64) (hn : n + 1 ≤ 400) (hd : e.deps.length ≤ 400) (hf : e.from_.length ≤ 400) (hr : RecFit ⟨n, e⟩)
    (hld : Lies wr B 1 Ad e.deps.length (e.deps.map iv)) (hlf : Lies wr B 1 Af e.from_.length (e.from_.map iv)) :
    Calls Tryz.prog 27 #[.pointer (some ⟨gR, 0, none⟩), .int .i64 (n : Int), .agg (evV e Ad e.deps.length cd Af e.from_.length cf)] wr fun x w' => x = .returned (.int .i64 0) ∧
      RP 93 #[.int .i64 ((cc + 1 : Nat) : Int), c1, c2, c3, .slice (some ⟨gB, 0, none⟩) thr thr, .slice (some ⟨gW, 0, none⟩) thr thr, .slice (some ⟨gF, 0, none⟩) thr thr] W0 base B thr gR gB gW gF (s.add ((cc + 1 : Nat) : Int) n e) w' := by
  have hBw : B ≤ wr.heap.size := by have := h.ex; obtain ⟨_, _, _, hM⟩ := this; have := hM.bs; have := hM.lt; have := hM.ge; omega
  obtain ⟨W, hW⟩ : ∃ W, W = wr.alloc (.cells (evV e Ad e.deps.length cd Af e.from_.length cf) 52) := ⟨_, rfl⟩
  have hWg : wr.grownBy W none := by rw [hW]; exact World.grownBy_alloc wr _ none
  have hE : Held W wr.heap.size 52 (evV e Ad e.deps.length cd Af e.from_.length cf) := by rw [hW]; exact Held.new _ _ _
  have HW := Lib.hid hW
  obtain ⟨⟨vb, vf, css, hM0⟩, hR0, hgr0, hlo, hnr⟩ := h
  have hM := hM0.keep hWg
  have hR := hR0.grown hWg (fun e => nomatch e)
  have hgr := gr_row hgr0 hWg (fun g e => nomatch e)
  have HBLT := Lib.hid (fun g (e : (vb t).ownBlock = some g) => ((hM0.ob t ht).lt g e).2)
  have HBS0 := Lib.hid hM0.bs
  clear hM0 hR0 hgr0
  have HLD := Lib.hid (hld.grown hWg hBw (fun _ e => nomatch e))
  have HLF := Lib.hid (hlf.grown hWg hBw (fun _ e => nomatch e))
  have HG := Lib.hid hG
  have HRF := Lib.hid hr
  have HGR := Lib.hid hgr
  have i0 : (0 : Int) ≤ (t : Int) := by omega
  have i1 : (t : Int) < (thr : Int) := by omega
  have hgE : wr.heap.size < W.heap.size := by rw [hW]; simp
  have htn : e.thread.toNat = t := by omega
  unfold evV at hE hW ⊢
  rw [het] at hE hW ⊢
  have e0 : W.cell? ⟨wr.heap.size, 0, none⟩ = some (.int .i64 (t : Int)) := hE.cell 0
  have e1 : W.cell? ⟨wr.heap.size, 1, none⟩ = some (.int .i64 e.kind) := hE.cell 1
  have e2 : W.cell? ⟨wr.heap.size, 2, none⟩ = some (.int .i64 e.obj) := hE.cell 2
  have e3 : W.cell? ⟨wr.heap.size, 3, none⟩ = some (.int .i64 e.value) := hE.cell 3
  have e4 : W.cell? ⟨wr.heap.size, 4, none⟩ = some (.int .i64 e.site) := hE.cell 4
  have e5 : W.cell? ⟨wr.heap.size, 5, none⟩ = some (.slice Ad e.deps.length cd) := hE.cell 5
  have e6 : W.cell? ⟨wr.heap.size, 6, none⟩ = some (.slice Af e.from_.length cf) := hE.cell 6
  have HW2 := Lib.hid hW
  have HE := Lib.hid hE
  obtain ⟨Ab, cb, hvb, hbn, hbm, _, hbo⟩ := own_slice (hM.ob t ht)
  have hob := hM.ob t ht
  rw [hvb] at hob
  have HOB := Lib.hid hob
  have r4 : W.cell? ⟨gR, 4, none⟩ = some (.slice (some ⟨gB, 0, none⟩) thr thr) := hR.cell 4
  have b1 : W.cell? ⟨gB, t, none⟩ = some (.slice Ab (s.buf t).length cb) := by rw [hM.hB.cell t, fam_get _ ht, hvb]
  have z1 := hM.hB.free t
  have hlen := (hG t ht).len
  have HM := Lib.hid hM
  have HR := Lib.hid hR
  have HVB := Lib.hid hvb
  obtain ⟨j0, hi, hz0, hz1, hz2⟩ := info_parts info_rec
  have HI := Lib.hid hi
  have HZ0 := Lib.hid hz0
  have HZ1 := Lib.hid hz1
  have HZ2 := Lib.hid hz2
  have hz : (0 : Nat) < 8 := by omega
  have HNEB : Hid ((Value.slice Ab (s.buf t).length cb).ownBlock ≠ some gB) := Lib.hid (own_ne hob hM.lt.1)
  have HNER : Hid ((Value.slice Ab (s.buf t).length cb).ownBlock ≠ some gR) := Lib.hid (own_ne hob hnr.1)
  have HBS := Lib.hid hM.bs
  clear hM hR hgr hld hlf hG hr hWg hW hE hvb hob hi hz0 hz1 hz2
  go_enter Tryz.func27, Tryz.ntmps27
  go_upto_region 1 with fail
  rw [show wr.alloc (.cells #[.int .i64 (t : Int), .int .i64 e.kind, .int .i64 e.obj, .int .i64 e.value, .int .i64 e.site, .slice Ad e.deps.length cd, .slice Af e.from_.length cf] 52) = W from HW2.out.symm]
  clear HW HW2
  go_upto_region 2 with fail
  have HRV : Hid (recV ⟨n, e⟩ Ad e.deps.length cd Af e.from_.length cf = #[.int .i64 (n : Int), .int .i64 (t : Int), .int .i64 e.kind, .int .i64 e.obj, .int .i64 e.value, .int .i64 e.site, .slice Ad e.deps.length cd, .slice Af e.from_.length cf]) := Lib.hid (by unfold recV; rw [het])
  obtain ⟨Wa, hWa⟩ : ∃ Wa, Wa = W.alloc (.cells #[.int .i64 (n : Int), .int .i64 (t : Int), .int .i64 e.kind, .int .i64 e.obj, .int .i64 e.value, .int .i64 e.site, .slice Ad e.deps.length cd, .slice Af e.from_.length cf] 54) := ⟨_, rfl⟩
  have hga : W.grownBy Wa none := by rw [hWa]; exact World.grownBy_alloc W _ none
  have hrl := rec_lies W ⟨n, e⟩ Ad e.deps.length cd Af e.from_.length cf
  rw [HRV.out, ← hWa] at hrl
  have a4 := (HR.out.grown hga (fun e => nomatch e)).cell 4
  have a1 : Wa.cell? ⟨gB, t, none⟩ = some (.slice Ab (s.buf t).length cb) := by rw [(HM.out.hB.grown hga (fun e => nomatch e)).cell t, fam_get _ ht, HVB.out]
  have HRL := Lib.hid hrl.drew
  have HGA := Lib.hid (grown_toDrew hga)
  have HO1 : Hid (∀ u ∈ (#[.int .i64 (n : Int), .int .i64 (t : Int), .int .i64 e.kind, .int .i64 e.obj, .int .i64 e.value, .int .i64 e.site, .slice Ad e.deps.length cd, .slice Af e.from_.length cf] : Array Value).toList, u.oneCell' = true) := Lib.hid (by have := rec_one ⟨n, e⟩ Ad e.deps.length cd Af e.from_.length cf; rw [HRV.out] at this; exact this)
  have HOBA := Lib.hid (own_keep HOB.out (grown_toDrew hga) (fun _ _ e => nomatch e))
  subst hWa
  clear hrl hga
  go_cut [26] (fun _ wx => RP 93 #[.int .i64 ((cc + 1 : Nat) : Int), c1, c2, c3, .slice (some ⟨gB, 0, none⟩) thr thr, .slice (some ⟨gW, 0, none⟩) thr thr, .slice (some ⟨gF, 0, none⟩) thr thr] W0 base B thr gR gB gW gF (s.push t ⟨n, e⟩) wx ∧ W.heap.size ≤ wx.heap.size ∧ Held wx wr.heap.size 52 #[.int .i64 (t : Int), .int .i64 e.kind, .int .i64 e.obj, .int .i64 e.value, .int .i64 e.site, .slice Ad e.deps.length cd, .slice Af e.from_.length cf])
  case first =>
    go_region_law
      (first
        | (refine step_join (o := ⟨some 26, _, _, _, _, _⟩) _ (by rfl) (.tmp 21) (.tmp 25) _ (by rfl) base 54 j0 _ 8 96 Tryz.underlying48 HI.out HZ0.out HZ1.out HZ2.out (by rfl) hz _ (s.buf t).length (css t) (by rfl) HOBA.out _ (some ⟨W.heap.size, 0, none⟩) 1 1 (#[.int .i64 (n : Int), .int .i64 (t : Int), .int .i64 e.kind, .int .i64 e.obj, .int .i64 e.value, .int .i64 e.site, .slice Ad e.deps.length cd, .slice Af e.from_.length cf] : Array Value).toList (by rfl) HRL.out (by intro h; nomatch h) HO1.out (by unfold maxLen; omega) (by omega) (Nat.le_trans HBS.out HGA.out.size) ?_; intro v4 w4 hown4 hg4 hat4; obtain ⟨A4, k4, hv4, _⟩ := own_slice hown4; subst hv4; have q4 := ((HR.out.grown HGA.out (fun e => nomatch e)).grown hg4 (fun e => HNER.out e.symm)).cell 4; have q1 : w4.cell? ⟨gB, t, none⟩ = some (.slice Ab (s.buf t).length cb) := (by rw [((HM.out.hB.grown HGA.out (fun e => nomatch e)).grown hg4 (fun e => HNEB.out e.symm)).cell t, fam_get _ ht, HVB.out]); have qz := ((HM.out.hB.grown HGA.out (fun e => nomatch e)).grown hg4 (fun e => HNEB.out e.symm)).free t)
        | fail)
    all_goals
      go_wp2_with fail
      go_meet
      case rel =>
        have st := grown_store w4 gB t (Value.slice A4 ((s.buf t).length + 1) k4)
        have hbc := HM.out.oc t ht
        have hbw : B ≤ W.heap.size := by omega
        have hbc4 := ((hbc.grow HGA.out hbw (fun _ e => nomatch e)).snoc (r := ⟨n, e⟩) (cd := cd) (cf := cf) (HLD.out.grown HGA.out hbw (fun _ e => nomatch e)) (HLF.out.grown HGA.out hbw (fun _ e => nomatch e))).grow hg4 (Nat.le_trans hbw HGA.out.size) (fun g e => by have := (HOBA.out.lt g e).1; have := HM.out.lt; have := HM.out.ge; omega)
        rw [HRV.out] at hbc4
        refine ⟨⟨⟨_, _, _, (HM.out.keep HGA.out).grewB ht (by rw [List.length_append]; exact hown4) hbc4 (by rw [HVB.out]; exact hg4) (by rw [HVB.out]; exact hat4)⟩, ((HR.out.grown HGA.out (fun e => nomatch e)).grown hg4 (fun e => HNER.out e.symm)).far (p := ⟨gB, t, none⟩) hnr.2.1 _, ?_, hlo, hnr⟩, Nat.le_trans HGA.out.size (Nat.le_trans hg4.size st.size), ?_⟩
        · exact gr_row (gr_row (gr_row HGR.out HGA.out (fun g e => nomatch e)) hg4 (fun g e => by have := (HOBA.out.lt g e).1; have := hlo.1; omega)) st (fun g e => by injection e with e; have := hlo.2.1; omega)
        · have hx := (HE.out.grown HGA.out (fun e => nomatch e)).grown hg4 (fun e => by have := HBLT.out _ (by rw [HVB.out]; exact e.symm); omega)
          exact hx.far (p := ⟨gB, t, none⟩) (by have := HM.out.lt; have := HBS0.out; show wr.heap.size ≠ gB; omega) _
  case rest =>
    obtain ⟨hrp, hsz, hev⟩ := hcut
    have hgood := HG.out.pushed (e := e) (by omega) hd hf HRF.out
    rw [htn] at hgood
    have CW := Lib.hid (fun (W' : World) (hg : wc.grownBy W' none) => writeP_any _ _ _ _ W0 base B thr gR gB gW gF (s.push t ⟨n, e⟩) W' (cc + 1) (n + 1) t (hrp.keep hg) (hgood t ht) ht hthr hc hn)
    have HRP := Lib.hid hrp
    obtain ⟨⟨vb2, vf2, css2, hM⟩, hR, _, _, _⟩ := hrp
    obtain ⟨A6, k6, hvb6, _⟩ := own_slice (hM.ob t ht)
    obtain ⟨m, hm⟩ : ∃ m, m = ((s.push t ⟨n, e⟩).buf t).length := ⟨_, rfl⟩
    obtain ⟨C, hC⟩ : ∃ C, C = cc + 1 := ⟨_, rfl⟩
    have HMM := Lib.hid hm
    have HCC := Lib.hid hC
    have r4 : wc.cell? ⟨gR, 4, none⟩ = some (.slice (some ⟨gB, 0, none⟩) thr thr) := hR.cell 4
    have r0 : wc.cell? ⟨gR, 0, none⟩ = some (.int .i64 (C : Int)) := by rw [hC]; exact hR.cell 0
    have b1 : wc.cell? ⟨gB, t, none⟩ = some (.slice A6 m k6) := by rw [hM.hB.cell t, fam_get _ ht, hvb6, hm]
    have x1 : wc.cell? ⟨wr.heap.size, 1, none⟩ = some (.int .i64 e.kind) := hev.cell 1
    have HADD : Hid (s.add ((cc + 1 : Nat) : Int) n e = if ((m : Int) = (C : Int) ∨ e.kind = 2) then (s.push t ⟨n, e⟩).write t else s.push t ⟨n, e⟩) := by
      refine Lib.hid ?_
      have hm2 : m = (s.buf t).length + 1 := by rw [hm]; unfold St.push; simp [upd_same]
      unfold St.add
      rw [htn, hm2, hC]
    clear hM hR hev hvb6 hm hC a4 a1 e0 e1 e2 e3 e4 e5 e6 z1
    by_cases hq : (m : Int) = (C : Int)
    · have hqb : ((m : Int) == (C : Int)) = true := beq_iff_eq.2 hq
      have HQ := Lib.hid hq
      clear hq
      go_wp2_with fail
      go_quiet (fail)
      go_wp2_with (first | (go_at_call 28; refine (CW.out _ (grown_toDrewN (World.grownBy.refl wc none) _)).mono ?_; rintro x w9 ⟨rfl, h9⟩) | fail)
      go_ret
      exact ⟨rfl, by rw [HADD.out, if_pos (.inl HQ.out)]; exact h9⟩
    · have hqb : ((m : Int) == (C : Int)) = false := beq_eq_false_iff_ne.2 hq
      by_cases hk : e.kind = 2
      · have hkb : (e.kind == 2) = true := beq_iff_eq.2 hk
        have HK := Lib.hid hk
        clear hq hk
        go_wp2_with fail
        go_quiet (fail)
        go_wp2_with (first | (go_at_call 28; refine (CW.out _ (grown_toDrewN (World.grownBy.refl wc none) _)).mono ?_; rintro x w9 ⟨rfl, h9⟩) | fail)
        go_ret
        exact ⟨rfl, by rw [HADD.out, if_pos (.inr HK.out)]; exact h9⟩
      · have hkb : (e.kind == 2) = false := beq_eq_false_iff_ne.2 hk
        have HN : Hid (¬ ((m : Int) = (C : Int) ∨ e.kind = 2)) := Lib.hid (fun h => h.elim hq hk)
        clear hq hk
        go_wp2_with fail
        go_quiet (fail)
        go_wp2_with fail
        go_ret
        exact ⟨rfl, by rw [HADD.out, if_neg HN.out]; exact HRP.out.keep (grown_toDrewN (World.grownBy.refl wc none) _)⟩
end Go.Proofs.YtfbkkgfkhhibfaaGreat
