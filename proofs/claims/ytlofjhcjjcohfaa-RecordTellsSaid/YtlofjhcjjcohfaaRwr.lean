/- The walk of the recorder's write (chapter 14). -/
import Derived.Test.YtlofjhcjjcohfaaRecM
import Derived.Test.YtlofjhcjjcohfaaEnc
import Derived.Deep.RegionLaw
import Derived.Deep.RegionHeld3
import Derived.Deep.DeepCutAuto
import Derived.StillTailTactics
namespace Go.Proofs.Ytlofjhcjjcohfaa
open Go Go.RowKit Iv
set_option linter.unusedVariables false

/-- A recorder in memory. -/
structure RP (T : TypeId) (cells : Array Value) (W0 : World) (base B thr gR gB gW gF : Nat) (s : St) (wr : World) : Prop where
  ex : ∃ vb vf css, RM base B thr gB gW gF s vb vf css wr
  rec_ : Held wr gR T cells
  gr : W0.grownBy wr none
  lo : W0.heap.size ≤ base ∧ W0.heap.size ≤ gB ∧ W0.heap.size ≤ gW ∧ W0.heap.size ≤ gF
  nr : gR < base ∧ gR ≠ gB ∧ gR ≠ gW ∧ gR ≠ gF

theorem gr_row {W0 wr w1 : World} {o : Option Nat} (h : W0.grownBy wr none) (hg : wr.grownBy w1 o) (ho : ∀ g, o = some g → W0.heap.size ≤ g) : W0.grownBy w1 none := by
  refine grownBy_trans h hg ?_
  cases o with
  | none => exact .inl rfl
  | some g => exact .inr ⟨g, rfl, ho g rfl⟩
theorem recFit_nums {r : Rec} (h : RecFit r) : RecNums r := ⟨h.seq, h.thread, h.kind, h.obj, h.value, h.site, h.deps, h.from_⟩

set_option maxRecDepth 100000 in
set_option maxHeartbeats 3200000 in
theorem writeP_any (c0 c1 c2 c3 : Value) (W0 : World) (base B thr gR gB gW gF : Nat) (s : St) (wr : World) (cc n t : Nat)
    (h : RP 100 #[c0, c1, c2, c3, .slice (some ⟨gB, 0, none⟩) thr thr, .slice (some ⟨gW, 0, none⟩) thr thr, .slice (some ⟨gF, 0, none⟩) thr thr] W0 base B thr gR gB gW gF s wr)
    (hG : GoodT cc n t (s.buf t) (s.first t) (s.file t)) (ht : t < thr) (hthr : thr ≤ 4) (hc : cc ≤ 64) (hn : n ≤ 400) :
    Calls Try.prog 51 #[.pointer (some ⟨gR, 0, none⟩), .int .i64 (t : Int)] wr fun e w' => e = .returned (.int .i64 0) ∧
      RP 100 #[c0, c1, c2, c3, .slice (some ⟨gB, 0, none⟩) thr thr, .slice (some ⟨gW, 0, none⟩) thr thr, .slice (some ⟨gF, 0, none⟩) thr thr] W0 base B thr gR gB gW gF (s.write t) w' := by
  obtain ⟨⟨vb, vf, css, hM⟩, hR, hgr, hlo, hnr⟩ := h
  obtain ⟨Ab, cb, hvb, hbn, hbm, _, hbo⟩ := own_slice (hM.ob t ht)
  have r4 : wr.cell? ⟨gR, 4, none⟩ = some (.slice (some ⟨gB, 0, none⟩) thr thr) := hR.cell 4
  have r5 : wr.cell? ⟨gR, 5, none⟩ = some (.slice (some ⟨gW, 0, none⟩) thr thr) := hR.cell 5
  have b1 : wr.cell? ⟨gB, t, none⟩ = some (.slice Ab (s.buf t).length cb) := by rw [hM.hB.cell t, fam_get _ ht, hvb]
  have b2 : wr.cell? ⟨gW, t, none⟩ = some (.int .i64 (s.first t)) := by rw [hM.hW.cell t, fam_get _ ht]
  have i0 : (0 : Int) ≤ (t : Int) := by omega
  have i1 : (t : Int) < (thr : Int) := by omega
  have HM := Lib.hid hM
  have HR := Lib.hid hR
  have HVB := Lib.hid hvb
  have HG := Lib.hid hG
  by_cases h0 : (s.buf t).length = 0
  · have hbe : (((s.buf t).length : Int) == 0) = true := by rw [beq_iff_eq]; omega
    have HS : Hid (s.write t = s) := Lib.hid (by unfold St.write; rw [if_pos h0])
    have HH : Hid (RP 100 #[c0, c1, c2, c3, .slice (some ⟨gB, 0, none⟩) thr thr, .slice (some ⟨gW, 0, none⟩) thr thr, .slice (some ⟨gF, 0, none⟩) thr thr] W0 base B thr gR gB gW gF s wr) := Lib.hid ⟨⟨vb, vf, css, hM⟩, hR, hgr, hlo, hnr⟩
    clear h0 hM hR hvb hG
    go_enter Try.func51, Try.ntmps51
    go_wp2_with fail
    go_ret
    exact ⟨rfl, by rw [HS.out]; exact HH.out⟩
  · obtain ⟨nb, hnb⟩ : ∃ nb, nb = (s.buf t).length := ⟨_, rfl⟩
    have hbe : ((nb : Int) == 0) = false := by rw [beq_eq_false_iff_ne]; omega
    obtain ⟨ge, gl⟩ := hG.enc (by omega) hc hn (by omega)
    have hBw : B ≤ wr.heap.size := by have := hM.bs; have := hM.lt; have := hM.ge; omega
    have hown := hM.ob t ht
    rw [hvb] at hown
    have CE := Lib.hid (encodeP_any ⟨t, s.first t, s.buf t⟩ Ab (s.buf t).length cb wr.heap.size wr.drew ((hM.oc t ht).recs hown rfl hBw).drew (Nat.le_refl _) (fun r hr => recFit_nums (hG.fit r hr)) (by have := hG.len; omega) wr.heap.size (Nat.le_refl _))
    rw [← hnb] at b1 hown
    obtain ⟨ys, er, hys⟩ : ∃ ys er, encode ⟨t, s.first t, s.buf t⟩ = (ys, er) := ⟨_, _, rfl⟩
    rw [hys] at ge gl
    dsimp only at ge gl
    subst ge
    have HYS := Lib.hid hys
    have hnl : nb ≤ 64 := by have := hG.len; omega
    have yl : ys.length ≤ 640000 := by omega
    have HNB := Lib.hid hnb
    have hsz := hG.size
    have hhi := hG.hi
    have fl : (s.file t).length ≤ 4000000 := by omega
    rw [← hnb] at CE
    clear h0 hM hR hvb hG hys hown hnb hsz hhi
    go_enter Try.func51, Try.ntmps51
    go_upto_region 3 with fail
    go_region_held3 (fun w' => w'.cell? ⟨gR, 4, none⟩ = some (.slice (some ⟨gB, 0, none⟩) thr thr) ∧ w'.cell? ⟨gR, 5, none⟩ = some (.slice (some ⟨gW, 0, none⟩) thr thr) ∧ w'.cell? ⟨gB, t, none⟩ = some (.slice Ab nb cb) ∧ w'.cell? ⟨gW, t, none⟩ = some (.int .i64 (s.first t)))
      (first | go_keep | (refine ⟨?_, ?_, ?_, ?_⟩ <;> exact World.grownBy.cell (w := wr) (by assumption) (by assumption) (by simp)) | fail)
      (first | (go_at_call 15; ((with_reducible refine CE.out.mono ?_); rintro e w2 ⟨v2, rfl, hown2, hg2⟩; replace hg2 := grown_drew hg2; rw [HYS.out] at hown2 ⊢)) | fail)
    obtain ⟨A2, k2, hv2, hn2, hm2, hl2, ho2⟩ := own_slice hown2
    subst hv2
    have HL2 := Lib.hid hl2
    have HM2 := Lib.hid (HM.out.keep hg2)
    have HR2 := Lib.hid (HR.out.grown hg2 (fun e => nomatch e))
    have HGR2 := Lib.hid (grownBy_trans hgr hg2 (.inl rfl))
    clear hown2 hl2 r4 r5 b1 b2
    go_upto_region 6 with fail
    obtain ⟨Af, cf, hvf, hfn, hfm, _, hfo⟩ := own_slice (HM2.out.of_ t ht)
    have HVF := Lib.hid hvf
    have hof := HM2.out.of_ t ht
    rw [hvf] at hof
    have r6 : w2.cell? ⟨gR, 6, none⟩ = some (.slice (some ⟨gF, 0, none⟩) thr thr) := HR2.out.cell 6
    have b3 : w2.cell? ⟨gF, t, none⟩ = some (.slice Af (s.file t).length cf) := by rw [HM2.out.hF.cell t, fam_get _ ht, hvf]
    have z3 := HM2.out.hF.free t
    have hbs2 : base ≤ w2.heap.size := HM2.out.bs
    obtain ⟨l1, l2, l3⟩ := HM2.out.lt
    have HOF := Lib.hid hof
    obtain ⟨j0, hi, hz0, hz1, hz2⟩ := info_parts info_u8
    have HI := Lib.hid hi
    have HZ0 := Lib.hid hz0
    have HZ1 := Lib.hid hz1
    have HZ2 := Lib.hid hz2
    have hz : (0 : Nat) < 1 := by omega
    have HNEF : Hid ((Value.slice Af (s.file t).length cf).ownBlock ≠ some gF) := Lib.hid (own_ne hof l3)
    have HNER : Hid ((Value.slice Af (s.file t).length cf).ownBlock ≠ some gR) := Lib.hid (own_ne hof hnr.1)
    have HGE : Hid (∀ g, (Value.slice Af (s.file t).length cf).ownBlock = some g → W0.heap.size ≤ g) := Lib.hid (fun g e => by have := (hof.lt g e).1; have := hlo.1; omega)
    clear hvf hof hi hz0 hz1 hz2 hgr
    go_cut [52] (fun _ wx => RP 100 #[c0, c1, c2, c3, .slice (some ⟨gB, 0, none⟩) thr thr, .slice (some ⟨gW, 0, none⟩) thr thr, .slice (some ⟨gF, 0, none⟩) thr thr] W0 base B thr gR gB gW gF ⟨s.buf, s.first, upd s.file t (s.file t ++ ys)⟩ wx)
    case first =>
      go_region_law
        ((refine step_join _ (by rfl) (.tmp 50) (.tmp 51) _ (by rfl) base 5 j0 (.int .u8 0) 1 1 Try.underlying27 HI.out HZ0.out HZ1.out HZ2.out (by rfl) hz (.slice Af (s.file t).length cf) (s.file t).length ((s.file t).map bv) (by rfl) HOF.out.drew w2.heap.size A2 ys.length k2 (ys.map bv) (by rfl) HL2.out.drew ho2 (bv_one _) (by unfold maxLen; omega) (by omega) hbs2 ?_; intro v4 w4 hown4 hg4 hat4; obtain ⟨A4, k4, hv4, _⟩ := own_slice hown4; subst hv4; have q6 := (HR2.out.drew.grown hg4 (fun e => HNER.out e.symm)).cell 6; have q3 : w4.cell? ⟨gF, t, none⟩ = some (.slice Af (s.file t).length cf) := (by rw [(HM2.out.hF.drew.grown hg4 (fun e => HNEF.out e.symm)).cell t, fam_get _ ht, HVF.out]); have qz := (HM2.out.hF.drew.grown hg4 (fun e => HNEF.out e.symm)).free t))
      all_goals
        go_wp2_with fail
        go_meet
        case rel =>
          have HM2d := HM2.out.keep (grown_toDrew (World.grownBy.refl w2 none))
          refine ⟨⟨_, _, _, HM2d.grewF ht (by rw [List.length_append, List.map_append]; exact hown4) (by rw [HVF.out]; exact hg4) (by rw [HVF.out]; exact hat4)⟩, (HR2.out.drew.grown hg4 (fun e => HNER.out e.symm)).far (p := ⟨gF, t, none⟩) hnr.2.2.2 _, ?_, hlo, hnr⟩
          exact gr_row (gr_row HGR2.out (grown_drew hg4) HGE.out) (grown_store w4 gF t _) (fun g e => by injection e with e; have := hlo.2.2.2; omega)
    case rest =>
      clear r6 b3 z3
      obtain ⟨⟨vb2, vf2, css2, hM⟩, hR, hgr, _, _⟩ := hcut
      obtain ⟨A5, k5, hvb5, hn5, hm5, _, ho5⟩ := own_slice (hM.ob t ht)
      have r4 : wc.cell? ⟨gR, 4, none⟩ = some (.slice (some ⟨gB, 0, none⟩) thr thr) := hR.cell 4
      have r5 : wc.cell? ⟨gR, 5, none⟩ = some (.slice (some ⟨gW, 0, none⟩) thr thr) := hR.cell 5
      have b1 : wc.cell? ⟨gB, t, none⟩ = some (.slice A5 nb k5) := by rw [hM.hB.cell t, fam_get _ ht, hvb5, HNB.out]
      have b2 : wc.cell? ⟨gW, t, none⟩ = some (.int .i64 (s.first t)) := by rw [hM.hW.cell t, fam_get _ ht]
      have z2 := hM.hW.free t
      have f0 := HG.out.lo
      have f1 : s.first t ≤ 400 := by have := HG.out.hi; omega
      have hw : IntKind.i64.wrap (s.first t + (nb : Int)) = s.first t + (nb : Int) := IntWalk.i64_in _ (by omega)
      have HM3 := Lib.hid hM
      have HR3 := Lib.hid hR
      have HG3 := Lib.hid hgr
      clear hM hR hgr hvb5
      go_wp2_with fail
      go_still_tail 17, (by kernel_rfl)
      change wpList _ _ _ _ _ wc.drew
      have hd := grown_toDrew (World.grownBy.refl wc none)
      have HM4 := Lib.hid (HM3.out.keep hd)
      have HR4 := Lib.hid (HR3.out.grown hd (fun e => nomatch e))
      have HG4 := Lib.hid (gr_row HG3.out hd (fun g e => nomatch e))
      generalize wc.drew = wd at HM4 HR4 HG4 ⊢
      clear r4 r5 b1 b2 z2 hd HM3 HR3 HG3
      have b2 : wd.cell? ⟨gW, t, none⟩ = some (.int .i64 (s.first t)) := by rw [HM4.out.hW.cell t, fam_get _ ht]
      have z2 := HM4.out.hW.free t
      obtain ⟨we, hwe⟩ : ∃ we, we = wd.setCell ⟨gW, t, none⟩ (.int .i64 (s.first t + (nb : Int))) := ⟨_, rfl⟩
      have HM5 := Lib.hid (HM4.out.setW (t := t) (s.first t + (nb : Int)))
      have HR5 := Lib.hid (HR4.out.far (p := ⟨gW, t, none⟩) hnr.2.2.1 (.int .i64 (s.first t + (nb : Int))))
      have HG5 := Lib.hid (gr_row HG4.out (grown_store wd gW t (.int .i64 (s.first t + (nb : Int)))) (fun g e => by injection e with e; have := hlo.2.2.1; omega))
      rw [← hwe] at HM5 HR5 HG5
      have HWE := Lib.hid hwe
      clear hwe
      go_upto_region 8 with fail
      rw [show wd.setCell ⟨gW, t, none⟩ (.int .i64 (s.first t + (nb : Int))) = we from HWE.out.symm]
      clear b2 z2
      have r4 : we.cell? ⟨gR, 4, none⟩ = some (.slice (some ⟨gB, 0, none⟩) thr thr) := HR5.out.cell 4
      obtain ⟨A6, k6, hvb6, _⟩ := own_slice (HM5.out.ob t ht)
      have b1 : we.cell? ⟨gB, t, none⟩ = some (.slice A6 (s.buf t).length k6) := by rw [HM5.out.hB.cell t, fam_get _ ht, hvb6]
      have z1 := HM5.out.hB.free t
      clear hvb6
      go_wp2_with fail
      go_ret
      refine ⟨rfl, ?_⟩
      have HS : Hid (s.write t = ⟨upd s.buf t [], upd s.first t (s.first t + (nb : Int)), upd s.file t (s.file t ++ ys)⟩) := by
        refine Lib.hid ?_
        unfold St.write
        rw [if_neg (by rw [← HNB.out]; intro e; rw [e] at hbe; simp at hbe), HNB.out]
        rw [show encode (blkOf s t) = (ys, 0) from HYS.out]
      rw [HS.out]
      refine ⟨⟨_, _, _, HM5.out.clearB ht⟩, HR5.out.far (p := ⟨gB, t, none⟩) hnr.2.1 _, ?_, hlo, hnr⟩
      exact gr_row HG5.out (grown_store we gB t _) (fun g e => by injection e with e; have := hlo.2.1; omega)
end Go.Proofs.Ytlofjhcjjcohfaa
