/- The walk of RecordTells. -/
import Derived.Test.YtlofjhcjjcohfaaLaw14a
import Derived.Test.YtlofjhcjjcohfaaRdP
import Derived.Test.YtlofjhcjjcohfaaFlR
import Derived.Test.YtlofjhcjjcohfaaPl
namespace Go.Proofs.Ytlofjhcjjcohfaa
open Go Go.RowKit Iv
set_option linter.unusedVariables false

theorem FilesAt.keep {base thr gF : Nat} {fs : Nat → Bytes} {vf : Nat → Value} {w w' : World} (h : FilesAt base thr gF fs vf w) (hg : w.grownBy w' none) : FilesAt base thr gF fs vf w' :=
  ⟨h.h.grown hg (fun e => nomatch e), fun t ht => own_keep (h.own t ht) hg (fun _ _ e => nomatch e), h.ap, h.lo, h.ne⟩

set_option maxRecDepth 100000 in
set_option maxHeartbeats 1600000 in
theorem recordTells_any (l : List Ev) (Al : Option Addr) (nl cl : Nat) (thr : Int) (p : Pln) (Af : Option Addr) (nf cf : Nat) (Ac : Option Addr) (nc cc : Nat) (w : World) (hl : Evs w w.heap.size Al nl l) (hf : Fls w w.heap.size Af nf p.flushes) (hcu : Lies w w.heap.size 1 Ac nc (p.cuts.map iv)) (hnl : nl ≤ maxLen) (hnf : nf ≤ maxLen) (hnc : nc ≤ maxLen) (hnum : ∀ e ∈ l, RecFit ⟨0, e⟩) (hi64 : inI64 p.stop ∧ allI64 p.cuts) :
    Calls Try.prog 5 #[.slice Al nl cl, .int .i64 thr, .agg (planV p Af nf cf Ac nc cc)] w fun e w' => e = .returned (.bool true) ∧ Below w.heap.size w w' := by
  obtain ⟨W, hW⟩ : ∃ W, W = w.alloc (.cells (planV p Af nf cf Ac nc cc) 47) := ⟨_, rfl⟩
  have hWg : w.grownBy W none := by rw [hW]; exact World.grownBy_alloc w _ none
  have hb0 : Held W w.heap.size 47 (planV p Af nf cf Ac nc cc) := by rw [hW]; exact Held.new _ _ _
  have HW := Lib.hid hW
  have HB0 := Lib.hid hb0
  have hlW := hl.grown hWg (Nat.le_refl _) (fun _ e => nomatch e)
  have hfW := hf.grown hWg (Nat.le_refl _) (fun _ e => nomatch e)
  have hcW := hcu.grown hWg (Nat.le_refl _) (fun _ e => nomatch e)
  have CL := Lib.hid (large14_any l Al nl cl p Af nf cf Ac nc cc w.heap.size W hlW hWg.size hnl hnf hnc)
  have CP := Lib.hid (fun (W' : World) (hg : W.grownBy W' none) (h1 : nl ≤ 500 ∧ nf ≤ 50 ∧ nc ≤ 10) => filesP_any l Al nl cl thr p Af nf cf Ac nc cc w.heap.size W' (hlW.grown hg hWg.size (fun _ e => nomatch e)) (hfW.grown hg hWg.size (fun _ e => nomatch e)) (hcW.grown hg hWg.size (fun _ e => nomatch e)) (Nat.le_trans hWg.size hg.size) (by omega) (by omega) (by omega) hnum hi64)
  have CR := Lib.hid (fun (W' : World) (hg : W.grownBy W' none) (h1 : nl ≤ 500 ∧ nf ≤ 50 ∧ nc ≤ 10) => filesR_any l Al nl cl thr p Af nf cf Ac nc cc w.heap.size W' (hlW.grown hg hWg.size (fun _ e => nomatch e)) (hfW.grown hg hWg.size (fun _ e => nomatch e)) (hcW.grown hg hWg.size (fun _ e => nomatch e)) (Nat.le_trans hWg.size hg.size) (by omega) (by omega) (by omega) hnum hi64)
  have HNUM := Lib.hid hnum
  obtain ⟨er, her⟩ : ∃ er, er = filesErr l thr p := ⟨_, rfl⟩
  have HER := Lib.hid her
  have hee : (er == er) = true := by simp
  clear hW hl hf hcu hlW hfW hcW hnl hnf hnc hnum her
  unfold planV at HW HB0 CL CP CR ⊢

  have fr : ∀ W' : World, W.grownBy W' none → W'.cell? ⟨w.heap.size, 0, none⟩ = some (.int .i64 p.cap) ∧ W'.cell? ⟨w.heap.size, 1, none⟩ = some (.slice Af nf cf) ∧ W'.cell? ⟨w.heap.size, 2, none⟩ = some (.int .i64 p.stop) ∧ W'.cell? ⟨w.heap.size, 3, none⟩ = some (.slice Ac nc cc) := fun W' hg =>
    ⟨(HB0.out.grown hg (fun e => nomatch e)).cell 0, (HB0.out.grown hg (fun e => nomatch e)).cell 1, (HB0.out.grown hg (fun e => nomatch e)).cell 2, (HB0.out.grown hg (fun e => nomatch e)).cell 3⟩
  have FR := Lib.hid fr
  obtain ⟨f0, f1, f2, f3⟩ := fr W (World.grownBy.refl W none)
  have HBEL := Lib.hid (fun (W' : World) (hg : W.grownBy W' none) => belGr (Below.refl w.heap.size w) (grownBy_trans hWg hg (.inl rfl)))
  clear fr hb0
  go_enter Try.func5, Try.ntmps5
  go_upto_region 1 with fail
  rw [show w.alloc (.cells #[.int .i64 p.cap, .slice Af nf cf, .int .i64 p.stop, .slice Ac nc cc] 47) = W from HW.out.symm]
  go_wp2_with fail
  refine CL.out.mono ?_
  rintro e w1 ⟨b, rfl, hb, hg1⟩
  clear f0 f1 f2 f3
  cases b with
  | true =>
    clear hb
    go_wp2_with fail
    go_ret
    exact ⟨rfl, HBEL.out _ hg1⟩
  | false =>
    have HBD := Lib.hid (hb rfl)
    obtain ⟨f0, f1, f2, f3⟩ := FR.out w1 hg1
    clear hb
    go_wp2_with fail
    clear f0 f1 f2 f3
    refine (CP.out w1 hg1 HBD.out).mono ?_
    rintro e w2 ⟨v2, rfl, hg2, hbad2, hgood2⟩
    rw [← HER.out] at hbad2 hgood2 ⊢
    have hg02 := grownBy_trans hg1 hg2 (.inl rfl)
    obtain ⟨f0, f1, f2, f3⟩ := FR.out w2 hg02
    have HB2 := Lib.hid hbad2
    have HD2 := Lib.hid hgood2
    clear hbad2 hgood2 hg1 hg2
    go_wp2_with fail
    clear f0 f1 f2 f3
    refine (CR.out w2 hg02 HBD.out).mono ?_
    rintro e w3 ⟨v3, rfl, hg3, hbad3, hgood3⟩
    rw [← HER.out] at hbad3 hgood3 ⊢
    have hg03 := grownBy_trans hg02 hg3 (.inl rfl)
    have HB3 := Lib.hid hbad3
    have HD3 := Lib.hid hgood3
    have HG3 := Lib.hid hg3
    have HG03 := Lib.hid hg03
    clear hbad3 hgood3 hg02 hg3 hg03
    have CS : Hid (Calls Try.prog 22 #[v2, v3] w3 fun e w' => e = .returned (.bool true) ∧ ∃ q, w' = w3.drewN q) := by
      refine Lib.hid ?_
      by_cases h0 : er = 0
      · obtain ⟨t2, g2, vf2, ht2, rfl, hF2⟩ := HD2.out h0
        obtain ⟨t3, g3, vf3, ht3, rfl, hF3⟩ := HD3.out h0
        obtain rfl : t3 = t2 := by omega
        obtain ⟨tt, c, htt, hpg⟩ := planGood (HER.out.symm.trans h0)
        obtain rfl : tt = t3 := by omega
        exact same14_yes tt g2 g3 _ _ (filesOf l p) vf2 vf3 w3 (hF2.keep HG3.out) hF3 (by have := hpg.thr4; omega) (fun k hk => by have := hpg.fileLen HNUM.out k hk; omega)
      · rw [HB2.out h0, HB3.out h0]
        exact same14_nil w3
    go_wp2_with (first | (go_at_call 22; refine CS.out.mono ?_; rintro e w4 ⟨rfl, q, rfl⟩) | (go_at_call 23; refine (awake14_any _).mono ?_; rintro e w5 ⟨rfl, hg5⟩) | fail)
    go_ret
    exact ⟨rfl, HBEL.out _ (grownBy_trans (grown_toDrewN HG03.out q) hg5 (.inl rfl))⟩

theorem recordTellsArgs (l : List Ev) (Al : Option Addr) (nl cl : Nat) (thr : Int) (p : Pln) (Af : Option Addr) (nf cf : Nat) (Ac : Option Addr) (nc cc : Nat) (w : World) (hl : Evs w w.heap.size Al nl l) (hnl : nl ≤ maxLen) (hnum : ∀ e ∈ l, RecFit ⟨0, e⟩) (ht : inI64 thr) (hf : Fls w w.heap.size Af nf p.flushes) (hcu : Lies w w.heap.size 1 Ac nc (p.cuts.map iv)) (hnf : nf ≤ maxLen) (hnc : nc ≤ maxLen) (hi64 : inI64 p.stop ∧ allI64 p.cuts) :
    Calls Try.prog 5 #[.slice Al nl cl, .int .i64 thr, .agg (planV p Af nf cf Ac nc cc)] w fun e w' => e = .returned (.bool true) ∧ Below w.heap.size w w' :=
  recordTells_any l Al nl cl thr p Af nf cf Ac nc cc w hl hf hcu hnl hnf hnc hnum hi64
end Go.Proofs.Ytlofjhcjjcohfaa
