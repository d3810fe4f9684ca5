/- The walks of EventReads and EventOnce. -/
import Derived.Test.YtlcmffbikiamjaaReadR
import Derived.Test.YtlcmffbikiamjaaSameI
import Derived.Test.YtlcmffbikiamjaaLaw11e
import Derived.Deep.DeepCutAuto
namespace Go.Proofs.Ytlcmffbikiamjaa
open Go Go.RowKit Iv
set_option linter.unusedVariables false

theorem belGr {w w1 w2 : World} (h : Below w.heap.size w w1) (hg : w1.grownBy w2 none) : Below w.heap.size w w2 := h.grown hg h.size (fun k hk => by cases hk)
theorem belDr {B : Nat} {w w' : World} (h : Below B w w') (q : Nat) : Below B w (w'.drewN q) := ⟨h.os, h.tape, h.output, h.size, h.block⟩

theorem readP_parts (A : Option Addr) (n c B : Nat) (xs : Bytes) (thread seq : Int) (w : World) (h : Lies w B 1 A n (xs.map bv)) (hB : B ≤ w.heap.size) (hnc : n ≤ c) (ho : A = none → c = 0) (hn : n ≤ 1000000000) {r : Rec} {k : Nat} {er : Int} (hg : getRec xs thread seq = (r, k, er)) :
    Calls Try.prog 44 #[.slice A n c, .int .i64 thread, .int .i64 seq] w fun e w' => ∃ (Ad : Option Addr) (cd : Nat) (Af : Option Addr) (cf : Nat),
      e = .returned (.tuple #[.agg (recV r Ad r.ev.deps.length cd Af r.ev.from_.length cf), .int .i64 (k : Int), .int .i64 er]) ∧
      w'.ownsRow w.heap.size 3 1 (.slice Ad r.ev.deps.length cd) r.ev.deps.length (r.ev.deps.map iv) ∧ w'.ownsRow w.heap.size 3 1 (.slice Af r.ev.from_.length cf) r.ev.from_.length (r.ev.from_.map iv) ∧ w.grownBy w' none := by
  refine (readP_any A n c B xs thread seq w h hB hnc ho hn).mono ?_
  rintro e w' ⟨r', vd, vf, hr, he, hd, hf, hgr⟩
  rw [hg] at hr he
  subst hr
  obtain ⟨Ad, cd, hvd, _⟩ := own_slice hd
  obtain ⟨Af, cf, hvf, _⟩ := own_slice hf
  subst hvd hvf
  exact ⟨Ad, cd, Af, cf, he, hd, hf, hgr⟩
theorem readR_parts (A : Option Addr) (n c B : Nat) (xs : Bytes) (thread seq : Int) (w : World) (h : Lies w B 1 A n (xs.map bv)) (hB : B ≤ w.heap.size) (hnc : n ≤ c) (ho : A = none → c = 0) (hn : n ≤ 1000000000) {r : Rec} {k : Nat} {er : Int} (hg : getRec xs thread seq = (r, k, er)) :
    Calls Try.prog 45 #[.slice A n c, .int .i64 thread, .int .i64 seq] w fun e w' => ∃ (Ad : Option Addr) (cd : Nat) (Af : Option Addr) (cf : Nat),
      e = .returned (.tuple #[.agg (recV r Ad r.ev.deps.length cd Af r.ev.from_.length cf), .int .i64 (k : Int), .int .i64 er]) ∧
      w'.ownsRow w.heap.size 3 1 (.slice Ad r.ev.deps.length cd) r.ev.deps.length (r.ev.deps.map iv) ∧ w'.ownsRow w.heap.size 3 1 (.slice Af r.ev.from_.length cf) r.ev.from_.length (r.ev.from_.map iv) ∧ w.grownBy w' none := by
  refine (readR_any A n c B xs thread seq w h hB hnc ho hn).mono ?_
  rintro e w' ⟨r', vd, vf, hr, he, hd, hf, hgr⟩
  rw [hg] at hr he
  subst hr
  obtain ⟨Ad, cd, hvd, _⟩ := own_slice hd
  obtain ⟨Af, cf, hvf, _⟩ := own_slice hf
  subst hvd hvf
  exact ⟨Ad, cd, Af, cf, he, hd, hf, hgr⟩
/-- The lists that are read are short. -/
theorem getRec_short {xs : Bytes} {thread seq : Int} {r : Rec} {k : Nat} {er : Int} (ht : inI64 thread) (hg : getRec xs thread seq = (r, k, er)) : r.ev.deps.length ≤ 400 ∧ r.ev.from_.length ≤ 400 := by
  rcases getRec_cases xs thread seq with h | ⟨e, _, h⟩
  · rw [hg] at h
    simp only at h
    subst h
    have := (getRec_once ht hg).1
    exact ⟨this.ld, this.lf⟩
  · rw [hg] at h
    simp only [Prod.mk.injEq] at h
    obtain ⟨rfl, _, _⟩ := h
    exact ⟨by simp [zeroRec, zeroEv], by simp [zeroRec, zeroEv]⟩
theorem cells8 {W : World} {g : Nat} {T : TypeId} {r : Rec} {Ad : Option Addr} {nd cd : Nat} {Af : Option Addr} {nf cf : Nat} (h : Held W g T (recV r Ad nd cd Af nf cf)) :
    W.cell? ⟨g, 0, none⟩ = some (.int .i64 r.seq) ∧ W.cell? ⟨g, 1, none⟩ = some (.int .i64 r.ev.thread) ∧ W.cell? ⟨g, 2, none⟩ = some (.int .i64 r.ev.kind) ∧ W.cell? ⟨g, 3, none⟩ = some (.int .i64 r.ev.obj) ∧
    W.cell? ⟨g, 4, none⟩ = some (.int .i64 r.ev.value) ∧ W.cell? ⟨g, 5, none⟩ = some (.int .i64 r.ev.site) ∧ W.cell? ⟨g, 6, none⟩ = some (.slice Ad nd cd) ∧ W.cell? ⟨g, 7, none⟩ = some (.slice Af nf cf) :=
  ⟨h.cell 0, h.cell 1, h.cell 2, h.cell 3, h.cell 4, h.cell 5, h.cell 6, h.cell 7⟩

set_option maxRecDepth 100000 in
set_option maxHeartbeats 3200000 in
theorem eventReads_any (A : Option Addr) (n c : Nat) (xs : Bytes) (thread seq : Int) (w : World) (h : Lies w w.heap.size 1 A n (xs.map bv)) (hnc : n ≤ c) (hcm : c ≤ maxLen) (ho : A = none → c = 0) (ht : inI64 thread) (hs : inI64 seq) :
    Calls Try.prog 17 #[.slice A n c, .int .i64 thread, .int .i64 seq] w fun e w' => e = .returned (.bool true) ∧ Below w.heap.size w w' := by
  unfold maxLen at hcm
  by_cases h3 : 2000 < n
  · clear ho
    go_enter Try.func17, Try.ntmps17
    go_wp2_with fail
    go_ret
    exact ⟨rfl, Below.refl _ _⟩
  · obtain ⟨r, k, er, hg⟩ : ∃ r k er, getRec xs thread seq = (r, k, er) := ⟨_, _, _, rfl⟩
    obtain ⟨s1, s2⟩ := getRec_short ht hg
    have CP := Lib.hid (readP_parts A n c _ xs thread seq w h (Nat.le_refl _) hnc ho (by omega) hg)
    have CR := Lib.hid (fun (w1 : World) (hb : Below w.heap.size w w1) => readR_parts A n c _ xs thread seq w1 (h.below hb) hb.size hnc ho (by omega) hg)
    have b0 : (r.seq == r.seq) = true := by simp
    have b1 : (er == er) = true := by simp
    have b2 : ((k : Int) == (k : Int)) = true := by simp
    clear hg ht hs ho
    go_enter Try.func17, Try.ntmps17
    go_wp2_with fail
    refine CP.out.mono ?_
    rintro e w1 ⟨Ad, cd, Af, cf, rfl, hd, hf, hgr⟩
    obtain ⟨W1, hW1⟩ : ∃ W, W = w1.alloc (.cells (recV r Ad r.ev.deps.length cd Af r.ev.from_.length cf) 35) := ⟨_, rfl⟩
    have B1 : Held W1 w1.heap.size 35 (recV r Ad r.ev.deps.length cd Af r.ev.from_.length cf) := by rw [hW1]; exact Held.new _ _ _
    have g1 : w1.grownBy W1 none := by rw [hW1]; exact World.grownBy_alloc w1 _ none
    have HW1 := Lib.hid hW1
    have LD := Lib.hid ((Lies.ofOwn hd).grown g1 (Nat.le_refl _) (fun g hg => nomatch hg))
    have LF := Lib.hid ((Lies.ofOwn hf).grown g1 (Nat.le_refl _) (fun g hg => nomatch hg))
    have bel1 : Below w.heap.size w W1 := belGr (belGr (Below.refl _ w) hgr) g1
    have HB1 := Lib.hid B1
    clear hW1 hd hf hgr B1
    unfold recV at *
    go_wp2_with fail
    rw [show w1.alloc (.cells #[.int .i64 r.seq, .int .i64 r.ev.thread, .int .i64 r.ev.kind, .int .i64 r.ev.obj, .int .i64 r.ev.value, .int .i64 r.ev.site, .slice Ad r.ev.deps.length cd, .slice Af r.ev.from_.length cf] 35) = W1 from HW1.out.symm]
    refine (CR.out W1 bel1).mono ?_
    rintro e w2 ⟨Ad2, cd2, Af2, cf2, rfl, hd2, hf2, hgr2⟩
    obtain ⟨W2, hW2⟩ : ∃ W, W = w2.alloc (.cells (recV r Ad2 r.ev.deps.length cd2 Af2 r.ev.from_.length cf2) 35) := ⟨_, rfl⟩
    have g2 : w2.grownBy W2 none := by rw [hW2]; exact World.grownBy_alloc w2 _ none
    have B2 : Held W2 w2.heap.size 35 (recV r Ad2 r.ev.deps.length cd2 Af2 r.ev.from_.length cf2) := by rw [hW2]; exact Held.new _ _ _
    have B1 : Held W2 w1.heap.size 35 (recV r Ad r.ev.deps.length cd Af r.ev.from_.length cf) := (HB1.out.grown hgr2 (fun e => nomatch e)).grown g2 (fun e => nomatch e)
    have bel2 : Below w.heap.size w W2 := belGr (belGr bel1 hgr2) g2
    have z1 : w1.heap.size ≤ W2.heap.size := by have := g1.size; have := hgr2.size; have := g2.size; omega
    have g12 := grownBy_trans hgr2 g2 (.inl rfl)
    have CE := Lib.hid (sameEvent_yes r.ev Ad _ cd Af _ cf Ad2 _ cd2 Af2 _ cf2 W2 W2.heap.size ((LD.out.grown g12 g1.size (fun g hg => nomatch hg)).more z1) ((LF.out.grown g12 g1.size (fun g hg => nomatch hg)).more z1)
      (((Lies.ofOwn hd2).grown g2 (Nat.le_refl _) (fun g hg => nomatch hg)).more g2.size) (((Lies.ofOwn hf2).grown g2 (Nat.le_refl _) (fun g hg => nomatch hg)).more g2.size) (by omega) (by omega))
    obtain ⟨e0, e1, e2, e3, e4, e5, e6, e7⟩ := cells8 B1
    obtain ⟨f0, f1, f2, f3, f4, f5, f6, f7⟩ := cells8 B2
    have HW2 := Lib.hid hW2
    clear hW2 hd2 hf2 hgr2 B1 B2 g1 g2 g12 z1
    unfold recV evV at *
    go_upto_region 5 with fail
    rw [show w2.alloc (.cells #[.int .i64 r.seq, .int .i64 r.ev.thread, .int .i64 r.ev.kind, .int .i64 r.ev.obj, .int .i64 r.ev.value, .int .i64 r.ev.site, .slice Ad2 r.ev.deps.length cd2, .slice Af2 r.ev.from_.length cf2] 35) = W2 from HW2.out.symm]
    go_wp2_with fail
    refine CE.out.mono ?_
    rintro e w3 ⟨rfl, g3⟩
    have bel3 : Below w.heap.size w w3 := belGr bel2 g3
    go_wp2_with fail
    refine (awake11_any _).mono ?_
    rintro e w4 ⟨rfl, hb4⟩
    go_wp2_with fail
    go_ret
    exact ⟨rfl, bel3.trans (hb4.mono bel3.size)⟩
end Go.Proofs.Ytlcmffbikiamjaa
