/- What Read gives, part by part. -/
import Derived.Test.YtlofjhcjjcohfaaReadR
import Derived.Test.YtlofjhcjjcohfaaSameI
namespace Go.Proofs.Ytlofjhcjjcohfaa
open Go Go.RowKit Iv
set_option linter.unusedVariables false

theorem belGr {w w1 w2 : World} (h : Below w.heap.size w w1) (hg : w1.grownBy w2 none) : Below w.heap.size w w2 := h.grown hg h.size (fun k hk => by cases hk)
theorem belDr {B : Nat} {w w' : World} (h : Below B w w') (q : Nat) : Below B w (w'.drewN q) := ⟨h.os, h.tape, h.output, h.size, h.block⟩

theorem readP_parts (A : Option Addr) (n c B : Nat) (xs : Bytes) (thread seq : Int) (w : World) (h : Lies w B 1 A n (xs.map bv)) (hB : B ≤ w.heap.size) (hnc : n ≤ c) (ho : A = none → c = 0) (hn : n ≤ 1000000000) {r : Rec} {k : Nat} {er : Int} (hg : getRec xs thread seq = (r, k, er)) :
    Calls Try.prog 12 #[.slice A n c, .int .i64 thread, .int .i64 seq] w fun e w' => ∃ (Ad : Option Addr) (cd : Nat) (Af : Option Addr) (cf : Nat),
      e = .returned (.tuple #[.agg (recV r Ad r.ev.deps.length cd Af r.ev.from_.length cf), .int .i64 (k : Int), .int .i64 er]) ∧
      w'.ownsRow w.heap.size 3 1 (.slice Ad r.ev.deps.length cd) r.ev.deps.length (r.ev.deps.map iv) ∧ w'.ownsRow w.heap.size 3 1 (.slice Af r.ev.from_.length cf) r.ev.from_.length (r.ev.from_.map iv) ∧ w.grownBy w' none := by
  refine (readP_any A n c B xs thread seq w h hB hnc ho hn).mono ?_
  rintro e w' ⟨r', vd, vf, hr, he, hd, hf, hgr⟩
  rw [hg] at hr he
  subst hr
  obtain ⟨Ad, cd, hvd, _⟩ := own_slice hd
  obtain ⟨Af, cf, hvf, _⟩ := own_slice hf
  subst hvd hvf
  exact ⟨Ad, cd, Af, cf, he, hd, hf, hgr⟩
theorem readR_parts (A : Option Addr) (n c B : Nat) (xs : Bytes) (thread seq : Int) (w : World) (h : Lies w B 1 A n (xs.map bv)) (hB : B ≤ w.heap.size) (hnc : n ≤ c) (ho : A = none → c = 0) (hn : n ≤ 1000000000) {r : Rec} {k : Nat} {er : Int} (hg : getRec xs thread seq = (r, k, er)) :
    Calls Try.prog 75 #[.slice A n c, .int .i64 thread, .int .i64 seq] w fun e w' => ∃ (Ad : Option Addr) (cd : Nat) (Af : Option Addr) (cf : Nat),
      e = .returned (.tuple #[.agg (recV r Ad r.ev.deps.length cd Af r.ev.from_.length cf), .int .i64 (k : Int), .int .i64 er]) ∧
      w'.ownsRow w.heap.size 3 1 (.slice Ad r.ev.deps.length cd) r.ev.deps.length (r.ev.deps.map iv) ∧ w'.ownsRow w.heap.size 3 1 (.slice Af r.ev.from_.length cf) r.ev.from_.length (r.ev.from_.map iv) ∧ w.grownBy w' none := by
  refine (readR_any A n c B xs thread seq w h hB hnc ho hn).mono ?_
  rintro e w' ⟨r', vd, vf, hr, he, hd, hf, hgr⟩
  rw [hg] at hr he
  subst hr
  obtain ⟨Ad, cd, hvd, _⟩ := own_slice hd
  obtain ⟨Af, cf, hvf, _⟩ := own_slice hf
  subst hvd hvf
  exact ⟨Ad, cd, Af, cf, he, hd, hf, hgr⟩
/-- The lists that are read are short. -/
theorem getRec_short {xs : Bytes} {thread seq : Int} {r : Rec} {k : Nat} {er : Int} (ht : inI64 thread) (hg : getRec xs thread seq = (r, k, er)) : r.ev.deps.length ≤ 400 ∧ r.ev.from_.length ≤ 400 := by
  rcases getRec_cases xs thread seq with h | ⟨e, _, h⟩
  · rw [hg] at h
    simp only at h
    subst h
    have := (getRec_once ht hg).1
    exact ⟨this.ld, this.lf⟩
  · rw [hg] at h
    simp only [Prod.mk.injEq] at h
    obtain ⟨rfl, _, _⟩ := h
    exact ⟨by simp [zeroRec, zeroEv], by simp [zeroRec, zeroEv]⟩
theorem cells8 {W : World} {g : Nat} {T : TypeId} {r : Rec} {Ad : Option Addr} {nd cd : Nat} {Af : Option Addr} {nf cf : Nat} (h : Held W g T (recV r Ad nd cd Af nf cf)) :
    W.cell? ⟨g, 0, none⟩ = some (.int .i64 r.seq) ∧ W.cell? ⟨g, 1, none⟩ = some (.int .i64 r.ev.thread) ∧ W.cell? ⟨g, 2, none⟩ = some (.int .i64 r.ev.kind) ∧ W.cell? ⟨g, 3, none⟩ = some (.int .i64 r.ev.obj) ∧
    W.cell? ⟨g, 4, none⟩ = some (.int .i64 r.ev.value) ∧ W.cell? ⟨g, 5, none⟩ = some (.int .i64 r.ev.site) ∧ W.cell? ⟨g, 6, none⟩ = some (.slice Ad nd cd) ∧ W.cell? ⟨g, 7, none⟩ = some (.slice Af nf cf) :=
  ⟨h.cell 0, h.cell 1, h.cell 2, h.cell 3, h.cell 4, h.cell 5, h.cell 6, h.cell 7⟩

end Go.Proofs.Ytlofjhcjjcohfaa
