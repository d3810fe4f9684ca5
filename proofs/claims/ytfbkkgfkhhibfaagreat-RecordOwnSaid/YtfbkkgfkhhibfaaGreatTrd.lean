/- Words for Files (chapter 14): its outcome, and the recorder at its beginning. -/
import Derived.Test.YtfbkkgfkhhibfaaGreatRadd
import Derived.Test.YtfbkkgfkhhibfaaGreatPln
import Derived.Test.YtfbkkgfkhhibfaaGreatPl
import Derived.Deep.RegionHeld3
import Derived.StillTail
import Derived.Test.YtfbkkgfkhhibfaaGreatEncR
import Derived.BigRegion
import Derived.Test.YtfbkkgfkhhibfaaGreatAlc
import Derived.Test.YtfbkkgfkhhibfaaGreatRrow
namespace Go.Proofs.YtfbkkgfkhhibfaaGreat
open Go Go.RowKit Iv
set_option linter.unusedVariables false
theorem own_take {w : World} {base e sz n m c : Nat} {A : Option Addr} {xs : List Value} (h : w.ownsRow base e sz (.slice A n c) n xs) (hm : m ≤ n) : w.ownsRow base e sz (.slice A m c) m (xs.take (m * sz)) := by
  refine ⟨by rw [List.length_take, h.1]; exact Nat.min_eq_left (Nat.mul_le_mul_right _ hm), ?_⟩
  rcases h.2 with ⟨h1, h0⟩ | ⟨g, cap, cur, h1, hb, hg, hnc, hcm, hcs, ht⟩
  · injection h1 with h2 h3 h4
    subst h2 h4
    have : m = 0 := by omega
    subst this
    exact .inl ⟨rfl, by simp⟩
  · injection h1 with h2 h3 h4
    subst h2 h4
    refine .inr ⟨g, c, cur, rfl, hb, hg, by omega, hcm, hcs, ?_⟩
    rw [← ht, List.take_take, Nat.min_eq_left (Nat.mul_le_mul_right _ hm)]
theorem own_takeB {w : World} {base e n m c : Nat} {A : Option Addr} {b : Bytes} (h : w.ownsRow base e 1 (.slice A n c) n (b.map bv)) (hm : m ≤ n) : w.ownsRow base e 1 (.slice A m c) m ((b.take m).map bv) := by
  have := own_take h hm
  rwa [Nat.mul_one, ← List.map_take] at this
structure FilesAt (base thr gF : Nat) (fs : Nat → Bytes) (vf : Nat → Value) (w : World) : Prop where
  h : Held w gF 22 (fam thr vf)
  own : ∀ t, t < thr → w.ownsRow base 5 1 (vf t) (fs t).length ((fs t).map bv)
  ap : ∀ t k, t < thr → k < thr → t ≠ k → Apart (vf t) (vf k)
  lo : base ≤ gF
  ne : ∀ t, t < thr → (vf t).ownBlock ≠ some gF
def FilesOut (l : List Ev) (thr : Int) (p : Pln) (w : World) (e : Ending) (w' : World) : Prop :=
  ∃ v, e = .returned (.tuple #[v, .int .i64 (filesErr l thr p)]) ∧ w.grownBy w' none ∧
    (filesErr l thr p ≠ 0 → v = .slice none 0 0) ∧
    (filesErr l thr p = 0 → ∃ (t gF : Nat) (vf : Nat → Value), thr = (t : Int) ∧ v = .slice (some ⟨gF, 0, none⟩) t t ∧ FilesAt w.heap.size t gF (filesOf l p) vf w')
theorem filesOut_bad {l : List Ev} {thr : Int} {p : Pln} {w w' : World} {k : Int} (hk : filesErr l thr p = k) (h0 : k ≠ 0) (hg : w.grownBy w' none) : FilesOut l thr p w (.returned (.tuple #[.slice none 0 0, .int .i64 k])) w' :=
  ⟨_, by rw [hk], hg, fun _ => rfl, fun h => absurd (hk ▸ h) h0⟩
theorem made_fam (t : Nat) (v : Value) (h : v.cells = #[v]) : madeCells v.cells (t * 1) = fam t fun _ => v := by
  rw [h]
  unfold madeCells fam
  apply Array.ext
  · simp
  · intro i h1 h2
    simp [Nat.mod_one]
theorem info_recs : (Tryz.prog.info? 48).map (fun i => (i.zero, i.size, i.bytes)) = some (some (.slice none 0 0), 1, 24) := by kernel_rfl
theorem info_bytes : (Tryz.prog.info? 22).map (fun i => (i.zero, i.size, i.bytes)) = some (some (.slice none 0 0), 1, 24) := by kernel_rfl
theorem make_any {T e : TypeId} {z : Value} {bytes : Nat} (hu : Tryz.prog.underlying T = some (.slice e)) (hi : (Tryz.prog.info? e).map (fun i => (i.zero, i.size, i.bytes)) = some (some z, 1, bytes)) (hz : z.cells = #[z]) (hb : bytes ≤ 24) (w : World) {t : Nat} (ht : t ≤ 4) :
    (Instr.makeSlice T (.int .i64 (t : Int)) (.int .i64 (t : Int))).run Tryz.prog w = .ok (.slice (some ⟨w.heap.size, 0, none⟩) t t) (w.alloc (.cells (fam t fun _ => z) e)) := by
  obtain ⟨i0, hi, hz0, hz1, hz2⟩ := info_parts hi
  have := run_make (P := Tryz.prog) w T e i0 z hu hi hz0 .i64 .i64 (t : Int) (t : Int) (by omega) (Int.le_refl _) (by rw [hz2]; rcases (show t = 0 ∨ t = 1 ∨ t = 2 ∨ t = 3 ∨ t = 4 by omega) with h | h | h | h | h <;> subst h <;> omega) (by omega)
  rw [Int.toNat_natCast, hz1, made_fam t z hz] at this
  exact this
theorem grownAl2 {a b : World} (h : a.grownBy b none) (o : Obj) : a.grownBy (b.alloc o) none := grownBy_trans h (World.grownBy_alloc _ _ none) (.inl rfl)
theorem rs_of4 {w3 W : World} {p0 p1 p2 p3 : Addr} {v0 v1 v2 v3 : Value} (f0 : w3.cell? p0 = some v0) (f1 : w3.cell? p1 = some v1) (f2 : w3.cell? p2 = some v2) (f3 : w3.cell? p3 = some v3) (h : w3.grownBy W none) : W.cell? p0 = some v0 ∧ W.cell? p1 = some v1 ∧ W.cell? p2 = some v2 ∧ W.cell? p3 = some v3 ∧ w3.grownBy W none :=
  ⟨World.grownBy.cell h f0 (by simp), World.grownBy.cell h f1 (by simp), World.grownBy.cell h f2 (by simp), World.grownBy.cell h f3 (by simp), h⟩
theorem RP.init {T : TypeId} {cells : Array Value} {W0 w4 : World} {base B thr gR gB gW gF : Nat} (hB : Held w4 gB 48 (fam thr fun _ => .slice none 0 0)) (hW : Held w4 gW 3 (fam thr fun _ => .int .i64 0)) (hF : Held w4 gF 22 (fam thr fun _ => .slice none 0 0)) (hR : Held w4 gR T cells) (gr : W0.grownBy w4 none)
    (lo : W0.heap.size ≤ gR ∧ W0.heap.size ≤ gB ∧ W0.heap.size ≤ gW ∧ W0.heap.size ≤ gF) (hi : gR < base ∧ gB < base ∧ gW < base ∧ gF < base) (nr : gR ≠ gB ∧ gR ≠ gW ∧ gR ≠ gF) (ne : gB ≠ gW ∧ gB ≠ gF ∧ gW ≠ gF) (hBW : B ≤ W0.heap.size) (bs : base ≤ w4.heap.size) :
    RP T cells W0 base B thr gR gB gW gF St.none w4 := by
  obtain ⟨l0, l1, l2, l3⟩ := lo
  obtain ⟨i0, i1, i2, i3⟩ := hi
  refine ⟨⟨fun _ => .slice none 0 0, fun _ => .slice none 0 0, fun _ => [], ⟨hB, hW, hF, fun t ht => World.ownsRow_nil _ _ _ _, fun t ht => BufAt.nil _ _, fun t ht => World.ownsRow_nil _ _ _ _, fun t k _ _ _ => Apart.nil _, fun t k _ _ _ => Apart.nil _, fun t k _ _ => Apart.nil _, ⟨i1, i2, i3⟩, ⟨by omega, by omega, by omega⟩, ne, bs⟩⟩, hR, gr, ⟨by omega, l1, l2, l3⟩, i0, nr⟩
theorem held4 (W : World) (c0 c1 c2 c3 : Array Value) (t0 t1 t2 t3 : TypeId) :
    Held ((((W.alloc (.cells c0 t0)).alloc (.cells c1 t1)).alloc (.cells c2 t2)).alloc (.cells c3 t3)).drew W.heap.size t0 c0 ∧
    Held ((((W.alloc (.cells c0 t0)).alloc (.cells c1 t1)).alloc (.cells c2 t2)).alloc (.cells c3 t3)).drew (W.heap.size + 1) t1 c1 ∧
    Held ((((W.alloc (.cells c0 t0)).alloc (.cells c1 t1)).alloc (.cells c2 t2)).alloc (.cells c3 t3)).drew (W.heap.size + 1 + 1) t2 c2 ∧
    Held ((((W.alloc (.cells c0 t0)).alloc (.cells c1 t1)).alloc (.cells c2 t2)).alloc (.cells c3 t3)).drew (W.heap.size + 1 + 1 + 1) t3 c3 ∧
    W.grownBy ((((W.alloc (.cells c0 t0)).alloc (.cells c1 t1)).alloc (.cells c2 t2)).alloc (.cells c3 t3)).drew none ∧
    ((((W.alloc (.cells c0 t0)).alloc (.cells c1 t1)).alloc (.cells c2 t2)).alloc (.cells c3 t3)).drew.heap.size = W.heap.size + 4 := by
  have s1 : (W.alloc (.cells c0 t0)).heap.size = W.heap.size + 1 := by simp
  have s2 : ((W.alloc (.cells c0 t0)).alloc (.cells c1 t1)).heap.size = W.heap.size + 1 + 1 := by simp
  have s3 : (((W.alloc (.cells c0 t0)).alloc (.cells c1 t1)).alloc (.cells c2 t2)).heap.size = W.heap.size + 1 + 1 + 1 := by simp
  refine ⟨(((Held.new W t0 c0).alloc _).alloc _).alloc _, ?_, ?_, ?_, ?_, by simp⟩
  · have := ((Held.new (W.alloc (.cells c0 t0)) t1 c1).alloc (.cells c2 t2)).alloc (.cells c3 t3)
    rw [s1] at this
    exact this
  · have := (Held.new ((W.alloc (.cells c0 t0)).alloc (.cells c1 t1)) t2 c2).alloc (.cells c3 t3)
    rw [s2] at this
    exact this
  · have := Held.new (((W.alloc (.cells c0 t0)).alloc (.cells c1 t1)).alloc (.cells c2 t2)) t3 c3
    rw [s3] at this
    exact this
  · exact grown_toDrew (grownAl2 (grownAl2 (grownAl2 (grownAl2 (World.grownBy.refl W none) _) _) _) _)
theorem RP.cut {T : TypeId} {cells : Array Value} {W0 wr : World} {base B thr gR gB gW gF : Nat} {s : St} (h : RP T cells W0 base B thr gR gB gW gF s wr) {t : Nat} (ht : t < thr) {A : Option Addr} {c m : Nat} (hc : wr.cell? ⟨gF, t, none⟩ = some (.slice A (s.file t).length c)) (hm : m ≤ (s.file t).length) :
    RP T cells W0 base B thr gR gB gW gF ⟨s.buf, s.first, upd s.file t ((s.file t).take m)⟩ (wr.setCell ⟨gF, t, none⟩ (.slice A m c)) := by
  obtain ⟨⟨vb, vf, css, hM⟩, hR, hgr, hlo, hnr⟩ := h
  have hv : vf t = .slice A (s.file t).length c := by
    have := hM.hF.cell t
    rw [fam_get _ ht, hc] at this
    injection this with this
    exact this.symm
  have hown := hM.of_ t ht
  rw [hv] at hown
  have ho2 := own_takeB hown hm
  have hb : ∀ g, (Value.slice A m c).ownBlock = some g → (vf t).ownBlock = some g := fun g e => by rw [hv]; cases A with | none => exact (nomatch e) | some a => simpa [Value.ownBlock] using e
  have hl : ((s.file t).take m).length = m := by rw [List.length_take]; omega
  refine ⟨⟨vb, _, css, hM.setF ht (by rw [hl]; exact ho2) (World.grownBy.refl wr _) (fun k hk hkt g e1 e2 => hM.aff t k ht hk (fun e => hkt e.symm) g (hb g e1) e2) (fun k hk g e1 e2 => hM.abf k t hk ht g e1 (hb g e2))⟩, hR.far (p := ⟨gF, t, none⟩) hnr.2.2.2 _, ?_, hlo, hnr⟩
  exact gr_row hgr (grown_store wr gF t _) (fun g e => by injection e with e; have := hlo.2.2.2; omega)
theorem RP.files {T : TypeId} {cells : Array Value} {W0 wr : World} {base B thr gR gB gW gF : Nat} {s : St} (h : RP T cells W0 base B thr gR gB gW gF s wr) (w : World) (hw : w.heap.size ≤ W0.heap.size) : ∃ vf, FilesAt w.heap.size thr gF s.file vf wr := by
  obtain ⟨⟨vb, vf, css, hM⟩, hR, hgr, hlo, hnr⟩ := h
  refine ⟨vf, hM.hF, fun t ht => ownsRow_base (hM.of_ t ht) (by omega), hM.aff, by omega, fun t ht => own_ne (hM.of_ t ht) hM.lt.2.2⟩
end Go.Proofs.YtfbkkgfkhhibfaaGreat

/- A region that draws its order and ends with a store: what its loads read must stand till that store alone. -/
namespace Iv
open Go
set_option linter.unusedVariables false
section
variable {P : Program} {ops : Array Oper} {Q : Exit → Act → World → Prop} {md : Region.Mode} {S : World → Prop} {z : Nat}
end
end Iv

/- The walk of the reference writer's write (chapter 14). -/
namespace Go.Proofs.YtfbkkgfkhhibfaaGreat
open Go Go.RowKit Iv
set_option linter.unusedVariables false
end Go.Proofs.YtfbkkgfkhhibfaaGreat

/- The walk of the reference's checks (chapter 14). -/
namespace Go.Proofs.YtfbkkgfkhhibfaaGreat
open Go Go.RowKit Iv
set_option linter.unusedVariables false
end Go.Proofs.YtfbkkgfkhhibfaaGreat

/- The walk of the reference's Files (chapter 14). -/
namespace Go.Proofs.YtfbkkgfkhhibfaaGreat
open Go Go.RowKit Iv
set_option linter.unusedVariables false
end Go.Proofs.YtfbkkgfkhhibfaaGreat

/- A world that came in: words for its six slices. -/
namespace Go.Proofs.YtfbkkgfkhhibfaaGreat
open Go Go.RowKit Iv
set_option linter.unusedVariables false
structure In1 (w : World) (B sz bytes : Nat) (A : Option Addr) (n c : Nat) (X : List Value) : Prop where
  lies : Lies w B sz A n X
  none_ : A = none → c = 0
  one : ∀ u ∈ X, u.oneCell' = true
  cap : n ≤ maxLen
  bytes_ : n * bytes ≤ 140737488355328
theorem In1.grown {w w' : World} {B sz bytes n c : Nat} {A : Option Addr} {X : List Value} (h : In1 w B sz bytes A n c X) (hg : w.grownBy w' none) (hB : B ≤ w.heap.size) : In1 w' B sz bytes A n c X :=
  ⟨h.lies.grown hg hB (fun g e => nomatch e), h.none_, h.one, h.cap, h.bytes_⟩
def AtCell (X : List Value) (k : Nat) : Prop := ∃ (s : ByteArray) (a b : Int) (d : Bool) (e : Int), X[k * 5 + 0]? = some (.string s) ∧ X[k * 5 + 1]? = some (.int .i64 a) ∧ X[k * 5 + 2]? = some (.int .i64 b) ∧ X[k * 5 + 3]? = some (.bool d) ∧ X[k * 5 + 4]? = some (.int .i64 e)
def AtLock (X : List Value) (k : Nat) : Prop := ∃ (s : ByteArray) (d : Bool), X[k * 2 + 0]? = some (.string s) ∧ X[k * 2 + 1]? = some (.bool d)
def AtCond (X : List Value) (k : Nat) : Prop := ∃ (s : ByteArray) (a : Int), X[k * 2 + 0]? = some (.string s) ∧ X[k * 2 + 1]? = some (.int .i64 a)
def AtStr (X : List Value) (k : Nat) : Prop := ∃ (s : ByteArray), X[k * 1 + 0]? = some (.string s)
def AtSite (X : List Value) (k : Nat) : Prop := ∃ (a b e : Int), X[k * 3 + 0]? = some (.int .i64 a) ∧ X[k * 3 + 1]? = some (.int .i64 b) ∧ X[k * 3 + 2]? = some (.int .i64 e)
structure WIn (w : World) (B : Nat) (A0 : Option Addr) (n0 c0 : Nat) (X0 : List Value) (A1 : Option Addr) (n1 c1 : Nat) (X1 : List Value) (A2 : Option Addr) (n2 c2 : Nat) (X2 : List Value) (A3 : Option Addr) (n3 c3 : Nat) (X3 : List Value) (A4 : Option Addr) (n4 c4 : Nat) (X4 : List Value) (A5 : Option Addr) (n5 c5 : Nat) (X5 : List Value) : Prop where
  h0 : In1 w B 5 48 A0 n0 c0 X0
  h1 : In1 w B 2 24 A1 n1 c1 X1
  h2 : In1 w B 2 24 A2 n2 c2 X2
  h3 : In1 w B 1 16 A3 n3 c3 X3
  h4 : In1 w B 1 16 A4 n4 c4 X4
  h5 : In1 w B 3 24 A5 n5 c5 X5
  s0 : ∀ k, k < n0 → AtCell X0 k
  s1 : ∀ k, k < n1 → AtLock X1 k
  s2 : ∀ k, k < n2 → AtCond X2 k
  s3 : ∀ k, k < n3 → AtStr X3 k
  s4 : ∀ k, k < n4 → AtStr X4 k
  s5 : ∀ k, k < n5 → AtSite X5 k
  a0 : 0 < n0 → ∃ b o, A0 = some ⟨b, o, none⟩
  a1 : 0 < n1 → ∃ b o, A1 = some ⟨b, o, none⟩
  a2 : 0 < n2 → ∃ b o, A2 = some ⟨b, o, none⟩
  a3 : 0 < n3 → ∃ b o, A3 = some ⟨b, o, none⟩
  a4 : 0 < n4 → ∃ b o, A4 = some ⟨b, o, none⟩
  a5 : 0 < n5 → ∃ b o, A5 = some ⟨b, o, none⟩
theorem WIn.grown {w w' : World} {B : Nat} {A0 : Option Addr} {n0 c0 : Nat} {X0 : List Value} {A1 : Option Addr} {n1 c1 : Nat} {X1 : List Value} {A2 : Option Addr} {n2 c2 : Nat} {X2 : List Value} {A3 : Option Addr} {n3 c3 : Nat} {X3 : List Value} {A4 : Option Addr} {n4 c4 : Nat} {X4 : List Value} {A5 : Option Addr} {n5 c5 : Nat} {X5 : List Value} (h : WIn w B A0 n0 c0 X0 A1 n1 c1 X1 A2 n2 c2 X2 A3 n3 c3 X3 A4 n4 c4 X4 A5 n5 c5 X5) (hg : w.grownBy w' none) (hB : B ≤ w.heap.size) : WIn w' B A0 n0 c0 X0 A1 n1 c1 X1 A2 n2 c2 X2 A3 n3 c3 X3 A4 n4 c4 X4 A5 n5 c5 X5 :=
  ⟨h.h0.grown hg hB, h.h1.grown hg hB, h.h2.grown hg hB, h.h3.grown hg hB, h.h4.grown hg hB, h.h5.grown hg hB, h.s0, h.s1, h.s2, h.s3, h.s4, h.s5, h.a0, h.a1, h.a2, h.a3, h.a4, h.a5⟩
theorem In1.more {w : World} {B B' sz bytes n c : Nat} {A : Option Addr} {X : List Value} (h : In1 w B sz bytes A n c X) (hB : B ≤ B') : In1 w B' sz bytes A n c X := ⟨h.lies.more hB, h.none_, h.one, h.cap, h.bytes_⟩
theorem WIn.more {w : World} {B B' : Nat} {A0 : Option Addr} {n0 c0 : Nat} {X0 : List Value} {A1 : Option Addr} {n1 c1 : Nat} {X1 : List Value} {A2 : Option Addr} {n2 c2 : Nat} {X2 : List Value} {A3 : Option Addr} {n3 c3 : Nat} {X3 : List Value} {A4 : Option Addr} {n4 c4 : Nat} {X4 : List Value} {A5 : Option Addr} {n5 c5 : Nat} {X5 : List Value} (h : WIn w B A0 n0 c0 X0 A1 n1 c1 X1 A2 n2 c2 X2 A3 n3 c3 X3 A4 n4 c4 X4 A5 n5 c5 X5) (hB : B ≤ B') : WIn w B' A0 n0 c0 X0 A1 n1 c1 X1 A2 n2 c2 X2 A3 n3 c3 X3 A4 n4 c4 X4 A5 n5 c5 X5 :=
  ⟨h.h0.more hB, h.h1.more hB, h.h2.more hB, h.h3.more hB, h.h4.more hB, h.h5.more hB, h.s0, h.s1, h.s2, h.s3, h.s4, h.s5, h.a0, h.a1, h.a2, h.a3, h.a4, h.a5⟩
end Go.Proofs.YtfbkkgfkhhibfaaGreat

/- Words for the laws of chapter 14: a trace, a plan that is made. -/
namespace Go.Proofs.YtfbkkgfkhhibfaaGreat
open Go Go.RowKit Iv
set_option linter.unusedVariables false
set_option linter.unusedSimpArgs false
structure TrN (w : World) (m n : Nat) (A : Option Addr) (l : List Ev) : Prop where
  n1 : 1 ≤ n
  n4 : n ≤ 4
  len : l.length ≤ m
  evs : Evs w w.heap.size A l.length l
  ok : ∀ (k : Nat) e, l[k]? = some e → EvOk n k e
def TrcN (w : World) (B m : Nat) (e : Ending) (w' : World) : Prop := ∃ (A0 : Option Addr) (n0 c0 : Nat) (X0 : List Value) (A1 : Option Addr) (n1 c1 : Nat) (X1 : List Value) (A2 : Option Addr) (n2 c2 : Nat) (X2 : List Value) (A3 : Option Addr) (n3 c3 : Nat) (X3 : List Value) (A4 : Option Addr) (n4 c4 : Nat) (X4 : List Value) (A5 : Option Addr) (n5 c5 : Nat) (X5 : List Value) (A : Option Addr) (c : Nat) (l : List Ev), e = .returned (.agg #[.slice A0 n0 c0, .slice A1 n1 c1, .slice A2 n2 c2, .slice A3 n3 c3, .slice A4 n4 c4, .slice A5 n5 c5, .slice A l.length c]) ∧ l.length ≤ c ∧ TrN w' m n4 A l ∧ WIn w' w'.heap.size A0 n0 c0 X0 A1 n1 c1 X1 A2 n2 c2 X2 A3 n3 c3 X3 A4 n4 c4 X4 A5 n5 c5 X5 ∧ (∀ W' g, w'.grownBy W' (some g) → B ≤ g → g < w.heap.size → Evs W' w'.heap.size A l.length l ∧ WIn W' w'.heap.size A0 n0 c0 X0 A1 n1 c1 X1 A2 n2 c2 X2 A3 n3 c3 X3 A4 n4 c4 X4 A5 n5 c5 X5) ∧ w.grownBy w' none
structure PlnG (n : Nat) (p : Pln) : Prop where
  c1 : 1 ≤ p.cap
  c8 : p.cap ≤ 8
  s0 : 0 ≤ p.stop
  s1 : p.stop ≤ 255
  fl : p.flushes.length ≤ 20
  fk : ∀ f ∈ p.flushes, 0 ≤ f.1 ∧ f.1 ≤ 255 ∧ 0 ≤ f.2 ∧ f.2 < n
  cl : p.cuts.length ≤ n
  ck : ∀ k ∈ p.cuts, 0 ≤ k ∧ k ≤ 255
theorem made_good {l : List Ev} {n : Nat} {p : Pln} (h1 : 1 ≤ n) (h4 : n ≤ 4) (hp : PlnG n p) (hl : l.length ≤ 100) (he : ∀ (k : Nat) e, l[k]? = some e → EvOk n k e) : filesErr l n p = 0 := by
  have hpl : planOk n p = true := by
    have h1 := hp.c1
    have h2 := hp.c8
    have h3 := hp.s0
    have h5 := hp.cl
    unfold planOk planHead
    simp only [Bool.and_eq_true, decide_eq_true_eq, List.all_eq_true]
    refine ⟨⟨⟨⟨⟨⟨⟨by omega, by omega⟩, by omega⟩, by omega⟩, by omega⟩, fun f hf => ?_⟩, fun k hk => (hp.ck k hk).1⟩, by omega⟩
    have := hp.fk f hf
    unfold flushOk
    simp only [Bool.and_eq_true, decide_eq_true_eq]
    omega
  unfold filesErr
  rw [if_pos hpl, if_neg (by omega), if_pos]
  rw [List.all_eq_true]
  intro e hm
  obtain ⟨k, hk⟩ := List.mem_iff_getElem?.1 hm
  have h := he k e hk
  have hkl := (List.getElem?_eq_some_iff.1 hk).1
  have := h.th0
  have := h.thn
  have := h.dp.1
  have := h.fr.1
  unfold evOk
  simp only [Bool.and_eq_true, decide_eq_true_eq]
  omega
theorem made_fit {l : List Ev} {n : Nat} (h4 : n ≤ 4) (hl : l.length ≤ 100) (he : ∀ (k : Nat) e, l[k]? = some e → EvOk n k e) : ∀ e ∈ l, RecFit ⟨0, e⟩ := by
  intro e hm
  obtain ⟨k, hk⟩ := List.mem_iff_getElem?.1 hm
  have hkl := (List.getElem?_eq_some_iff.1 hk).1
  obtain ⟨h, _, _⟩ := (he k e hk).fit h4 (by omega)
  exact ⟨⟨by show (-9223372036854775808 : Int) ≤ 0; decide, by show (0 : Int) ≤ 9223372036854775807; decide⟩, h.thread, h.kind, h.obj, h.value, h.site, h.deps, h.from_⟩
theorem grown_row2 {w0 wr w4 : World} {o : Option Nat} (h : w0.grownBy wr none) (h4 : wr.grownBy w4 o) (ho : ∀ g, o = some g → w0.heap.size ≤ g) : w0.grownBy w4 none :=
  ⟨h4.os.trans h.os, h4.tape.trans h.tape, h4.output.trans h.output, Nat.le_trans h.size h4.size, fun k hk _ => (h4.block k (Nat.lt_of_lt_of_le hk h.size) (fun e => by have := ho k e.symm; omega)).trans (h.block k hk (fun e => nomatch e))⟩
theorem FilesAt.row {base thr gF g : Nat} {fs : Nat → Bytes} {vf : Nat → Value} {w w' : World} (h : FilesAt base thr gF fs vf w) (hg : w.grownBy w' (some g)) (hlt : g < base) : FilesAt base thr gF fs vf w' :=
  ⟨h.h.grown hg (fun e => by injection e with e; have := h.lo; omega), fun t ht => own_keep (h.own t ht) hg (fun q e hk => by injection hk with hk; have := ((h.own t ht).lt q e).1; omega), h.ap, h.lo, h.ne⟩
theorem plnG_nocut {n : Nat} {p : Pln} (h : PlnG n p) : PlnG n ⟨p.cap, p.flushes, p.stop, []⟩ := ⟨h.c1, h.c8, h.s0, h.s1, h.fl, h.fk, Nat.zero_le _, fun k hk => nomatch hk⟩
def TraceC : Prop := ∀ (w : World) (B : Nat) (A1 : Option Addr) (n1 c1 : Nat) (xs : Bytes) (hx : Lies w B 1 A1 n1 (xs.map bv)) (hc1 : n1 ≤ c1) (hn1 : n1 ≤ 1000) (ho1 : A1 = none → c1 = 0) (A2 : Option Addr) (m c2 : Nat) (ys : Bytes) (hy : Lies w B 1 A2 m (ys.map bv)) (hc2 : m ≤ c2) (hm : m ≤ 1000) (ho2 : A2 = none → c2 = 0),
    Calls Tryz.prog 9 #[.slice A1 n1 c1, .slice A2 m c2] w fun e w' => TrcN w B m e w'
def PlanC : Prop := ∀ (w : World) (n cap stop : Nat) (h1 : 1 ≤ n) (h4 : n ≤ 4) (hc : cap < 256) (hs : stop < 256) (A1 : Option Addr) (n1 c1 B1 : Nat) (xs : Bytes) (hx : Lies w B1 1 A1 n1 (xs.map bv)) (hc1 : n1 ≤ c1) (hm1 : c1 ≤ maxLen) (ho1 : A1 = none → c1 = 0) (A2 : Option Addr) (n2 c2 B2 : Nat) (ys : Bytes) (hy : Lies w B2 1 A2 n2 (ys.map bv)) (hc2 : n2 ≤ c2) (hm2 : c2 ≤ maxLen) (ho2 : A2 = none → c2 = 0),
    Calls Tryz.prog 10 #[.agg #[.int .u8 (cap : Int), .int .u8 (stop : Int), .slice A1 n1 c1, .slice A2 n2 c2], .int .i64 (n : Int)] w fun e w' =>
      ∃ (p : Pln) (Af : Option Addr) (cf : Nat) (Ac : Option Addr) (cc : Nat), e = .returned (.agg (planV p Af p.flushes.length cf Ac p.cuts.length cc)) ∧ PlnG n p ∧ Fls w' w'.heap.size Af p.flushes.length p.flushes ∧ Lies w' w'.heap.size 1 Ac p.cuts.length (p.cuts.map iv) ∧ w.grownBy w' none
end Go.Proofs.YtfbkkgfkhhibfaaGreat
