/- How a record that came in by value reads. -/
import Derived.Test.YtlofjhcjjcohfaaOpen
import Derived.Test.YtlofjhcjjcohfaaRecI
namespace Go.Proofs.Ytlofjhcjjcohfaa
open Go Go.RowKit Go.ChangeShapes Go.WideShapes Go.ChangeAt Iv
set_option linter.unusedVariables false

section
variable {H : Type} {enc : TypeId × Value → H} {W : World} {held : Bool}

theorem cells_int : Try.prog.cellsOf 3 = 1 := by kernel_rfl
theorem cells_int64 : Try.prog.cellsOf 2 = 1 := by kernel_rfl
theorem cells_ints : Try.prog.cellsOf 22 = 1 := by kernel_rfl
theorem cells_event : Try.prog.cellsOf 24 = 7 := by kernel_rfl
theorem cells_record : Try.prog.cellsOf 26 = 8 := by kernel_rfl

set_option maxRecDepth 100000 in
theorem open_event_cells {fuel : Nat} {cs : List Value} {x : DataW H × List MemPlace} (hl : cs.length = 7) (h : DataW.trod enc Try.prog W 0 (fun _ => true) held fuel 24 cs = some x) :
    ∃ (e : Ev) (Ad : Option Addr) (nd cd : Nat) (Af : Option Addr) (nf cf : Nat), cs = [.int .i64 e.thread, .int .i64 e.kind, .int .i64 e.obj, .int .i64 e.value, .int .i64 e.site, .slice Ad nd cd, .slice Af nf cf] ∧
      (inI64 e.thread ∧ inI64 e.kind ∧ inI64 e.obj ∧ inI64 e.value ∧ inI64 e.site ∧ allI64 e.deps ∧ allI64 e.from_) ∧
      Lies W W.heap.size 1 Ad nd (e.deps.map iv) ∧ Lies W W.heap.size 1 Af nf (e.from_.map iv) ∧ (nd ≤ cd ∧ cd ≤ maxLen ∧ (Ad = none → cd = 0)) ∧ (nf ≤ cf ∧ cf ≤ maxLen ∧ (Af = none → cf = 0)) := by
  obtain ⟨xs, n, _, _, _, hxl, hg⟩ := DataW.trod_struct Try.underlying24 h
  match cs, hl, xs, hxl with
  | [c0, c1, c2, c3, c4, c5, c6], _, [y0, y1, y2, y3, y4, y5, y6], _ =>
    have g0 := hg 0 _ rfl
    have g1 := hg 1 _ rfl
    have g2 := hg 2 _ rfl
    have g3 := hg 3 _ rfl
    have g4 := hg 4 _ rfl
    have g5 := hg 5 _ rfl
    have g6 := hg 6 _ rfl
    simp only [cells_int, cells_int64, cells_ints, List.getElem_toArray, List.getElem_cons_zero, List.getElem_cons_succ, List.drop_zero, List.drop_succ_cons, List.take_succ_cons, List.take_zero, List.getElem?_cons_zero, List.getElem?_cons_succ] at g0 g1 g2 g3 g4 g5 g6
    obtain ⟨a0, e0, i0⟩ := trod_i64 Try.underlying3 g0
    obtain ⟨a1, e1, i1⟩ := trod_i64 Try.underlying3 g1
    obtain ⟨a2, e2, i2⟩ := trod_i64 Try.underlying3 g2
    obtain ⟨a3, e3, i3⟩ := trod_i64 Try.underlying2 g3
    obtain ⟨a4, e4, i4⟩ := trod_i64 Try.underlying3 g4
    obtain ⟨A5, n5, k5, l5, e5, b5, u5, v5, o5, q5⟩ := open_intlist Try.underlying22 Try.underlying3 cells_int g5
    obtain ⟨A6, n6, k6, l6, e6, b6, u6, v6, o6, q6⟩ := open_intlist Try.underlying22 Try.underlying3 cells_int g6
    simp only [List.cons.injEq, and_true] at e0 e1 e2 e3 e4 e5 e6
    subst e0 e1 e2 e3 e4 e5 e6
    exact ⟨⟨a0, a1, a2, a3, a4, l5, l6⟩, A5, n5, k5, A6, n6, k6, rfl, ⟨i0, i1, i2, i3, i4, q5, q6⟩, b5, b6, ⟨u5, v5, o5⟩, ⟨u6, v6, o6⟩⟩

set_option maxRecDepth 100000 in
theorem open_rec_cells {fuel : Nat} {cs : List Value} {x : DataW H × List MemPlace} (hl : cs.length = 8) (h : DataW.trod enc Try.prog W 0 (fun _ => true) held fuel 26 cs = some x) :
    ∃ (r : Rec) (Ad : Option Addr) (nd cd : Nat) (Af : Option Addr) (nf cf : Nat), cs = (recV r Ad nd cd Af nf cf).toList ∧ RecIn W r Ad nd cd Af nf cf := by
  obtain ⟨xs, n, _, _, _, hxl, hg⟩ := DataW.trod_struct Try.underlying26 h
  match cs, hl, xs, hxl with
  | c0 :: cs', hl, [y0, y1], _ =>
    have g0 := hg 0 _ rfl
    have g1 := hg 1 _ rfl
    simp only [cells_int, cells_event, List.getElem_toArray, List.getElem_cons_zero, List.getElem_cons_succ, List.drop_zero, List.drop_succ_cons, List.take_succ_cons, List.take_zero, List.getElem?_cons_zero, List.getElem?_cons_succ] at g0 g1
    have hl' : cs'.length = 7 := by simpa using hl
    rw [List.take_of_length_le (by omega)] at g1
    obtain ⟨a0, e0, i0⟩ := trod_i64 Try.underlying3 g0
    simp only [List.cons.injEq, and_true] at e0
    subst e0
    obtain ⟨e, Ad, nd, cd, Af, nf, cf, rfl, ⟨j0, j1, j2, j3, j4, j5, j6⟩, ld, lf, hd, hf⟩ := open_event_cells hl' g1
    exact ⟨⟨a0, e⟩, Ad, nd, cd, Af, nf, cf, rfl, ⟨i0, j0, j1, j2, j3, j4, j5, j6, ld, lf, hd, hf⟩⟩

set_option maxRecDepth 100000 in
theorem open_rec {v : Value} {d : DataW H} {p : List MemPlace} {base : Nat} (hv : Value.okWide Try.prog W .any base 26 v) (h : DataW.Trod enc Try.prog W 0 (fun _ => true) held 26 v d p) :
    ∃ (r : Rec) (Ad : Option Addr) (nd cd : Nat) (Af : Option Addr) (nf cf : Nat), v = .agg (recV r Ad nd cd Af nf cf) ∧ RecIn W r Ad nd cd Af nf cf := by
  obtain ⟨cs, rfl, hsz⟩ := okWide_struct Try.underlying26 hv
  obtain ⟨fuel, hf⟩ := h
  rw [cells_record] at hsz
  obtain ⟨r, Ad, nd, cd, Af, nf, cf, e, hr⟩ := open_rec_cells (by simpa [Value.cells] using hsz) hf
  refine ⟨r, Ad, nd, cd, Af, nf, cf, ?_, hr⟩
  congr 1
  exact Array.toList_inj.1 e
end
end Go.Proofs.Ytlofjhcjjcohfaa
