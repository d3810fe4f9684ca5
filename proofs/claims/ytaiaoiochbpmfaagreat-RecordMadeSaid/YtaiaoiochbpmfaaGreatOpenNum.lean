/- How a record that came in by value reads. -/
import Derived.Test.YtaiaoiochbpmfaaGreatSameY
import Derived.Test.YtaiaoiochbpmfaaGreatAllow
import Derived.Test.YtaiaoiochbpmfaaGreatEnc
namespace Go.Proofs.YtaiaoiochbpmfaaGreat
open Go Go.RowKit Go.ChangeShapes Go.WideShapes Go.ChangeAt Iv
set_option linter.unusedVariables false
section
variable {H : Type} {enc : TypeId × Value → H} {W : World} {held : Bool}
end
end Go.Proofs.YtaiaoiochbpmfaaGreat

/- How a slice of records and a block that came in read. -/
namespace Go.Proofs.YtaiaoiochbpmfaaGreat
open Go Go.RowKit Go.ChangeShapes Go.WideShapes Go.ChangeAt Iv
set_option linter.unusedVariables false
section
variable {H : Type} {enc : TypeId × Value → H} {W : World} {held : Bool}
end
end Go.Proofs.YtaiaoiochbpmfaaGreat

/- How the numbers of a plan that came in read. -/
namespace Go.Proofs.YtaiaoiochbpmfaaGreat
open Go Go.RowKit Go.ChangeShapes Go.WideShapes Go.ChangeAt Iv
set_option linter.unusedVariables false
theorem cells_numbers : Tryz.prog.cellsOf 24 = 4 := by kernel_rfl
theorem cells_u8 : Tryz.prog.cellsOf 5 = 1 := by kernel_rfl
theorem cells_bytes : Tryz.prog.cellsOf 22 = 1 := by kernel_rfl
section
variable {H : Type} {enc : TypeId × Value → H} {W : World} {held : Bool}
set_option maxRecDepth 100000 in
theorem open_numbers {v : Value} {d : DataW H} {p : List MemPlace} {base : Nat} (hv : Value.okWide Tryz.prog W .any base 24 v) (h : DataW.Trod enc Tryz.prog W 0 (fun _ => true) held 24 v d p) :
    ∃ (a b : Int) (A1 : Option Addr) (n1 c1 : Nat) (xs : Bytes) (A2 : Option Addr) (n2 c2 : Nat) (ys : Bytes), v = .agg #[.int .u8 a, .int .u8 b, .slice A1 n1 c1, .slice A2 n2 c2] ∧ (0 ≤ a ∧ a ≤ 255) ∧ (0 ≤ b ∧ b ≤ 255) ∧ (Lies W W.heap.size 1 A1 n1 (xs.map bv) ∧ n1 ≤ c1 ∧ c1 ≤ maxLen) ∧ (Lies W W.heap.size 1 A2 n2 (ys.map bv) ∧ n2 ≤ c2 ∧ c2 ≤ maxLen) := by
  obtain ⟨cs, rfl, hsz⟩ := okWide_struct Tryz.underlying24 hv
  obtain ⟨fuel, hf⟩ := h
  rw [cells_numbers] at hsz
  obtain ⟨xs, n, _, _, _, hxl, hg⟩ := DataW.trod_struct Tryz.underlying24 hf
  obtain ⟨l⟩ := cs
  match l, hsz, xs, hxl with
  | [c0, c1, c2, c3], _, [y0, y1, y2, y3], _ =>
    have g0 := hg 0 _ rfl
    have g1 := hg 1 _ rfl
    have g2 := hg 2 _ rfl
    have g3 := hg 3 _ rfl
    simp only [Value.cells, cells_u8, cells_bytes, List.getElem_toArray, List.getElem_cons_zero, List.getElem_cons_succ, List.drop_zero, List.drop_succ_cons, List.take_succ_cons, List.take_zero, List.getElem?_cons_zero, List.getElem?_cons_succ] at g0 g1 g2 g3
    obtain ⟨a0, e0, _, w0⟩ := DataW.trod_int Tryz.underlying5 g0
    obtain ⟨a1, e1, _, w1⟩ := DataW.trod_int Tryz.underlying5 g1
    obtain ⟨A2, n2, k2, x2, e2, l2, u2, v2, _⟩ := open_bytes Tryz.underlying22 Tryz.underlying5 cells_u8 g2
    obtain ⟨A3, n3, k3, x3, e3, l3, u3, v3, _⟩ := open_bytes Tryz.underlying22 Tryz.underlying5 cells_u8 g3
    simp only [List.cons.injEq, and_true] at e0 e1 e2 e3
    subst e0 e1 e2 e3
    exact ⟨a0, a1, A2, n2, k2, x2, A3, n3, k3, x3, rfl, fits_u8 w0, fits_u8 w1, ⟨l2, u2, v2⟩, ⟨l3, u3, v3⟩⟩
end
end Go.Proofs.YtaiaoiochbpmfaaGreat
