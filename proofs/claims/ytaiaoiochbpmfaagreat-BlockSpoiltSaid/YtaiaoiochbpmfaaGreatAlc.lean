/- A chain of new blocks, told at once. -/
import Derived.Test.YtaiaoiochbpmfaaGreatMm
namespace Iv
open Go Go.RowKit
set_option linter.unusedVariables false
theorem al1 {w W : World} {a0 : Array Value} {t0 : TypeId} (h : W = (w.alloc (.cells a0 t0))) : w.grownBy W none ∧ Held W (w.heap.size) t0 a0 ∧ W.heap.size = w.heap.size + 1 := by
  subst h
  exact ⟨World.grownBy_alloc _ _ none, Held.new _ _ _, by simp⟩
theorem st2 {w : World} {g : Nat} {t : TypeId} {z0 z1 : Value} (h : Held w g t #[z0, z1]) (u0 u1 : Value) : Held ((w.setCell ⟨g, 0, none⟩ u0).setCell ⟨g, 1, none⟩ u1) g t #[u0, u1] ∧ w.grownBy ((w.setCell ⟨g, 0, none⟩ u0).setCell ⟨g, 1, none⟩ u1) (some g) := by
  have h1 : Held (w.setCell ⟨g, 0, none⟩ u0) g t #[u0, z1] := h.store 0 _
  have h2 : Held ((w.setCell ⟨g, 0, none⟩ u0).setCell ⟨g, 1, none⟩ u1) g t #[u0, u1] := h1.store 1 _
  refine ⟨h2, ?_⟩
  have g0 := World.grownBy.refl w (some g)
  have g1 := grown_then g0 (grown_store w g 0 u0)
  have g2 := grown_then g1 (grown_store (w.setCell ⟨g, 0, none⟩ u0) g 1 u1)
  exact g2
theorem st3 {w : World} {g : Nat} {t : TypeId} {z0 z1 z2 : Value} (h : Held w g t #[z0, z1, z2]) (u0 u1 u2 : Value) : Held (((w.setCell ⟨g, 0, none⟩ u0).setCell ⟨g, 1, none⟩ u1).setCell ⟨g, 2, none⟩ u2) g t #[u0, u1, u2] ∧ w.grownBy (((w.setCell ⟨g, 0, none⟩ u0).setCell ⟨g, 1, none⟩ u1).setCell ⟨g, 2, none⟩ u2) (some g) := by
  have h1 : Held (w.setCell ⟨g, 0, none⟩ u0) g t #[u0, z1, z2] := h.store 0 _
  have h2 : Held ((w.setCell ⟨g, 0, none⟩ u0).setCell ⟨g, 1, none⟩ u1) g t #[u0, u1, z2] := h1.store 1 _
  have h3 : Held (((w.setCell ⟨g, 0, none⟩ u0).setCell ⟨g, 1, none⟩ u1).setCell ⟨g, 2, none⟩ u2) g t #[u0, u1, u2] := h2.store 2 _
  refine ⟨h3, ?_⟩
  have g0 := World.grownBy.refl w (some g)
  have g1 := grown_then g0 (grown_store w g 0 u0)
  have g2 := grown_then g1 (grown_store (w.setCell ⟨g, 0, none⟩ u0) g 1 u1)
  have g3 := grown_then g2 (grown_store ((w.setCell ⟨g, 0, none⟩ u0).setCell ⟨g, 1, none⟩ u1) g 2 u2)
  exact g3
theorem st4 {w : World} {g : Nat} {t : TypeId} {z0 z1 z2 z3 : Value} (h : Held w g t #[z0, z1, z2, z3]) (u0 u1 u2 u3 : Value) : Held ((((w.setCell ⟨g, 0, none⟩ u0).setCell ⟨g, 1, none⟩ u1).setCell ⟨g, 2, none⟩ u2).setCell ⟨g, 3, none⟩ u3) g t #[u0, u1, u2, u3] ∧ w.grownBy ((((w.setCell ⟨g, 0, none⟩ u0).setCell ⟨g, 1, none⟩ u1).setCell ⟨g, 2, none⟩ u2).setCell ⟨g, 3, none⟩ u3) (some g) := by
  have h1 : Held (w.setCell ⟨g, 0, none⟩ u0) g t #[u0, z1, z2, z3] := h.store 0 _
  have h2 : Held ((w.setCell ⟨g, 0, none⟩ u0).setCell ⟨g, 1, none⟩ u1) g t #[u0, u1, z2, z3] := h1.store 1 _
  have h3 : Held (((w.setCell ⟨g, 0, none⟩ u0).setCell ⟨g, 1, none⟩ u1).setCell ⟨g, 2, none⟩ u2) g t #[u0, u1, u2, z3] := h2.store 2 _
  have h4 : Held ((((w.setCell ⟨g, 0, none⟩ u0).setCell ⟨g, 1, none⟩ u1).setCell ⟨g, 2, none⟩ u2).setCell ⟨g, 3, none⟩ u3) g t #[u0, u1, u2, u3] := h3.store 3 _
  refine ⟨h4, ?_⟩
  have g0 := World.grownBy.refl w (some g)
  have g1 := grown_then g0 (grown_store w g 0 u0)
  have g2 := grown_then g1 (grown_store (w.setCell ⟨g, 0, none⟩ u0) g 1 u1)
  have g3 := grown_then g2 (grown_store ((w.setCell ⟨g, 0, none⟩ u0).setCell ⟨g, 1, none⟩ u1) g 2 u2)
  have g4 := grown_then g3 (grown_store (((w.setCell ⟨g, 0, none⟩ u0).setCell ⟨g, 1, none⟩ u1).setCell ⟨g, 2, none⟩ u2) g 3 u3)
  exact g4
end Iv
