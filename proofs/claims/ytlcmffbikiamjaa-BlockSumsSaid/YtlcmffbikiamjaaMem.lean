/- Words for memory: a slice that reads as a list of values; what can be appended to. Own texts of this claim; the model's words stand behind them. -/
import Derived.Below
import Derived.Laws.OwnMore
import Derived.Deep.AppendLies
import Derived.Deep.Draws
import Derived.Maps.AppendAt
import Derived.RegionTactic
import Derived.OwnWalk
import Derived.ArgAppend
import Derived.WalkKit
import Derived.Lib.Hide
namespace Iv
open Go Go.RowKit

theorem addBlock (a : Addr) (n : Nat) : (a.add n).block = a.block := by
  unfold Addr.add
  by_cases h : n = 0 <;> simp [h]

/-- The slice value '.slice A n c' holds the cells xs (sz cells an element), all below block B. -/
def Lies (w : World) (B sz : Nat) (A : Option Addr) (n : Nat) (xs : List Value) : Prop :=
  xs.length = n * sz ∧ (0 < n → ∃ ad, A = some ad ∧ ad.block < B ∧ ∀ j u, xs[j]? = some u → w.cell? (ad.add j) = some u)

section
variable {w w' : World} {B B' sz n : Nat} {A : Option Addr} {xs : List Value}
theorem Lies.nil : Lies w B sz none 0 [] := ⟨by simp, fun h => absurd h (by omega)⟩
theorem Lies.cellAt {k : Nat} (h : Lies w B 1 A n xs) (hk : k < n) : ∃ ad u, A = some ad ∧ ad.block < B ∧ xs[k]? = some u ∧ w.cell? (ad.add k) = some u := by
  obtain ⟨ad, e, hb, hc⟩ := h.2 (by omega)
  have hl : k < xs.length := by have := h.1; omega
  exact ⟨ad, xs[k], e, hb, List.getElem?_eq_getElem hl, hc k _ (List.getElem?_eq_getElem hl)⟩
theorem Lies.same (h : Lies w B sz A n xs) (hk : ∀ p : Addr, p.block < B → w'.cell? p = w.cell? p) : Lies w' B sz A n xs :=
  ⟨h.1, fun hn => by
    obtain ⟨ad, e, hb, hc⟩ := h.2 hn
    exact ⟨ad, e, hb, fun j u hu => (hk _ (by rw [addBlock]; exact hb)).trans (hc j u hu)⟩⟩
theorem Lies.more (h : Lies w B sz A n xs) (hB : B ≤ B') : Lies w B' sz A n xs :=
  ⟨h.1, fun hn => by
    obtain ⟨ad, e, hb, hc⟩ := h.2 hn
    exact ⟨ad, e, by omega, hc⟩⟩
theorem Lies.below (h : Lies w B sz A n xs) (hb : Below B w w') : Lies w' B sz A n xs := h.same fun _ hp => hb.cell hp
theorem Lies.drew (h : Lies w B sz A n xs) : Lies w.drew B sz A n xs := h
theorem Lies.drewN (h : Lies w B sz A n xs) (k : Nat) : Lies (w.drewN k) B sz A n xs := h
theorem Lies.alloc (h : Lies w B sz A n xs) (hB : B ≤ w.heap.size) (o : Obj) : Lies (w.alloc o) B sz A n xs := h.same fun p hp => World.cell?_alloc_lt w o p (by omega)
theorem Lies.grown (h : Lies w B sz A n xs) {row : Option Nat} (hg : w.grownBy w' row) (hB : B ≤ w.heap.size) (hr : ∀ g, row = some g → B ≤ g) : Lies w' B sz A n xs :=
  h.same fun p hp => World.cell?_of_block (hg.block p.block (by omega) (fun e => by have := hr _ e.symm; omega))
end
end Iv
