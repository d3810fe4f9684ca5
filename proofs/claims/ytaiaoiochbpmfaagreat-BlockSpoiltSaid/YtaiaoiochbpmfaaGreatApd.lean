/- append of one row that was just built, and of a whole slice: short words for the walk. -/
import Derived.Test.YtaiaoiochbpmfaaGreatSameY
namespace Iv
open Go Go.RowKit
set_option linter.unusedVariables false
def ElOk (P : Program) (t e : TypeId) (size bytes : Nat) : Prop := P.underlying t = some (.slice e) ∧ ∃ i z, P.info? e = some i ∧ i.zero = some z ∧ i.size = size ∧ i.bytes = bytes ∧ z.cells.size = size ∧ 0 < size ∧ bytes ≤ 1000
theorem elOk {P : Program} {t e : TypeId} {z : Value} {size bytes : Nat} (hu : P.underlying t = some (.slice e)) (h : (P.info? e).map (fun i => (i.zero, i.size, i.bytes)) = some (some z, size, bytes)) (hz : z.cells.size = size) (h0 : 0 < size) (hb : bytes ≤ 1000) : ElOk P t e size bytes := by
  obtain ⟨i, h1, h2, h3, h4⟩ := info_parts h
  exact ⟨hu, i, z, h1, h2, h3, h4, hz, h0, hb⟩
section
variable {P : Program} (w : World) {ops : Array Oper} {rest : List Oper} {o : Oper} {a : Act} {K : Act → World → Prop} {Q : Exit → Act → World → Prop} {E : Prop}
theorem list_joinW (s x : Operand) (t e : TypeId) (size bytes : Nat) (hel : ElOk P t e size bytes) (hg : o.guard = none)
    (hop : o.op = Op.call { callee := Callee.builtin Builtin.append, args := #[s, x], argTypes := #[t, t] })
    (base : Nat) (v : Value) (n : Nat) (xs : List Value) (hs : a.eval s = v) (hown : w.ownsRow base e size v n xs)
    (B : Nat) (A : Option Addr) (m c : Nat) (news : List Value) (hx : a.eval x = .slice A m c) (hr : Lies w B size A m news) (ho : A = none → c = 0) (h1 : ∀ u ∈ news, u.oneCell' = true)
    (h63 : n + m ≤ 100000000) (hbase : base ≤ w.heap.size)
    (hK : ∀ A' c' w', n + m ≤ c' → c' ≤ maxLen → w'.ownsRow base e size (.slice A' (n + m) c') (n + m) (xs ++ news) → w.grownBy w' v.ownBlock → At w v.ownBlock (Value.slice A' (n + m) c').ownBlock → wpList P ops Q rest (a.put o.dst (.slice A' (n + m) c')) w') :
    wpList P ops Q (o :: rest) a w := by
  obtain ⟨hu, i, z, q1, q2, q3, q4, q5, q6, q7⟩ := hel
  refine wpList_join w hg s x t hop base e i z size bytes hu q1 q2 q3 q4 q5 q6 v n xs hs hown B A m c news hx hr ho h1 (by unfold maxLen; omega) ?_ hbase (fun v' w' r1 r2 r3 => ?_)
  · have : (n + m) * bytes ≤ 100000000 * 1000 := Nat.mul_le_mul h63 q7
    omega
  · obtain ⟨A', c', rfl, k1, k2, _⟩ := own_slice r1
    exact hK A' c' w' k1 k2 r1 r2 r3
end
end Iv
