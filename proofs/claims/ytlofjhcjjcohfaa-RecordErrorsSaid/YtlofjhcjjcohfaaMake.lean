/- append of a whole slice onto a row of the call's own, the source nil, empty or not. -/
import Derived.Test.YtlofjhcjjcohfaaMem
namespace Iv
open Go Go.RowKit

section
variable {P : Program} (w : World)
theorem run_join (base : Nat) (t ty e : TypeId) (i : TypeInfo) (z : Value) (size bytes : Nat) (ht : P.underlying t = some (.slice e)) (hi : P.info? e = some i) (hz : i.zero = some z)
    (hsize : i.size = size) (hby : i.bytes = bytes) (hzs : z.cells.size = size) (hsz : 0 < size)
    (v : Value) (n : Nat) (xs : List Value) (hown : w.ownsRow base e size v n xs)
    (B : Nat) (A : Option Addr) (m c : Nat) (news : List Value) (hr : Lies w B size A m news) (ho : A = none → c = 0) (h1 : ∀ u ∈ news, u.oneCell' = true)
    (h63 : n + m ≤ maxLen) (hbytes : (n + m) * bytes ≤ 140737488355328) (hbase : base ≤ w.heap.size) :
    ∃ v' w', (Builtin.append_ #[t, t] ty #[v, .slice A m c]).run P w = .ok v' w' ∧ w'.ownsRow base e size v' (n + m) (xs ++ news) ∧ w.grownBy w' v.ownBlock ∧ At w v.ownBlock v'.ownBlock := by
  cases A with
  | none =>
    have hm : m = 0 := by
      rcases Nat.eq_zero_or_pos m with h0 | h0
      · exact h0
      · obtain ⟨ad, h, _⟩ := hr.2 h0
        cases h
    subst hm
    obtain rfl := ho rfl
    have hn : news = [] := List.eq_nil_of_length_eq_zero (by simpa using hr.1)
    subst hn
    exact ⟨v, w, run_append_owned_none (P := P) (w := w) base t ty e i size ht hi v n xs hown, by simpa using hown, World.grownBy.refl w _, .inl rfl⟩
  | some ad =>
    have hc : ∀ j u, news[j]? = some u → w.cell? (ad.add j) = some u := by
      intro j u hu
      rcases Nat.eq_zero_or_pos m with h0 | h0
      · subst h0
        have hn : news = [] := List.eq_nil_of_length_eq_zero (by simpa using hr.1)
        subst hn
        simp at hu
      · obtain ⟨ad', h, _, hc⟩ := hr.2 h0
        injection h with h
        subst h
        exact hc j u hu
    obtain ⟨v', w', hr', h2, h3, _, h5⟩ := run_append_own_at (P := P) w base t ty e i z size bytes ht hi hz hsize hby hzs hsz v n xs hown ad m c news hr.1 hc h1 h63 hbytes hbase
    refine ⟨v', w', hr', h2, h3, ?_⟩
    rcases h5 with h5 | h5
    · exact .inl h5
    · exact .inr ⟨_, h5, Nat.le_refl _⟩

theorem wpList_join {ops : Array Oper} {rest : List Oper} {o : Oper} {a : Act} {Q : Exit → Act → World → Prop} (hg : o.guard = none) (s x : Operand) (t : TypeId)
    (hop : o.op = Op.call { callee := Callee.builtin Builtin.append, args := #[s, x], argTypes := #[t, t] })
    (base : Nat) (e : TypeId) (i : TypeInfo) (z : Value) (size bytes : Nat) (ht : P.underlying t = some (.slice e)) (hi : P.info? e = some i) (hz : i.zero = some z)
    (hsize : i.size = size) (hby : i.bytes = bytes) (hzs : z.cells.size = size) (hsz : 0 < size)
    (v : Value) (n : Nat) (xs : List Value) (hs : a.eval s = v) (hown : w.ownsRow base e size v n xs)
    (B : Nat) (A : Option Addr) (m c : Nat) (news : List Value) (hx : a.eval x = .slice A m c) (hr : Lies w B size A m news) (ho : A = none → c = 0) (h1 : ∀ u ∈ news, u.oneCell' = true)
    (h63 : n + m ≤ maxLen) (hbytes : (n + m) * bytes ≤ 140737488355328) (hbase : base ≤ w.heap.size)
    (hK : ∀ v' w', w'.ownsRow base e size v' (n + m) (xs ++ news) → w.grownBy w' v.ownBlock → At w v.ownBlock v'.ownBlock → wpList P ops Q rest (a.put o.dst v') w') :
    wpList P ops Q (o :: rest) a w := by
  refine wpList_plain hg fun K hK' => ?_
  obtain ⟨v', w', hrun, r1, r2, r3⟩ := run_join (P := P) w base t o.type e i z size bytes ht hi hz hsize hby hzs hsz v n xs hown B A m c news hr ho h1 h63 hbytes hbase
  unfold Oper.wp
  simp [execOp, hop, resolve, invoke, builtin, hs, hx, hrun, Result.andThen]
  exact hK' _ _ (hK v' w' r1 r2 r3)
end

/-- '[]T{}': a row of the call's own without elements. -/
theorem ownsRow_empty (w : World) (base : Nat) (e : TypeId) (sz : Nat) (hb : base ≤ w.heap.size) : (w.alloc (.cells #[] e)).ownsRow base e sz (.slice (some ⟨w.heap.size, 0, none⟩) 0 0) 0 [] :=
  World.ownsRow_made w #[] 0 hb (Nat.zero_le _) (by simp)
theorem Lies.allocAny {w : World} {B sz n : Nat} {A : Option Addr} {xs : List Value} (h : Lies w B sz A n xs) (o : Obj) : Lies (w.alloc o) B sz A n xs := by
  refine ⟨h.1, fun hn => ?_⟩
  obtain ⟨ad, ha, hb, hc⟩ := h.2 hn
  exact ⟨ad, ha, hb, fun j u hu => (World.cell?_alloc_lt w o _ (World.block_lt_of_cell? w _ (hc j u hu))).trans (hc j u hu)⟩
theorem grown_ofNew {w w' : World} {ob : Obj} {g : Nat} (h : (w.alloc ob).grownBy w' (some g)) (hg : w.heap.size ≤ g) (o : Option Nat) : w.grownBy w' o := by
  refine ⟨h.os, h.tape, h.output, ?_, fun k hk _ => ?_⟩
  · have := h.size
    simp at this
    omega
  · refine (h.block k (by simp; omega) ?_).trans (Below.heap_alloc w ob k hk)
    intro e
    injection e with e
    omega
theorem At.ofNew {w : World} {ob : Obj} {g : Nat} {o' : Option Nat} (h : At (w.alloc ob) (some g) o') (hg : w.heap.size ≤ g) : At w none o' := by
  rcases h with rfl | ⟨g', rfl, hg'⟩
  · exact .inr ⟨g, rfl, hg⟩
  · exact .inr ⟨g', rfl, by simp at hg'; omega⟩
/-- Block g is just these cells, of that type. -/
def Held (w : World) (g : Nat) (t : TypeId) (cs : Array Value) : Prop := w.heap[g]? = some (.cells cs t (0, 0))
section
variable {w w' : World} {g : Nat} {t : TypeId} {cs : Array Value}
theorem Held.lt (h : Held w g t cs) : g < w.heap.size := (Array.getElem?_eq_some_iff.1 h).1
theorem Held.cell (h : Held w g t cs) (i : Nat) : w.cell? ⟨g, i, none⟩ = cs[i]? := cell_of_row w g i cs t (0, 0) h
theorem Held.free (h : Held w g t cs) (i : Nat) : w.frozen? ⟨g, i, none⟩ = false := by
  unfold Held at h
  simp [World.frozen?, h]
theorem Held.new (w : World) (t : TypeId) (cs : Array Value) : Held (w.alloc (.cells cs t)) w.heap.size t cs := heap_alloc_new w _
theorem Held.drew (h : Held w g t cs) : Held w.drew g t cs := h
theorem Held.drewN (h : Held w g t cs) (n : Nat) : Held (w.drewN n) g t cs := h
theorem Held.alloc (h : Held w g t cs) (o : Obj) : Held (w.alloc o) g t cs := (Below.heap_alloc w o g h.lt).trans h
theorem Held.store (h : Held w g t cs) (i : Nat) (u : Value) : Held (w.setCell ⟨g, i, none⟩ u) g t (cs.setIfInBounds i u) := by
  unfold Held at h ⊢
  simp [World.setCell, Array.getElem?_modify, h]
theorem Held.far (h : Held w g t cs) {p : Addr} (hp : g ≠ p.block) (u : Value) : Held (w.setCell p u) g t cs := (Below.heap_setCell w p u g hp).trans h
theorem Held.grown {row : Option Nat} (h : Held w g t cs) (hb : w.grownBy w' row) (hg : some g ≠ row) : Held w' g t cs := (hb.block g h.lt hg).trans h
end
theorem grown_store (w : World) (g i : Nat) (u : Value) : w.grownBy (w.setCell ⟨g, i, none⟩ u) (some g) :=
  ⟨rfl, rfl, rfl, by simp [World.setCell], fun k hk hne => Below.heap_setCell w ⟨g, i, none⟩ u k (fun e => hne (by rw [e]))⟩
theorem grown_then {a b c : World} {o : Option Nat} (h : a.grownBy b o) (h' : b.grownBy c o) : a.grownBy c o := grownBy_trans h h' (.inl rfl)
theorem grown_toDrew {a b : World} {o : Option Nat} (h : a.grownBy b o) : a.grownBy b.drew o := ⟨h.os, h.tape, h.output, h.size, h.block⟩
theorem grown_toDrewN {a b : World} {o : Option Nat} (h : a.grownBy b o) (n : Nat) : a.grownBy (b.drewN n) o := ⟨h.os, h.tape, h.output, h.size, h.block⟩
end Iv
