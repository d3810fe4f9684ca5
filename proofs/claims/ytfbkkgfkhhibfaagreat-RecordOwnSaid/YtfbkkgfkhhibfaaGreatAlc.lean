/- Words for memory: a slice that reads as a list of values; what can be appended to. Own texts of this claim; the model's words stand behind them. -/
import Derived.Below
import Derived.Laws.OwnMore
import Derived.Deep.AppendLies
import Derived.Deep.Draws
import Derived.Maps.AppendAt
import Derived.RegionTactic
import Derived.OwnWalk
import Derived.ArgAppend
import Derived.WalkKit
import Derived.Lib.Hide
namespace Iv
open Go Go.RowKit
theorem addBlock (a : Addr) (n : Nat) : (a.add n).block = a.block := by
  unfold Addr.add
  by_cases h : n = 0 <;> simp [h]
def Lies (w : World) (B sz : Nat) (A : Option Addr) (n : Nat) (xs : List Value) : Prop :=
  xs.length = n * sz ∧ (0 < n → ∃ ad, A = some ad ∧ ad.block < B ∧ ∀ j u, xs[j]? = some u → w.cell? (ad.add j) = some u)
section
variable {w w' : World} {B B' sz n : Nat} {A : Option Addr} {xs : List Value}
theorem Lies.nil : Lies w B sz none 0 [] := ⟨by simp, fun h => absurd h (by omega)⟩
theorem Lies.cellAt {k : Nat} (h : Lies w B 1 A n xs) (hk : k < n) : ∃ ad u, A = some ad ∧ ad.block < B ∧ xs[k]? = some u ∧ w.cell? (ad.add k) = some u := by
  obtain ⟨ad, e, hb, hc⟩ := h.2 (by omega)
  have hl : k < xs.length := by have := h.1; omega
  exact ⟨ad, xs[k], e, hb, List.getElem?_eq_getElem hl, hc k _ (List.getElem?_eq_getElem hl)⟩
theorem Lies.same (h : Lies w B sz A n xs) (hk : ∀ p : Addr, p.block < B → w'.cell? p = w.cell? p) : Lies w' B sz A n xs :=
  ⟨h.1, fun hn => by
    obtain ⟨ad, e, hb, hc⟩ := h.2 hn
    exact ⟨ad, e, hb, fun j u hu => (hk _ (by rw [addBlock]; exact hb)).trans (hc j u hu)⟩⟩
theorem Lies.more (h : Lies w B sz A n xs) (hB : B ≤ B') : Lies w B' sz A n xs :=
  ⟨h.1, fun hn => by
    obtain ⟨ad, e, hb, hc⟩ := h.2 hn
    exact ⟨ad, e, by omega, hc⟩⟩
theorem Lies.below (h : Lies w B sz A n xs) (hb : Below B w w') : Lies w' B sz A n xs := h.same fun _ hp => hb.cell hp
theorem Lies.drew (h : Lies w B sz A n xs) : Lies w.drew B sz A n xs := h
theorem Lies.drewN (h : Lies w B sz A n xs) (k : Nat) : Lies (w.drewN k) B sz A n xs := h
theorem Lies.alloc (h : Lies w B sz A n xs) (hB : B ≤ w.heap.size) (o : Obj) : Lies (w.alloc o) B sz A n xs := h.same fun p hp => World.cell?_alloc_lt w o p (by omega)
theorem Lies.grown (h : Lies w B sz A n xs) {row : Option Nat} (hg : w.grownBy w' row) (hB : B ≤ w.heap.size) (hr : ∀ g, row = some g → B ≤ g) : Lies w' B sz A n xs :=
  h.same fun p hp => World.cell?_of_block (hg.block p.block (by omega) (fun e => by have := hr _ e.symm; omega))
end
theorem Lies.take {w : World} {B sz n m : Nat} {A : Option Addr} {xs : List Value} (h : Lies w B sz A n xs) (hm : m ≤ n) : Lies w B sz A m (xs.take (m * sz)) := by
  refine ⟨?_, fun hm0 => ?_⟩
  · rw [List.length_take, h.1]
    exact Nat.min_eq_left (Nat.mul_le_mul_right _ hm)
  · obtain ⟨ad, e, hb, hc⟩ := h.2 (by omega)
    refine ⟨ad, e, hb, fun j u hu => hc j u ?_⟩
    rw [List.getElem?_take] at hu
    split at hu
    · exact hu
    · cases hu
theorem Lies.ofOwn {w : World} {base e sz n : Nat} {A : Option Addr} {c : Nat} {xs : List Value} (h : w.ownsRow base e sz (.slice A n c) n xs) : Lies w w.heap.size sz A n xs := by
  refine ⟨h.1, fun hn => ?_⟩
  obtain ⟨g, cap, hv, _, hlt⟩ := h.form hn
  injection hv with hA
  subst hA
  exact ⟨_, rfl, hlt, h.cells (g := g) rfl⟩
theorem addAdd (a : Addr) (i j : Nat) : (a.add i).add j = a.add (i + j) := by
  unfold Addr.add
  by_cases hi : i = 0 <;> by_cases hj : j = 0 <;> simp [hi, hj, Nat.add_assoc]
theorem Lies.drop {w : World} {B sz n k : Nat} {A : Option Addr} {xs : List Value} (h : Lies w B sz A n xs) (hk : k ≤ n) : Lies w B sz (A.map fun x => x.add (k * sz)) (n - k) (xs.drop (k * sz)) := by
  refine ⟨by rw [List.length_drop, h.1, Nat.sub_mul], fun hn => ?_⟩
  obtain ⟨ad, rfl, hb, hc⟩ := h.2 (by omega)
  refine ⟨_, rfl, by rw [addBlock]; exact hb, fun j u hu => ?_⟩
  rw [addAdd]
  exact hc _ u (by rw [← hu, List.getElem?_drop])
theorem Lies.dropIf {w : World} {B sz n k c : Nat} {A : Option Addr} {xs : List Value} (h : Lies w B sz A n xs) (hk : k ≤ n) (hnc : n ≤ c) : Lies w B sz (if c = k then A else A.map fun x => x.add (k * sz)) (n - k) (xs.drop (k * sz)) := by
  by_cases hc : c = k
  · rw [if_pos hc]
    exact ⟨by rw [List.length_drop, h.1, Nat.sub_mul], fun hn => by omega⟩
  · rw [if_neg hc]
    exact h.drop hk
theorem own_slice {w : World} {base e sz n : Nat} {v : Value} {xs : List Value} (h : w.ownsRow base e sz v n xs) :
    ∃ A c, v = .slice A n c ∧ n ≤ c ∧ c ≤ maxLen ∧ Lies w w.heap.size sz A n xs ∧ (A = none → c = 0) := by
  have h0 := h
  rcases h.2 with ⟨rfl, rfl⟩ | ⟨g, cap, cur, rfl, hb, hg, hnc, hcm, _⟩
  · have hx : xs = [] := List.eq_nil_of_length_eq_zero (by simpa using h.1)
    subst hx
    exact ⟨none, 0, rfl, Nat.le_refl _, Nat.zero_le _, Lies.nil, fun _ => rfl⟩
  · exact ⟨_, cap, rfl, hnc, hcm, Lies.ofOwn h0, fun e => by cases e⟩
def App (w : World) (base e sz : Nat) (v : Value) (o : Option Nat) (n : Nat) (xs : List Value) : Prop :=
  (w.ownsRow base e sz v n xs ∧ o = v.ownBlock) ∨ (∃ A B, v = .slice A n n ∧ Lies w B sz A n xs ∧ (A = none → n = 0) ∧ o = none)
def At (w : World) (o o' : Option Nat) : Prop := o' = o ∨ ∃ g, o' = some g ∧ w.heap.size ≤ g
theorem App.own {w : World} {base e sz n : Nat} {v : Value} {xs : List Value} (h : w.ownsRow base e sz v n xs) : App w base e sz v v.ownBlock n xs := .inl ⟨h, rfl⟩
theorem App.new (w : World) (base e sz : Nat) : App w base e sz (.slice none 0 0) none 0 [] := .inl ⟨World.ownsRow_nil _ _ _ _, rfl⟩
theorem App.cut {w : World} {base e sz B n : Nat} {A : Option Addr} {xs : List Value} (h : Lies w B sz A n xs) : App w base e sz (.slice A n n) none n xs := by
  refine .inr ⟨A, B, rfl, h, fun e => ?_, rfl⟩
  rcases Nat.eq_zero_or_pos n with h0 | h0
  · exact h0
  · obtain ⟨ad, h1, _⟩ := h.2 h0
    rw [e] at h1
    cases h1
theorem App.len {w : World} {base e sz n : Nat} {v : Value} {o : Option Nat} {xs : List Value} (h : App w base e sz v o n xs) : xs.length = n * sz := by
  rcases h with ⟨h, _⟩ | ⟨_, _, _, h, _⟩
  · exact h.1
  · exact h.1
theorem ownsRow_base {w : World} {base base' e sz n : Nat} {v : Value} {xs : List Value} (h : w.ownsRow base e sz v n xs) (hb : base' ≤ base) : w.ownsRow base' e sz v n xs := by
  refine ⟨h.1, ?_⟩
  rcases h.2 with h2 | ⟨g, cap, cur, h1, h2, h3⟩
  · exact .inl h2
  · exact .inr ⟨g, cap, cur, h1, Nat.le_trans hb h2, h3⟩
theorem grownBy_trans {a b c : World} {o o' : Option Nat} (h : a.grownBy b o) (h' : b.grownBy c o') (hat : At a o o') : a.grownBy c o := by
  refine ⟨h'.os.trans h.os, h'.tape.trans h.tape, h'.output.trans h.output, Nat.le_trans h.size h'.size, fun k hk hne => ?_⟩
  have h1 := h.block k hk hne
  refine (h'.block k (Nat.lt_of_lt_of_le hk h.size) ?_).trans h1
  rcases hat with rfl | ⟨g, rfl, hg⟩
  · exact hne
  · intro e
    injection e with e
    omega
theorem At.trans {a b : World} {o o' o'' : Option Nat} (h : At a o o') (h' : At b o' o'') (hab : a.heap.size ≤ b.heap.size) : At a o o'' := by
  rcases h' with rfl | ⟨g, rfl, hg⟩
  · exact h
  · exact .inr ⟨g, rfl, by omega⟩
theorem At.refl (w : World) (o : Option Nat) : At w o o := .inl rfl
theorem At.ge {w : World} {o : Option Nat} {base : Nat} (h : At w none o) (hb : base ≤ w.heap.size) : ∀ g, o = some g → base ≤ g := by
  rintro g rfl
  rcases h with h | ⟨g', h, hg⟩
  · cases h
  · injection h with h; omega
theorem App.alloc {w : World} {base e sz n : Nat} {v : Value} {o : Option Nat} {xs : List Value} (h : App w base e sz v o n xs) (ob : Obj) : App (w.alloc ob) base e sz v o n xs := by
  rcases h with ⟨h, e⟩ | ⟨A, B, h1, h2, h3⟩
  · exact .inl ⟨h.alloc ob, e⟩
  · refine .inr ⟨A, B, h1, ⟨h2.1, fun hn => ?_⟩, h3⟩
    obtain ⟨ad, ha, hb, hc⟩ := h2.2 hn
    exact ⟨ad, ha, hb, fun j u hu => (World.cell?_alloc_lt w ob _ (World.block_lt_of_cell? w _ (hc j u hu))).trans (hc j u hu)⟩
theorem grown_alloc {w w' : World} {ob : Obj} {o : Option Nat} (h : (w.alloc ob).grownBy w' o) : w.grownBy w' o :=
  grownBy_trans (World.grownBy_alloc w ob o) h (.inl rfl)
theorem grown_drew {w w' : World} {o : Option Nat} (h : w.drew.grownBy w' o) : w.grownBy w' o := ⟨h.os, h.tape, h.output, h.size, h.block⟩
theorem grown_drewN {w w' : World} {o : Option Nat} {q : Nat} (h : (w.drewN q).grownBy w' o) : w.grownBy w' o := ⟨h.os, h.tape, h.output, h.size, h.block⟩
theorem At.drew {w : World} {o o' : Option Nat} (h : At w.drew o o') : At w o o' := h
theorem At.drewN {w : World} {o o' : Option Nat} {q : Nat} (h : At (w.drewN q) o o') : At w o o' := h
theorem At.alloc {w : World} {ob : Obj} {o o' : Option Nat} (h : At (w.alloc ob) o o') : At w o o' := by
  rcases h with h | ⟨g, h, hg⟩
  · exact .inl h
  · exact .inr ⟨g, h, by simp at hg; omega⟩
theorem cell_new1 (w : World) (u : Value) (e : TypeId) : ∀ j u', [u][j]? = some u' → (w.alloc (.cells #[u] e)).cell? ((⟨w.heap.size, 0, none⟩ : Addr).add j) = some u' := by
  intro j u' h
  have hj : j = 0 := by
    have := (List.getElem?_eq_some_iff.1 h).1
    simp at this
    exact this
  subst hj
  simp at h
  subst h
  simp [Addr.add]
theorem one1 {u : Value} (h : u.oneCell' = true) : ∀ x ∈ [u], x.oneCell' = true := by
  intro x hx
  simp at hx
  subst hx
  exact h
section
variable {P : Program} (w : World)
theorem run_app (base : Nat) (t ty e : TypeId) (i : TypeInfo) (z : Value) (size bytes : Nat) (ht : P.underlying t = some (.slice e)) (hi : P.info? e = some i) (hz : i.zero = some z)
    (hsize : i.size = size) (hby : i.bytes = bytes) (hzs : z.cells.size = size) (hsz : 0 < size)
    (v : Value) (o : Option Nat) (n : Nat) (xs : List Value) (h : App w base e size v o n xs)
    (a : Addr) (m c : Nat) (news : List Value) (hm : 0 < m) (hl : news.length = m * size) (hnews : ∀ j u, news[j]? = some u → w.cell? (a.add j) = some u) (h1 : ∀ u ∈ news, u.oneCell' = true)
    (h63 : n + m ≤ maxLen) (hbytes : (n + m) * bytes ≤ 140737488355328) (hbase : base ≤ w.heap.size) :
    ∃ v' w', (Builtin.append_ #[t, t] ty #[v, .slice (some a) m c]).run P w = .ok v' w' ∧ w'.ownsRow base e size v' (n + m) (xs ++ news) ∧ w.grownBy w' o ∧ At w o v'.ownBlock := by
  have own : ∀ v : Value, w.ownsRow base e size v n xs → ∃ v' w', (Builtin.append_ #[t, t] ty #[v, .slice (some a) m c]).run P w = .ok v' w' ∧ w'.ownsRow base e size v' (n + m) (xs ++ news) ∧ w.grownBy w' v.ownBlock ∧ At w v.ownBlock v'.ownBlock := by
    intro v hown
    obtain ⟨v', w', hr, h2, h3, _, h5⟩ := run_append_own_at (P := P) w base t ty e i z size bytes ht hi hz hsize hby hzs hsz v n xs hown a m c news hl hnews h1 h63 hbytes hbase
    refine ⟨v', w', hr, h2, h3, ?_⟩
    rcases h5 with h5 | h5
    · exact .inl h5
    · exact .inr ⟨_, h5, Nat.le_refl _⟩
  rcases h with ⟨hown, rfl⟩ | ⟨A, B, rfl, hlies, hA, rfl⟩
  · exact own v hown
  · cases A with
    | none =>
      obtain rfl := hA rfl
      have hx : xs = [] := List.eq_nil_of_length_eq_zero (by simpa using hlies.1)
      subst hx
      exact own _ (World.ownsRow_nil _ _ _ _)
    | some b =>
      have holds : ∀ j u, xs[j]? = some u → w.cell? (b.add j) = some u := by
        intro j u hu
        rcases Nat.eq_zero_or_pos n with h0 | h0
        · subst h0
          have hx : xs = [] := List.eq_nil_of_length_eq_zero (by simpa using hlies.1)
          subst hx
          simp at hu
        · obtain ⟨ad, hb, _, hc⟩ := hlies.2 h0
          injection hb with hb
          subst hb
          exact hc j u hu
      obtain ⟨v', w', hr, h2, h3⟩ := run_append_arg_grows (P := P) w t ty e i z size bytes ht hi hz hsize hby hzs hsz b n n xs hlies.1 holds a m c news hl hnews (by omega) h63 hbytes
      refine ⟨v', w', hr, ownsRow_base h2 hbase, h3, ?_⟩
      have := h2.lt
      cases hv : v'.ownBlock with
      | none => exact .inl rfl
      | some g => exact .inr ⟨g, rfl, (this g hv).1⟩
theorem wpList_app {ops : Array Oper} {rest : List Oper} {o : Oper} {a : Act} {Q : Exit → Act → World → Prop} (hg : o.guard = none) (s x : Operand) (t : TypeId)
    (hop : o.op = Op.call { callee := Callee.builtin Builtin.append, args := #[s, x], argTypes := #[t, t] })
    (base : Nat) (e : TypeId) (i : TypeInfo) (z : Value) (size bytes : Nat) (ht : P.underlying t = some (.slice e)) (hi : P.info? e = some i) (hz : i.zero = some z)
    (hsize : i.size = size) (hby : i.bytes = bytes) (hzs : z.cells.size = size) (hsz : 0 < size)
    (v : Value) (ow : Option Nat) (n : Nat) (xs : List Value) (hs : a.eval s = v) (h : App w base e size v ow n xs)
    (ad : Addr) (m c : Nat) (news : List Value) (hx : a.eval x = .slice (some ad) m c) (hm : 0 < m) (hn : news.length = m * size) (hc : ∀ j u, news[j]? = some u → w.cell? (ad.add j) = some u) (h1 : ∀ u ∈ news, u.oneCell' = true)
    (h63 : n + m ≤ maxLen) (hbytes : (n + m) * bytes ≤ 140737488355328) (hbase : base ≤ w.heap.size)
    (hK : ∀ v' w', w'.ownsRow base e size v' (n + m) (xs ++ news) → w.grownBy w' ow → At w ow v'.ownBlock → wpList P ops Q rest (a.put o.dst v') w') :
    wpList P ops Q (o :: rest) a w := by
  refine wpList_plain hg fun K hK' => ?_
  obtain ⟨v', w', hrun, r1, r2, r3⟩ := run_app (P := P) w base t o.type e i z size bytes ht hi hz hsize hby hzs hsz v ow n xs h ad m c news hm hn hc h1 h63 hbytes hbase
  unfold Oper.wp
  simp [execOp, hop, resolve, invoke, builtin, hs, hx, hrun, Result.andThen]
  exact hK' _ _ (hK v' w' r1 r2 r3)
end
end Iv
namespace Iv
open Go Go.RowKit
section
variable {P : Program} (w : World)
theorem run_join (base : Nat) (t ty e : TypeId) (i : TypeInfo) (z : Value) (size bytes : Nat) (ht : P.underlying t = some (.slice e)) (hi : P.info? e = some i) (hz : i.zero = some z)
    (hsize : i.size = size) (hby : i.bytes = bytes) (hzs : z.cells.size = size) (hsz : 0 < size)
    (v : Value) (n : Nat) (xs : List Value) (hown : w.ownsRow base e size v n xs)
    (B : Nat) (A : Option Addr) (m c : Nat) (news : List Value) (hr : Lies w B size A m news) (ho : A = none → c = 0) (h1 : ∀ u ∈ news, u.oneCell' = true)
    (h63 : n + m ≤ maxLen) (hbytes : (n + m) * bytes ≤ 140737488355328) (hbase : base ≤ w.heap.size) :
    ∃ v' w', (Builtin.append_ #[t, t] ty #[v, .slice A m c]).run P w = .ok v' w' ∧ w'.ownsRow base e size v' (n + m) (xs ++ news) ∧ w.grownBy w' v.ownBlock ∧ At w v.ownBlock v'.ownBlock := by
  cases A with
  | none =>
    have hm : m = 0 := by
      rcases Nat.eq_zero_or_pos m with h0 | h0
      · exact h0
      · obtain ⟨ad, h, _⟩ := hr.2 h0
        cases h
    subst hm
    obtain rfl := ho rfl
    have hn : news = [] := List.eq_nil_of_length_eq_zero (by simpa using hr.1)
    subst hn
    exact ⟨v, w, run_append_owned_none (P := P) (w := w) base t ty e i size ht hi v n xs hown, by simpa using hown, World.grownBy.refl w _, .inl rfl⟩
  | some ad =>
    have hc : ∀ j u, news[j]? = some u → w.cell? (ad.add j) = some u := by
      intro j u hu
      rcases Nat.eq_zero_or_pos m with h0 | h0
      · subst h0
        have hn : news = [] := List.eq_nil_of_length_eq_zero (by simpa using hr.1)
        subst hn
        simp at hu
      · obtain ⟨ad', h, _, hc⟩ := hr.2 h0
        injection h with h
        subst h
        exact hc j u hu
    obtain ⟨v', w', hr', h2, h3, _, h5⟩ := run_append_own_at (P := P) w base t ty e i z size bytes ht hi hz hsize hby hzs hsz v n xs hown ad m c news hr.1 hc h1 h63 hbytes hbase
    refine ⟨v', w', hr', h2, h3, ?_⟩
    rcases h5 with h5 | h5
    · exact .inl h5
    · exact .inr ⟨_, h5, Nat.le_refl _⟩
theorem wpList_join {ops : Array Oper} {rest : List Oper} {o : Oper} {a : Act} {Q : Exit → Act → World → Prop} (hg : o.guard = none) (s x : Operand) (t : TypeId)
    (hop : o.op = Op.call { callee := Callee.builtin Builtin.append, args := #[s, x], argTypes := #[t, t] })
    (base : Nat) (e : TypeId) (i : TypeInfo) (z : Value) (size bytes : Nat) (ht : P.underlying t = some (.slice e)) (hi : P.info? e = some i) (hz : i.zero = some z)
    (hsize : i.size = size) (hby : i.bytes = bytes) (hzs : z.cells.size = size) (hsz : 0 < size)
    (v : Value) (n : Nat) (xs : List Value) (hs : a.eval s = v) (hown : w.ownsRow base e size v n xs)
    (B : Nat) (A : Option Addr) (m c : Nat) (news : List Value) (hx : a.eval x = .slice A m c) (hr : Lies w B size A m news) (ho : A = none → c = 0) (h1 : ∀ u ∈ news, u.oneCell' = true)
    (h63 : n + m ≤ maxLen) (hbytes : (n + m) * bytes ≤ 140737488355328) (hbase : base ≤ w.heap.size)
    (hK : ∀ v' w', w'.ownsRow base e size v' (n + m) (xs ++ news) → w.grownBy w' v.ownBlock → At w v.ownBlock v'.ownBlock → wpList P ops Q rest (a.put o.dst v') w') :
    wpList P ops Q (o :: rest) a w := by
  refine wpList_plain hg fun K hK' => ?_
  obtain ⟨v', w', hrun, r1, r2, r3⟩ := run_join (P := P) w base t o.type e i z size bytes ht hi hz hsize hby hzs hsz v n xs hown B A m c news hr ho h1 h63 hbytes hbase
  unfold Oper.wp
  simp [execOp, hop, resolve, invoke, builtin, hs, hx, hrun, Result.andThen]
  exact hK' _ _ (hK v' w' r1 r2 r3)
end
theorem ownsRow_empty (w : World) (base : Nat) (e : TypeId) (sz : Nat) (hb : base ≤ w.heap.size) : (w.alloc (.cells #[] e)).ownsRow base e sz (.slice (some ⟨w.heap.size, 0, none⟩) 0 0) 0 [] :=
  World.ownsRow_made w #[] 0 hb (Nat.zero_le _) (by simp)
theorem Lies.allocAny {w : World} {B sz n : Nat} {A : Option Addr} {xs : List Value} (h : Lies w B sz A n xs) (o : Obj) : Lies (w.alloc o) B sz A n xs := by
  refine ⟨h.1, fun hn => ?_⟩
  obtain ⟨ad, ha, hb, hc⟩ := h.2 hn
  exact ⟨ad, ha, hb, fun j u hu => (World.cell?_alloc_lt w o _ (World.block_lt_of_cell? w _ (hc j u hu))).trans (hc j u hu)⟩
theorem grown_ofNew {w w' : World} {ob : Obj} {g : Nat} (h : (w.alloc ob).grownBy w' (some g)) (hg : w.heap.size ≤ g) (o : Option Nat) : w.grownBy w' o := by
  refine ⟨h.os, h.tape, h.output, ?_, fun k hk _ => ?_⟩
  · have := h.size
    simp at this
    omega
  · refine (h.block k (by simp; omega) ?_).trans (Below.heap_alloc w ob k hk)
    intro e
    injection e with e
    omega
theorem At.ofNew {w : World} {ob : Obj} {g : Nat} {o' : Option Nat} (h : At (w.alloc ob) (some g) o') (hg : w.heap.size ≤ g) : At w none o' := by
  rcases h with rfl | ⟨g', rfl, hg'⟩
  · exact .inr ⟨g, rfl, hg⟩
  · exact .inr ⟨g', rfl, by simp at hg'; omega⟩
def Held (w : World) (g : Nat) (t : TypeId) (cs : Array Value) : Prop := w.heap[g]? = some (.cells cs t (0, 0))
section
variable {w w' : World} {g : Nat} {t : TypeId} {cs : Array Value}
theorem Held.lt (h : Held w g t cs) : g < w.heap.size := (Array.getElem?_eq_some_iff.1 h).1
theorem Held.cell (h : Held w g t cs) (i : Nat) : w.cell? ⟨g, i, none⟩ = cs[i]? := cell_of_row w g i cs t (0, 0) h
theorem Held.free (h : Held w g t cs) (i : Nat) : w.frozen? ⟨g, i, none⟩ = false := by
  unfold Held at h
  simp [World.frozen?, h]
theorem Held.new (w : World) (t : TypeId) (cs : Array Value) : Held (w.alloc (.cells cs t)) w.heap.size t cs := heap_alloc_new w _
theorem Held.drew (h : Held w g t cs) : Held w.drew g t cs := h
theorem Held.drewN (h : Held w g t cs) (n : Nat) : Held (w.drewN n) g t cs := h
theorem Held.alloc (h : Held w g t cs) (o : Obj) : Held (w.alloc o) g t cs := (Below.heap_alloc w o g h.lt).trans h
theorem Held.store (h : Held w g t cs) (i : Nat) (u : Value) : Held (w.setCell ⟨g, i, none⟩ u) g t (cs.setIfInBounds i u) := by
  unfold Held at h ⊢
  simp [World.setCell, Array.getElem?_modify, h]
theorem Held.far (h : Held w g t cs) {p : Addr} (hp : g ≠ p.block) (u : Value) : Held (w.setCell p u) g t cs := (Below.heap_setCell w p u g hp).trans h
theorem Held.grown {row : Option Nat} (h : Held w g t cs) (hb : w.grownBy w' row) (hg : some g ≠ row) : Held w' g t cs := (hb.block g h.lt hg).trans h
end
theorem grown_store (w : World) (g i : Nat) (u : Value) : w.grownBy (w.setCell ⟨g, i, none⟩ u) (some g) :=
  ⟨rfl, rfl, rfl, by simp [World.setCell], fun k hk hne => Below.heap_setCell w ⟨g, i, none⟩ u k (fun e => hne (by rw [e]))⟩
theorem grown_then {a b c : World} {o : Option Nat} (h : a.grownBy b o) (h' : b.grownBy c o) : a.grownBy c o := grownBy_trans h h' (.inl rfl)
theorem grown_toDrew {a b : World} {o : Option Nat} (h : a.grownBy b o) : a.grownBy b.drew o := ⟨h.os, h.tape, h.output, h.size, h.block⟩
theorem grown_toDrewN {a b : World} {o : Option Nat} (h : a.grownBy b o) (n : Nat) : a.grownBy (b.drewN n) o := ⟨h.os, h.tape, h.output, h.size, h.block⟩
end Iv

/- A chain of new blocks, told at once. -/
namespace Iv
open Go Go.RowKit
set_option linter.unusedVariables false
theorem st2 {w : World} {g : Nat} {t : TypeId} {z0 z1 : Value} (h : Held w g t #[z0, z1]) (u0 u1 : Value) : Held ((w.setCell ⟨g, 0, none⟩ u0).setCell ⟨g, 1, none⟩ u1) g t #[u0, u1] ∧ w.grownBy ((w.setCell ⟨g, 0, none⟩ u0).setCell ⟨g, 1, none⟩ u1) (some g) := by
  have h1 : Held (w.setCell ⟨g, 0, none⟩ u0) g t #[u0, z1] := h.store 0 _
  have h2 : Held ((w.setCell ⟨g, 0, none⟩ u0).setCell ⟨g, 1, none⟩ u1) g t #[u0, u1] := h1.store 1 _
  refine ⟨h2, ?_⟩
  have g0 := World.grownBy.refl w (some g)
  have g1 := grown_then g0 (grown_store w g 0 u0)
  have g2 := grown_then g1 (grown_store (w.setCell ⟨g, 0, none⟩ u0) g 1 u1)
  exact g2
theorem st3 {w : World} {g : Nat} {t : TypeId} {z0 z1 z2 : Value} (h : Held w g t #[z0, z1, z2]) (u0 u1 u2 : Value) : Held (((w.setCell ⟨g, 0, none⟩ u0).setCell ⟨g, 1, none⟩ u1).setCell ⟨g, 2, none⟩ u2) g t #[u0, u1, u2] ∧ w.grownBy (((w.setCell ⟨g, 0, none⟩ u0).setCell ⟨g, 1, none⟩ u1).setCell ⟨g, 2, none⟩ u2) (some g) := by
  have h1 : Held (w.setCell ⟨g, 0, none⟩ u0) g t #[u0, z1, z2] := h.store 0 _
  have h2 : Held ((w.setCell ⟨g, 0, none⟩ u0).setCell ⟨g, 1, none⟩ u1) g t #[u0, u1, z2] := h1.store 1 _
  have h3 : Held (((w.setCell ⟨g, 0, none⟩ u0).setCell ⟨g, 1, none⟩ u1).setCell ⟨g, 2, none⟩ u2) g t #[u0, u1, u2] := h2.store 2 _
  refine ⟨h3, ?_⟩
  have g0 := World.grownBy.refl w (some g)
  have g1 := grown_then g0 (grown_store w g 0 u0)
  have g2 := grown_then g1 (grown_store (w.setCell ⟨g, 0, none⟩ u0) g 1 u1)
  have g3 := grown_then g2 (grown_store ((w.setCell ⟨g, 0, none⟩ u0).setCell ⟨g, 1, none⟩ u1) g 2 u2)
  exact g3
theorem st4 {w : World} {g : Nat} {t : TypeId} {z0 z1 z2 z3 : Value} (h : Held w g t #[z0, z1, z2, z3]) (u0 u1 u2 u3 : Value) : Held ((((w.setCell ⟨g, 0, none⟩ u0).setCell ⟨g, 1, none⟩ u1).setCell ⟨g, 2, none⟩ u2).setCell ⟨g, 3, none⟩ u3) g t #[u0, u1, u2, u3] ∧ w.grownBy ((((w.setCell ⟨g, 0, none⟩ u0).setCell ⟨g, 1, none⟩ u1).setCell ⟨g, 2, none⟩ u2).setCell ⟨g, 3, none⟩ u3) (some g) := by
  have h1 : Held (w.setCell ⟨g, 0, none⟩ u0) g t #[u0, z1, z2, z3] := h.store 0 _
  have h2 : Held ((w.setCell ⟨g, 0, none⟩ u0).setCell ⟨g, 1, none⟩ u1) g t #[u0, u1, z2, z3] := h1.store 1 _
  have h3 : Held (((w.setCell ⟨g, 0, none⟩ u0).setCell ⟨g, 1, none⟩ u1).setCell ⟨g, 2, none⟩ u2) g t #[u0, u1, u2, z3] := h2.store 2 _
  have h4 : Held ((((w.setCell ⟨g, 0, none⟩ u0).setCell ⟨g, 1, none⟩ u1).setCell ⟨g, 2, none⟩ u2).setCell ⟨g, 3, none⟩ u3) g t #[u0, u1, u2, u3] := h3.store 3 _
  refine ⟨h4, ?_⟩
  have g0 := World.grownBy.refl w (some g)
  have g1 := grown_then g0 (grown_store w g 0 u0)
  have g2 := grown_then g1 (grown_store (w.setCell ⟨g, 0, none⟩ u0) g 1 u1)
  have g3 := grown_then g2 (grown_store ((w.setCell ⟨g, 0, none⟩ u0).setCell ⟨g, 1, none⟩ u1) g 2 u2)
  have g4 := grown_then g3 (grown_store (((w.setCell ⟨g, 0, none⟩ u0).setCell ⟨g, 1, none⟩ u1).setCell ⟨g, 2, none⟩ u2) g 3 u3)
  exact g4
end Iv
