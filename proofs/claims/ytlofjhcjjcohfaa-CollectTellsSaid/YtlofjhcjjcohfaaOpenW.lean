/- How a world of names, and files, that came in read. -/
import Derived.Test.YtlofjhcjjcohfaaOpenBlk
import Derived.Test.YtlofjhcjjcohfaaTrw
import Derived.Test.YtlofjhcjjcohfaaCpw
import Derived.Test.YtlofjhcjjcohfaaSww
import Derived.SizedLaws
import Derived.ChangeArms
namespace Go.Proofs.Ytlofjhcjjcohfaa
open Go Go.RowKit Go.ChangeShapes Go.WideShapes Go.ChangeAt Iv
set_option linter.unusedVariables false

section
variable {H : Type} {enc : TypeId × Value → H} {W : World} {held : Bool}

theorem add_add (a : Addr) (i j : Nat) : (a.add i).add j = a.add (i + j) := addAdd a i j
set_option maxRecDepth 100000 in
/-- A slice of plain structures. -/
theorem open_flat {T e : TypeId} {sz bytes fuel : Nat} {cs : List Value} {x : DataW H × List MemPlace} (ht : Try.prog.underlying T = some (.slice e)) (hc : Try.prog.cellsOf e = sz) (hb : Try.prog.bytesOf e = bytes) (hs0 : 0 < sz)
    (Good : List Value → Prop) (hgood : ∀ (n : Nat) (cs' : List Value) (y : DataW H × List MemPlace), cs'.length = sz → DataW.trod enc Try.prog W 0 (fun _ => true) held n e cs' = some y → Good cs') (hone : ∀ cs', Good cs' → ∀ u ∈ cs', u.oneCell' = true)
    (h : DataW.trod enc Try.prog W 0 (fun _ => true) held fuel T cs = some x) (hw : ∀ n ∈ x.1.weights Try.prog T, n ≤ reachBytes) :
    ∃ (A : Option Addr) (n c : Nat) (X : List Value), cs = [.slice A n c] ∧ In1 W W.heap.size sz bytes A n c X ∧ (0 < n → ∃ b o, A = some ⟨b, o, none⟩) ∧ ∀ k, k < n → ∃ cs', cs'.length = sz ∧ Good cs' ∧ ∀ j, j < sz → X[k * sz + j]? = cs'[j]? := by
  rcases DataW.trod_slice ht h with ⟨rfl, _⟩ | ⟨a, len, cap, elems, rest, m, _, rfl, rfl, _, hl, hm, hlen, hel, _, _⟩
  · exact ⟨none, 0, 0, [], rfl, ⟨⟨by simp, fun h => absurd h (by omega)⟩, fun _ => rfl, fun u hu => by simp at hu, Nat.zero_le _, by omega⟩, fun h => absurd h (by omega), fun k hk => absurd hk (by omega)⟩
  · have each : ∀ k, k < len → ∃ cs', cs'.length = sz ∧ Good cs' ∧ ∀ j, j < sz → W.cell? (a.add (k * sz + j)) = cs'[j]? := by
      intro k hk
      have h1 := hel k hk
      rw [List.getElem?_eq_getElem (by omega), hc, Option.bind_eq_some_iff] at h1
      obtain ⟨cs', hcs, hy⟩ := h1
      obtain ⟨_, hcl, hat⟩ := World.cells?_some hcs
      exact ⟨cs', hcl, hgood _ _ _ hcl hy, fun j hj => by rw [← add_add]; exact hat j hj⟩
    have hX : ∀ i : Nat, i < len * sz → ∃ u, W.cell? (a.add i) = some u ∧ u.oneCell' = true := by
      intro i hi
      have hk : i / sz < len := Nat.div_lt_of_lt_mul (by rwa [Nat.mul_comm])
      have hj : i % sz < sz := Nat.mod_lt _ hs0
      obtain ⟨cs', hcl, hg, hat⟩ := each _ hk
      have h2 := hat _ hj
      rw [show i / sz * sz + i % sz = i by rw [Nat.mul_comm]; exact Nat.div_add_mod i sz, List.getElem?_eq_getElem (by omega)] at h2
      exact ⟨_, h2, hone cs' hg _ (List.getElem_mem _)⟩
    have get : ∀ i : Nat, ((List.range (len * sz)).map fun i => (W.cell? (a.add i)).getD undef)[i]? = if i < len * sz then W.cell? (a.add i) else none := by
      intro i
      rw [List.getElem?_map]
      by_cases hi : i < len * sz
      · rw [List.getElem?_range hi, if_pos hi]
        obtain ⟨u, hu, _⟩ := hX i hi
        simp [hu]
      · rw [if_neg hi, List.getElem?_eq_none (by simpa using hi)]
        rfl
    refine ⟨some a, len, cap, (List.range (len * sz)).map fun i => (W.cell? (a.add i)).getD undef, rfl, ⟨⟨by simp, fun h0 => ⟨a, rfl, ?_, ?_⟩⟩, (fun e => by cases e), ?_, Nat.le_trans hl hm, ?_⟩, ?_, ?_⟩
    · obtain ⟨u, hu, _⟩ := hX 0 (Nat.mul_pos h0 hs0)
      have := World.block_lt_of_cell? W _ hu
      rwa [addBlock] at this
    · intro j u hu
      rw [get] at hu
      split at hu
      · exact hu
      · cases hu
    · intro u hu
      obtain ⟨i, hi⟩ := List.getElem?_of_mem hu
      rw [get] at hi
      split at hi
      · rename_i hlt
        obtain ⟨v, hv, ho⟩ := hX i hlt
        rw [hv] at hi
        exact (Option.some.inj hi) ▸ ho
      · cases hi
    · have h3 : (elems.length + rest.length) * bytes ≤ reachBytes := hw _ (by simp [DataW.weights, ht, hb])
      have h4 : len * bytes ≤ (elems.length + rest.length) * bytes := Nat.mul_le_mul_right _ (by omega)
      have h5 : reachBytes = 140737488351232 := rfl
      omega
    · intro h0
      obtain ⟨u, hu, _⟩ := hX 0 (Nat.mul_pos h0 hs0)
      obtain ⟨b, o, sp⟩ := a
      have hu' : W.cell? ⟨b, o, sp⟩ = some u := by simpa [Addr.add] using hu
      have hsp : sp = none := World.cell?_spot hu'
      exact ⟨b, o, by rw [hsp]⟩
    · intro k hk
      obtain ⟨cs', hcl, hg, hat⟩ := each k hk
      refine ⟨cs', hcl, hg, fun j hj => ?_⟩
      rw [get, if_pos, hat j hj]
      have : k * sz + sz ≤ len * sz := by rw [← Nat.succ_mul]; exact Nat.mul_le_mul_right _ hk
      omega

theorem cells_string : Try.prog.cellsOf 9 = 1 := by kernel_rfl
theorem cells_bool : Try.prog.cellsOf 4 = 1 := by kernel_rfl
def GoodCell (cs : List Value) : Prop := ∃ (a0 : ByteArray) (a1 : Int) (a2 : Int) (a3 : Bool) (a4 : Int), cs = [.string a0, .int .i64 a1, .int .i64 a2, .bool a3, .int .i64 a4]
theorem GoodCell.one {cs : List Value} (h : GoodCell cs) : ∀ u ∈ cs, u.oneCell' = true := by
  obtain ⟨a0, a1, a2, a3, a4, rfl⟩ := h
  intro u hu
  simp only [List.mem_cons, List.not_mem_nil, or_false] at hu
  rcases hu with rfl | rfl | rfl | rfl | rfl <;> rfl
theorem GoodCell.at {X cs : List Value} {k : Nat} (h : GoodCell cs) (hx : ∀ j, j < 5 → X[k * 5 + j]? = cs[j]?) : AtCell X k := by
  obtain ⟨a0, a1, a2, a3, a4, rfl⟩ := h
  exact ⟨a0, a1, a2, a3, a4, (hx 0 (by omega)).trans rfl, (hx 1 (by omega)).trans rfl, (hx 2 (by omega)).trans rfl, (hx 3 (by omega)).trans rfl, (hx 4 (by omega)).trans rfl⟩
set_option maxRecDepth 100000 in
theorem goodCell (n : Nat) (cs : List Value) (y : DataW H × List MemPlace) (hl : cs.length = 5) (h : DataW.trod enc Try.prog W 0 (fun _ => true) held n 139 cs = some y) : GoodCell cs := by
  obtain ⟨xs, n, _, _, _, hxl, hg⟩ := DataW.trod_struct Try.underlying139 h
  match cs, hl, xs, hxl with
  | [c0, c1, c2, c3, c4], _, [y0, y1, y2, y3, y4], _ =>
    have g0 := hg 0 _ rfl
    have g1 := hg 1 _ rfl
    have g2 := hg 2 _ rfl
    have g3 := hg 3 _ rfl
    have g4 := hg 4 _ rfl
    simp only [cells_bool, cells_int, cells_int64, cells_string, List.getElem_toArray, List.getElem_cons_zero, List.getElem_cons_succ, List.drop_zero, List.drop_succ_cons, List.take_succ_cons, List.take_zero, List.getElem?_cons_zero, List.getElem?_cons_succ] at g0 g1 g2 g3 g4
    obtain ⟨a0, e0, _⟩ := DataW.trod_string Try.underlying9 g0
    obtain ⟨a1, e1, _⟩ := trod_i64 Try.underlying3 g1
    obtain ⟨a2, e2, _⟩ := trod_i64 Try.underlying3 g2
    obtain ⟨a3, e3, _⟩ := DataW.trod_bool Try.underlying4 g3
    obtain ⟨a4, e4, _⟩ := trod_i64 Try.underlying2 g4
    simp only [List.cons.injEq, and_true] at e0 e1 e2 e3 e4
    subst e0 e1 e2 e3 e4
    exact ⟨a0, a1, a2, a3, a4, rfl⟩
def GoodLock (cs : List Value) : Prop := ∃ (a0 : ByteArray) (a1 : Bool), cs = [.string a0, .bool a1]
theorem GoodLock.one {cs : List Value} (h : GoodLock cs) : ∀ u ∈ cs, u.oneCell' = true := by
  obtain ⟨a0, a1, rfl⟩ := h
  intro u hu
  simp only [List.mem_cons, List.not_mem_nil, or_false] at hu
  rcases hu with rfl | rfl <;> rfl
theorem GoodLock.at {X cs : List Value} {k : Nat} (h : GoodLock cs) (hx : ∀ j, j < 2 → X[k * 2 + j]? = cs[j]?) : AtLock X k := by
  obtain ⟨a0, a1, rfl⟩ := h
  exact ⟨a0, a1, (hx 0 (by omega)).trans rfl, (hx 1 (by omega)).trans rfl⟩
set_option maxRecDepth 100000 in
theorem goodLock (n : Nat) (cs : List Value) (y : DataW H × List MemPlace) (hl : cs.length = 2) (h : DataW.trod enc Try.prog W 0 (fun _ => true) held n 142 cs = some y) : GoodLock cs := by
  obtain ⟨xs, n, _, _, _, hxl, hg⟩ := DataW.trod_struct Try.underlying142 h
  match cs, hl, xs, hxl with
  | [c0, c1], _, [y0, y1], _ =>
    have g0 := hg 0 _ rfl
    have g1 := hg 1 _ rfl
    simp only [cells_bool, cells_string, List.getElem_toArray, List.getElem_cons_zero, List.getElem_cons_succ, List.drop_zero, List.drop_succ_cons, List.take_succ_cons, List.take_zero, List.getElem?_cons_zero, List.getElem?_cons_succ] at g0 g1
    obtain ⟨a0, e0, _⟩ := DataW.trod_string Try.underlying9 g0
    obtain ⟨a1, e1, _⟩ := DataW.trod_bool Try.underlying4 g1
    simp only [List.cons.injEq, and_true] at e0 e1
    subst e0 e1
    exact ⟨a0, a1, rfl⟩
def GoodCond (cs : List Value) : Prop := ∃ (a0 : ByteArray) (a1 : Int), cs = [.string a0, .int .i64 a1]
theorem GoodCond.one {cs : List Value} (h : GoodCond cs) : ∀ u ∈ cs, u.oneCell' = true := by
  obtain ⟨a0, a1, rfl⟩ := h
  intro u hu
  simp only [List.mem_cons, List.not_mem_nil, or_false] at hu
  rcases hu with rfl | rfl <;> rfl
theorem GoodCond.at {X cs : List Value} {k : Nat} (h : GoodCond cs) (hx : ∀ j, j < 2 → X[k * 2 + j]? = cs[j]?) : AtCond X k := by
  obtain ⟨a0, a1, rfl⟩ := h
  exact ⟨a0, a1, (hx 0 (by omega)).trans rfl, (hx 1 (by omega)).trans rfl⟩
set_option maxRecDepth 100000 in
theorem goodCond (n : Nat) (cs : List Value) (y : DataW H × List MemPlace) (hl : cs.length = 2) (h : DataW.trod enc Try.prog W 0 (fun _ => true) held n 145 cs = some y) : GoodCond cs := by
  obtain ⟨xs, n, _, _, _, hxl, hg⟩ := DataW.trod_struct Try.underlying145 h
  match cs, hl, xs, hxl with
  | [c0, c1], _, [y0, y1], _ =>
    have g0 := hg 0 _ rfl
    have g1 := hg 1 _ rfl
    simp only [cells_int, cells_string, List.getElem_toArray, List.getElem_cons_zero, List.getElem_cons_succ, List.drop_zero, List.drop_succ_cons, List.take_succ_cons, List.take_zero, List.getElem?_cons_zero, List.getElem?_cons_succ] at g0 g1
    obtain ⟨a0, e0, _⟩ := DataW.trod_string Try.underlying9 g0
    obtain ⟨a1, e1, _⟩ := trod_i64 Try.underlying3 g1
    simp only [List.cons.injEq, and_true] at e0 e1
    subst e0 e1
    exact ⟨a0, a1, rfl⟩
def GoodSite (cs : List Value) : Prop := ∃ (a0 : Int) (a1 : Int) (a2 : Int), cs = [.int .i64 a0, .int .i64 a1, .int .i64 a2]
theorem GoodSite.one {cs : List Value} (h : GoodSite cs) : ∀ u ∈ cs, u.oneCell' = true := by
  obtain ⟨a0, a1, a2, rfl⟩ := h
  intro u hu
  simp only [List.mem_cons, List.not_mem_nil, or_false] at hu
  rcases hu with rfl | rfl | rfl <;> rfl
theorem GoodSite.at {X cs : List Value} {k : Nat} (h : GoodSite cs) (hx : ∀ j, j < 3 → X[k * 3 + j]? = cs[j]?) : AtSite X k := by
  obtain ⟨a0, a1, a2, rfl⟩ := h
  exact ⟨a0, a1, a2, (hx 0 (by omega)).trans rfl, (hx 1 (by omega)).trans rfl, (hx 2 (by omega)).trans rfl⟩
set_option maxRecDepth 100000 in
theorem goodSite (n : Nat) (cs : List Value) (y : DataW H × List MemPlace) (hl : cs.length = 3) (h : DataW.trod enc Try.prog W 0 (fun _ => true) held n 149 cs = some y) : GoodSite cs := by
  obtain ⟨xs, n, _, _, _, hxl, hg⟩ := DataW.trod_struct Try.underlying149 h
  match cs, hl, xs, hxl with
  | [c0, c1, c2], _, [y0, y1, y2], _ =>
    have g0 := hg 0 _ rfl
    have g1 := hg 1 _ rfl
    have g2 := hg 2 _ rfl
    simp only [cells_int, List.getElem_toArray, List.getElem_cons_zero, List.getElem_cons_succ, List.drop_zero, List.drop_succ_cons, List.take_succ_cons, List.take_zero, List.getElem?_cons_zero, List.getElem?_cons_succ] at g0 g1 g2
    obtain ⟨a0, e0, _⟩ := trod_i64 Try.underlying3 g0
    obtain ⟨a1, e1, _⟩ := trod_i64 Try.underlying3 g1
    obtain ⟨a2, e2, _⟩ := trod_i64 Try.underlying3 g2
    simp only [List.cons.injEq, and_true] at e0 e1 e2
    subst e0 e1 e2
    exact ⟨a0, a1, a2, rfl⟩
def GoodStr (cs : List Value) : Prop := ∃ (a0 : ByteArray), cs = [.string a0]
theorem GoodStr.one {cs : List Value} (h : GoodStr cs) : ∀ u ∈ cs, u.oneCell' = true := by
  obtain ⟨a0, rfl⟩ := h
  intro u hu
  simp only [List.mem_cons, List.not_mem_nil, or_false] at hu
  rcases hu with rfl <;> rfl
theorem GoodStr.at {X cs : List Value} {k : Nat} (h : GoodStr cs) (hx : ∀ j, j < 1 → X[k * 1 + j]? = cs[j]?) : AtStr X k := by
  obtain ⟨a0, rfl⟩ := h
  exact ⟨a0, (hx 0 (by omega)).trans rfl⟩
set_option maxRecDepth 100000 in
theorem goodStr (n : Nat) (cs : List Value) (y : DataW H × List MemPlace) (hl : cs.length = 1) (h : DataW.trod enc Try.prog W 0 (fun _ => true) held n 9 cs = some y) : GoodStr cs := by
  obtain ⟨s, rfl, _⟩ := DataW.trod_string Try.underlying9 h
  exact ⟨s, rfl⟩

theorem cells_Cell : Try.prog.cellsOf 139 = 5 := by kernel_rfl
theorem bytes_Cell : Try.prog.bytesOf 139 = 48 := by kernel_rfl
theorem cells_sCell : Try.prog.cellsOf 64 = 1 := by kernel_rfl
theorem cells_Cond : Try.prog.cellsOf 145 = 2 := by kernel_rfl
theorem bytes_Cond : Try.prog.bytesOf 145 = 24 := by kernel_rfl
theorem cells_sCond : Try.prog.cellsOf 66 = 1 := by kernel_rfl
theorem cells_Lock : Try.prog.cellsOf 142 = 2 := by kernel_rfl
theorem bytes_Lock : Try.prog.bytesOf 142 = 24 := by kernel_rfl
theorem cells_sLock : Try.prog.cellsOf 65 = 1 := by kernel_rfl
theorem cells_Site : Try.prog.cellsOf 149 = 3 := by kernel_rfl
theorem bytes_Site : Try.prog.bytesOf 149 = 24 := by kernel_rfl
theorem cells_sSite : Try.prog.cellsOf 68 = 1 := by kernel_rfl
theorem bytes_string : Try.prog.bytesOf 9 = 16 := by kernel_rfl
theorem cells_sstring : Try.prog.cellsOf 67 = 1 := by kernel_rfl

theorem cells_world : Try.prog.cellsOf 70 = 6 := by kernel_rfl
set_option maxRecDepth 100000 in
theorem open_world {v : Value} {d : DataW H} {p : List MemPlace} {base : Nat} (hv : Value.okWide Try.prog W .any base 70 v) (h : DataW.Trod enc Try.prog W 0 (fun _ => true) held 70 v d p) (hw : ∀ n ∈ d.weights Try.prog 70, n ≤ reachBytes) :
    ∃ (A0 : Option Addr) (n0 c0 : Nat) (X0 : List Value) (A1 : Option Addr) (n1 c1 : Nat) (X1 : List Value) (A2 : Option Addr) (n2 c2 : Nat) (X2 : List Value) (A3 : Option Addr) (n3 c3 : Nat) (X3 : List Value) (A4 : Option Addr) (n4 c4 : Nat) (X4 : List Value) (A5 : Option Addr) (n5 c5 : Nat) (X5 : List Value), v = .agg #[.slice A0 n0 c0, .slice A1 n1 c1, .slice A2 n2 c2, .slice A3 n3 c3, .slice A4 n4 c4, .slice A5 n5 c5] ∧ (In1 W W.heap.size 5 48 A0 n0 c0 X0 ∧ In1 W W.heap.size 2 24 A1 n1 c1 X1 ∧ In1 W W.heap.size 2 24 A2 n2 c2 X2 ∧ In1 W W.heap.size 1 16 A3 n3 c3 X3 ∧ In1 W W.heap.size 1 16 A4 n4 c4 X4 ∧ In1 W W.heap.size 3 24 A5 n5 c5 X5) ∧ ((0 < n0 → ∃ b o, A0 = some ⟨b, o, none⟩) ∧ (0 < n1 → ∃ b o, A1 = some ⟨b, o, none⟩) ∧ (0 < n2 → ∃ b o, A2 = some ⟨b, o, none⟩) ∧ (0 < n3 → ∃ b o, A3 = some ⟨b, o, none⟩) ∧ (0 < n4 → ∃ b o, A4 = some ⟨b, o, none⟩) ∧ (0 < n5 → ∃ b o, A5 = some ⟨b, o, none⟩)) ∧ ((∀ k, k < n0 → AtCell X0 k) ∧ (∀ k, k < n1 → AtLock X1 k) ∧ (∀ k, k < n2 → AtCond X2 k) ∧ (∀ k, k < n3 → AtStr X3 k) ∧ (∀ k, k < n4 → AtStr X4 k) ∧ (∀ k, k < n5 → AtSite X5 k)) := by
  obtain ⟨cs, rfl, hsz⟩ := okWide_struct Try.underlying70 hv
  obtain ⟨fuel, hf⟩ := h
  rw [cells_world] at hsz
  obtain ⟨xs, n, _, hx, _, hxl, hg⟩ := DataW.trod_struct Try.underlying70 hf
  obtain ⟨l⟩ := cs
  match l, hsz, xs, hxl with
  | [c0, c1, c2, c3, c4, c5], _, [y0, y1, y2, y3, y4, y5], _ =>
    have hd : d = .agg [y0.1, y1.1, y2.1, y3.1, y4.1, y5.1] := by injection hx
    subst hd
    have hw2 : ∀ (j : Nat) (t : TypeId) (z : DataW H), ([64, 65, 66, 67, 67, 68] : List TypeId)[j]? = some t → [y0.1, y1.1, y2.1, y3.1, y4.1, y5.1][j]? = some z → ∀ n ∈ z.weights Try.prog t, n ≤ reachBytes := by
      intro j t z h1 h2 n hn
      refine hw n ?_
      have := DataW.weights_mem_each (P := Try.prog) h1 h2 n hn
      unfold DataW.weights
      rw [Try.underlying70]
      exact this
    have g0 := hg 0 _ rfl
    have g1 := hg 1 _ rfl
    have g2 := hg 2 _ rfl
    have g3 := hg 3 _ rfl
    have g4 := hg 4 _ rfl
    have g5 := hg 5 _ rfl
    simp only [Value.cells, cells_sCell, cells_sCond, cells_sLock, cells_sSite, cells_sstring, List.getElem_toArray, List.getElem_cons_zero, List.getElem_cons_succ, List.drop_zero, List.drop_succ_cons, List.take_succ_cons, List.take_zero, List.getElem?_cons_zero, List.getElem?_cons_succ] at g0 g1 g2 g3 g4 g5
    obtain ⟨A0, n0, k0, X0, q0, i0, a0, s0⟩ := open_flat (bytes := 48) Try.underlying64 cells_Cell bytes_Cell (by omega) GoodCell goodCell (fun _ h => h.one) g0 (hw2 0 _ _ rfl rfl)
    obtain ⟨A1, n1, k1, X1, q1, i1, a1, s1⟩ := open_flat (bytes := 24) Try.underlying65 cells_Lock bytes_Lock (by omega) GoodLock goodLock (fun _ h => h.one) g1 (hw2 1 _ _ rfl rfl)
    obtain ⟨A2, n2, k2, X2, q2, i2, a2, s2⟩ := open_flat (bytes := 24) Try.underlying66 cells_Cond bytes_Cond (by omega) GoodCond goodCond (fun _ h => h.one) g2 (hw2 2 _ _ rfl rfl)
    obtain ⟨A3, n3, k3, X3, q3, i3, a3, s3⟩ := open_flat (bytes := 16) Try.underlying67 cells_string bytes_string (by omega) GoodStr goodStr (fun _ h => h.one) g3 (hw2 3 _ _ rfl rfl)
    obtain ⟨A4, n4, k4, X4, q4, i4, a4, s4⟩ := open_flat (bytes := 16) Try.underlying67 cells_string bytes_string (by omega) GoodStr goodStr (fun _ h => h.one) g4 (hw2 4 _ _ rfl rfl)
    obtain ⟨A5, n5, k5, X5, q5, i5, a5, s5⟩ := open_flat (bytes := 24) Try.underlying68 cells_Site bytes_Site (by omega) GoodSite goodSite (fun _ h => h.one) g5 (hw2 5 _ _ rfl rfl)
    simp only [List.cons.injEq, and_true] at q0 q1 q2 q3 q4 q5
    subst q0 q1 q2 q3 q4 q5
    exact ⟨A0, n0, k0, X0, A1, n1, k1, X1, A2, n2, k2, X2, A3, n3, k3, X3, A4, n4, k4, X4, A5, n5, k5, X5, rfl, ⟨i0, i1, i2, i3, i4, i5⟩, ⟨a0, a1, a2, a3, a4, a5⟩, ⟨(fun k hk => by obtain ⟨cs', _, g, e⟩ := s0 k hk; exact g.at e), (fun k hk => by obtain ⟨cs', _, g, e⟩ := s1 k hk; exact g.at e), (fun k hk => by obtain ⟨cs', _, g, e⟩ := s2 k hk; exact g.at e), (fun k hk => by obtain ⟨cs', _, g, e⟩ := s3 k hk; exact g.at e), (fun k hk => by obtain ⟨cs', _, g, e⟩ := s4 k hk; exact g.at e), (fun k hk => by obtain ⟨cs', _, g, e⟩ := s5 k hk; exact g.at e)⟩⟩

theorem cells_bytes : Try.prog.cellsOf 27 = 1 := by kernel_rfl
theorem cells_u8 : Try.prog.cellsOf 5 = 1 := by kernel_rfl
set_option maxRecDepth 100000 in
theorem open_files0 {fuel : Nat} {cs : List Value} {x : DataW H × List MemPlace} (h : DataW.trod enc Try.prog W 0 (fun _ => true) held fuel 49 cs = some x) :
    ∃ (A : Option Addr) (n c : Nat) (fs : List Bytes), cs = [.slice A n c] ∧ FIn W W.heap.size A n fs ∧ n ≤ maxLen := by
  rcases DataW.trod_slice Try.underlying49 h with ⟨rfl, _⟩ | ⟨a, len, cap, elems, rest, m, _, rfl, _, hb, hl, hm, hlen, hel, _, _⟩
  · exact ⟨none, 0, 0, [], rfl, ⟨rfl, fun k e he => by simp at he⟩, Nat.zero_le _⟩
  · have each : ∀ i, i < len → ∃ f : Bytes, ∃ (b o : Nat) (Ai : Option Addr) (ni ci : Nat), some a = some ⟨b, o, none⟩ ∧ b < W.heap.size ∧ W.cell? ⟨b, o + i, none⟩ = some (.slice Ai ni ci) ∧ Lies W W.heap.size 1 Ai ni (f.map bv) ∧ ni ≤ ci ∧ ci ≤ maxLen ∧ (Ai = none → ci = 0) := by
      intro i hi
      have h0 := hel 0 (by omega)
      rw [List.getElem?_eq_getElem (by omega), cells_bytes, Option.bind_eq_some_iff] at h0
      obtain ⟨cs0, hcs0, _⟩ := h0
      obtain ⟨_, hcl0, hat0⟩ := World.cells?_some hcs0
      have h2 := hat0 0 (by omega)
      rw [List.getElem?_eq_getElem (by omega)] at h2
      simp only [Nat.zero_mul, Addr.add, if_true] at h2
      obtain ⟨b, o, sp⟩ := a
      have hsp : sp = none := World.cell?_spot h2
      subst hsp
      have h1 := hel i hi
      rw [List.getElem?_eq_getElem (by omega), cells_bytes, Option.bind_eq_some_iff] at h1
      obtain ⟨cs', hcs, hy⟩ := h1
      obtain ⟨_, hcl, hat⟩ := World.cells?_some hcs
      obtain ⟨A, n, c, xs, rfl, q1, q2, q3, q4⟩ := open_bytes Try.underlying27 Try.underlying5 cells_u8 hy
      have q0 := hat 0 (by omega)
      rw [addAdd, Nat.mul_one, Nat.add_zero, add_at] at q0
      exact ⟨xs, b, o, A, n, c, rfl, World.block_lt_of_cell? W _ q0, q0, q1, q2, q3, q4⟩
    obtain ⟨rs, hrl, hrs⟩ := list_of len each
    exact ⟨some a, len, cap, rs, rfl, ⟨hrl, fun k r hr => hrs k r hr⟩, Nat.le_trans hl hm⟩
set_option maxRecDepth 100000 in
theorem open_files {v : Value} {d : DataW H} {p : List MemPlace} {base : Nat} (hv : Value.okWide Try.prog W .any base 49 v) (h : DataW.Trod enc Try.prog W 0 (fun _ => true) held 49 v d p) :
    ∃ (A : Option Addr) (n c : Nat) (fs : List Bytes), v = .slice A n c ∧ FIn W W.heap.size A n fs ∧ n ≤ maxLen := by
  obtain ⟨b, l, c, rfl⟩ := okWide_slice Try.underlying49 hv
  obtain ⟨fuel, hf⟩ := h
  obtain ⟨A, n, m, fs, e, hF, hn⟩ := open_files0 hf
  simp only [Value.cells, List.cons.injEq, and_true, Value.slice.injEq] at e
  obtain ⟨rfl, rfl, rfl⟩ := e
  exact ⟨_, _, _, fs, rfl, hF, hn⟩
end
end Go.Proofs.Ytlofjhcjjcohfaa
