/- How a slice of records and a block that came in read. -/
import Derived.Test.YtlofjhcjjcohfaaOpenRec
import Derived.Test.YtlofjhcjjcohfaaEnc
namespace Go.Proofs.Ytlofjhcjjcohfaa
open Go Go.RowKit Go.ChangeShapes Go.WideShapes Go.ChangeAt Iv
set_option linter.unusedVariables false

theorem list_of {α : Type} {P : Nat → α → Prop} (n : Nat) (h : ∀ i, i < n → ∃ r, P i r) : ∃ rs : List α, rs.length = n ∧ ∀ k r, rs[k]? = some r → P k r := by
  induction n with
  | zero => exact ⟨[], rfl, fun k r hr => by simp at hr⟩
  | succ n ih =>
    obtain ⟨rs, hl, hp⟩ := ih fun i hi => h i (by omega)
    obtain ⟨r, hr⟩ := h n (by omega)
    refine ⟨rs ++ [r], by simp [hl], fun k q hq => ?_⟩
    by_cases hk : k < n
    · rw [List.getElem?_append_left (by omega)] at hq
      exact hp k q hq
    · have hkl : k < n + 1 := by have := (List.getElem?_eq_some_iff.1 hq).1; simp [hl] at this; omega
      have hkn : k = n := by omega
      subst hkn
      rw [List.getElem?_append_right (by omega), hl, Nat.sub_self] at hq
      simp at hq
      rw [← hq]
      exact hr

theorem nums_of {W : World} {r : Rec} {Ad : Option Addr} {nd cd : Nat} {Af : Option Addr} {nf cf : Nat} (h : RecIn W r Ad nd cd Af nf cf) : RecNums r := ⟨h.seq, h.thread, h.kind, h.obj, h.value, h.site, h.deps, h.from_⟩

section
variable {H : Type} {enc : TypeId × Value → H} {W : World} {held : Bool}

set_option maxRecDepth 100000 in
theorem open_recs {fuel : Nat} {cs : List Value} {x : DataW H × List MemPlace} (h : DataW.trod enc Try.prog W 0 (fun _ => true) held fuel 36 cs = some x) :
    ∃ (A : Option Addr) (n c : Nat) (rs : List Rec), cs = [.slice A n c] ∧ Recs W W.heap.size A n rs ∧ n ≤ c ∧ c ≤ maxLen ∧ (A = none → c = 0) ∧ ∀ r ∈ rs, RecNums r := by
  rcases DataW.trod_slice Try.underlying36 h with ⟨rfl, _⟩ | ⟨a, len, cap, elems, rest, m, _, rfl, _, hb, hl, hm, hlen, hel, _, _⟩
  · exact ⟨none, 0, 0, [], rfl, Recs.nil, Nat.le_refl _, Nat.zero_le _, fun _ => rfl, fun r hr => by simp at hr⟩
  · have hsp0 : 0 < len → a.spot = none := by
      intro h0
      have h1 := hel 0 h0
      have hi2 : 0 < elems.length := by omega
      rw [List.getElem?_eq_getElem hi2, cells_record, Option.bind_eq_some_iff] at h1
      obtain ⟨cs', hcs, _⟩ := h1
      obtain ⟨_, hcl, hat⟩ := World.cells?_some hcs
      have h2 := hat 0 (by omega)
      rw [List.getElem?_eq_getElem (by omega)] at h2
      simp only [Nat.zero_mul, Addr.add, if_true] at h2
      exact World.cell?_spot h2
    have each : ∀ i, i < len → ∃ r : Rec, RecNums r ∧ ∃ (b o : Nat) (Ad : Option Addr) (nd cd : Nat) (Af : Option Addr) (nf cf : Nat), a = ⟨b, o, none⟩ ∧ b < W.heap.size ∧ RecHere W W.heap.size b (o + i * 8) r Ad nd cd Af nf cf := by
      intro i hi
      have h1 := hel i hi
      have hi2 : i < elems.length := by omega
      rw [List.getElem?_eq_getElem hi2, cells_record, Option.bind_eq_some_iff] at h1
      obtain ⟨cs', hcs, hy⟩ := h1
      obtain ⟨_, hcl, hat⟩ := World.cells?_some hcs
      obtain ⟨r, Ad, nd, cd, Af, nf, cf, e, hr⟩ := open_rec_cells hcl hy
      have hc : ∀ j u, (recV r Ad nd cd Af nf cf)[j]? = some u → W.cell? ((a.add (i * 8)).add j) = some u := by
        intro j u hu
        have hj : j < 8 := (Array.getElem?_eq_some_iff.1 hu).1
        rw [hat j hj, e]
        rw [← hu]
        simp
      have h0 := hc 0 (.int .i64 r.seq) rfl
      obtain ⟨b, o, sp⟩ := a
      have hsp : sp = none := by
        exact hsp0 (by omega)
      subst hsp
      have hbl : b < W.heap.size := by
        have := World.block_lt_of_cell? W _ h0
        rwa [addBlock, addBlock] at this
      refine ⟨r, nums_of hr, b, o, Ad, nd, cd, Af, nf, cf, rfl, hbl, ?_, hr.ld, hr.lf⟩
      intro j u hu
      have := hc j u hu
      rw [addAdd] at this
      unfold Addr.add at this
      split at this
      · rename_i hz
        have h1 : i * 8 = 0 := by omega
        have h2 : j = 0 := by omega
        rw [h1, h2]
        exact this
      · simpa [Nat.add_assoc] using this
    obtain ⟨rs, hrl, hrs⟩ := list_of len each
    refine ⟨some a, len, cap, rs, rfl, ⟨hrl, fun k r hr => ?_⟩, hl, hm, (fun e => by cases e), fun r hr => ?_⟩
    · obtain ⟨_, b, o, Ad, nd, cd, Af, nf, cf, e, h2, h3⟩ := hrs k r hr
      exact ⟨b, o, Ad, nd, cd, Af, nf, cf, by rw [e], h2, h3⟩
    · obtain ⟨k, hk⟩ := List.getElem?_of_mem hr
      exact (hrs k r hk).1

theorem cells_block : Try.prog.cellsOf 38 = 3 := by kernel_rfl
theorem cells_recs : Try.prog.cellsOf 36 = 1 := by kernel_rfl
set_option maxRecDepth 100000 in
theorem open_blk {v : Value} {d : DataW H} {p : List MemPlace} {base : Nat} (hv : Value.okWide Try.prog W .any base 38 v) (h : DataW.Trod enc Try.prog W 0 (fun _ => true) held 38 v d p) :
    ∃ (x : Blk) (A : Option Addr) (n c : Nat), v = .agg #[.int .i64 x.thread, .int .i64 x.first, .slice A n c] ∧ Recs W W.heap.size A n x.recs ∧ (∀ r ∈ x.recs, RecNums r) ∧ n ≤ c ∧ c ≤ maxLen ∧ (A = none → c = 0) ∧ inI64 x.thread ∧ inI64 x.first := by
  obtain ⟨cs, rfl, hsz⟩ := okWide_struct Try.underlying38 hv
  obtain ⟨fuel, hf⟩ := h
  rw [cells_block] at hsz
  obtain ⟨xs, n, _, _, _, hxl, hg⟩ := DataW.trod_struct Try.underlying38 hf
  obtain ⟨l⟩ := cs
  match l, hsz, xs, hxl with
  | [c0, c1, c2], _, [y0, y1, y2], _ =>
    have g0 := hg 0 _ rfl
    have g1 := hg 1 _ rfl
    have g2 := hg 2 _ rfl
    simp only [Value.cells, cells_int, cells_recs, List.getElem_toArray, List.getElem_cons_zero, List.getElem_cons_succ, List.drop_zero, List.drop_succ_cons, List.take_succ_cons, List.take_zero, List.getElem?_cons_zero, List.getElem?_cons_succ] at g0 g1 g2
    obtain ⟨a0, e0, i0⟩ := trod_i64 Try.underlying3 g0
    obtain ⟨a1, e1, i1⟩ := trod_i64 Try.underlying3 g1
    obtain ⟨A, k, c, rs, e2, hR, u1, u2, u3, hn⟩ := open_recs g2
    simp only [List.cons.injEq, and_true] at e0 e1 e2
    subst e0 e1 e2
    exact ⟨⟨a0, a1, rs⟩, A, k, c, rfl, hR, hn, u1, u2, u3, i0, i1⟩
end
end Go.Proofs.Ytlofjhcjjcohfaa
