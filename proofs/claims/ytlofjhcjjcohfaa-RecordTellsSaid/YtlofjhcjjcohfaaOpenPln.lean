/- How a list of events and a plan that came in read. -/
import Derived.Test.YtlofjhcjjcohfaaOpenBlk
import Derived.Test.YtlofjhcjjcohfaaPln
namespace Go.Proofs.Ytlofjhcjjcohfaa
open Go Go.RowKit Go.ChangeShapes Go.WideShapes Go.ChangeAt Iv
set_option linter.unusedVariables false

theorem cells_flush : Try.prog.cellsOf 55 = 2 := by kernel_rfl
theorem cells_plan : Try.prog.cellsOf 47 = 4 := by kernel_rfl
theorem cells_flushes : Try.prog.cellsOf 45 = 1 := by kernel_rfl

section
variable {H : Type} {enc : TypeId × Value → H} {W : World} {held : Bool}

set_option maxRecDepth 100000 in
theorem open_events {fuel : Nat} {cs : List Value} {x : DataW H × List MemPlace} (h : DataW.trod enc Try.prog W 0 (fun _ => true) held fuel 44 cs = some x) :
    ∃ (A : Option Addr) (n c : Nat) (es : List Ev), cs = [.slice A n c] ∧ Evs W W.heap.size A n es ∧ n ≤ c ∧ c ≤ maxLen ∧ (A = none → c = 0) ∧ ∀ e ∈ es, RecFit ⟨0, e⟩ := by
  rcases DataW.trod_slice Try.underlying44 h with ⟨rfl, _⟩ | ⟨a, len, cap, elems, rest, m, _, rfl, _, hb, hl, hm, hlen, hel, _, _⟩
  · exact ⟨none, 0, 0, [], rfl, ⟨rfl, fun k e he => by simp at he⟩, Nat.le_refl _, Nat.zero_le _, fun _ => rfl, fun r hr => by simp at hr⟩
  · have hsp0 : 0 < len → a.spot = none := by
      intro h0
      have h1 := hel 0 h0
      have hi2 : 0 < elems.length := by omega
      rw [List.getElem?_eq_getElem hi2, cells_event, Option.bind_eq_some_iff] at h1
      obtain ⟨cs', hcs, _⟩ := h1
      obtain ⟨_, hcl, hat⟩ := World.cells?_some hcs
      have h2 := hat 0 (by omega)
      rw [List.getElem?_eq_getElem (by omega)] at h2
      simp only [Nat.zero_mul, Addr.add, if_true] at h2
      exact World.cell?_spot h2
    have each : ∀ i, i < len → ∃ e : Ev, RecFit ⟨0, e⟩ ∧ ∃ (b o : Nat) (Ad : Option Addr) (cd : Nat) (Af : Option Addr) (cf : Nat), a = ⟨b, o, none⟩ ∧ b < W.heap.size ∧
        (∀ j u, (#[.int .i64 e.thread, .int .i64 e.kind, .int .i64 e.obj, .int .i64 e.value, .int .i64 e.site, .slice Ad e.deps.length cd, .slice Af e.from_.length cf] : Array Value)[j]? = some u → W.cell? ⟨b, o + i * 7 + j, none⟩ = some u) ∧ Lies W W.heap.size 1 Ad e.deps.length (e.deps.map iv) ∧ Lies W W.heap.size 1 Af e.from_.length (e.from_.map iv) := by
      intro i hi
      have h1 := hel i hi
      have hi2 : i < elems.length := by omega
      rw [List.getElem?_eq_getElem hi2, cells_event, Option.bind_eq_some_iff] at h1
      obtain ⟨cs', hcs, hy⟩ := h1
      obtain ⟨_, hcl, hat⟩ := World.cells?_some hcs
      obtain ⟨e, Ad, nd, cd, Af, nf, cf, ee, ⟨i0, i1, i2, i3, i4, i5, i6⟩, ld, lf, _, _⟩ := open_event_cells hcl hy
      have hdl : e.deps.length = nd := ld.lenI
      have hfl : e.from_.length = nf := lf.lenI
      subst hdl hfl
      have hc : ∀ j u, (#[.int .i64 e.thread, .int .i64 e.kind, .int .i64 e.obj, .int .i64 e.value, .int .i64 e.site, .slice Ad e.deps.length cd, .slice Af e.from_.length cf] : Array Value)[j]? = some u → W.cell? ((a.add (i * 7)).add j) = some u := by
        intro j u hu
        have hj : j < 7 := (Array.getElem?_eq_some_iff.1 hu).1
        rw [hat j hj, ee]
        rw [← hu]
        simp
      have h0 := hc 0 (.int .i64 e.thread) rfl
      obtain ⟨b, o, sp⟩ := a
      have hsp : sp = none := by
        exact hsp0 (by omega)
      subst hsp
      have hbl : b < W.heap.size := by
        have := World.block_lt_of_cell? W _ h0
        rwa [addBlock, addBlock] at this
      refine ⟨e, ⟨(show inI64 0 from ⟨by decide, by decide⟩), i0, i1, i2, i3, i4, i5, i6⟩, b, o, Ad, cd, Af, cf, rfl, hbl, ?_, ld, lf⟩
      intro j u hu
      have := hc j u hu
      rw [addAdd] at this
      unfold Addr.add at this
      split at this
      · rename_i hz
        have h1 : i * 7 = 0 := by omega
        have h2 : j = 0 := by omega
        rw [h1, h2]
        exact this
      · simpa [Nat.add_assoc] using this
    obtain ⟨rs, hrl, hrs⟩ := list_of len each
    refine ⟨some a, len, cap, rs, rfl, ⟨hrl, fun k r hr => ?_⟩, hl, hm, (fun e => by cases e), fun r hr => ?_⟩
    · obtain ⟨_, b, o, Ad, cd, Af, cf, e, h2, h3⟩ := hrs k r hr
      exact ⟨b, o, Ad, cd, Af, cf, by rw [e], h2, h3⟩
    · obtain ⟨k, hk⟩ := List.getElem?_of_mem hr
      exact (hrs k r hk).1

set_option maxRecDepth 100000 in
theorem open_evl {v : Value} {d : DataW H} {p : List MemPlace} {base : Nat} (hv : Value.okWide Try.prog W .any base 44 v) (h : DataW.Trod enc Try.prog W 0 (fun _ => true) held 44 v d p) :
    ∃ (es : List Ev) (A : Option Addr) (n c : Nat), v = .slice A n c ∧ Evs W W.heap.size A n es ∧ n ≤ maxLen ∧ ∀ e ∈ es, RecFit ⟨0, e⟩ := by
  obtain ⟨b, l, c, rfl⟩ := okWide_slice Try.underlying44 hv
  obtain ⟨fuel, hf⟩ := h
  obtain ⟨A, n, m, es, e, hE, u1, u2, u3, hn⟩ := open_events hf
  simp only [Value.cells, List.cons.injEq, and_true, Value.slice.injEq] at e
  obtain ⟨rfl, rfl, rfl⟩ := e
  exact ⟨es, _, _, _, rfl, hE, by omega, hn⟩

set_option maxRecDepth 100000 in
theorem open_flushes {fuel : Nat} {cs : List Value} {x : DataW H × List MemPlace} (h : DataW.trod enc Try.prog W 0 (fun _ => true) held fuel 45 cs = some x) :
    ∃ (A : Option Addr) (n c : Nat) (fs : List (Int × Int)), cs = [.slice A n c] ∧ Fls W W.heap.size A n fs ∧ n ≤ c ∧ c ≤ maxLen ∧ (A = none → c = 0) := by
  rcases DataW.trod_slice Try.underlying45 h with ⟨rfl, _⟩ | ⟨a, len, cap, elems, rest, m, _, rfl, _, hb, hl, hm, hlen, hel, _, _⟩
  · exact ⟨none, 0, 0, [], rfl, ⟨rfl, fun k e he => by simp at he⟩, Nat.le_refl _, Nat.zero_le _, fun _ => rfl⟩
  · have hsp0 : 0 < len → a.spot = none := by
      intro h0
      have h1 := hel 0 h0
      have hi2 : 0 < elems.length := by omega
      rw [List.getElem?_eq_getElem hi2, cells_flush, Option.bind_eq_some_iff] at h1
      obtain ⟨cs', hcs, _⟩ := h1
      obtain ⟨_, hcl, hat⟩ := World.cells?_some hcs
      have h2 := hat 0 (by omega)
      rw [List.getElem?_eq_getElem (by omega)] at h2
      simp only [Nat.zero_mul, Addr.add, if_true] at h2
      exact World.cell?_spot h2
    have each : ∀ i, i < len → ∃ f : Int × Int, ∃ (b o : Nat), a = ⟨b, o, none⟩ ∧ b < W.heap.size ∧ W.cell? ⟨b, o + i * 2, none⟩ = some (.int .i64 f.1) ∧ W.cell? ⟨b, o + i * 2 + 1, none⟩ = some (.int .i64 f.2) := by
      intro i hi
      have h1 := hel i hi
      have hi2 : i < elems.length := by omega
      rw [List.getElem?_eq_getElem hi2, cells_flush, Option.bind_eq_some_iff] at h1
      obtain ⟨cs', hcs, hy⟩ := h1
      obtain ⟨_, hcl, hat⟩ := World.cells?_some hcs
      obtain ⟨xs, n, _, _, _, hxl, hg⟩ := DataW.trod_struct Try.underlying55 hy
      match cs', hcl, xs, hxl, hat with
      | [c0, c1], _, [y0, y1], _, hat =>
        have g0 := hg 0 _ rfl
        have g1 := hg 1 _ rfl
        simp only [cells_int, List.getElem_toArray, List.getElem_cons_zero, List.getElem_cons_succ, List.drop_zero, List.drop_succ_cons, List.take_succ_cons, List.take_zero, List.getElem?_cons_zero, List.getElem?_cons_succ] at g0 g1
        obtain ⟨a0, e0, _⟩ := trod_i64 Try.underlying3 g0
        obtain ⟨a1, e1, _⟩ := trod_i64 Try.underlying3 g1
        simp only [List.cons.injEq, and_true] at e0 e1
        subst e0 e1
        have q0 := hat 0 (by omega)
        have q1 := hat 1 (by omega)
        simp only [List.getElem?_cons_zero, List.getElem?_cons_succ] at q0 q1
        obtain ⟨b, o, sp⟩ := a
        have hsp : sp = none := hsp0 (by omega)
        subst hsp
        have hbl : b < W.heap.size := by
          have := World.block_lt_of_cell? W _ q0
          rwa [addBlock, addBlock] at this
        refine ⟨(a0, a1), b, o, rfl, hbl, ?_, ?_⟩
        · rw [addAdd] at q0
          unfold Addr.add at q0
          split at q0
          · rename_i hz
            have h1 : i * 2 = 0 := by omega
            rw [h1]
            exact q0
          · simpa using q0
        · rw [addAdd] at q1
          unfold Addr.add at q1
          split at q1
          · rename_i hz
            omega
          · simpa [Nat.add_assoc] using q1
    obtain ⟨rs, hrl, hrs⟩ := list_of len each
    refine ⟨some a, len, cap, rs, rfl, ⟨hrl, fun k r hr => ?_⟩, hl, hm, (fun e => by cases e)⟩
    obtain ⟨b, o, e, h2, h3, h4⟩ := hrs k r hr
    exact ⟨b, o, by rw [e], h2, h3, h4⟩

set_option maxRecDepth 100000 in
theorem open_plan {v : Value} {d : DataW H} {p : List MemPlace} {base : Nat} (hv : Value.okWide Try.prog W .any base 47 v) (h : DataW.Trod enc Try.prog W 0 (fun _ => true) held 47 v d p) :
    ∃ (x : Pln) (Af : Option Addr) (nf cf : Nat) (Ac : Option Addr) (nc cc : Nat), v = .agg (planV x Af nf cf Ac nc cc) ∧ Fls W W.heap.size Af nf x.flushes ∧ Lies W W.heap.size 1 Ac nc (x.cuts.map iv) ∧ nf ≤ maxLen ∧ nc ≤ maxLen ∧ inI64 x.stop ∧ allI64 x.cuts := by
  obtain ⟨cs, rfl, hsz⟩ := okWide_struct Try.underlying47 hv
  obtain ⟨fuel, hf⟩ := h
  rw [cells_plan] at hsz
  obtain ⟨xs, n, _, _, _, hxl, hg⟩ := DataW.trod_struct Try.underlying47 hf
  obtain ⟨l⟩ := cs
  match l, hsz, xs, hxl with
  | [c0, c1, c2, c3], _, [y0, y1, y2, y3], _ =>
    have g0 := hg 0 _ rfl
    have g1 := hg 1 _ rfl
    have g2 := hg 2 _ rfl
    have g3 := hg 3 _ rfl
    simp only [Value.cells, cells_int, cells_flushes, cells_ints, List.getElem_toArray, List.getElem_cons_zero, List.getElem_cons_succ, List.drop_zero, List.drop_succ_cons, List.take_succ_cons, List.take_zero, List.getElem?_cons_zero, List.getElem?_cons_succ] at g0 g1 g2 g3
    obtain ⟨a0, e0, i0⟩ := trod_i64 Try.underlying3 g0
    obtain ⟨A, k, c, fs, e1, hF, u1, u2, u3⟩ := open_flushes g1
    obtain ⟨a2, e2, i2⟩ := trod_i64 Try.underlying3 g2
    obtain ⟨A3, n3, k3, l3, e3, b3, u3', v3, o3, q3⟩ := open_intlist Try.underlying22 Try.underlying3 cells_int g3
    simp only [List.cons.injEq, and_true] at e0 e1 e2 e3
    subst e0 e1 e2 e3
    exact ⟨⟨a0, fs, a2, l3⟩, A, k, c, A3, n3, k3, rfl, hF, b3, by omega, by omega, i2, q3⟩
end
end Go.Proofs.Ytlofjhcjjcohfaa
