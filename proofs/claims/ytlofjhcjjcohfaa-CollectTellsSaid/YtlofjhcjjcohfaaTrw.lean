/- Words for the walks of the two Traces (chapter 15): rows of events; blocks between two marks of the heap; files that came in. -/
import Derived.Test.YtlofjhcjjcohfaaBrow
import Derived.Test.YtlofjhcjjcohfaaRdP
import Derived.Test.YtlofjhcjjcohfaaPtr3
namespace Go.Proofs.Ytlofjhcjjcohfaa
open Go Go.RowKit Iv
set_option linter.unusedVariables false

theorem info_ev : (Try.prog.info? 24).map (fun i => (i.zero, i.size, i.bytes)) = some (some (.agg #[.int .i64 0, .int .i64 0, .int .i64 0, .int .i64 0, .int .i64 0, .slice none 0 0, .slice none 0 0]), 7, 88) := by kernel_rfl
theorem evV_one (r : Ev) (Ad : Option Addr) (nd cd : Nat) (Af : Option Addr) (nf cf : Nat) : ∀ u ∈ (evV r Ad nd cd Af nf cf).toList, u.oneCell' = true := by
  intro v hv
  simp only [evV, List.mem_cons, List.not_mem_nil, or_false] at hv
  rcases hv with h | h | h | h | h | h | h <;> rw [h] <;> rfl

/-- No block between two marks. -/
def Rng (lo B : Nat) (row : Option Nat) : Prop := ∀ g, row = some g → g < lo ∨ B ≤ g
theorem Rng.none (lo B : Nat) : Rng lo B none := fun g e => nomatch e
/-- A record between two marks, with its lists. -/
structure RecB (w : World) (lo B b o : Nat) (r : Rec) (Ad : Option Addr) (nd cd : Nat) (Af : Option Addr) (nf cf : Nat) : Prop where
  lob : lo ≤ b
  hib : b < B
  cells : ∀ j u, (recV r Ad nd cd Af nf cf)[j]? = some u → w.cell? ⟨b, o + j, none⟩ = some u
  ld : Lies w B 1 Ad nd (r.ev.deps.map iv)
  lf : Lies w B 1 Af nf (r.ev.from_.map iv)
  lod : Lo lo Ad nd
  lof : Lo lo Af nf
theorem lies_keepB {w w' : World} {lo B sz n : Nat} {A : Option Addr} {xs : List Value} {row : Option Nat} (h : Lies w B sz A n xs) (hl : Lo lo A n) (hg : w.grownBy w' row) (hB : B ≤ w.heap.size) (hr : Rng lo B row) : Lies w' B sz A n xs := by
  refine ⟨h.1, fun hn => ?_⟩
  obtain ⟨ad, e, hb, hc⟩ := h.2 hn
  refine ⟨ad, e, hb, fun j u hu => ?_⟩
  refine Eq.trans (World.cell?_of_block (hg.block (ad.add j).block (by rw [addBlock]; omega) ?_)) (hc j u hu)
  rw [addBlock]
  intro e2
  have h1 := hl hn ad e
  have h2 := hr _ e2.symm
  omega
theorem RecB.keep {w w' : World} {lo B b o : Nat} {r : Rec} {Ad : Option Addr} {nd cd : Nat} {Af : Option Addr} {nf cf : Nat} {row : Option Nat} (h : RecB w lo B b o r Ad nd cd Af nf cf) (hg : w.grownBy w' row) (hB : B ≤ w.heap.size) (hr : Rng lo B row) : RecB w' lo B b o r Ad nd cd Af nf cf :=
  ⟨h.lob, h.hib, fun j u hu => Eq.trans (World.cell?_of_block (hg.block b (by have := h.hib; omega) (fun e => by have h1 := hr b e.symm; have h2 := h.lob; have h3 := h.hib; omega))) (h.cells j u hu), lies_keepB h.ld h.lod hg hB hr, lies_keepB h.lf h.lof hg hB hr, h.lod, h.lof⟩
/-- The events of a row's cells; their lists lie between two marks. -/
structure EvB (w : World) (lo B : Nat) (css : List Value) (k : Nat) (r : Ev) (Ad : Option Addr) (nd cd : Nat) (Af : Option Addr) (nf cf : Nat) : Prop where
  cells : ∀ j u, (evV r Ad nd cd Af nf cf)[j]? = some u → css[k * 7 + j]? = some u
  ld : Lies w B 1 Ad nd (r.deps.map iv)
  lf : Lies w B 1 Af nf (r.from_.map iv)
  lod : Lo lo Ad nd
  lof : Lo lo Af nf
def EvsB (w : World) (lo B : Nat) (css : List Value) (rs : List Ev) : Prop :=
  css.length = rs.length * 7 ∧ ∀ k r, rs[k]? = some r → ∃ (Ad : Option Addr) (nd cd : Nat) (Af : Option Addr) (nf cf : Nat), EvB w lo B css k r Ad nd cd Af nf cf
theorem EvsB.nil (w : World) (lo B : Nat) : EvsB w lo B [] [] := ⟨rfl, fun k r hr => by simp at hr⟩
theorem EvsB.keep {w w' : World} {lo B : Nat} {css : List Value} {rs : List Ev} {row : Option Nat} (h : EvsB w lo B css rs) (hg : w.grownBy w' row) (hB : B ≤ w.heap.size) (hr : Rng lo B row) : EvsB w' lo B css rs :=
  ⟨h.1, fun k r hk => by
    obtain ⟨Ad, nd, cd, Af, nf, cf, q⟩ := h.2 k r hk
    exact ⟨Ad, nd, cd, Af, nf, cf, q.cells, lies_keepB q.ld q.lod hg hB hr, lies_keepB q.lf q.lof hg hB hr, q.lod, q.lof⟩⟩
theorem EvsB.snoc {w : World} {lo B : Nat} {css : List Value} {rs : List Ev} (h : EvsB w lo B css rs) {r : Ev} {Ad : Option Addr} {nd cd : Nat} {Af : Option Addr} {nf cf : Nat}
    (h1 : Lies w B 1 Ad nd (r.deps.map iv)) (h2 : Lies w B 1 Af nf (r.from_.map iv)) (h3 : Lo lo Ad nd) (h4 : Lo lo Af nf) : EvsB w lo B (css ++ (evV r Ad nd cd Af nf cf).toList) (rs ++ [r]) := by
  refine ⟨by rw [List.length_append, h.1, List.length_append]; unfold evV; simp [Nat.add_mul], fun k q hq => ?_⟩
  by_cases hk : k < rs.length
  · rw [List.getElem?_append_left hk] at hq
    obtain ⟨Ad', nd', cd', Af', nf', cf', z⟩ := h.2 k q hq
    refine ⟨Ad', nd', cd', Af', nf', cf', fun j u hu => ?_, z.ld, z.lf, z.lod, z.lof⟩
    have := z.cells j u hu
    rw [List.getElem?_append_left (List.getElem?_eq_some_iff.1 this).1]
    exact this
  · have hkl : k < rs.length + 1 := by have := (List.getElem?_eq_some_iff.1 hq).1; simpa using this
    have hkn : k = rs.length := by omega
    subst hkn
    rw [List.getElem?_append_right (Nat.le_refl _), Nat.sub_self] at hq
    simp only [List.getElem?_cons_zero, Option.some.injEq] at hq
    subst hq
    refine ⟨Ad, nd, cd, Af, nf, cf, fun j u hu => ?_, h1, h2, h3, h4⟩
    rw [List.getElem?_append_right (by rw [h.1]; omega), h.1, Nat.add_sub_cancel_left]
    simpa using hu
def RecsB (w : World) (lo B : Nat) (A : Option Addr) (n : Nat) (rs : List Rec) : Prop :=
  rs.length = n ∧ ∀ k r, rs[k]? = some r → ∃ (b o : Nat) (Ad : Option Addr) (nd cd : Nat) (Af : Option Addr) (nf cf : Nat), A = some ⟨b, o, none⟩ ∧ RecB w lo B b (o + k * 8) r Ad nd cd Af nf cf
def BlksB (w : World) (lo B : Nat) (css : List Value) (xs : List Blk) : Prop :=
  css.length = xs.length * 3 ∧ ∀ k x, xs[k]? = some x → ∃ (A : Option Addr) (n c : Nat), (∀ j u, (blkV x A n c)[j]? = some u → css[k * 3 + j]? = some u) ∧ RecsB w lo B A n x.recs ∧ n ≤ c ∧ c ≤ maxLen ∧ (A = none → c = 0)
theorem BlksAt.toB {w : World} {lo : Nat} {o : Option Nat} {css : List Value} {xs : List Blk} (h : BlksAt w lo o css xs) : BlksB w lo w.heap.size css xs :=
  ⟨h.1, fun k x hx => by
    obtain ⟨A, n, c, q1, q2, q3⟩ := h.2 k x hx
    refine ⟨A, n, c, q1, ⟨q2.1, fun i r hr => ?_⟩, q3⟩
    obtain ⟨b, f, Ad, nd, cd, Af, nf, cf, e, hb, q, o1, o2⟩ := q2.2 i r hr
    exact ⟨b, f, Ad, nd, cd, Af, nf, cf, e, q.lob, q.hib, q.cells, q.ld, q.lf, q.lod, q.lof⟩⟩
theorem RecsB.keep {w w' : World} {lo B n : Nat} {A : Option Addr} {rs : List Rec} {row : Option Nat} (h : RecsB w lo B A n rs) (hg : w.grownBy w' row) (hB : B ≤ w.heap.size) (hr : Rng lo B row) : RecsB w' lo B A n rs :=
  ⟨h.1, fun i r hi => by
    obtain ⟨b, f, Ad, nd, cd, Af, nf, cf, e, q⟩ := h.2 i r hi
    exact ⟨b, f, Ad, nd, cd, Af, nf, cf, e, q.keep hg hB hr⟩⟩
theorem BlksB.keep {w w' : World} {lo B : Nat} {css : List Value} {xs : List Blk} {row : Option Nat} (h : BlksB w lo B css xs) (hg : w.grownBy w' row) (hB : B ≤ w.heap.size) (hr : Rng lo B row) : BlksB w' lo B css xs :=
  ⟨h.1, fun k x hx => by
    obtain ⟨A, n, c, q1, q2, q3⟩ := h.2 k x hx
    exact ⟨A, n, c, q1, q2.keep hg hB hr, q3⟩⟩
/-- The cells of a block's records, to be appended to a row that lies elsewhere. -/
theorem RecsB.src {w : World} {lo B n : Nat} {A : Option Addr} {rs : List Rec} (h : RecsB w lo B A n rs) (hB : B ≤ w.heap.size) : ∃ news : List Value, Lies w B 8 A n news ∧ (∀ u ∈ news, u.oneCell' = true) ∧
    ∀ (base : Nat) (o : Option Nat) (css : List Value) (rs0 : List Rec), base ≤ lo → Rng lo B o → RowsAt w base o css rs0 → RowsAt w base o (css ++ news) (rs0 ++ rs) := by
  obtain ⟨hn, hk⟩ := h
  have key : ∀ m, m ≤ n → ∃ news : List Value, news.length = m * 8 ∧ (∀ u ∈ news, u.oneCell' = true) ∧ (∀ b f, A = some ⟨b, f, none⟩ → ∀ j u, news[j]? = some u → w.cell? ⟨b, f + j, none⟩ = some u) ∧
      ∀ (base : Nat) (o : Option Nat) (css : List Value) (rs0 : List Rec), base ≤ lo → Rng lo B o → RowsAt w base o css rs0 → RowsAt w base o (css ++ news) (rs0 ++ rs.take m) := by
    intro m
    induction m with
    | zero => intro _; exact ⟨[], rfl, fun u hu => by simp at hu, fun b f _ j u hu => by simp at hu, fun base o css rs0 _ _ h0 => by simpa using h0⟩
    | succ m ih =>
      intro hm
      obtain ⟨news, h1, h2, h3, h4⟩ := ih (by omega)
      have hmr : rs[m]? = some rs[m] := List.getElem?_eq_getElem (by omega)
      obtain ⟨b, f, Ad, nd, cd, Af, nf, cf, e, q⟩ := hk m rs[m] hmr
      refine ⟨news ++ (recV rs[m] Ad nd cd Af nf cf).toList, by rw [List.length_append, h1]; simp [recV]; omega, fun u hu => ?_, fun b' f' e' j u hu => ?_, fun base o css rs0 hb ho h0 => ?_⟩
      · rcases List.mem_append.1 hu with h | h
        · exact h2 u h
        · simp only [recV, List.mem_cons, List.not_mem_nil, or_false] at h
          rcases h with h | h | h | h | h | h | h | h <;> rw [h] <;> rfl
      · rw [e] at e'
        injection e' with e'
        injection e' with e1 e2
        subst e1 e2
        by_cases hj : j < news.length
        · rw [List.getElem?_append_left hj] at hu
          exact h3 _ _ e j u hu
        · rw [List.getElem?_append_right (by omega), h1] at hu
          have := q.cells (j - m * 8) u (by rwa [Array.getElem?_toList] at hu)
          rw [show f + m * 8 + (j - m * 8) = f + j by omega] at this
          exact this
      · have := (h4 base o css rs0 hb ho h0).snoc (r := rs[m]) (Ad := Ad) (nd := nd) (cd := cd) (Af := Af) (nf := nf) (cf := cf) (q.ld.more hB) (q.lf.more hB)
          (fun hn ad e hb' => by have h5 := q.lod hn ad e; have h6 := ho _ hb'.symm; obtain ⟨ad', e', hb2, _⟩ := q.ld.2 hn; rw [e] at e'; injection e' with e'; subst e'; omega)
          (fun hn ad e hb' => by have h5 := q.lof hn ad e; have h6 := ho _ hb'.symm; obtain ⟨ad', e', hb2, _⟩ := q.lf.2 hn; rw [e] at e'; injection e' with e'; subst e'; omega)
          (q.lod.lower hb) (q.lof.lower hb)
        rw [List.append_assoc, List.append_assoc] at this
        rw [List.take_add_one, hmr]
        exact this
  obtain ⟨news, h1, h2, h3, h4⟩ := key n (Nat.le_refl _)
  refine ⟨news, ⟨h1, fun h0 => ?_⟩, h2, fun base o css rs0 hb ho h0 => by have := h4 base o css rs0 hb ho h0; rwa [← hn, List.take_length] at this⟩
  obtain ⟨b, f, Ad, nd, cd, Af, nf, cf, e, q⟩ := hk 0 (rs[0]'(by omega)) (List.getElem?_eq_getElem (by omega))
  refine ⟨⟨b, f, none⟩, e, q.hib, fun j u hu => ?_⟩
  rw [show (⟨b, f, none⟩ : Addr).add j = ⟨b, f + j, none⟩ by unfold Addr.add; split <;> simp_all]
  exact h3 b f e j u hu
/-- Files that came in. -/
def FIn (w : World) (B : Nat) (A : Option Addr) (n : Nat) (fs : List Bytes) : Prop :=
  fs.length = n ∧ ∀ k f, fs[k]? = some f → ∃ (b o : Nat) (Ai : Option Addr) (ni ci : Nat), A = some ⟨b, o, none⟩ ∧ b < B ∧ w.cell? ⟨b, o + k, none⟩ = some (.slice Ai ni ci) ∧ Lies w B 1 Ai ni (f.map bv) ∧ ni ≤ ci ∧ ci ≤ maxLen ∧ (Ai = none → ci = 0)
theorem FIn.grown {w w' : World} {B n : Nat} {A : Option Addr} {fs : List Bytes} {row : Option Nat} (h : FIn w B A n fs) (hg : w.grownBy w' row) (hB : B ≤ w.heap.size) (hr : ∀ g, row = some g → B ≤ g) : FIn w' B A n fs :=
  ⟨h.1, fun k f hf => by
    obtain ⟨b, o, Ai, ni, ci, e, hb, hc, hl, q⟩ := h.2 k f hf
    exact ⟨b, o, Ai, ni, ci, e, hb, Eq.trans (World.cell?_of_block (hg.block b (by omega) (fun e2 => by have := hr b e2.symm; omega))) hc, hl.grown hg hB hr, q⟩⟩
end Go.Proofs.Ytlofjhcjjcohfaa
