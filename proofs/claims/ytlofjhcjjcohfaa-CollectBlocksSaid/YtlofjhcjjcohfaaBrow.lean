/- Words for a row of blocks that the call's own appends made (chapter 15): three cells each; their records lie off the row. -/
import Derived.Test.YtlofjhcjjcohfaaRrow
import Derived.Test.YtlofjhcjjcohfaaPl
namespace Go.Proofs.Ytlofjhcjjcohfaa
open Go Go.RowKit Iv
set_option linter.unusedVariables false

/-- Records in blocks from lo on, none in block o. -/
def RecsOff (w : World) (lo : Nat) (o : Option Nat) (A : Option Addr) (n : Nat) (rs : List Rec) : Prop :=
  rs.length = n ∧ ∀ k r, rs[k]? = some r → ∃ (b f : Nat) (Ad : Option Addr) (nd cd : Nat) (Af : Option Addr) (nf cf : Nat), A = some ⟨b, f, none⟩ ∧ some b ≠ o ∧ RecN w lo b (f + k * 8) r Ad nd cd Af nf cf ∧ Off o Ad nd ∧ Off o Af nf
theorem RecsNew.off {w : World} {lo n : Nat} {A : Option Addr} {rs : List Rec} {o : Option Nat} (h : RecsNew w lo A n rs) (ho : ∀ g, o = some g → g < lo) : RecsOff w lo o A n rs :=
  ⟨h.1, fun k r hr => by
    obtain ⟨b, f, Ad, nd, cd, Af, nf, cf, e, q⟩ := h.2 k r hr
    exact ⟨b, f, Ad, nd, cd, Af, nf, cf, e, fun e2 => by have := ho b e2.symm; have := q.lob; omega, q, q.lod.off ho, q.lof.off ho⟩⟩
theorem RecsOff.new {w : World} {lo n : Nat} {A : Option Addr} {rs : List Rec} {o : Option Nat} (h : RecsOff w lo o A n rs) : RecsNew w lo A n rs :=
  ⟨h.1, fun k r hr => by
    obtain ⟨b, f, Ad, nd, cd, Af, nf, cf, e, _, q, _⟩ := h.2 k r hr
    exact ⟨b, f, Ad, nd, cd, Af, nf, cf, e, q⟩⟩
/-- The row in block o has grown, or moved to a new block o'. -/
theorem RecsOff.grow {w w' : World} {lo n : Nat} {A : Option Addr} {rs : List Rec} {o o' : Option Nat} (h : RecsOff w lo o A n rs) (hg : w.grownBy w' o) (hat : At w o o') : RecsOff w' lo o' A n rs :=
  ⟨h.1, fun k r hr => by
    obtain ⟨b, f, Ad, nd, cd, Af, nf, cf, e, hb, q, o1, o2⟩ := h.2 k r hr
    refine ⟨b, f, Ad, nd, cd, Af, nf, cf, e, ?_, ⟨q.lob, Nat.lt_of_lt_of_le q.hib hg.size, fun j u hu => ?_, (q.ld.grownOff o1 hg (Nat.le_refl _)).more hg.size, (q.lf.grownOff o2 hg (Nat.le_refl _)).more hg.size, q.lod, q.lof⟩, o1.at_ q.ld (Nat.le_refl _) hat, o2.at_ q.lf (Nat.le_refl _) hat⟩
    · rcases hat with rfl | ⟨g, rfl, hge⟩
      · exact hb
      · intro e2
        injection e2 with e2
        have := q.hib
        omega
    · exact Eq.trans (World.cell?_of_block (hg.block b q.hib hb)) (q.cells j u hu)⟩
/-- Something else has grown. -/
theorem RecsOff.keep {w w' : World} {lo n : Nat} {A : Option Addr} {rs : List Rec} {o row : Option Nat} (h : RecsOff w lo o A n rs) (hg : w.grownBy w' row) (hr : ∀ g, row = some g → g < lo) : RecsOff w' lo o A n rs :=
  ⟨h.1, fun k r hk => by
    obtain ⟨b, f, Ad, nd, cd, Af, nf, cf, e, hb, q, o1, o2⟩ := h.2 k r hk
    have hn := (h.new.keep hg hr).2 k r hk
    refine ⟨b, f, Ad, nd, cd, Af, nf, cf, e, hb, ⟨q.lob, Nat.lt_of_lt_of_le q.hib hg.size, fun j u hu => ?_, (q.ld.grownOff (q.lod.off hr) hg (Nat.le_refl _)).more hg.size, (q.lf.grownOff (q.lof.off hr) hg (Nat.le_refl _)).more hg.size, q.lod, q.lof⟩, o1, o2⟩
    refine Eq.trans (World.cell?_of_block (hg.block b q.hib (fun e2 => ?_))) (q.cells j u hu)
    have h1 := hr _ e2.symm
    have h2 := q.lob
    omega⟩
theorem RecsOff.lower {w : World} {lo lo' n : Nat} {A : Option Addr} {rs : List Rec} {o : Option Nat} (h : RecsOff w lo o A n rs) (hl : lo' ≤ lo) : RecsOff w lo' o A n rs :=
  ⟨h.1, fun k r hr => by
    obtain ⟨b, f, Ad, nd, cd, Af, nf, cf, e, hb, q, o1, o2⟩ := h.2 k r hr
    exact ⟨b, f, Ad, nd, cd, Af, nf, cf, e, hb, ⟨Nat.le_trans hl q.lob, q.hib, q.cells, q.ld, q.lf, q.lod.lower hl, q.lof.lower hl⟩, o1, o2⟩⟩

/-- A block's three cells. -/
def blkV (x : Blk) (A : Option Addr) (n c : Nat) : Array Value := #[.int .i64 x.thread, .int .i64 x.first, .slice A n c]
/-- The blocks of a row's cells. -/
def BlksAt (w : World) (lo : Nat) (o : Option Nat) (css : List Value) (xs : List Blk) : Prop :=
  css.length = xs.length * 3 ∧ ∀ k x, xs[k]? = some x → ∃ (A : Option Addr) (n c : Nat), (∀ j u, (blkV x A n c)[j]? = some u → css[k * 3 + j]? = some u) ∧ RecsOff w lo o A n x.recs ∧ n ≤ c ∧ c ≤ maxLen ∧ (A = none → c = 0)
theorem BlksAt.nil (w : World) (lo : Nat) (o : Option Nat) : BlksAt w lo o [] [] := ⟨rfl, fun k x hx => by simp at hx⟩
theorem BlksAt.grow {w w' : World} {lo : Nat} {o o' : Option Nat} {css : List Value} {xs : List Blk} (h : BlksAt w lo o css xs) (hg : w.grownBy w' o) (hat : At w o o') : BlksAt w' lo o' css xs :=
  ⟨h.1, fun k x hx => by
    obtain ⟨A, n, c, q1, q2, q3⟩ := h.2 k x hx
    exact ⟨A, n, c, q1, q2.grow hg hat, q3⟩⟩
theorem BlksAt.keep {w w' : World} {lo : Nat} {o row : Option Nat} {css : List Value} {xs : List Blk} (h : BlksAt w lo o css xs) (hg : w.grownBy w' row) (hr : ∀ g, row = some g → g < lo) : BlksAt w' lo o css xs :=
  ⟨h.1, fun k x hx => by
    obtain ⟨A, n, c, q1, q2, q3⟩ := h.2 k x hx
    exact ⟨A, n, c, q1, q2.keep hg hr, q3⟩⟩
theorem BlksAt.snoc {w : World} {lo : Nat} {o : Option Nat} {css : List Value} {xs : List Blk} (h : BlksAt w lo o css xs) {x : Blk} {A : Option Addr} {n c : Nat} (hr : RecsOff w lo o A n x.recs) (hnc : n ≤ c) (hcm : c ≤ maxLen) (ho : A = none → c = 0) : BlksAt w lo o (css ++ (blkV x A n c).toList) (xs ++ [x]) := by
  refine ⟨by rw [List.length_append, h.1, List.length_append]; unfold blkV; simp [Nat.add_mul], fun k y hy => ?_⟩
  by_cases hk : k < xs.length
  · rw [List.getElem?_append_left hk] at hy
    obtain ⟨A', n', c', z1, z2⟩ := h.2 k y hy
    refine ⟨A', n', c', fun j u hu => ?_, z2⟩
    have := z1 j u hu
    rw [List.getElem?_append_left (List.getElem?_eq_some_iff.1 this).1]
    exact this
  · have hkl : k < xs.length + 1 := by have := (List.getElem?_eq_some_iff.1 hy).1; simpa using this
    have hkn : k = xs.length := by omega
    subst hkn
    rw [List.getElem?_append_right (Nat.le_refl _), Nat.sub_self] at hy
    simp only [List.getElem?_cons_zero, Option.some.injEq] at hy
    subst hy
    refine ⟨A, n, c, fun j u hu => ?_, hr, hnc, hcm, ho⟩
    rw [List.getElem?_append_right (by rw [h.1]; omega), h.1, Nat.add_sub_cancel_left]
    simpa using hu
theorem blkV_one (x : Blk) (A : Option Addr) (n c : Nat) : ∀ u ∈ (blkV x A n c).toList, u.oneCell' = true := by
  intro u hu
  simp only [blkV, List.mem_cons, List.not_mem_nil, or_false] at hu
  rcases hu with h | h | h <;> rw [h] <;> rfl
theorem info_blk : (Try.prog.info? 38).map (fun i => (i.zero, i.size, i.bytes)) = some (some (.agg #[.int .i64 0, .int .i64 0, .slice none 0 0]), 3, 40) := by kernel_rfl
theorem blk_lies (w : World) (x : Blk) (A : Option Addr) (n c : Nat) :
    Lies (w.alloc (.cells (blkV x A n c) 38)) (w.alloc (.cells (blkV x A n c) 38)).heap.size 3 (some ⟨w.heap.size, 0, none⟩) 1 (blkV x A n c).toList := by
  obtain ⟨A', c', hv, _, _, hl, _⟩ := own_slice (World.ownsRow_lit (base := w.heap.size) (e := 38) (size := 3) w (blkV x A n c) 1 (Nat.le_refl _) (by unfold maxLen; omega) rfl)
  injection hv with hA
  subst hA
  exact hl
/-- What Blocks returns: blocks and their size. -/
def BlksOut (l : List (Blk × Nat)) (w : World) (e : Ending) (w' : World) : Prop :=
  ∃ v css, e = .returned (.tuple #[v, .int .i64 (sizeB l : Int)]) ∧ w'.ownsRow w.heap.size 38 3 v l.length css ∧ BlksAt w' w.heap.size v.ownBlock css (l.map (·.1)) ∧ w.grownBy w' none
end Go.Proofs.Ytlofjhcjjcohfaa
