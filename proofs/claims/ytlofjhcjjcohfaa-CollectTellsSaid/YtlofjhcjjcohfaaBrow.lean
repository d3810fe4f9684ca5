/- Words for a row of records that the call's own appends made (chapter 13). -/
import Derived.Test.YtlofjhcjjcohfaaOpenRec
import Derived.Test.YtlofjhcjjcohfaaRdP
import Derived.Test.YtlofjhcjjcohfaaPl
namespace Iv
open Go Go.RowKit
theorem grown_anyRow {a b : World} (h : a.grownBy b none) (o : Option Nat) : a.grownBy b o := ⟨h.os, h.tape, h.output, h.size, fun k hk _ => h.block k hk (fun e => nomatch e)⟩
/-- The slice does not lie in that block. -/
def Off (o : Option Nat) (A : Option Addr) (n : Nat) : Prop := 0 < n → ∀ ad, A = some ad → some ad.block ≠ o
theorem Off.ofOwn {w : World} {base e sz n c : Nat} {A : Option Addr} {xs : List Value} {o : Option Nat} (h : w.ownsRow base e sz (.slice A n c) n xs) (ho : ∀ g, o = some g → g < base) : Off o A n := by
  rintro _ ad rfl hb
  have := (h.lt ad.block rfl).1
  have := ho _ hb.symm
  omega
theorem Lies.grownOff {w w' : World} {B sz n : Nat} {A : Option Addr} {xs : List Value} {row : Option Nat} (h : Lies w B sz A n xs) (ho : Off row A n) (hg : w.grownBy w' row) (hB : B ≤ w.heap.size) : Lies w' B sz A n xs := by
  refine ⟨h.1, fun hn => ?_⟩
  obtain ⟨ad, e, hb, hc⟩ := h.2 hn
  refine ⟨ad, e, hb, fun j u hu => ?_⟩
  refine Eq.trans (World.cell?_of_block (hg.block (ad.add j).block ?_ ?_)) (hc j u hu)
  · rw [addBlock]; omega
  · rw [addBlock]; exact ho hn ad e
theorem Off.at_ {w : World} {B sz n : Nat} {A : Option Addr} {xs : List Value} {o o' : Option Nat} (ho : Off o A n) (h : Lies w B sz A n xs) (hB : B ≤ w.heap.size) (hat : At w o o') : Off o' A n := by
  intro hn ad e hb
  rcases hat with rfl | ⟨g, rfl, hge⟩
  · exact ho hn ad e hb
  · obtain ⟨ad', e', hb', _⟩ := h.2 hn
    rw [e] at e'
    injection e' with e'
    subst e'
    injection hb with hb
    omega

/-- The slice lies in block lo or behind it. -/
def Lo (lo : Nat) (A : Option Addr) (n : Nat) : Prop := 0 < n → ∀ ad, A = some ad → lo ≤ ad.block
theorem Lo.ofOwn {w : World} {base e sz n c lo : Nat} {A : Option Addr} {xs : List Value} (h : w.ownsRow base e sz (.slice A n c) n xs) (hl : lo ≤ base) : Lo lo A n := by
  rintro _ ad rfl
  have := (h.lt ad.block rfl).1
  omega
theorem Lo.lower {lo lo' : Nat} {A : Option Addr} {n : Nat} (h : Lo lo A n) (hl : lo' ≤ lo) : Lo lo' A n := fun hn ad e => by have := h hn ad e; omega
theorem Lo.off {lo : Nat} {A : Option Addr} {n : Nat} {row : Option Nat} (h : Lo lo A n) (hr : ∀ g, row = some g → g < lo) : Off row A n := fun hn ad e hb => by
  have h1 := h hn ad e
  have h2 := hr _ hb.symm
  omega
end Iv
namespace Go.Proofs.Ytlofjhcjjcohfaa
open Go Go.RowKit Iv
set_option linter.unusedVariables false

theorem info_rec : (Try.prog.info? 26).map (fun i => (i.zero, i.size, i.bytes)) = some (some (.agg #[.int .i64 0, .int .i64 0, .int .i64 0, .int .i64 0, .int .i64 0, .int .i64 0, .slice none 0 0, .slice none 0 0]), 8, 96) := by kernel_rfl

/-- One record among the cells of a row. -/
structure RowRec (w : World) (lo : Nat) (o : Option Nat) (css : List Value) (k : Nat) (r : Rec) (Ad : Option Addr) (nd cd : Nat) (Af : Option Addr) (nf cf : Nat) : Prop where
  cells : ∀ j u, (recV r Ad nd cd Af nf cf)[j]? = some u → css[k * 8 + j]? = some u
  ld : Lies w w.heap.size 1 Ad nd (r.ev.deps.map iv)
  lf : Lies w w.heap.size 1 Af nf (r.ev.from_.map iv)
  od : Off o Ad nd
  of_ : Off o Af nf
  lod : Lo lo Ad nd
  lof : Lo lo Af nf
/-- The records of a row's cells; their lists lie elsewhere. -/
def RowsAt (w : World) (lo : Nat) (o : Option Nat) (css : List Value) (rs : List Rec) : Prop :=
  css.length = rs.length * 8 ∧ ∀ k r, rs[k]? = some r → ∃ (Ad : Option Addr) (nd cd : Nat) (Af : Option Addr) (nf cf : Nat), RowRec w lo o css k r Ad nd cd Af nf cf

theorem RowsAt.nil (w : World) (lo : Nat) (o : Option Nat) : RowsAt w lo o [] [] := ⟨rfl, fun k r hr => by simp at hr⟩
theorem RowRec.grow {w w' : World} {lo : Nat} {o o' : Option Nat} {css : List Value} {k : Nat} {r : Rec} {Ad : Option Addr} {nd cd : Nat} {Af : Option Addr} {nf cf : Nat} (h : RowRec w lo o css k r Ad nd cd Af nf cf) (hg : w.grownBy w' o) (hat : At w o o') : RowRec w' lo o' css k r Ad nd cd Af nf cf :=
  ⟨h.cells, (h.ld.grownOff h.od hg (Nat.le_refl _)).more hg.size, (h.lf.grownOff h.of_ hg (Nat.le_refl _)).more hg.size, h.od.at_ h.ld (Nat.le_refl _) hat, h.of_.at_ h.lf (Nat.le_refl _) hat, h.lod, h.lof⟩
theorem RowsAt.grow {w w' : World} {lo : Nat} {o o' : Option Nat} {css : List Value} {rs : List Rec} (h : RowsAt w lo o css rs) (hg : w.grownBy w' o) (hat : At w o o') : RowsAt w' lo o' css rs :=
  ⟨h.1, fun k r hr => by
    obtain ⟨Ad, nd, cd, Af, nf, cf, q⟩ := h.2 k r hr
    exact ⟨Ad, nd, cd, Af, nf, cf, q.grow hg hat⟩⟩
/-- Something else has grown: the row and the lists stay. -/
theorem RowsAt.keep {w w' : World} {lo : Nat} {o : Option Nat} {css : List Value} {rs : List Rec} (h : RowsAt w lo o css rs) (hg : w.grownBy w' none) : RowsAt w' lo o css rs :=
  ⟨h.1, fun k r hr => by
    obtain ⟨Ad, nd, cd, Af, nf, cf, q⟩ := h.2 k r hr
    exact ⟨Ad, nd, cd, Af, nf, cf, q.cells, (q.ld.grown hg (Nat.le_refl _) (fun _ e => nomatch e)).more hg.size, (q.lf.grown hg (Nat.le_refl _) (fun _ e => nomatch e)).more hg.size, q.od, q.of_, q.lod, q.lof⟩⟩
/-- A record more. -/
theorem RowsAt.snoc {w : World} {lo : Nat} {o : Option Nat} {css : List Value} {rs : List Rec} (h : RowsAt w lo o css rs) {r : Rec} {Ad : Option Addr} {nd cd : Nat} {Af : Option Addr} {nf cf : Nat}
    (h1 : Lies w w.heap.size 1 Ad nd (r.ev.deps.map iv)) (h2 : Lies w w.heap.size 1 Af nf (r.ev.from_.map iv)) (h3 : Off o Ad nd) (h4 : Off o Af nf) (h5 : Lo lo Ad nd) (h6 : Lo lo Af nf) : RowsAt w lo o (css ++ (recV r Ad nd cd Af nf cf).toList) (rs ++ [r]) := by
  refine ⟨by rw [List.length_append, h.1, List.length_append]; unfold recV; simp [Nat.add_mul], fun k q hq => ?_⟩
  by_cases hk : k < rs.length
  · rw [List.getElem?_append_left hk] at hq
    obtain ⟨Ad', nd', cd', Af', nf', cf', z⟩ := h.2 k q hq
    refine ⟨Ad', nd', cd', Af', nf', cf', fun j u hu => ?_, z.ld, z.lf, z.od, z.of_, z.lod, z.lof⟩
    have := z.cells j u hu
    rw [List.getElem?_append_left (List.getElem?_eq_some_iff.1 this).1]
    exact this
  · have hkl : k < rs.length + 1 := by have := (List.getElem?_eq_some_iff.1 hq).1; simpa using this
    have hkn : k = rs.length := by omega
    subst hkn
    rw [List.getElem?_append_right (Nat.le_refl _), Nat.sub_self] at hq
    simp only [List.getElem?_cons_zero, Option.some.injEq] at hq
    subst hq
    refine ⟨Ad, nd, cd, Af, nf, cf, fun j u hu => ?_, h1, h2, h3, h4, h5, h6⟩
    rw [List.getElem?_append_right (by rw [h.1]; omega), h.1, Nat.add_sub_cancel_left]
    simpa using hu
/-- A record in block lo or behind it, with its lists. -/
structure RecN (w : World) (lo b o : Nat) (r : Rec) (Ad : Option Addr) (nd cd : Nat) (Af : Option Addr) (nf cf : Nat) : Prop where
  lob : lo ≤ b
  hib : b < w.heap.size
  cells : ∀ j u, (recV r Ad nd cd Af nf cf)[j]? = some u → w.cell? ⟨b, o + j, none⟩ = some u
  ld : Lies w w.heap.size 1 Ad nd (r.ev.deps.map iv)
  lf : Lies w w.heap.size 1 Af nf (r.ev.from_.map iv)
  lod : Lo lo Ad nd
  lof : Lo lo Af nf
/-- n records in new blocks. -/
def RecsNew (w : World) (lo : Nat) (A : Option Addr) (n : Nat) (rs : List Rec) : Prop :=
  rs.length = n ∧ ∀ k r, rs[k]? = some r → ∃ (b o : Nat) (Ad : Option Addr) (nd cd : Nat) (Af : Option Addr) (nf cf : Nat), A = some ⟨b, o, none⟩ ∧ RecN w lo b (o + k * 8) r Ad nd cd Af nf cf
theorem RecsNew.nil (w : World) (lo : Nat) (A : Option Addr) : RecsNew w lo A 0 [] := ⟨rfl, fun k r hr => by simp at hr⟩
theorem RecsNew.recs {w : World} {lo n : Nat} {A : Option Addr} {rs : List Rec} (h : RecsNew w lo A n rs) : Recs w w.heap.size A n rs :=
  ⟨h.1, fun k r hr => by
    obtain ⟨b, o, Ad, nd, cd, Af, nf, cf, e, q⟩ := h.2 k r hr
    exact ⟨b, o, Ad, nd, cd, Af, nf, cf, e, q.hib, q.cells, q.ld, q.lf⟩⟩
theorem RecsNew.lower {w : World} {lo lo' n : Nat} {A : Option Addr} {rs : List Rec} (h : RecsNew w lo A n rs) (hl : lo' ≤ lo) : RecsNew w lo' A n rs :=
  ⟨h.1, fun k r hr => by
    obtain ⟨b, o, Ad, nd, cd, Af, nf, cf, e, q⟩ := h.2 k r hr
    exact ⟨b, o, Ad, nd, cd, Af, nf, cf, e, Nat.le_trans hl q.lob, q.hib, q.cells, q.ld, q.lf, q.lod.lower hl, q.lof.lower hl⟩⟩
theorem RecsNew.keep {w w' : World} {lo n : Nat} {A : Option Addr} {rs : List Rec} {row : Option Nat} (h : RecsNew w lo A n rs) (hg : w.grownBy w' row) (hr : ∀ g, row = some g → g < lo) : RecsNew w' lo A n rs :=
  ⟨h.1, fun k r hk => by
    obtain ⟨b, o, Ad, nd, cd, Af, nf, cf, e, q⟩ := h.2 k r hk
    refine ⟨b, o, Ad, nd, cd, Af, nf, cf, e, q.lob, Nat.lt_of_lt_of_le q.hib hg.size, fun j u hu => ?_, (q.ld.grownOff (q.lod.off hr) hg (Nat.le_refl _)).more hg.size, (q.lf.grownOff (q.lof.off hr) hg (Nat.le_refl _)).more hg.size, q.lod, q.lof⟩
    refine Eq.trans (World.cell?_of_block (hg.block b q.hib (fun e => ?_))) (q.cells j u hu)
    have h1 := hr _ e.symm
    have h2 := q.lob
    omega⟩
/-- The row reads as a slice of records. -/
theorem RowsAt.recs {w : World} {lo base e c n : Nat} {A : Option Addr} {css : List Value} {rs : List Rec} (h : RowsAt w lo (Value.slice A n c).ownBlock css rs) (ho : w.ownsRow base e 8 (.slice A n c) n css) (hn : n = rs.length) (hlo : lo ≤ base) : RecsNew w lo A n rs := by
  refine ⟨hn.symm, fun k r hr => ?_⟩
  have hk : k < n := by rw [hn]; exact (List.getElem?_eq_some_iff.1 hr).1
  obtain ⟨g, cap, hv, hbg, hlt⟩ := ho.form (by omega)
  have hgb := (ho.lt g (by rw [hv]; rfl)).1
  injection hv with hA
  subst hA
  obtain ⟨Ad, nd, cd, Af, nf, cf, q⟩ := h.2 k r hr
  refine ⟨g, 0, Ad, nd, cd, Af, nf, cf, rfl, Nat.le_trans hlo hgb, hlt, fun j u hu => ?_, q.ld, q.lf, q.lod, q.lof⟩
  have := ho.cells (g := g) rfl (k * 8 + j) u (q.cells j u hu)
  rw [Nat.zero_add]
  have e0 : (⟨g, 0, none⟩ : Addr).add (k * 8 + j) = ⟨g, k * 8 + j, none⟩ := by unfold Addr.add; split <;> simp_all
  rwa [e0] at this
theorem recV_one (r : Rec) (Ad : Option Addr) (nd cd : Nat) (Af : Option Addr) (nf cf : Nat) : ∀ u ∈ (recV r Ad nd cd Af nf cf).toList, u.oneCell' = true := by
  intro u hu
  unfold recV at hu
  simp only [List.mem_cons, List.not_mem_nil, or_false] at hu
  rcases hu with rfl | rfl | rfl | rfl | rfl | rfl | rfl | rfl <;> rfl
theorem recV_new (W : World) (t : TypeId) (r : Rec) (Ad : Option Addr) (nd cd : Nat) (Af : Option Addr) (nf cf : Nat) : ∀ j u, (recV r Ad nd cd Af nf cf).toList[j]? = some u → (W.alloc (.cells (recV r Ad nd cd Af nf cf) t)).cell? ((⟨W.heap.size, 0, none⟩ : Addr).add j) = some u := by
  intro j u hu
  have e0 : (⟨W.heap.size, 0, none⟩ : Addr).add j = ⟨W.heap.size, j, none⟩ := by unfold Addr.add; split <;> simp_all
  rw [e0, (Held.new W t _).cell j]
  simpa using hu
theorem recV_newAt (W : World) (N : Nat) (hN : W.heap.size = N) (t : TypeId) (r : Rec) (Ad : Option Addr) (nd cd : Nat) (Af : Option Addr) (nf cf : Nat) : ∀ j u, (recV r Ad nd cd Af nf cf).toList[j]? = some u → (W.alloc (.cells (recV r Ad nd cd Af nf cf) t)).cell? ((⟨N, 0, none⟩ : Addr).add j) = some u := hN ▸ recV_new W t r Ad nd cd Af nf cf
end Go.Proofs.Ytlofjhcjjcohfaa

/- Words for a row of blocks that the call's own appends made (chapter 15): three cells each; their records lie off the row. -/
namespace Go.Proofs.Ytlofjhcjjcohfaa
open Go Go.RowKit Iv
set_option linter.unusedVariables false

/-- Records in blocks from lo on, none in block o. -/
def RecsOff (w : World) (lo : Nat) (o : Option Nat) (A : Option Addr) (n : Nat) (rs : List Rec) : Prop :=
  rs.length = n ∧ ∀ k r, rs[k]? = some r → ∃ (b f : Nat) (Ad : Option Addr) (nd cd : Nat) (Af : Option Addr) (nf cf : Nat), A = some ⟨b, f, none⟩ ∧ some b ≠ o ∧ RecN w lo b (f + k * 8) r Ad nd cd Af nf cf ∧ Off o Ad nd ∧ Off o Af nf
theorem RecsNew.off {w : World} {lo n : Nat} {A : Option Addr} {rs : List Rec} {o : Option Nat} (h : RecsNew w lo A n rs) (ho : ∀ g, o = some g → g < lo) : RecsOff w lo o A n rs :=
  ⟨h.1, fun k r hr => by
    obtain ⟨b, f, Ad, nd, cd, Af, nf, cf, e, q⟩ := h.2 k r hr
    exact ⟨b, f, Ad, nd, cd, Af, nf, cf, e, fun e2 => by have := ho b e2.symm; have := q.lob; omega, q, q.lod.off ho, q.lof.off ho⟩⟩
theorem RecsOff.new {w : World} {lo n : Nat} {A : Option Addr} {rs : List Rec} {o : Option Nat} (h : RecsOff w lo o A n rs) : RecsNew w lo A n rs :=
  ⟨h.1, fun k r hr => by
    obtain ⟨b, f, Ad, nd, cd, Af, nf, cf, e, _, q, _⟩ := h.2 k r hr
    exact ⟨b, f, Ad, nd, cd, Af, nf, cf, e, q⟩⟩
/-- The row in block o has grown, or moved to a new block o'. -/
theorem RecsOff.grow {w w' : World} {lo n : Nat} {A : Option Addr} {rs : List Rec} {o o' : Option Nat} (h : RecsOff w lo o A n rs) (hg : w.grownBy w' o) (hat : At w o o') : RecsOff w' lo o' A n rs :=
  ⟨h.1, fun k r hr => by
    obtain ⟨b, f, Ad, nd, cd, Af, nf, cf, e, hb, q, o1, o2⟩ := h.2 k r hr
    refine ⟨b, f, Ad, nd, cd, Af, nf, cf, e, ?_, ⟨q.lob, Nat.lt_of_lt_of_le q.hib hg.size, fun j u hu => ?_, (q.ld.grownOff o1 hg (Nat.le_refl _)).more hg.size, (q.lf.grownOff o2 hg (Nat.le_refl _)).more hg.size, q.lod, q.lof⟩, o1.at_ q.ld (Nat.le_refl _) hat, o2.at_ q.lf (Nat.le_refl _) hat⟩
    · rcases hat with rfl | ⟨g, rfl, hge⟩
      · exact hb
      · intro e2
        injection e2 with e2
        have := q.hib
        omega
    · exact Eq.trans (World.cell?_of_block (hg.block b q.hib hb)) (q.cells j u hu)⟩
/-- Something else has grown. -/
theorem RecsOff.keep {w w' : World} {lo n : Nat} {A : Option Addr} {rs : List Rec} {o row : Option Nat} (h : RecsOff w lo o A n rs) (hg : w.grownBy w' row) (hr : ∀ g, row = some g → g < lo) : RecsOff w' lo o A n rs :=
  ⟨h.1, fun k r hk => by
    obtain ⟨b, f, Ad, nd, cd, Af, nf, cf, e, hb, q, o1, o2⟩ := h.2 k r hk
    have hn := (h.new.keep hg hr).2 k r hk
    refine ⟨b, f, Ad, nd, cd, Af, nf, cf, e, hb, ⟨q.lob, Nat.lt_of_lt_of_le q.hib hg.size, fun j u hu => ?_, (q.ld.grownOff (q.lod.off hr) hg (Nat.le_refl _)).more hg.size, (q.lf.grownOff (q.lof.off hr) hg (Nat.le_refl _)).more hg.size, q.lod, q.lof⟩, o1, o2⟩
    refine Eq.trans (World.cell?_of_block (hg.block b q.hib (fun e2 => ?_))) (q.cells j u hu)
    have h1 := hr _ e2.symm
    have h2 := q.lob
    omega⟩
theorem RecsOff.lower {w : World} {lo lo' n : Nat} {A : Option Addr} {rs : List Rec} {o : Option Nat} (h : RecsOff w lo o A n rs) (hl : lo' ≤ lo) : RecsOff w lo' o A n rs :=
  ⟨h.1, fun k r hr => by
    obtain ⟨b, f, Ad, nd, cd, Af, nf, cf, e, hb, q, o1, o2⟩ := h.2 k r hr
    exact ⟨b, f, Ad, nd, cd, Af, nf, cf, e, hb, ⟨Nat.le_trans hl q.lob, q.hib, q.cells, q.ld, q.lf, q.lod.lower hl, q.lof.lower hl⟩, o1, o2⟩⟩

/-- A block's three cells. -/
def blkV (x : Blk) (A : Option Addr) (n c : Nat) : Array Value := #[.int .i64 x.thread, .int .i64 x.first, .slice A n c]
/-- The blocks of a row's cells. -/
def BlksAt (w : World) (lo : Nat) (o : Option Nat) (css : List Value) (xs : List Blk) : Prop :=
  css.length = xs.length * 3 ∧ ∀ k x, xs[k]? = some x → ∃ (A : Option Addr) (n c : Nat), (∀ j u, (blkV x A n c)[j]? = some u → css[k * 3 + j]? = some u) ∧ RecsOff w lo o A n x.recs ∧ n ≤ c ∧ c ≤ maxLen ∧ (A = none → c = 0)
theorem BlksAt.nil (w : World) (lo : Nat) (o : Option Nat) : BlksAt w lo o [] [] := ⟨rfl, fun k x hx => by simp at hx⟩
theorem BlksAt.grow {w w' : World} {lo : Nat} {o o' : Option Nat} {css : List Value} {xs : List Blk} (h : BlksAt w lo o css xs) (hg : w.grownBy w' o) (hat : At w o o') : BlksAt w' lo o' css xs :=
  ⟨h.1, fun k x hx => by
    obtain ⟨A, n, c, q1, q2, q3⟩ := h.2 k x hx
    exact ⟨A, n, c, q1, q2.grow hg hat, q3⟩⟩
theorem BlksAt.keep {w w' : World} {lo : Nat} {o row : Option Nat} {css : List Value} {xs : List Blk} (h : BlksAt w lo o css xs) (hg : w.grownBy w' row) (hr : ∀ g, row = some g → g < lo) : BlksAt w' lo o css xs :=
  ⟨h.1, fun k x hx => by
    obtain ⟨A, n, c, q1, q2, q3⟩ := h.2 k x hx
    exact ⟨A, n, c, q1, q2.keep hg hr, q3⟩⟩
theorem BlksAt.snoc {w : World} {lo : Nat} {o : Option Nat} {css : List Value} {xs : List Blk} (h : BlksAt w lo o css xs) {x : Blk} {A : Option Addr} {n c : Nat} (hr : RecsOff w lo o A n x.recs) (hnc : n ≤ c) (hcm : c ≤ maxLen) (ho : A = none → c = 0) : BlksAt w lo o (css ++ (blkV x A n c).toList) (xs ++ [x]) := by
  refine ⟨by rw [List.length_append, h.1, List.length_append]; unfold blkV; simp [Nat.add_mul], fun k y hy => ?_⟩
  by_cases hk : k < xs.length
  · rw [List.getElem?_append_left hk] at hy
    obtain ⟨A', n', c', z1, z2⟩ := h.2 k y hy
    refine ⟨A', n', c', fun j u hu => ?_, z2⟩
    have := z1 j u hu
    rw [List.getElem?_append_left (List.getElem?_eq_some_iff.1 this).1]
    exact this
  · have hkl : k < xs.length + 1 := by have := (List.getElem?_eq_some_iff.1 hy).1; simpa using this
    have hkn : k = xs.length := by omega
    subst hkn
    rw [List.getElem?_append_right (Nat.le_refl _), Nat.sub_self] at hy
    simp only [List.getElem?_cons_zero, Option.some.injEq] at hy
    subst hy
    refine ⟨A, n, c, fun j u hu => ?_, hr, hnc, hcm, ho⟩
    rw [List.getElem?_append_right (by rw [h.1]; omega), h.1, Nat.add_sub_cancel_left]
    simpa using hu
theorem blkV_one (x : Blk) (A : Option Addr) (n c : Nat) : ∀ u ∈ (blkV x A n c).toList, u.oneCell' = true := by
  intro u hu
  simp only [blkV, List.mem_cons, List.not_mem_nil, or_false] at hu
  rcases hu with h | h | h <;> rw [h] <;> rfl
theorem info_blk : (Try.prog.info? 38).map (fun i => (i.zero, i.size, i.bytes)) = some (some (.agg #[.int .i64 0, .int .i64 0, .slice none 0 0]), 3, 40) := by kernel_rfl
theorem blk_lies (w : World) (x : Blk) (A : Option Addr) (n c : Nat) :
    Lies (w.alloc (.cells (blkV x A n c) 38)) (w.alloc (.cells (blkV x A n c) 38)).heap.size 3 (some ⟨w.heap.size, 0, none⟩) 1 (blkV x A n c).toList := by
  obtain ⟨A', c', hv, _, _, hl, _⟩ := own_slice (World.ownsRow_lit (base := w.heap.size) (e := 38) (size := 3) w (blkV x A n c) 1 (Nat.le_refl _) (by unfold maxLen; omega) rfl)
  injection hv with hA
  subst hA
  exact hl
/-- What Blocks returns: blocks and their size. -/
def BlksOut (l : List (Blk × Nat)) (w : World) (e : Ending) (w' : World) : Prop :=
  ∃ v css, e = .returned (.tuple #[v, .int .i64 (sizeB l : Int)]) ∧ w'.ownsRow w.heap.size 38 3 v l.length css ∧ BlksAt w' w.heap.size v.ownBlock css (l.map (·.1)) ∧ w.grownBy w' none
end Go.Proofs.Ytlofjhcjjcohfaa
