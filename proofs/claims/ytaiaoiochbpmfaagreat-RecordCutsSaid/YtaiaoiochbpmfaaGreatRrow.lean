/- The walks of the two readers of an integer (chapter 11): both are 'getI'. -/
import Derived.Test.YtaiaoiochbpmfaaGreatApp
import Derived.Laws.DeepNot64
import Derived.Test.YtaiaoiochbpmfaaGreatAlc
import Derived.Deep.RegionHeld3
import Derived.Deep.DeepCutAuto
import Derived.Test.YtaiaoiochbpmfaaGreatSum
import Derived.Test.YtaiaoiochbpmfaaGreatFits
namespace Go.Proofs.YtaiaoiochbpmfaaGreat
open Go Go.RowKit Iv
set_option linter.unusedVariables false
end Go.Proofs.YtaiaoiochbpmfaaGreat

/- What the readers of an integer give, part by part. -/
namespace Go.Proofs.YtaiaoiochbpmfaaGreat
open Go Go.RowKit Iv
set_option linter.unusedVariables false
end Go.Proofs.YtaiaoiochbpmfaaGreat

/- The walks of the readers' methods (chapter 11): each is 'rdNum', 'rdList'. -/
namespace Go.Proofs.YtaiaoiochbpmfaaGreat
open Go Go.RowKit Iv
set_option linter.unusedVariables false
def rdCells (A : Option Addr) (n c : Nat) (s : Rd) : Array Value := #[.slice A n c, .int .i64 (s.at_ : Int), .int .i64 s.err]
end Go.Proofs.YtaiaoiochbpmfaaGreat

/- The walks of the readers' lists (chapter 11): each is 'rdList'. -/
namespace Go.Proofs.YtaiaoiochbpmfaaGreat
open Go Go.RowKit Iv
set_option linter.unusedVariables false
end Go.Proofs.YtaiaoiochbpmfaaGreat

/- The walk of the reference's list (chapter 11). -/
namespace Go.Proofs.YtaiaoiochbpmfaaGreat
open Go Go.RowKit Iv
set_option linter.unusedVariables false
end Go.Proofs.YtaiaoiochbpmfaaGreat

/- The walk of Read (chapter 11): getRec. -/
namespace Go.Proofs.YtaiaoiochbpmfaaGreat
open Go Go.RowKit Iv
set_option linter.unusedVariables false
structure RdInv (w : World) (tR : TypeId) (A : Option Addr) (n c : Nat) (wk : World) (s : Rd) (cs : Array Value) : Prop where
  res : Held wk w.heap.size 71 #[.int .i64 0, .int .i64 0, .int .i64 0, .int .i64 0, .int .i64 0, .int .i64 0, .slice none 0 0, .slice none 0 0]
  rd : Held wk (w.heap.size + 1) tR (rdCells A n c s)
  rcd : Held wk (w.heap.size + 1 + 1) 71 cs
  grown : w.grownBy wk none
theorem RdInv.next {w : World} {tR : TypeId} {A : Option Addr} {n c : Nat} {wk w' : World} {s s' : Rd} {cs : Array Value} (h : RdInv w tR A n c wk s cs)
    (h1 : Held w' (w.heap.size + 1) tR (rdCells A n c s')) (h2 : wk.grownBy w' (some (w.heap.size + 1))) : RdInv w tR A n c w' s' cs := by
  refine ⟨h.res.grown h2 (fun e => by injection e with e; omega), h1, h.rcd.grown h2 (fun e => by injection e with e; omega), ?_⟩
  exact grownBy_trans h.grown h2 (.inr ⟨_, rfl, Nat.le_succ _⟩)
theorem RdInv.put {w : World} {tR : TypeId} {A : Option Addr} {n c : Nat} {wk : World} {s : Rd} {cs : Array Value} (h : RdInv w tR A n c wk s cs) (i : Nat) (u : Value) :
    RdInv w tR A n c (wk.setCell ⟨w.heap.size + 1 + 1, i, none⟩ u) s (cs.setIfInBounds i u) := by
  refine ⟨h.res.far (by simp only []; omega) u, h.rd.far (by simp only []; omega) u, h.rcd.store i u, ?_⟩
  exact grownBy_trans h.grown (grown_store wk _ i u) (.inr ⟨_, rfl, by omega⟩)
end Go.Proofs.YtaiaoiochbpmfaaGreat

/- The walk of the reference's Read (chapter 11): getRec. -/
namespace Go.Proofs.YtaiaoiochbpmfaaGreat
open Go Go.RowKit Iv
set_option linter.unusedVariables false
structure RdX (w : World) (tR : TypeId) (gx : Nat) (A : Option Addr) (n c : Nat) (wk : World) (s : Rd) (cs : Array Value) : Prop where
  res : Held wk w.heap.size 71 #[.int .i64 0, .int .i64 0, .int .i64 0, .int .i64 0, .int .i64 0, .int .i64 0, .slice none 0 0, .slice none 0 0]
  rd : Held wk (w.heap.size + 1) tR (rdCells A n c s)
  rcd : Held wk gx 71 cs
  grown : w.grownBy wk none
  far : w.heap.size + 1 < gx
theorem RdX.next {w : World} {tR : TypeId} {gx : Nat} {A : Option Addr} {n c : Nat} {wk w' : World} {s s' : Rd} {cs : Array Value} (h : RdX w tR gx A n c wk s cs)
    (h1 : Held w' (w.heap.size + 1) tR (rdCells A n c s')) (h2 : wk.grownBy w' (some (w.heap.size + 1))) : RdX w tR gx A n c w' s' cs := by
  have hf := h.far
  refine ⟨h.res.grown h2 (fun e => by injection e with e; omega), h1, h.rcd.grown h2 (fun e => by injection e with e; omega), ?_, hf⟩
  exact grownBy_trans h.grown h2 (.inr ⟨_, rfl, Nat.le_succ _⟩)
theorem RdX.put {w : World} {tR : TypeId} {gx : Nat} {A : Option Addr} {n c : Nat} {wk : World} {s : Rd} {cs : Array Value} (h : RdX w tR gx A n c wk s cs) (i : Nat) (u : Value) :
    RdX w tR gx A n c (wk.setCell ⟨gx, i, none⟩ u) s (cs.setIfInBounds i u) := by
  have hf := h.far
  refine ⟨h.res.far (by simp only []; omega) u, h.rd.far (by simp only []; omega) u, h.rcd.store i u, ?_, hf⟩
  exact grownBy_trans h.grown (grown_store wk _ i u) (.inr ⟨_, rfl, by omega⟩)
end Go.Proofs.YtaiaoiochbpmfaaGreat

/- The walk of SameInts and of SameEvent: they tell whether two lists of numbers, two events are one. -/
namespace Go.Proofs.YtaiaoiochbpmfaaGreat
open Go Go.RowKit Iv
set_option linter.unusedVariables false
def evV (e : Ev) (Ad : Option Addr) (nd cd : Nat) (Af : Option Addr) (nf cf : Nat) : Array Value :=
  #[.int .i64 e.thread, .int .i64 e.kind, .int .i64 e.obj, .int .i64 e.value, .int .i64 e.site, .slice Ad nd cd, .slice Af nf cf]
end Go.Proofs.YtaiaoiochbpmfaaGreat

/- What Read gives, part by part. -/
namespace Go.Proofs.YtaiaoiochbpmfaaGreat
open Go Go.RowKit Iv
set_option linter.unusedVariables false
theorem belGr {w w1 w2 : World} (h : Below w.heap.size w w1) (hg : w1.grownBy w2 none) : Below w.heap.size w w2 := h.grown hg h.size (fun k hk => by cases hk)
theorem cells8 {W : World} {g : Nat} {T : TypeId} {r : Rec} {Ad : Option Addr} {nd cd : Nat} {Af : Option Addr} {nf cf : Nat} (h : Held W g T (recV r Ad nd cd Af nf cf)) :
    W.cell? ⟨g, 0, none⟩ = some (.int .i64 r.seq) ∧ W.cell? ⟨g, 1, none⟩ = some (.int .i64 r.ev.thread) ∧ W.cell? ⟨g, 2, none⟩ = some (.int .i64 r.ev.kind) ∧ W.cell? ⟨g, 3, none⟩ = some (.int .i64 r.ev.obj) ∧
    W.cell? ⟨g, 4, none⟩ = some (.int .i64 r.ev.value) ∧ W.cell? ⟨g, 5, none⟩ = some (.int .i64 r.ev.site) ∧ W.cell? ⟨g, 6, none⟩ = some (.slice Ad nd cd) ∧ W.cell? ⟨g, 7, none⟩ = some (.slice Af nf cf) :=
  ⟨h.cell 0, h.cell 1, h.cell 2, h.cell 3, h.cell 4, h.cell 5, h.cell 6, h.cell 7⟩
end Go.Proofs.YtaiaoiochbpmfaaGreat

/- Words for a slice of events that came in. -/
namespace Go.Proofs.YtaiaoiochbpmfaaGreat
open Go Go.RowKit Iv
set_option linter.unusedVariables false
def Evs (w : World) (B : Nat) (A : Option Addr) (n : Nat) (l : List Ev) : Prop :=
  l.length = n ∧ ∀ k e, l[k]? = some e → ∃ (b o : Nat) (Ad : Option Addr) (cd : Nat) (Af : Option Addr) (cf : Nat), A = some ⟨b, o, none⟩ ∧ b < B ∧
    (∀ j u, (#[.int .i64 e.thread, .int .i64 e.kind, .int .i64 e.obj, .int .i64 e.value, .int .i64 e.site, .slice Ad e.deps.length cd, .slice Af e.from_.length cf] : Array Value)[j]? = some u → w.cell? ⟨b, o + k * 7 + j, none⟩ = some u) ∧ Lies w B 1 Ad e.deps.length (e.deps.map iv) ∧ Lies w B 1 Af e.from_.length (e.from_.map iv)
theorem Evs.grown {w w' : World} {B n : Nat} {A : Option Addr} {l : List Ev} {row : Option Nat} (h : Evs w B A n l) (hg : w.grownBy w' row) (hB : B ≤ w.heap.size) (hr : ∀ g, row = some g → B ≤ g) : Evs w' B A n l :=
  ⟨h.1, fun k e he => by
    obtain ⟨b, o, Ad, cd, Af, cf, q1, hb, q2, q3, q4⟩ := h.2 k e he
    have hk : ∀ j, w'.cell? ⟨b, j, none⟩ = w.cell? ⟨b, j, none⟩ := fun j => World.cell?_of_block (hg.block b (by omega) (fun e => by have := hr _ e.symm; omega))
    exact ⟨b, o, Ad, cd, Af, cf, q1, hb, fun j u hu => by rw [hk]; exact q2 j u hu, q3.grown hg hB hr, q4.grown hg hB hr⟩⟩
theorem Evs.at {w : World} {B n k : Nat} {A : Option Addr} {l : List Ev} (h : Evs w B A n l) (hk : k < n) :
    ∃ (b o : Nat) (e : Ev) (Ad : Option Addr) (cd : Nat) (Af : Option Addr) (cf : Nat), A = some ⟨b, o, none⟩ ∧ b < B ∧ l[k]? = some e ∧
      w.cell? ⟨b, o + k * 7, none⟩ = some (.int .i64 e.thread) ∧ w.cell? ⟨b, o + k * 7 + 1, none⟩ = some (.int .i64 e.kind) ∧ w.cell? ⟨b, o + k * 7 + 2, none⟩ = some (.int .i64 e.obj) ∧ w.cell? ⟨b, o + k * 7 + 3, none⟩ = some (.int .i64 e.value) ∧
      w.cell? ⟨b, o + k * 7 + 4, none⟩ = some (.int .i64 e.site) ∧ w.cell? ⟨b, o + k * 7 + 5, none⟩ = some (.slice Ad e.deps.length cd) ∧ w.cell? ⟨b, o + k * 7 + 6, none⟩ = some (.slice Af e.from_.length cf) ∧
      Lies w B 1 Ad e.deps.length (e.deps.map iv) ∧ Lies w B 1 Af e.from_.length (e.from_.map iv) := by
  have hl : k < l.length := by rw [h.1]; exact hk
  obtain ⟨b, o, Ad, cd, Af, cf, q1, hb, q2, q3, q4⟩ := h.2 k l[k] (List.getElem?_eq_getElem hl)
  exact ⟨b, o, l[k], Ad, cd, Af, cf, q1, hb, List.getElem?_eq_getElem hl, q2 0 _ rfl, q2 1 _ rfl, q2 2 _ rfl, q2 3 _ rfl, q2 4 _ rfl, q2 5 _ rfl, q2 6 _ rfl, q3, q4⟩
end Go.Proofs.YtaiaoiochbpmfaaGreat

/- Words for a row of records that the call's own appends made (chapter 13). -/
namespace Iv
open Go Go.RowKit
def Off (o : Option Nat) (A : Option Addr) (n : Nat) : Prop := 0 < n → ∀ ad, A = some ad → some ad.block ≠ o
theorem Off.ofOwn {w : World} {base e sz n c : Nat} {A : Option Addr} {xs : List Value} {o : Option Nat} (h : w.ownsRow base e sz (.slice A n c) n xs) (ho : ∀ g, o = some g → g < base) : Off o A n := by
  rintro _ ad rfl hb
  have := (h.lt ad.block rfl).1
  have := ho _ hb.symm
  omega
theorem Lies.grownOff {w w' : World} {B sz n : Nat} {A : Option Addr} {xs : List Value} {row : Option Nat} (h : Lies w B sz A n xs) (ho : Off row A n) (hg : w.grownBy w' row) (hB : B ≤ w.heap.size) : Lies w' B sz A n xs := by
  refine ⟨h.1, fun hn => ?_⟩
  obtain ⟨ad, e, hb, hc⟩ := h.2 hn
  refine ⟨ad, e, hb, fun j u hu => ?_⟩
  refine Eq.trans (World.cell?_of_block (hg.block (ad.add j).block ?_ ?_)) (hc j u hu)
  · rw [addBlock]; omega
  · rw [addBlock]; exact ho hn ad e
theorem Off.at_ {w : World} {B sz n : Nat} {A : Option Addr} {xs : List Value} {o o' : Option Nat} (ho : Off o A n) (h : Lies w B sz A n xs) (hB : B ≤ w.heap.size) (hat : At w o o') : Off o' A n := by
  intro hn ad e hb
  rcases hat with rfl | ⟨g, rfl, hge⟩
  · exact ho hn ad e hb
  · obtain ⟨ad', e', hb', _⟩ := h.2 hn
    rw [e] at e'
    injection e' with e'
    subst e'
    injection hb with hb
    omega
def Lo (lo : Nat) (A : Option Addr) (n : Nat) : Prop := 0 < n → ∀ ad, A = some ad → lo ≤ ad.block
theorem Lo.ofOwn {w : World} {base e sz n c lo : Nat} {A : Option Addr} {xs : List Value} (h : w.ownsRow base e sz (.slice A n c) n xs) (hl : lo ≤ base) : Lo lo A n := by
  rintro _ ad rfl
  have := (h.lt ad.block rfl).1
  omega
theorem Lo.off {lo : Nat} {A : Option Addr} {n : Nat} {row : Option Nat} (h : Lo lo A n) (hr : ∀ g, row = some g → g < lo) : Off row A n := fun hn ad e hb => by
  have h1 := h hn ad e
  have h2 := hr _ hb.symm
  omega
end Iv
namespace Go.Proofs.YtaiaoiochbpmfaaGreat
open Go Go.RowKit Iv
set_option linter.unusedVariables false
theorem info_rec : (Tryz.prog.info? 71).map (fun i => (i.zero, i.size, i.bytes)) = some (some (.agg #[.int .i64 0, .int .i64 0, .int .i64 0, .int .i64 0, .int .i64 0, .int .i64 0, .slice none 0 0, .slice none 0 0]), 8, 96) := by kernel_rfl
structure RowRec (w : World) (lo : Nat) (o : Option Nat) (css : List Value) (k : Nat) (r : Rec) (Ad : Option Addr) (nd cd : Nat) (Af : Option Addr) (nf cf : Nat) : Prop where
  cells : ∀ j u, (recV r Ad nd cd Af nf cf)[j]? = some u → css[k * 8 + j]? = some u
  ld : Lies w w.heap.size 1 Ad nd (r.ev.deps.map iv)
  lf : Lies w w.heap.size 1 Af nf (r.ev.from_.map iv)
  od : Off o Ad nd
  of_ : Off o Af nf
  lod : Lo lo Ad nd
  lof : Lo lo Af nf
def RowsAt (w : World) (lo : Nat) (o : Option Nat) (css : List Value) (rs : List Rec) : Prop :=
  css.length = rs.length * 8 ∧ ∀ k r, rs[k]? = some r → ∃ (Ad : Option Addr) (nd cd : Nat) (Af : Option Addr) (nf cf : Nat), RowRec w lo o css k r Ad nd cd Af nf cf
theorem RowsAt.nil (w : World) (lo : Nat) (o : Option Nat) : RowsAt w lo o [] [] := ⟨rfl, fun k r hr => by simp at hr⟩
theorem RowRec.grow {w w' : World} {lo : Nat} {o o' : Option Nat} {css : List Value} {k : Nat} {r : Rec} {Ad : Option Addr} {nd cd : Nat} {Af : Option Addr} {nf cf : Nat} (h : RowRec w lo o css k r Ad nd cd Af nf cf) (hg : w.grownBy w' o) (hat : At w o o') : RowRec w' lo o' css k r Ad nd cd Af nf cf :=
  ⟨h.cells, (h.ld.grownOff h.od hg (Nat.le_refl _)).more hg.size, (h.lf.grownOff h.of_ hg (Nat.le_refl _)).more hg.size, h.od.at_ h.ld (Nat.le_refl _) hat, h.of_.at_ h.lf (Nat.le_refl _) hat, h.lod, h.lof⟩
theorem RowsAt.grow {w w' : World} {lo : Nat} {o o' : Option Nat} {css : List Value} {rs : List Rec} (h : RowsAt w lo o css rs) (hg : w.grownBy w' o) (hat : At w o o') : RowsAt w' lo o' css rs :=
  ⟨h.1, fun k r hr => by
    obtain ⟨Ad, nd, cd, Af, nf, cf, q⟩ := h.2 k r hr
    exact ⟨Ad, nd, cd, Af, nf, cf, q.grow hg hat⟩⟩
theorem RowsAt.keep {w w' : World} {lo : Nat} {o : Option Nat} {css : List Value} {rs : List Rec} (h : RowsAt w lo o css rs) (hg : w.grownBy w' none) : RowsAt w' lo o css rs :=
  ⟨h.1, fun k r hr => by
    obtain ⟨Ad, nd, cd, Af, nf, cf, q⟩ := h.2 k r hr
    exact ⟨Ad, nd, cd, Af, nf, cf, q.cells, (q.ld.grown hg (Nat.le_refl _) (fun _ e => nomatch e)).more hg.size, (q.lf.grown hg (Nat.le_refl _) (fun _ e => nomatch e)).more hg.size, q.od, q.of_, q.lod, q.lof⟩⟩
theorem RowsAt.snoc {w : World} {lo : Nat} {o : Option Nat} {css : List Value} {rs : List Rec} (h : RowsAt w lo o css rs) {r : Rec} {Ad : Option Addr} {nd cd : Nat} {Af : Option Addr} {nf cf : Nat}
    (h1 : Lies w w.heap.size 1 Ad nd (r.ev.deps.map iv)) (h2 : Lies w w.heap.size 1 Af nf (r.ev.from_.map iv)) (h3 : Off o Ad nd) (h4 : Off o Af nf) (h5 : Lo lo Ad nd) (h6 : Lo lo Af nf) : RowsAt w lo o (css ++ (recV r Ad nd cd Af nf cf).toList) (rs ++ [r]) := by
  refine ⟨by rw [List.length_append, h.1, List.length_append]; unfold recV; simp [Nat.add_mul], fun k q hq => ?_⟩
  by_cases hk : k < rs.length
  · rw [List.getElem?_append_left hk] at hq
    obtain ⟨Ad', nd', cd', Af', nf', cf', z⟩ := h.2 k q hq
    refine ⟨Ad', nd', cd', Af', nf', cf', fun j u hu => ?_, z.ld, z.lf, z.od, z.of_, z.lod, z.lof⟩
    have := z.cells j u hu
    rw [List.getElem?_append_left (List.getElem?_eq_some_iff.1 this).1]
    exact this
  · have hkl : k < rs.length + 1 := by have := (List.getElem?_eq_some_iff.1 hq).1; simpa using this
    have hkn : k = rs.length := by omega
    subst hkn
    rw [List.getElem?_append_right (Nat.le_refl _), Nat.sub_self] at hq
    simp only [List.getElem?_cons_zero, Option.some.injEq] at hq
    subst hq
    refine ⟨Ad, nd, cd, Af, nf, cf, fun j u hu => ?_, h1, h2, h3, h4, h5, h6⟩
    rw [List.getElem?_append_right (by rw [h.1]; omega), h.1, Nat.add_sub_cancel_left]
    simpa using hu
structure RecN (w : World) (lo b o : Nat) (r : Rec) (Ad : Option Addr) (nd cd : Nat) (Af : Option Addr) (nf cf : Nat) : Prop where
  lob : lo ≤ b
  hib : b < w.heap.size
  cells : ∀ j u, (recV r Ad nd cd Af nf cf)[j]? = some u → w.cell? ⟨b, o + j, none⟩ = some u
  ld : Lies w w.heap.size 1 Ad nd (r.ev.deps.map iv)
  lf : Lies w w.heap.size 1 Af nf (r.ev.from_.map iv)
  lod : Lo lo Ad nd
  lof : Lo lo Af nf
def RecsNew (w : World) (lo : Nat) (A : Option Addr) (n : Nat) (rs : List Rec) : Prop :=
  rs.length = n ∧ ∀ k r, rs[k]? = some r → ∃ (b o : Nat) (Ad : Option Addr) (nd cd : Nat) (Af : Option Addr) (nf cf : Nat), A = some ⟨b, o, none⟩ ∧ RecN w lo b (o + k * 8) r Ad nd cd Af nf cf
theorem RecsNew.nil (w : World) (lo : Nat) (A : Option Addr) : RecsNew w lo A 0 [] := ⟨rfl, fun k r hr => by simp at hr⟩
theorem RecsNew.recs {w : World} {lo n : Nat} {A : Option Addr} {rs : List Rec} (h : RecsNew w lo A n rs) : Recs w w.heap.size A n rs :=
  ⟨h.1, fun k r hr => by
    obtain ⟨b, o, Ad, nd, cd, Af, nf, cf, e, q⟩ := h.2 k r hr
    exact ⟨b, o, Ad, nd, cd, Af, nf, cf, e, q.hib, q.cells, q.ld, q.lf⟩⟩
theorem RecsNew.keep {w w' : World} {lo n : Nat} {A : Option Addr} {rs : List Rec} {row : Option Nat} (h : RecsNew w lo A n rs) (hg : w.grownBy w' row) (hr : ∀ g, row = some g → g < lo) : RecsNew w' lo A n rs :=
  ⟨h.1, fun k r hk => by
    obtain ⟨b, o, Ad, nd, cd, Af, nf, cf, e, q⟩ := h.2 k r hk
    refine ⟨b, o, Ad, nd, cd, Af, nf, cf, e, q.lob, Nat.lt_of_lt_of_le q.hib hg.size, fun j u hu => ?_, (q.ld.grownOff (q.lod.off hr) hg (Nat.le_refl _)).more hg.size, (q.lf.grownOff (q.lof.off hr) hg (Nat.le_refl _)).more hg.size, q.lod, q.lof⟩
    refine Eq.trans (World.cell?_of_block (hg.block b q.hib (fun e => ?_))) (q.cells j u hu)
    have h1 := hr _ e.symm
    have h2 := q.lob
    omega⟩
theorem RowsAt.recs {w : World} {lo base e c n : Nat} {A : Option Addr} {css : List Value} {rs : List Rec} (h : RowsAt w lo (Value.slice A n c).ownBlock css rs) (ho : w.ownsRow base e 8 (.slice A n c) n css) (hn : n = rs.length) (hlo : lo ≤ base) : RecsNew w lo A n rs := by
  refine ⟨hn.symm, fun k r hr => ?_⟩
  have hk : k < n := by rw [hn]; exact (List.getElem?_eq_some_iff.1 hr).1
  obtain ⟨g, cap, hv, hbg, hlt⟩ := ho.form (by omega)
  have hgb := (ho.lt g (by rw [hv]; rfl)).1
  injection hv with hA
  subst hA
  obtain ⟨Ad, nd, cd, Af, nf, cf, q⟩ := h.2 k r hr
  refine ⟨g, 0, Ad, nd, cd, Af, nf, cf, rfl, Nat.le_trans hlo hgb, hlt, fun j u hu => ?_, q.ld, q.lf, q.lod, q.lof⟩
  have := ho.cells (g := g) rfl (k * 8 + j) u (q.cells j u hu)
  rw [Nat.zero_add]
  have e0 : (⟨g, 0, none⟩ : Addr).add (k * 8 + j) = ⟨g, k * 8 + j, none⟩ := by unfold Addr.add; split <;> simp_all
  rwa [e0] at this
end Go.Proofs.YtaiaoiochbpmfaaGreat
