/- Words for a slice of records in memory, and for a block. -/
import Derived.Test.YtlofjhcjjcohfaaRecI
import Derived.Test.YtlofjhcjjcohfaaMm
import Derived.Test.YtlofjhcjjcohfaaPl
namespace Go.Proofs.Ytlofjhcjjcohfaa
open Go Go.RowKit Iv
set_option linter.unusedVariables false

/-- A record lies at an address; its two lists lie below block B. -/
structure RecHere (w : World) (B b o : Nat) (r : Rec) (Ad : Option Addr) (nd cd : Nat) (Af : Option Addr) (nf cf : Nat) : Prop where
  cells : ∀ j u, (recV r Ad nd cd Af nf cf)[j]? = some u → w.cell? ⟨b, o + j, none⟩ = some u
  ld : Lies w B 1 Ad nd (r.ev.deps.map iv)
  lf : Lies w B 1 Af nf (r.ev.from_.map iv)

/-- n records lie in memory. -/
def Recs (w : World) (B : Nat) (A : Option Addr) (n : Nat) (rs : List Rec) : Prop :=
  rs.length = n ∧ ∀ k r, rs[k]? = some r → ∃ (b o : Nat) (Ad : Option Addr) (nd cd : Nat) (Af : Option Addr) (nf cf : Nat), A = some ⟨b, o, none⟩ ∧ b < B ∧ RecHere w B b (o + k * 8) r Ad nd cd Af nf cf

section
variable {w w' : World} {B B' n : Nat} {A : Option Addr} {rs : List Rec}
theorem RecHere.same {b o : Nat} {r : Rec} {Ad : Option Addr} {nd cd : Nat} {Af : Option Addr} {nf cf : Nat} (h : RecHere w B b o r Ad nd cd Af nf cf) (hb : b < B) (hk : ∀ p : Addr, p.block < B → w'.cell? p = w.cell? p) : RecHere w' B b o r Ad nd cd Af nf cf :=
  ⟨fun j u hu => (hk _ hb).trans (h.cells j u hu), h.ld.same hk, h.lf.same hk⟩
theorem Recs.same (h : Recs w B A n rs) (hk : ∀ p : Addr, p.block < B → w'.cell? p = w.cell? p) : Recs w' B A n rs :=
  ⟨h.1, fun k r hr => by
    obtain ⟨b, o, Ad, nd, cd, Af, nf, cf, e, hb, h2⟩ := h.2 k r hr
    exact ⟨b, o, Ad, nd, cd, Af, nf, cf, e, hb, h2.same hb hk⟩⟩
theorem Recs.more (h : Recs w B A n rs) (hB : B ≤ B') : Recs w B' A n rs :=
  ⟨h.1, fun k r hr => by
    obtain ⟨b, o, Ad, nd, cd, Af, nf, cf, e, hb, h2⟩ := h.2 k r hr
    exact ⟨b, o, Ad, nd, cd, Af, nf, cf, e, by omega, h2.cells, h2.ld.more hB, h2.lf.more hB⟩⟩
theorem Recs.below (h : Recs w B A n rs) (hb : Below B w w') : Recs w' B A n rs := h.same fun _ hp => hb.cell hp
theorem Recs.drew (h : Recs w B A n rs) : Recs w.drew B A n rs := h.same fun _ _ => rfl
theorem Recs.drewN (h : Recs w B A n rs) (q : Nat) : Recs (w.drewN q) B A n rs := h.same fun _ _ => rfl
theorem Recs.alloc (h : Recs w B A n rs) (hB : B ≤ w.heap.size) (o : Obj) : Recs (w.alloc o) B A n rs := h.same fun p hp => World.cell?_alloc_lt w o p (by omega)
theorem Recs.grown (h : Recs w B A n rs) {row : Option Nat} (hg : w.grownBy w' row) (hB : B ≤ w.heap.size) (hr : ∀ g, row = some g → B ≤ g) : Recs w' B A n rs :=
  h.same fun p hp => World.cell?_of_block (hg.block p.block (by omega) (fun e => by have := hr _ e.symm; omega))
theorem RecHere.grown {b o : Nat} {r : Rec} {Ad : Option Addr} {nd cd : Nat} {Af : Option Addr} {nf cf : Nat} (h : RecHere w B b o r Ad nd cd Af nf cf) (hb : b < B) {row : Option Nat} (hg : w.grownBy w' row) (hB : B ≤ w.heap.size) (hr : ∀ g, row = some g → B ≤ g) : RecHere w' B b o r Ad nd cd Af nf cf :=
  h.same hb fun p hp => World.cell?_of_block (hg.block p.block (by omega) (fun e => by have := hr _ e.symm; omega))
theorem Recs.nil : Recs w B A 0 [] := ⟨rfl, fun k r hr => by simp at hr⟩
theorem Recs.at {k : Nat} (h : Recs w B A n rs) (hk : k < n) : ∃ (b o : Nat) (r : Rec) (Ad : Option Addr) (nd cd : Nat) (Af : Option Addr) (nf cf : Nat), A = some ⟨b, o, none⟩ ∧ b < B ∧ rs[k]? = some r ∧ RecHere w B b (o + k * 8) r Ad nd cd Af nf cf := by
  have hl : k < rs.length := by rw [h.1]; exact hk
  obtain ⟨b, o, Ad, nd, cd, Af, nf, cf, e, hb, h2⟩ := h.2 k rs[k] (List.getElem?_eq_getElem hl)
  exact ⟨b, o, rs[k], Ad, nd, cd, Af, nf, cf, e, hb, List.getElem?_eq_getElem hl, h2⟩
end
/-- The eight cells, each by itself. -/
theorem RecHere.all {w : World} {B b o : Nat} {r : Rec} {Ad : Option Addr} {nd cd : Nat} {Af : Option Addr} {nf cf : Nat} (h : RecHere w B b o r Ad nd cd Af nf cf) :
    w.cell? ⟨b, o, none⟩ = some (.int .i64 r.seq) ∧ w.cell? ⟨b, o + 1, none⟩ = some (.int .i64 r.ev.thread) ∧ w.cell? ⟨b, o + 2, none⟩ = some (.int .i64 r.ev.kind) ∧ w.cell? ⟨b, o + 3, none⟩ = some (.int .i64 r.ev.obj) ∧
    w.cell? ⟨b, o + 4, none⟩ = some (.int .i64 r.ev.value) ∧ w.cell? ⟨b, o + 5, none⟩ = some (.int .i64 r.ev.site) ∧ w.cell? ⟨b, o + 6, none⟩ = some (.slice Ad nd cd) ∧ w.cell? ⟨b, o + 7, none⟩ = some (.slice Af nf cf) :=
  ⟨h.cells 0 (.int .i64 r.seq) rfl, h.cells 1 _ rfl, h.cells 2 _ rfl, h.cells 3 _ rfl, h.cells 4 _ rfl, h.cells 5 _ rfl, h.cells 6 _ rfl, h.cells 7 _ rfl⟩
end Go.Proofs.Ytlofjhcjjcohfaa
