/- What a record must be that came in. -/
import Derived.Test.YtlofjhcjjcohfaaApp
import Derived.Test.YtlofjhcjjcohfaaMm
import Derived.Test.YtlofjhcjjcohfaaPl
import Derived.Test.YtlofjhcjjcohfaaWk
import Derived.ProofKit
import Derived.OpenShut
import Derived.ChangeOld
namespace Go.Proofs.Ytlofjhcjjcohfaa
open Go Go.RowKit Iv
set_option linter.unusedVariables false

/-- What a record must be that came in: its numbers fit; its lists lie in memory. -/
structure RecIn (w : World) (r : Rec) (Ad : Option Addr) (nd cd : Nat) (Af : Option Addr) (nf cf : Nat) : Prop where
  seq : inI64 r.seq
  thread : inI64 r.ev.thread
  kind : inI64 r.ev.kind
  obj : inI64 r.ev.obj
  value : inI64 r.ev.value
  site : inI64 r.ev.site
  deps : allI64 r.ev.deps
  from_ : allI64 r.ev.from_
  ld : Lies w w.heap.size 1 Ad nd (r.ev.deps.map iv)
  lf : Lies w w.heap.size 1 Af nf (r.ev.from_.map iv)
  cd : nd ≤ cd ∧ cd ≤ maxLen ∧ (Ad = none → cd = 0)
  cf : nf ≤ cf ∧ cf ≤ maxLen ∧ (Af = none → cf = 0)

theorem RecIn.ok {w : World} {r : Rec} {Ad : Option Addr} {nd cd : Nat} {Af : Option Addr} {nf cf : Nat} (h : RecIn w r Ad nd cd Af nf cf) (hd : nd ≤ 400) (hf : nf ≤ 400) : RecOk r :=
  ⟨h.seq, h.thread, h.kind, h.obj, h.value, h.site, h.deps, h.from_, by rw [h.ld.lenI]; exact hd, by rw [h.lf.lenI]; exact hf⟩

end Go.Proofs.Ytlofjhcjjcohfaa

/- Words for a slice of records in memory, and for a block. -/
namespace Go.Proofs.Ytlofjhcjjcohfaa
open Go Go.RowKit Iv
set_option linter.unusedVariables false

/-- A record lies at an address; its two lists lie below block B. -/
structure RecHere (w : World) (B b o : Nat) (r : Rec) (Ad : Option Addr) (nd cd : Nat) (Af : Option Addr) (nf cf : Nat) : Prop where
  cells : ∀ j u, (recV r Ad nd cd Af nf cf)[j]? = some u → w.cell? ⟨b, o + j, none⟩ = some u
  ld : Lies w B 1 Ad nd (r.ev.deps.map iv)
  lf : Lies w B 1 Af nf (r.ev.from_.map iv)

/-- n records lie in memory. -/
def Recs (w : World) (B : Nat) (A : Option Addr) (n : Nat) (rs : List Rec) : Prop :=
  rs.length = n ∧ ∀ k r, rs[k]? = some r → ∃ (b o : Nat) (Ad : Option Addr) (nd cd : Nat) (Af : Option Addr) (nf cf : Nat), A = some ⟨b, o, none⟩ ∧ b < B ∧ RecHere w B b (o + k * 8) r Ad nd cd Af nf cf

section
variable {w w' : World} {B B' n : Nat} {A : Option Addr} {rs : List Rec}
theorem RecHere.same {b o : Nat} {r : Rec} {Ad : Option Addr} {nd cd : Nat} {Af : Option Addr} {nf cf : Nat} (h : RecHere w B b o r Ad nd cd Af nf cf) (hb : b < B) (hk : ∀ p : Addr, p.block < B → w'.cell? p = w.cell? p) : RecHere w' B b o r Ad nd cd Af nf cf :=
  ⟨fun j u hu => (hk _ hb).trans (h.cells j u hu), h.ld.same hk, h.lf.same hk⟩
theorem Recs.same (h : Recs w B A n rs) (hk : ∀ p : Addr, p.block < B → w'.cell? p = w.cell? p) : Recs w' B A n rs :=
  ⟨h.1, fun k r hr => by
    obtain ⟨b, o, Ad, nd, cd, Af, nf, cf, e, hb, h2⟩ := h.2 k r hr
    exact ⟨b, o, Ad, nd, cd, Af, nf, cf, e, hb, h2.same hb hk⟩⟩
theorem Recs.more (h : Recs w B A n rs) (hB : B ≤ B') : Recs w B' A n rs :=
  ⟨h.1, fun k r hr => by
    obtain ⟨b, o, Ad, nd, cd, Af, nf, cf, e, hb, h2⟩ := h.2 k r hr
    exact ⟨b, o, Ad, nd, cd, Af, nf, cf, e, by omega, h2.cells, h2.ld.more hB, h2.lf.more hB⟩⟩
theorem Recs.below (h : Recs w B A n rs) (hb : Below B w w') : Recs w' B A n rs := h.same fun _ hp => hb.cell hp
theorem Recs.drew (h : Recs w B A n rs) : Recs w.drew B A n rs := h.same fun _ _ => rfl
theorem Recs.drewN (h : Recs w B A n rs) (q : Nat) : Recs (w.drewN q) B A n rs := h.same fun _ _ => rfl
theorem Recs.alloc (h : Recs w B A n rs) (hB : B ≤ w.heap.size) (o : Obj) : Recs (w.alloc o) B A n rs := h.same fun p hp => World.cell?_alloc_lt w o p (by omega)
theorem Recs.grown (h : Recs w B A n rs) {row : Option Nat} (hg : w.grownBy w' row) (hB : B ≤ w.heap.size) (hr : ∀ g, row = some g → B ≤ g) : Recs w' B A n rs :=
  h.same fun p hp => World.cell?_of_block (hg.block p.block (by omega) (fun e => by have := hr _ e.symm; omega))
theorem RecHere.grown {b o : Nat} {r : Rec} {Ad : Option Addr} {nd cd : Nat} {Af : Option Addr} {nf cf : Nat} (h : RecHere w B b o r Ad nd cd Af nf cf) (hb : b < B) {row : Option Nat} (hg : w.grownBy w' row) (hB : B ≤ w.heap.size) (hr : ∀ g, row = some g → B ≤ g) : RecHere w' B b o r Ad nd cd Af nf cf :=
  h.same hb fun p hp => World.cell?_of_block (hg.block p.block (by omega) (fun e => by have := hr _ e.symm; omega))
theorem Recs.nil : Recs w B A 0 [] := ⟨rfl, fun k r hr => by simp at hr⟩
theorem Recs.at {k : Nat} (h : Recs w B A n rs) (hk : k < n) : ∃ (b o : Nat) (r : Rec) (Ad : Option Addr) (nd cd : Nat) (Af : Option Addr) (nf cf : Nat), A = some ⟨b, o, none⟩ ∧ b < B ∧ rs[k]? = some r ∧ RecHere w B b (o + k * 8) r Ad nd cd Af nf cf := by
  have hl : k < rs.length := by rw [h.1]; exact hk
  obtain ⟨b, o, Ad, nd, cd, Af, nf, cf, e, hb, h2⟩ := h.2 k rs[k] (List.getElem?_eq_getElem hl)
  exact ⟨b, o, rs[k], Ad, nd, cd, Af, nf, cf, e, hb, List.getElem?_eq_getElem hl, h2⟩
end
/-- The eight cells, each by itself. -/
theorem RecHere.all {w : World} {B b o : Nat} {r : Rec} {Ad : Option Addr} {nd cd : Nat} {Af : Option Addr} {nf cf : Nat} (h : RecHere w B b o r Ad nd cd Af nf cf) :
    w.cell? ⟨b, o, none⟩ = some (.int .i64 r.seq) ∧ w.cell? ⟨b, o + 1, none⟩ = some (.int .i64 r.ev.thread) ∧ w.cell? ⟨b, o + 2, none⟩ = some (.int .i64 r.ev.kind) ∧ w.cell? ⟨b, o + 3, none⟩ = some (.int .i64 r.ev.obj) ∧
    w.cell? ⟨b, o + 4, none⟩ = some (.int .i64 r.ev.value) ∧ w.cell? ⟨b, o + 5, none⟩ = some (.int .i64 r.ev.site) ∧ w.cell? ⟨b, o + 6, none⟩ = some (.slice Ad nd cd) ∧ w.cell? ⟨b, o + 7, none⟩ = some (.slice Af nf cf) :=
  ⟨h.cells 0 (.int .i64 r.seq) rfl, h.cells 1 _ rfl, h.cells 2 _ rfl, h.cells 3 _ rfl, h.cells 4 _ rfl, h.cells 5 _ rfl, h.cells 6 _ rfl, h.cells 7 _ rfl⟩
end Go.Proofs.Ytlofjhcjjcohfaa

/- How the arguments of the statements read: from the form's reading to the words of the walks. -/
namespace Iv
open Go Go.RowKit Go.ChangeShapes Go.WideShapes Go.ChangeAt
open Go.ChangeMaps (open_string shut_string)

section
variable {H : Type} {enc : TypeId × Value → H} {P : Program} {W : World} {held : Bool}

theorem fits_i64 {n : Int} (h : (Lit.int .i64 n).wf = true) : inI64 n := by
  simp only [Lit.wf, IntKind.min, IntKind.max, IntKind.signed, IntKind.bits, Bool.and_eq_true, decide_eq_true_eq, if_true] at h
  unfold inI64
  omega
theorem fits_u8 {n : Int} (h : (Lit.int .u8 n).wf = true) : 0 ≤ n ∧ n ≤ 255 := by
  simp [Lit.wf, IntKind.min, IntKind.max, IntKind.signed, IntKind.bits] at h
  omega
theorem fits_u16 {n : Int} (h : (Lit.int .u16 n).wf = true) : 0 ≤ n ∧ n ≤ 65535 := by
  simp [Lit.wf, IntKind.min, IntKind.max, IntKind.signed, IntKind.bits] at h
  omega

theorem lies_of_cells {k : IntKind} {a : Addr} {len cap : Nat} {zs : List Int} (hl : len ≤ cap) (hz : zs.length = cap)
    (hc : ∀ i, i < zs.length → W.cell? (a.add i) = some (.int k (zs.getD i 0))) : Lies W W.heap.size 1 (some a) len ((zs.take len).map (Value.int k)) := by
  refine ⟨by simp; omega, fun hn => ⟨a, rfl, ?_, fun j u hu => ?_⟩⟩
  · have := World.block_lt_of_cell? W _ (hc 0 (by omega))
    rwa [addBlock] at this
  · simp only [List.getElem?_map, List.getElem?_take, Option.map_eq_some_iff] at hu
    obtain ⟨z, hz2, rfl⟩ := hu
    split at hz2
    · have hj : j < zs.length := (List.getElem?_eq_some_iff.1 hz2).1
      rw [hc j hj]
      simp [List.getD, hz2]
    · cases hz2

theorem bytes_of_wf (zs : List Int) (h : ∀ n ∈ zs, (Lit.int .u8 n).wf = true) : ∃ xs : Bytes, zs.map (Value.int .u8) = xs.map bv := by
  refine ⟨zs.map fun n => UInt8.ofNat n.toNat, ?_⟩
  rw [List.map_map]
  refine List.map_congr_left fun n hn => ?_
  have := fits_u8 (h n hn)
  show _ = bv _
  unfold bv
  rw [ofNat_toNat_lt (by omega), Int.toNat_of_nonneg this.1]

/-- A '[]byte' that came in. -/
theorem open_bytes {t e : TypeId} {fuel : Nat} {cs : List Value} {x : DataW H × List MemPlace} (ht : P.underlying t = some (.slice e)) (he : P.underlying e = some (.int .u8)) (hc : P.cellsOf e = 1)
    (h : DataW.trod enc P W 0 (fun _ => true) held fuel t cs = some x) :
    ∃ A n c, ∃ xs : Bytes, cs = [.slice A n c] ∧ Lies W W.heap.size 1 A n (xs.map bv) ∧ n ≤ c ∧ c ≤ maxLen ∧ (A = none → c = 0) := by
  rcases open_ints ht he hc h with ⟨rfl, _⟩ | ⟨a, len, cap, zs, rfl, _, hl, hm, hz, _, hcell, hw⟩
  · exact ⟨none, 0, 0, [], rfl, Lies.nil, Nat.le_refl _, Nat.zero_le _, fun _ => rfl⟩
  · obtain ⟨xs, hx⟩ := bytes_of_wf (zs.take len) (fun n hn => hw n (List.mem_of_mem_take hn))
    refine ⟨some a, len, cap, xs, rfl, ?_, hl, hm, fun e => by cases e⟩
    rw [← hx]
    exact lies_of_cells hl (by simpa using hz) hcell

/-- A '[]int' that came in. -/
theorem open_intlist {t e : TypeId} {fuel : Nat} {cs : List Value} {x : DataW H × List MemPlace} (ht : P.underlying t = some (.slice e)) (he : P.underlying e = some (.int .i64)) (hc : P.cellsOf e = 1)
    (h : DataW.trod enc P W 0 (fun _ => true) held fuel t cs = some x) :
    ∃ A n c, ∃ xs : List Int, cs = [.slice A n c] ∧ Lies W W.heap.size 1 A n (xs.map iv) ∧ n ≤ c ∧ c ≤ maxLen ∧ (A = none → c = 0) ∧ allI64 xs := by
  rcases open_ints ht he hc h with ⟨rfl, _⟩ | ⟨a, len, cap, zs, rfl, _, hl, hm, hz, _, hcell, hw⟩
  · exact ⟨none, 0, 0, [], rfl, Lies.nil, Nat.le_refl _, Nat.zero_le _, fun _ => rfl, fun n hn => by simp at hn⟩
  · exact ⟨some a, len, cap, zs.take len, rfl, lies_of_cells hl (by simpa using hz) hcell, hl, hm, (fun e => by cases e), fun n hn => fits_i64 (hw n (List.mem_of_mem_take hn))⟩

theorem trod_i64 {t : TypeId} {fuel : Nat} {cs : List Value} {x : DataW H × List MemPlace} {base : Nat} {spare : Nat → Bool} (ht : P.underlying t = some (.int .i64))
    (h : DataW.trod enc P W base spare held fuel t cs = some x) : ∃ n, cs = [.int .i64 n] ∧ inI64 n := by
  obtain ⟨n, rfl, _, hw⟩ := DataW.trod_int ht h
  exact ⟨n, rfl, fits_i64 hw⟩
end
end Iv

/- How a record that came in by value reads. -/
namespace Go.Proofs.Ytlofjhcjjcohfaa
open Go Go.RowKit Go.ChangeShapes Go.WideShapes Go.ChangeAt Iv
set_option linter.unusedVariables false

section
variable {H : Type} {enc : TypeId × Value → H} {W : World} {held : Bool}

theorem cells_int : Try.prog.cellsOf 3 = 1 := by kernel_rfl
theorem cells_int64 : Try.prog.cellsOf 2 = 1 := by kernel_rfl
theorem cells_ints : Try.prog.cellsOf 22 = 1 := by kernel_rfl
theorem cells_event : Try.prog.cellsOf 24 = 7 := by kernel_rfl
theorem cells_record : Try.prog.cellsOf 26 = 8 := by kernel_rfl

set_option maxRecDepth 100000 in
theorem open_event_cells {fuel : Nat} {cs : List Value} {x : DataW H × List MemPlace} (hl : cs.length = 7) (h : DataW.trod enc Try.prog W 0 (fun _ => true) held fuel 24 cs = some x) :
    ∃ (e : Ev) (Ad : Option Addr) (nd cd : Nat) (Af : Option Addr) (nf cf : Nat), cs = [.int .i64 e.thread, .int .i64 e.kind, .int .i64 e.obj, .int .i64 e.value, .int .i64 e.site, .slice Ad nd cd, .slice Af nf cf] ∧
      (inI64 e.thread ∧ inI64 e.kind ∧ inI64 e.obj ∧ inI64 e.value ∧ inI64 e.site ∧ allI64 e.deps ∧ allI64 e.from_) ∧
      Lies W W.heap.size 1 Ad nd (e.deps.map iv) ∧ Lies W W.heap.size 1 Af nf (e.from_.map iv) ∧ (nd ≤ cd ∧ cd ≤ maxLen ∧ (Ad = none → cd = 0)) ∧ (nf ≤ cf ∧ cf ≤ maxLen ∧ (Af = none → cf = 0)) := by
  obtain ⟨xs, n, _, _, _, hxl, hg⟩ := DataW.trod_struct Try.underlying24 h
  match cs, hl, xs, hxl with
  | [c0, c1, c2, c3, c4, c5, c6], _, [y0, y1, y2, y3, y4, y5, y6], _ =>
    have g0 := hg 0 _ rfl
    have g1 := hg 1 _ rfl
    have g2 := hg 2 _ rfl
    have g3 := hg 3 _ rfl
    have g4 := hg 4 _ rfl
    have g5 := hg 5 _ rfl
    have g6 := hg 6 _ rfl
    simp only [cells_int, cells_int64, cells_ints, List.getElem_toArray, List.getElem_cons_zero, List.getElem_cons_succ, List.drop_zero, List.drop_succ_cons, List.take_succ_cons, List.take_zero, List.getElem?_cons_zero, List.getElem?_cons_succ] at g0 g1 g2 g3 g4 g5 g6
    obtain ⟨a0, e0, i0⟩ := trod_i64 Try.underlying3 g0
    obtain ⟨a1, e1, i1⟩ := trod_i64 Try.underlying3 g1
    obtain ⟨a2, e2, i2⟩ := trod_i64 Try.underlying3 g2
    obtain ⟨a3, e3, i3⟩ := trod_i64 Try.underlying2 g3
    obtain ⟨a4, e4, i4⟩ := trod_i64 Try.underlying3 g4
    obtain ⟨A5, n5, k5, l5, e5, b5, u5, v5, o5, q5⟩ := open_intlist Try.underlying22 Try.underlying3 cells_int g5
    obtain ⟨A6, n6, k6, l6, e6, b6, u6, v6, o6, q6⟩ := open_intlist Try.underlying22 Try.underlying3 cells_int g6
    simp only [List.cons.injEq, and_true] at e0 e1 e2 e3 e4 e5 e6
    subst e0 e1 e2 e3 e4 e5 e6
    exact ⟨⟨a0, a1, a2, a3, a4, l5, l6⟩, A5, n5, k5, A6, n6, k6, rfl, ⟨i0, i1, i2, i3, i4, q5, q6⟩, b5, b6, ⟨u5, v5, o5⟩, ⟨u6, v6, o6⟩⟩

set_option maxRecDepth 100000 in
theorem open_rec_cells {fuel : Nat} {cs : List Value} {x : DataW H × List MemPlace} (hl : cs.length = 8) (h : DataW.trod enc Try.prog W 0 (fun _ => true) held fuel 26 cs = some x) :
    ∃ (r : Rec) (Ad : Option Addr) (nd cd : Nat) (Af : Option Addr) (nf cf : Nat), cs = (recV r Ad nd cd Af nf cf).toList ∧ RecIn W r Ad nd cd Af nf cf := by
  obtain ⟨xs, n, _, _, _, hxl, hg⟩ := DataW.trod_struct Try.underlying26 h
  match cs, hl, xs, hxl with
  | c0 :: cs', hl, [y0, y1], _ =>
    have g0 := hg 0 _ rfl
    have g1 := hg 1 _ rfl
    simp only [cells_int, cells_event, List.getElem_toArray, List.getElem_cons_zero, List.getElem_cons_succ, List.drop_zero, List.drop_succ_cons, List.take_succ_cons, List.take_zero, List.getElem?_cons_zero, List.getElem?_cons_succ] at g0 g1
    have hl' : cs'.length = 7 := by simpa using hl
    rw [List.take_of_length_le (by omega)] at g1
    obtain ⟨a0, e0, i0⟩ := trod_i64 Try.underlying3 g0
    simp only [List.cons.injEq, and_true] at e0
    subst e0
    obtain ⟨e, Ad, nd, cd, Af, nf, cf, rfl, ⟨j0, j1, j2, j3, j4, j5, j6⟩, ld, lf, hd, hf⟩ := open_event_cells hl' g1
    exact ⟨⟨a0, e⟩, Ad, nd, cd, Af, nf, cf, rfl, ⟨i0, j0, j1, j2, j3, j4, j5, j6, ld, lf, hd, hf⟩⟩

set_option maxRecDepth 100000 in
theorem open_rec {v : Value} {d : DataW H} {p : List MemPlace} {base : Nat} (hv : Value.okWide Try.prog W .any base 26 v) (h : DataW.Trod enc Try.prog W 0 (fun _ => true) held 26 v d p) :
    ∃ (r : Rec) (Ad : Option Addr) (nd cd : Nat) (Af : Option Addr) (nf cf : Nat), v = .agg (recV r Ad nd cd Af nf cf) ∧ RecIn W r Ad nd cd Af nf cf := by
  obtain ⟨cs, rfl, hsz⟩ := okWide_struct Try.underlying26 hv
  obtain ⟨fuel, hf⟩ := h
  rw [cells_record] at hsz
  obtain ⟨r, Ad, nd, cd, Af, nf, cf, e, hr⟩ := open_rec_cells (by simpa [Value.cells] using hsz) hf
  refine ⟨r, Ad, nd, cd, Af, nf, cf, ?_, hr⟩
  congr 1
  exact Array.toList_inj.1 e
end
end Go.Proofs.Ytlofjhcjjcohfaa
