/- The walk of SameInts and of SameEvent: they tell whether two lists of numbers, two events are one. -/
import Derived.Test.YtaiaoiochbpmfaaGreatMm
import Derived.Test.YtaiaoiochbpmfaaGreatSameY
import Derived.Deep.RegionHeld3
import Derived.Test.YtaiaoiochbpmfaaGreatRdl
import Derived.Test.YtaiaoiochbpmfaaGreatRead
import Derived.Test.YtaiaoiochbpmfaaGreatAllow
namespace Go.Proofs.YtaiaoiochbpmfaaGreat
open Go Go.RowKit Iv
set_option linter.unusedVariables false
set_option maxHeartbeats 400000 in
theorem sameInts_any (A A' : Option Addr) (n n' c c' : Nat) (xs ys : List Int) (w : World) (B : Nat) (h : Lies w B 1 A n (xs.map iv)) (h' : Lies w B 1 A' n' (ys.map iv)) (hn : n ≤ 1000000000000) (hn' : n' ≤ 1000000000000) :
    Calls Tryz.prog 70 #[.slice A n c, .slice A' n' c'] w fun e w' => e = .returned (.bool (decide (xs = ys))) ∧ ∃ q, w' = w.drewN q := by
  have hl : xs.length = n := by simpa using h.1
  have hl' : ys.length = n' := by simpa using h'.1
  by_cases hnn : n = n'
  · subst hnn
    have HL := Lib.hid hl
    have HL' := Lib.hid hl'
    clear hl hl'
    have hb : ((n : Int) != (n : Int)) = false := by simp
    go_enter Tryz.func70, Tryz.ntmps70
    go_wp2
    go_loopw [5] (fun i wr => ∃ k q : Nat, i = .int .i64 k ∧ k ≤ n ∧ wr = w.drewN q ∧ xs.take k = ys.take k) (fun i _ => n - (intOf i).toNat)
    case atStart => exact ⟨0, 0, rfl, by omega, rfl, rfl⟩
    case round =>
      obtain ⟨k, q, rfl, hk, rfl, heq⟩ := hrel
      have HE := Lib.hid heq
      clear heq
      by_cases hlt : k < n
      · obtain ⟨ad, u, rfl, hb1, hx, hc⟩ := h.cellAt hlt
        obtain ⟨ad', u', rfl, hb2, hx', hc'⟩ := h'.cellAt hlt
        simp only [List.getElem?_map, Option.map_eq_some_iff] at hx hx'
        obtain ⟨x, hx, rfl⟩ := hx
        obtain ⟨y, hy, rfl⟩ := hx'
        unfold iv at hc hc'
        have HX := Lib.hid hx
        have HY := Lib.hid hy
        clear hx hy
        by_cases hxy : x = y
        · have hne : (x != y) = false := by simp [hxy]
          have HXY := Lib.hid hxy
          clear hxy
          go_wp2
          go_quiet (fail)
          go_wp2
          go_roundw
          case rel => exact ⟨k + 1, q + nq, by go_num, by omega, by simp, by rw [take_next HX.out, take_next HY.out, HE.out, HXY.out]⟩
          case measure => simp [intOf]; omega
        · have hne : (x != y) = true := by
            rw [bne_iff_ne]
            exact hxy
          have HF : Hid (decide (xs = ys) = false) := by
            rw [decide_eq_false_iff_not]
            intro e
            have h1 := HX.out
            rw [e, HY.out] at h1
            injection h1 with h1
            exact hxy h1.symm
          clear hxy
          go_wp2
          go_quiet (fail)
          go_wp2
          go_ret
          exact ⟨ret_bool HF.out.symm, q + nq, by simp⟩
      · have hkn : k = n := by omega
        have HF : Hid (decide (xs = ys) = true) := by
          rw [decide_eq_true_iff]
          have := HE.out
          rwa [List.take_of_length_le (by have := HL.out; omega), List.take_of_length_le (by have := HL'.out; omega)] at this
        clear hkn
        go_wp2
        go_ret
        exact ⟨ret_bool HF.out.symm, q, rfl⟩
  · have hb : ((n : Int) != (n' : Int)) = true := by rw [bne_iff_ne]; omega
    have HF : Hid (decide (xs = ys) = false) := by
      rw [decide_eq_false_iff_not]
      intro e
      rw [e] at hl
      omega
    clear hnn hl hl'
    go_enter Tryz.func70, Tryz.ntmps70
    go_wp2
    go_ret
    exact ⟨ret_bool HF.out.symm, 0, rfl⟩
theorem sameInts_yes (A A' : Option Addr) (n n' c c' : Nat) (xs : List Int) (w : World) (B B' : Nat) (h : Lies w B 1 A n (xs.map iv)) (h' : Lies w B' 1 A' n' (xs.map iv)) (hn : n ≤ 1000000000000) (hn' : n' ≤ 1000000000000) :
    Calls Tryz.prog 70 #[.slice A n c, .slice A' n' c'] w fun e w' => e = .returned (.bool true) ∧ ∃ q, w' = w.drewN q :=
  (sameInts_any A A' n n' c c' xs xs w (max B B') (h.more (Nat.le_max_left _ _)) (h'.more (Nat.le_max_right _ _)) hn hn').mono fun e w' ⟨he, hw⟩ => ⟨by rw [he]; simp, hw⟩
def evV (e : Ev) (Ad : Option Addr) (nd cd : Nat) (Af : Option Addr) (nf cf : Nat) : Array Value :=
  #[.int .i64 e.thread, .int .i64 e.kind, .int .i64 e.obj, .int .i64 e.value, .int .i64 e.site, .slice Ad nd cd, .slice Af nf cf]
set_option maxRecDepth 100000 in
set_option maxHeartbeats 1600000 in
theorem sameEvent_yes (e : Ev) (Ad : Option Addr) (nd cd : Nat) (Af : Option Addr) (nf cf : Nat) (Ad' : Option Addr) (nd' cd' : Nat) (Af' : Option Addr) (nf' cf' : Nat) (w : World) (B : Nat)
    (h1 : Lies w B 1 Ad nd (e.deps.map iv)) (h2 : Lies w B 1 Af nf (e.from_.map iv)) (h1' : Lies w B 1 Ad' nd' (e.deps.map iv)) (h2' : Lies w B 1 Af' nf' (e.from_.map iv)) (hd : e.deps.length ≤ 1000000000000) (hf : e.from_.length ≤ 1000000000000) :
    Calls Tryz.prog 51 #[.agg (evV e Ad nd cd Af nf cf), .agg (evV e Ad' nd' cd' Af' nf' cf')] w fun en w' => en = .returned (.bool true) ∧ w.grownBy w' none := by
  have l1 := h1.lenI
  have l2 := h2.lenI
  have l1' := h1'.lenI
  have l2' := h2'.lenI
  rw [l1] at hd l1'
  rw [l2] at hf l2'
  subst l1' l2'
  have C1 := Lib.hid (fun o o' => sameInts_yes Ad Ad' nd nd cd cd' e.deps ((w.alloc o).alloc o') B B ((h1.allocAny o).allocAny o') ((h1'.allocAny o).allocAny o') hd hd)
  have C2 := Lib.hid (fun o o' q => sameInts_yes Af Af' nf nf cf cf' e.from_ (((w.alloc o).alloc o').drewN q) B B (((h2.allocAny o).allocAny o').drewN q) (((h2'.allocAny o).allocAny o').drewN q) hf hf)
  clear l1 l2 h1 h2 h1' h2' hd hf
  have b1 : (e.thread == e.thread) = true := by simp
  have b2 : (e.kind == e.kind) = true := by simp
  have b3 : (e.obj == e.obj) = true := by simp
  have b4 : (e.value == e.value) = true := by simp
  have b5 : (e.site == e.site) = true := by simp
  unfold evV
  go_enter Tryz.func51, Tryz.ntmps51
  go_wp2_with fail
  refine (C1.out _ _).mono ?_
  rintro en w1 ⟨rfl, q1, rfl⟩
  go_wp2_with fail
  refine (C2.out _ _ _).mono ?_
  rintro en w2 ⟨rfl, q2, rfl⟩
  go_wp2_with fail
  go_ret
  exact ⟨rfl, grown_toDrewN (grownBy_trans (World.grownBy_alloc w _ none) (World.grownBy_alloc _ _ none) (.inl rfl)) (q1 + q2)⟩
end Go.Proofs.YtaiaoiochbpmfaaGreat

/- The walk of the reference's list (chapter 11). -/
namespace Go.Proofs.YtaiaoiochbpmfaaGreat
open Go Go.RowKit Iv
set_option linter.unusedVariables false
end Go.Proofs.YtaiaoiochbpmfaaGreat

/- The walk of the reference's Read (chapter 11): getRec. -/
namespace Go.Proofs.YtaiaoiochbpmfaaGreat
open Go Go.RowKit Iv
set_option linter.unusedVariables false
structure RdX (w : World) (tR : TypeId) (gx : Nat) (A : Option Addr) (n c : Nat) (wk : World) (s : Rd) (cs : Array Value) : Prop where
  res : Held wk w.heap.size 71 #[.int .i64 0, .int .i64 0, .int .i64 0, .int .i64 0, .int .i64 0, .int .i64 0, .slice none 0 0, .slice none 0 0]
  rd : Held wk (w.heap.size + 1) tR (rdCells A n c s)
  rcd : Held wk gx 71 cs
  grown : w.grownBy wk none
  far : w.heap.size + 1 < gx
theorem RdX.next {w : World} {tR : TypeId} {gx : Nat} {A : Option Addr} {n c : Nat} {wk w' : World} {s s' : Rd} {cs : Array Value} (h : RdX w tR gx A n c wk s cs)
    (h1 : Held w' (w.heap.size + 1) tR (rdCells A n c s')) (h2 : wk.grownBy w' (some (w.heap.size + 1))) : RdX w tR gx A n c w' s' cs := by
  have hf := h.far
  refine ⟨h.res.grown h2 (fun e => by injection e with e; omega), h1, h.rcd.grown h2 (fun e => by injection e with e; omega), ?_, hf⟩
  exact grownBy_trans h.grown h2 (.inr ⟨_, rfl, Nat.le_succ _⟩)
theorem RdX.put {w : World} {tR : TypeId} {gx : Nat} {A : Option Addr} {n c : Nat} {wk : World} {s : Rd} {cs : Array Value} (h : RdX w tR gx A n c wk s cs) (i : Nat) (u : Value) :
    RdX w tR gx A n c (wk.setCell ⟨gx, i, none⟩ u) s (cs.setIfInBounds i u) := by
  have hf := h.far
  refine ⟨h.res.far (by simp only []; omega) u, h.rd.far (by simp only []; omega) u, h.rcd.store i u, ?_, hf⟩
  exact grownBy_trans h.grown (grown_store wk _ i u) (.inr ⟨_, rfl, by omega⟩)
end Go.Proofs.YtaiaoiochbpmfaaGreat

/- What Read gives, part by part. -/
namespace Go.Proofs.YtaiaoiochbpmfaaGreat
open Go Go.RowKit Iv
set_option linter.unusedVariables false
theorem belGr {w w1 w2 : World} (h : Below w.heap.size w w1) (hg : w1.grownBy w2 none) : Below w.heap.size w w2 := h.grown hg h.size (fun k hk => by cases hk)
theorem readP_parts (A : Option Addr) (n c B : Nat) (xs : Bytes) (thread seq : Int) (w : World) (h : Lies w B 1 A n (xs.map bv)) (hB : B ≤ w.heap.size) (hnc : n ≤ c) (ho : A = none → c = 0) (hn : n ≤ 1000000000) {r : Rec} {k : Nat} {er : Int} (hg : getRec xs thread seq = (r, k, er)) :
    Calls Tryz.prog 66 #[.slice A n c, .int .i64 thread, .int .i64 seq] w fun e w' => ∃ (Ad : Option Addr) (cd : Nat) (Af : Option Addr) (cf : Nat),
      e = .returned (.tuple #[.agg (recV r Ad r.ev.deps.length cd Af r.ev.from_.length cf), .int .i64 (k : Int), .int .i64 er]) ∧
      w'.ownsRow w.heap.size 3 1 (.slice Ad r.ev.deps.length cd) r.ev.deps.length (r.ev.deps.map iv) ∧ w'.ownsRow w.heap.size 3 1 (.slice Af r.ev.from_.length cf) r.ev.from_.length (r.ev.from_.map iv) ∧ w.grownBy w' none := by
  refine (readP_any A n c B xs thread seq w h hB hnc ho hn).mono ?_
  rintro e w' ⟨r', vd, vf, hr, he, hd, hf, hgr⟩
  rw [hg] at hr he
  subst hr
  obtain ⟨Ad, cd, hvd, _⟩ := own_slice hd
  obtain ⟨Af, cf, hvf, _⟩ := own_slice hf
  subst hvd hvf
  exact ⟨Ad, cd, Af, cf, he, hd, hf, hgr⟩
theorem cells8 {W : World} {g : Nat} {T : TypeId} {r : Rec} {Ad : Option Addr} {nd cd : Nat} {Af : Option Addr} {nf cf : Nat} (h : Held W g T (recV r Ad nd cd Af nf cf)) :
    W.cell? ⟨g, 0, none⟩ = some (.int .i64 r.seq) ∧ W.cell? ⟨g, 1, none⟩ = some (.int .i64 r.ev.thread) ∧ W.cell? ⟨g, 2, none⟩ = some (.int .i64 r.ev.kind) ∧ W.cell? ⟨g, 3, none⟩ = some (.int .i64 r.ev.obj) ∧
    W.cell? ⟨g, 4, none⟩ = some (.int .i64 r.ev.value) ∧ W.cell? ⟨g, 5, none⟩ = some (.int .i64 r.ev.site) ∧ W.cell? ⟨g, 6, none⟩ = some (.slice Ad nd cd) ∧ W.cell? ⟨g, 7, none⟩ = some (.slice Af nf cf) :=
  ⟨h.cell 0, h.cell 1, h.cell 2, h.cell 3, h.cell 4, h.cell 5, h.cell 6, h.cell 7⟩
end Go.Proofs.YtaiaoiochbpmfaaGreat

/- Words for a row of records that the call's own appends made (chapter 13). -/
namespace Iv
open Go Go.RowKit
theorem grown_anyRow {a b : World} (h : a.grownBy b none) (o : Option Nat) : a.grownBy b o := ⟨h.os, h.tape, h.output, h.size, fun k hk _ => h.block k hk (fun e => nomatch e)⟩
def Off (o : Option Nat) (A : Option Addr) (n : Nat) : Prop := 0 < n → ∀ ad, A = some ad → some ad.block ≠ o
theorem Off.ofOwn {w : World} {base e sz n c : Nat} {A : Option Addr} {xs : List Value} {o : Option Nat} (h : w.ownsRow base e sz (.slice A n c) n xs) (ho : ∀ g, o = some g → g < base) : Off o A n := by
  rintro _ ad rfl hb
  have := (h.lt ad.block rfl).1
  have := ho _ hb.symm
  omega
theorem Lies.grownOff {w w' : World} {B sz n : Nat} {A : Option Addr} {xs : List Value} {row : Option Nat} (h : Lies w B sz A n xs) (ho : Off row A n) (hg : w.grownBy w' row) (hB : B ≤ w.heap.size) : Lies w' B sz A n xs := by
  refine ⟨h.1, fun hn => ?_⟩
  obtain ⟨ad, e, hb, hc⟩ := h.2 hn
  refine ⟨ad, e, hb, fun j u hu => ?_⟩
  refine Eq.trans (World.cell?_of_block (hg.block (ad.add j).block ?_ ?_)) (hc j u hu)
  · rw [addBlock]; omega
  · rw [addBlock]; exact ho hn ad e
theorem Off.at_ {w : World} {B sz n : Nat} {A : Option Addr} {xs : List Value} {o o' : Option Nat} (ho : Off o A n) (h : Lies w B sz A n xs) (hB : B ≤ w.heap.size) (hat : At w o o') : Off o' A n := by
  intro hn ad e hb
  rcases hat with rfl | ⟨g, rfl, hge⟩
  · exact ho hn ad e hb
  · obtain ⟨ad', e', hb', _⟩ := h.2 hn
    rw [e] at e'
    injection e' with e'
    subst e'
    injection hb with hb
    omega
def Lo (lo : Nat) (A : Option Addr) (n : Nat) : Prop := 0 < n → ∀ ad, A = some ad → lo ≤ ad.block
theorem Lo.ofOwn {w : World} {base e sz n c lo : Nat} {A : Option Addr} {xs : List Value} (h : w.ownsRow base e sz (.slice A n c) n xs) (hl : lo ≤ base) : Lo lo A n := by
  rintro _ ad rfl
  have := (h.lt ad.block rfl).1
  omega
theorem Lo.lower {lo lo' : Nat} {A : Option Addr} {n : Nat} (h : Lo lo A n) (hl : lo' ≤ lo) : Lo lo' A n := fun hn ad e => by have := h hn ad e; omega
theorem Lo.off {lo : Nat} {A : Option Addr} {n : Nat} {row : Option Nat} (h : Lo lo A n) (hr : ∀ g, row = some g → g < lo) : Off row A n := fun hn ad e hb => by
  have h1 := h hn ad e
  have h2 := hr _ hb.symm
  omega
end Iv
namespace Go.Proofs.YtaiaoiochbpmfaaGreat
open Go Go.RowKit Iv
set_option linter.unusedVariables false
theorem info_rec : (Tryz.prog.info? 71).map (fun i => (i.zero, i.size, i.bytes)) = some (some (.agg #[.int .i64 0, .int .i64 0, .int .i64 0, .int .i64 0, .int .i64 0, .int .i64 0, .slice none 0 0, .slice none 0 0]), 8, 96) := by kernel_rfl
structure RowRec (w : World) (lo : Nat) (o : Option Nat) (css : List Value) (k : Nat) (r : Rec) (Ad : Option Addr) (nd cd : Nat) (Af : Option Addr) (nf cf : Nat) : Prop where
  cells : ∀ j u, (recV r Ad nd cd Af nf cf)[j]? = some u → css[k * 8 + j]? = some u
  ld : Lies w w.heap.size 1 Ad nd (r.ev.deps.map iv)
  lf : Lies w w.heap.size 1 Af nf (r.ev.from_.map iv)
  od : Off o Ad nd
  of_ : Off o Af nf
  lod : Lo lo Ad nd
  lof : Lo lo Af nf
def RowsAt (w : World) (lo : Nat) (o : Option Nat) (css : List Value) (rs : List Rec) : Prop :=
  css.length = rs.length * 8 ∧ ∀ k r, rs[k]? = some r → ∃ (Ad : Option Addr) (nd cd : Nat) (Af : Option Addr) (nf cf : Nat), RowRec w lo o css k r Ad nd cd Af nf cf
theorem RowsAt.nil (w : World) (lo : Nat) (o : Option Nat) : RowsAt w lo o [] [] := ⟨rfl, fun k r hr => by simp at hr⟩
theorem RowRec.grow {w w' : World} {lo : Nat} {o o' : Option Nat} {css : List Value} {k : Nat} {r : Rec} {Ad : Option Addr} {nd cd : Nat} {Af : Option Addr} {nf cf : Nat} (h : RowRec w lo o css k r Ad nd cd Af nf cf) (hg : w.grownBy w' o) (hat : At w o o') : RowRec w' lo o' css k r Ad nd cd Af nf cf :=
  ⟨h.cells, (h.ld.grownOff h.od hg (Nat.le_refl _)).more hg.size, (h.lf.grownOff h.of_ hg (Nat.le_refl _)).more hg.size, h.od.at_ h.ld (Nat.le_refl _) hat, h.of_.at_ h.lf (Nat.le_refl _) hat, h.lod, h.lof⟩
theorem RowsAt.grow {w w' : World} {lo : Nat} {o o' : Option Nat} {css : List Value} {rs : List Rec} (h : RowsAt w lo o css rs) (hg : w.grownBy w' o) (hat : At w o o') : RowsAt w' lo o' css rs :=
  ⟨h.1, fun k r hr => by
    obtain ⟨Ad, nd, cd, Af, nf, cf, q⟩ := h.2 k r hr
    exact ⟨Ad, nd, cd, Af, nf, cf, q.grow hg hat⟩⟩
theorem RowsAt.keep {w w' : World} {lo : Nat} {o : Option Nat} {css : List Value} {rs : List Rec} (h : RowsAt w lo o css rs) (hg : w.grownBy w' none) : RowsAt w' lo o css rs :=
  ⟨h.1, fun k r hr => by
    obtain ⟨Ad, nd, cd, Af, nf, cf, q⟩ := h.2 k r hr
    exact ⟨Ad, nd, cd, Af, nf, cf, q.cells, (q.ld.grown hg (Nat.le_refl _) (fun _ e => nomatch e)).more hg.size, (q.lf.grown hg (Nat.le_refl _) (fun _ e => nomatch e)).more hg.size, q.od, q.of_, q.lod, q.lof⟩⟩
theorem RowsAt.snoc {w : World} {lo : Nat} {o : Option Nat} {css : List Value} {rs : List Rec} (h : RowsAt w lo o css rs) {r : Rec} {Ad : Option Addr} {nd cd : Nat} {Af : Option Addr} {nf cf : Nat}
    (h1 : Lies w w.heap.size 1 Ad nd (r.ev.deps.map iv)) (h2 : Lies w w.heap.size 1 Af nf (r.ev.from_.map iv)) (h3 : Off o Ad nd) (h4 : Off o Af nf) (h5 : Lo lo Ad nd) (h6 : Lo lo Af nf) : RowsAt w lo o (css ++ (recV r Ad nd cd Af nf cf).toList) (rs ++ [r]) := by
  refine ⟨by rw [List.length_append, h.1, List.length_append]; unfold recV; simp [Nat.add_mul], fun k q hq => ?_⟩
  by_cases hk : k < rs.length
  · rw [List.getElem?_append_left hk] at hq
    obtain ⟨Ad', nd', cd', Af', nf', cf', z⟩ := h.2 k q hq
    refine ⟨Ad', nd', cd', Af', nf', cf', fun j u hu => ?_, z.ld, z.lf, z.od, z.of_, z.lod, z.lof⟩
    have := z.cells j u hu
    rw [List.getElem?_append_left (List.getElem?_eq_some_iff.1 this).1]
    exact this
  · have hkl : k < rs.length + 1 := by have := (List.getElem?_eq_some_iff.1 hq).1; simpa using this
    have hkn : k = rs.length := by omega
    subst hkn
    rw [List.getElem?_append_right (Nat.le_refl _), Nat.sub_self] at hq
    simp only [List.getElem?_cons_zero, Option.some.injEq] at hq
    subst hq
    refine ⟨Ad, nd, cd, Af, nf, cf, fun j u hu => ?_, h1, h2, h3, h4, h5, h6⟩
    rw [List.getElem?_append_right (by rw [h.1]; omega), h.1, Nat.add_sub_cancel_left]
    simpa using hu
structure RecN (w : World) (lo b o : Nat) (r : Rec) (Ad : Option Addr) (nd cd : Nat) (Af : Option Addr) (nf cf : Nat) : Prop where
  lob : lo ≤ b
  hib : b < w.heap.size
  cells : ∀ j u, (recV r Ad nd cd Af nf cf)[j]? = some u → w.cell? ⟨b, o + j, none⟩ = some u
  ld : Lies w w.heap.size 1 Ad nd (r.ev.deps.map iv)
  lf : Lies w w.heap.size 1 Af nf (r.ev.from_.map iv)
  lod : Lo lo Ad nd
  lof : Lo lo Af nf
def RecsNew (w : World) (lo : Nat) (A : Option Addr) (n : Nat) (rs : List Rec) : Prop :=
  rs.length = n ∧ ∀ k r, rs[k]? = some r → ∃ (b o : Nat) (Ad : Option Addr) (nd cd : Nat) (Af : Option Addr) (nf cf : Nat), A = some ⟨b, o, none⟩ ∧ RecN w lo b (o + k * 8) r Ad nd cd Af nf cf
theorem RecsNew.nil (w : World) (lo : Nat) (A : Option Addr) : RecsNew w lo A 0 [] := ⟨rfl, fun k r hr => by simp at hr⟩
theorem RecsNew.recs {w : World} {lo n : Nat} {A : Option Addr} {rs : List Rec} (h : RecsNew w lo A n rs) : Recs w w.heap.size A n rs :=
  ⟨h.1, fun k r hr => by
    obtain ⟨b, o, Ad, nd, cd, Af, nf, cf, e, q⟩ := h.2 k r hr
    exact ⟨b, o, Ad, nd, cd, Af, nf, cf, e, q.hib, q.cells, q.ld, q.lf⟩⟩
theorem RecsNew.lower {w : World} {lo lo' n : Nat} {A : Option Addr} {rs : List Rec} (h : RecsNew w lo A n rs) (hl : lo' ≤ lo) : RecsNew w lo' A n rs :=
  ⟨h.1, fun k r hr => by
    obtain ⟨b, o, Ad, nd, cd, Af, nf, cf, e, q⟩ := h.2 k r hr
    exact ⟨b, o, Ad, nd, cd, Af, nf, cf, e, Nat.le_trans hl q.lob, q.hib, q.cells, q.ld, q.lf, q.lod.lower hl, q.lof.lower hl⟩⟩
theorem RecsNew.keep {w w' : World} {lo n : Nat} {A : Option Addr} {rs : List Rec} {row : Option Nat} (h : RecsNew w lo A n rs) (hg : w.grownBy w' row) (hr : ∀ g, row = some g → g < lo) : RecsNew w' lo A n rs :=
  ⟨h.1, fun k r hk => by
    obtain ⟨b, o, Ad, nd, cd, Af, nf, cf, e, q⟩ := h.2 k r hk
    refine ⟨b, o, Ad, nd, cd, Af, nf, cf, e, q.lob, Nat.lt_of_lt_of_le q.hib hg.size, fun j u hu => ?_, (q.ld.grownOff (q.lod.off hr) hg (Nat.le_refl _)).more hg.size, (q.lf.grownOff (q.lof.off hr) hg (Nat.le_refl _)).more hg.size, q.lod, q.lof⟩
    refine Eq.trans (World.cell?_of_block (hg.block b q.hib (fun e => ?_))) (q.cells j u hu)
    have h1 := hr _ e.symm
    have h2 := q.lob
    omega⟩
theorem RowsAt.recs {w : World} {lo base e c n : Nat} {A : Option Addr} {css : List Value} {rs : List Rec} (h : RowsAt w lo (Value.slice A n c).ownBlock css rs) (ho : w.ownsRow base e 8 (.slice A n c) n css) (hn : n = rs.length) (hlo : lo ≤ base) : RecsNew w lo A n rs := by
  refine ⟨hn.symm, fun k r hr => ?_⟩
  have hk : k < n := by rw [hn]; exact (List.getElem?_eq_some_iff.1 hr).1
  obtain ⟨g, cap, hv, hbg, hlt⟩ := ho.form (by omega)
  have hgb := (ho.lt g (by rw [hv]; rfl)).1
  injection hv with hA
  subst hA
  obtain ⟨Ad, nd, cd, Af, nf, cf, q⟩ := h.2 k r hr
  refine ⟨g, 0, Ad, nd, cd, Af, nf, cf, rfl, Nat.le_trans hlo hgb, hlt, fun j u hu => ?_, q.ld, q.lf, q.lod, q.lof⟩
  have := ho.cells (g := g) rfl (k * 8 + j) u (q.cells j u hu)
  rw [Nat.zero_add]
  have e0 : (⟨g, 0, none⟩ : Addr).add (k * 8 + j) = ⟨g, k * 8 + j, none⟩ := by unfold Addr.add; split <;> simp_all
  rwa [e0] at this
theorem recV_one (r : Rec) (Ad : Option Addr) (nd cd : Nat) (Af : Option Addr) (nf cf : Nat) : ∀ u ∈ (recV r Ad nd cd Af nf cf).toList, u.oneCell' = true := by
  intro u hu
  unfold recV at hu
  simp only [List.mem_cons, List.not_mem_nil, or_false] at hu
  rcases hu with rfl | rfl | rfl | rfl | rfl | rfl | rfl | rfl <;> rfl
theorem recV_new (W : World) (t : TypeId) (r : Rec) (Ad : Option Addr) (nd cd : Nat) (Af : Option Addr) (nf cf : Nat) : ∀ j u, (recV r Ad nd cd Af nf cf).toList[j]? = some u → (W.alloc (.cells (recV r Ad nd cd Af nf cf) t)).cell? ((⟨W.heap.size, 0, none⟩ : Addr).add j) = some u := by
  intro j u hu
  have e0 : (⟨W.heap.size, 0, none⟩ : Addr).add j = ⟨W.heap.size, j, none⟩ := by unfold Addr.add; split <;> simp_all
  rw [e0, (Held.new W t _).cell j]
  simpa using hu
end Go.Proofs.YtaiaoiochbpmfaaGreat
