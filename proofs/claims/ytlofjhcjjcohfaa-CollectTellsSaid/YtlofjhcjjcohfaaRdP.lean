/- The walk of SameInts and of SameEvent: they tell whether two lists of numbers, two events are one. -/
import Derived.Test.YtlofjhcjjcohfaaMm
import Derived.Test.YtlofjhcjjcohfaaWk
import Derived.Deep.RegionHeld3
import Derived.Test.YtlofjhcjjcohfaaReadR
namespace Go.Proofs.Ytlofjhcjjcohfaa
open Go Go.RowKit Iv
set_option linter.unusedVariables false

set_option maxHeartbeats 400000 in
theorem sameInts_any (A A' : Option Addr) (n n' c c' : Nat) (xs ys : List Int) (w : World) (B : Nat) (h : Lies w B 1 A n (xs.map iv)) (h' : Lies w B 1 A' n' (ys.map iv)) (hn : n ≤ 1000000000000) (hn' : n' ≤ 1000000000000) :
    Calls Try.prog 38 #[.slice A n c, .slice A' n' c'] w fun e w' => e = .returned (.bool (decide (xs = ys))) ∧ ∃ q, w' = w.drewN q := by
  have hl : xs.length = n := by simpa using h.1
  have hl' : ys.length = n' := by simpa using h'.1
  by_cases hnn : n = n'
  · subst hnn
    have HL := Lib.hid hl
    have HL' := Lib.hid hl'
    clear hl hl'
    have hb : ((n : Int) != (n : Int)) = false := by simp
    go_enter Try.func38, Try.ntmps38
    go_wp2
    go_loopw [5] (fun i wr => ∃ k q : Nat, i = .int .i64 k ∧ k ≤ n ∧ wr = w.drewN q ∧ xs.take k = ys.take k) (fun i _ => n - (intOf i).toNat)
    case atStart => exact ⟨0, 0, rfl, by omega, rfl, rfl⟩
    case round =>
      obtain ⟨k, q, rfl, hk, rfl, heq⟩ := hrel
      have HE := Lib.hid heq
      clear heq
      by_cases hlt : k < n
      · obtain ⟨ad, u, rfl, hb1, hx, hc⟩ := h.cellAt hlt
        obtain ⟨ad', u', rfl, hb2, hx', hc'⟩ := h'.cellAt hlt
        simp only [List.getElem?_map, Option.map_eq_some_iff] at hx hx'
        obtain ⟨x, hx, rfl⟩ := hx
        obtain ⟨y, hy, rfl⟩ := hx'
        unfold iv at hc hc'
        have HX := Lib.hid hx
        have HY := Lib.hid hy
        clear hx hy
        by_cases hxy : x = y
        · have hne : (x != y) = false := by simp [hxy]
          have HXY := Lib.hid hxy
          clear hxy
          go_wp2
          go_quiet (fail)
          go_wp2
          go_roundw
          case rel => exact ⟨k + 1, q + nq, by go_num, by omega, by simp, by rw [take_next HX.out, take_next HY.out, HE.out, HXY.out]⟩
          case measure => simp [intOf]; omega
        · have hne : (x != y) = true := by
            rw [bne_iff_ne]
            exact hxy
          have HF : Hid (decide (xs = ys) = false) := by
            rw [decide_eq_false_iff_not]
            intro e
            have h1 := HX.out
            rw [e, HY.out] at h1
            injection h1 with h1
            exact hxy h1.symm
          clear hxy
          go_wp2
          go_quiet (fail)
          go_wp2
          go_ret
          exact ⟨ret_bool HF.out.symm, q + nq, by simp⟩
      · have hkn : k = n := by omega
        have HF : Hid (decide (xs = ys) = true) := by
          rw [decide_eq_true_iff]
          have := HE.out
          rwa [List.take_of_length_le (by have := HL.out; omega), List.take_of_length_le (by have := HL'.out; omega)] at this
        clear hkn
        go_wp2
        go_ret
        exact ⟨ret_bool HF.out.symm, q, rfl⟩
  · have hb : ((n : Int) != (n' : Int)) = true := by rw [bne_iff_ne]; omega
    have HF : Hid (decide (xs = ys) = false) := by
      rw [decide_eq_false_iff_not]
      intro e
      rw [e] at hl
      omega
    clear hnn hl hl'
    go_enter Try.func38, Try.ntmps38
    go_wp2
    go_ret
    exact ⟨ret_bool HF.out.symm, 0, rfl⟩

theorem sameInts_yes (A A' : Option Addr) (n n' c c' : Nat) (xs : List Int) (w : World) (B B' : Nat) (h : Lies w B 1 A n (xs.map iv)) (h' : Lies w B' 1 A' n' (xs.map iv)) (hn : n ≤ 1000000000000) (hn' : n' ≤ 1000000000000) :
    Calls Try.prog 38 #[.slice A n c, .slice A' n' c'] w fun e w' => e = .returned (.bool true) ∧ ∃ q, w' = w.drewN q :=
  (sameInts_any A A' n n' c c' xs xs w (max B B') (h.more (Nat.le_max_left _ _)) (h'.more (Nat.le_max_right _ _)) hn hn').mono fun e w' ⟨he, hw⟩ => ⟨by rw [he]; simp, hw⟩

/-- An event as a value; the two lists lie in memory. -/
def evV (e : Ev) (Ad : Option Addr) (nd cd : Nat) (Af : Option Addr) (nf cf : Nat) : Array Value :=
  #[.int .i64 e.thread, .int .i64 e.kind, .int .i64 e.obj, .int .i64 e.value, .int .i64 e.site, .slice Ad nd cd, .slice Af nf cf]

set_option maxRecDepth 100000 in
set_option maxHeartbeats 1600000 in
theorem sameEvent_yes (e : Ev) (Ad : Option Addr) (nd cd : Nat) (Af : Option Addr) (nf cf : Nat) (Ad' : Option Addr) (nd' cd' : Nat) (Af' : Option Addr) (nf' cf' : Nat) (w : World) (B : Nat)
    (h1 : Lies w B 1 Ad nd (e.deps.map iv)) (h2 : Lies w B 1 Af nf (e.from_.map iv)) (h1' : Lies w B 1 Ad' nd' (e.deps.map iv)) (h2' : Lies w B 1 Af' nf' (e.from_.map iv)) (hd : e.deps.length ≤ 1000000000000) (hf : e.from_.length ≤ 1000000000000) :
    Calls Try.prog 13 #[.agg (evV e Ad nd cd Af nf cf), .agg (evV e Ad' nd' cd' Af' nf' cf')] w fun en w' => en = .returned (.bool true) ∧ w.grownBy w' none := by
  have l1 := h1.lenI
  have l2 := h2.lenI
  have l1' := h1'.lenI
  have l2' := h2'.lenI
  rw [l1] at hd l1'
  rw [l2] at hf l2'
  subst l1' l2'
  have C1 := Lib.hid (fun o o' => sameInts_yes Ad Ad' nd nd cd cd' e.deps ((w.alloc o).alloc o') B B ((h1.allocAny o).allocAny o') ((h1'.allocAny o).allocAny o') hd hd)
  have C2 := Lib.hid (fun o o' q => sameInts_yes Af Af' nf nf cf cf' e.from_ (((w.alloc o).alloc o').drewN q) B B (((h2.allocAny o).allocAny o').drewN q) (((h2'.allocAny o).allocAny o').drewN q) hf hf)
  clear l1 l2 h1 h2 h1' h2' hd hf
  have b1 : (e.thread == e.thread) = true := by simp
  have b2 : (e.kind == e.kind) = true := by simp
  have b3 : (e.obj == e.obj) = true := by simp
  have b4 : (e.value == e.value) = true := by simp
  have b5 : (e.site == e.site) = true := by simp
  unfold evV
  go_enter Try.func13, Try.ntmps13
  go_wp2_with fail
  refine (C1.out _ _).mono ?_
  rintro en w1 ⟨rfl, q1, rfl⟩
  go_wp2_with fail
  refine (C2.out _ _ _).mono ?_
  rintro en w2 ⟨rfl, q2, rfl⟩
  go_wp2_with fail
  go_ret
  exact ⟨rfl, grown_toDrewN (grownBy_trans (World.grownBy_alloc w _ none) (World.grownBy_alloc _ _ none) (.inl rfl)) (q1 + q2)⟩
end Go.Proofs.Ytlofjhcjjcohfaa

/- Words for a slice of events that came in. -/
namespace Go.Proofs.Ytlofjhcjjcohfaa
open Go Go.RowKit Iv
set_option linter.unusedVariables false

/-- Events in memory. -/
def Evs (w : World) (B : Nat) (A : Option Addr) (n : Nat) (l : List Ev) : Prop :=
  l.length = n ∧ ∀ k e, l[k]? = some e → ∃ (b o : Nat) (Ad : Option Addr) (cd : Nat) (Af : Option Addr) (cf : Nat), A = some ⟨b, o, none⟩ ∧ b < B ∧
    (∀ j u, (#[.int .i64 e.thread, .int .i64 e.kind, .int .i64 e.obj, .int .i64 e.value, .int .i64 e.site, .slice Ad e.deps.length cd, .slice Af e.from_.length cf] : Array Value)[j]? = some u → w.cell? ⟨b, o + k * 7 + j, none⟩ = some u) ∧ Lies w B 1 Ad e.deps.length (e.deps.map iv) ∧ Lies w B 1 Af e.from_.length (e.from_.map iv)
theorem Evs.grown {w w' : World} {B n : Nat} {A : Option Addr} {l : List Ev} {row : Option Nat} (h : Evs w B A n l) (hg : w.grownBy w' row) (hB : B ≤ w.heap.size) (hr : ∀ g, row = some g → B ≤ g) : Evs w' B A n l :=
  ⟨h.1, fun k e he => by
    obtain ⟨b, o, Ad, cd, Af, cf, q1, hb, q2, q3, q4⟩ := h.2 k e he
    have hk : ∀ j, w'.cell? ⟨b, j, none⟩ = w.cell? ⟨b, j, none⟩ := fun j => World.cell?_of_block (hg.block b (by omega) (fun e => by have := hr _ e.symm; omega))
    exact ⟨b, o, Ad, cd, Af, cf, q1, hb, fun j u hu => by rw [hk]; exact q2 j u hu, q3.grown hg hB hr, q4.grown hg hB hr⟩⟩
theorem Evs.at {w : World} {B n k : Nat} {A : Option Addr} {l : List Ev} (h : Evs w B A n l) (hk : k < n) :
    ∃ (b o : Nat) (e : Ev) (Ad : Option Addr) (cd : Nat) (Af : Option Addr) (cf : Nat), A = some ⟨b, o, none⟩ ∧ b < B ∧ l[k]? = some e ∧
      w.cell? ⟨b, o + k * 7, none⟩ = some (.int .i64 e.thread) ∧ w.cell? ⟨b, o + k * 7 + 1, none⟩ = some (.int .i64 e.kind) ∧ w.cell? ⟨b, o + k * 7 + 2, none⟩ = some (.int .i64 e.obj) ∧ w.cell? ⟨b, o + k * 7 + 3, none⟩ = some (.int .i64 e.value) ∧
      w.cell? ⟨b, o + k * 7 + 4, none⟩ = some (.int .i64 e.site) ∧ w.cell? ⟨b, o + k * 7 + 5, none⟩ = some (.slice Ad e.deps.length cd) ∧ w.cell? ⟨b, o + k * 7 + 6, none⟩ = some (.slice Af e.from_.length cf) ∧
      Lies w B 1 Ad e.deps.length (e.deps.map iv) ∧ Lies w B 1 Af e.from_.length (e.from_.map iv) := by
  have hl : k < l.length := by rw [h.1]; exact hk
  obtain ⟨b, o, Ad, cd, Af, cf, q1, hb, q2, q3, q4⟩ := h.2 k l[k] (List.getElem?_eq_getElem hl)
  exact ⟨b, o, l[k], Ad, cd, Af, cf, q1, hb, List.getElem?_eq_getElem hl, q2 0 _ rfl, q2 1 _ rfl, q2 2 _ rfl, q2 3 _ rfl, q2 4 _ rfl, q2 5 _ rfl, q2 6 _ rfl, q3, q4⟩
end Go.Proofs.Ytlofjhcjjcohfaa

/- What Read gives, part by part. -/
namespace Go.Proofs.Ytlofjhcjjcohfaa
open Go Go.RowKit Iv
set_option linter.unusedVariables false

theorem belGr {w w1 w2 : World} (h : Below w.heap.size w w1) (hg : w1.grownBy w2 none) : Below w.heap.size w w2 := h.grown hg h.size (fun k hk => by cases hk)
theorem belDr {B : Nat} {w w' : World} (h : Below B w w') (q : Nat) : Below B w (w'.drewN q) := ⟨h.os, h.tape, h.output, h.size, h.block⟩

theorem readP_parts (A : Option Addr) (n c B : Nat) (xs : Bytes) (thread seq : Int) (w : World) (h : Lies w B 1 A n (xs.map bv)) (hB : B ≤ w.heap.size) (hnc : n ≤ c) (ho : A = none → c = 0) (hn : n ≤ 1000000000) {r : Rec} {k : Nat} {er : Int} (hg : getRec xs thread seq = (r, k, er)) :
    Calls Try.prog 12 #[.slice A n c, .int .i64 thread, .int .i64 seq] w fun e w' => ∃ (Ad : Option Addr) (cd : Nat) (Af : Option Addr) (cf : Nat),
      e = .returned (.tuple #[.agg (recV r Ad r.ev.deps.length cd Af r.ev.from_.length cf), .int .i64 (k : Int), .int .i64 er]) ∧
      w'.ownsRow w.heap.size 3 1 (.slice Ad r.ev.deps.length cd) r.ev.deps.length (r.ev.deps.map iv) ∧ w'.ownsRow w.heap.size 3 1 (.slice Af r.ev.from_.length cf) r.ev.from_.length (r.ev.from_.map iv) ∧ w.grownBy w' none := by
  refine (readP_any A n c B xs thread seq w h hB hnc ho hn).mono ?_
  rintro e w' ⟨r', vd, vf, hr, he, hd, hf, hgr⟩
  rw [hg] at hr he
  subst hr
  obtain ⟨Ad, cd, hvd, _⟩ := own_slice hd
  obtain ⟨Af, cf, hvf, _⟩ := own_slice hf
  subst hvd hvf
  exact ⟨Ad, cd, Af, cf, he, hd, hf, hgr⟩
theorem readR_parts (A : Option Addr) (n c B : Nat) (xs : Bytes) (thread seq : Int) (w : World) (h : Lies w B 1 A n (xs.map bv)) (hB : B ≤ w.heap.size) (hnc : n ≤ c) (ho : A = none → c = 0) (hn : n ≤ 1000000000) {r : Rec} {k : Nat} {er : Int} (hg : getRec xs thread seq = (r, k, er)) :
    Calls Try.prog 75 #[.slice A n c, .int .i64 thread, .int .i64 seq] w fun e w' => ∃ (Ad : Option Addr) (cd : Nat) (Af : Option Addr) (cf : Nat),
      e = .returned (.tuple #[.agg (recV r Ad r.ev.deps.length cd Af r.ev.from_.length cf), .int .i64 (k : Int), .int .i64 er]) ∧
      w'.ownsRow w.heap.size 3 1 (.slice Ad r.ev.deps.length cd) r.ev.deps.length (r.ev.deps.map iv) ∧ w'.ownsRow w.heap.size 3 1 (.slice Af r.ev.from_.length cf) r.ev.from_.length (r.ev.from_.map iv) ∧ w.grownBy w' none := by
  refine (readR_any A n c B xs thread seq w h hB hnc ho hn).mono ?_
  rintro e w' ⟨r', vd, vf, hr, he, hd, hf, hgr⟩
  rw [hg] at hr he
  subst hr
  obtain ⟨Ad, cd, hvd, _⟩ := own_slice hd
  obtain ⟨Af, cf, hvf, _⟩ := own_slice hf
  subst hvd hvf
  exact ⟨Ad, cd, Af, cf, he, hd, hf, hgr⟩
/-- The lists that are read are short. -/
theorem getRec_short {xs : Bytes} {thread seq : Int} {r : Rec} {k : Nat} {er : Int} (ht : inI64 thread) (hg : getRec xs thread seq = (r, k, er)) : r.ev.deps.length ≤ 400 ∧ r.ev.from_.length ≤ 400 := by
  rcases getRec_cases xs thread seq with h | ⟨e, _, h⟩
  · rw [hg] at h
    simp only at h
    subst h
    have := (getRec_once ht hg).1
    exact ⟨this.ld, this.lf⟩
  · rw [hg] at h
    simp only [Prod.mk.injEq] at h
    obtain ⟨rfl, _, _⟩ := h
    exact ⟨by simp [zeroRec, zeroEv], by simp [zeroRec, zeroEv]⟩
theorem cells8 {W : World} {g : Nat} {T : TypeId} {r : Rec} {Ad : Option Addr} {nd cd : Nat} {Af : Option Addr} {nf cf : Nat} (h : Held W g T (recV r Ad nd cd Af nf cf)) :
    W.cell? ⟨g, 0, none⟩ = some (.int .i64 r.seq) ∧ W.cell? ⟨g, 1, none⟩ = some (.int .i64 r.ev.thread) ∧ W.cell? ⟨g, 2, none⟩ = some (.int .i64 r.ev.kind) ∧ W.cell? ⟨g, 3, none⟩ = some (.int .i64 r.ev.obj) ∧
    W.cell? ⟨g, 4, none⟩ = some (.int .i64 r.ev.value) ∧ W.cell? ⟨g, 5, none⟩ = some (.int .i64 r.ev.site) ∧ W.cell? ⟨g, 6, none⟩ = some (.slice Ad nd cd) ∧ W.cell? ⟨g, 7, none⟩ = some (.slice Af nf cf) :=
  ⟨h.cell 0, h.cell 1, h.cell 2, h.cell 3, h.cell 4, h.cell 5, h.cell 6, h.cell 7⟩

end Go.Proofs.Ytlofjhcjjcohfaa
