/- The walk of SameInts and of SameEvent: they tell whether two lists of numbers, two events are one. -/
import Derived.Test.YtlofjhcjjcohfaaMm
import Derived.Test.YtlofjhcjjcohfaaWk
import Derived.Deep.RegionHeld3
namespace Go.Proofs.Ytlofjhcjjcohfaa
open Go Go.RowKit Iv
set_option linter.unusedVariables false

set_option maxHeartbeats 400000 in
theorem sameInts_any (A A' : Option Addr) (n n' c c' : Nat) (xs ys : List Int) (w : World) (B : Nat) (h : Lies w B 1 A n (xs.map iv)) (h' : Lies w B 1 A' n' (ys.map iv)) (hn : n ≤ 1000000000000) (hn' : n' ≤ 1000000000000) :
    Calls Try.prog 38 #[.slice A n c, .slice A' n' c'] w fun e w' => e = .returned (.bool (decide (xs = ys))) ∧ ∃ q, w' = w.drewN q := by
  have hl : xs.length = n := by simpa using h.1
  have hl' : ys.length = n' := by simpa using h'.1
  by_cases hnn : n = n'
  · subst hnn
    have HL := Lib.hid hl
    have HL' := Lib.hid hl'
    clear hl hl'
    have hb : ((n : Int) != (n : Int)) = false := by simp
    go_enter Try.func38, Try.ntmps38
    go_wp2
    go_loopw [5] (fun i wr => ∃ k q : Nat, i = .int .i64 k ∧ k ≤ n ∧ wr = w.drewN q ∧ xs.take k = ys.take k) (fun i _ => n - (intOf i).toNat)
    case atStart => exact ⟨0, 0, rfl, by omega, rfl, rfl⟩
    case round =>
      obtain ⟨k, q, rfl, hk, rfl, heq⟩ := hrel
      have HE := Lib.hid heq
      clear heq
      by_cases hlt : k < n
      · obtain ⟨ad, u, rfl, hb1, hx, hc⟩ := h.cellAt hlt
        obtain ⟨ad', u', rfl, hb2, hx', hc'⟩ := h'.cellAt hlt
        simp only [List.getElem?_map, Option.map_eq_some_iff] at hx hx'
        obtain ⟨x, hx, rfl⟩ := hx
        obtain ⟨y, hy, rfl⟩ := hx'
        unfold iv at hc hc'
        have HX := Lib.hid hx
        have HY := Lib.hid hy
        clear hx hy
        by_cases hxy : x = y
        · have hne : (x != y) = false := by simp [hxy]
          have HXY := Lib.hid hxy
          clear hxy
          go_wp2
          go_quiet (fail)
          go_wp2
          go_roundw
          case rel => exact ⟨k + 1, q + nq, by go_num, by omega, by simp, by rw [take_next HX.out, take_next HY.out, HE.out, HXY.out]⟩
          case measure => simp [intOf]; omega
        · have hne : (x != y) = true := by
            rw [bne_iff_ne]
            exact hxy
          have HF : Hid (decide (xs = ys) = false) := by
            rw [decide_eq_false_iff_not]
            intro e
            have h1 := HX.out
            rw [e, HY.out] at h1
            injection h1 with h1
            exact hxy h1.symm
          clear hxy
          go_wp2
          go_quiet (fail)
          go_wp2
          go_ret
          exact ⟨ret_bool HF.out.symm, q + nq, by simp⟩
      · have hkn : k = n := by omega
        have HF : Hid (decide (xs = ys) = true) := by
          rw [decide_eq_true_iff]
          have := HE.out
          rwa [List.take_of_length_le (by have := HL.out; omega), List.take_of_length_le (by have := HL'.out; omega)] at this
        clear hkn
        go_wp2
        go_ret
        exact ⟨ret_bool HF.out.symm, q, rfl⟩
  · have hb : ((n : Int) != (n' : Int)) = true := by rw [bne_iff_ne]; omega
    have HF : Hid (decide (xs = ys) = false) := by
      rw [decide_eq_false_iff_not]
      intro e
      rw [e] at hl
      omega
    clear hnn hl hl'
    go_enter Try.func38, Try.ntmps38
    go_wp2
    go_ret
    exact ⟨ret_bool HF.out.symm, 0, rfl⟩

theorem sameInts_yes (A A' : Option Addr) (n n' c c' : Nat) (xs : List Int) (w : World) (B B' : Nat) (h : Lies w B 1 A n (xs.map iv)) (h' : Lies w B' 1 A' n' (xs.map iv)) (hn : n ≤ 1000000000000) (hn' : n' ≤ 1000000000000) :
    Calls Try.prog 38 #[.slice A n c, .slice A' n' c'] w fun e w' => e = .returned (.bool true) ∧ ∃ q, w' = w.drewN q :=
  (sameInts_any A A' n n' c c' xs xs w (max B B') (h.more (Nat.le_max_left _ _)) (h'.more (Nat.le_max_right _ _)) hn hn').mono fun e w' ⟨he, hw⟩ => ⟨by rw [he]; simp, hw⟩

/-- An event as a value; the two lists lie in memory. -/
def evV (e : Ev) (Ad : Option Addr) (nd cd : Nat) (Af : Option Addr) (nf cf : Nat) : Array Value :=
  #[.int .i64 e.thread, .int .i64 e.kind, .int .i64 e.obj, .int .i64 e.value, .int .i64 e.site, .slice Ad nd cd, .slice Af nf cf]

set_option maxRecDepth 100000 in
set_option maxHeartbeats 1600000 in
theorem sameEvent_yes (e : Ev) (Ad : Option Addr) (nd cd : Nat) (Af : Option Addr) (nf cf : Nat) (Ad' : Option Addr) (nd' cd' : Nat) (Af' : Option Addr) (nf' cf' : Nat) (w : World) (B : Nat)
    (h1 : Lies w B 1 Ad nd (e.deps.map iv)) (h2 : Lies w B 1 Af nf (e.from_.map iv)) (h1' : Lies w B 1 Ad' nd' (e.deps.map iv)) (h2' : Lies w B 1 Af' nf' (e.from_.map iv)) (hd : e.deps.length ≤ 1000000000000) (hf : e.from_.length ≤ 1000000000000) :
    Calls Try.prog 13 #[.agg (evV e Ad nd cd Af nf cf), .agg (evV e Ad' nd' cd' Af' nf' cf')] w fun en w' => en = .returned (.bool true) ∧ w.grownBy w' none := by
  have l1 := h1.lenI
  have l2 := h2.lenI
  have l1' := h1'.lenI
  have l2' := h2'.lenI
  rw [l1] at hd l1'
  rw [l2] at hf l2'
  subst l1' l2'
  have C1 := Lib.hid (fun o o' => sameInts_yes Ad Ad' nd nd cd cd' e.deps ((w.alloc o).alloc o') B B ((h1.allocAny o).allocAny o') ((h1'.allocAny o).allocAny o') hd hd)
  have C2 := Lib.hid (fun o o' q => sameInts_yes Af Af' nf nf cf cf' e.from_ (((w.alloc o).alloc o').drewN q) B B (((h2.allocAny o).allocAny o').drewN q) (((h2'.allocAny o).allocAny o').drewN q) hf hf)
  clear l1 l2 h1 h2 h1' h2' hd hf
  have b1 : (e.thread == e.thread) = true := by simp
  have b2 : (e.kind == e.kind) = true := by simp
  have b3 : (e.obj == e.obj) = true := by simp
  have b4 : (e.value == e.value) = true := by simp
  have b5 : (e.site == e.site) = true := by simp
  unfold evV
  go_enter Try.func13, Try.ntmps13
  go_wp2_with fail
  refine (C1.out _ _).mono ?_
  rintro en w1 ⟨rfl, q1, rfl⟩
  go_wp2_with fail
  refine (C2.out _ _ _).mono ?_
  rintro en w2 ⟨rfl, q2, rfl⟩
  go_wp2_with fail
  go_ret
  exact ⟨rfl, grown_toDrewN (grownBy_trans (World.grownBy_alloc w _ none) (World.grownBy_alloc _ _ none) (.inl rfl)) (q1 + q2)⟩
end Go.Proofs.Ytlofjhcjjcohfaa
