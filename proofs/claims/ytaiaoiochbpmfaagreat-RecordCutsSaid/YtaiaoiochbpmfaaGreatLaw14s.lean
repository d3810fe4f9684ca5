/- The walk of SameBytes: it tells whether two lists of bytes are one. -/
import Derived.Test.YtaiaoiochbpmfaaGreatSum
import Derived.Test.YtaiaoiochbpmfaaGreatFlP
import Derived.Test.YtaiaoiochbpmfaaGreatPl
namespace Go.Proofs.YtaiaoiochbpmfaaGreat
open Go Go.RowKit Iv
set_option linter.unusedVariables false
set_option maxHeartbeats 400000 in
theorem same_any (A A' : Option Addr) (n n' c c' : Nat) (xs ys : Bytes) (w : World) (B : Nat) (h : Lies w B 1 A n (xs.map bv)) (h' : Lies w B 1 A' n' (ys.map bv)) (hn : n ≤ 1000000000000) (hn' : n' ≤ 1000000000000) :
    Calls Tryz.prog 22 #[.slice A n c, .slice A' n' c'] w fun e w' => e = .returned (.bool (decide (xs = ys))) ∧ ∃ q, w' = w.drewN q := by
  have hl : xs.length = n := by simpa using h.1
  have hl' : ys.length = n' := by simpa using h'.1
  by_cases hnn : n = n'
  · subst hnn
    have HL := Lib.hid hl
    have HL' := Lib.hid hl'
    clear hl hl'
    have hb : ((n : Int) != (n : Int)) = false := by simp
    go_enter Tryz.func22, Tryz.ntmps22
    go_wp2
    go_loopw [5] (fun i wr => ∃ k q : Nat, i = .int .i64 k ∧ k ≤ n ∧ wr = w.drewN q ∧ xs.take k = ys.take k) (fun i _ => n - (intOf i).toNat)
    case atStart => exact ⟨0, 0, rfl, by omega, rfl, rfl⟩
    case round =>
      obtain ⟨k, q, rfl, hk, rfl, heq⟩ := hrel
      have HE := Lib.hid heq
      clear heq
      by_cases hlt : k < n
      · obtain ⟨ad, u, rfl, hb1, hx, hc⟩ := h.cellAt hlt
        obtain ⟨ad', u', rfl, hb2, hx', hc'⟩ := h'.cellAt hlt
        simp only [List.getElem?_map, Option.map_eq_some_iff] at hx hx'
        obtain ⟨x, hx, rfl⟩ := hx
        obtain ⟨y, hy, rfl⟩ := hx'
        unfold bv at hc hc'
        have HX := Lib.hid hx
        have HY := Lib.hid hy
        clear hx hy
        by_cases hxy : x = y
        · have hne : ((x.toNat : Int) != (y.toNat : Int)) = false := by simp [hxy]
          have HXY := Lib.hid hxy
          clear hxy
          go_wp2
          go_quiet (fail)
          go_wp2
          go_roundw
          case rel => exact ⟨k + 1, q + nq, by go_num, by omega, by simp, by rw [take_next HX.out, take_next HY.out, HE.out, HXY.out]⟩
          case measure => simp [intOf]; omega
        · have hne : ((x.toNat : Int) != (y.toNat : Int)) = true := by
            rw [bne_iff_ne]
            intro e
            exact hxy (u8_eq (by omega))
          have HF : Hid (decide (xs = ys) = false) := by
            rw [decide_eq_false_iff_not]
            intro e
            have h1 := HX.out
            rw [e, HY.out] at h1
            injection h1 with h1
            exact hxy h1.symm
          clear hxy
          go_wp2
          go_quiet (fail)
          go_wp2
          go_ret
          exact ⟨ret_bool HF.out.symm, q + nq, by simp⟩
      · have hkn : k = n := by omega
        have HF : Hid (decide (xs = ys) = true) := by
          rw [decide_eq_true_iff]
          have := HE.out
          rwa [List.take_of_length_le (by have := HL.out; omega), List.take_of_length_le (by have := HL'.out; omega)] at this
        clear hkn
        go_wp2
        go_ret
        exact ⟨ret_bool HF.out.symm, q, rfl⟩
  · have hb : ((n : Int) != (n' : Int)) = true := by rw [bne_iff_ne]; omega
    have HF : Hid (decide (xs = ys) = false) := by
      rw [decide_eq_false_iff_not]
      intro e
      rw [e] at hl
      omega
    clear hnn hl hl'
    go_enter Tryz.func22, Tryz.ntmps22
    go_wp2
    go_ret
    exact ⟨ret_bool HF.out.symm, 0, rfl⟩
end Go.Proofs.YtaiaoiochbpmfaaGreat

/- SameBytes of two equal lists. -/
namespace Go.Proofs.YtaiaoiochbpmfaaGreat
open Go Go.RowKit Iv
set_option linter.unusedVariables false
theorem same_yes (A A' : Option Addr) (n n' c c' : Nat) (xs : Bytes) (w : World) (B B' : Nat) (h : Lies w B 1 A n (xs.map bv)) (h' : Lies w B' 1 A' n' (xs.map bv)) (hn : n ≤ 1000000000000) (hn' : n' ≤ 1000000000000) :
    Calls Tryz.prog 22 #[.slice A n c, .slice A' n' c'] w fun e w' => e = .returned (.bool true) ∧ ∃ q, w' = w.drewN q :=
  (same_any A A' n n' c c' xs xs w (max B B') (h.more (Nat.le_max_left _ _)) (h'.more (Nat.le_max_right _ _)) hn hn').mono fun e w' ⟨he, hw⟩ => ⟨by rw [he]; simp, hw⟩
end Go.Proofs.YtaiaoiochbpmfaaGreat

/- Words for the laws of chapter 14: same, awake. -/
namespace Go.Proofs.YtaiaoiochbpmfaaGreat
open Go Go.RowKit Iv
set_option linter.unusedVariables false
theorem FilesAt.keep {base thr gF : Nat} {fs : Nat → Bytes} {vf : Nat → Value} {w w' : World} (h : FilesAt base thr gF fs vf w) (hg : w.grownBy w' none) : FilesAt base thr gF fs vf w' :=
  ⟨h.h.grown hg (fun e => nomatch e), fun t ht => own_keep (h.own t ht) hg (fun _ _ e => nomatch e), h.ap, h.lo, h.ne⟩
set_option maxRecDepth 100000 in
set_option maxHeartbeats 1600000 in
theorem awake14_any (w : World) : Calls Tryz.prog 16 #[] w fun e w' => e = .returned (.bool true) ∧ w.grownBy w' none := by
  go_enter Tryz.func16, Tryz.ntmps16
  go_wp2_with fail
  have hev : Evs (w.alloc (.cells #[.int .i64 0, .int .i64 2, .int .i64 0, .int .i64 0, .int .i64 0, .slice none 0 0, .slice none 0 0] 69)) (w.heap.size + 1) (some ⟨w.heap.size, 0, none⟩) 1 [oneEv] := by
    refine ⟨rfl, fun k e he => ?_⟩
    have hk : k < 1 := (List.getElem?_eq_some_iff.1 he).1
    obtain rfl : k = 0 := by omega
    simp only [List.getElem?_cons_zero, Option.some.injEq] at he
    subst he
    refine ⟨w.heap.size, 0, none, 0, none, 0, rfl, by omega, fun j u hu => ?_, Lies.nil, Lies.nil⟩
    rw [Nat.zero_mul, Nat.zero_add]
    exact ((Held.new w 69 _).cell j).trans hu
  have hfit : ∀ e ∈ [oneEv], RecFit ⟨0, e⟩ := by
    intro e he
    simp only [List.mem_singleton] at he
    subst he
    exact ⟨⟨by decide, by decide⟩, ⟨by decide, by decide⟩, ⟨by decide, by decide⟩, ⟨by decide, by decide⟩, ⟨by decide, by decide⟩, ⟨by decide, by decide⟩, fun x hx => (by cases hx), fun x hx => (by cases hx)⟩
  refine (filesP_any [oneEv] _ 1 1 1 onePln none 0 0 none 0 0 (w.heap.size + 1) _ hev ⟨rfl, fun k f hf => by simp [onePln] at hf⟩ ⟨rfl, fun h => absurd h (by omega)⟩ (by simp) (by omega) (by omega) (by omega) hfit ⟨⟨by decide, by decide⟩, fun x hx => by simp [onePln] at hx⟩).mono ?_
  rintro e w1 ⟨v, rfl, hg1, _, hgood⟩
  obtain ⟨t, gF, vf, ht, rfl, hF⟩ := hgood one_err
  obtain rfl : t = 1 := by omega
  rw [one_err]
  obtain ⟨A1, c1, hv1, n1, m1, l1, _⟩ := own_slice (hF.own 0 (by omega))
  have x1 : w1.cell? ⟨gF, 0, none⟩ = some (.slice A1 (filesOf [oneEv] onePln 0).length c1) := by rw [hF.h.cell 0, fam_get _ (by omega), hv1]
  have hlen := one_len
  obtain ⟨L, hL⟩ : ∃ L, L = (filesOf [oneEv] onePln 0).length := ⟨_, rfl⟩
  rw [← hL] at x1 hlen
  have hb : decide ((10 : Int) < (L : Int)) = true := decide_eq_true (by omega)
  have HG := Lib.hid (grownBy_trans (World.grownBy_alloc w _ none) hg1 (.inl rfl))
  clear hev hfit hgood hF hv1 l1 hg1 hL ht
  go_wp2_with fail
  go_ret
  exact ⟨rfl, HG.out⟩
end Go.Proofs.YtaiaoiochbpmfaaGreat
