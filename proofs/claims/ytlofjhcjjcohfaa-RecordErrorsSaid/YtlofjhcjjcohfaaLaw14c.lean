/- The walk of RecordErrors. -/
import Derived.Test.YtlofjhcjjcohfaaLaw14a
import Derived.Test.YtlofjhcjjcohfaaRdP
namespace Go.Proofs.Ytlofjhcjjcohfaa
open Go Go.RowKit Iv
set_option linter.unusedVariables false

theorem filesP_bad (l : List Ev) (Al : Option Addr) (nl cl : Nat) (thr : Int) (p : Pln) (Af : Option Addr) (nf cf : Nat) (Ac : Option Addr) (nc cc B : Nat) (w : World) (k : Int) (hk : filesErr l thr p = k) (h0 : k ≠ 0) (hl : Evs w B Al nl l) (hf : Fls w B Af nf p.flushes) (hcu : Lies w B 1 Ac nc (p.cuts.map iv)) (hB : B ≤ w.heap.size) (hnf : nf ≤ 1000000) (hnc : nc ≤ 1000000) (hnl : nl ≤ 1000000) (hnum : ∀ e ∈ l, RecFit ⟨0, e⟩) (hi64 : inI64 p.stop ∧ allI64 p.cuts) :
    Calls Try.prog 20 #[.slice Al nl cl, .int .i64 thr, .agg (planV p Af nf cf Ac nc cc)] w fun e w' => e = .returned (.tuple #[.slice none 0 0, .int .i64 k]) ∧ w.grownBy w' none :=
  (filesP_any l Al nl cl thr p Af nf cf Ac nc cc B w hl hf hcu hB hnf hnc hnl hnum hi64).mono fun e w' ⟨v, he, hg, hb, _⟩ => ⟨by rw [he, hb (by rw [hk]; exact h0), hk], hg⟩

def zEv : Ev := ⟨0, 0, 0, 0, 0, [], []⟩
def nEv : Ev := ⟨9, 0, 0, 0, 0, [], []⟩
def manyEv : List Ev := nEv :: List.replicate 400 zEv
def zCells : Array Value := #[.int .i64 0, .int .i64 0, .int .i64 0, .int .i64 0, .int .i64 0, .slice none 0 0, .slice none 0 0]
theorem info_event : (Try.prog.info? 24).map (fun i => (i.zero, i.size, i.bytes)) = some (some (.agg zCells), 7, 88) := by kernel_rfl
theorem fit_any (e : Ev) (h : e = nEv ∨ e = zEv) : RecFit ⟨0, e⟩ := by
  rcases h with rfl | rfl <;> exact ⟨⟨by decide, by decide⟩, ⟨by decide, by decide⟩, ⟨by decide, by decide⟩, ⟨by decide, by decide⟩, ⟨by decide, by decide⟩, ⟨by decide, by decide⟩, fun x hx => (by cases hx), fun x hx => (by cases hx)⟩
theorem fit_many : ∀ e ∈ manyEv, RecFit ⟨0, e⟩ := by
  intro e he
  unfold manyEv at he
  rcases List.mem_cons.1 he with h | h
  · exact fit_any e (.inl h)
  · exact fit_any e (.inr (List.eq_of_mem_replicate h))
theorem make_evs (w : World) (n : Nat) (hn : n ≤ 1000000) : (Instr.makeSlice 44 (.int .i64 (n : Int)) (.int .i64 (n : Int))).run Try.prog w = .ok (.slice (some ⟨w.heap.size, 0, none⟩) n n) (w.alloc (.cells (madeCells zCells (n * 7)) 24)) := by
  obtain ⟨i0, hi, hz0, hz1, hz2⟩ := info_parts info_event
  have := run_make (P := Try.prog) w 44 24 i0 _ Try.underlying44 hi hz0 .i64 .i64 (n : Int) (n : Int) (by omega) (Int.le_refl _) (by rw [hz2]; omega) (by omega)
  rw [Int.toNat_natCast, hz1] at this
  exact this
theorem make_many (w : World) : (Instr.makeSlice 44 (.int .i64 401) (.int .i64 401)).run Try.prog w = .ok (.slice (some ⟨w.heap.size, 0, none⟩) 401 401) (w.alloc (.cells (madeCells zCells (401 * 7)) 24)) := make_evs w 401 (by omega)
theorem many_at {w : World} {g : Nat} (h : Held w g 24 ((madeCells zCells (401 * 7)).setIfInBounds 0 (.int .i64 9))) : Evs w (g + 1) (some ⟨g, 0, none⟩) 401 manyEv := by
  have hml : manyEv.length = 401 := by unfold manyEv; rw [List.length_cons, List.length_replicate]
  refine ⟨hml, fun k e he => ?_⟩
  have hk : k < 401 := by have := (List.getElem?_eq_some_iff.1 he).1; rwa [hml] at this
  have hz : ∀ j, j < 7 → (madeCells zCells (401 * 7))[k * 7 + j]? = zCells[j]? := by
    intro j hj
    unfold madeCells
    have hs : zCells.size = 7 := rfl
    rw [hs, Array.getElem?_map, Array.getElem?_range]
    rw [if_pos (by omega)]
    simp only [Option.map_some]
    rw [show (k * 7 + j) % 7 = j by omega, getElem!_def]
    rcases (show j = 0 ∨ j = 1 ∨ j = 2 ∨ j = 3 ∨ j = 4 ∨ j = 5 ∨ j = 6 by omega) with rfl | rfl | rfl | rfl | rfl | rfl | rfl <;> rfl
  by_cases hk0 : k = 0
  · subst hk0
    unfold manyEv at he
    simp only [List.getElem?_cons_zero, Option.some.injEq] at he
    subst he
    refine ⟨g, 0, none, 0, none, 0, rfl, by omega, fun j u hu => ?_, Lies.nil, Lies.nil⟩
    have hj : j < 7 := (Array.getElem?_eq_some_iff.1 hu).1
    rw [h.cell]
    have hzz := hz j hj
    simp only [Nat.zero_mul, Nat.zero_add] at hzz ⊢
    rw [Array.getElem?_setIfInBounds]
    rcases (show j = 0 ∨ j = 1 ∨ j = 2 ∨ j = 3 ∨ j = 4 ∨ j = 5 ∨ j = 6 by omega) with rfl | rfl | rfl | rfl | rfl | rfl | rfl
    · rw [if_pos rfl, if_pos (by rw [size_madeCells]; omega)]
      exact hu
    all_goals
      rw [if_neg (by omega), hzz]
      exact hu
  · unfold manyEv at he
    obtain ⟨k', rfl⟩ : ∃ k', k = k' + 1 := ⟨k - 1, by omega⟩
    rw [List.getElem?_cons_succ] at he
    obtain rfl := List.eq_of_mem_replicate (List.mem_of_getElem? he)
    refine ⟨g, 0, none, 0, none, 0, rfl, by omega, fun j u hu => ?_, Lies.nil, Lies.nil⟩
    have hj : j < 7 := (Array.getElem?_eq_some_iff.1 hu).1
    rw [h.cell, Nat.zero_add, Array.getElem?_setIfInBounds, if_neg (by omega), hz j hj]
    exact hu
theorem Evs.first {w : World} {B : Nat} {A : Option Addr} {e : Ev} {l : List Ev} {n : Nat} (h : Evs w B A n (e :: l)) : Evs w B A 1 [e] :=
  ⟨rfl, fun k x hx => h.2 k x (by
    have hk : k < 1 := (List.getElem?_eq_some_iff.1 hx).1
    obtain rfl : k = 0 := by omega
    exact hx)⟩
def capPln (c : Int) (fl : List (Int × Int)) (cu : List Int) : Pln := ⟨c, fl, 0, cu⟩
theorem err_a : filesErr manyEv 0 (capPln 1 [] []) = 1 := by decide +kernel
theorem err_b : filesErr manyEv 1 (capPln 1 [] []) = 2 := by decide +kernel
theorem err_c : filesErr [nEv] 1 (capPln 1 [] []) = 1 := by decide +kernel
theorem err_d : filesErr [] 1 (capPln 65 [] []) = 1 := by decide +kernel
theorem err_f : filesErr [] 1 (capPln 1 [(-1, 0)] []) = 1 := by decide +kernel
theorem err_g : filesErr [] 1 (capPln 1 [] [0, 0]) = 1 := by decide +kernel
theorem evs_nil (w : World) (B : Nat) : Evs w B none 0 [] := ⟨rfl, fun k e he => by simp at he⟩
theorem fls_nil (w : World) (B : Nat) : Fls w B none 0 [] := ⟨rfl, fun k e he => by simp at he⟩
theorem no_ev : ∀ e ∈ ([] : List Ev), RecFit ⟨0, e⟩ := fun e he => by cases he
theorem zero64 : inI64 0 := ⟨by decide, by decide⟩

set_option maxRecDepth 100000 in
set_option maxHeartbeats 3200000 in
theorem recordErrors_any (w : World) : Calls Try.prog 6 #[] w fun e w' => e = .returned (.bool true) ∧ Below w.heap.size w w' := by
  have mk := make_many
  obtain ⟨C, hC⟩ : ∃ C, C = madeCells zCells (401 * 7) := ⟨_, rfl⟩
  rw [← hC] at mk
  obtain ⟨W, hW⟩ : ∃ W, W = w.alloc (.cells C 24) := ⟨_, rfl⟩
  have hH : Held W w.heap.size 24 C := by rw [hW]; exact Held.new _ _ _
  have hWg : w.grownBy W none := by rw [hW]; exact World.grownBy_alloc w _ none
  obtain ⟨W1, hW1⟩ : ∃ W1, W1 = W.setCell ⟨w.heap.size, 0, none⟩ (.int .i64 9) := ⟨_, rfl⟩
  have hH1 : Held W1 w.heap.size 24 (C.setIfInBounds 0 (.int .i64 9)) := by rw [hW1]; exact hH.store 0 _
  have hWg1 : w.grownBy W1 none := by rw [hW1]; exact gr_row hWg (grown_store W w.heap.size 0 _) (fun g e => by injection e with e; omega)
  have HE := Lib.hid (many_at (by rw [hC] at hH1; exact hH1))
  have c0 : W.cell? ⟨w.heap.size, 0, none⟩ = some (.int .i64 0) := by
    rw [hH.cell 0, hC]
    unfold madeCells
    have hs : zCells.size = 7 := rfl
    rw [hs, Array.getElem?_map, Array.getElem?_range, if_pos (by omega)]
    rfl
  have z0 := hH.free 0
  have hsz : w.heap.size + 1 ≤ W1.heap.size := by have := hH1.lt; omega
  have HW := Lib.hid hW
  have HW1 := Lib.hid hW1
  have HG1 := Lib.hid hWg1
  have CA := Lib.hid (fun (W' : World) (hg : W1.grownBy W' none) => filesP_bad manyEv _ 401 401 0 (capPln 1 [] []) none 0 0 none 0 0 (w.heap.size + 1) W' 1 err_a (by decide) (HE.out.grown hg hsz (fun _ e => nomatch e)) (fls_nil _ _) Lies.nil (Nat.le_trans hsz hg.size) (by omega) (by omega) (by omega) fit_many ⟨zero64, fun x hx => by cases hx⟩)
  have CB := Lib.hid (fun (W' : World) (hg : W1.grownBy W' none) => filesP_bad manyEv _ 401 401 1 (capPln 1 [] []) none 0 0 none 0 0 (w.heap.size + 1) W' 2 err_b (by decide) (HE.out.grown hg hsz (fun _ e => nomatch e)) (fls_nil _ _) Lies.nil (Nat.le_trans hsz hg.size) (by omega) (by omega) (by omega) fit_many ⟨zero64, fun x hx => by cases hx⟩)
  have CC := Lib.hid (fun (W' : World) (hg : W1.grownBy W' none) => filesP_bad [nEv] _ 1 401 1 (capPln 1 [] []) none 0 0 none 0 0 (w.heap.size + 1) W' 1 err_c (by decide) (HE.out.first.grown hg hsz (fun _ e => nomatch e)) (fls_nil _ _) Lies.nil (Nat.le_trans hsz hg.size) (by omega) (by omega) (by omega) (fun e he => fit_any e (.inl (by simpa using he))) ⟨zero64, fun x hx => by cases hx⟩)
  have CD := Lib.hid (fun (W' : World) => filesP_bad [] none 0 0 1 (capPln 65 [] []) none 0 0 none 0 0 0 W' 1 err_d (by decide) (evs_nil _ _) (fls_nil _ _) Lies.nil (Nat.zero_le _) (by omega) (by omega) (by omega) no_ev ⟨zero64, fun x hx => by cases hx⟩)
  have CF := Lib.hid (fun (W' : World) => filesP_bad [] none 0 0 1 (capPln 1 [(-1, 0)] []) (some ⟨W'.heap.size, 0, none⟩) 1 1 none 0 0 (W'.heap.size + 1) (W'.alloc (.cells #[.int .i64 (-1), .int .i64 0] 55)) 1 err_f (by decide) (evs_nil _ _) ⟨rfl, fun k f hf => by
      have hk : k < 1 := (List.getElem?_eq_some_iff.1 hf).1
      obtain rfl : k = 0 := by omega
      simp only [capPln, List.getElem?_cons_zero, Option.some.injEq] at hf
      subst hf
      exact ⟨_, 0, rfl, by omega, (Held.new W' 55 _).cell 0, (Held.new W' 55 _).cell 1⟩⟩ Lies.nil (by simp) (by omega) (by omega) (by omega) no_ev ⟨zero64, fun x hx => by cases hx⟩)
  have CG := Lib.hid (fun (W' : World) => filesP_bad [] none 0 0 1 (capPln 1 [] [0, 0]) none 0 0 (some ⟨W'.heap.size, 0, none⟩) 2 2 (W'.heap.size + 1) (W'.alloc (.cells #[.int .i64 0, .int .i64 0] 3)) 1 err_g (by decide) (evs_nil _ _) (fls_nil _ _) ⟨rfl, fun _ => ⟨_, rfl, by simp, fun j u hu => by
      have hj : j < 2 := (List.getElem?_eq_some_iff.1 hu).1
      have hj' : (⟨W'.heap.size, 0, none⟩ : Addr).add j = ⟨W'.heap.size, j, none⟩ := by unfold Addr.add; split <;> simp_all
      rw [hj', (Held.new W' 3 _).cell j]
      rcases (show j = 0 ∨ j = 1 by omega) with rfl | rfl <;> exact hu⟩⟩ (by simp) (by omega) (by omega) (by omega) no_ev ⟨zero64, fun x hx => by
        simp only [capPln, List.mem_cons, List.not_mem_nil, or_false, or_self] at hx
        rw [hx]; exact zero64⟩)
  unfold capPln planV at CA CB CC CD CF CG
  dsimp only at CA CB CC CD CF CG
  clear hC hW hH hWg hW1 hH1 hWg1
  go_enter Try.func6, Try.ntmps6
  go_upto_region 2 with fail
  rw [show w.alloc (.cells C 24) = W from HW.out.symm]
  go_upto_region 3 with fail
  rw [show W.setCell ⟨w.heap.size, 0, none⟩ (.int .i64 9) = W1 from HW1.out.symm]
  clear c0 z0
  go_upto_region 4 with (first | (go_at_call 20; refine (CA.out W1 (World.grownBy.refl W1 none)).mono ?_; rintro e w2 ⟨rfl, hg2⟩) | fail)
  go_upto_region 5 with (first | (go_at_call 20; refine (CB.out _ hg2).mono ?_; rintro e w3 ⟨rfl, hg3⟩) | fail)
  have hg3' := grownBy_trans hg2 hg3 (.inl rfl)
  go_upto_region 6 with (first | (go_at_call 20; refine (CC.out _ hg3').mono ?_; rintro e w4 ⟨rfl, hg4⟩) | fail)
  have hg4' := grownBy_trans hg3' hg4 (.inl rfl)
  go_upto_region 7 with (first | (go_at_call 20; refine (CD.out _).mono ?_; rintro e w5 ⟨rfl, hg5⟩) | fail)
  have hg5' := grownBy_trans hg4' hg5 (.inl rfl)
  go_upto_region 8 with (first | (go_at_call 20; refine (CF.out _).mono ?_; rintro e w6 ⟨rfl, hg6⟩) | fail)
  have hg6' := grownBy_trans (grownAl2 hg5' _) hg6 (.inl rfl)
  go_upto_region 9 with (first | (go_at_call 20; refine (CG.out _).mono ?_; rintro e w7 ⟨rfl, hg7⟩) | fail)
  have hg7' := grownBy_trans (grownAl2 hg6' _) hg7 (.inl rfl)
  have HG7 := Lib.hid hg7'
  clear hg2 hg3 hg4 hg5 hg6 hg7 hg3' hg4' hg5' hg6' hg7'
  go_wp2_with (first | (go_at_call 23; refine (awake14_any _).mono ?_; rintro e w8 ⟨rfl, hg8⟩) | fail)
  go_ret
  exact ⟨rfl, belGr (Below.refl w.heap.size w) (grownBy_trans HG1.out (grownBy_trans HG7.out hg8 (.inl rfl)) (.inl rfl))⟩
end Go.Proofs.Ytlofjhcjjcohfaa
