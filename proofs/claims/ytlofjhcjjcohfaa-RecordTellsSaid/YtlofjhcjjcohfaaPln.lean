/- The walk of the plan's checks (chapter 14). -/
import Derived.Test.YtlofjhcjjcohfaaRecM
import Derived.Test.YtlofjhcjjcohfaaRrow
import Derived.Deep.QuietTactic
import Derived.BigQuiet
namespace Go.Proofs.Ytlofjhcjjcohfaa
open Go Go.RowKit Iv
set_option linter.unusedVariables false

/-- The flushes of a plan in memory. -/
def Fls (w : World) (B : Nat) (A : Option Addr) (n : Nat) (fs : List (Int × Int)) : Prop :=
  fs.length = n ∧ ∀ k f, fs[k]? = some f → ∃ b o : Nat, A = some ⟨b, o, none⟩ ∧ b < B ∧ w.cell? ⟨b, o + k * 2, none⟩ = some (.int .i64 f.1) ∧ w.cell? ⟨b, o + k * 2 + 1, none⟩ = some (.int .i64 f.2)
theorem Fls.grown {w w' : World} {B n : Nat} {A : Option Addr} {fs : List (Int × Int)} {row : Option Nat} (h : Fls w B A n fs) (hg : w.grownBy w' row) (hB : B ≤ w.heap.size) (hr : ∀ g, row = some g → B ≤ g) : Fls w' B A n fs :=
  ⟨h.1, fun k f hf => by
    obtain ⟨b, o, e, hb, h1, h2⟩ := h.2 k f hf
    have hk : ∀ j, w'.cell? ⟨b, j, none⟩ = w.cell? ⟨b, j, none⟩ := fun j => World.cell?_of_block (hg.block b (by omega) (fun e => by have := hr _ e.symm; omega))
    exact ⟨b, o, e, hb, by rw [hk]; exact h1, by rw [hk]; exact h2⟩⟩
theorem Fls.at {w : World} {B n k : Nat} {A : Option Addr} {fs : List (Int × Int)} (h : Fls w B A n fs) (hk : k < n) :
    ∃ b o f, A = some ⟨b, o, none⟩ ∧ b < B ∧ fs[k]? = some f ∧ w.cell? ⟨b, o + k * 2, none⟩ = some (.int .i64 f.1) ∧ w.cell? ⟨b, o + k * 2 + 1, none⟩ = some (.int .i64 f.2) := by
  have h1 : k < fs.length := by have := h.1; omega
  obtain ⟨b, o, q1, q2, q3, q4⟩ := h.2 k fs[k] (List.getElem?_eq_getElem h1)
  exact ⟨b, o, fs[k], q1, q2, List.getElem?_eq_getElem h1, q3, q4⟩
/-- Events in memory. -/
def Evs (w : World) (B : Nat) (A : Option Addr) (n : Nat) (l : List Ev) : Prop :=
  l.length = n ∧ ∀ k e, l[k]? = some e → ∃ (b o : Nat) (Ad : Option Addr) (cd : Nat) (Af : Option Addr) (cf : Nat), A = some ⟨b, o, none⟩ ∧ b < B ∧
    (∀ j u, (#[.int .i64 e.thread, .int .i64 e.kind, .int .i64 e.obj, .int .i64 e.value, .int .i64 e.site, .slice Ad e.deps.length cd, .slice Af e.from_.length cf] : Array Value)[j]? = some u → w.cell? ⟨b, o + k * 7 + j, none⟩ = some u) ∧ Lies w B 1 Ad e.deps.length (e.deps.map iv) ∧ Lies w B 1 Af e.from_.length (e.from_.map iv)
theorem Evs.grown {w w' : World} {B n : Nat} {A : Option Addr} {l : List Ev} {row : Option Nat} (h : Evs w B A n l) (hg : w.grownBy w' row) (hB : B ≤ w.heap.size) (hr : ∀ g, row = some g → B ≤ g) : Evs w' B A n l :=
  ⟨h.1, fun k e he => by
    obtain ⟨b, o, Ad, cd, Af, cf, q1, hb, q2, q3, q4⟩ := h.2 k e he
    have hk : ∀ j, w'.cell? ⟨b, j, none⟩ = w.cell? ⟨b, j, none⟩ := fun j => World.cell?_of_block (hg.block b (by omega) (fun e => by have := hr _ e.symm; omega))
    exact ⟨b, o, Ad, cd, Af, cf, q1, hb, fun j u hu => by rw [hk]; exact q2 j u hu, q3.grown hg hB hr, q4.grown hg hB hr⟩⟩
theorem Evs.at {w : World} {B n k : Nat} {A : Option Addr} {l : List Ev} (h : Evs w B A n l) (hk : k < n) :
    ∃ (b o : Nat) (e : Ev) (Ad : Option Addr) (cd : Nat) (Af : Option Addr) (cf : Nat), A = some ⟨b, o, none⟩ ∧ b < B ∧ l[k]? = some e ∧
      w.cell? ⟨b, o + k * 7, none⟩ = some (.int .i64 e.thread) ∧ w.cell? ⟨b, o + k * 7 + 1, none⟩ = some (.int .i64 e.kind) ∧ w.cell? ⟨b, o + k * 7 + 2, none⟩ = some (.int .i64 e.obj) ∧ w.cell? ⟨b, o + k * 7 + 3, none⟩ = some (.int .i64 e.value) ∧
      w.cell? ⟨b, o + k * 7 + 4, none⟩ = some (.int .i64 e.site) ∧ w.cell? ⟨b, o + k * 7 + 5, none⟩ = some (.slice Ad e.deps.length cd) ∧ w.cell? ⟨b, o + k * 7 + 6, none⟩ = some (.slice Af e.from_.length cf) ∧
      Lies w B 1 Ad e.deps.length (e.deps.map iv) ∧ Lies w B 1 Af e.from_.length (e.from_.map iv) := by
  have hl : k < l.length := by rw [h.1]; exact hk
  obtain ⟨b, o, Ad, cd, Af, cf, q1, hb, q2, q3, q4⟩ := h.2 k l[k] (List.getElem?_eq_getElem hl)
  exact ⟨b, o, l[k], Ad, cd, Af, cf, q1, hb, List.getElem?_eq_getElem hl, q2 0 _ rfl, q2 1 _ rfl, q2 2 _ rfl, q2 3 _ rfl, q2 4 _ rfl, q2 5 _ rfl, q2 6 _ rfl, q3, q4⟩
/-- A plan as a value. -/
def planV (p : Pln) (Af : Option Addr) (nf cf : Nat) (Ac : Option Addr) (nc cc : Nat) : Array Value := #[.int .i64 p.cap, .slice Af nf cf, .int .i64 p.stop, .slice Ac nc cc]

set_option maxRecDepth 100000 in
set_option maxHeartbeats 3200000 in
theorem planAllowed_head (thr : Int) (p : Pln) (Af : Option Addr) (nf cf : Nat) (Ac : Option Addr) (nc cc : Nat) (w : World) (h : planHead thr p = false) :
    Calls Try.prog 49 #[.int .i64 thr, .agg (planV p Af nf cf Ac nc cc)] w fun e w' => e = .returned (.bool (planOk thr p)) ∧ w.grownBy w' none := by
  obtain ⟨cap, fl, stop, cu⟩ := p
  have HF : Hid (planOk thr ⟨cap, fl, stop, cu⟩ = false) := Lib.hid (by unfold planOk; rw [h]; rfl)
  have hh : thr < 1 ∨ 4 < thr ∨ cap < 1 ∨ 64 < cap ∨ stop < 0 := by
    unfold planHead at h
    simp only [Bool.and_eq_false_iff, decide_eq_false_iff_not] at h
    omega
  unfold planV
  dsimp only
  clear h
  by_cases a1 : thr < 1
  · clear hh
    go_enter Try.func49, Try.ntmps49
    go_wp2_with fail
    go_ret
    exact ⟨ret_bool HF.out.symm, World.grownBy_alloc w _ none⟩
  · by_cases a2 : (4 : Int) < thr
    · clear hh
      go_enter Try.func49, Try.ntmps49
      go_wp2_with fail
      go_ret
      exact ⟨ret_bool HF.out.symm, World.grownBy_alloc w _ none⟩
    · by_cases a3 : cap < 1
      · clear hh
        go_enter Try.func49, Try.ntmps49
        go_wp2_with fail
        go_ret
        exact ⟨ret_bool HF.out.symm, World.grownBy_alloc w _ none⟩
      · by_cases a4 : (64 : Int) < cap
        · clear hh
          go_enter Try.func49, Try.ntmps49
          go_wp2_with fail
          go_ret
          exact ⟨ret_bool HF.out.symm, World.grownBy_alloc w _ none⟩
        · have a5 : stop < 0 := by omega
          clear hh
          go_enter Try.func49, Try.ntmps49
          go_wp2_with fail
          go_ret
          exact ⟨ret_bool HF.out.symm, World.grownBy_alloc w _ none⟩

theorem all_drop {α : Type} {f : α → Bool} {xs : List α} {k : Nat} {x : α} (h : xs[k]? = some x) : (xs.drop k).all f = (f x && (xs.drop (k + 1)).all f) := by
  obtain ⟨hl, rfl⟩ := List.getElem?_eq_some_iff.1 h
  rw [List.drop_eq_getElem_cons hl]
  rfl

set_option maxRecDepth 100000 in
set_option maxHeartbeats 3200000 in
theorem planAllowed_any (thr : Int) (p : Pln) (Af : Option Addr) (nf cf : Nat) (Ac : Option Addr) (nc cc B : Nat) (w : World) (hf : Fls w B Af nf p.flushes) (hcu : Lies w B 1 Ac nc (p.cuts.map iv)) (hB : B ≤ w.heap.size) (hnf : nf ≤ 1000000) (hnc : nc ≤ 1000000) :
    Calls Try.prog 49 #[.int .i64 thr, .agg (planV p Af nf cf Ac nc cc)] w fun e w' => e = .returned (.bool (planOk thr p)) ∧ w.grownBy w' none := by
  cases hh : planHead thr p with
  | false => exact planAllowed_head thr p Af nf cf Ac nc cc w hh
  | true =>
    obtain ⟨cap, fl, stop, cu⟩ := p
    have HOK : Hid (planOk thr ⟨cap, fl, stop, cu⟩ = (fl.all (flushOk thr) && cu.all (fun n => decide (0 ≤ n)) && decide ((cu.length : Int) ≤ thr))) := Lib.hid (by unfold planOk; rw [hh]; simp [Bool.and_assoc])
    unfold planHead at hh
    simp only [Bool.and_eq_true, decide_eq_true_eq] at hh
    dsimp only at hf hcu hh
    have a1 : ¬ thr < 1 := by omega
    have a2 : ¬ (4 : Int) < thr := by omega
    have a3 : ¬ cap < 1 := by omega
    have a4 : ¬ (64 : Int) < cap := by omega
    have a5 : ¬ stop < 0 := by omega
    have hlc : cu.length = nc := hcu.lenI
    have HLC := Lib.hid hlc
    have HLF := Lib.hid hf.1
    clear hh hlc
    obtain ⟨W, hW⟩ : ∃ W, W = w.alloc (.cells #[.int .i64 cap, .slice Af nf cf, .int .i64 stop, .slice Ac nc cc] 47) := ⟨_, rfl⟩
    have hWg : w.grownBy W none := by rw [hW]; exact World.grownBy_alloc w _ none
    have hb0 : Held W w.heap.size 47 #[.int .i64 cap, .slice Af nf cf, .int .i64 stop, .slice Ac nc cc] := by rw [hW]; exact Held.new _ _ _
    have HW := Lib.hid hW
    clear hW
    unfold planV
    dsimp only
    go_enter Try.func49, Try.ntmps49
    go_upto_region 3 with fail
    rw [show w.alloc (.cells #[.int .i64 cap, .slice Af nf cf, .int .i64 stop, .slice Ac nc cc] 47) = W from HW.out.symm]
    have k1 : W.cell? ⟨w.heap.size, 1, none⟩ = some (.slice Af nf cf) := hb0.cell 1
    go_wp2_with fail
    go_loopw [33] (fun iv wr => ∃ k : Nat, iv = .int .i64 (k : Int) ∧ k ≤ nf ∧ W.grownBy wr none ∧ (fl.drop k).all (flushOk thr) = fl.all (flushOk thr)) (fun iv _ => nf - (intOf iv).toNat)
    case atStart => exact ⟨0, rfl, Nat.zero_le _, World.grownBy.refl W none, rfl⟩
    case round =>
      obtain ⟨k, rfl, hk, hg, ho⟩ := hrel
      have HO := Lib.hid ho
      clear ho
      have hgw := grownBy_trans hWg hg (.inl rfl)
      have kz : w.heap.size < wr.heap.size := (hb0.grown hg (fun e => nomatch e)).lt
      by_cases hlt : k < nf
      · obtain ⟨b, o, f, rfl, hbB, hfk, f0, f1⟩ := (hf.grown hgw hB (fun _ e => nomatch e)).at hlt
        have HS := Lib.hid (all_drop (f := flushOk thr) hfk)
        clear hfk
        have HG1 : Hid (W.grownBy (wr.alloc (.cells #[.int .i64 f.1, .int .i64 f.2] 55)) none) := Lib.hid (grownBy_trans hg (World.grownBy_alloc wr _ none) (.inl rfl))
        by_cases hgood : flushOk thr f = true
        · have hgd := hgood
          unfold flushOk at hgd
          simp only [Bool.and_eq_true, decide_eq_true_eq] at hgd
          have g1 : ¬ f.1 < 0 := by omega
          have g2 : ¬ f.2 < 0 := by omega
          have g3 : ¬ thr ≤ f.2 := by omega
          have HGD := Lib.hid hgood
          clear hgood hgd
          go_wp2_with fail
          go_roundw
          case rel => exact ⟨k + 1, by go_num, by omega, HG1.out, by have := HS.out; rw [HO.out, HGD.out, Bool.true_and] at this; exact this.symm⟩
          case measure => simp [intOf]; omega
        · have HF : Hid (planOk thr ⟨cap, fl, stop, cu⟩ = false) := Lib.hid (by
            have h1 := HS.out
            rw [HO.out, Bool.eq_false_iff.2 hgood, Bool.false_and] at h1
            rw [HOK.out, h1]
            rfl)
          have hb : f.1 < 0 ∨ f.2 < 0 ∨ thr ≤ f.2 := by
            unfold flushOk at hgood
            simp only [Bool.and_eq_true, decide_eq_true_eq] at hgood
            omega
          clear hgood
          by_cases g1 : f.1 < 0
          · clear hb
            go_wp2_with fail
            go_ret
            exact ⟨ret_bool HF.out.symm, grownBy_trans hWg HG1.out (.inl rfl)⟩
          · by_cases g2 : f.2 < 0
            · clear hb
              go_wp2_with fail
              go_ret
              exact ⟨ret_bool HF.out.symm, grownBy_trans hWg HG1.out (.inl rfl)⟩
            · have g3 : thr ≤ f.2 := by omega
              clear hb
              go_wp2_with fail
              go_ret
              exact ⟨ret_bool HF.out.symm, grownBy_trans hWg HG1.out (.inl rfl)⟩
      · have hkn : k = nf := by omega
        have HALL : Hid (fl.all (flushOk thr) = true) := Lib.hid (by
          have := HO.out
          rw [List.drop_eq_nil_of_le (by have := HLF.out; omega)] at this
          exact this.symm)
        subst hkn
        have k3 : wr.cell? ⟨w.heap.size, 3, none⟩ = some (.slice Ac nc cc) := (hb0.grown hg (fun e => nomatch e)).cell 3
        have hc2 := hcu.grown hgw hB (fun _ e => nomatch e)
        have hb2 := hb0.grown hg (fun e => nomatch e)
        have HB2 := Lib.hid hb2
        have HGW := Lib.hid hgw
        clear hb2 hgw hg hb0 hWg hf hcu k1
        obtain ⟨W1, hW1⟩ : ∃ W1, W1 = wr := ⟨_, rfl⟩
        subst hW1
        go_wp2_with fail
        go_loopw [55] (fun iv wr => ∃ j : Nat, iv = .int .i64 (j : Int) ∧ j ≤ nc ∧ wr = W1 ∧ (cu.drop j).all (fun n => decide (0 ≤ n)) = cu.all (fun n => decide (0 ≤ n))) (fun iv _ => nc - (intOf iv).toNat)
        case atStart => exact ⟨0, rfl, Nat.zero_le _, rfl, rfl⟩
        case round =>
          obtain ⟨j, rfl, hj, rfl, hoj⟩ := hrel
          have HOJ := Lib.hid hoj
          clear hoj
          by_cases hjl : j < nc
          · obtain ⟨ad, u, rfl, hb1, hx, hc⟩ := hc2.cellAt hjl
            simp only [List.getElem?_map, Option.map_eq_some_iff] at hx
            obtain ⟨x, hx, rfl⟩ := hx
            unfold iv at hc
            have HS := Lib.hid (all_drop (f := fun n : Int => decide (0 ≤ n)) hx)
            clear hx
            by_cases hx0 : x < 0
            · have HF : Hid (planOk thr ⟨cap, fl, stop, cu⟩ = false) := Lib.hid (by
                have h1 := HS.out
                rw [HOJ.out, decide_eq_false (by omega), Bool.false_and] at h1
                rw [HOK.out, h1]
                simp)
              go_wp2_with fail
              go_ret
              exact ⟨ret_bool HF.out.symm, HGW.out⟩
            · have HX : Hid (decide (0 ≤ x) = true) := Lib.hid (decide_eq_true (by omega))
              go_wp2_with fail
              go_roundw
              case rel => exact ⟨j + 1, by go_num, by omega, trivial, by have := HS.out; rw [HOJ.out, HX.out, Bool.true_and] at this; exact this.symm⟩
              case measure => simp [intOf]; omega
          · have hjn : j = nc := by omega
            have HF : Hid (planOk thr ⟨cap, fl, stop, cu⟩ = decide ((nc : Int) ≤ thr)) := Lib.hid (by
              have h1 := HOJ.out
              rw [List.drop_eq_nil_of_le (by have := HLC.out; omega)] at h1
              rw [HOK.out, HALL.out, ← h1, HLC.out]
              rfl)
            clear hjn
            go_wp2_with fail
            go_ret
            exact ⟨ret_bool HF.out.symm, HGW.out⟩
end Go.Proofs.Ytlofjhcjjcohfaa
