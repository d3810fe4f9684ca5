/- Words for the laws of chapter 14: same, awake. -/
import Derived.Test.YtfbkkgfkhhibfaaGreatFlP
import Derived.Test.YtfbkkgfkhhibfaaGreatSum
import Derived.Test.YtfbkkgfkhhibfaaGreatPl
namespace Go.Proofs.YtfbkkgfkhhibfaaGreat
open Go Go.RowKit Iv
set_option linter.unusedVariables false
theorem FilesAt.keep {base thr gF : Nat} {fs : Nat → Bytes} {vf : Nat → Value} {w w' : World} (h : FilesAt base thr gF fs vf w) (hg : w.grownBy w' none) : FilesAt base thr gF fs vf w' :=
  ⟨h.h.grown hg (fun e => nomatch e), fun t ht => own_keep (h.own t ht) hg (fun _ _ e => nomatch e), h.ap, h.lo, h.ne⟩
set_option maxRecDepth 100000 in
set_option maxHeartbeats 1600000 in
theorem awake14_any (w : World) : Calls Tryz.prog 13 #[] w fun e w' => e = .returned (.bool true) ∧ w.grownBy w' none := by
  go_enter Tryz.func13, Tryz.ntmps13
  go_wp2_with fail
  have hev : Evs (w.alloc (.cells #[.int .i64 0, .int .i64 2, .int .i64 0, .int .i64 0, .int .i64 0, .slice none 0 0, .slice none 0 0] 52)) (w.heap.size + 1) (some ⟨w.heap.size, 0, none⟩) 1 [oneEv] := by
    refine ⟨rfl, fun k e he => ?_⟩
    have hk : k < 1 := (List.getElem?_eq_some_iff.1 he).1
    obtain rfl : k = 0 := by omega
    simp only [List.getElem?_cons_zero, Option.some.injEq] at he
    subst he
    refine ⟨w.heap.size, 0, none, 0, none, 0, rfl, by omega, fun j u hu => ?_, Lies.nil, Lies.nil⟩
    rw [Nat.zero_mul, Nat.zero_add]
    exact ((Held.new w 52 _).cell j).trans hu
  have hfit : ∀ e ∈ [oneEv], RecFit ⟨0, e⟩ := by
    intro e he
    simp only [List.mem_singleton] at he
    subst he
    exact ⟨⟨by decide, by decide⟩, ⟨by decide, by decide⟩, ⟨by decide, by decide⟩, ⟨by decide, by decide⟩, ⟨by decide, by decide⟩, ⟨by decide, by decide⟩, fun x hx => (by cases hx), fun x hx => (by cases hx)⟩
  refine (filesP_any [oneEv] _ 1 1 1 onePln none 0 0 none 0 0 (w.heap.size + 1) _ hev ⟨rfl, fun k f hf => by simp [onePln] at hf⟩ ⟨rfl, fun h => absurd h (by omega)⟩ (by simp) (by omega) (by omega) (by omega) hfit ⟨⟨by decide, by decide⟩, fun x hx => by simp [onePln] at hx⟩).mono ?_
  rintro e w1 ⟨v, rfl, hg1, _, hgood⟩
  obtain ⟨t, gF, vf, ht, rfl, hF⟩ := hgood one_err
  obtain rfl : t = 1 := by omega
  rw [one_err]
  obtain ⟨A1, c1, hv1, n1, m1, l1, _⟩ := own_slice (hF.own 0 (by omega))
  have x1 : w1.cell? ⟨gF, 0, none⟩ = some (.slice A1 (filesOf [oneEv] onePln 0).length c1) := by rw [hF.h.cell 0, fam_get _ (by omega), hv1]
  have hlen := one_len
  obtain ⟨L, hL⟩ : ∃ L, L = (filesOf [oneEv] onePln 0).length := ⟨_, rfl⟩
  rw [← hL] at x1 hlen
  have hb : decide ((10 : Int) < (L : Int)) = true := decide_eq_true (by omega)
  have HG := Lib.hid (grownBy_trans (World.grownBy_alloc w _ none) hg1 (.inl rfl))
  clear hev hfit hgood hF hv1 l1 hg1 hL ht
  go_wp2_with fail
  go_ret
  exact ⟨rfl, HG.out⟩
end Go.Proofs.YtfbkkgfkhhibfaaGreat
