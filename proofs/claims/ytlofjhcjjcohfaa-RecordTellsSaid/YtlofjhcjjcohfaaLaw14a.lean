/- The walks of the helpers of chapter 14's statements: large, same, awake. -/
import Derived.Test.YtlofjhcjjcohfaaFlP
import Derived.Test.YtlofjhcjjcohfaaSameY
import Derived.Test.YtlofjhcjjcohfaaPl
namespace Go.Proofs.Ytlofjhcjjcohfaa
open Go Go.RowKit Iv
set_option linter.unusedVariables false

/-- What 'large' gives: where it says no, the inputs are small. -/
def LargeOut14 (nl nf nc : Nat) (w : World) (e : Ending) (w' : World) : Prop := ∃ b, e = .returned (.bool b) ∧ (b = false → nl ≤ 500 ∧ nf ≤ 50 ∧ nc ≤ 10) ∧ w.grownBy w' none

set_option maxRecDepth 100000 in
set_option maxHeartbeats 1600000 in
theorem large14_any (l : List Ev) (Al : Option Addr) (nl cl : Nat) (p : Pln) (Af : Option Addr) (nf cf : Nat) (Ac : Option Addr) (nc cc B : Nat) (w : World) (hl : Evs w B Al nl l) (hB : B ≤ w.heap.size) (hnl : nl ≤ maxLen) (hnf : nf ≤ maxLen) (hnc : nc ≤ maxLen) :
    Calls Try.prog 19 #[.slice Al nl cl, .agg (planV p Af nf cf Ac nc cc)] w (LargeOut14 nl nf nc w) := by
  obtain ⟨cap, fl, stop, cu⟩ := p
  unfold maxLen at hnl hnf hnc
  obtain ⟨W, hW⟩ : ∃ W, W = w.alloc (.cells #[.int .i64 cap, .slice Af nf cf, .int .i64 stop, .slice Ac nc cc] 47) := ⟨_, rfl⟩
  have hWg : w.grownBy W none := by rw [hW]; exact World.grownBy_alloc w _ none
  have hb0 : Held W w.heap.size 47 #[.int .i64 cap, .slice Af nf cf, .int .i64 stop, .slice Ac nc cc] := by rw [hW]; exact Held.new _ _ _
  have HW := Lib.hid hW
  have HB0 := Lib.hid hb0
  have HL := Lib.hid hl
  clear hW hb0 hl
  unfold planV
  dsimp only
  go_enter Try.func19, Try.ntmps19
  go_wp2_with fail
  rw [show w.alloc (.cells #[.int .i64 cap, .slice Af nf cf, .int .i64 stop, .slice Ac nc cc] 47) = W from HW.out.symm]
  go_loopw [5, 6] (fun sv iv wr => ∃ (k : Nat) (t : Int), iv = .int .i64 (k : Int) ∧ k ≤ nl ∧ sv = .int .i64 t ∧ W.grownBy wr none) (fun _ iv _ => nl - (intOf iv).toNat)
  case atStart => exact ⟨0, 0, rfl, Nat.zero_le _, rfl, World.grownBy.refl W none⟩
  case round =>
    obtain ⟨k, t, rfl, hk, rfl, hg⟩ := hrel
    have f1 : wr.cell? ⟨w.heap.size, 1, none⟩ = some (.slice Af nf cf) := (HB0.out.grown hg (fun e => nomatch e)).cell 1
    have f3 : wr.cell? ⟨w.heap.size, 3, none⟩ = some (.slice Ac nc cc) := (HB0.out.grown hg (fun e => nomatch e)).cell 3
    have hgw := grownBy_trans hWg hg (.inl rfl)
    have HGW := Lib.hid hgw
    have HG := Lib.hid hg
    clear hgw hg
    by_cases hlt : k < nl
    · obtain ⟨b, o, e, Ad, cd, Ae, ce, rfl, hb, hem, e0, e1, e2, e3, e4, e5, e6, _, _⟩ := (HL.out.grown HGW.out hB (fun _ e => nomatch e)).at hlt
      have i0 : (0 : Int) ≤ (k : Int) := by omega
      have i1 : (k : Int) < (nl : Int) := by omega
      clear hem e0 e1 e2 e3 e4
      go_upto_region 5 with fail
      go_quiet (fail)
      go_wp2_with fail
      · go_ret
        exact ⟨true, rfl, (fun e => nomatch e), grown_toDrewN HGW.out _⟩
      · go_roundw
        case rel => exact ⟨k + 1, _, by go_num, by omega, rfl, grown_toDrewN HG.out _⟩
        case measure => simp [intOf]; omega
    · have hnk : ¬ k < nl := hlt
      go_wp2_with fail
      all_goals
        go_ret
        refine ⟨_, rfl, (fun hb => ?_), HGW.out⟩
        (simp at hb <;> omega)

set_option maxRecDepth 100000 in
set_option maxHeartbeats 1600000 in
theorem same14_yes (thr g g' b b' : Nat) (fs : Nat → Bytes) (vf vf' : Nat → Value) (w : World) (h : FilesAt b thr g fs vf w) (h' : FilesAt b' thr g' fs vf' w) (hthr : thr ≤ 1000000) (hlen : ∀ k, k < thr → (fs k).length ≤ 1000000000000) :
    Calls Try.prog 22 #[.slice (some ⟨g, 0, none⟩) thr thr, .slice (some ⟨g', 0, none⟩) thr thr] w fun e w' => e = .returned (.bool true) ∧ ∃ q, w' = w.drewN q := by
  have hb : ((thr : Int) != (thr : Int)) = false := by simp
  have H1 := Lib.hid h
  have H2 := Lib.hid h'
  clear h h'
  go_enter Try.func22, Try.ntmps22
  go_wp2_with fail
  go_loopw [5] (fun iv wr => ∃ k q : Nat, iv = .int .i64 (k : Int) ∧ k ≤ thr ∧ wr = w.drewN q) (fun iv _ => thr - (intOf iv).toNat)
  case atStart => exact ⟨0, 0, rfl, Nat.zero_le _, rfl⟩
  case round =>
    obtain ⟨k, q, rfl, hk, rfl⟩ := hrel
    by_cases hlt : k < thr
    · obtain ⟨A1, c1, hv1, n1, m1, l1, _⟩ := own_slice (H1.out.own k hlt)
      obtain ⟨A2, c2, hv2, n2, m2, l2, _⟩ := own_slice (H2.out.own k hlt)
      have x1 : (w.drewN q).cell? ⟨g, k, none⟩ = some (.slice A1 (fs k).length c1) := by
        have := (H1.out.h.drewN q).cell k
        rw [this, fam_get _ hlt, hv1]
      have x2 : (w.drewN q).cell? ⟨g', k, none⟩ = some (.slice A2 (fs k).length c2) := by
        have := (H2.out.h.drewN q).cell k
        rw [this, fam_get _ hlt, hv2]
      have i0 : (0 : Int) ≤ (k : Int) := by omega
      have i1 : (k : Int) < (thr : Int) := by omega
      have HS := Lib.hid (fun q2 => same_yes A1 A2 _ _ c1 c2 (fs k) (w.drewN q2) _ _ (l1.drewN q2) (l2.drewN q2) (hlen k hlt) (hlen k hlt))
      clear hv1 hv2 l1 l2
      go_wp2_with fail
      go_region_held3 (fun w' => w'.cell? ⟨g, k, none⟩ = some (.slice A1 (fs k).length c1) ∧ w'.cell? ⟨g', k, none⟩ = some (.slice A2 (fs k).length c2))
        (exact And.intro x1 x2)
        (first | (go_at_call 17; ((with_reducible refine (HS.out _).mono ?_); rintro e w2 ⟨rfl, q2, rfl⟩)) | fail)
      go_wp2_with fail
      go_roundw
      case rel => exact ⟨k + 1, _, by go_num, by omega, rfl⟩
      case measure => simp [intOf]; omega
    · go_wp2_with fail
      go_ret
      exact ⟨rfl, q, rfl⟩

set_option maxRecDepth 100000 in
set_option maxHeartbeats 1600000 in
/-- Two answers without files are one. -/
theorem same14_nil (w : World) : Calls Try.prog 22 #[.slice none 0 0, .slice none 0 0] w fun e w' => e = .returned (.bool true) ∧ ∃ q, w' = w.drewN q := by
  go_enter Try.func22, Try.ntmps22
  go_wp2_with fail
  go_loopw [5] (fun iv wr => iv = .int .i64 0 ∧ wr = w) (fun iv _ => 0)
  case atStart => exact ⟨rfl, rfl⟩
  case round =>
    obtain ⟨rfl, rfl⟩ := hrel
    go_wp2_with fail
    go_ret
    exact ⟨rfl, 0, rfl⟩

set_option maxRecDepth 100000 in
set_option maxHeartbeats 1600000 in
theorem awake14_any (w : World) : Calls Try.prog 23 #[] w fun e w' => e = .returned (.bool true) ∧ w.grownBy w' none := by
  go_enter Try.func23, Try.ntmps23
  go_wp2_with fail
  have hev : Evs (w.alloc (.cells #[.int .i64 0, .int .i64 2, .int .i64 0, .int .i64 0, .int .i64 0, .slice none 0 0, .slice none 0 0] 24)) (w.heap.size + 1) (some ⟨w.heap.size, 0, none⟩) 1 [oneEv] := by
    refine ⟨rfl, fun k e he => ?_⟩
    have hk : k < 1 := (List.getElem?_eq_some_iff.1 he).1
    obtain rfl : k = 0 := by omega
    simp only [List.getElem?_cons_zero, Option.some.injEq] at he
    subst he
    refine ⟨w.heap.size, 0, none, 0, none, 0, rfl, by omega, fun j u hu => ?_, Lies.nil, Lies.nil⟩
    rw [Nat.zero_mul, Nat.zero_add]
    exact ((Held.new w 24 _).cell j).trans hu
  have hfit : ∀ e ∈ [oneEv], RecFit ⟨0, e⟩ := by
    intro e he
    simp only [List.mem_singleton] at he
    subst he
    exact ⟨⟨by decide, by decide⟩, ⟨by decide, by decide⟩, ⟨by decide, by decide⟩, ⟨by decide, by decide⟩, ⟨by decide, by decide⟩, ⟨by decide, by decide⟩, fun x hx => (by cases hx), fun x hx => (by cases hx)⟩
  refine (filesP_any [oneEv] _ 1 1 1 onePln none 0 0 none 0 0 (w.heap.size + 1) _ hev ⟨rfl, fun k f hf => by simp [onePln] at hf⟩ ⟨rfl, fun h => absurd h (by omega)⟩ (by simp) (by omega) (by omega) (by omega) hfit ⟨⟨by decide, by decide⟩, fun x hx => by simp [onePln] at hx⟩).mono ?_
  rintro e w1 ⟨v, rfl, hg1, _, hgood⟩
  obtain ⟨t, gF, vf, ht, rfl, hF⟩ := hgood one_err
  obtain rfl : t = 1 := by omega
  rw [one_err]
  obtain ⟨A1, c1, hv1, n1, m1, l1, _⟩ := own_slice (hF.own 0 (by omega))
  have x1 : w1.cell? ⟨gF, 0, none⟩ = some (.slice A1 (filesOf [oneEv] onePln 0).length c1) := by rw [hF.h.cell 0, fam_get _ (by omega), hv1]
  have hlen := one_len
  obtain ⟨L, hL⟩ : ∃ L, L = (filesOf [oneEv] onePln 0).length := ⟨_, rfl⟩
  rw [← hL] at x1 hlen
  have hb : decide ((10 : Int) < (L : Int)) = true := decide_eq_true (by omega)
  have HG := Lib.hid (grownBy_trans (World.grownBy_alloc w _ none) hg1 (.inl rfl))
  clear hev hfit hgood hF hv1 l1 hg1 hL ht
  go_wp2_with fail
  go_ret
  exact ⟨rfl, HG.out⟩
end Go.Proofs.Ytlofjhcjjcohfaa
