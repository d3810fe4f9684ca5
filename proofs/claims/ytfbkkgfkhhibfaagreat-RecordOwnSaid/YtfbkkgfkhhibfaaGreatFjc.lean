/- The functions that Trace needs: one silent step of a thread. -/
import Derived.Test.YtfbkkgfkhhibfaaGreatFg
import Derived.Test.YtfbkkgfkhhibfaaGreatFzj
namespace AM
open Go Go.Proofs Mk
set_option linter.unusedVariables false
set_option linter.unusedSimpArgs false
set_option maxRecDepth 20000
set_option maxHeartbeats 8000000
def us124 : Nat → List (Nat × Nat) := fun i => if i = 5 then [(8, 11), (9, 11)] else if i = 18 then [(1, 3), (1, 7), (3, 7), (4, 7), (5, 7), (1, 9), (3, 9), (4, 9), (5, 9), (7, 9), (1, 10), (3, 10), (4, 10), (5, 10), (1, 11), (3, 11), (4, 11), (5, 11)] else if i = 20 then [(1, 4), (2, 4), (1, 6), (2, 6), (4, 6), (1, 7), (2, 7), (1, 8), (2, 8)] else if i = 10 then [(1, 4), (2, 4), (1, 6), (2, 6), (4, 6), (1, 7), (2, 7), (1, 8), (2, 8), (1, 10), (2, 10), (4, 10), (6, 10), (7, 10), (8, 10), (1, 12), (2, 12), (4, 12), (6, 12), (7, 12), (8, 12), (10, 12), (1, 13), (2, 13), (4, 13), (6, 13), (7, 13), (8, 13), (1, 14), (2, 14), (4, 14), (6, 14), (7, 14), (8, 14)] else if i = 11 then [(1, 3), (1, 7), (3, 7), (4, 7), (5, 7), (1, 9), (3, 9), (4, 9), (5, 9), (7, 9), (1, 10), (3, 10), (4, 10), (5, 10), (1, 11), (3, 11), (4, 11), (5, 11)] else if i = 22 then [(1, 3), (1, 5), (3, 5), (1, 7), (3, 7), (5, 7), (1, 11), (3, 11), (5, 11), (7, 11), (5, 12), (7, 12), (5, 13), (7, 13)] else []
theorem oper_v (a : Int) (h : 6 ≤ a ∧ a ≤ 18) : FnEq Tryz.prog 164 [.pv (intP a)] (.pv (intP a)) := by
  have := operator_ok a (by omega)
  rwa [if_neg (by omega)] at this
theorem step7_ok (b : Nat) (hb : b ≤ 400) (i : In) (pc : Int) (r : Nat) (ev : Int) (hr : r ≤ 5) (hp : 0 ≤ pc ∧ pc ≤ 1000) (hs : 1 ≤ i.op ∧ i.op ≤ 5) (h3 : i.op ≠ 3) (h4 : i.op = 4 → 6 ≤ i.n ∧ i.n ≤ 18) (hn : i64 i.n) (hg : ∀ q ∈ regsI i, 0 ≤ q ∧ q < (r : Int)) :
    FnEq Tryz.prog 137 [rw_ i.r, rw_ (tsR b pc r r ev)] (.tup [rw_ (tsR b (if i.op = 5 then i.a else pc + 1) r r ev), .pv (boolP true)]) := by
  obtain ⟨op, ia, ib, ic, nn, st⟩ := i
  dsimp only at hs h3 h4 hn ⊢
  refine wf Tryz.func137 us124 (h := fun R hR => ?_)
  refine wb ?_ <;> intros
  refine wE (registers_ok ⟨op, ia, ib, ic, nn, st⟩) ?_
  have hrl := regsI_len ⟨op, ia, ib, ic, nn, st⟩
  refine wb ?_ <;> intros
  refine wl (fun j : Nat => [(2, .ptr 0 0), (3, .ptr 1 0), (4, .ptr 2 0), (6, .pv (.sl (inL (regsI ⟨op, ia, ib, ic, nn, st⟩)))), (7, .pv (intP j))]) (fun _ => [some (.box ((In.r ⟨op, ia, ib, ic, nn, st⟩).map .pv)), some (.box ((tsR b pc r r ev).map .pv)), some (.box [.pv (intP 0), .emp, .emp, .pv (intP 0)])]) (fun j => j ≤ (regsI ⟨op, ia, ib, ic, nn, st⟩).length) (fun j => (regsI ⟨op, ia, ib, ic, nn, st⟩).length - j) 0 (Nat.zero_le _) (vm [0, 8, 16]) (fun j hj => ?_)
  refine wb (A2.mk ?_ (A2.mk ?_ (A2.mk ?_ (A2.mk ?_ ?_)))) <;> intros
  · have hj3 : j < (regsI ⟨op, ia, ib, ic, nn, st⟩).length := by omega
    have hq := hg _ (List.getElem_mem hj3)
    refine row_map (x := (regsI ⟨op, ia, ib, ic, nn, st⟩)[j]) (by omega) (by simp [hj3]) rfl ?_
    refine wb ?_ <;> intros
    refine row_map (x := (regsI ⟨op, ia, ib, ic, nn, st⟩)[j]) (by omega) (by simp [hj3]) rfl ?_
    refine wb ?_ <;> intros
    exact sr_mark ⟨j + 1, hj3, by omega, vm [0, 1, 2]⟩
  · rw [if_pos (by assumption)] at hR
    exact wr hR
  · rw [if_neg (by assumption)] at hR
    have e1 : op = 1 := by assumption
    have q1 := hg ia (by subst e1; simp [regsI])
    refine And.intro q1 (And.intro hn ?_)
    refine wb ?_ <;> intros
    exact wr hR
  · rw [if_neg (by assumption)] at hR
    have e2 : op = 2 := by assumption
    have q1 := hg ia (by subst e2; simp [regsI])
    have q2 := hg ib (by subst e2; simp [regsI])
    refine And.intro q2 (ty_int fun x hx => ?_)
    refine wb ?_ <;> intros
    refine ty_asc fun l1 hl1 => ?_
    have l14 : l1.length ≤ 400 := Nat.le_trans hl1.len hb
    refine wb ?_ <;> intros
    refine And.intro hx ?_
    refine wb ?_ <;> intros
    refine And.intro (asc_ok hl1) ?_
    refine wb ?_ <;> intros
    exact wr hR
  · rw [if_neg (by assumption)] at hR
    have e4 : op = 4 := by omega
    have q1 := hg ia (by subst e4; simp [regsI])
    have q2 := hg ib (by subst e4; simp [regsI])
    have q3 := hg ic (by subst e4; simp [regsI])
    have n4 := h4 e4
    refine wE (oper_v nn n4) ?_
    refine wb ?_ <;> intros
    refine ty_int fun x hx => ?_
    refine wb ?_ <;> intros
    refine ty_int fun y hy => ?_
    refine wb ?_ <;> intros
    refine wG (binary5_ok nn x y hx hy n4) (.tup [.pv (intP 0), .pv (boolP true)]) ⟨0, i64_0, rfl⟩ ?_
    rintro v ⟨z, hz, rfl⟩
    refine wb ?_ <;> intros
    refine ty_asc fun l1 hl1 => ?_
    refine wb ?_ <;> intros
    refine ty_asc fun l2 hl2 => ?_
    refine wb ?_ <;> intros
    refine wG (union_ok b hb l1 hl1 l2 hl2) (.pv (.sl (nL []))) ⟨[], ⟨List.Pairwise.nil, fun n hn => nomatch hn⟩, rfl⟩ ?_
    rintro v ⟨l3, hl3, rfl⟩
    have l34 : l3.length ≤ 400 := Nat.le_trans hl3.len hb
    refine wb ?_ <;> intros
    refine And.intro hz ?_
    refine wb ?_ <;> intros
    refine And.intro (asc_ok hl3) ?_
    refine wb ?_ <;> intros
    exact wr hR
end AM

/- The functions that Trace needs: a thread goes on to where an event is. -/
namespace AM
open Go Go.Proofs Mk
set_option linter.unusedVariables false
set_option linter.unusedSimpArgs false
set_option maxRecDepth 20000
set_option maxHeartbeats 8000000
structure TsK (m : Int) (x : Int × Nat × Nat × Int) : Prop where
  pc : i64 x.1
  r : x.2.1 ≤ 5
  s : x.2.2.1 ≤ 5
  e0 : 0 ≤ x.2.2.2
  e1 : x.2.2.2 ≤ m
@[go_sem] def tsT (b : Nat) (x : Int × Nat × Nat × Int) : List PV := tsR b x.1 x.2.1 x.2.2.1 x.2.2.2
theorem settle_ok (n t : Nat) (ss : List (Nat × Nat)) (rr : Nat) (l : List In) (G : GoodC n ss t rr l) (hm : ∀ i ∈ l, NumI i) (b : Nat) (hb : b ≤ 400) (x : Int × Nat × Nat × Int) (m : Int) (hx : TsK m x) :
    FnOk Tryz.prog 101 [rw_ [intP rr, .sl (l.map In.r)], rw_ (tsT b x)] (fun v => ∃ y ok, TsK m y ∧ v = .tup [rw_ (tsT b y), .pv (boolP ok)]) := by
  obtain ⟨pc, r, s, ev⟩ := x
  obtain ⟨x1, x2, x3, x4, x5⟩ := hx
  dsimp only at x1 x2 x3 x4 x5
  have hr1 := G.r1
  have hlen := G.len
  have hz : TsK m (0, 0, 0, 0) := ⟨i64_0, Nat.zero_le _, Nat.zero_le _, Int.le_refl _, Int.le_trans x4 x5⟩
  refine wf Tryz.func101 (fun _ => []) (h := fun R hR => ?_)
  refine wb (A2.mk ?_ (A2.mk ?_ ?_)) <;> intros
  all_goals try exact wt hR (.tup [rw_ (tsT b (0, 0, 0, 0)), .pv (boolP false)]) [] ⟨_, _, hz, rfl⟩
  have er : r = rr := by omega
  have es : s = rr := by omega
  subst er es
  refine wE (copy7_ok b b (Nat.le_refl b) hb pc s s ev x2 x2) ?_
  refine wb ?_ <;> intros
  refine wl (fun u : Nat × Int => [(2, .ptr 0 0), (3, .ptr 1 0), (4, .ptr 2 0), (6, .pv (intP u.1))]) (fun u => [some (.box [.pv (intP s), .pv (.sl (l.map In.r))]), some (.box ((tsR b u.2 s s ev).map .pv)), some (.box [.pv (intP 0), .emp, .emp, .pv (intP 0)])]) (fun u => u.1 ≤ l.length + 1 ∧ i64 u.2) (fun u => l.length + 1 - u.1) (0, pc) ⟨Nat.zero_le _, x1⟩ (vm [0, 8, 16]) (fun ⟨k, t⟩ ⟨hk, ht⟩ => ?_)
  dsimp only at hk ht
  refine wb (A2.mk ?_ (A2.mk ?_ (A2.mk ?_ ?_))) <;> intros
  all_goals try exact wt hR (.tup [rw_ (tsT b (0, 0, 0, 0)), .pv (boolP false)]) [] ⟨_, _, hz, rfl⟩
  have hlt : t.toNat < l.length := by omega
  have hgl := List.getElem?_eq_getElem hlt
  have hmn := hm l[t.toNat] (List.getElem_mem hlt)
  have hg : (l.map In.r)[t.toNat]? = some (l[t.toNat]).r := by simp [hlt]
  generalize l[t.toNat] = i at hmn hg hgl
  have hop := G.op _ _ hgl
  have hobj := G.obj _ _ hgl
  have hjmp := G.jmp _ _ hgl
  have hrg := G.regs _ _ hgl
  refine row_get (by omega) hg rfl ?_
  refine wb ?_ <;> intros
  refine wE (silent_ok i.op) ?_
  refine wb (A2.mk ?_ (A2.mk ?_ ?_)) <;> intros
  · exact wt hR (.tup [rw_ (tsT b (0, 0, 0, 0)), .pv (boolP false)]) [] ⟨_, _, hz, rfl⟩
  · rename_i hx hk2
    simp only [Bool.and_eq_true, decide_eq_true_eq] at hx
    have hn6 : i64 i.n := i64_iff.2 (by have := hmn.1; have := hmn.2; omega)
    refine wE (step7_ok b hb i t s ev x2 (by omega) hx hobj.o3 hobj.o4 hn6 hrg) ?_
    refine wb ?_ <;> intros
    refine sr_mark ⟨(k + 1, if i.op = 5 then i.a else t + 1), ⟨by omega, ?_⟩, by dsimp only; omega, vm [0, 1, 2]⟩
    dsimp only
    split
    · rename_i h5
      obtain ⟨z, z1, z2⟩ := hjmp h5
      exact i64_iff.2 (by omega)
    · exact i64_iff.2 (by omega)
  · exact wt hR (.tup [rw_ (tsT b (t, s, s, ev)), .pv (boolP true)]) [] ⟨_, _, ⟨ht, x2, x2, x4, x5⟩, rfl⟩
end AM

/- The functions that Trace needs: the state of locks and threads. -/
namespace AM
open Go Go.Proofs Mk
set_option linter.unusedVariables false
set_option linter.unusedSimpArgs false
set_option maxRecDepth 20000
set_option maxHeartbeats 8000000
abbrev lkC : List CT := [.int .i64, .asc 400]
abbrev thC : List CT := [.int .i64, .int .i64, .bool]
@[go_sem] def syR (n : Nat) (tx : Int) : List PV := [.tr lkC 3, intP tx, .tr [.bool] 1, .tr thC n]
@[go_sem] def thI (i : Nat) : List PV := [intP (if i = 0 then 1 else 0), intP 0, boolP false]
@[go_sem] theorem rows_thI {l : List Nat} : rowsB thC (l.map thI) = True := by
  refine eq_true fun row hr => ?_
  obtain ⟨i, _, rfl⟩ := List.mem_map.1 hr
  unfold thI thC
  simp only [ctsB_cons, ctsB_nil, ok_int, ok_bool, and_true, true_and]
  refine ⟨?_, by rw [IntKind.wrap_i64]; omega⟩
  split <;> rw [IntKind.wrap_i64] <;> omega
attribute [local go_sem] rep thNames_len List.length_range List.length_map List.set_cons_zero List.set_cons_succ
theorem start8_ok (n : Nat) (ss : List (Nat × Nat)) (hn : n ≤ 4) : FnEq Tryz.prog 67 [rw_ (wldR n ss)] (rw_ (syR n (-1))) := by
  refine wf Tryz.func67 (fun _ => []) (h := fun R hR => ?_)
  refine wb ?_ <;> intros
  refine sr_ghost 24 0 231 2 rfl rfl ?_
  refine sr_ghost 24 2 4 1 rfl rfl ?_
  refine sr_ghost 24 3 233 3 rfl rfl ?_
  refine wn 4 ?_
  refine wb ?_ <;> intros
  refine wn 2 ?_
  refine wb ?_ <;> intros
  refine wl (fun k : Nat => [(1, .ptr 0 0), (2, .ptr 1 0), (3, .ptr 2 0), (6, .pv (intP k))]) (fun k => [some (.box ((wldR n ss).map .pv)), some (.box [.emp, .pv (intP 0), .emp, .emp]), some (.box [.pv (.tr lkC 3), .pv (intP (-1)), .pv (.tr [.bool] 1), .own 3 k]), some (.row 233 3 ((List.range k).map thI))]) (fun k => k ≤ n) (fun k => n - k) 0 (Nat.zero_le _) (vm [0, 8, 24, 50] [(363, some lkC), (523, some [.bool])]) (fun k hk => ?_)
  refine wb (A2.mk ?_ (A2.mk ?_ ?_)) <;> intros
  · have e1 : (List.range (k + 1)).map thI = (List.range k).map thI ++ [[intP 1, intP 0, boolP false]] := by
      obtain rfl : k = 0 := by omega
      rfl
    refine sr_mark ⟨k + 1, by omega, by omega, ?_⟩
    rw [e1]
    exact vm [0, 1, 2, 132]
  · have e1 : (List.range (k + 1)).map thI = (List.range k).map thI ++ [[intP 0, intP 0, boolP false]] := by
      have h0 : k ≠ 0 := by omega
      rw [List.range_succ, List.map_append, List.map_singleton, thI, if_neg h0]
    refine sr_mark ⟨k + 1, by omega, by omega, ?_⟩
    rw [e1]
    exact vm [0, 1, 2, 116]
  · obtain rfl : k = n := by omega
    exact wr hR [(3, some thC)]
theorem fits8_ok (n : Nat) (ss : List (Nat × Nat)) (hn : n ≤ 4) (tx : Int) : FnEq Tryz.prog 158 [rw_ (wldR n ss), rw_ (syR n tx)] (.pv (boolP true)) := by
  refine wf Tryz.func158 (fun _ => [(9, 15), (11, 15), (13, 15)]) (h := fun R hR => ?_)
  refine wb ?_ <;> intros
  refine wn 2 ?_
  refine wb ?_ <;> intros
  iterate 2 (refine row_get (by omega) rfl rfl ?_; refine wb ?_ <;> intros)
  exact wr hR
end AM

/- The functions that Trace needs: the first state of an execution. -/
namespace AM
open Go Go.Proofs Mk
set_option linter.unusedVariables false
set_option linter.unusedSimpArgs false
set_option maxRecDepth 20000
set_option maxHeartbeats 8000000
structure CdG (n : Nat) (ss : List (Nat × Nat)) (cs : List (Int × List In)) : Prop where
  n1 : 1 ≤ n
  n4 : n ≤ 4
  s60 : ss.length ≤ 60
  so : SiteOk n ss
  val : FnEq Tryz.prog 41 [rw_ (coR n ss cs)] (.pv (boolP true))
  len : cs.length = n
  good : ∀ (k : Nat) r l, cs[k]? = some (r, l) → GoodC n ss k r l
  num : ∀ (k : Nat) r l, cs[k]? = some (r, l) → ∀ i ∈ l, NumI i
@[go_sem] def xstR (n : Nat) (tx : Int) (m : Nat) (xs : List (Int × Nat × Nat × Int)) : List PV := [.tr lkC 3, intP tx, .tr [.bool] 1, .tr thC n, .tr [.int .i64] 5, .tr [.int .i64] 1, .sl (xs.map (tsT m))]
@[go_sem] def ts0 (p : Int × List In) : Int × Nat × Nat × Int := (0, p.1.toNat, p.1.toNat, 0)
@[go_sem] theorem zc_int64 : (zeroT Tryz.prog 2).bind ctsOf = some [.int .i64] := by kernel_rfl
@[go_sem] theorem zc_ints : (zeroT Tryz.prog 37).bind ctsOf = some [.asc 0] := by kernel_rfl
def us59 : Nat → List (Nat × Nat) := fun i => if i = 7 then [(1, 4), (1, 6), (1, 8)] else if i = 15 then [(1, 3), (1, 5), (1, 7), (1, 10), (3, 10), (5, 10), (7, 10), (1, 12), (3, 12), (5, 12), (7, 12), (1, 14), (3, 14), (5, 14), (7, 14)] else []
attribute [local go_sem] rep Int.toNat_natCast thNames_len List.length_range List.length_map List.set_cons_zero List.set_cons_succ List.map_append List.length_append List.map_cons List.map_nil List.length_singleton
theorem start9_ok (n : Nat) (ss : List (Nat × Nat)) (cs : List (Int × List In)) (C : CdG n ss cs) : FnEq Tryz.prog 43 [rw_ (coR n ss cs)] (rw_ (xstR n (-1) 0 (cs.map ts0))) := by
  obtain ⟨n1, n4, s60, so, val, len, good, num⟩ := C
  refine wf Tryz.func43 us59 (h := fun R hR => ?_)
  refine wb ?_ <;> intros
  refine wE val ?_
  refine wb ?_ <;> intros
  refine wE (start8_ok n ss n4) ?_
  refine wb ?_ <;> intros
  refine sr_ghost 72 4 2 1 rfl rfl ?_
  refine sr_ghost 72 5 2 1 rfl rfl ?_
  refine sr_ghost 72 6 169 4 rfl rfl ?_
  refine wn 6 ?_
  refine wb ?_ <;> intros
  iterate 5 (refine row_get (by omega) rfl rfl ?_; refine wb ?_ <;> intros)
  refine wn 2 ?_
  refine wb ?_ <;> intros
  refine wl (fun u : List (Int × Nat × Nat × Int) => [(1, .ptr 0 0), (2, .ptr 1 0), (3, .ptr 2 0), (6, .pv (intP u.length))]) (fun u => [some (.box ((coR n ss cs).map .pv)), some (.box [.emp, .pv (intP 0), .emp, .emp, .emp, .emp, .emp]), some (.box [.pv (.tr lkC 3), .pv (intP (-1)), .pv (.tr [.bool] 1), .pv (.tr thC n), .pv (.tr [.int .i64] 5), .pv (.tr [.int .i64] 1), .own 3 u.length]), some (.row 169 4 (u.map (tsT 0)))]) (fun u => u.length ≤ cs.length ∧ Hd (u = (cs.map ts0).take u.length)) (fun u => cs.length - u.length) [] ⟨Nat.zero_le _, ⟨rfl⟩⟩ (vm [0, 8, 72, 98] [(931, some [.int .i64]), (1107, some [.int .i64])]) (fun u ⟨hk, hu⟩ => ?_)
  refine wb (A2.mk ?_ ?_) <;> intros
  · have h2 : u.length < cs.length := by omega
    have hg := List.getElem?_eq_getElem h2
    have hgk := good u.length cs[u.length].1 cs[u.length].2 hg
    generalize cs[u.length] = x at hg hgk
    obtain ⟨r, l⟩ := x
    have hr0 := hgk.r0
    have hr1 := hgk.r1
    dsimp only at hr0 hr1
    obtain ⟨r, rfl⟩ := Int.eq_ofNat_of_zero_le (Int.le_trans (by decide : (0 : Int) ≤ 2) hr0)
    iterate 2 (refine row_map (x := ((r : Int), l)) (by omega) (by simpa using hg) rfl ?_; refine wb ?_ <;> intros)
    have e1 : (u ++ [ts0 ((r : Int), l)]).length = u.length + 1 := by simp
    exact sr_mark ⟨u ++ [ts0 ((r : Int), l)], ⟨by omega, ⟨by rw [e1, List.take_add_one, ← hu.out, List.getElem?_map, hg]; rfl⟩⟩, by omega, vm [0, 1, 2, 188]⟩
  · have e1 : u.length = (cs.map ts0).length := by rw [List.length_map]; omega
    have hu := hu.out
    rw [e1, List.take_length] at hu
    subst hu
    exact wr hR [(3, none)]
end AM

/- The functions that Trace needs: the state of locks is copied. -/
namespace AM
open Go Go.Proofs Mk
set_option linter.unusedVariables false
set_option linter.unusedSimpArgs false
set_option maxRecDepth 20000
set_option maxHeartbeats 8000000
def us118 : Nat → List (Nat × Nat) := fun i => if i = 1 then [(1, 4), (1, 5), (1, 8), (4, 8), (5, 8), (1, 9), (1, 11), (4, 11), (5, 11), (8, 11), (9, 11)] else if i = 5 then [(1, 3), (1, 5), (1, 7), (1, 10), (3, 10), (5, 10), (7, 10), (1, 12), (3, 12), (5, 12), (7, 12), (1, 14), (3, 14), (5, 14), (7, 14), (1, 15), (3, 15), (5, 15), (7, 15)] else []
@[go_sem] def lsR (x : Int × List Nat) : List PV := [intP x.1, .sl (nL x.2)]
theorem rows_lsR {u : List (Int × List Nat)} (h : ∀ x ∈ u, i64 x.1 ∧ Asc 400 x.2) : rowsB lkC (u.map lsR) := by
  intro row hr
  obtain ⟨x, hx, rfl⟩ := List.mem_map.1 hr
  exact ⟨⟨_, (h x hx).1, rfl⟩, asc_ok (h x hx).2, trivial⟩
attribute [local go_sem] List.set_cons_zero List.set_cons_succ List.map_append List.length_append List.map_cons List.map_nil List.length_singleton
theorem copy8_ok (n : Nat) (tx : Int) (hn : n ≤ 4) : FnEq Tryz.prog 131 [rw_ (syR n tx)] (rw_ (syR n tx)) := by
  refine wf Tryz.func131 us118 (h := fun R hR => ?_)
  refine wb ?_ <;> intros
  refine sr_ghost 104 0 231 2 rfl rfl ?_
  refine wl (fun u : List (Int × List Nat) => [(1, .ptr 0 0), (2, .ptr 1 0), (3, .ptr 2 0), (4, .pv (intP u.length))]) (fun u => [some (.box ((syR n tx).map .pv)), some (.box [.emp, .pv (intP 0), .emp, .emp]), some (.box [.own 3 u.length, .pv (intP tx), .pv (.tr [.bool] 1), .pv (.tr thC n)]), some (.row 231 2 (u.map lsR))]) (fun u => u.length ≤ 3 ∧ ∀ x ∈ u, i64 x.1 ∧ Asc 400 x.2) (fun u => 3 - u.length) [] ⟨Nat.zero_le _, fun _ h => nomatch h⟩ (vm [0, 8, 104, 128]) (fun u ⟨hu, hx⟩ => ?_)
  refine wb (A2.mk ?_ ?_) <;> intros
  · refine ty_int fun h hh => ?_
    refine wb ?_ <;> intros
    refine ty_asc fun l hl => ?_
    have hl4 := hl.len
    refine wb ?_ <;> intros
    exact sr_mark ⟨u ++ [(h, l)], ⟨by rw [List.length_append]; simp only [List.length_singleton]; omega, fun m hm => by
      rcases List.mem_append.1 hm with hm | hm
      · exact hx m hm
      · rw [List.mem_singleton.1 hm]; exact ⟨hh, hl⟩⟩, by rw [List.length_append]; simp only [List.length_singleton]; omega, vm [0, 1, 2, 188]⟩
  · have hu2 : u.length = 3 := by omega
    exact wr hR [(3, some lkC)] (hf := by refine ws ?_; exact ⟨by simp, rows_lsR hx⟩) (hE := by refine ws ?_; rw [hu2]; exact ⟨rfl, rfl⟩)
end AM

/- The functions that Trace needs: the state of an execution is copied. -/
namespace AM
open Go Go.Proofs Mk
set_option linter.unusedVariables false
set_option linter.unusedSimpArgs false
set_option maxRecDepth 20000
set_option maxHeartbeats 8000000
@[go_sem] def xstA (n : Nat) (tx : Int) (q k : Nat) : List AV := [.pv (.tr lkC 3), .pv (intP tx), .pv (.tr [.bool] 1), .pv (.tr thC n), .pv (.tr [.int .i64] 5), .pv (.tr [.int .i64] 1), .own q k]
def us98 : Nat → List (Nat × Nat) := fun i => if i = 1 then [(1, 5), (2, 5), (1, 9), (2, 9), (5, 9), (6, 9), (1, 12), (2, 12), (5, 12), (6, 12), (9, 12), (10, 12)] else if i = 5 then [(1, 3), (1, 5), (1, 6), (1, 7)] else []
attribute [local go_sem] List.set_cons_zero List.set_cons_succ List.map_append List.length_append List.map_cons List.map_nil List.length_singleton
theorem copy9_ok (n : Nat) (hn : n ≤ 4) (tx : Int) (m m' : Nat) (hm : m ≤ m') (h4 : m' ≤ 400) (xs : List (Int × Nat × Nat × Int)) (hl : xs.length ≤ 4) (hx : ∀ x ∈ xs, x.2.1 ≤ 5 ∧ x.2.2.1 ≤ 5) : ACall Tryz.prog 100 [rw_ (xstR n tx m xs)] [] (fun v g => v = .agg (xstA n tx 0 xs.length) ∧ g = [some (.row 169 4 (xs.map (tsT m')))]) := by
  refine wz Tryz.func100 us98 (h := fun R hR => ?_)
  refine wb ?_ <;> intros
  refine wE (copy8_ok n tx hn) ?_
  refine wb ?_ <;> intros
  refine sr_ghost 112 6 169 4 rfl rfl ?_
  refine wl (fun u : List (Int × Nat × Nat × Int) => [(1, .ptr 0 0), (2, .ptr 1 0), (3, .ptr 2 0), (4, .pv (intP u.length))]) (fun u => [some (.box ((xstR n tx m xs).map .pv)), some (.box [.emp, .pv (intP 0), .emp, .emp, .emp, .emp, .emp]), some (.box (xstA n tx 3 u.length)), some (.row 169 4 (u.map (tsT m')))]) (fun u => u.length ≤ xs.length ∧ Hd (u = xs.take u.length)) (fun u => xs.length - u.length) [] ⟨Nat.zero_le _, ⟨rfl⟩⟩ (vm [0, 8, 112, 136]) (fun u ⟨hk, hu⟩ => ?_)
  refine wb (A2.mk ?_ ?_) <;> intros
  · have h2 : u.length < xs.length := by omega
    have hg := List.getElem?_eq_getElem h2
    have hq := hx _ (List.getElem_mem h2)
    generalize xs[u.length] = x at hg hq
    obtain ⟨pc, r, s, ev⟩ := x
    dsimp only at hq
    refine row_map (x := (pc, r, s, ev)) (by omega) (by simpa using hg) rfl ?_
    refine wb ?_ <;> intros
    refine wE (copy7_ok m m' hm h4 pc r s ev hq.1 hq.2) ?_
    refine wb ?_ <;> intros
    have e1 : (u ++ [(pc, r, s, ev)]).length = u.length + 1 := by simp
    exact sr_mark ⟨u ++ [(pc, r, s, ev)], ⟨by omega, ⟨by rw [e1, List.take_add_one, ← hu.out, hg]; rfl⟩⟩, by omega, vm [0, 1, 2, 116]⟩
  · have e1 : u.length = xs.length := by omega
    have hu := hu.out
    rw [e1, List.take_length] at hu
    subst hu
    refine wo hR (.agg (xstA n tx 0 u.length)) [some (.row 169 4 (u.map (tsT m')))] [3] [] ⟨rfl, rfl⟩
end AM
