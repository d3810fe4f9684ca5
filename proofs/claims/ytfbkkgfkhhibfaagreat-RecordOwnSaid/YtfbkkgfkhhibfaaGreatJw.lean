/- The functions that Trace needs: from everywhere an event is reached. -/
import Derived.Test.YtfbkkgfkhhibfaaGreatFzg
import Derived.Test.YtfbkkgfkhhibfaaGreatFjf
import Derived.Test.YtfbkkgfkhhibfaaGreatRrow
import Derived.Test.YtfbkkgfkhhibfaaGreatTrd
namespace AM
open Go Go.Proofs Mk
set_option linter.unusedVariables false
set_option linter.unusedSimpArgs false
set_option maxRecDepth 20000
set_option maxHeartbeats 8000000
theorem lands_ok (l : List In) (at0 : Int) (hl : l.length ≤ 500) (h0 : -10 ≤ at0 ∧ at0 ≤ 1000) (hj : ∀ i ∈ l, 1 ≤ i.op ∧ (i.op = 5 → 0 ≤ i.a ∧ i.a ≤ 1000)) (h : landsF l (l.length + 1) at0 = true) : FnEq Tryz.prog 96 [.pv (.sl (l.map In.r)), .pv (intP at0)] (.pv (boolP true)) := by
  refine wf Tryz.func96 (fun _ => []) (h := fun R hR => ?_)
  refine wb ?_ <;> intros
  refine wl (fun u : Nat × Int => [(0, .pv (.sl (l.map In.r))), (1, .pv (intP u.2)), (5, .pv (intP u.1))]) (fun _ => []) (fun u => u.1 ≤ l.length + 1 ∧ landsF l (l.length + 1 - u.1) u.2 = true ∧ -10 ≤ u.2 ∧ u.2 ≤ 1000) (fun u => l.length + 1 - u.1) (0, at0) ⟨Nat.zero_le _, h, h0⟩ (vm []) (fun ⟨k, t⟩ ⟨hk, hL, ht1, ht2⟩ => ?_)
  dsimp only at hk hL ht1 ht2
  obtain ⟨f, hf⟩ : ∃ f, l.length + 1 - k = f := ⟨_, rfl⟩
  rw [hf] at hL
  cases f with
  | zero => simp [landsF] at hL
  | succ f =>
    simp only [landsF] at hL
    split at hL
    · cases hL
    · rename_i hr
      have hlt : t.toNat < l.length := by omega
      rw [List.getElem?_eq_getElem hlt] at hL
      dsimp only at hL
      have hm := hj l[t.toNat] (List.getElem_mem hlt)
      have hg : (l.map In.r)[t.toNat]? = some (l[t.toNat]).r := by simp [hlt]
      generalize l[t.toNat] = i at hL hm hg
      obtain ⟨hm1, hm2⟩ := hm
      refine wb ?_ <;> intros
      all_goals try omega
      refine row_get (by omega) hg rfl ?_
      refine wb ?_ <;> intros
      refine wE (silent_ok i.op) ?_
      split at hL
      · rename_i hs
        refine wb (A2.mk ?_ ?_) <;> intros
        · rename_i hx
          simp only [Bool.and_eq_true, decide_eq_true_eq] at hx
          omega
        · exact wr hR
      · rename_i hs
        refine wb (A2.mk ?_ ?_) <;> intros
        rotate_left
        · rename_i hx
          exact absurd (Decidable.not_not.1 hs) (by rintro ⟨a, b⟩; rw [decide_eq_true a, decide_eq_true b] at hx; cases hx)
        refine row_get (by omega) hg rfl ?_
        refine wb (A2.mk ?_ ?_) <;> intros
        · refine row_get (by omega) hg rfl ?_
          refine wb ?_ <;> intros
          have h5 : i.op = 5 := by omega
          rw [if_pos h5] at hL
          exact sr_mark ⟨(k + 1, i.a), ⟨by omega, by rwa [show l.length + 1 - (k + 1) = f by omega], by have := hm2 h5; dsimp only; omega⟩, by dsimp only; omega, vm []⟩
        · have h5 : i.op ≠ 5 := by omega
          rw [if_neg h5] at hL
          exact sr_mark ⟨(k + 1, t + 1), ⟨by omega, by rwa [show l.length + 1 - (k + 1) = f by omega], by dsimp only; omega⟩, by dsimp only; omega, vm []⟩
end AM

/- The functions that Trace needs: the code of a thread is good. -/
namespace AM
open Go Go.Proofs Mk
set_option linter.unusedVariables false
set_option linter.unusedSimpArgs false
set_option maxRecDepth 20000
set_option maxHeartbeats 8000000
@[go_sem] def vtE (t : Nat) (l : List In) (k : Nat) : List (Nat × AV) := [(1, .pv (intP t)), (3, .ptr 0 0), (5, .ptr 1 0), (7, .pv (intP l.length)), (8, .pv (intP k))]
@[go_sem] def vtS (n : Nat) (ss : List (Nat × Nat)) (r : Int) (l : List In) : List (Option Obj) := [some (.box ((wldR n ss).map .pv)), some (.box [.pv (intP r), .pv (.sl (l.map In.r))])]
theorem validThread_ok (n : Nat) (ss : List (Nat × Nat)) (hss : ss.length ≤ 60) (t : Nat) (ht : t ≤ 4) (r : Int) (l : List In) (G : GoodC n ss t r l) : FnEq Tryz.prog 65 [rw_ (wldR n ss), .pv (intP t), rw_ [intP r, .sl (l.map In.r)]] (.pv (boolP true)) := by
  obtain ⟨r0, r1, pos, len, op, last, obj, lands, site, jmp, brn, regs⟩ := G
  refine wf Tryz.func65 (fun _ => [(2, 5), (3, 5)]) (h := fun R hR => ?_)
  refine wb ?_ <;> intros
  all_goals try omega
  have hj : ∀ i ∈ l, 1 ≤ i.op ∧ (i.op = 5 → 0 ≤ i.a ∧ i.a ≤ 1000) := by
    intro i hi
    obtain ⟨k, hk⟩ := List.mem_iff_getElem?.1 hi
    refine ⟨(op k i hk).1, fun h5 => ?_⟩
    obtain ⟨k', h1, h2⟩ := jmp k i hk h5
    omega
  refine wl (fun k : Nat => vtE t l k) (fun _ => vtS n ss r l) (fun k => k ≤ l.length) (fun k => l.length - k) 0 (Nat.zero_le _) (vm [0, 8]) (fun k hk => ?_)
  refine wb (A2.mk ?_ ?_) <;> intros
  · have h2 : k < l.length := by omega
    have hg := List.getElem?_eq_getElem h2
    generalize l[k] = i at hg
    have o1 := op k i hg
    have o2 := last k i hg
    have o3 := obj k i hg
    have o4 := lands k h2
    have o5 := site k i hg
    have o6 := jmp k i hg
    have o7 := brn k i hg
    have o8 := regs k i hg
    have hgm : (l.map In.r)[k]? = some i.r := by simp [hg]
    have hb : ((i.op == 28) == ((k : Int) == (l.length : Int) - 1)) = true := by
      rw [beq_iff_eq, Bool.eq_iff_iff, beq_iff_eq, beq_iff_eq]
      constructor
      · intro h
        have := o2.1 h
        omega
      · intro h
        exact o2.2 (by omega)
    have o9 : i.op = 28 → i.site = -1 := fun h => o5.elim (fun x => x.2) (fun x => absurd h x.1)
    refine row_get (by omega) hgm rfl ?_
    refine wb (A2.mk ?_ ?_) <;> intros
    all_goals try omega
    all_goals first | (exfalso; rename_i h; rw [hb] at h; cases h; done) | skip
    refine wE (objects_ok n ss i o1.1 o1.2 o3) ?_
    refine wb ?_ <;> intros
    refine wE (lands_ok l (k : Int) (by omega) (by omega) hj o4) ?_
    refine wb (A2.mk ?_ ?_) <;> intros
    all_goals try (exfalso; rename_i h1 h3; exact h3 (o9 h1))
    rotate_left
    · rcases o5 with ⟨h28, _⟩ | ⟨_, q, m, hq, hsq⟩
      · exact absurd h28 (by assumption)
      have hqb := (List.getElem?_eq_some_iff.1 hsq).1
      refine wE (in6_v i.site ss.length (by omega)) ?_
      refine wb ?_ <;> intros
      refine row_map (x := (t, m)) (by omega) (by rw [hq]; simpa using hsq) rfl ?_
      refine wb (A2.mk ?_ (A2.mk ?_ ?_)) <;> intros
      · obtain ⟨z, z1, z2⟩ := o6 (by assumption)
        refine wE (in6_v i.a l.length (by omega)) ?_
        refine wb ?_ <;> intros
        refine wE (registers_ok i) ?_
        have hrl := regsI_len i
        refine wb ?_ <;> intros
        refine wl (fun j : Nat => vtE t l k ++ [(10, .pv (.sl (inL (regsI i)))), (11, .pv (intP j))]) (fun _ => vtS n ss r l) (fun j => j ≤ (regsI i).length) (fun j => (regsI i).length - j) 0 (Nat.zero_le _) (vm [0, 1]) (fun j hj2 => ?_)
        refine wb (A2.mk ?_ ?_) <;> intros
        · have hj3 : j < (regsI i).length := by omega
          have hrj := o8 _ (List.getElem_mem hj3)
          refine row_map (x := (regsI i)[j]) (by omega) (by simp [hj3]) rfl ?_
          refine wb ?_ <;> intros
          refine wE (in6_v _ r hrj) ?_
          refine wb ?_ <;> intros
          exact sr_mark ⟨j + 1, hj3, by omega, vm [0, 1]⟩
        · refine wb ?_ <;> intros
          exact sr_mark ⟨k + 1, h2, by omega, vm [0, 1]⟩
      · obtain ⟨z, z1, z2⟩ := o7 (by assumption)
        refine wE (in6_v i.b l.length (by omega)) ?_
        refine wb ?_ <;> intros
        refine wE (registers_ok i) ?_
        have hrl := regsI_len i
        refine wb ?_ <;> intros
        refine wl (fun j : Nat => vtE t l k ++ [(10, .pv (.sl (inL (regsI i)))), (11, .pv (intP j))]) (fun _ => vtS n ss r l) (fun j => j ≤ (regsI i).length) (fun j => (regsI i).length - j) 0 (Nat.zero_le _) (vm [0, 1]) (fun j hj2 => ?_)
        refine wb (A2.mk ?_ ?_) <;> intros
        · have hj3 : j < (regsI i).length := by omega
          have hrj := o8 _ (List.getElem_mem hj3)
          refine row_map (x := (regsI i)[j]) (by omega) (by simp [hj3]) rfl ?_
          refine wb ?_ <;> intros
          refine wE (in6_v _ r hrj) ?_
          refine wb ?_ <;> intros
          exact sr_mark ⟨j + 1, hj3, by omega, vm [0, 1]⟩
        · refine wb ?_ <;> intros
          exact sr_mark ⟨k + 1, h2, by omega, vm [0, 1]⟩
      · refine wE (registers_ok i) ?_
        have hrl := regsI_len i
        refine wb ?_ <;> intros
        refine wl (fun j : Nat => vtE t l k ++ [(10, .pv (.sl (inL (regsI i)))), (11, .pv (intP j))]) (fun _ => vtS n ss r l) (fun j => j ≤ (regsI i).length) (fun j => (regsI i).length - j) 0 (Nat.zero_le _) (vm [0, 1]) (fun j hj2 => ?_)
        refine wb (A2.mk ?_ ?_) <;> intros
        · have hj3 : j < (regsI i).length := by omega
          have hrj := o8 _ (List.getElem_mem hj3)
          refine row_map (x := (regsI i)[j]) (by omega) (by simp [hj3]) rfl ?_
          refine wb ?_ <;> intros
          refine wE (in6_v _ r hrj) ?_
          refine wb ?_ <;> intros
          exact sr_mark ⟨j + 1, hj3, by omega, vm [0, 1]⟩
        · refine wb ?_ <;> intros
          exact sr_mark ⟨k + 1, h2, by omega, vm [0, 1]⟩
    · refine wE (registers_ok i) ?_
      have hrl := regsI_len i
      refine wb ?_ <;> intros
      refine wl (fun j : Nat => vtE t l k ++ [(10, .pv (.sl (inL (regsI i)))), (11, .pv (intP j))]) (fun _ => vtS n ss r l) (fun j => j ≤ (regsI i).length) (fun j => (regsI i).length - j) 0 (Nat.zero_le _) (vm [0, 1]) (fun j hj2 => ?_)
      refine wb (A2.mk ?_ ?_) <;> intros
      · have hj3 : j < (regsI i).length := by omega
        have hrj := o8 _ (List.getElem_mem hj3)
        refine row_map (x := (regsI i)[j]) (by omega) (by simp [hj3]) rfl ?_
        refine wb ?_ <;> intros
        refine wE (in6_v _ r hrj) ?_
        refine wb ?_ <;> intros
        exact sr_mark ⟨j + 1, hj3, by omega, vm [0, 1]⟩
      · refine wb ?_ <;> intros
        exact sr_mark ⟨k + 1, h2, by omega, vm [0, 1]⟩
  · obtain rfl : k = l.length := by omega
    exact wr hR
end AM

/- The functions that Trace needs: an execution goes on by choices. -/
namespace AM
open Go Go.Proofs Mk
set_option linter.unusedVariables false
set_option linter.unusedSimpArgs false
set_option maxRecDepth 20000
set_option maxHeartbeats 8000000
def EvL (n : Nat) (es : List EvA) : Prop := ∀ (j : Nat) e, es[j]? = some e → EvG n j e
theorem EvL.snoc {n : Nat} {es : List EvA} {e : EvA} (h : EvL n es) (he : EvG n es.length e) : EvL n (es ++ [e]) := by
  intro j x hx
  rcases Nat.lt_or_ge j es.length with hj | hj
  · rw [List.getElem?_append_left hj] at hx
    exact h j x hx
  · rw [List.getElem?_append_right hj] at hx
    obtain rfl : j = es.length := by
      have := (List.getElem?_eq_some_iff.1 hx).1
      simp at this
      omega
    simp at hx
    subst hx
    exact he
@[go_sem] def chR (c : Int × Int) : List PV := [intP c.1, intP c.2]
structure FrS (n K k : Nat) (tx : Int) (xs : List (Int × Nat × Nat × Int)) (es : List EvA) : Prop where
  tx : i64 tx
  xl : xs.length = n
  xk : ∀ x ∈ xs, TsK (es.length : Nat) x
  e4 : es.length ≤ 400
  ek : es.length ≤ k
  kK : k ≤ K
  ev : EvL n es
def FrQ (n K : Nat) (v : AV) : Prop := ∃ tx xs es, v = .tup [.pv (.sl (es.map EvA.r)), rw_ (xstR n tx es.length xs)] ∧ es.length ≤ K ∧ EvL n es
def us58 : Nat → List (Nat × Nat) := fun _ => [(0, 1), (0, 4), (1, 4), (0, 5), (1, 5), (0, 11), (1, 11), (4, 11), (5, 11), (6, 11), (0, 12), (1, 12), (4, 12), (5, 12), (6, 12), (11, 12)]
attribute [local go_sem] List.map_append List.length_append List.map_cons List.map_nil List.length_singleton
theorem from9_ok (n : Nat) (ss : List (Nat × Nat)) (cs : List (Int × List In)) (C : CdG n ss cs) (xs0 : List (Int × Nat × Nat × Int)) (hl : xs0.length = n) (hx : ∀ x ∈ xs0, TsK (0 : Nat) x) (ch : List (Int × Int)) (hch : ch.length ≤ 1000) : FnOk Tryz.prog 42 [rw_ (coR n ss cs), rw_ (xstR n (-1) 0 xs0), .emp, .pv (.sl (ch.map chR))] (FrQ n ch.length) := by
  refine wf Tryz.func42 us58 (h := fun R hR => ?_)
  refine wb ?_ <;> intros
  refine sr_ghostE 2 52 7 (by exact we) ?_
  have im : i64 (-1) := i64_iff.2 (by decide)
  refine wl (fun u : Nat × Int × List (Int × Nat × Nat × Int) × List EvA => [(2, .own 3 u.2.2.2.length), (3, .pv (.sl (ch.map chR))), (4, .ptr 0 0), (5, .ptr 1 0), (9, .ptr 2 0), (10, .pv (intP u.1))]) (fun u => [some (.box ((coR n ss cs).map .pv)), some (.box ((xstR n u.2.1 u.2.2.2.length u.2.2.1).map .pv)), some (.box [.emp, .pv (intP 0), .emp, .emp, .emp, .emp, .emp]), some (.row 52 7 (u.2.2.2.map EvA.r))]) (fun u => FrS n ch.length u.1 u.2.1 u.2.2.1 u.2.2.2) (fun u => ch.length - u.1) (0, -1, xs0, []) ⟨im, hl, hx, Nat.zero_le _, Nat.zero_le _, Nat.zero_le _, fun j e h => by simp at h⟩ (vm [0, 8, 24, 40]) (fun ⟨k, tx, xs, es⟩ hu => ?_)
  obtain ⟨htx, hxl, hxk, e4, ek, kK, hev⟩ := hu
  dsimp only at htx hxl hxk e4 ek kK hev
  refine wb (A2.mk ?_ (A2.mk ?_ ?_)) <;> intros
  · have h2 : k < ch.length := by omega
    refine row_map (x := ch[k]) (by omega) (by simp [h2]) rfl ?_
    refine wb ?_ <;> intros
    refine wG (step9_ok n ss cs C tx htx es.length (by omega) xs hxl hxk ch[k].1 ch[k].2) (.tup [rw_ xst0, rw_ (EvA.r xev0), .pv (boolP false)]) (.inr rfl) ?_
    rintro v (⟨tx', xs', e, rfl, t1, t2, t3, t4⟩ | rfl)
    · refine wb ?_ <;> intros
      have el : (es ++ [e]).length = es.length + 1 := by simp
      exact sr_mark ⟨(k + 1, tx', xs', es ++ [e]), ⟨t1, t2, by dsimp only; rw [el]; exact t3, by dsimp only; omega, by dsimp only; omega, h2, hev.snoc t4⟩, by dsimp only; omega, vm [0, 1, 2, 252]⟩
    · refine wb ?_ <;> intros
      exact sr_mark ⟨(k + 1, tx, xs, es), ⟨htx, hxl, hxk, e4, by dsimp only; omega, h2, hev⟩, by dsimp only; omega, vm [0, 1, 2, 3]⟩
  all_goals exact wt hR (.tup [.pv (.sl (es.map EvA.r)), rw_ (xstR n tx es.length xs)]) [(3, none)] ⟨_, _, _, rfl, by omega, hev⟩
end AM

/- The functions that Trace needs: the code is good. -/
namespace AM
open Go Go.Proofs Mk
set_option linter.unusedVariables false
set_option linter.unusedSimpArgs false
set_option maxRecDepth 20000
set_option maxHeartbeats 8000000
theorem valid_ok (bs : List (List Sm)) (h1 : 1 ≤ bs.length) (h4 : bs.length ≤ 4) (hz : progF bs = 0) : FnEq Tryz.prog 41 [rw_ (coR bs.length (sitesF 0 bs) (codeF bs.length 0 bs))] (.pv (boolP true)) := by
  obtain ⟨g1, g2, g3⟩ := good_prog hz
  have hcl := codeF_len bs.length bs 0
  generalize codeF bs.length 0 bs = cs at g3 hcl
  generalize sitesF 0 bs = ss at g1 g2 g3
  generalize bs.length = n at *
  refine wf Tryz.func41 (fun _ => [(1, 4), (1, 6), (1, 7)]) (h := fun R hR => ?_)
  refine wb ?_ <;> intros
  refine wE (validWorld_ok n ss h1 h4 g1 g2) ?_
  refine wb (A2.mk ?_ ?_) <;> intros
  all_goals try (rw [thNames_len] at *; omega)
  refine wl (fun k : Nat => [(1, .ptr 0 0), (3, .pv (intP k))]) (fun _ => [some (.box ((coR n ss cs).map .pv))]) (fun k => k ≤ cs.length) (fun k => cs.length - k) 0 (Nat.zero_le _) (vm [0]) (fun k hk => ?_)
  refine wb (A2.mk ?_ ?_) <;> intros
  · have h2 : k < cs.length := by omega
    have hg := List.getElem?_eq_getElem h2
    have hgk := g3 k cs[k].1 cs[k].2 hg
    generalize cs[k] = x at hg hgk
    obtain ⟨r, l⟩ := x
    refine row_map (x := (r, l)) (by omega) (by simpa using hg) rfl ?_
    refine wb ?_ <;> intros
    refine wE (validThread_ok n ss g1 k (by omega) r l hgk) ?_
    refine wb ?_ <;> intros
    exact sr_mark ⟨k + 1, h2, by omega, vm [0]⟩
  · exact wr hR
end AM

/- The functions that Trace needs: a whole execution, and Trace. -/
namespace AM
open Go Go.Proofs Mk
set_option linter.unusedVariables false
set_option linter.unusedSimpArgs false
set_option maxRecDepth 20000
set_option maxHeartbeats 8000000
@[go_sem] def trR (n : Nat) (ss : List (Nat × Nat)) (es : List EvA) : List PV := [.sl (ceL.map CeR.r), .sl (lkL.map lkR), .sl (cdL.map cdR), .sl (strR fuL), .sl (strR (thNames n)), .sl (ss.map siR), .sl (es.map EvA.r)]
def RunQ (n : Nat) (ss : List (Nat × Nat)) (K : Nat) (v : AV) : Prop := ∃ tx xs es, v = .tup [rw_ (trR n ss es), rw_ (xstR n tx es.length xs)] ∧ es.length ≤ K ∧ EvL n es
def us28 : Nat → List (Nat × Nat) := fun i => if i = 3 then [(0, 1), (0, 2), (0, 8), (1, 8), (2, 8), (4, 8)] else if i = 4 then [(1, 4), (4, 5)] else []
theorem run9_ok (n : Nat) (ss : List (Nat × Nat)) (cs : List (Int × List In)) (C : CdG n ss cs) (ch : List (Int × Int)) (hch : ch.length ≤ 1000) : FnOk Tryz.prog 23 [rw_ (coR n ss cs), .pv (.sl (ch.map chR))] (RunQ n ss ch.length) := by
  have hst := start9_ok n ss cs C
  have hfr := from9_ok n ss cs C (cs.map ts0) (by rw [List.length_map]; exact C.len) (fun x hx => by
    obtain ⟨p, hp, rfl⟩ := List.mem_map.1 hx
    obtain ⟨k, hk⟩ := List.mem_iff_getElem?.1 hp
    have G := C.good k p.1 p.2 hk
    have := G.r1
    exact ⟨i64_0, by show p.1.toNat ≤ 5; omega, by show p.1.toNat ≤ 5; omega, Int.le_refl _, Int.le_refl _⟩) ch hch
  have hw : FrQ n ch.length (.tup [.pv (.sl (([] : List EvA).map EvA.r)), rw_ (xstR n 0 0 [])]) := ⟨0, [], [], rfl, Nat.zero_le _, fun j e h => by simp at h⟩
  obtain ⟨n1, n4, s60, so, val, len, good, num⟩ := C
  refine wf Tryz.func23 us28 (h := fun R hR => ?_)
  refine wb ?_ <;> intros
  refine wE val ?_
  refine wb ?_ <;> intros
  refine wE hst ?_
  refine wb ?_ <;> intros
  refine wG hfr _ hw ?_
  rintro v ⟨tx, xs, es, rfl, h1, h2⟩
  refine wb ?_ <;> intros
  exact wt hR (.tup [rw_ (trR n ss es), rw_ (xstR n tx es.length xs)]) [] ⟨_, _, _, rfl, h1, h2⟩
theorem code_ok (xs : List UInt8) (hx : xs.length ≤ 1000) : FnOk Tryz.prog 24 [.pv (u8L xs)] (fun r => ∃ n ss cs, CdG n ss cs ∧ r = rw_ (coR n ss cs)) := by
  refine wf Tryz.func24 (fun _ => []) (h := fun R hR => ?_)
  refine wb ?_ <;> intros
  refine wF (program_ok xs hx) ?_
  rintro v ⟨bs, rfl, hp, hz⟩
  refine wb ?_ <;> intros
  refine wE (program6_ok bs hp hz) ?_
  refine wb ?_ <;> intros
  have hg := good_prog hz
  exact wt hR (rw_ (coR bs.length (sitesF 0 bs) (codeF bs.length 0 bs))) [] ⟨_, _, _, ⟨hp.n1, hp.n4, hg.1, hg.2.1, valid_ok bs hp.n1 hp.n4 hz, codeF_len _ _ _, hg.2.2, fun k r l h => num_codeF _ _ _ _ (List.mem_of_getElem? h)⟩, rfl⟩
attribute [local go_sem] List.map_append List.length_append List.map_cons List.map_nil List.length_singleton
theorem choices_ok (xs : List UInt8) (hx : xs.length ≤ 1000) : FnOk Tryz.prog 25 [.pv (u8L xs)] (fun r => ∃ ch : List (Int × Int), ch.length = xs.length ∧ r = .pv (.sl (ch.map chR))) := by
  refine wf Tryz.func25 (fun _ => [(3, 9), (4, 9), (3, 10), (4, 10)]) (h := fun R hR => ?_)
  refine wb ?_ <;> intros
  refine sr_ghostE 3 124 2 (by exact we) ?_
  refine wl (fun u : List (Int × Int) => [(0, .pv (u8L xs)), (3, .own 0 u.length), (4, .pv (intP u.length))]) (fun u => [some (.row 124 2 (u.map chR))]) (fun u => u.length ≤ xs.length) (fun u => xs.length - u.length) [] (Nat.zero_le _) (vm [24]) (fun u hu => ?_)
  refine wb (A2.mk ?_ ?_) <;> intros
  · have h2 : u.length < xs.length := by omega
    refine row_map (x := xs[u.length]) (by omega) (by simp [h2]) rfl ?_
    refine wb ?_ <;> intros
    refine row_map (x := xs[u.length]) (by omega) (by simp [h2]) rfl ?_
    refine wb ?_ <;> intros
    exact sr_mark ⟨u ++ [((IntKind.i64.wrap (xs[u.length].toNat : Int)).tmod 4, IntKind.i64.wrap ((IntKind.i64.wrap ((IntKind.i64.wrap (xs[u.length].toNat : Int)).tdiv 4)).tmod 5 - 1))], by rw [List.length_append]; simp only [List.length_singleton]; omega, by rw [List.length_append]; simp only [List.length_singleton]; omega, vm [169]⟩
  · have h2 : u.length = xs.length := by omega
    exact wt hR (.pv (.sl (u.map chR))) [(0, none)] ⟨_, h2, rfl⟩
def TrQ (K : Nat) (v : AV) : Prop := ∃ n ss es, v = rw_ (trR n ss es) ∧ 1 ≤ n ∧ n ≤ 4 ∧ ss.length ≤ 60 ∧ SiteOk n ss ∧ es.length ≤ K ∧ EvL n es
theorem trace_ok (xs ys : List UInt8) (hx : xs.length ≤ 1000) (hy : ys.length ≤ 1000) : FnOk Tryz.prog 9 [.pv (u8L xs), .pv (u8L ys)] (TrQ ys.length) := by
  refine wf Tryz.func9 (fun _ => []) (h := fun R hR => ?_)
  refine wb ?_ <;> intros
  refine wF (code_ok xs hx) ?_
  rintro v ⟨n, ss, cs, C, rfl⟩
  refine wb ?_ <;> intros
  refine wF (choices_ok ys hy) ?_
  rintro v ⟨ch, hch, rfl⟩
  refine wb ?_ <;> intros
  refine wF (run9_ok n ss cs C ch (by omega)) ?_
  rintro v ⟨tx, zs, es, rfl, h1, h2⟩
  refine wb ?_ <;> intros
  exact wt hR (rw_ (trR n ss es)) [] ⟨_, _, _, rfl, C.n1, C.n4, C.s60, C.so, by omega, h2⟩
end AM

/- What the abstract machine says of a call, in words of the memory. -/
namespace AM
open Go Go.Proofs Go.RowKit Mk Iv
set_option linter.unusedVariables false
set_option linter.unusedSimpArgs false
def EvA.ev (e : EvA) : Ev := ⟨e.thread, e.kind, e.obj, e.value, e.site, e.deps.map fun (n : Nat) => (n : Int), e.fr.map fun (n : Nat) => (n : Int)⟩
theorem evG_ok {n j : Nat} {e : EvA} (h : EvG n j e) : EvOk n j e.ev := by
  have i : ∀ {x : Int}, i64 x → inI64 x := fun hx => by have := i64_iff.1 hx; exact ⟨this.1, by omega⟩
  have d : ∀ {l : List Nat}, Asc j l → (((l.map fun (n : Nat) => (n : Int)).length : Int) ≤ j ∧ ∀ x ∈ l.map fun (n : Nat) => (n : Int), 0 ≤ x ∧ x < j) := fun hl => by
    refine ⟨by rw [List.length_map]; have := hl.len; omega, fun x hx => ?_⟩
    obtain ⟨q, hq, rfl⟩ := List.mem_map.1 hx
    have := hl.2 q hq
    omega
  exact ⟨h.th.1, h.th.2, h.kd.1, h.kd.2, i h.obj, i h.val, h.site.1, h.site.2, d h.dp, d h.frm⟩
def psiOf (w : World) (B : Nat) : Psi := ⟨fun b o => if b < B then w.cell? ⟨b, o, none⟩ else none, fun _ => none⟩
def frOf (w : World) (B : Nat) : Fr := ⟨w, fun b => b < w.heap.size, psiOf w B, fun _ => none, 0⟩
def FzIn (Ψ : Psi) (Bd : Nat) (w : World) : Prop := ∀ b o v, Ψ.fz b o = some v → b < Bd ∧ w.cell? ⟨b, o, none⟩ = some v
theorem Ok.fzIn {fr : Fr} {Ψ : Psi} {loc : Loc} {σ : Sto} {w : World} (h : Ok fr Ψ loc σ w) : FzIn Ψ w.heap.size w := fun b o v e => ⟨h.fz_lt e, h.fz b o v e⟩
theorem ok_of (w : World) (B : Nat) : Ok (frOf w B) (psiOf w B) (fun _ => none) (ofL []) w := by
  constructor
  · intro b o v h
    unfold psiOf at h
    dsimp only at h
    split at h
    · exact h
    · cases h
  · exact fun b cts m h => nomatch h
  · exact fun l o h => by simp [ofL] at h
  · exact fun l l' o o' b h => by simp [ofL] at h
  · exact fun l o b h => by simp [ofL] at h
  · exact fun b e h => nomatch h
  · exact fun b h => ⟨h, rfl⟩
  · exact Nat.le_refl _
  · exact ⟨rfl, rfl, rfl⟩
  · exact fun b _ q => rfl
  · exact Psi.le.refl _
  · exact fun l h => absurd h (Nat.not_lt_zero l)
theorem join {P : Program} {f : FuncId} {args : List AV} {post : AV → List (Option Obj) → Prop} (h : ACall P f args [] post) (w : World) (B : Nat) (vs : Array Value) (hr : RepsL (psiOf w B) (fun _ => none) args vs.toList) :
    Calls P f vs w fun e w' => ∃ r v g Ψ' loc', e = .returned r ∧ post v g ∧ RepA Ψ' loc' v r ∧ Ok (frOf w B) Ψ' loc' (ofL g) w' :=
  (h (frOf w B) (psiOf w B) (fun _ => none) w vs (ok_of w B) rfl (fun _ _ => rfl) hr).mono fun e w' ⟨r, v, g, Ψ', loc', h1, h2, _, _, h3, h4, _⟩ => ⟨r, v, g, Ψ', loc', h1, h2, h3, h4⟩
theorem ok_grown {w w' : World} {B : Nat} {Ψ : Psi} {loc : Loc} {σ : Sto} (h : Ok (frOf w B) Ψ loc σ w') : w.grownBy w' none := ⟨h.os.1, h.os.2.1, h.os.2.2, h.sz, fun k hk _ => (h.pr k hk).2⟩
theorem ok_apart {w w' W : World} {B g : Nat} {Ψ : Psi} {loc : Loc} {σ : Sto} (h : Ok (frOf w B) Ψ loc σ w') (hW : w'.grownBy W (some g)) (h1 : B ≤ g) (h2 : g < w.heap.size) : FzIn Ψ w'.heap.size W := fun b o v e => by
  have hlt := h.fz_lt e
  refine ⟨hlt, ?_⟩
  have hne : b ≠ g := fun e2 => by
    subst e2
    have h3 : Ψ.fz b o = (psiOf w B).fz b o := h.pz b h2 o
    rw [e] at h3
    unfold psiOf at h3
    dsimp only at h3
    rw [if_neg (by omega)] at h3
    cases h3
  rw [World.cell?_of_block (hW.block b hlt (fun e2 => hne (by simpa using e2)))]
  exact h.fz b o v e
theorem rep_bytes {w : World} {B n c : Nat} {A : Option Addr} {xs : Bytes} (h : Lies w B 1 A n (xs.map bv)) (hc : n ≤ c) (ho : A = none → c = 0) : Rep (psiOf w B) (u8L xs) (.slice A n c) := by
  have hl := h.1
  rw [List.length_map, Nat.mul_one] at hl
  subst hl
  rcases Nat.eq_zero_or_pos xs.length with h0 | h0
  · have := List.eq_nil_of_length_eq_zero h0
    subst this
    exact .nil ho
  · obtain ⟨⟨b, o, s⟩, rfl, hb, hcell⟩ := h.2 h0
    have hg : ∀ k (hk : k < xs.length), w.cell? ((⟨b, o, s⟩ : Addr).add k) = some (bv xs[k]) := fun k hk => hcell k _ (by rw [List.getElem?_map, List.getElem?_eq_getElem hk]; rfl)
    have hs : s = none := by
      have := hg 0 h0
      simp only [Addr.add, ↓reduceIte, World.cell?] at this
      cases s with
      | none => rfl
      | some q => split at this <;> simp at this
    subst hs
    refine .sl (k := 1) (fun i _ => bv (xs.getD i 0)) (by rw [List.length_map]) hc (fun row hr => by
      obtain ⟨x, _, rfl⟩ := List.mem_map.1 hr
      rfl) ?_ ?_
    · intro i j p hp
      simp only [cellOf, List.getElem?_map, Option.bind_map] at hp
      cases hx : xs[i]? with
      | none => simp [hx] at hp
      | some x =>
        simp only [hx, Option.bind_some, Function.comp] at hp
        obtain ⟨hi, rfl⟩ := List.getElem?_eq_some_iff.1 hx
        have hj : j = 0 := by cases j with
          | zero => rfl
          | succ j => simp at hp
        subst hj
        have := hg i hi
        show (if b < B then w.cell? ⟨b, o + (i * 1 + 0), none⟩ else none) = _
        rw [if_pos hb]
        rw [Nat.mul_one, Nat.add_zero, List.getD_eq_getElem?_getD, hx, Option.getD_some, ← this]
        congr 1
        unfold Addr.add
        split
        · simp_all
        · rfl
    · intro i j p hp
      simp only [cellOf, List.getElem?_map, Option.bind_map] at hp
      cases hx : xs[i]? with
      | none => simp [hx] at hp
      | some x =>
        simp only [hx, Option.bind_some, Function.comp] at hp
        cases j with
        | zero =>
          simp only [List.getElem?_cons_zero, Option.some.injEq] at hp
          subst hp
          rw [List.getD_eq_getElem?_getD, hx]
          exact .sc rfl
        | succ j => simp at hp
theorem lies_nums {Ψ : Psi} {Bd : Nat} {w : World} (hok : FzIn Ψ Bd w) {l : List Nat} {v : Value} (h : Rep Ψ (.sl (nL l)) v) : ∃ A c, v = .slice A l.length c ∧ Lies w Bd 1 A l.length ((l.map fun (n : Nat) => (n : Int)).map Iv.iv) := by
  generalize he : nL l = els at h
  cases h with
  | nil =>
    have : l = [] := List.map_eq_nil_iff.1 he
    subst this
    exact ⟨_, _, rfl, ⟨rfl, fun h => absurd h (Nat.lt_irrefl 0)⟩⟩
  | @sl _ b o c n k f hn hnc hk hf hr =>
    subst he
    rw [List.length_map] at hn
    subst hn
    refine ⟨_, _, rfl, by simp, fun h0 => ?_⟩
    have hk1 : k = 1 := (hk _ (List.mem_map_of_mem (List.getElem_mem h0))).symm
    subst hk1
    have hc : ∀ i (hi : i < l.length), b < Bd ∧ w.cell? ⟨b, o + i, none⟩ = some (Iv.iv (l[i] : Nat)) := fun i hi => by
      have h1 : cellOf (nL l) i 0 = some (intP (l[i] : Nat)) := by simp [cellOf, hi, nP]
      obtain ⟨h0, h2⟩ := hok _ _ _ (hf i 0 _ h1)
      rw [Nat.mul_one, Nat.add_zero] at h2
      refine ⟨h0, ?_⟩
      rw [h2, (rep_sc (loc := fun _ => none) (.pv (hr i 0 _ h1))).1]
      rfl
    refine ⟨⟨b, o, none⟩, rfl, (hc 0 h0).1, fun j u hu => ?_⟩
    rw [List.getElem?_map, List.getElem?_map] at hu
    cases hx : l[j]? with
    | none => rw [hx] at hu; simp at hu
    | some x =>
      obtain ⟨hj, rfl⟩ := List.getElem?_eq_some_iff.1 hx
      rw [hx] at hu
      simp only [Option.map_some, Option.some.injEq] at hu
      subst hu
      have := (hc j hj).2
      rw [← this]
      congr 1
      unfold Addr.add
      split
      · simp_all
      · rfl
end AM

/- Rows of scalars that the abstract machine gave, in words of the memory. -/
namespace AM
open Go Go.Proofs Go.RowKit Iv
set_option linter.unusedVariables false
set_option linter.unusedSimpArgs false
def pvV : PV → Value
  | .sc v => v
  | _ => undef
def vals (els : List (List PV)) : List Value := els.flatMap (·.map pvV)
theorem vals_get {k : Nat} : ∀ {els : List (List PV)}, (∀ r ∈ els, r.length = k) → ∀ {j : Nat} {u : Value}, (vals els)[j]? = some u → ∃ i q r p, els[i]? = some r ∧ r[q]? = some p ∧ j = i * k + q ∧ u = pvV p
  | [], _, j, u, h => by simp [vals] at h
  | r :: t, hk, j, u, h => by
    have hr : r.length = k := hk r (by simp)
    have e : vals (r :: t) = r.map pvV ++ vals t := by simp [vals]
    rw [e] at h
    by_cases hj : j < k
    · rw [List.getElem?_append_left (by simpa [hr] using hj), List.getElem?_map] at h
      cases hp : r[j]? with
      | none => rw [hp] at h; simp at h
      | some p =>
        rw [hp] at h
        simp only [Option.map_some, Option.some.injEq] at h
        exact ⟨0, j, r, p, by simp, hp, by simp, h.symm⟩
    · rw [List.getElem?_append_right (by simp [hr]; omega)] at h
      obtain ⟨i, q, r', p, h1, h2, h3, h4⟩ := vals_get (fun r hr => hk r (by simp [hr])) h
      refine ⟨i + 1, q, r', p, by simpa using h1, h2, ?_, h4⟩
      rw [List.length_map, hr] at h3
      rw [Nat.add_mul]
      omega
theorem vals_len {k : Nat} : ∀ {els : List (List PV)}, (∀ r ∈ els, r.length = k) → (vals els).length = els.length * k
  | [], _ => by simp [vals]
  | r :: t, hk => by
    have e : vals (r :: t) = r.map pvV ++ vals t := by simp [vals]
    rw [e, List.length_append, List.length_map, hk r (by simp), vals_len (fun r hr => hk r (by simp [hr])), List.length_cons, Nat.add_mul]
    omega
theorem lies_rows {Ψ : Psi} {Bd : Nat} {w : World} (hok : FzIn Ψ Bd w) {els : List (List PV)} {v : Value} {k : Nat} (hk : ∀ r ∈ els, r.length = k) (hk0 : 0 < k) (hsc : ∀ r ∈ els, ∀ p ∈ r, ∃ x, p = .sc x) (h : Rep Ψ (.sl els) v) :
    ∃ A c, v = .slice A els.length c ∧ Lies w Bd k A els.length (vals els) ∧ (0 < els.length → els.length ≤ c ∧ ∃ b o, A = some ⟨b, o, none⟩) ∧ (A = none → c = 0) := by
  cases h with
  | nil hA => exact ⟨_, _, rfl, ⟨by simp [vals], fun h => absurd h (Nat.lt_irrefl 0)⟩, fun h => absurd h (Nat.lt_irrefl 0), hA⟩
  | @sl _ b o c n k' f hn hnc hk' hf hr =>
    subst hn
    refine ⟨_, _, rfl, ⟨vals_len hk, fun h0 => ?_⟩, fun _ => ⟨hnc, b, o, rfl⟩, fun h => nomatch h⟩
    have hkk : k' = k := by
      have h1 := hk' _ (List.getElem_mem h0)
      rw [hk _ (List.getElem_mem h0)] at h1
      exact h1.symm
    subst hkk
    have hc : ∀ i q r p, els[i]? = some r → r[q]? = some p → b < Bd ∧ w.cell? ⟨b, o + (i * k' + q), none⟩ = some (pvV p) := fun i q r p h1 h2 => by
      have h3 : cellOf els i q = some p := by simp only [cellOf, h1, Option.bind_some]; exact h2
      obtain ⟨h4, h5⟩ := hok _ _ _ (hf i q _ h3)
      refine ⟨h4, ?_⟩
      rw [h5]
      obtain ⟨x, rfl⟩ := hsc r (List.mem_of_getElem? h1) p (List.mem_of_getElem? h2)
      rw [(rep_sc (loc := fun _ => none) (.pv (hr i q _ h3))).1]
      rfl
    have hlt : b < Bd := by
      have hl : (els[0]).length = k' := hk _ (List.getElem_mem h0)
      exact (hc 0 0 els[0] (els[0])[0] (List.getElem?_eq_getElem h0) (List.getElem?_eq_getElem (by omega))).1
    refine ⟨⟨b, o, none⟩, rfl, hlt, fun j u hu => ?_⟩
    obtain ⟨i, q, r, p, h1, h2, rfl, rfl⟩ := vals_get hk hu
    have := (hc i q r p h1 h2).2
    rw [← this]
    congr 1
    unfold Addr.add
    split
    · simp_all
    · rfl
theorem vals_at {k : Nat} : ∀ {els : List (List PV)} {i j : Nat} {r : List PV} {p : PV}, (∀ r ∈ els, r.length = k) → els[i]? = some r → r[j]? = some p → (vals els)[i * k + j]? = some (pvV p)
  | [], i, j, r, p, _, h, _ => by simp at h
  | r0 :: t, i, j, r, p, hk, h1, h2 => by
    have e : vals (r0 :: t) = r0.map pvV ++ vals t := by simp [vals]
    have hr : r0.length = k := hk r0 (by simp)
    rw [e]
    cases i with
    | zero =>
      simp only [List.getElem?_cons_zero, Option.some.injEq] at h1
      subst h1
      have hj := (List.getElem?_eq_some_iff.1 h2).1
      rw [Nat.zero_mul, Nat.zero_add, List.getElem?_append_left (by simpa using hj), List.getElem?_map, h2]
      rfl
    | succ i =>
      rw [List.getElem?_append_right (by rw [List.length_map, hr, Nat.add_mul]; omega), List.length_map, hr, show (i + 1) * k + j - k = i * k + j by rw [Nat.add_mul]; omega]
      exact vals_at (fun r hr => hk r (by simp [hr])) (by simpa using h1) h2
theorem in1_rows {Ψ : Psi} {Bd : Nat} {w : World} (hok : FzIn Ψ Bd w) {els : List (List PV)} {v : Value} {k bytes : Nat} (hk : ∀ r ∈ els, r.length = k) (hk0 : 0 < k) (hsc : ∀ r ∈ els, ∀ p ∈ r, ∃ x : Value, p = .sc x ∧ x.oneCell' = true) (hn : els.length ≤ 1000) (hb : bytes ≤ 48) (h : Rep Ψ (.sl els) v) :
    ∃ A c, v = .slice A els.length c ∧ Go.Proofs.YtfbkkgfkhhibfaaGreat.In1 w Bd k bytes A els.length c (vals els) ∧ (0 < els.length → ∃ b o, A = some ⟨b, o, none⟩) := by
  obtain ⟨A, c, hv, hl, ha, h0⟩ := lies_rows hok hk hk0 (fun r hr p hp => by obtain ⟨x, hx, _⟩ := hsc r hr p hp; exact ⟨x, hx⟩) h
  refine ⟨A, c, hv, ⟨hl, h0, fun u hu => ?_, ?_, ?_⟩, fun h => (ha h).2⟩
  · unfold vals at hu
    obtain ⟨r, hr, hu⟩ := List.mem_flatMap.1 hu
    obtain ⟨p, hp, rfl⟩ := List.mem_map.1 hu
    obtain ⟨x, rfl, hx⟩ := hsc r hr p hp
    exact hx
  · unfold maxLen; omega
  · have : els.length * bytes ≤ 1000 * 48 := Nat.mul_le_mul hn hb
    omega
end AM
