/- The functions that Trace needs: from everywhere an event is reached. -/
import Derived.Test.YtaiaoiochbpmfaaGreatFzg
import Derived.Test.YtaiaoiochbpmfaaGreatFjf
import Derived.Test.YtaiaoiochbpmfaaGreatAllow
namespace AM
open Go Go.Proofs Mk
set_option linter.unusedVariables false
set_option linter.unusedSimpArgs false
set_option maxRecDepth 20000
set_option maxHeartbeats 8000000
theorem lands_ok (l : List In) (at0 : Int) (hl : l.length ≤ 500) (h0 : -10 ≤ at0 ∧ at0 ≤ 1000) (hj : ∀ i ∈ l, 1 ≤ i.op ∧ (i.op = 5 → 0 ≤ i.a ∧ i.a ≤ 1000)) (h : landsF l (l.length + 1) at0 = true) : FnEq Tryz.prog 94 [.pv (.sl (l.map In.r)), .pv (intP at0)] (.pv (boolP true)) := by
  refine wf Tryz.func94 (fun _ => []) (h := fun R hR => ?_)
  refine wb ?_ <;> intros
  refine wl (fun u : Nat × Int => [(0, .pv (.sl (l.map In.r))), (1, .pv (intP u.2)), (5, .pv (intP u.1))]) (fun _ => []) (fun u => u.1 ≤ l.length + 1 ∧ landsF l (l.length + 1 - u.1) u.2 = true ∧ -10 ≤ u.2 ∧ u.2 ≤ 1000) (fun u => l.length + 1 - u.1) (0, at0) ⟨Nat.zero_le _, h, h0⟩ (vm []) (fun ⟨k, t⟩ ⟨hk, hL, ht1, ht2⟩ => ?_)
  dsimp only at hk hL ht1 ht2
  obtain ⟨f, hf⟩ : ∃ f, l.length + 1 - k = f := ⟨_, rfl⟩
  rw [hf] at hL
  cases f with
  | zero => simp [landsF] at hL
  | succ f =>
    simp only [landsF] at hL
    split at hL
    · cases hL
    · rename_i hr
      have hlt : t.toNat < l.length := by omega
      rw [List.getElem?_eq_getElem hlt] at hL
      dsimp only at hL
      have hm := hj l[t.toNat] (List.getElem_mem hlt)
      have hg : (l.map In.r)[t.toNat]? = some (l[t.toNat]).r := by simp [hlt]
      generalize l[t.toNat] = i at hL hm hg
      obtain ⟨hm1, hm2⟩ := hm
      refine wb ?_ <;> intros
      all_goals try omega
      refine row_get (by omega) hg rfl ?_
      refine wb ?_ <;> intros
      refine wE (silent_ok i.op) ?_
      split at hL
      · rename_i hs
        refine wb (A2.mk ?_ ?_) <;> intros
        · rename_i hx
          simp only [Bool.and_eq_true, decide_eq_true_eq] at hx
          omega
        · exact wr hR
      · rename_i hs
        refine wb (A2.mk ?_ ?_) <;> intros
        rotate_left
        · rename_i hx
          exact absurd (Decidable.not_not.1 hs) (by rintro ⟨a, b⟩; rw [decide_eq_true a, decide_eq_true b] at hx; cases hx)
        refine row_get (by omega) hg rfl ?_
        refine wb (A2.mk ?_ ?_) <;> intros
        · refine row_get (by omega) hg rfl ?_
          refine wb ?_ <;> intros
          have h5 : i.op = 5 := by omega
          rw [if_pos h5] at hL
          exact sr_mark ⟨(k + 1, i.a), ⟨by omega, by rwa [show l.length + 1 - (k + 1) = f by omega], by have := hm2 h5; dsimp only; omega⟩, by dsimp only; omega, vm []⟩
        · have h5 : i.op ≠ 5 := by omega
          rw [if_neg h5] at hL
          exact sr_mark ⟨(k + 1, t + 1), ⟨by omega, by rwa [show l.length + 1 - (k + 1) = f by omega], by dsimp only; omega⟩, by dsimp only; omega, vm []⟩
end AM

/- The functions that Trace needs: the code of a thread is good. -/
namespace AM
open Go Go.Proofs Mk
set_option linter.unusedVariables false
set_option linter.unusedSimpArgs false
set_option maxRecDepth 20000
set_option maxHeartbeats 8000000
@[go_sem] def vtE (t : Nat) (l : List In) (k : Nat) : List (Nat × AV) := [(1, .pv (intP t)), (3, .ptr 0 0), (5, .ptr 1 0), (7, .pv (intP l.length)), (8, .pv (intP k))]
@[go_sem] def vtS (n : Nat) (ss : List (Nat × Nat)) (r : Int) (l : List In) : List (Option Obj) := [some (.box ((wldR n ss).map .pv)), some (.box [.pv (intP r), .pv (.sl (l.map In.r))])]
theorem validThread_ok (n : Nat) (ss : List (Nat × Nat)) (hss : ss.length ≤ 60) (t : Nat) (ht : t ≤ 4) (r : Int) (l : List In) (G : GoodC n ss t r l) : FnEq Tryz.prog 73 [rw_ (wldR n ss), .pv (intP t), rw_ [intP r, .sl (l.map In.r)]] (.pv (boolP true)) := by
  obtain ⟨r0, r1, pos, len, op, last, obj, lands, site, jmp, brn, regs⟩ := G
  refine wf Tryz.func73 (fun _ => [(2, 5), (3, 5)]) (h := fun R hR => ?_)
  refine wb ?_ <;> intros
  all_goals try omega
  have hj : ∀ i ∈ l, 1 ≤ i.op ∧ (i.op = 5 → 0 ≤ i.a ∧ i.a ≤ 1000) := by
    intro i hi
    obtain ⟨k, hk⟩ := List.mem_iff_getElem?.1 hi
    refine ⟨(op k i hk).1, fun h5 => ?_⟩
    obtain ⟨k', h1, h2⟩ := jmp k i hk h5
    omega
  refine wl (fun k : Nat => vtE t l k) (fun _ => vtS n ss r l) (fun k => k ≤ l.length) (fun k => l.length - k) 0 (Nat.zero_le _) (vm [0, 8]) (fun k hk => ?_)
  refine wb (A2.mk ?_ ?_) <;> intros
  · have h2 : k < l.length := by omega
    have hg := List.getElem?_eq_getElem h2
    generalize l[k] = i at hg
    have o1 := op k i hg
    have o2 := last k i hg
    have o3 := obj k i hg
    have o4 := lands k h2
    have o5 := site k i hg
    have o6 := jmp k i hg
    have o7 := brn k i hg
    have o8 := regs k i hg
    have hgm : (l.map In.r)[k]? = some i.r := by simp [hg]
    have hb : ((i.op == 28) == ((k : Int) == (l.length : Int) - 1)) = true := by
      rw [beq_iff_eq, Bool.eq_iff_iff, beq_iff_eq, beq_iff_eq]
      constructor
      · intro h
        have := o2.1 h
        omega
      · intro h
        exact o2.2 (by omega)
    have o9 : i.op = 28 → i.site = -1 := fun h => o5.elim (fun x => x.2) (fun x => absurd h x.1)
    refine row_get (by omega) hgm rfl ?_
    refine wb (A2.mk ?_ ?_) <;> intros
    all_goals try omega
    all_goals first | (exfalso; rename_i h; rw [hb] at h; cases h; done) | skip
    refine wE (objects_ok n ss i o1.1 o1.2 o3) ?_
    refine wb ?_ <;> intros
    refine wE (lands_ok l (k : Int) (by omega) (by omega) hj o4) ?_
    refine wb (A2.mk ?_ ?_) <;> intros
    all_goals try (exfalso; rename_i h1 h3; exact h3 (o9 h1))
    rotate_left
    · rcases o5 with ⟨h28, _⟩ | ⟨_, q, m, hq, hsq⟩
      · exact absurd h28 (by assumption)
      have hqb := (List.getElem?_eq_some_iff.1 hsq).1
      refine wE (in6_v i.site ss.length (by omega)) ?_
      refine wb ?_ <;> intros
      refine row_map (x := (t, m)) (by omega) (by rw [hq]; simpa using hsq) rfl ?_
      refine wb (A2.mk ?_ (A2.mk ?_ ?_)) <;> intros
      · obtain ⟨z, z1, z2⟩ := o6 (by assumption)
        refine wE (in6_v i.a l.length (by omega)) ?_
        refine wb ?_ <;> intros
        refine wE (registers_ok i) ?_
        have hrl := regsI_len i
        refine wb ?_ <;> intros
        refine wl (fun j : Nat => vtE t l k ++ [(10, .pv (.sl (inL (regsI i)))), (11, .pv (intP j))]) (fun _ => vtS n ss r l) (fun j => j ≤ (regsI i).length) (fun j => (regsI i).length - j) 0 (Nat.zero_le _) (vm [0, 1]) (fun j hj2 => ?_)
        refine wb (A2.mk ?_ ?_) <;> intros
        · have hj3 : j < (regsI i).length := by omega
          have hrj := o8 _ (List.getElem_mem hj3)
          refine row_map (x := (regsI i)[j]) (by omega) (by simp [hj3]) rfl ?_
          refine wb ?_ <;> intros
          refine wE (in6_v _ r hrj) ?_
          refine wb ?_ <;> intros
          exact sr_mark ⟨j + 1, hj3, by omega, vm [0, 1]⟩
        · refine wb ?_ <;> intros
          exact sr_mark ⟨k + 1, h2, by omega, vm [0, 1]⟩
      · obtain ⟨z, z1, z2⟩ := o7 (by assumption)
        refine wE (in6_v i.b l.length (by omega)) ?_
        refine wb ?_ <;> intros
        refine wE (registers_ok i) ?_
        have hrl := regsI_len i
        refine wb ?_ <;> intros
        refine wl (fun j : Nat => vtE t l k ++ [(10, .pv (.sl (inL (regsI i)))), (11, .pv (intP j))]) (fun _ => vtS n ss r l) (fun j => j ≤ (regsI i).length) (fun j => (regsI i).length - j) 0 (Nat.zero_le _) (vm [0, 1]) (fun j hj2 => ?_)
        refine wb (A2.mk ?_ ?_) <;> intros
        · have hj3 : j < (regsI i).length := by omega
          have hrj := o8 _ (List.getElem_mem hj3)
          refine row_map (x := (regsI i)[j]) (by omega) (by simp [hj3]) rfl ?_
          refine wb ?_ <;> intros
          refine wE (in6_v _ r hrj) ?_
          refine wb ?_ <;> intros
          exact sr_mark ⟨j + 1, hj3, by omega, vm [0, 1]⟩
        · refine wb ?_ <;> intros
          exact sr_mark ⟨k + 1, h2, by omega, vm [0, 1]⟩
      · refine wE (registers_ok i) ?_
        have hrl := regsI_len i
        refine wb ?_ <;> intros
        refine wl (fun j : Nat => vtE t l k ++ [(10, .pv (.sl (inL (regsI i)))), (11, .pv (intP j))]) (fun _ => vtS n ss r l) (fun j => j ≤ (regsI i).length) (fun j => (regsI i).length - j) 0 (Nat.zero_le _) (vm [0, 1]) (fun j hj2 => ?_)
        refine wb (A2.mk ?_ ?_) <;> intros
        · have hj3 : j < (regsI i).length := by omega
          have hrj := o8 _ (List.getElem_mem hj3)
          refine row_map (x := (regsI i)[j]) (by omega) (by simp [hj3]) rfl ?_
          refine wb ?_ <;> intros
          refine wE (in6_v _ r hrj) ?_
          refine wb ?_ <;> intros
          exact sr_mark ⟨j + 1, hj3, by omega, vm [0, 1]⟩
        · refine wb ?_ <;> intros
          exact sr_mark ⟨k + 1, h2, by omega, vm [0, 1]⟩
    · refine wE (registers_ok i) ?_
      have hrl := regsI_len i
      refine wb ?_ <;> intros
      refine wl (fun j : Nat => vtE t l k ++ [(10, .pv (.sl (inL (regsI i)))), (11, .pv (intP j))]) (fun _ => vtS n ss r l) (fun j => j ≤ (regsI i).length) (fun j => (regsI i).length - j) 0 (Nat.zero_le _) (vm [0, 1]) (fun j hj2 => ?_)
      refine wb (A2.mk ?_ ?_) <;> intros
      · have hj3 : j < (regsI i).length := by omega
        have hrj := o8 _ (List.getElem_mem hj3)
        refine row_map (x := (regsI i)[j]) (by omega) (by simp [hj3]) rfl ?_
        refine wb ?_ <;> intros
        refine wE (in6_v _ r hrj) ?_
        refine wb ?_ <;> intros
        exact sr_mark ⟨j + 1, hj3, by omega, vm [0, 1]⟩
      · refine wb ?_ <;> intros
        exact sr_mark ⟨k + 1, h2, by omega, vm [0, 1]⟩
  · obtain rfl : k = l.length := by omega
    exact wr hR
end AM

/- The functions that Trace needs: an execution goes on by choices. -/
namespace AM
open Go Go.Proofs Mk
set_option linter.unusedVariables false
set_option linter.unusedSimpArgs false
set_option maxRecDepth 20000
set_option maxHeartbeats 8000000
def EvL (n : Nat) (es : List EvA) : Prop := ∀ (j : Nat) e, es[j]? = some e → EvG n j e
theorem EvL.snoc {n : Nat} {es : List EvA} {e : EvA} (h : EvL n es) (he : EvG n es.length e) : EvL n (es ++ [e]) := by
  intro j x hx
  rcases Nat.lt_or_ge j es.length with hj | hj
  · rw [List.getElem?_append_left hj] at hx
    exact h j x hx
  · rw [List.getElem?_append_right hj] at hx
    obtain rfl : j = es.length := by
      have := (List.getElem?_eq_some_iff.1 hx).1
      simp at this
      omega
    simp at hx
    subst hx
    exact he
@[go_sem] def chR (c : Int × Int) : List PV := [intP c.1, intP c.2]
structure FrS (n K k : Nat) (tx : Int) (xs : List (Int × Nat × Nat × Int)) (es : List EvA) : Prop where
  tx : i64 tx
  xl : xs.length = n
  xk : ∀ x ∈ xs, TsK (es.length : Nat) x
  e4 : es.length ≤ 400
  ek : es.length ≤ k
  kK : k ≤ K
  ev : EvL n es
def FrQ (n K : Nat) (v : AV) : Prop := ∃ tx xs es, v = .tup [.pv (.sl (es.map EvA.r)), rw_ (xstR n tx es.length xs)] ∧ es.length ≤ K ∧ EvL n es
def us58 : Nat → List (Nat × Nat) := fun _ => [(0, 1), (0, 4), (1, 4), (0, 5), (1, 5), (0, 11), (1, 11), (4, 11), (5, 11), (6, 11), (0, 12), (1, 12), (4, 12), (5, 12), (6, 12), (11, 12)]
attribute [local go_sem] List.map_append List.length_append List.map_cons List.map_nil List.length_singleton
theorem from9_ok (n : Nat) (ss : List (Nat × Nat)) (cs : List (Int × List In)) (C : CdG n ss cs) (xs0 : List (Int × Nat × Nat × Int)) (hl : xs0.length = n) (hx : ∀ x ∈ xs0, TsK (0 : Nat) x) (ch : List (Int × Int)) (hch : ch.length ≤ 1000) : FnOk Tryz.prog 58 [rw_ (coR n ss cs), rw_ (xstR n (-1) 0 xs0), .emp, .pv (.sl (ch.map chR))] (FrQ n ch.length) := by
  refine wf Tryz.func58 us58 (h := fun R hR => ?_)
  refine wb ?_ <;> intros
  refine sr_ghostE 2 69 7 (by exact we) ?_
  have im : i64 (-1) := i64_iff.2 (by decide)
  refine wl (fun u : Nat × Int × List (Int × Nat × Nat × Int) × List EvA => [(2, .own 3 u.2.2.2.length), (3, .pv (.sl (ch.map chR))), (4, .ptr 0 0), (5, .ptr 1 0), (9, .ptr 2 0), (10, .pv (intP u.1))]) (fun u => [some (.box ((coR n ss cs).map .pv)), some (.box ((xstR n u.2.1 u.2.2.2.length u.2.2.1).map .pv)), some (.box [.emp, .pv (intP 0), .emp, .emp, .emp, .emp, .emp]), some (.row 69 7 (u.2.2.2.map EvA.r))]) (fun u => FrS n ch.length u.1 u.2.1 u.2.2.1 u.2.2.2) (fun u => ch.length - u.1) (0, -1, xs0, []) ⟨im, hl, hx, Nat.zero_le _, Nat.zero_le _, Nat.zero_le _, fun j e h => by simp at h⟩ (vm [0, 8, 24, 40]) (fun ⟨k, tx, xs, es⟩ hu => ?_)
  obtain ⟨htx, hxl, hxk, e4, ek, kK, hev⟩ := hu
  dsimp only at htx hxl hxk e4 ek kK hev
  refine wb (A2.mk ?_ (A2.mk ?_ ?_)) <;> intros
  · have h2 : k < ch.length := by omega
    refine row_map (x := ch[k]) (by omega) (by simp [h2]) rfl ?_
    refine wb ?_ <;> intros
    refine wG (step9_ok n ss cs C tx htx es.length (by omega) xs hxl hxk ch[k].1 ch[k].2) (.tup [rw_ xst0, rw_ (EvA.r xev0), .pv (boolP false)]) (.inr rfl) ?_
    rintro v (⟨tx', xs', e, rfl, t1, t2, t3, t4⟩ | rfl)
    · refine wb ?_ <;> intros
      have el : (es ++ [e]).length = es.length + 1 := by simp
      exact sr_mark ⟨(k + 1, tx', xs', es ++ [e]), ⟨t1, t2, by dsimp only; rw [el]; exact t3, by dsimp only; omega, by dsimp only; omega, h2, hev.snoc t4⟩, by dsimp only; omega, vm [0, 1, 2, 252]⟩
    · refine wb ?_ <;> intros
      exact sr_mark ⟨(k + 1, tx, xs, es), ⟨htx, hxl, hxk, e4, by dsimp only; omega, h2, hev⟩, by dsimp only; omega, vm [0, 1, 2, 3]⟩
  all_goals exact wt hR (.tup [.pv (.sl (es.map EvA.r)), rw_ (xstR n tx es.length xs)]) [(3, none)] ⟨_, _, _, rfl, by omega, hev⟩
end AM

/- The functions that Trace needs: the code is good. -/
namespace AM
open Go Go.Proofs Mk
set_option linter.unusedVariables false
set_option linter.unusedSimpArgs false
set_option maxRecDepth 20000
set_option maxHeartbeats 8000000
theorem valid_ok (bs : List (List Sm)) (h1 : 1 ≤ bs.length) (h4 : bs.length ≤ 4) (hz : progF bs = 0) : FnEq Tryz.prog 57 [rw_ (coR bs.length (sitesF 0 bs) (codeF bs.length 0 bs))] (.pv (boolP true)) := by
  obtain ⟨g1, g2, g3⟩ := good_prog hz
  have hcl := codeF_len bs.length bs 0
  generalize codeF bs.length 0 bs = cs at g3 hcl
  generalize sitesF 0 bs = ss at g1 g2 g3
  generalize bs.length = n at *
  refine wf Tryz.func57 (fun _ => [(1, 4), (1, 6), (1, 7)]) (h := fun R hR => ?_)
  refine wb ?_ <;> intros
  refine wE (validWorld_ok n ss h1 h4 g1 g2) ?_
  refine wb (A2.mk ?_ ?_) <;> intros
  all_goals try (rw [thNames_len] at *; omega)
  refine wl (fun k : Nat => [(1, .ptr 0 0), (3, .pv (intP k))]) (fun _ => [some (.box ((coR n ss cs).map .pv))]) (fun k => k ≤ cs.length) (fun k => cs.length - k) 0 (Nat.zero_le _) (vm [0]) (fun k hk => ?_)
  refine wb (A2.mk ?_ ?_) <;> intros
  · have h2 : k < cs.length := by omega
    have hg := List.getElem?_eq_getElem h2
    have hgk := g3 k cs[k].1 cs[k].2 hg
    generalize cs[k] = x at hg hgk
    obtain ⟨r, l⟩ := x
    refine row_map (x := (r, l)) (by omega) (by simpa using hg) rfl ?_
    refine wb ?_ <;> intros
    refine wE (validThread_ok n ss g1 k (by omega) r l hgk) ?_
    refine wb ?_ <;> intros
    exact sr_mark ⟨k + 1, h2, by omega, vm [0]⟩
  · exact wr hR
end AM

/- The functions that Trace needs: a whole execution, and Trace. -/
namespace AM
open Go Go.Proofs Mk
set_option linter.unusedVariables false
set_option linter.unusedSimpArgs false
set_option maxRecDepth 20000
set_option maxHeartbeats 8000000
@[go_sem] def trR (n : Nat) (ss : List (Nat × Nat)) (es : List EvA) : List PV := [.sl (ceL.map CeR.r), .sl (lkL.map lkR), .sl (cdL.map cdR), .sl (strR fuL), .sl (strR (thNames n)), .sl (ss.map siR), .sl (es.map EvA.r)]
def RunQ (n : Nat) (ss : List (Nat × Nat)) (K : Nat) (v : AV) : Prop := ∃ tx xs es, v = .tup [rw_ (trR n ss es), rw_ (xstR n tx es.length xs)] ∧ es.length ≤ K ∧ EvL n es
def us28 : Nat → List (Nat × Nat) := fun i => if i = 3 then [(0, 1), (0, 2), (0, 8), (1, 8), (2, 8), (4, 8)] else if i = 4 then [(1, 4), (4, 5)] else []
theorem run9_ok (n : Nat) (ss : List (Nat × Nat)) (cs : List (Int × List In)) (C : CdG n ss cs) (ch : List (Int × Int)) (hch : ch.length ≤ 1000) : FnOk Tryz.prog 28 [rw_ (coR n ss cs), .pv (.sl (ch.map chR))] (RunQ n ss ch.length) := by
  have hst := start9_ok n ss cs C
  have hfr := from9_ok n ss cs C (cs.map ts0) (by rw [List.length_map]; exact C.len) (fun x hx => by
    obtain ⟨p, hp, rfl⟩ := List.mem_map.1 hx
    obtain ⟨k, hk⟩ := List.mem_iff_getElem?.1 hp
    have G := C.good k p.1 p.2 hk
    have := G.r1
    exact ⟨i64_0, by show p.1.toNat ≤ 5; omega, by show p.1.toNat ≤ 5; omega, Int.le_refl _, Int.le_refl _⟩) ch hch
  have hw : FrQ n ch.length (.tup [.pv (.sl (([] : List EvA).map EvA.r)), rw_ (xstR n 0 0 [])]) := ⟨0, [], [], rfl, Nat.zero_le _, fun j e h => by simp at h⟩
  obtain ⟨n1, n4, s60, so, val, len, good, num⟩ := C
  refine wf Tryz.func28 us28 (h := fun R hR => ?_)
  refine wb ?_ <;> intros
  refine wE val ?_
  refine wb ?_ <;> intros
  refine wE hst ?_
  refine wb ?_ <;> intros
  refine wG hfr _ hw ?_
  rintro v ⟨tx, xs, es, rfl, h1, h2⟩
  refine wb ?_ <;> intros
  exact wt hR (.tup [rw_ (trR n ss es), rw_ (xstR n tx es.length xs)]) [] ⟨_, _, _, rfl, h1, h2⟩
theorem code_ok (xs : List UInt8) (hx : xs.length ≤ 1000) : FnOk Tryz.prog 29 [.pv (u8L xs)] (fun r => ∃ n ss cs, CdG n ss cs ∧ r = rw_ (coR n ss cs)) := by
  refine wf Tryz.func29 (fun _ => []) (h := fun R hR => ?_)
  refine wb ?_ <;> intros
  refine wF (program_ok xs hx) ?_
  rintro v ⟨bs, rfl, hp, hz⟩
  refine wb ?_ <;> intros
  refine wE (program6_ok bs hp hz) ?_
  refine wb ?_ <;> intros
  have hg := good_prog hz
  exact wt hR (rw_ (coR bs.length (sitesF 0 bs) (codeF bs.length 0 bs))) [] ⟨_, _, _, ⟨hp.n1, hp.n4, hg.1, hg.2.1, valid_ok bs hp.n1 hp.n4 hz, codeF_len _ _ _, hg.2.2, fun k r l h => num_codeF _ _ _ _ (List.mem_of_getElem? h)⟩, rfl⟩
attribute [local go_sem] List.map_append List.length_append List.map_cons List.map_nil List.length_singleton
theorem choices_ok (xs : List UInt8) (hx : xs.length ≤ 1000) : FnOk Tryz.prog 30 [.pv (u8L xs)] (fun r => ∃ ch : List (Int × Int), ch.length = xs.length ∧ r = .pv (.sl (ch.map chR))) := by
  refine wf Tryz.func30 (fun _ => [(3, 9), (4, 9), (3, 10), (4, 10)]) (h := fun R hR => ?_)
  refine wb ?_ <;> intros
  refine sr_ghostE 3 141 2 (by exact we) ?_
  refine wl (fun u : List (Int × Int) => [(0, .pv (u8L xs)), (3, .own 0 u.length), (4, .pv (intP u.length))]) (fun u => [some (.row 141 2 (u.map chR))]) (fun u => u.length ≤ xs.length) (fun u => xs.length - u.length) [] (Nat.zero_le _) (vm [24]) (fun u hu => ?_)
  refine wb (A2.mk ?_ ?_) <;> intros
  · have h2 : u.length < xs.length := by omega
    refine row_map (x := xs[u.length]) (by omega) (by simp [h2]) rfl ?_
    refine wb ?_ <;> intros
    refine row_map (x := xs[u.length]) (by omega) (by simp [h2]) rfl ?_
    refine wb ?_ <;> intros
    exact sr_mark ⟨u ++ [((IntKind.i64.wrap (xs[u.length].toNat : Int)).tmod 4, IntKind.i64.wrap ((IntKind.i64.wrap ((IntKind.i64.wrap (xs[u.length].toNat : Int)).tdiv 4)).tmod 5 - 1))], by rw [List.length_append]; simp only [List.length_singleton]; omega, by rw [List.length_append]; simp only [List.length_singleton]; omega, vm [169]⟩
  · have h2 : u.length = xs.length := by omega
    exact wt hR (.pv (.sl (u.map chR))) [(0, none)] ⟨_, h2, rfl⟩
def TrQ (K : Nat) (v : AV) : Prop := ∃ n ss es, v = rw_ (trR n ss es) ∧ 1 ≤ n ∧ n ≤ 4 ∧ ss.length ≤ 60 ∧ SiteOk n ss ∧ es.length ≤ K ∧ EvL n es
theorem trace_ok (xs ys : List UInt8) (hx : xs.length ≤ 1000) (hy : ys.length ≤ 1000) : FnOk Tryz.prog 11 [.pv (u8L xs), .pv (u8L ys)] (TrQ ys.length) := by
  refine wf Tryz.func11 (fun _ => []) (h := fun R hR => ?_)
  refine wb ?_ <;> intros
  refine wF (code_ok xs hx) ?_
  rintro v ⟨n, ss, cs, C, rfl⟩
  refine wb ?_ <;> intros
  refine wF (choices_ok ys hy) ?_
  rintro v ⟨ch, hch, rfl⟩
  refine wb ?_ <;> intros
  refine wF (run9_ok n ss cs C ch (by omega)) ?_
  rintro v ⟨tx, zs, es, rfl, h1, h2⟩
  refine wb ?_ <;> intros
  exact wt hR (rw_ (trR n ss es)) [] ⟨_, _, _, rfl, C.n1, C.n4, C.s60, C.so, by omega, h2⟩
end AM

/- made of law 13, by the abstract machine. -/
namespace AM
open Go Go.Proofs Mk Iv
set_option linter.unusedVariables false
set_option linter.unusedSimpArgs false
set_option maxRecDepth 20000
set_option maxHeartbeats 8000000
def EvA.ev (e : EvA) : Ev := ⟨e.thread, e.kind, e.obj, e.value, e.site, e.deps.map fun (n : Nat) => (n : Int), e.fr.map fun (n : Nat) => (n : Int)⟩
def recE (p : Nat × EvA) : Rec := ⟨(p.1 : Int), p.2.ev⟩
@[go_sem] def rcE (p : Nat × EvA) : List PV := [intP p.1, intP p.2.thread, intP p.2.kind, intP p.2.obj, intP p.2.value, intP p.2.site, .sl (nL p.2.deps), .sl (nL p.2.fr)]
theorem evG_ok {n j : Nat} {e : EvA} (h : EvG n j e) : EvOk n j e.ev := by
  have i : ∀ {x : Int}, i64 x → inI64 x := fun hx => by have := i64_iff.1 hx; exact ⟨this.1, by omega⟩
  have d : ∀ {l : List Nat}, Asc j l → (((l.map fun (n : Nat) => (n : Int)).length : Int) ≤ j ∧ ∀ x ∈ l.map fun (n : Nat) => (n : Int), 0 ≤ x ∧ x < j) := fun hl => by
    refine ⟨by rw [List.length_map]; have := hl.len; omega, fun x hx => ?_⟩
    obtain ⟨q, hq, rfl⟩ := List.mem_map.1 hx
    have := hl.2 q hq
    omega
  exact ⟨h.th.1, h.th.2, h.kd.1, h.kd.2, i h.obj, i h.val, h.site.1, h.site.2, d h.dp, d h.frm⟩
@[go_sem] theorem tysB : lay Tryz.prog 53 = some (true, 3) ∧
  lay Tryz.prog 71 = some (true, 8) ∧
  lay Tryz.prog 51 = some (false, 1) ∧
  lay Tryz.prog 32 = some (false, 1) ∧
  elemT Tryz.prog 51 = some (71, 8, 96) ∧
  fldT Tryz.prog 53 0 = some 0 ∧
  fldT Tryz.prog 53 1 = some 1 ∧
  fldT Tryz.prog 53 2 = some 2 ∧
  fldT Tryz.prog 34 1 = some 6 ∧
  fldT Tryz.prog 69 0 = some 0 ∧
  zeroT Tryz.prog 53 = some [.pv (intP 0), .pv (intP 0), .emp] ∧
  zeroT Tryz.prog 71 = some [.pv (intP 0), .pv (intP 0), .pv (intP 0), .pv (intP 0), .pv (intP 0), .pv (intP 0), .emp, .emp] ∧
  placesT Tryz.prog 53 = some [(0, 1), (1, 1), (2, 1)] ∧
  placesT Tryz.prog 71 = some [(0, 1), (1, 7)] := by and_intros <;> kernel_rfl
def us18 : Nat → List (Nat × Nat) := fun i => if i = 6 then [(1, 7), (3, 7), (5, 7)] else if i = 7 then [(1, 4), (1, 6), (1, 7)] else []
attribute [local go_sem] List.set_cons_zero List.set_cons_succ List.map_append List.length_append List.map_cons List.map_nil List.length_singleton
theorem made13_ok (xs ys : List UInt8) (hx : xs.length ≤ 1000) (hy : ys.length ≤ 100) (tn fn nn : Nat) (ht : tn < 256) (hf : fn < 256) (hn : nn < 256) : ACall Tryz.prog 18 [.pv (u8L xs), .pv (u8L ys), .pv (.sc (.int .u8 tn)), .pv (.sc (.int .u8 fn)), .pv (.sc (.int .u8 nn))] []
    (fun v g => ∃ (th : Int) (rs : List (Nat × EvA)), v = .agg [.pv (intP th), .pv (intP fn), .own 0 rs.length] ∧ g = [some (.row 71 8 (rs.map rcE))] ∧ MadeOk ⟨th, fn, rs.map recE⟩) := by
  refine wz Tryz.func18 us18 (h := fun R hR => ?_)
  refine wb ?_ <;> intros
  refine wF (trace_ok xs ys hx (by omega)) ?_
  rintro v ⟨n, ss, es, rfl, n1, n4, s60, so, hk, hev⟩
  refine wb ?_ <;> intros
  have et : (tn : Int).tmod 4 = ((tn % 4 : Nat) : Int) := rfl
  have en : (nn : Int).tmod 64 = ((nn % 64 : Nat) : Int) := rfl
  refine sr_ghost 96 2 71 8 rfl rfl ?_
  refine wl (fun u : Nat × List (Nat × EvA) => [(4, .pv (.sc (.int .u8 nn))), (10, .ptr 0 0), (11, .ptr 1 0), (12, .ptr 2 0), (13, .pv (intP u.1))]) (fun u => [some (.box [.pv (intP 0), .pv (intP 0), .emp]), some (.box ((trR n ss es).map .pv)), some (.box [.pv (intP ((tn : Int).tmod 4)), .pv (intP fn), .own 3 u.2.length]), some (.row 71 8 (u.2.map rcE))]) (fun u => u.1 ≤ es.length ∧ u.2.length ≤ 64 ∧ MdP ((tn : Int).tmod 4) u.1 (u.2.map recE)) (fun u => es.length - u.1) (0, []) ⟨Nat.zero_le _, Nat.zero_le _, MdP.nil _⟩ (vm [0, 32, 96, 120]) (fun ⟨k, rs⟩ ⟨hk2, hl, hP⟩ => ?_)
  dsimp only at hk2 hl hP
  refine wb (A2.mk ?_ (A2.mk ?_ ?_)) <;> intros
  · have h2 : k < es.length := by omega
    have hg := List.getElem?_eq_getElem h2
    have he := hev k _ hg
    generalize es[k] = e at hg he
    have hem : (es.map EvA.r)[k]? = some e.r := by rw [List.getElem?_map, hg]; rfl
    have hd1 := he.dp.len
    have hd2 := he.frm.len
    refine row_get (by omega) hem rfl ?_
    refine wb (A2.mk ?_ ?_) <;> intros
    · refine row_get (by omega) hem rfl ?_
      refine wb ?_ <;> intros
      have el : (rs ++ [(k, e)]).length = rs.length + 1 := by simp
      exact sr_mark ⟨(k + 1, rs ++ [(k, e)]), ⟨h2, by dsimp only; omega, by dsimp only; rw [List.map_append]; exact hP.snoc (evG_ok he) n4 (by omega) (by assumption)⟩, by dsimp only; omega, vm [0, 1, 2, 268]⟩
    · exact sr_mark ⟨(k + 1, rs), ⟨h2, hl, hP.later⟩, by dsimp only; omega, vm [0, 1, 2, 3]⟩
  all_goals exact wo hR (.agg [.pv (intP ((tn : Int).tmod 4)), .pv (intP fn), .own 0 rs.length]) [some (.row 71 8 (rs.map rcE))] [3] [] ⟨_, rs, rfl, rfl, ⟨by show 0 ≤ (tn : Int).tmod 4; omega, by show (tn : Int).tmod 4 < 4; omega, by show (0 : Int) ≤ (fn : Int); omega, by show (fn : Int) ≤ 400; omega, by show (rs.map recE).length ≤ 64; rw [List.length_map]; exact hl, hP.ok, hP.fit, hP.sh⟩⟩
end AM

/- What the abstract machine says of a call, in words of the memory. -/
namespace AM
open Go Go.Proofs Go.RowKit Mk Iv
set_option linter.unusedVariables false
set_option linter.unusedSimpArgs false
def psiOf (w : World) : Psi := ⟨fun b o => w.cell? ⟨b, o, none⟩, fun _ => none⟩
def frOf (w : World) : Fr := ⟨w, fun b => b < w.heap.size, psiOf w, fun _ => none, 0⟩
theorem ok_of (w : World) : Ok (frOf w) (psiOf w) (fun _ => none) (ofL []) w := by
  constructor
  · exact fun b o v h => h
  · exact fun b cts m h => nomatch h
  · exact fun l o h => by simp [ofL] at h
  · exact fun l l' o o' b h => by simp [ofL] at h
  · exact fun l o b h => by simp [ofL] at h
  · exact fun b e h => nomatch h
  · exact fun b h => ⟨h, rfl⟩
  · exact Nat.le_refl _
  · exact ⟨rfl, rfl, rfl⟩
  · exact fun b _ q => rfl
  · exact Psi.le.refl _
  · exact fun l h => absurd h (Nat.not_lt_zero l)
theorem join {P : Program} {f : FuncId} {args : List AV} {post : AV → List (Option Obj) → Prop} (h : ACall P f args [] post) (w : World) (vs : Array Value) (hr : RepsL (psiOf w) (fun _ => none) args vs.toList) :
    Calls P f vs w fun e w' => ∃ r v g Ψ' loc', e = .returned r ∧ post v g ∧ RepA Ψ' loc' v r ∧ Ok (frOf w) Ψ' loc' (ofL g) w' :=
  (h (frOf w) (psiOf w) (fun _ => none) w vs (ok_of w) rfl (fun _ _ => rfl) hr).mono fun e w' ⟨r, v, g, Ψ', loc', h1, h2, _, _, h3, h4, _⟩ => ⟨r, v, g, Ψ', loc', h1, h2, h3, h4⟩
theorem ok_grown {w w' : World} {Ψ : Psi} {loc : Loc} {σ : Sto} (h : Ok (frOf w) Ψ loc σ w') : w.grownBy w' none := ⟨h.os.1, h.os.2.1, h.os.2.2, h.sz, fun k hk _ => (h.pr k hk).2⟩
theorem rep_bytes {w : World} {B n c : Nat} {A : Option Addr} {xs : Bytes} (h : Lies w B 1 A n (xs.map bv)) (hc : n ≤ c) : Rep (psiOf w) (u8L xs) (.slice A n c) := by
  have hl := h.1
  rw [List.length_map, Nat.mul_one] at hl
  subst hl
  rcases Nat.eq_zero_or_pos xs.length with h0 | h0
  · have := List.eq_nil_of_length_eq_zero h0
    subst this
    exact .nil
  · obtain ⟨⟨b, o, s⟩, rfl, hb, hcell⟩ := h.2 h0
    have hg : ∀ k (hk : k < xs.length), w.cell? ((⟨b, o, s⟩ : Addr).add k) = some (bv xs[k]) := fun k hk => hcell k _ (by rw [List.getElem?_map, List.getElem?_eq_getElem hk]; rfl)
    have hs : s = none := by
      have := hg 0 h0
      simp only [Addr.add, ↓reduceIte, World.cell?] at this
      cases s with
      | none => rfl
      | some q => split at this <;> simp at this
    subst hs
    refine .sl (k := 1) (fun i _ => bv (xs.getD i 0)) (by rw [List.length_map]) hc (fun row hr => by
      obtain ⟨x, _, rfl⟩ := List.mem_map.1 hr
      rfl) ?_ ?_
    · intro i j p hp
      simp only [cellOf, List.getElem?_map, Option.bind_map] at hp
      cases hx : xs[i]? with
      | none => simp [hx] at hp
      | some x =>
        simp only [hx, Option.bind_some, Function.comp] at hp
        obtain ⟨hi, rfl⟩ := List.getElem?_eq_some_iff.1 hx
        have hj : j = 0 := by cases j with
          | zero => rfl
          | succ j => simp at hp
        subst hj
        have := hg i hi
        show w.cell? ⟨b, o + (i * 1 + 0), none⟩ = _
        rw [Nat.mul_one, Nat.add_zero, List.getD_eq_getElem?_getD, hx, Option.getD_some, ← this]
        congr 1
        unfold Addr.add
        split
        · simp_all
        · rfl
    · intro i j p hp
      simp only [cellOf, List.getElem?_map, Option.bind_map] at hp
      cases hx : xs[i]? with
      | none => simp [hx] at hp
      | some x =>
        simp only [hx, Option.bind_some, Function.comp] at hp
        cases j with
        | zero =>
          simp only [List.getElem?_cons_zero, Option.some.injEq] at hp
          subst hp
          rw [List.getD_eq_getElem?_getD, hx]
          exact .sc rfl
        | succ j => simp at hp
theorem lies_nums {fr : Fr} {Ψ : Psi} {loc : Loc} {σ : Sto} {w : World} (hok : Ok fr Ψ loc σ w) {l : List Nat} {v : Value} (h : Rep Ψ (.sl (nL l)) v) : ∃ A c, v = .slice A l.length c ∧ Lies w w.heap.size 1 A l.length ((l.map fun (n : Nat) => (n : Int)).map Iv.iv) := by
  generalize he : nL l = els at h
  cases h with
  | nil =>
    have : l = [] := List.map_eq_nil_iff.1 he
    subst this
    exact ⟨_, _, rfl, ⟨rfl, fun h => absurd h (Nat.lt_irrefl 0)⟩⟩
  | @sl _ b o c n k f hn hnc hk hf hr =>
    subst he
    rw [List.length_map] at hn
    subst hn
    refine ⟨_, _, rfl, by simp, fun h0 => ?_⟩
    have hk1 : k = 1 := (hk _ (List.mem_map_of_mem (List.getElem_mem h0))).symm
    subst hk1
    have hc : ∀ i (hi : i < l.length), w.cell? ⟨b, o + i, none⟩ = some (Iv.iv (l[i] : Nat)) := fun i hi => by
      have h1 : cellOf (nL l) i 0 = some (intP (l[i] : Nat)) := by simp [cellOf, hi, nP]
      have h2 := hok.fz _ _ _ (hf i 0 _ h1)
      rw [Nat.mul_one, Nat.add_zero] at h2
      rw [h2, (rep_sc (loc := loc) (.pv (hr i 0 _ h1))).1]
      rfl
    refine ⟨⟨b, o, none⟩, rfl, World.block_lt_of_cell? w _ (hc 0 h0), fun j u hu => ?_⟩
    rw [List.getElem?_map, List.getElem?_map] at hu
    cases hx : l[j]? with
    | none => rw [hx] at hu; simp at hu
    | some x =>
      obtain ⟨hj, rfl⟩ := List.getElem?_eq_some_iff.1 hx
      rw [hx] at hu
      simp only [Option.map_some, Option.some.injEq] at hu
      subst hu
      have := hc j hj
      rw [← this]
      congr 1
      unfold Addr.add
      split
      · simp_all
      · rfl
theorem own_row {Ψ : Psi} {loc : Loc} {g : List (Option Obj)} {w0 w : World} {e k n l : Nat} {els : List (List PV)} {x : Value} (hok : Ok (frOf w0) Ψ loc (ofL g) w) (h : RepA Ψ loc (.own l n) x) (hg : ofL g l = some (.row e k els)) (hn : els.length = n) :
    ∃ A c, x = .slice A n c ∧ n ≤ c ∧ (A = none → c = 0) ∧ ∀ i (hi : i < n), ∃ b, A = some ⟨b, 0, none⟩ ∧ b < w.heap.size ∧ w0.heap.size ≤ b ∧ ∀ j p, cellOf els i j = some p → ∃ u, w.cell? ⟨b, 0 + i * k + j, none⟩ = some u ∧ Rep Ψ p u := by
  cases h with
  | @own _ _ c A hl hnc =>
    obtain ⟨A', c', hl', h2⟩ := hok.ob l _ hg
    rw [hl] at hl'
    injection hl' with hl'
    injection hl' with e1 e2
    subst e1 e2
    refine ⟨A, c, rfl, hnc, ?_, fun i hi => ?_⟩
    · intro hA
      rcases h2 with ⟨_, h⟩ | ⟨_, g', cur, h, _⟩
      · exact h
      · rw [hA] at h; cases h
    · rcases h2 with ⟨h, _⟩ | ⟨h0, b, cur, rfl, hh, h3, h4, h5, h6, h7⟩
      · rw [h] at hn; simp at hn; omega
      · have hb : blk loc l = some b := by
          obtain ⟨c', rfl⟩ : ∃ c', c = c' + 1 := ⟨c - 1, by omega⟩
          simp [blk, hl]
        refine ⟨b, rfl, lt_of_heap hh, Nat.le_of_not_lt (hok.ow l _ b hg hb).1, fun j p hp => ?_⟩
        obtain ⟨u, hu, hr⟩ := h7 i j p hp
        exact ⟨u, by rw [cell_heap hh, Nat.zero_add]; exact hu, hr⟩
end AM
namespace Go.Proofs.YtaiaoiochbpmfaaGreat
open Go Go.RowKit Iv AM
set_option linter.unusedVariables false
set_option linter.unusedSimpArgs false
theorem made13_any (w : World) (A1 : Option Addr) (n1 c1 B1 : Nat) (xs : Bytes) (hx : Lies w B1 1 A1 n1 (xs.map bv)) (hc1 : n1 ≤ c1) (hn1 : n1 ≤ 1000) (A2 : Option Addr) (m c2 B2 : Nat) (ys : Bytes) (hy : Lies w B2 1 A2 m (ys.map bv)) (hc2 : m ≤ c2) (hm : m ≤ 100) (tn fn nn : Nat) (htn : tn < 256) (hfn : fn < 256) (hnn : nn < 256) :
    Calls Tryz.prog 18 #[.slice A1 n1 c1, .slice A2 m c2, .int .u8 (tn : Int), .int .u8 (fn : Int), .int .u8 (nn : Int)] w fun e w' => MadeR w e w' := by
  have l1 : xs.length = n1 := by have := hx.1; rw [List.length_map] at this; omega
  have l2 : ys.length = m := by have := hy.1; rw [List.length_map] at this; omega
  refine (join (made13_ok xs ys (by omega) (by omega) tn fn nn htn hfn hnn) w _ ⟨rfl, fun j v hv => ?_⟩).mono ?_
  · match j, hv with
    | 0, hv => injection hv with hv; subst hv; exact ⟨_, rfl, .pv (rep_bytes hx hc1)⟩
    | 1, hv => injection hv with hv; subst hv; exact ⟨_, rfl, .pv (rep_bytes hy hc2)⟩
    | 2, hv => injection hv with hv; subst hv; exact ⟨_, rfl, .pv (.sc rfl)⟩
    | 3, hv => injection hv with hv; subst hv; exact ⟨_, rfl, .pv (.sc rfl)⟩
    | 4, hv => injection hv with hv; subst hv; exact ⟨_, rfl, .pv (.sc rfl)⟩
  rintro e w' ⟨r, v, g, Ψ, loc, rfl, ⟨th, rs, rfl, rfl, hM⟩, hv, hok⟩
  cases hv with
  | @agg _ us f hs hx hr =>
    obtain ⟨A, c, e2, hnc, hA, hrow⟩ := own_row hok (hr 2 _ rfl) rfl (List.length_map _)
    have e0 := (rep_sc (hr 0 _ rfl)).1
    have e1 := (rep_sc (hr 1 _ rfl)).1
    have hus : us = #[.int .i64 th, .int .i64 fn, .slice A rs.length c] := by
      refine Array.ext (by rw [hs]; rfl) (fun j h1 h2 => ?_)
      have h3 : j < 3 := h2
      have q := hx j h3
      rw [Array.getElem?_eq_getElem h1] at q
      injection q with q
      rw [q]
      obtain rfl | rfl | rfl : j = 0 ∨ j = 1 ∨ j = 2 := by omega
      · exact e0
      · exact e1
      · exact e2
    subst hus
    refine ⟨⟨th, fn, rs.map recE⟩, A, c, by simp, ⟨rfl, fun k r hk => ?_⟩, hM, by simpa using hnc, hA, ok_grown hok⟩
    rw [List.getElem?_map] at hk
    cases hp : rs[k]? with
    | none => rw [hp] at hk; simp at hk
    | some p =>
      rw [hp] at hk
      simp only [Option.map_some, Option.some.injEq] at hk
      subst hk
      obtain ⟨b, rfl, hb, _, hcell⟩ := hrow k (List.getElem?_eq_some_iff.1 hp).1
      have hc : ∀ j q, (rcE p)[j]? = some q → ∃ u, w'.cell? ⟨b, 0 + k * 8 + j, none⟩ = some u ∧ Rep Ψ q u := fun j q hq => hcell j q (by simp only [cellOf, List.getElem?_map, hp, Option.map_some, Option.bind_some]; exact hq)
      have hs : ∀ j v, (rcE p)[j]? = some (.sc v) → w'.cell? ⟨b, 0 + k * 8 + j, none⟩ = some v := fun j v hq => by
        obtain ⟨u, h1, h2⟩ := hc j _ hq
        rw [h1, (rep_sc (loc := loc) (.pv h2)).1]
      obtain ⟨u6, h6, r6⟩ := hc 6 _ rfl
      obtain ⟨u7, h7, r7⟩ := hc 7 _ rfl
      obtain ⟨Ad, cd, rfl, ld⟩ := lies_nums hok r6
      obtain ⟨Af, cf, rfl, lf⟩ := lies_nums hok r7
      refine ⟨b, 0, Ad, p.2.deps.length, cd, Af, p.2.fr.length, cf, rfl, hb, ⟨fun j u hu => ?_, ld, lf⟩⟩
      match j, hu with
      | 0, hu => injection hu with hu; subst hu; exact hs 0 _ rfl
      | 1, hu => injection hu with hu; subst hu; exact hs 1 _ rfl
      | 2, hu => injection hu with hu; subst hu; exact hs 2 _ rfl
      | 3, hu => injection hu with hu; subst hu; exact hs 3 _ rfl
      | 4, hu => injection hu with hu; subst hu; exact hs 4 _ rfl
      | 5, hu => injection hu with hu; subst hu; exact hs 5 _ rfl
      | 6, hu => injection hu with hu; subst hu; exact h6
      | 7, hu => injection hu with hu; subst hu; exact h7
      | j + 8, hu => simp [recV] at hu
end Go.Proofs.YtaiaoiochbpmfaaGreat
