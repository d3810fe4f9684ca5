/- The functions that Trace needs: names in lists. -/
import Derived.Test.YtfbkkgfkhhibfaaGreatFzj
import Derived.Test.YtfbkkgfkhhibfaaGreatTg
import Derived.Test.YtfbkkgfkhhibfaaGreatTh
namespace AM
open Go Go.Proofs Mk
set_option linter.unusedVariables false
set_option linter.unusedSimpArgs false
set_option maxRecDepth 20000
abbrev strR (ss : List ByteArray) : List (List PV) := ss.map fun s => [strP s]
theorem at_ok (ss : List ByteArray) (s : ByteArray) (hl : ss.length ≤ 1000000) : FnEq Tryz.prog 94 [.pv (.sl (strR ss)), .pv (strP s)] (.pv (intP (atI ss s))) := by
  refine wf Tryz.func94 (fun _ => []) (h := fun R hR => ?_)
  refine wb ?_ <;> intros
  refine wl (fun i : Nat => [(0, .pv (.sl (strR ss))), (1, .pv (strP s)), (5, .pv (intP i))]) (fun _ => []) (fun i => i ≤ ss.length ∧ atI ss s = atFrom s i (ss.drop i)) (fun i => ss.length - i) 0 ⟨Nat.zero_le _, rfl⟩ (vm []) (fun i ⟨hi, ha⟩ => ?_)
  refine wb (A2.mk ?_ ?_) <;> intros
  · have h2 : i < ss.length := by omega
    refine row_map (x := ss[i]) (Int.natCast_nonneg _) (by simp [h2]) rfl ?_
    refine wb (A2.mk ?_ ?_) <;> intros
    · rw [Mk.at_hit h2 ‹_› ha] at hR
      exact wr hR
    · exact sr_mark ⟨i + 1, ⟨h2, at_miss h2 ‹_› ha⟩, by omega, vm []⟩
  · rw [at_end (by omega) ha] at hR
    exact wr hR
theorem atO_ok (ss : List ByteArray) (s : ByteArray) (hl : ss.length ≤ 1000000) : ACall Tryz.prog 94 [.own 0 ss.length, .pv (strP s)] [.row 9 1 (strR ss)] (fun v g => v = .pv (intP (atI ss s)) ∧ g = [some (.row 9 1 (strR ss))]) := by
  refine wz Tryz.func94 (fun _ => []) (h := fun R hR => ?_)
  refine wb ?_ <;> intros
  refine wl (fun i : Nat => [(0, .own 0 ss.length), (1, .pv (strP s)), (5, .pv (intP i))]) (fun _ => [some (.row 9 1 (strR ss))]) (fun i => i ≤ ss.length ∧ atI ss s = atFrom s i (ss.drop i)) (fun i => ss.length - i) 0 ⟨Nat.zero_le _, rfl⟩ (vm [0]) (fun i ⟨hi, ha⟩ => ?_)
  refine wb (A2.mk ?_ ?_) <;> intros
  · have h2 : i < ss.length := by omega
    refine ld_get (x := [strP ss[i]]) (by simp [h2]) rfl ?_
    refine wb (A2.mk ?_ ?_) <;> intros
    · refine wo hR (.pv (intP i)) [some (.row 9 1 (strR ss))] [0] [] ?_
      exact ⟨by rw [Mk.at_hit h2 ‹_› ha], rfl⟩
    · exact sr_mark ⟨i + 1, ⟨h2, at_miss h2 ‹_› ha⟩, by omega, vm [0]⟩
  · refine wo hR (.pv (intP (-1))) [some (.row 9 1 (strR ss))] [0] [] ?_
    exact ⟨by rw [at_end (by omega) ha], rfl⟩
theorem holds_ok (xs : List UInt8) (k : Nat) (m : MS) (s : ByteArray) (hm : m.held.length ≤ 1000000) : ACall Tryz.prog 151 [.ptr 0 0, .pv (strP s)] (m.os xs k) (fun v g => (∃ b, v = .pv (boolP b)) ∧ g = (m.os xs k).map some) := by
  refine wz Tryz.func151 (fun _ => []) (h := fun R hR => ?_)
  refine wb ?_ <;> intros
  refine wq (atO_ok m.held s hm) [2] ?_
  rintro r g ⟨rfl, rfl⟩
  refine wb ?_ <;> intros
  refine wo hR (.pv (boolP (decide (0 ≤ atI m.held s)))) ((m.os xs k).map some) [0, 1, 2] [] ?_
  exact ⟨⟨_, rfl⟩, rfl⟩
end AM

/- The functions that Trace needs: how worlds and codes are told. -/
namespace AM
open Go Go.Proofs Mk
set_option linter.unusedVariables false
set_option linter.unusedSimpArgs false
set_option maxRecDepth 20000
set_option maxHeartbeats 8000000
structure CeR where
  name : ByteArray
  ix : Int
  size : Int
  vol : Bool
  init : Int
@[go_sem] def CeR.r (c : CeR) : List PV := [strP c.name, intP c.ix, intP c.size, boolP c.vol, intP c.init]
def ceL : List CeR := [⟨⟨#[120]⟩, 0, 0, false, 0⟩, ⟨⟨#[121]⟩, 0, 0, false, 1⟩, ⟨⟨#[118]⟩, 0, 0, true, 0⟩, ⟨⟨#[113]⟩, 0, 2, false, 0⟩, ⟨⟨#[113]⟩, 1, 2, false, 0⟩]
def lkL : List (ByteArray × Bool) := [(⟨#[109]⟩, false), (⟨#[110]⟩, false), (⟨#[114]⟩, true)]
@[go_sem] def lkR (p : ByteArray × Bool) : List PV := [strP p.1, boolP p.2]
def cdL : List (ByteArray × Int) := [(⟨#[99]⟩, 0)]
@[go_sem] def cdR (p : ByteArray × Int) : List PV := [strP p.1, intP p.2]
def fuL : List ByteArray := [⟨#[102]⟩]
@[go_sem] def siR (p : Nat × Nat) : List PV := [intP p.1, intP p.2, intP 0]
@[go_sem] def wldR (n : Nat) (ss : List (Nat × Nat)) : List PV := [.sl (ceL.map CeR.r), .sl (lkL.map lkR), .sl (cdL.map cdR), .sl (strR fuL), .sl (strR (thNames n)), .sl (ss.map siR)]
@[go_sem] theorem ceL_len : ceL.length = 5 := rfl
@[go_sem] theorem lkL_len : lkL.length = 3 := rfl
@[go_sem] theorem cdL_len : cdL.length = 1 := rfl
@[go_sem] theorem fuL_len : fuL.length = 1 := rfl
end AM
namespace Mk
open AM
@[go_sem] def In.r (i : In) : List PV := [intP i.op, intP i.a, intP i.b, intP i.c, intP i.n, intP i.site]
end Mk
namespace AM
open Go Go.Proofs Mk
set_option linter.unusedVariables false
set_option linter.unusedSimpArgs false
set_option maxRecDepth 20000
set_option maxHeartbeats 8000000
abbrev inL (l : List Int) : List (List PV) := l.map fun x => [intP x]
theorem registers_ok (i : In) : FnEq Tryz.prog 72 [rw_ i.r] (.pv (.sl (inL (regsI i)))) := by
  obtain ⟨op, a, b, c, n, st⟩ := i
  unfold regsI
  dsimp only
  refine wf Tryz.func72 (fun _ => []) (h := fun R hR => ?_)
  refine wb (A2.mk ?_ (A2.mk ?_ (A2.mk ?_ (A2.mk ?_ (A2.mk ?_ (A2.mk ?_ (A2.mk ?_ (A2.mk ?_ (A2.mk ?_ (A2.mk ?_ (A2.mk ?_ ?_))))))))))) <;> intros
  all_goals exact wr hR
@[go_sem] def tcR (p : Int × List In) : List PV := [intP p.1, .sl (p.2.map In.r)]
@[go_sem] def coR (n : Nat) (ss : List (Nat × Nat)) (cs : List (Int × List In)) : List PV := [.sl (ceL.map CeR.r), .sl (lkL.map lkR), .sl (cdL.map cdR), .sl (strR fuL), .sl (strR (thNames n)), .sl (ss.map siR), .sl (cs.map tcR)]
end AM

/- The functions that Trace needs: the state of a thread is copied. -/
namespace AM
open Go Go.Proofs
set_option linter.unusedVariables false
set_option linter.unusedSimpArgs false
set_option maxRecDepth 20000
set_option maxHeartbeats 8000000
@[go_sem] def tsR (b : Nat) (pc : Int) (r s : Nat) (ev : Int) : List PV := [intP pc, .tr [.int .i64] r, .tr [.asc b] s, intP ev]
def us123 : Nat → List (Nat × Nat) := fun i => if i = 1 then [(1, 3), (1, 6), (3, 6), (1, 7), (3, 7), (1, 9), (3, 9), (6, 9), (7, 9)] else if i = 5 then [(1, 4), (1, 6), (1, 7), (1, 8)] else []
@[go_sem] def nLR (m : List Nat) : List PV := [.sl (nL m)]
theorem rows_nLR {b : Nat} {u : List (List Nat)} (h : ∀ m ∈ u, Asc b m) : rowsB [.asc b] (u.map nLR) := by
  intro row hr
  obtain ⟨x, hx, rfl⟩ := List.mem_map.1 hr
  exact ⟨asc_ok (h x hx), trivial⟩
attribute [local go_sem] List.set_cons_zero List.set_cons_succ List.map_append List.length_append List.map_cons List.map_nil List.length_singleton
theorem copy7_ok (b b' : Nat) (hb : b ≤ b') (h4 : b' ≤ 400) (pc : Int) (r s : Nat) (ev : Int) (hr : r ≤ 5) (hs : s ≤ 5) : FnEq Tryz.prog 136 [rw_ (tsR b pc r s ev)] (rw_ (tsR b' pc r s ev)) := by
  refine wf Tryz.func136 us123 (h := fun R hR => ?_)
  refine wb ?_ <;> intros
  refine sr_ghost 88 2 37 1 rfl rfl ?_
  refine wl (fun u : List (List Nat) => [(1, .ptr 0 0), (2, .ptr 1 0), (3, .ptr 2 0), (4, .pv (intP u.length))]) (fun u => [some (.box ((tsR b pc r s ev).map .pv)), some (.box [.pv (intP 0), .emp, .emp, .pv (intP 0)]), some (.box [.pv (intP pc), .pv (.tr [.int .i64] r), .own 3 u.length, .pv (intP ev)]), some (.row 37 1 (u.map nLR))]) (fun u => u.length ≤ s ∧ ∀ m ∈ u, Asc b m) (fun u => s - u.length) [] ⟨Nat.zero_le _, fun _ h => nomatch h⟩ (vm [0, 8, 88, 112]) (fun u ⟨hu, hx⟩ => ?_)
  refine wb (A2.mk ?_ ?_) <;> intros
  · refine ty_asc fun l hl => ?_
    have hl4 : l.length ≤ 400 := Nat.le_trans hl.len (Nat.le_trans hb h4)
    refine wb ?_ <;> intros
    exact sr_mark ⟨u ++ [l], ⟨by rw [List.length_append]; simp only [List.length_singleton]; omega, fun m hm => by
      rcases List.mem_append.1 hm with hm | hm
      · exact hx m hm
      · rw [List.mem_singleton.1 hm]; exact hl⟩, by rw [List.length_append]; simp only [List.length_singleton]; omega, vm [0, 1, 2, 124]⟩
  · have hu2 : u.length = s := by omega
    exact wr hR [(3, some [.asc b'])] (hf := by refine ws ?_; exact ⟨by simp, rows_nLR (fun m hm => (hx m hm).weak hb)⟩) (hE := by refine ws ?_; rw [hu2]; exact ⟨rfl, rfl⟩)
end AM

/- The functions that Trace needs: the object of an event. -/
namespace AM
open Go Go.Proofs Mk
set_option linter.unusedVariables false
set_option linter.unusedSimpArgs false
set_option maxRecDepth 20000
set_option maxHeartbeats 8000000
def us116 : Nat → List (Nat × Nat) := fun i => if i = 6 then [(1, 3), (1, 5), (3, 5), (1, 6), (1, 7), (1, 9), (3, 9), (5, 9), (6, 9), (7, 9), (1, 10)] else if i = 8 then [(1, 3), (1, 5), (3, 5), (1, 6), (1, 7), (1, 9), (3, 9), (5, 9), (6, 9), (7, 9), (1, 10)] else []
def ObW (r : AV) : Prop := ∃ o, i64 o ∧ r = .pv (intP o)
theorem object_ok (n : Nat) (hn : n ≤ 4) (i : In) (h1 : 1 ≤ i.op ∧ i.op ≤ 28) (ho : ObjI n i) (hj : i.op = 5 → 0 ≤ i.a ∧ i.a ≤ 1000) (hnn : i64 i.n) (b : Nat) (pc : Int) (r : Nat) (hr : r ≤ 5) (hg : ∀ q ∈ regsI i, 0 ≤ q ∧ q < (r : Int)) (ev : Int) :
    FnOk Tryz.prog 129 [rw_ i.r, rw_ (tsR b pc r r ev)] ObW := by
  obtain ⟨op, ia, ib, ic, nn, st⟩ := i
  obtain ⟨o3, o4, o6, o7, o8, o9, o11, o13, o21, o24, o26, o27⟩ := ho
  dsimp only at h1 o3 o4 o6 o7 o8 o9 o11 o13 o21 o24 o26 o27 hj hnn
  have z : ∀ q : Int, -100 ≤ q ∧ q ≤ 2000 → i64 q := fun q h => i64_iff.2 (by omega)
  refine wf Tryz.func129 us116 (h := fun R hR => ?_)
  refine wb (A2.mk ?_ (A2.mk ?_ (A2.mk ?_ (A2.mk ?_ (A2.mk ?_ (A2.mk ?_ (A2.mk ?_ (A2.mk ?_ (A2.mk ?_ (A2.mk ?_ ?_)))))))))) <;> intros
  · exact wt hR (.pv (intP ib)) [] ⟨_, z ib (by omega), rfl⟩
  · exact wt hR (.pv (intP ib)) [] ⟨_, z ib (by omega), rfl⟩
  · have e7 : op = 7 := by assumption
    subst e7
    obtain ⟨rfl, rfl⟩ := o7 rfl
    have hq := hg ic (by simp [regsI])
    refine And.intro (by omega) ?_
    refine ty_int fun x hx => ?_
    refine wb ?_ <;> intros
    refine wG (index5_ok x 2 hx hnn) (.pv (intP 0)) ⟨0, i64_0, rfl, by decide⟩ ?_
    rintro v ⟨y, hy, rfl, hy2⟩
    have hy3 := hy2 (by decide)
    refine wb ?_ <;> intros
    exact wt hR (.pv (intP (3 + y))) [] ⟨_, z _ (by omega), rfl⟩
  · have e9 : op = 9 := by assumption
    subst e9
    obtain ⟨rfl, rfl⟩ := o9 rfl
    have hq := hg ic (by simp [regsI])
    refine And.intro (by omega) ?_
    refine ty_int fun x hx => ?_
    refine wb ?_ <;> intros
    refine wG (index5_ok x 2 hx hnn) (.pv (intP 0)) ⟨0, i64_0, rfl, by decide⟩ ?_
    rintro v ⟨y, hy, rfl, hy2⟩
    have hy3 := hy2 (by decide)
    refine wb ?_ <;> intros
    exact wt hR (.pv (intP (3 + y))) [] ⟨_, z _ (by omega), rfl⟩
  · exact wt hR (.pv (intP (-1))) [] ⟨_, z _ (by decide), rfl⟩
  · exact wt hR (.pv (intP (-1))) [] ⟨_, z _ (by decide), rfl⟩
  · exact wt hR (.pv (intP (-1))) [] ⟨_, z _ (by decide), rfl⟩
  · exact wt hR (.pv (intP (-1))) [] ⟨_, z _ (by decide), rfl⟩
  · exact wt hR (.pv (intP (-1))) [] ⟨_, z _ (by decide), rfl⟩
  · exact wt hR (.pv (intP (-1))) [] ⟨_, z _ (by decide), rfl⟩
  · have ha : -100 ≤ ia ∧ ia ≤ 2000 := by
      by_cases h5 : op ≤ 5
      · by_cases h6 : op = 5
        · have := hj h6; omega
        · have : ia ∈ regsI ⟨op, ia, ib, ic, nn, st⟩ := by
            obtain rfl | rfl | rfl : op = 1 ∨ op = 2 ∨ op = 4 := by omega
            all_goals simp [regsI]
          have := hg ia this
          omega
      · omega
    exact wt hR (.pv (intP ia)) [] ⟨_, z _ ha, rfl⟩
end AM

/- The functions that Trace needs: names. -/
namespace AM
open Go Go.Proofs Mk
set_option linter.unusedVariables false
set_option linter.unusedSimpArgs false
set_option maxRecDepth 20000
abbrev u8P (n : Int) : PV := .sc (.int .u8 n)
def letB (n : Int) : Bool := decide (97 ≤ n) && decide (n ≤ 122) || decide (65 ≤ n) && decide (n ≤ 90)
def digB (n : Int) : Bool := decide (48 ≤ n) && decide (n ≤ 57)
def innB (n : Int) : Bool := letB n || digB n || decide (n = 95)
theorem letter_ok (n : Int) : FnEq Tryz.prog 122 [.pv (u8P n)] (.pv (boolP (letB n))) := by
  unfold letB
  refine wf Tryz.func122 (fun _ => []) (h := fun R hR => ?_)
  refine wb (A2.mk ?_ (A2.mk ?_ (A2.mk ?_ ?_))) <;> intros
  all_goals exact wr hR
theorem digit_ok (n : Int) : FnEq Tryz.prog 157 [.pv (u8P n)] (.pv (boolP (digB n))) := by
  unfold digB
  refine wf Tryz.func157 (fun _ => []) (h := fun R hR => ?_)
  refine wb (A2.mk ?_ ?_) <;> intros
  all_goals exact wr hR
theorem inner_ok (n : Int) : FnEq Tryz.prog 124 [.pv (u8P n)] (.pv (boolP (innB n))) := by
  unfold innB
  refine wf Tryz.func124 (fun _ => []) (h := fun R hR => ?_)
  refine wb ?_ <;> intros
  refine wE (letter_ok n) ?_
  refine wb (A2.mk ?_ ?_) <;> intros
  · exact wr hR
  refine wE (digit_ok n) ?_
  refine wb (A2.mk ?_ ?_) <;> intros
  all_goals exact wr hR
def kwds : List ByteArray := [⟨#[118, 97, 114]⟩, ⟨#[118, 111, 108, 97, 116, 105, 108, 101]⟩, ⟨#[109, 117, 116, 101, 120]⟩, ⟨#[114, 119, 108, 111, 99, 107]⟩, ⟨#[99, 111, 110, 100]⟩, ⟨#[102, 117, 116, 117, 114, 101]⟩, ⟨#[116, 104, 114, 101, 97, 100]⟩, ⟨#[105, 102]⟩, ⟨#[101, 108, 115, 101]⟩, ⟨#[119, 104, 105, 108, 101]⟩, ⟨#[108, 111, 99, 107]⟩, ⟨#[114, 101, 97, 100]⟩, ⟨#[119, 114, 105, 116, 101]⟩, ⟨#[116, 114, 97, 110, 115, 97, 99, 116, 105, 111, 110]⟩, ⟨#[97, 116, 111, 109, 105, 99]⟩, ⟨#[119, 97, 105, 116]⟩, ⟨#[110, 111, 116, 105, 102, 121]⟩, ⟨#[110, 111, 116, 105, 102, 121, 97, 108, 108]⟩, ⟨#[115, 112, 97, 119, 110]⟩, ⟨#[106, 111, 105, 110]⟩, ⟨#[115, 101, 116]⟩, ⟨#[103, 101, 116]⟩]
theorem kwds_ok : FnEq Tryz.prog 156 [] (.pv (.sl (strR kwds))) := by
  refine wf Tryz.func156 (fun _ => []) (h := fun R hR => ?_)
  refine wb ?_ <;> intros
  exact wr hR
theorem kw22 : kwds.length = 22 := rfl
theorem isKw_ok (s : ByteArray) (h : kwds.any (fun k => decide (k = s)) = false) : FnEq Tryz.prog 123 [.pv (strP s)] (.pv (boolP false)) := by
  have h22 := kw22
  refine wf Tryz.func123 (fun _ => []) (h := fun R hR => ?_)
  refine wb ?_ <;> intros
  refine wE kwds_ok ?_
  refine wb ?_ <;> intros
  refine wl (fun i : Nat => [(0, .pv (strP s)), (3, .pv (.sl (strR kwds))), (4, .pv (intP i))]) (fun _ => []) (fun i => i ≤ kwds.length) (fun i => kwds.length - i) 0 (Nat.zero_le _) (vm []) (fun i hi => ?_)
  refine wb (A2.mk ?_ ?_) <;> intros
  · refine row_pick kwds (fun x => [strP x]) (by omega) (fun x hx => ?_)
    refine wb (A2.mk ?_ ?_) <;> intros
    · simp only [List.any_eq_false, decide_eq_true_eq] at h; exact absurd ‹_› (h x hx)
    · exact sr_mark ⟨i + 1, by omega, by omega, vm []⟩
  · exact wr hR
def nameB (s : ByteArray) : Bool := decide (1 ≤ s.size) && decide (s.size ≤ 12) && letB ((s[0]?).getD 0).toNat && (List.range s.size).all (fun i => innB ((s[i]?).getD 0).toNat) && !kwds.any (fun k => decide (k = s))
theorem isName_ok (s : ByteArray) (h : nameB s = true) : FnEq Tryz.prog 93 [.pv (strP s)] (.pv (boolP true)) := by
  simp only [nameB, Bool.and_eq_true, decide_eq_true_eq, Bool.not_eq_true', List.all_eq_true, List.mem_range] at h
  obtain ⟨⟨⟨⟨h1, h2⟩, h3⟩, h4⟩, h5⟩ := h
  refine wf Tryz.func93 (fun _ => []) (h := fun R hR => ?_)
  refine wb ?_ <;> intros
  refine wE (letter_ok _) ?_
  simp only [Int.toNat_zero, h3]
  refine wb ?_ <;> intros
  refine wE (isKw_ok s h5) ?_
  refine wb ?_ <;> intros
  refine wl (fun i : Nat => [(0, .pv (strP s)), (3, .pv (intP i))]) (fun _ => []) (fun i => i ≤ s.size) (fun i => s.size - i) 0 (Nat.zero_le _) (vm []) (fun i hi => ?_)
  refine wb (A2.mk ?_ ?_) <;> intros
  · refine wE (inner_ok _) ?_
    rw [h4 i (by omega)]
    refine wb ?_ <;> intros
    exact sr_mark ⟨i + 1, by omega, by omega, vm []⟩
  · exact wr hR
end AM

/- The functions that Trace needs: declarations, threads. -/
namespace AM
open Go Go.Proofs Mk
set_option linter.unusedVariables false
set_option linter.unusedSimpArgs false
set_option maxRecDepth 20000
set_option maxHeartbeats 4000000
structure DR where
  kind : Int
  name : ByteArray
  size : Int
  init : Int
  on : ByteArray
@[go_sem] def DR.r (d : DR) : List PV := [intP d.kind, intP 0, strP d.name, intP d.size, intP d.init, strP d.on]
def dL : List DR := [⟨1, ⟨#[120]⟩, 0, 0, bE⟩, ⟨1, ⟨#[121]⟩, 0, 1, bE⟩, ⟨2, ⟨#[118]⟩, 0, 0, bE⟩, ⟨1, ⟨#[113]⟩, 2, 0, bE⟩, ⟨3, ⟨#[109]⟩, 0, 0, bE⟩, ⟨3, ⟨#[110]⟩, 0, 0, bE⟩, ⟨4, ⟨#[114]⟩, 0, 0, bE⟩, ⟨5, ⟨#[99]⟩, 0, 0, ⟨#[109]⟩⟩, ⟨6, ⟨#[102]⟩, 0, 0, bE⟩]
@[go_sem] theorem dL_len : dL.length = 9 := rfl
abbrev dclR : List (List PV) := dL.map DR.r
@[go_sem] def thR (name : ByteArray) (lo : List ByteArray) (b : PV) : List PV := [strP name, intP 0, .sl (strR lo), b]
theorem decls_ok : FnEq Tryz.prog 73 [] (.pv (.sl dclR)) := by
  refine wf Tryz.func73 (fun _ => []) (h := fun R hR => ?_)
  refine wb ?_ <;> intros
  exact wr hR
theorem declAt_ok (l : List DR) (s : ByteArray) (hl : l.length ≤ 1000) : FnEq Tryz.prog 140 [.pv (.sl (l.map DR.r)), .pv (strP s)] (.pv (intP (atI (l.map DR.name) s))) := by
  refine wf Tryz.func140 (fun _ => []) (h := fun R hR => ?_)
  refine wb ?_ <;> intros
  refine wl (fun i : Nat => [(0, .pv (.sl (l.map DR.r))), (1, .pv (strP s)), (5, .pv (intP i))]) (fun _ => []) (fun i => i ≤ l.length ∧ atI (l.map DR.name) s = atFrom s i ((l.map DR.name).drop i)) (fun i => l.length - i) 0 ⟨Nat.zero_le _, rfl⟩ (vm []) (fun i ⟨hi, ha⟩ => ?_)
  refine wb (A2.mk ?_ ?_) <;> intros
  · have h2 : i < l.length := by omega
    refine row_map (x := l[i]) (Int.natCast_nonneg _) (by simp [h2]) rfl ?_
    refine wb (A2.mk ?_ ?_) <;> intros
    · rw [at_hit (i := i) (by simpa using h2) (by simpa using ‹l[i].name = s›) ha] at hR
      exact wr hR
    · exact sr_mark ⟨i + 1, ⟨h2, at_miss (i := i) (by simpa using h2) (by simpa using ‹_›) ha⟩, by omega, vm []⟩
  · rw [at_end (i := i) (by simp; omega) ha] at hR
    exact wr hR
end AM

/- The functions that Trace needs: statements that are made, as rows. -/
namespace AM
open Go Go.Proofs Mk
set_option linter.unusedVariables false
set_option linter.unusedSimpArgs false
set_option maxRecDepth 20000
theorem ACall.post {P : Program} {f : FuncId} {vs : List AV} {pre : List Obj} {p q : AV → List (Option Obj) → Prop} (h : ACall P f vs pre p) (hp : ∀ v g, p v g → q v g) : ACall P f vs pre q := fun fr Ψ loc w xs a b c d =>
  (h fr Ψ loc w xs a b c d).mono fun e w' ⟨r, v, g, Ψ', loc', h1, h2, h3⟩ => ⟨r, v, g, Ψ', loc', h1, hp _ _ h2, h3⟩
def lfE (l : Lf) : ER := ⟨l.op, l.n, l.name, []⟩
def lfR (l : Lf) : List PV := (lfE l).r
def exE (e : Ex) : ER := ⟨e.op, e.n, e.name, e.kids.map lfR⟩
theorem LfR.of {e : ER} (h : LfR e) : ∃ l, e = lfE l := by
  cases h with
  | @num n h => exact ⟨.num ⟨n, h⟩, rfl⟩
  | @var s h =>
    simp only [List.mem_cons, List.not_mem_nil, or_false] at h
    rcases h with rfl | rfl | rfl | rfl | rfl
    · exact ⟨.var .a, rfl⟩
    · exact ⟨.var .b, rfl⟩
    · exact ⟨.var .x, rfl⟩
    · exact ⟨.var .y, rfl⟩
    · exact ⟨.var .v, rfl⟩
theorem ExR.of {e : ER} (h : ExR e) : ∃ x, e = exE x := by
  cases h with
  | leaf h => obtain ⟨l, rfl⟩ := h.of; exact ⟨.leaf l, by cases l <;> rfl⟩
  | idx h => obtain ⟨l, rfl⟩ := h.of; exact ⟨.idx l, rfl⟩
  | bin ho ha hb =>
    obtain ⟨l, rfl⟩ := ha.of
    obtain ⟨r, rfl⟩ := hb.of
    simp only [List.mem_cons, List.not_mem_nil, or_false] at ho
    rcases ho with rfl | rfl | rfl | rfl | rfl | rfl
    · exact ⟨.bin 0 l r, rfl⟩
    · exact ⟨.bin 1 l r, rfl⟩
    · exact ⟨.bin 2 l r, rfl⟩
    · exact ⟨.bin 3 l r, rfl⟩
    · exact ⟨.bin 4 l r, rfl⟩
    · exact ⟨.bin 5 l r, rfl⟩
@[go_sem] def stR (op : Int) (name arg : ByteArray) (ix : List (List PV)) (e : ER) (b c : List (List PV)) : List PV := [intP op, intP 0, strP name, strP arg, .sl ix, intP e.op, intP e.n, strP e.s, .sl e.l, .sl b, .sl c]
def exO : Option Ex → ER
  | some e => exE e
  | none => ⟨0, 0, bE, []⟩
mutual
def smR : Sm → List PV
  | .ite e b c => stR 2 bE bE [] (exE e) (smRs b) (smRs c)
  | .whl e b => stR 3 bE bE [] (exE e) (smRs b) []
  | .blk k b => stR (Sm.op (.blk k [])) (Sm.name (.blk k [])) bE [] (exO none) (smRs b) []
  | .tx b => stR 7 bE bE [] (exO none) (smRs b) []
  | .atm b => stR 8 bE bE [] (exO none) (smRs b) []
  | s => stR s.op s.name s.arg (s.index.map lfR) (exO s.ex) [] []
def smRs : List Sm → List (List PV)
  | [] => []
  | s :: r => smR s :: smRs r
end
theorem smRs_map : ∀ l, smRs l = l.map smR
  | [] => rfl
  | s :: r => by simp only [smRs, List.map_cons, smRs_map r]
theorem smR_eq (s : Sm) : smR s = stR s.op s.name s.arg (s.index.map lfR) (exO s.ex) (s.body.map smR) (s.els.map smR) := by
  cases s <;> simp only [smR, smRs_map] <;> first | rfl | (rename_i k b; cases k <;> rfl) | skip
@[go_sem] theorem smR_len (s : Sm) : (smR s).length = 11 := by rw [smR_eq]; rfl
def SmD : Nat → Sm → Prop
  | 0, s => s.body = [] ∧ s.els = []
  | d + 1, s => (s.body.length ≤ 10 ∧ ∀ x ∈ s.body, SmD d x) ∧ s.els.length ≤ 10 ∧ ∀ x ∈ s.els, SmD d x
theorem assign_ok (s : ByteArray) (e : ER) : FnEq Tryz.prog 76 [.pv (strP s), rw_ e.r] (rw_ (stR 1 s bE [] e [] [])) := by
  refine wf Tryz.func76 (fun _ => []) (h := fun R hR => ?_)
  refine wb ?_ <;> intros
  all_goals exact wr hR
end AM

/- The functions that Trace needs: expressions that are shaped. -/
namespace AM
open Go Go.Proofs Mk
set_option linter.unusedVariables false
set_option linter.unusedSimpArgs false
set_option maxRecDepth 20000
def opnd (n : Int) : Int := if n = 1 ∨ n = 2 then 0 else if 3 ≤ n ∧ n ≤ 5 then 1 else if 6 ≤ n ∧ n ≤ 18 then 2 else -1
theorem operands_ok (n r : Int) (h : opnd n = r) : FnEq Tryz.prog 181 [.pv (intP n)] (.pv (intP r)) := by
  unfold opnd at h
  refine wf Tryz.func181 (fun _ => []) (h := fun R hR => ?_)
  refine wb (A2.mk ?_ (A2.mk ?_ (A2.mk ?_ (A2.mk ?_ (A2.mk ?_ ?_))))) <;> intros
  all_goals exact wr hR
theorem blank_ok : FnEq Tryz.prog 177 [rw_ (exO none).r] (.pv (boolP true)) := by
  unfold exO
  refine wf Tryz.func177 (fun _ => []) (h := fun R hR => ?_)
  refine wb ?_ <;> intros
  all_goals exact wr hR
attribute [local go_sem] lfR
theorem shapedLf (l : Lf) : FnEq Tryz.prog 176 [rw_ (lfR l)] (.pv (boolP true)) := by
  cases l with
  | num n =>
    simp only [lfR, lfE, Lf.op, Lf.n, Lf.name]
    refine wf Tryz.func176 (fun _ => [(1, 4), (2, 4)]) (h := fun R hR => ?_)
    refine wb ?_ <;> intros
    refine wE (operands_ok _ 0 rfl) ?_
    refine wb ?_ <;> intros
    refine w1 ?_
    refine wb ?_ <;> intros
    exact wr hR
  | var k =>
    cases k
    all_goals
      simp only [lfR, lfE, Lf.op, Lf.n, Lf.name, Nm.str]
      refine wf Tryz.func176 (fun _ => [(1, 4), (2, 4)]) (h := fun R hR => ?_)
      refine wb ?_ <;> intros
      refine wE (operands_ok _ 0 rfl) ?_
      refine wb ?_ <;> intros
      refine wE (isName_ok _ ?_) ?_
      decide +kernel
      refine wb ?_ <;> intros
      refine w1 ?_
      refine wb ?_ <;> intros
      exact wr hR
theorem shapedEx (x : Ex) : FnEq Tryz.prog 176 [rw_ (exE x).r] (.pv (boolP true)) := by
  cases x with
  | leaf l =>
    have := shapedLf l
    cases l <;> exact this
  | idx l =>
    simp only [exE, Ex.op, Ex.n, Ex.name, Ex.kids]
    refine wf Tryz.func176 (fun _ => [(1, 4), (2, 4)]) (h := fun R hR => ?_)
    refine wb ?_ <;> intros
    refine wE (operands_ok _ 1 rfl) ?_
    refine wb ?_ <;> intros
    refine wE (isName_ok _ ?_) ?_
    decide +kernel
    refine wb ?_ <;> intros
    refine w2 ?_
    refine wb ?_ <;> intros
    refine row_get (by omega) rfl rfl ?_
    refine wb ?_ <;> intros
    refine wE (shapedLf l) ?_
    refine wb ?_ <;> intros
    exact wr hR
  | bin k l r =>
    have hk : opnd (binOp k) = 2 ∧ binOp k ≠ 1 ∧ binOp k ≠ 2 ∧ binOp k ≠ 3 := by revert k; decide
    obtain ⟨hk, hk1, hk2, hk3⟩ := hk
    simp only [exE, Ex.op, Ex.n, Ex.name, Ex.kids]
    generalize binOp k = op at hk hk1 hk2 hk3
    refine wf Tryz.func176 (fun _ => [(1, 4), (2, 4)]) (h := fun R hR => ?_)
    refine wb ?_ <;> intros
    refine wE (operands_ok _ 2 hk) ?_
    refine wb ?_ <;> intros
    refine w3 ?_
    refine wb ?_ <;> intros
    refine row_get (by omega) rfl rfl ?_
    refine wb ?_ <;> intros
    refine wE (shapedLf l) ?_
    refine wb ?_ <;> intros
    refine row_get (by omega) rfl rfl ?_
    refine wb ?_ <;> intros
    refine wE (shapedLf r) ?_
    refine wb ?_ <;> intros
    exact wr hR
end AM

/- The functions that Trace needs: statements that are shaped. -/
namespace AM
open Go Go.Proofs Mk
set_option linter.unusedVariables false
set_option linter.unusedSimpArgs false
set_option maxRecDepth 20000
set_option maxHeartbeats 4000000
@[go_sem] theorem smR_take {s : Sm} : List.take 11 ((smR s).map AV.pv) = (smR s).map AV.pv := List.take_of_length_le (by simp [smR_len])
abbrev smL (l : List Sm) : PV := .sl (l.map smR)
def ShS (s : Sm) : Prop := FnEq Tryz.prog 166 [rw_ (smR s)] (.pv (boolP true))
def ShL (l : List Sm) : Prop := FnEq Tryz.prog 139 [.pv (smL l)] (.pv (boolP true))
theorem shL (l : List Sm) (hl : l.length ≤ 1000) (h : ∀ s ∈ l, ShS s) : ShL l := by
  unfold ShL
  refine wf Tryz.func139 (fun _ => []) (h := fun R hR => ?_)
  refine wb ?_ <;> intros
  refine wl (fun i : Nat => [(0, .pv (smL l)), (3, .pv (intP i))]) (fun _ => []) (fun i => i ≤ l.length) (fun i => l.length - i) 0 (Nat.zero_le _) (vm []) (fun i hi => ?_)
  refine wb (A2.mk ?_ ?_) <;> intros
  · refine row_pick l smR (by omega) (fun s hs => ?_)
    refine wb ?_ <;> intros
    refine wE (h s hs) ?_
    refine wb ?_ <;> intros
    exact sr_mark ⟨i + 1, by omega, by omega, vm []⟩
  · exact wr hR
theorem thName_eq (k : Nat) : thName k = ⟨#[109, 97, 105, 110]⟩ ∨ thName k = ⟨#[116, 49]⟩ ∨ thName k = ⟨#[116, 50]⟩ ∨ thName k = ⟨#[116, 51]⟩ := by
  match k with
  | 0 => exact .inl rfl
  | 1 => exact .inr (.inl rfl)
  | 2 => exact .inr (.inr (.inl rfl))
  | k + 3 => exact .inr (.inr (.inr rfl))
attribute [local go_sem] lfR
theorem shR (op : Int) (name arg : ByteArray) (ix : List Lf) (e : Option Ex) (b c : List Sm) (hb : ShL b) (he : ShL c) (hi : ix = [] ∨ op = 1 ∧ ∃ i, ix = [i])
    (h : e = none ∧ name = bE ∧ (op = 7 ∨ op = 8) ∧ arg = bE ∧ c = [] ∨ e = none ∧ nameB name = true ∧ 1 ≤ name.size ∧ (4 ≤ op ∧ op ≤ 6) ∧ arg = bE ∧ c = [] ∨ e = none ∧ nameB name = true ∧ 1 ≤ name.size ∧ (9 ≤ op ∧ op ≤ 13) ∧ arg = bE ∧ b = [] ∧ c = [] ∨ e = none ∧ nameB name = true ∧ 1 ≤ name.size ∧ op = 15 ∧ nameB arg = true ∧ 1 ≤ arg.size ∧ b = [] ∧ c = [] ∨
      ∃ x, e = some x ∧ arg = bE ∧ (name = bE ∧ (op = 2 ∨ op = 3 ∧ c = []) ∨ nameB name = true ∧ 1 ≤ name.size ∧ (op = 1 ∨ op = 14) ∧ b = [] ∧ c = [])) :
    FnEq Tryz.prog 166 [rw_ (stR op name arg (ix.map lfR) (exO e) (b.map smR) (c.map smR))] (.pv (boolP true)) := by
  unfold ShL at hb he
  obtain ⟨rfl, rfl, rfl | rfl, rfl, rfl⟩ | ⟨rfl, hn, hs, h, rfl, rfl⟩ | ⟨rfl, hn, hs, h, rfl, rfl, rfl⟩ | ⟨rfl, hn, hs, rfl, ha, has, rfl, rfl⟩ | ⟨x, rfl, rfl, ⟨rfl, rfl | ⟨rfl, rfl⟩⟩ | ⟨hn, hs, rfl | rfl, rfl, rfl⟩⟩ := h
  all_goals
    obtain rfl | ⟨h1, i, rfl⟩ := hi
    all_goals first | (exfalso; omega) | skip
    all_goals
      refine wf Tryz.func166 (fun _ => []) (h := fun R hR => ?_)
      repeat (refine wb ?_; intros; first | refine wE (isName_ok name hn) ?_ | refine wE (isName_ok arg ha) ?_ | refine wE (shapedLf i) ?_ | refine wE (shapedEx x) ?_ | refine wE blank_ok ?_ | refine wE hb ?_ | refine wE he ?_ | refine row_get (by omega) rfl rfl ?_)
      refine wb ?_
      intros
      exact wr hR
theorem shS (s : Sm) (hb : ShL s.body) (he : ShL s.els) : ShS s := by
  unfold ShS
  rw [smR_eq]
  refine shR _ _ _ _ _ _ _ hb he ?_ ?_
  · cases s <;> first | exact .inl rfl | exact .inr ⟨rfl, _, rfl⟩
  · cases s with
    | asg k e => exact .inr (.inr (.inr (.inr ⟨e, rfl, rfl, .inr ⟨show nameB k.str = true by cases k <;> decide +kernel, show 1 ≤ k.str.size by cases k <;> decide, .inl rfl, rfl, rfl⟩⟩)))
    | asq i e => exact .inr (.inr (.inr (.inr ⟨e, rfl, rfl, .inr ⟨by show nameB ⟨#[113]⟩ = true; decide +kernel, Nat.le_refl 1, .inl rfl, rfl, rfl⟩⟩)))
    | set e => exact .inr (.inr (.inr (.inr ⟨e, rfl, rfl, .inr ⟨by show nameB ⟨#[102]⟩ = true; decide +kernel, Nat.le_refl 1, .inr rfl, rfl, rfl⟩⟩)))
    | ite e b c => exact .inr (.inr (.inr (.inr ⟨e, rfl, rfl, .inl ⟨rfl, .inl rfl⟩⟩)))
    | whl e b => exact .inr (.inr (.inr (.inr ⟨e, rfl, rfl, .inl ⟨rfl, .inr ⟨rfl, rfl⟩⟩⟩)))
    | blk k b => exact .inr (.inl ⟨rfl, by cases k <;> (simp only [Sm.name]; decide +kernel), by cases k <;> exact Nat.le_refl 1, by cases k <;> (simp only [Sm.op]; decide), rfl, rfl⟩)
    | tx b => exact .inl ⟨rfl, rfl, .inl rfl, rfl, rfl⟩
    | atm b => exact .inl ⟨rfl, rfl, .inr rfl, rfl, rfl⟩
    | sig k => exact .inr (.inr (.inl ⟨rfl, by show nameB ⟨#[99]⟩ = true; decide +kernel, Nat.le_refl 1, by cases k <;> decide, rfl, rfl, rfl⟩))
    | spawn k => 
      have := thName_eq k
      exact .inr (.inr (.inl ⟨rfl, by simp only [Sm.name]; obtain h | h | h | h := this <;> (rw [h]; decide +kernel), by simp only [Sm.name]; obtain h | h | h | h := this <;> (rw [h]; decide), by simp only [Sm.op]; decide, rfl, rfl, rfl⟩))
    | join => exact .inr (.inr (.inl ⟨rfl, by show nameB ⟨#[116, 49]⟩ = true; decide +kernel, show 1 ≤ ByteArray.size ⟨#[116, 49]⟩ by decide, by decide, rfl, rfl, rfl⟩))
    | get => exact .inr (.inr (.inr (.inl ⟨rfl, by show nameB ⟨#[97]⟩ = true; decide +kernel, Nat.le_refl 1, rfl, by show nameB ⟨#[102]⟩ = true; decide +kernel, Nat.le_refl 1, rfl, rfl⟩)))
theorem shAll : ∀ (d : Nat) (s : Sm), SmD d s → ShS s
  | 0, s, h => shS s (h.1 ▸ shL [] (by decide) (by simp)) (h.2 ▸ shL [] (by decide) (by simp))
  | d + 1, s, h => shS s (shL _ (by have := h.1.1; omega) fun x hx => shAll d x (h.1.2 x hx)) (shL _ (by have := h.2.1; omega) fun x hx => shAll d x (h.2.2 x hx))
end AM

/- The functions that Trace needs: lists of statements that are made. -/
namespace AM
open Go Go.Proofs Mk
set_option linter.unusedVariables false
set_option linter.unusedSimpArgs false
set_option maxRecDepth 20000
def StC (xs : List UInt8) (d : Nat) : Prop := ∀ (k : Nat) (m : MS), k ≤ xs.length → m.held.length + d ≤ 100 → ACall Tryz.prog 110 [.ptr 0 0, .pv (intP d)] (m.os xs k) (fun v g => ∃ (s : Sm) (m' : MS) (k' : Nat), SmD d s ∧ m'.held = m.held ∧ k' ≤ xs.length ∧ v = rw_ (smR s) ∧ g = m'.og xs k')
abbrev smO (l : List Sm) : Obj := .row 196 11 (l.map smR)
def SsC (xs : List UInt8) (d : Nat) : Prop := ∀ (k : Nat) (m : MS) (n : Nat), k ≤ xs.length → m.held.length + d ≤ 100 → n ≤ 10 → ACall Tryz.prog 75 [.ptr 0 0, .pv (intP d), .pv (intP n)] (m.os xs k) (fun v g => ∃ (l : List Sm) (m' : MS) (k' : Nat), l.length ≤ n ∧ (∀ s ∈ l, SmD d s) ∧ m'.held = m.held ∧ k' ≤ xs.length ∧ v = .own 4 l.length ∧ g = m'.og xs k' ++ [some (smO l)])
theorem stmts_ok (xs : List UInt8) (d : Nat) (hS : StC xs d) : SsC xs d := by
  intro k m n hk hm hn
  refine wz Tryz.func75 (fun _ => []) (h := fun R hR => ?_)
  refine wb ?_ <;> intros
  refine sr_ghostE 7 196 11 (by exact we) ?_
  refine wl (fun t : Nat × List Sm × MS × Nat => [(0, .ptr 0 0), (1, .pv (intP d)), (2, .pv (intP n)), (7, .own 4 t.2.1.length), (8, .pv (intP t.1))]) (fun t => t.2.2.1.og xs t.2.2.2 ++ [some (smO t.2.1)]) (fun t => t.1 ≤ n ∧ t.2.1.length = t.1 ∧ (∀ s ∈ t.2.1, SmD d s) ∧ t.2.2.1.held = m.held ∧ t.2.2.2 ≤ xs.length) (fun t => n - t.1) (0, [], m, k) ⟨Nat.zero_le _, rfl, by simp, rfl, hk⟩ (vm [0, 1, 2, 2, 27]) (fun ⟨i, l, m1, k1⟩ ⟨h1, h2, h3, h4, h5⟩ => ?_)
  dsimp only at h1 h2 h3 h4 h5
  refine wb (A2.mk ?_ (A2.mk ?_ (A2.mk ?_ ?_))) <;> intros
  any_goals
    have hl : l.length ≤ 9 := by omega
    refine wq (hS k1 m1 h5 (by rw [h4]; exact hm)) [0, 1, 3] ?_
    rintro r g ⟨s, m2, k2, q1, q2, q3, rfl, rfl⟩
    refine wb ?_ <;> intros
    refine sr_mark ⟨(i + 1, l ++ [s], m2, k2), ⟨by omega, by simp [h2], fun x hx => ?_, by rw [q2, h4], q3⟩, by omega, vm [0, 1, 2, 141, 157]⟩
    rcases List.mem_append.1 hx with hx | hx
    · exact h3 x hx
    · rw [List.mem_singleton.1 hx]; exact q1
  all_goals
    refine wo hR (.own 4 l.length) (m1.og xs k1 ++ [some (smO l)]) [0, 1, 2, 3, 4] [] ?_
    exact ⟨l, m1, k1, by omega, h3, h4, h5, rfl, rfl⟩
def SsZ (xs : List UInt8) (d : Nat) : Prop := ∀ (k : Nat) (m : MS) (n : Nat), k ≤ xs.length → m.held.length + d ≤ 100 → n ≤ 10 → ACall Tryz.prog 75 [.ptr 0 0, .pv (intP d), .pv (intP n)] (m.os xs k) (fun v g => ∃ (l : List Sm) (m' : MS) (k' : Nat), l.length ≤ n ∧ (∀ s ∈ l, SmD d s) ∧ m'.held = m.held ∧ k' ≤ xs.length ∧ v = .pv (.sl (l.map smR)) ∧ g = m'.og xs k')
theorem stmts_fz (xs : List UInt8) (d : Nat) (hS : StC xs d) : SsZ xs d := by
  intro k m n hk hm hn
  refine wz Tryz.func75 (fun _ => []) (h := fun R hR => ?_)
  refine wb ?_ <;> intros
  refine sr_ghostE 7 196 11 (by exact we) ?_
  refine wl (fun t : Nat × List Sm × MS × Nat => [(0, .ptr 0 0), (1, .pv (intP d)), (2, .pv (intP n)), (7, .own 4 t.2.1.length), (8, .pv (intP t.1))]) (fun t => t.2.2.1.og xs t.2.2.2 ++ [some (smO t.2.1)]) (fun t => t.1 ≤ n ∧ t.2.1.length = t.1 ∧ (∀ s ∈ t.2.1, SmD d s) ∧ t.2.2.1.held = m.held ∧ t.2.2.2 ≤ xs.length) (fun t => n - t.1) (0, [], m, k) ⟨Nat.zero_le _, rfl, by simp, rfl, hk⟩ (vm [0, 1, 2, 2, 27]) (fun ⟨i, l, m1, k1⟩ ⟨h1, h2, h3, h4, h5⟩ => ?_)
  dsimp only at h1 h2 h3 h4 h5
  refine wb (A2.mk ?_ (A2.mk ?_ (A2.mk ?_ ?_))) <;> intros
  any_goals
    have hl : l.length ≤ 9 := by omega
    refine wq (hS k1 m1 h5 (by rw [h4]; exact hm)) [0, 1, 3] ?_
    rintro r g ⟨s, m2, k2, q1, q2, q3, rfl, rfl⟩
    refine wb ?_ <;> intros
    refine sr_mark ⟨(i + 1, l ++ [s], m2, k2), ⟨by omega, by simp [h2], fun x hx => ?_, by rw [q2, h4], q3⟩, by omega, vm [0, 1, 2, 141, 157]⟩
    rcases List.mem_append.1 hx with hx | hx
    · exact h3 x hx
    · rw [List.mem_singleton.1 hx]; exact q1
  all_goals
    refine wo hR (.pv (.sl (l.map smR))) (m1.og xs k1) [0, 1, 2, 3] [(4, none)] ?_
    exact ⟨l, m1, k1, by omega, h3, h4, h5, rfl, rfl⟩
end AM

/- The functions that Trace needs: the statements inside a lock. -/
namespace AM
open Go Go.Proofs Mk
set_option linter.unusedVariables false
set_option linter.unusedSimpArgs false
set_option maxRecDepth 20000
theorem block_ok (xs : List UInt8) (hx : xs.length ≤ 1000) (d : Nat) (hS : SsC xs d) (k : Nat) (m : MS) (s : ByteArray) (hk : k ≤ xs.length) (hm : m.held.length + d + 1 ≤ 100) : ACall Tryz.prog 152 [.ptr 0 0, .pv (strP s), .pv (intP d)] (m.os xs k) (fun v g => ∃ (l : List Sm) (m' : MS) (k' : Nat), l.length ≤ 10 ∧ (∀ s ∈ l, SmD d s) ∧ m'.held = m.held ∧ k' ≤ xs.length ∧ v = .own 4 l.length ∧ g = m'.og xs k' ++ [some (smO l)]) := by
  refine wz Tryz.func152 (fun _ => [(4, 8)]) (h := fun R hR => ?_)
  refine wb ?_ <;> intros
  refine wq (next_ok xs k 2 hx hk (by decide) (by decide)) [1] ?_
  rintro r g ⟨rfl, k1, hk1, rfl⟩
  have hn := nxt_lt xs k (n := 2) (by decide)
  refine ws ?_
  refine wq (hS k1 { m with held := m.held ++ [s] } (1 + nxt xs k 2) hk1 (by simp; omega) (by omega)) [0, 1, 67] ?_
  rintro r g ⟨l, m2, k2, q1, q2, q3, q4, rfl, rfl⟩
  obtain ⟨th2, left2, set2, tx2, at2, lo2, held2⟩ := m2
  dsimp only at q3
  subst q3
  refine wb ?_ <;> intros
  have h9 : ((m.held.length : Int) + 1 - 1).toNat = (m.held.map fun s => [strP s]).length := by simp
  refine wo hR (.own 4 l.length) (MS.og ⟨th2, left2, set2, tx2, at2, lo2, m.held⟩ xs k2 ++ [some (smO l)]) [0, 1, 2, 267, 164] [] ?_
  exact ⟨l, ⟨th2, left2, set2, tx2, at2, lo2, m.held⟩, k2, by omega, q2, rfl, q4, rfl, rfl⟩
end AM
