/- The functions that Trace needs: names in lists. -/
import Derived.Test.YtaiaoiochbpmfaaGreatFzj
import Derived.Test.YtaiaoiochbpmfaaGreatTg
import Derived.Test.YtaiaoiochbpmfaaGreatTh
namespace AM
open Go Go.Proofs Mk
set_option linter.unusedVariables false
set_option linter.unusedSimpArgs false
set_option maxRecDepth 20000
abbrev strR (ss : List ByteArray) : List (List PV) := ss.map fun s => [strP s]
theorem at_ok (ss : List ByteArray) (s : ByteArray) (hl : ss.length ≤ 1000000) : FnEq Tryz.prog 92 [.pv (.sl (strR ss)), .pv (strP s)] (.pv (intP (atI ss s))) := by
  refine wf Tryz.func92 (fun _ => []) (h := fun R hR => ?_)
  refine wb ?_ <;> intros
  refine wl (fun i : Nat => [(0, .pv (.sl (strR ss))), (1, .pv (strP s)), (5, .pv (intP i))]) (fun _ => []) (fun i => i ≤ ss.length ∧ atI ss s = atFrom s i (ss.drop i)) (fun i => ss.length - i) 0 ⟨Nat.zero_le _, rfl⟩ (vm []) (fun i ⟨hi, ha⟩ => ?_)
  refine wb (A2.mk ?_ ?_) <;> intros
  · have h2 : i < ss.length := by omega
    refine row_map (x := ss[i]) (Int.natCast_nonneg _) (by simp [h2]) rfl ?_
    refine wb (A2.mk ?_ ?_) <;> intros
    · rw [Mk.at_hit h2 ‹_› ha] at hR
      exact wr hR
    · exact sr_mark ⟨i + 1, ⟨h2, at_miss h2 ‹_› ha⟩, by omega, vm []⟩
  · rw [at_end (by omega) ha] at hR
    exact wr hR
theorem atO_ok (ss : List ByteArray) (s : ByteArray) (hl : ss.length ≤ 1000000) : ACall Tryz.prog 92 [.own 0 ss.length, .pv (strP s)] [.row 9 1 (strR ss)] (fun v g => v = .pv (intP (atI ss s)) ∧ g = [some (.row 9 1 (strR ss))]) := by
  refine wz Tryz.func92 (fun _ => []) (h := fun R hR => ?_)
  refine wb ?_ <;> intros
  refine wl (fun i : Nat => [(0, .own 0 ss.length), (1, .pv (strP s)), (5, .pv (intP i))]) (fun _ => [some (.row 9 1 (strR ss))]) (fun i => i ≤ ss.length ∧ atI ss s = atFrom s i (ss.drop i)) (fun i => ss.length - i) 0 ⟨Nat.zero_le _, rfl⟩ (vm [0]) (fun i ⟨hi, ha⟩ => ?_)
  refine wb (A2.mk ?_ ?_) <;> intros
  · have h2 : i < ss.length := by omega
    refine ld_get (x := [strP ss[i]]) (by simp [h2]) rfl ?_
    refine wb (A2.mk ?_ ?_) <;> intros
    · refine wo hR (.pv (intP i)) [some (.row 9 1 (strR ss))] [0] [] ?_
      exact ⟨by rw [Mk.at_hit h2 ‹_› ha], rfl⟩
    · exact sr_mark ⟨i + 1, ⟨h2, at_miss h2 ‹_› ha⟩, by omega, vm [0]⟩
  · refine wo hR (.pv (intP (-1))) [some (.row 9 1 (strR ss))] [0] [] ?_
    exact ⟨by rw [at_end (by omega) ha], rfl⟩
theorem holds_ok (xs : List UInt8) (k : Nat) (m : MS) (s : ByteArray) (hm : m.held.length ≤ 1000000) : ACall Tryz.prog 138 [.ptr 0 0, .pv (strP s)] (m.os xs k) (fun v g => (∃ b, v = .pv (boolP b)) ∧ g = (m.os xs k).map some) := by
  refine wz Tryz.func138 (fun _ => []) (h := fun R hR => ?_)
  refine wb ?_ <;> intros
  refine wq (atO_ok m.held s hm) [2] ?_
  rintro r g ⟨rfl, rfl⟩
  refine wb ?_ <;> intros
  refine wo hR (.pv (boolP (decide (0 ≤ atI m.held s)))) ((m.os xs k).map some) [0, 1, 2] [] ?_
  exact ⟨⟨_, rfl⟩, rfl⟩
end AM

/- The functions that Trace needs: how worlds and codes are told. -/
namespace AM
open Go Go.Proofs Mk
set_option linter.unusedVariables false
set_option linter.unusedSimpArgs false
set_option maxRecDepth 20000
set_option maxHeartbeats 8000000
structure CeR where
  name : ByteArray
  ix : Int
  size : Int
  vol : Bool
  init : Int
@[go_sem] def CeR.r (c : CeR) : List PV := [strP c.name, intP c.ix, intP c.size, boolP c.vol, intP c.init]
def ceL : List CeR := [⟨⟨#[120]⟩, 0, 0, false, 0⟩, ⟨⟨#[121]⟩, 0, 0, false, 1⟩, ⟨⟨#[118]⟩, 0, 0, true, 0⟩, ⟨⟨#[113]⟩, 0, 2, false, 0⟩, ⟨⟨#[113]⟩, 1, 2, false, 0⟩]
def lkL : List (ByteArray × Bool) := [(⟨#[109]⟩, false), (⟨#[110]⟩, false), (⟨#[114]⟩, true)]
@[go_sem] def lkR (p : ByteArray × Bool) : List PV := [strP p.1, boolP p.2]
def cdL : List (ByteArray × Int) := [(⟨#[99]⟩, 0)]
@[go_sem] def cdR (p : ByteArray × Int) : List PV := [strP p.1, intP p.2]
def fuL : List ByteArray := [⟨#[102]⟩]
@[go_sem] def siR (p : Nat × Nat) : List PV := [intP p.1, intP p.2, intP 0]
@[go_sem] def wldR (n : Nat) (ss : List (Nat × Nat)) : List PV := [.sl (ceL.map CeR.r), .sl (lkL.map lkR), .sl (cdL.map cdR), .sl (strR fuL), .sl (strR (thNames n)), .sl (ss.map siR)]
@[go_sem] theorem ceL_len : ceL.length = 5 := rfl
@[go_sem] theorem lkL_len : lkL.length = 3 := rfl
@[go_sem] theorem cdL_len : cdL.length = 1 := rfl
@[go_sem] theorem fuL_len : fuL.length = 1 := rfl
end AM
namespace Mk
open AM
@[go_sem] def In.r (i : In) : List PV := [intP i.op, intP i.a, intP i.b, intP i.c, intP i.n, intP i.site]
end Mk
namespace AM
open Go Go.Proofs Mk
set_option linter.unusedVariables false
set_option linter.unusedSimpArgs false
set_option maxRecDepth 20000
set_option maxHeartbeats 8000000
abbrev inL (l : List Int) : List (List PV) := l.map fun x => [intP x]
theorem registers_ok (i : In) : FnEq Tryz.prog 80 [rw_ i.r] (.pv (.sl (inL (regsI i)))) := by
  obtain ⟨op, a, b, c, n, st⟩ := i
  unfold regsI
  dsimp only
  refine wf Tryz.func80 (fun _ => []) (h := fun R hR => ?_)
  refine wb (A2.mk ?_ (A2.mk ?_ (A2.mk ?_ (A2.mk ?_ (A2.mk ?_ (A2.mk ?_ (A2.mk ?_ (A2.mk ?_ (A2.mk ?_ (A2.mk ?_ (A2.mk ?_ ?_))))))))))) <;> intros
  all_goals exact wr hR
@[go_sem] def tcR (p : Int × List In) : List PV := [intP p.1, .sl (p.2.map In.r)]
@[go_sem] def coR (n : Nat) (ss : List (Nat × Nat)) (cs : List (Int × List In)) : List PV := [.sl (ceL.map CeR.r), .sl (lkL.map lkR), .sl (cdL.map cdR), .sl (strR fuL), .sl (strR (thNames n)), .sl (ss.map siR), .sl (cs.map tcR)]
end AM

/- The functions that Trace needs: the state of a thread is copied. -/
namespace AM
open Go Go.Proofs
set_option linter.unusedVariables false
set_option linter.unusedSimpArgs false
set_option maxRecDepth 20000
set_option maxHeartbeats 8000000
@[go_sem] def tsR (b : Nat) (pc : Int) (r s : Nat) (ev : Int) : List PV := [intP pc, .tr [.int .i64] r, .tr [.asc b] s, intP ev]
def us123 : Nat → List (Nat × Nat) := fun i => if i = 1 then [(1, 3), (1, 6), (3, 6), (1, 7), (3, 7), (1, 9), (3, 9), (6, 9), (7, 9)] else if i = 5 then [(1, 4), (1, 6), (1, 7), (1, 8)] else []
@[go_sem] def nLR (m : List Nat) : List PV := [.sl (nL m)]
theorem rows_nLR {b : Nat} {u : List (List Nat)} (h : ∀ m ∈ u, Asc b m) : rowsB [.asc b] (u.map nLR) := by
  intro row hr
  obtain ⟨x, hx, rfl⟩ := List.mem_map.1 hr
  exact ⟨asc_ok (h x hx), trivial⟩
attribute [local go_sem] List.set_cons_zero List.set_cons_succ List.map_append List.length_append List.map_cons List.map_nil List.length_singleton
theorem copy7_ok (b b' : Nat) (hb : b ≤ b') (h4 : b' ≤ 400) (pc : Int) (r s : Nat) (ev : Int) (hr : r ≤ 5) (hs : s ≤ 5) : FnEq Tryz.prog 123 [rw_ (tsR b pc r s ev)] (rw_ (tsR b' pc r s ev)) := by
  refine wf Tryz.func123 us123 (h := fun R hR => ?_)
  refine wb ?_ <;> intros
  refine sr_ghost 88 2 37 1 rfl rfl ?_
  refine wl (fun u : List (List Nat) => [(1, .ptr 0 0), (2, .ptr 1 0), (3, .ptr 2 0), (4, .pv (intP u.length))]) (fun u => [some (.box ((tsR b pc r s ev).map .pv)), some (.box [.pv (intP 0), .emp, .emp, .pv (intP 0)]), some (.box [.pv (intP pc), .pv (.tr [.int .i64] r), .own 3 u.length, .pv (intP ev)]), some (.row 37 1 (u.map nLR))]) (fun u => u.length ≤ s ∧ ∀ m ∈ u, Asc b m) (fun u => s - u.length) [] ⟨Nat.zero_le _, fun _ h => nomatch h⟩ (vm [0, 8, 88, 112]) (fun u ⟨hu, hx⟩ => ?_)
  refine wb (A2.mk ?_ ?_) <;> intros
  · refine ty_asc fun l hl => ?_
    have hl4 : l.length ≤ 400 := Nat.le_trans hl.len (Nat.le_trans hb h4)
    refine wb ?_ <;> intros
    exact sr_mark ⟨u ++ [l], ⟨by rw [List.length_append]; simp only [List.length_singleton]; omega, fun m hm => by
      rcases List.mem_append.1 hm with hm | hm
      · exact hx m hm
      · rw [List.mem_singleton.1 hm]; exact hl⟩, by rw [List.length_append]; simp only [List.length_singleton]; omega, vm [0, 1, 2, 124]⟩
  · have hu2 : u.length = s := by omega
    exact wr hR [(3, some [.asc b'])] (hf := by refine ws ?_; exact ⟨by simp, rows_nLR (fun m hm => (hx m hm).weak hb)⟩) (hE := by refine ws ?_; rw [hu2]; exact ⟨rfl, rfl⟩)
end AM

/- The functions that Trace needs: the object of an event. -/
namespace AM
open Go Go.Proofs Mk
set_option linter.unusedVariables false
set_option linter.unusedSimpArgs false
set_option maxRecDepth 20000
set_option maxHeartbeats 8000000
def us116 : Nat → List (Nat × Nat) := fun i => if i = 6 then [(1, 3), (1, 5), (3, 5), (1, 6), (1, 7), (1, 9), (3, 9), (5, 9), (6, 9), (7, 9), (1, 10)] else if i = 8 then [(1, 3), (1, 5), (3, 5), (1, 6), (1, 7), (1, 9), (3, 9), (5, 9), (6, 9), (7, 9), (1, 10)] else []
def ObW (r : AV) : Prop := ∃ o, i64 o ∧ r = .pv (intP o)
theorem object_ok (n : Nat) (hn : n ≤ 4) (i : In) (h1 : 1 ≤ i.op ∧ i.op ≤ 28) (ho : ObjI n i) (hj : i.op = 5 → 0 ≤ i.a ∧ i.a ≤ 1000) (hnn : i64 i.n) (b : Nat) (pc : Int) (r : Nat) (hr : r ≤ 5) (hg : ∀ q ∈ regsI i, 0 ≤ q ∧ q < (r : Int)) (ev : Int) :
    FnOk Tryz.prog 116 [rw_ i.r, rw_ (tsR b pc r r ev)] ObW := by
  obtain ⟨op, ia, ib, ic, nn, st⟩ := i
  obtain ⟨o3, o4, o6, o7, o8, o9, o11, o13, o21, o24, o26, o27⟩ := ho
  dsimp only at h1 o3 o4 o6 o7 o8 o9 o11 o13 o21 o24 o26 o27 hj hnn
  have z : ∀ q : Int, -100 ≤ q ∧ q ≤ 2000 → i64 q := fun q h => i64_iff.2 (by omega)
  refine wf Tryz.func116 us116 (h := fun R hR => ?_)
  refine wb (A2.mk ?_ (A2.mk ?_ (A2.mk ?_ (A2.mk ?_ (A2.mk ?_ (A2.mk ?_ (A2.mk ?_ (A2.mk ?_ (A2.mk ?_ (A2.mk ?_ ?_)))))))))) <;> intros
  · exact wt hR (.pv (intP ib)) [] ⟨_, z ib (by omega), rfl⟩
  · exact wt hR (.pv (intP ib)) [] ⟨_, z ib (by omega), rfl⟩
  · have e7 : op = 7 := by assumption
    subst e7
    obtain ⟨rfl, rfl⟩ := o7 rfl
    have hq := hg ic (by simp [regsI])
    refine And.intro (by omega) ?_
    refine ty_int fun x hx => ?_
    refine wb ?_ <;> intros
    refine wG (index5_ok x 2 hx hnn) (.pv (intP 0)) ⟨0, i64_0, rfl, by decide⟩ ?_
    rintro v ⟨y, hy, rfl, hy2⟩
    have hy3 := hy2 (by decide)
    refine wb ?_ <;> intros
    exact wt hR (.pv (intP (3 + y))) [] ⟨_, z _ (by omega), rfl⟩
  · have e9 : op = 9 := by assumption
    subst e9
    obtain ⟨rfl, rfl⟩ := o9 rfl
    have hq := hg ic (by simp [regsI])
    refine And.intro (by omega) ?_
    refine ty_int fun x hx => ?_
    refine wb ?_ <;> intros
    refine wG (index5_ok x 2 hx hnn) (.pv (intP 0)) ⟨0, i64_0, rfl, by decide⟩ ?_
    rintro v ⟨y, hy, rfl, hy2⟩
    have hy3 := hy2 (by decide)
    refine wb ?_ <;> intros
    exact wt hR (.pv (intP (3 + y))) [] ⟨_, z _ (by omega), rfl⟩
  · exact wt hR (.pv (intP (-1))) [] ⟨_, z _ (by decide), rfl⟩
  · exact wt hR (.pv (intP (-1))) [] ⟨_, z _ (by decide), rfl⟩
  · exact wt hR (.pv (intP (-1))) [] ⟨_, z _ (by decide), rfl⟩
  · exact wt hR (.pv (intP (-1))) [] ⟨_, z _ (by decide), rfl⟩
  · exact wt hR (.pv (intP (-1))) [] ⟨_, z _ (by decide), rfl⟩
  · exact wt hR (.pv (intP (-1))) [] ⟨_, z _ (by decide), rfl⟩
  · have ha : -100 ≤ ia ∧ ia ≤ 2000 := by
      by_cases h5 : op ≤ 5
      · by_cases h6 : op = 5
        · have := hj h6; omega
        · have : ia ∈ regsI ⟨op, ia, ib, ic, nn, st⟩ := by
            obtain rfl | rfl | rfl : op = 1 ∨ op = 2 ∨ op = 4 := by omega
            all_goals simp [regsI]
          have := hg ia this
          omega
      · omega
    exact wt hR (.pv (intP ia)) [] ⟨_, z _ ha, rfl⟩
end AM

/- The functions that Trace needs: names. -/
namespace AM
open Go Go.Proofs Mk
set_option linter.unusedVariables false
set_option linter.unusedSimpArgs false
set_option maxRecDepth 20000
abbrev u8P (n : Int) : PV := .sc (.int .u8 n)
def letB (n : Int) : Bool := decide (97 ≤ n) && decide (n ≤ 122) || decide (65 ≤ n) && decide (n ≤ 90)
def digB (n : Int) : Bool := decide (48 ≤ n) && decide (n ≤ 57)
def innB (n : Int) : Bool := letB n || digB n || decide (n = 95)
theorem letter_ok (n : Int) : FnEq Tryz.prog 109 [.pv (u8P n)] (.pv (boolP (letB n))) := by
  unfold letB
  refine wf Tryz.func109 (fun _ => []) (h := fun R hR => ?_)
  refine wb (A2.mk ?_ (A2.mk ?_ (A2.mk ?_ ?_))) <;> intros
  all_goals exact wr hR
theorem digit_ok (n : Int) : FnEq Tryz.prog 141 [.pv (u8P n)] (.pv (boolP (digB n))) := by
  unfold digB
  refine wf Tryz.func141 (fun _ => []) (h := fun R hR => ?_)
  refine wb (A2.mk ?_ ?_) <;> intros
  all_goals exact wr hR
theorem inner_ok (n : Int) : FnEq Tryz.prog 111 [.pv (u8P n)] (.pv (boolP (innB n))) := by
  unfold innB
  refine wf Tryz.func111 (fun _ => []) (h := fun R hR => ?_)
  refine wb ?_ <;> intros
  refine wE (letter_ok n) ?_
  refine wb (A2.mk ?_ ?_) <;> intros
  · exact wr hR
  refine wE (digit_ok n) ?_
  refine wb (A2.mk ?_ ?_) <;> intros
  all_goals exact wr hR
def kwds : List ByteArray := [⟨#[118, 97, 114]⟩, ⟨#[118, 111, 108, 97, 116, 105, 108, 101]⟩, ⟨#[109, 117, 116, 101, 120]⟩, ⟨#[114, 119, 108, 111, 99, 107]⟩, ⟨#[99, 111, 110, 100]⟩, ⟨#[102, 117, 116, 117, 114, 101]⟩, ⟨#[116, 104, 114, 101, 97, 100]⟩, ⟨#[105, 102]⟩, ⟨#[101, 108, 115, 101]⟩, ⟨#[119, 104, 105, 108, 101]⟩, ⟨#[108, 111, 99, 107]⟩, ⟨#[114, 101, 97, 100]⟩, ⟨#[119, 114, 105, 116, 101]⟩, ⟨#[116, 114, 97, 110, 115, 97, 99, 116, 105, 111, 110]⟩, ⟨#[97, 116, 111, 109, 105, 99]⟩, ⟨#[119, 97, 105, 116]⟩, ⟨#[110, 111, 116, 105, 102, 121]⟩, ⟨#[110, 111, 116, 105, 102, 121, 97, 108, 108]⟩, ⟨#[115, 112, 97, 119, 110]⟩, ⟨#[106, 111, 105, 110]⟩, ⟨#[115, 101, 116]⟩, ⟨#[103, 101, 116]⟩]
theorem kwds_ok : FnEq Tryz.prog 140 [] (.pv (.sl (strR kwds))) := by
  refine wf Tryz.func140 (fun _ => []) (h := fun R hR => ?_)
  refine wb ?_ <;> intros
  exact wr hR
theorem kw22 : kwds.length = 22 := rfl
theorem isKw_ok (s : ByteArray) (h : kwds.any (fun k => decide (k = s)) = false) : FnEq Tryz.prog 110 [.pv (strP s)] (.pv (boolP false)) := by
  have h22 := kw22
  refine wf Tryz.func110 (fun _ => []) (h := fun R hR => ?_)
  refine wb ?_ <;> intros
  refine wE kwds_ok ?_
  refine wb ?_ <;> intros
  refine wl (fun i : Nat => [(0, .pv (strP s)), (3, .pv (.sl (strR kwds))), (4, .pv (intP i))]) (fun _ => []) (fun i => i ≤ kwds.length) (fun i => kwds.length - i) 0 (Nat.zero_le _) (vm []) (fun i hi => ?_)
  refine wb (A2.mk ?_ ?_) <;> intros
  · refine row_pick kwds (fun x => [strP x]) (by omega) (fun x hx => ?_)
    refine wb (A2.mk ?_ ?_) <;> intros
    · simp only [List.any_eq_false, decide_eq_true_eq] at h; exact absurd ‹_› (h x hx)
    · exact sr_mark ⟨i + 1, by omega, by omega, vm []⟩
  · exact wr hR
def nameB (s : ByteArray) : Bool := decide (1 ≤ s.size) && decide (s.size ≤ 12) && letB ((s[0]?).getD 0).toNat && (List.range s.size).all (fun i => innB ((s[i]?).getD 0).toNat) && !kwds.any (fun k => decide (k = s))
theorem isName_ok (s : ByteArray) (h : nameB s = true) : FnEq Tryz.prog 91 [.pv (strP s)] (.pv (boolP true)) := by
  simp only [nameB, Bool.and_eq_true, decide_eq_true_eq, Bool.not_eq_true', List.all_eq_true, List.mem_range] at h
  obtain ⟨⟨⟨⟨h1, h2⟩, h3⟩, h4⟩, h5⟩ := h
  refine wf Tryz.func91 (fun _ => []) (h := fun R hR => ?_)
  refine wb ?_ <;> intros
  refine wE (letter_ok _) ?_
  simp only [Int.toNat_zero, h3]
  refine wb ?_ <;> intros
  refine wE (isKw_ok s h5) ?_
  refine wb ?_ <;> intros
  refine wl (fun i : Nat => [(0, .pv (strP s)), (3, .pv (intP i))]) (fun _ => []) (fun i => i ≤ s.size) (fun i => s.size - i) 0 (Nat.zero_le _) (vm []) (fun i hi => ?_)
  refine wb (A2.mk ?_ ?_) <;> intros
  · refine wE (inner_ok _) ?_
    rw [h4 i (by omega)]
    refine wb ?_ <;> intros
    exact sr_mark ⟨i + 1, by omega, by omega, vm []⟩
  · exact wr hR
end AM

/- The functions that Trace needs: declarations, threads. -/
namespace AM
open Go Go.Proofs Mk
set_option linter.unusedVariables false
set_option linter.unusedSimpArgs false
set_option maxRecDepth 20000
set_option maxHeartbeats 4000000
structure DR where
  kind : Int
  name : ByteArray
  size : Int
  init : Int
  on : ByteArray
@[go_sem] def DR.r (d : DR) : List PV := [intP d.kind, intP 0, strP d.name, intP d.size, intP d.init, strP d.on]
def dL : List DR := [⟨1, ⟨#[120]⟩, 0, 0, bE⟩, ⟨1, ⟨#[121]⟩, 0, 1, bE⟩, ⟨2, ⟨#[118]⟩, 0, 0, bE⟩, ⟨1, ⟨#[113]⟩, 2, 0, bE⟩, ⟨3, ⟨#[109]⟩, 0, 0, bE⟩, ⟨3, ⟨#[110]⟩, 0, 0, bE⟩, ⟨4, ⟨#[114]⟩, 0, 0, bE⟩, ⟨5, ⟨#[99]⟩, 0, 0, ⟨#[109]⟩⟩, ⟨6, ⟨#[102]⟩, 0, 0, bE⟩]
@[go_sem] theorem dL_len : dL.length = 9 := rfl
abbrev dclR : List (List PV) := dL.map DR.r
@[go_sem] def thR (name : ByteArray) (lo : List ByteArray) (b : PV) : List PV := [strP name, intP 0, .sl (strR lo), b]
theorem decls_ok : FnEq Tryz.prog 81 [] (.pv (.sl dclR)) := by
  refine wf Tryz.func81 (fun _ => []) (h := fun R hR => ?_)
  refine wb ?_ <;> intros
  exact wr hR
theorem declAt_ok (l : List DR) (s : ByteArray) (hl : l.length ≤ 1000) : FnEq Tryz.prog 127 [.pv (.sl (l.map DR.r)), .pv (strP s)] (.pv (intP (atI (l.map DR.name) s))) := by
  refine wf Tryz.func127 (fun _ => []) (h := fun R hR => ?_)
  refine wb ?_ <;> intros
  refine wl (fun i : Nat => [(0, .pv (.sl (l.map DR.r))), (1, .pv (strP s)), (5, .pv (intP i))]) (fun _ => []) (fun i => i ≤ l.length ∧ atI (l.map DR.name) s = atFrom s i ((l.map DR.name).drop i)) (fun i => l.length - i) 0 ⟨Nat.zero_le _, rfl⟩ (vm []) (fun i ⟨hi, ha⟩ => ?_)
  refine wb (A2.mk ?_ ?_) <;> intros
  · have h2 : i < l.length := by omega
    refine row_map (x := l[i]) (Int.natCast_nonneg _) (by simp [h2]) rfl ?_
    refine wb (A2.mk ?_ ?_) <;> intros
    · rw [at_hit (i := i) (by simpa using h2) (by simpa using ‹l[i].name = s›) ha] at hR
      exact wr hR
    · exact sr_mark ⟨i + 1, ⟨h2, at_miss (i := i) (by simpa using h2) (by simpa using ‹_›) ha⟩, by omega, vm []⟩
  · rw [at_end (i := i) (by simp; omega) ha] at hR
    exact wr hR
end AM
