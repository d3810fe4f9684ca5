/- The functions that Trace needs: the compiler's statement. -/
import Derived.Test.YtfbkkgfkhhibfaaGreatFx
namespace AM
open Go Go.Proofs Mk
set_option linter.unusedVariables false
set_option linter.unusedSimpArgs false
set_option maxRecDepth 20000
set_option maxHeartbeats 8000000
def us107 : Nat → List (Nat × Nat) := fun i => if i = 11 then [(1, 6), (1, 8), (6, 8), (1, 9)] else if i = 13 then [(1, 6), (1, 8), (6, 8), (1, 9)] else if i = 15 then [(1, 6), (1, 8), (6, 8), (1, 9)] else if i = 27 then [(5, 7)] else if i = 29 then [(5, 7)] else if i = 32 then [(5, 7)] else if i = 34 then [(4, 6), (4, 12), (6, 12), (7, 12), (4, 14), (6, 14), (7, 14), (12, 14)] else []
theorem gstmt_ok (n : Nat) (hn4 : n ≤ 4) (s : Sm) (hb : GsC n s.body) (hc : GsC n s.els) : GtC n s := by
  intro ss out site next ho hn
  have hcs := cntS_eq s
  have A := around_ok n s hb
  rcases s with ⟨k, e⟩ | ⟨i, e⟩ | ⟨e, b, _ | ⟨c, cr⟩⟩ | ⟨e, b⟩ | ⟨k, b⟩ | b | b | k | k | _ | e | _
  all_goals
    simp only [Sm.op, Sm.name, Sm.arg, Sm.index, Sm.ex, Sm.body, Sm.els, exO, List.map_nil, List.map_cons, genS, cntL, cntS] at ho hn hb hc hcs A ⊢
  · refine wz Tryz.func109 us107 (h := fun R hR => ?_)
    refine wb ?_ <;> intros
    refine wq (assign_asg k e n ss out next ((next + 1 : Nat) : Int) (by omega)) [0, 1] ?_
    rintro r g ⟨rfl, rfl⟩
    refine wb ?_ <;> intros
    exact wd hR _ [0, 1, 234] [] ⟨rfl, (next : Int), rfl⟩
  · refine wz Tryz.func109 us107 (h := fun R hR => ?_)
    refine wb ?_ <;> intros
    refine wq (assign_asq i e n ss out next ((next + 1 : Nat) : Int) (by omega)) [0, 1] ?_
    rintro r g ⟨rfl, rfl⟩
    refine wb ?_ <;> intros
    exact wd hR _ [0, 1, 234] [] ⟨rfl, (next : Int), rfl⟩
  · refine wz Tryz.func109 us107 (h := fun R hR => ?_)
    refine wb ?_ <;> intros
    refine wq (brn_ite0 n e b hb ss out next (next + 1) (by omega) (by omega)) [0, 1] ?_
    rintro r g ⟨rfl, rfl⟩
    refine wb ?_ <;> intros
    exact wd hR _ [0, 1, 250] [] ⟨rfl, (next : Int), rfl⟩
  · refine wz Tryz.func109 us107 (h := fun R hR => ?_)
    refine wb ?_ <;> intros
    refine wq (brn_ite1 n e b (c :: cr) hb hc ss out next (next + 1) (by simp only [cntL]; omega) (by simp only [cntL]; omega) (by simp)) [0, 1] ?_
    rintro r g ⟨rfl, site', rfl⟩
    rw [show next + (1 + cntL b + (cntS c + cntL cr)) = next + 1 + (cntL b + cntL (c :: cr)) by simp only [cntL]; omega] at hR
    refine wb ?_ <;> intros
    exact wd hR _ [0, 1, 250] [] ⟨rfl, site', rfl⟩
  · refine wz Tryz.func109 us107 (h := fun R hR => ?_)
    refine wb ?_ <;> intros
    refine wq (brn_whl n e b hb ss out next (next + 1) (by omega) (by omega)) [0, 1] ?_
    rintro r g ⟨rfl, rfl⟩
    rw [show next + (1 + cntL b) = next + 1 + cntL b by omega] at hR
    refine wb ?_ <;> intros
    exact wd hR _ [0, 1, 266] [] ⟨rfl, (next : Int), rfl⟩
  · cases k
    all_goals
      simp only [Bk.fst, Bk.obj]
      refine wz Tryz.func109 us107 (h := fun R hR => ?_)
      refine wb ?_ <;> intros
    · refine wE (lockAt_v lkL ⟨#[109]⟩ 0 (by decide) rfl) ?_
      refine wb ?_ <;> intros
      refine wQ (A 11 12 0 ss out next (next + 1) (by omega) (by omega)) [0, 1] ⟨rfl, rfl⟩ ?_
      rintro r g ⟨rfl, rfl⟩
      rw [show next + (1 + cntL b) = next + 1 + cntL b by omega] at hR
      refine wb ?_ <;> intros
      exact wd hR _ [0, 1, 346] [] ⟨rfl, (next : Int), rfl⟩
    · refine wE (lockAt_v lkL ⟨#[110]⟩ 1 (by decide) rfl) ?_
      refine wb ?_ <;> intros
      refine wQ (A 11 12 1 ss out next (next + 1) (by omega) (by omega)) [0, 1] ⟨rfl, rfl⟩ ?_
      rintro r g ⟨rfl, rfl⟩
      rw [show next + (1 + cntL b) = next + 1 + cntL b by omega] at hR
      refine wb ?_ <;> intros
      exact wd hR _ [0, 1, 346] [] ⟨rfl, (next : Int), rfl⟩
    · refine wE (lockAt_v lkL ⟨#[114]⟩ 2 (by decide) rfl) ?_
      refine wb ?_ <;> intros
      refine wQ (A 13 14 2 ss out next (next + 1) (by omega) (by omega)) [0, 1] ⟨rfl, rfl⟩ ?_
      rintro r g ⟨rfl, rfl⟩
      rw [show next + (1 + cntL b) = next + 1 + cntL b by omega] at hR
      refine wb ?_ <;> intros
      exact wd hR _ [0, 1, 362] [] ⟨rfl, (next : Int), rfl⟩
    · refine wE (lockAt_v lkL ⟨#[114]⟩ 2 (by decide) rfl) ?_
      refine wb ?_ <;> intros
      refine wQ (A 15 16 2 ss out next (next + 1) (by omega) (by omega)) [0, 1] ⟨rfl, rfl⟩ ?_
      rintro r g ⟨rfl, rfl⟩
      rw [show next + (1 + cntL b) = next + 1 + cntL b by omega] at hR
      refine wb ?_ <;> intros
      exact wd hR _ [0, 1, 378] [] ⟨rfl, (next : Int), rfl⟩
  · refine wz Tryz.func109 us107 (h := fun R hR => ?_)
    refine wb ?_ <;> intros
    refine wq (A 17 18 0 ss out next (next + 1) (by omega) (by omega)) [0, 1] ?_
    rintro r g ⟨rfl, rfl⟩
    rw [show next + (1 + cntL b) = next + 1 + cntL b by omega] at hR
    refine wb ?_ <;> intros
    exact wd hR _ [0, 1, 330] [] ⟨rfl, (next : Int), rfl⟩
  · refine wz Tryz.func109 us107 (h := fun R hR => ?_)
    refine wb ?_ <;> intros
    refine wq (A 19 20 0 ss out next (next + 1) (by omega) (by omega)) [0, 1] ?_
    rintro r g ⟨rfl, rfl⟩
    rw [show next + (1 + cntL b) = next + 1 + cntL b by omega] at hR
    refine wb ?_ <;> intros
    exact wd hR _ [0, 1, 346] [] ⟨rfl, (next : Int), rfl⟩
  · cases k
    all_goals
      simp only [Sg.op]
      refine wz Tryz.func109 us107 (h := fun R hR => ?_)
      refine wb ?_ <;> intros
      refine wq (cond_v n ss out next ((next + 1 : Nat) : Int) ⟨#[99]⟩ 0 rfl) [0, 1] ?_
      rintro r g ⟨rfl, rfl⟩
      refine wb ?_ <;> intros
    · refine wq (put_ok n ss out next ((next + 1 : Nat) : Int) ⟨21, 0, 0, 0, 0, 0⟩ (by omega)) [0, 1] ?_
      rintro r g ⟨rfl, rfl⟩
      refine wb ?_ <;> intros
      exact wd hR _ [0, 1, 394] [] ⟨rfl, (next : Int), rfl⟩
    · refine wq (put_ok n ss out next ((next + 1 : Nat) : Int) ⟨22, 0, 0, 0, 0, 0⟩ (by omega)) [0, 1] ?_
      rintro r g ⟨rfl, rfl⟩
      refine wb ?_ <;> intros
      exact wd hR _ [0, 1, 410] [] ⟨rfl, (next : Int), rfl⟩
    · refine wq (put_ok n ss out next ((next + 1 : Nat) : Int) ⟨23, 0, 0, 0, 0, 0⟩ (by omega)) [0, 1] ?_
      rintro r g ⟨rfl, rfl⟩
      refine wb ?_ <;> intros
      exact wd hR _ [0, 1, 426] [] ⟨rfl, (next : Int), rfl⟩
  · refine wz Tryz.func109 us107 (h := fun R hR => ?_)
    refine wb ?_ <;> intros
    refine wE (at_v (thNames n) (thName k) _ (by simp [thNames]; omega) rfl) ?_
    refine wb ?_ <;> intros
    refine wQ (put_ok n ss out next ((next + 1 : Nat) : Int) ⟨24, atI (thNames n) (thName k), 0, 0, 0, 0⟩ (by omega)) [0, 1] ⟨rfl, rfl⟩ ?_
    rintro r g ⟨rfl, rfl⟩
    refine wb ?_ <;> intros
    exact wd hR _ [0, 1, 474] [] ⟨rfl, (next : Int), rfl⟩
  · refine wz Tryz.func109 us107 (h := fun R hR => ?_)
    refine wb ?_ <;> intros
    refine wE (at_v (thNames n) (thName 1) _ (by simp [thNames]; omega) rfl) ?_
    refine wb ?_ <;> intros
    refine wQ (put_ok n ss out next ((next + 1 : Nat) : Int) ⟨25, atI (thNames n) (thName 1), 0, 0, 0, 0⟩ (by omega)) [0, 1] ⟨rfl, rfl⟩ ?_
    rintro r g ⟨rfl, rfl⟩
    refine wb ?_ <;> intros
    exact wd hR _ [0, 1, 490] [] ⟨rfl, (next : Int), rfl⟩
  · refine wz Tryz.func109 us107 (h := fun R hR => ?_)
    refine wb ?_ <;> intros
    refine wq (valueE e n ss out next ((next + 1 : Nat) : Int) 2 (by decide) (by decide) (by omega)) [0, 1] ?_
    rintro r g ⟨rfl, rfl⟩
    refine wb ?_ <;> intros
    refine wE (at_v fuL ⟨#[102]⟩ 0 (by decide) rfl) ?_
    refine wb ?_ <;> intros
    have hv := valE_le next e 2
    refine wQ (put_ok n ss (out ++ valE next e 2) next ((next + 1 : Nat) : Int) ⟨26, 0, 2, 0, 0, 0⟩ (by simp; omega)) [0, 458] ⟨rfl, rfl⟩ ?_
    rintro r g ⟨rfl, rfl⟩
    refine wb ?_ <;> intros
    exact wd hR _ [0, 1, 554] [] ⟨rfl, (next : Int), rfl⟩
  · refine wz Tryz.func109 us107 (h := fun R hR => ?_)
    refine wb ?_ <;> intros
    refine wE (at_v loNames ⟨#[97]⟩ 0 (by decide) rfl) ?_
    refine wb ?_ <;> intros
    refine wE (at_v fuL ⟨#[102]⟩ 0 (by decide) rfl) ?_
    refine wb ?_ <;> intros
    refine wQ (put_ok n ss out next ((next + 1 : Nat) : Int) ⟨27, 0, 0, 0, 0, 0⟩ (by omega)) [0, 1] ⟨rfl, rfl⟩ ?_
    rintro r g ⟨rfl, rfl⟩
    refine wb ?_ <;> intros
    exact wd hR _ [0, 1, 578] [] ⟨rfl, (next : Int), rfl⟩
end AM

/- The functions that Trace needs: the world of a program. -/
namespace AM
open Go Go.Proofs Mk
set_option linter.unusedVariables false
set_option linter.unusedSimpArgs false
set_option maxRecDepth 20000
set_option maxHeartbeats 8000000
theorem cnt_mem : ∀ (l : List Sm) (s : Sm), s ∈ l → cntS s ≤ cntL l
  | x :: r, s, h => by
    simp only [cntL]
    rcases List.mem_cons.1 h with rfl | h
    · omega
    · have := cnt_mem r s h; omega
theorem gen_all (n : Nat) (hn4 : n ≤ 4) : ∀ (m : Nat) (l : List Sm), cntL l < m → GsC n l
  | 0, l, h => by omega
  | m + 1, l, h => gstmts_ok n l (fun s hs => by
    have h1 := cnt_mem l s hs
    have h2 := cntS_eq s
    exact gstmt_ok n hn4 s (gen_all n hn4 m s.body (by omega)) (gen_all n hn4 m s.els (by omega)))
def siL (t n c : Nat) : List (Nat × Nat) := (List.range c).map fun k => (t, n + k)
theorem siL_add (t n a b : Nat) : siL t n (a + b) = siL t n a ++ siL t (n + a) b := by
  unfold siL
  rw [List.range_add, List.map_append, List.map_map]
  congr 1
  apply List.map_congr_left
  intro k _
  simp [Nat.add_assoc]
@[go_sem] theorem siL_len {t n c : Nat} : (siL t n c).length = c := by simp [siL]
theorem siL_one (t n : Nat) : siL t n 1 = [(t, n)] := rfl
abbrev siO (l : List (Nat × Nat)) : Obj := .row 154 3 (l.map siR)
def SitC (l : List Sm) : Prop := ∀ (so : List (Nat × Nat)) (t n : Nat), so.length + cntL l ≤ 1000 → n + cntL l ≤ 1000 → ACall Tryz.prog 108 [.own 0 so.length, .pv (intP t), .pv (intP n), .pv (smL l)] [siO so] (fun v g => v = .tup [.own 1 (so.length + cntL l), .pv (intP ((n + cntL l : Nat) : Int))] ∧ g = [none, some (siO (so ++ siL t n (cntL l)))])
theorem sites_ok6 : ∀ (m : Nat) (l : List Sm), cntL l < m → SitC l
  | 0, l, h => by omega
  | m + 1, l, h => by
    intro so t n hso hn
    have hc := cntL_eq l
    refine wz Tryz.func108 (fun _ => []) (h := fun R hR => ?_)
    refine wb ?_ <;> intros
    refine wl (fun u : Nat × List (Nat × Nat) × Nat => [(0, .own 1 u.2.1.length), (1, .pv (intP t)), (2, .pv (intP u.2.2)), (3, .pv (smL l)), (10, .pv (intP u.1))]) (fun u => [none, some (siO u.2.1)]) (fun u => u.1 ≤ l.length ∧ u.2.1 ++ siL t u.2.2 (cntL (l.drop u.1)) = so ++ siL t n (cntL l) ∧ u.2.2 + cntL (l.drop u.1) = n + cntL l ∧ u.2.1.length + cntL (l.drop u.1) ≤ 1000) (fun u => l.length - u.1) (0, so, n) ⟨Nat.zero_le _, rfl, rfl, hso⟩ (vm [0, 0]) (fun ⟨i, o, k⟩ ⟨hi, hd, hk, hol⟩ => ?_)
    dsimp only at hi hd hk hol
    refine wb (A2.mk ?_ ?_) <;> intros
    · have h2 : i < l.length := by omega
      have hdl := cntL_drop l i
      rw [List.drop_eq_getElem_cons h2] at hd hk hol hdl
      generalize hx : l[i] = x at hd hk hol hdl
      simp only [cntL, cntS_eq] at hd hk hol hdl
      refine row_map (x := x) (by omega) (by simp [h2, hx]) (smR_len _) ?_
      rw [smR_eq]
      refine wb ?_ <;> intros
      refine row_map (x := x) (by omega) (by simp [h2, hx]) (smR_len _) ?_
      rw [smR_eq]
      refine wb ?_ <;> intros
      refine wq (sites_ok6 m x.body (by omega) (o ++ [(t, k)]) t (k + 1) (by simp; omega) (by omega)) [114] ?_
      rintro r g ⟨rfl, rfl⟩
      refine wb ?_ <;> intros
      refine row_map (x := x) (by omega) (by simp [h2, hx]) (smR_len _) ?_
      rw [smR_eq]
      refine wb ?_ <;> intros
      refine wq (sites_ok6 m x.els (by omega) (o ++ [(t, k)] ++ siL t (k + 1) (cntL x.body)) t (k + 1 + cntL x.body) (by simp [siL]; omega) (by omega)) [218] ?_
      rintro r g ⟨rfl, rfl⟩
      refine wb ?_ <;> intros
      refine sr_mark ⟨(i + 1, o ++ [(t, k)] ++ siL t (k + 1) (cntL x.body) ++ siL t (k + 1 + cntL x.body) (cntL x.els), k + 1 + cntL x.body + cntL x.els), ⟨h2, ?_, by dsimp only; omega, by simp [siL_len]; omega⟩, by dsimp only; omega, vm [0, 330]⟩
      rw [← hd, siL_add, siL_add, siL_add, siL_one]
      simp [List.append_assoc, Nat.add_assoc]
    · rw [List.drop_eq_nil_of_le (by omega)] at hd hk
      simp only [cntL, Nat.add_zero] at hd hk
      have hd' : o = so ++ siL t n (cntL l) := by rw [← hd]; simp [siL]
      have hol' : o.length = so.length + cntL l := by rw [hd']; simp [siL_len]
      rw [← hd', ← hk, ← hol'] at hR
      exact wo hR _ _ [0, 1] [] ⟨rfl, rfl⟩
end AM

/- The functions that Trace needs: World. -/
namespace AM
open Go Go.Proofs Mk
set_option linter.unusedVariables false
set_option linter.unusedSimpArgs false
set_option maxRecDepth 20000
set_option maxHeartbeats 8000000
abbrev lkO (l : List (ByteArray × Bool)) : Obj := .row 147 2 (l.map lkR)
theorem lockAtO (l : List (ByteArray × Bool)) (s : ByteArray) (r : Int) (hl : l.length ≤ 1000) (h : atI (l.map (·.1)) s = r) : ACall Tryz.prog 107 [.own 0 l.length, .pv (strP s)] [lkO l] (fun v g => v = .pv (intP r) ∧ g = [some (lkO l)]) := by
  subst h
  refine wz Tryz.func107 (fun _ => []) (h := fun R hR => ?_)
  refine wb ?_ <;> intros
  refine wl (fun i : Nat => [(0, .own 0 l.length), (1, .pv (strP s)), (5, .pv (intP i))]) (fun _ => [some (lkO l)]) (fun i => i ≤ l.length ∧ atI (l.map (·.1)) s = atFrom s i ((l.map (·.1)).drop i)) (fun i => l.length - i) 0 ⟨Nat.zero_le _, rfl⟩ (vm [0]) (fun i ⟨hi, ha⟩ => ?_)
  refine wb (A2.mk ?_ ?_) <;> intros
  · have h2 : i < l.length := by omega
    refine ld_get (x := lkR l[i]) (by simp [h2]) rfl ?_
    refine wb (A2.mk ?_ ?_) <;> intros
    · exact wo hR (.pv (intP i)) _ [0] [] ⟨by rw [at_hit (i := i) (by simpa using h2) (by simpa using ‹l[i].1 = s›) ha], rfl⟩
    · exact sr_mark ⟨i + 1, ⟨h2, at_miss (i := i) (by simpa using h2) (by simpa using ‹_›) ha⟩, by omega, vm [0]⟩
  · exact wo hR (.pv (intP (-1))) _ [0] [] ⟨by rw [at_end (i := i) (by simp; omega) ha], rfl⟩
theorem sitesF_take : ∀ (l : List (List Sm)) (t i : Nat) (h : i < l.length), sitesF t (l.take (i + 1)) = sitesF t (l.take i) ++ siL (t + i) 0 (cntL l[i])
  | b :: r, t, 0, _ => by simp [sitesF, siteT, siL]
  | b :: r, t, i + 1, h => by
    have := sitesF_take r (t + 1) i (by simpa using h)
    simp only [List.take_succ_cons, sitesF, this, List.append_assoc, List.getElem_cons_succ]
    rw [show t + 1 + i = t + (i + 1) by omega]
def us77 : Nat → List (Nat × Nat) := fun i => if i = 21 then [(1, 3), (1, 5), (3, 5), (1, 7), (3, 7), (5, 7), (1, 8), (3, 8)] else if i = 25 then [(1, 3), (1, 5), (1, 7)] else if i = 26 then [(1, 4), (1, 6), (1, 8)] else []
attribute [local go_sem] List.set_cons_zero List.set_cons_succ thNames_len
theorem world_ok (bs : List (List Sm)) (hp : PgOk bs) (hz : progF bs = 0) : FnEq Tryz.prog 69 [rw_ (pgR bs)] (rw_ (wldR bs.length (sitesF 0 bs))) := by
  have h4 := hp.n4
  have h60 := (progF_zero hz).1
  refine wf Tryz.func69 us77 (h := fun R hR => ?_)
  refine wb ?_ <;> intros
  refine wE hp.check ?_
  rw [hz]
  refine wb ?_ <;> intros
  refine wn 10 ?_
  refine wb ?_
  refine row_get (by omega) rfl rfl ?_
  refine wb ?_
  refine w2 ?_
  refine wb ?_
  refine row_get (by omega) rfl rfl ?_
  refine wb ?_
  refine w2 ?_
  refine wb ?_
  refine row_get (by omega) rfl rfl ?_
  refine wb ?_
  refine w2 ?_
  refine wb ?_
  refine row_get (by omega) rfl rfl ?_
  refine wb ?_
  refine w3 ?_
  refine wb ?_
  refine row_get (by omega) rfl rfl ?_
  refine wb ?_
  refine row_get (by omega) rfl rfl ?_
  refine wb ?_
  refine row_get (by omega) rfl rfl ?_
  refine wb ?_
  refine row_get (by omega) rfl rfl ?_
  refine wb ?_
  refine wQ (lockAtO lkL ⟨#[109]⟩ 0 (by decide) rfl) [2728] ⟨rfl, rfl⟩ ?_
  rintro r g ⟨rfl, rfl⟩
  refine wb ?_
  refine row_get (by omega) rfl rfl ?_
  refine wb ?_
  refine sr_ghost 16 4 9 1 rfl rfl ?_
  refine sr_ghost 16 5 154 3 rfl rfl ?_
  refine wl (fun i : Nat => [(1, .ptr 0 0), (2, .ptr 1 0), (3, .ptr 2 0), (9, .pv (intP i))]) (fun i => [some (.box ((pgR bs).map .pv)), some (.box [.emp, .emp, .emp, .emp, .emp, .emp]), some (.box [.own 3 5, .own 4 3, .own 5 1, .own 6 1, .own 7 i, .own 8 (sitesF 0 (bs.take i)).length]), some (.row 144 5 (ceL.map CeR.r)), some (lkO lkL), some (.row 150 2 (cdL.map cdR)), some (rowS fuL), some (rowS (thNames i)), some (siO (sitesF 0 (bs.take i)))]) (fun i => i ≤ bs.length) (fun i => bs.length - i) 0 (Nat.zero_le _) (vm [0, 8, 16, 1808, 2728, 3056, 3336, 3432, 3433] (hO := by refine ws ?_; and_intros <;> rfl)) (fun i hi => ?_)
  refine wb (A2.mk ?_ ?_) <;> intros
  · have h2 : i < bs.length := by omega
    refine row_map (x := (bs[i], i)) (by omega) (by simp <;> omega) rfl ?_
    refine wb ?_ <;> intros
    refine row_map (x := (bs[i], i)) (by omega) (by simp <;> omega) rfl ?_
    refine wb ?_ <;> intros
    have hle := cntP_le bs (i + 1)
    have hta := cntP_take bs i h2
    have hsl := sites_len (bs.take i) 0
    refine wQ (sites_ok6 (cntL bs[i] + 1) bs[i] (by omega) (sitesF 0 (bs.take i)) i 0 (by omega) (by omega)) [8] ⟨rfl, rfl⟩ ?_
    rintro r g ⟨rfl, rfl⟩
    refine wb ?_ <;> intros
    have e1 := sitesF_take bs 0 i h2
    rw [Nat.zero_add] at e1
    have e2 : thNames (i + 1) = thNames i ++ [thName i] := by simp [thNames, List.range_succ]
    exact sr_mark ⟨i + 1, by omega, by omega, vm [0, 1, 2, 3, 4, 5, 6, 121, 217] (hO := by refine ws ?_; rw [e1, e2]; simp [siL_len])⟩
  · obtain rfl : i = bs.length := by omega
    rw [List.take_length]
    exact wr hR [(3, none), (4, none), (5, none), (6, none), (7, none), (8, none)]
end AM

/- The functions that Trace needs: the code of a program. -/
namespace AM
open Go Go.Proofs Mk
set_option linter.unusedVariables false
set_option linter.unusedSimpArgs false
set_option maxRecDepth 20000
set_option maxHeartbeats 8000000
def us60 : Nat → List (Nat × Nat) := fun i => if i = 9 then [(1, 3), (1, 5), (1, 7)] else if i = 14 then [(3, 8), (3, 10), (8, 10)] else if i = 22 then [(1, 4), (1, 5)] else []
@[go_sem] def cbox (n : Nat) (ss : List (Nat × Nat)) (r k : Nat) : Obj := .box [.pv (.sl (ceL.map CeR.r)), .pv (.sl (lkL.map lkR)), .pv (.sl (cdL.map cdR)), .pv (.sl (strR fuL)), .pv (.sl (strR (thNames n))), .pv (.sl (ss.map siR)), .own r k]
abbrev tcO (l : List (Int × List In)) : Obj := .row 163 2 (l.map tcR)
def cE (i next : Nat) : List (Nat × AV) := [(1, .ptr 0 0), (2, .ptr 1 0), (7, .ptr 2 0), (8, .pv (intP next)), (9, .pv (intP i))]
attribute [go_sem] cE
def cS (bs : List (List Sm)) (i : Nat) : List (Option Obj) := [some (.box ((pgR bs).map .pv)), some (.box [.emp, .emp, .emp, .emp, .emp, .emp, .emp]), some (cbox bs.length (sitesF 0 bs) 3 (codeF bs.length 0 (bs.take i)).length), some (tcO (codeF bs.length 0 (bs.take i)))]
attribute [go_sem] cS
attribute [local go_sem] List.set_cons_zero List.set_cons_succ
theorem program6_ok (bs : List (List Sm)) (hp : PgOk bs) (hz : progF bs = 0) : FnEq Tryz.prog 44 [rw_ (pgR bs)] (.tup [rw_ (coR bs.length (sitesF 0 bs) (codeF bs.length 0 bs)), .pv (intP 0), .pv (intP 0)]) := by
  have h4 := hp.n4
  have h60 := (progF_zero hz).1
  refine wf Tryz.func44 us60 (h := fun R hR => ?_)
  refine wb ?_ <;> intros
  refine wE hp.check ?_
  rw [hz]
  refine wb ?_ <;> intros
  refine wE (world_ok bs hp hz) ?_
  refine wb ?_ <;> intros
  refine sr_ghost 128 6 163 2 rfl rfl ?_
  refine wl (fun i : Nat => cE i (cntP (bs.take i))) (fun i => cS bs i) (fun i => i ≤ bs.length) (fun i => bs.length - i) 0 (Nat.zero_le _) (vm [0, 8, 128, 160] (hO := by refine ws ?_; and_intros <;> rfl)) (fun i hi => ?_)
  have hle0 := cntP_le bs i
  refine ws ?_
  refine w0 ?_
  refine wg ?_
  (refine cr_cnd rfl ?_; refine ws ?_; first | (refine ⟨fun _ => ?_, fun _ => ?_⟩ <;> first | (exfalso; omega) | skip) | (rw [cnd_var]; refine ⟨fun _ => ?_, fun _ => ?_⟩) | skip)
  · have h2 : i < bs.length := by omega
    have hta := cntP_take bs i h2
    have hle := cntP_le bs (i + 1)
    refine w0 ?_
    refine cr_reg rfl ?_
    refine wa ?_
    refine row_map (x := (bs[i], i)) (by omega) (by simp <;> omega) rfl ?_
    refine wa ?_
    generalize hb : bs[i] = b at hta
    refine sr_ghost 124 7 182 6 rfl rfl ?_
    refine wb ?_ <;> intros
    refine row_map (x := (b, i)) (by omega) (by simp [h2, hb]) rfl ?_
    refine wb ?_ <;> intros
    refine wq (gen_all bs.length h4 (cntL b + 1) b (by omega) (sitesF 0 bs) [] 0 (cntP (bs.take i)) (by simp; omega) (by omega)) [124, 140] ?_
    rintro r g ⟨rfl, site', rfl⟩
    have hgl := genL_len bs.length 0 (cntP (bs.take i)) b
    rw [List.nil_append, List.length_nil]
    refine wb ?_ <;> intros
    refine wq (put_ok bs.length (sitesF 0 bs) (genL bs.length 0 (cntP (bs.take i)) b) (-1) ((cntP (bs.take i) + cntL b : Nat) : Int) ⟨28, 0, 0, 0, 0, 0⟩ (by omega)) [124, 197] ?_
    rintro r g ⟨rfl, rfl⟩
    have hbi : bs[i]? = some b := by rw [← hb]; exact List.getElem?_eq_getElem h2
    have hcg := codeF_get bs.length bs 0 i b hbi
    rw [Nat.zero_add] at hcg
    have G := (good_prog hz).2.2 i _ _ hcg
    have hO : genT bs.length (cntP (bs.take i)) b = genL bs.length 0 (cntP (bs.take i)) b ++ [⟨28, 0, 0, 0, 0, -1⟩] := rfl
    rw [show (⟨28, 0, 0, 0, 0, 0⟩ : In).op = 28 from rfl, ← hO]
    have hOl : (genT bs.length (cntP (bs.take i)) b).length = (genL bs.length 0 (cntP (bs.take i)) b).length + 1 := by rw [hO]; simp
    have hsn : codeF bs.length 0 (bs.take (i + 1)) = codeF bs.length 0 (bs.take i) ++ [(regsF (genT bs.length (cntP (bs.take i)) b), genT bs.length (cntP (bs.take i)) b)] := by
      rw [takeI_snoc hbi, codeF_snoc, Nat.zero_add]
    generalize genT bs.length (cntP (bs.take i)) b = O at G hO hOl hsn ⊢
    refine wb ?_ <;> intros
    refine wl (fun k : Nat => cE i (cntP (bs.take i) + cntL b) ++ [(10, .ptr 4 0), (11, .ptr 5 0), (12, .pv (intP k))]) (fun k => cS bs i ++ [some (.box ((wldR bs.length (sitesF 0 bs)).map .pv ++ [.pv (.sl (strR loNames)), .pv (.sl (O.map In.r)), .pv (intP (-1)), .pv (intP ((cntP (bs.take i) + cntL b : Nat) : Int))])), some (.box [.pv (intP (regsG 2 (O.take k))), .pv (.sl (O.map In.r))])]) (fun k => k ≤ O.length) (fun k => O.length - k) 0 (Nat.zero_le _) (vm [0, 1, 2, 3, 124, 381] [(293, none)]) (fun k hk => ?_)
    refine wb (A2.mk ?_ ?_) <;> intros
    · have hk2 : k < O.length := by omega
      have hR2 := regsG_snoc O[k] (O.take k) 2
      rw [← takeI_snoc (List.getElem?_eq_getElem hk2)] at hR2
      have hri := G.regs k O[k] (List.getElem?_eq_getElem hk2)
      have hr5 := G.r1
      have hrl := regsI_len O[k]
      generalize hx : O[k] = x at hR2 hri hrl
      refine row_map (x := x) (by omega) (by simp [hk2, hx]) rfl ?_
      refine wb ?_ <;> intros
      refine wE (registers_ok x) ?_
      refine wb ?_ <;> intros
      refine wl (fun j : Nat => cE i (cntP (bs.take i) + cntL b) ++ [(10, .ptr 4 0), (11, .ptr 5 0), (12, .pv (intP k)), (13, .pv (.sl (inL (regsI x)))), (14, .pv (intP j))]) (fun j => cS bs i ++ [some (.box ((wldR bs.length (sitesF 0 bs)).map .pv ++ [.pv (.sl (strR loNames)), .pv (.sl (O.map In.r)), .pv (intP (-1)), .pv (intP ((cntP (bs.take i) + cntL b : Nat) : Int))])), some (.box [.pv (intP (regMax (regsG 2 (O.take k)) ((regsI x).take j))), .pv (.sl (O.map In.r))])]) (fun j => j ≤ (regsI x).length) (fun j => (regsI x).length - j) 0 (Nat.zero_le _) (vm [0, 1, 2, 3, 4, 5]) (fun j hj => ?_)
      refine wb (A2.mk ?_ ?_) <;> intros
      · have hj2 : j < (regsI x).length := by omega
        have hrj := hri _ (List.getElem_mem hj2)
        have hms := regMax_snoc (regsI x)[j] ((regsI x).take j) (regsG 2 (O.take k))
        rw [← takeI_snoc (List.getElem?_eq_getElem hj2)] at hms
        refine row_map (x := (regsI x)[j]) (by omega) (by simp [hj2]) rfl ?_
        refine wb ?_ <;> intros
        refine sr_mark ⟨j + 1, hj2, by omega, ?_⟩
        rw [hms]
        exact vm [0, 1, 2, 3, 4, 5]
      · obtain rfl : j = (regsI x).length := by omega
        rw [List.take_length, ← hR2]
        refine wb ?_ <;> intros
        exact sr_mark ⟨k + 1, hk2, by omega, vm [0, 1, 2, 3, 4, 5]⟩
    · obtain rfl : k = O.length := by omega
      rw [List.take_length]
      refine wb ?_ <;> intros
      refine And.intro (by rw [codeF_len]; simp; omega) ?_
      refine wb ?_ <;> intros
      have hF : regsF O = regsG 2 O := rfl
      rw [hF] at hsn
      refine sr_mark ⟨i + 1, h2, by omega, ?_⟩
      rw [hta]
      exact vm [0, 1, 2, 94] (hO := by refine ws ?_; rw [hsn]; simp; rfl)
  · obtain rfl : i = bs.length := by omega
    rw [List.take_length]
    refine wb ?_ <;> intros
    exact wr hR [(3, none)]
end AM

/- The functions that Trace needs: what a good code is: objects, where it lands. -/
namespace AM
open Go Go.Proofs Mk
set_option linter.unusedVariables false
set_option linter.unusedSimpArgs false
set_option maxRecDepth 20000
set_option maxHeartbeats 8000000
theorem in6_v (i n : Int) (h : 0 ≤ i ∧ i < n) : FnEq Tryz.prog 97 [.pv (intP i), .pv (intP n)] (.pv (boolP true)) := by
  have := in6_ok i n
  rwa [decide_eq_true h.1, decide_eq_true h.2] at this
theorem array_ok (n : Nat) (ss : List (Nat × Nat)) : FnEq Tryz.prog 125 [rw_ (wldR n ss), .pv (intP 3), .pv (intP 2)] (.pv (boolP true)) := by
  refine wf Tryz.func125 (fun _ => []) (h := fun R hR => ?_)
  refine wb ?_ <;> intros
  refine wE (in6_v 3 5 (by decide)) ?_
  repeat (refine wb ?_ <;> intros; refine row_get (by omega) rfl rfl ?_)
  refine wb ?_ <;> intros
  exact wr hR
theorem objects_ok (n : Nat) (ss : List (Nat × Nat)) (i : In) (h1 : 1 ≤ i.op) (h2 : i.op ≤ 28) (ho : ObjI n i) : FnEq Tryz.prog 95 [rw_ (wldR n ss), rw_ i.r] (.pv (boolP true)) := by
  obtain ⟨op, a, b, c, nn, st⟩ := i
  obtain ⟨o3, o4, o6, o7, o8, o9, o11, o13, o21, o24, o26, o27⟩ := ho
  dsimp only at h1 h2 o3 o4 o6 o7 o8 o9 o11 o13 o21 o24 o26 o27
  rcases (show op = 1 ∨ op = 2 ∨ op = 4 ∨ op = 5 ∨ op = 6 ∨ op = 7 ∨ op = 8 ∨ op = 9 ∨ op = 10 ∨ op = 11 ∨ op = 12 ∨ op = 13 ∨ op = 14 ∨ op = 15 ∨ op = 16 ∨ op = 17 ∨ op = 18 ∨ op = 19 ∨ op = 20 ∨ op = 21 ∨ op = 22 ∨ op = 23 ∨ op = 24 ∨ op = 25 ∨ op = 26 ∨ op = 27 ∨ op = 28 by omega) with rfl | rfl | rfl | rfl | rfl | rfl | rfl | rfl | rfl | rfl | rfl | rfl | rfl | rfl | rfl | rfl | rfl | rfl | rfl | rfl | rfl | rfl | rfl | rfl | rfl | rfl | rfl
  all_goals
    refine wf Tryz.func95 (fun _ => []) (h := fun R hR => ?_)
    refine wb ?_ <;> intros
  all_goals first | exact wr hR | skip
  all_goals first
    | (obtain ⟨rfl, rfl⟩ := o7 rfl; refine wE (array_ok n ss) ?_; refine wb ?_ <;> intros; exact wr hR)
    | (obtain ⟨rfl, rfl⟩ := o9 rfl; refine wE (array_ok n ss) ?_; refine wb ?_ <;> intros; exact wr hR)
    | (obtain rfl := o26 rfl; refine wE (in6_v 0 1 (by decide)) ?_; refine wb ?_ <;> intros; exact wr hR)
    | (obtain rfl := o27 rfl; refine wE (in6_v 0 1 (by decide)) ?_; refine wb ?_ <;> intros; exact wr hR)
    | (obtain rfl := o21 (by decide); refine wE (in6_v 0 1 (by decide)) ?_; refine wb ?_ <;> intros; exact wr hR)
    | (obtain rfl := o13 (by decide); refine wE (in6_v 2 3 (by decide)) ?_; refine wb ?_ <;> intros; refine row_get (by omega) rfl rfl ?_; refine wb ?_ <;> intros; exact wr hR)
    | (have hb := o24 (by decide); refine wE (in6_v a (thNames n).length (by rw [thNames_len]; omega)) ?_; refine wb ?_ <;> intros; exact wr hR)
    | skip
  all_goals first
    | (have hb := o6 rfl; obtain rfl | rfl | rfl := (show b = 0 ∨ b = 1 ∨ b = 2 by omega))
    | (have hb := o8 rfl; obtain rfl | rfl | rfl := (show a = 0 ∨ a = 1 ∨ a = 2 by omega))
    | (have hb := o11 (by decide); obtain rfl | rfl := (show a = 0 ∨ a = 1 by omega))
  all_goals first
    | refine wE (in6_v 0 5 (by decide)) ?_
    | refine wE (in6_v 1 5 (by decide)) ?_
    | refine wE (in6_v 2 5 (by decide)) ?_
    | refine wE (in6_v 0 3 (by decide)) ?_
    | refine wE (in6_v 1 3 (by decide)) ?_
  all_goals (refine wb ?_ <;> intros; refine row_get (by omega) rfl rfl ?_; refine wb ?_ <;> intros; exact wr hR)
end AM

/- The functions that Trace needs: the names of a world. -/
namespace AM
open Go Go.Proofs Mk
set_option linter.unusedVariables false
set_option linter.unusedSimpArgs false
set_option maxRecDepth 20000
set_option maxHeartbeats 8000000
def nmL (n : Nat) : List ByteArray := [⟨#[120]⟩, ⟨#[121]⟩, ⟨#[118]⟩, ⟨#[113]⟩, ⟨#[109]⟩, ⟨#[110]⟩, ⟨#[114]⟩, ⟨#[99]⟩, ⟨#[102]⟩] ++ thNames n
attribute [local go_sem] rep
theorem names_ok (n : Nat) (ss : List (Nat × Nat)) (hn : n ≤ 4) : FnEq Tryz.prog 92 [rw_ (wldR n ss)] (.tup [.pv (.sl (strR (nmL n))), .pv (boolP true)]) := by
  refine wf Tryz.func92 (fun _ => []) (h := fun R hR => ?_)
  refine wb ?_ <;> intros
  refine sr_ghostE 4 9 1 (by exact we) ?_
  refine wn 5 ?_
  refine wb ?_ <;> intros
  iterate 3 (refine row_get (by omega) rfl rfl ?_; refine wb ?_ <;> intros)
  refine row_get (by omega) rfl rfl ?_
  refine wb ?_ <;> intros
  refine wn 3 ?_
  refine wb ?_ <;> intros
  refine row_get (by omega) rfl rfl ?_
  refine wb ?_ <;> intros
  refine row_get (by omega) rfl rfl ?_
  refine wb ?_ <;> intros
  refine wn 4 ?_
  refine wb ?_ <;> intros
  iterate 3 (refine row_get (by omega) rfl rfl ?_; refine wb ?_ <;> intros)
  refine wn 2 ?_
  refine wb ?_ <;> intros
  refine row_get (by omega) rfl rfl ?_
  refine wb ?_ <;> intros
  refine And.intro (by rw [thNames_len]; omega) ?_
  refine wb ?_ <;> intros
  exact wr hR [(2577, none)] (hE := by refine ws ?_; and_intros <;> first | rfl | (unfold nmL; rw [List.length_append]; rfl))
end AM

/- The functions that Trace needs: a world is good. -/
namespace AM
open Go Go.Proofs Mk
set_option linter.unusedVariables false
set_option linter.unusedSimpArgs false
set_option maxRecDepth 20000
set_option maxHeartbeats 8000000
def us72 : Nat → List (Nat × Nat) := fun i => if i = 9 then [(9, 12), (9, 13)] else if i = 23 then [(4, 11), (7, 11), (9, 11)] else if i = 24 then [(8, 15), (11, 15), (13, 15)] else if i = 26 then [(1, 3), (1, 6), (1, 8)] else []
def nmB (n : Nat) : Bool := (List.range (9 + n)).all fun k => match (nmL n)[k]? with
  | some x => nameB x && decide (atI ((nmL n).take k) x = -1)
  | none => true
theorem nmL_len (n : Nat) : (nmL n).length = 9 + n := by unfold nmL; rw [List.length_append, thNames_len]; rfl
theorem nm_ok {n : Nat} (hn : n ≤ 4) {k : Nat} {x : ByteArray} (h : (nmL n)[k]? = some x) : nameB x = true ∧ atI ((nmL n).take k) x = -1 := by
  have hk := (List.getElem?_eq_some_iff.1 h).1
  rw [nmL_len] at hk
  have : nmB n = true := by
    rcases (show n = 0 ∨ n = 1 ∨ n = 2 ∨ n = 3 ∨ n = 4 by omega) with rfl | rfl | rfl | rfl | rfl <;> kernel_rfl
  unfold nmB at this
  have := List.all_eq_true.1 this k (List.mem_range.2 hk)
  rw [h] at this
  simpa using this
theorem take_mg {α β : Type} (f : α → β) (l : List α) (k : Nat) : (l.map f).take k = (l.take k).map f := List.map_take.symm
attribute [local go_sem] thNames_len take_mg rep
theorem site_le {n : Nat} {ss : List (Nat × Nat)} (h : SiteOk n ss) : ∀ (i : Nat) (x : Nat × Nat), ss[i]? = some x → x.2 ≤ i
  | 0, x, hx => by
    rcases (h 0 x hx).2 with ⟨_, h2⟩ | ⟨j, y, h1, _⟩
    · omega
    · omega
  | i + 1, x, hx => by
    rcases (h (i + 1) x hx).2 with ⟨_, h2⟩ | ⟨j, y, h1, h2, h3⟩
    · omega
    · obtain rfl : i = j := by omega
      have := site_le h i y h2
      omega
theorem validWorld_ok (n : Nat) (ss : List (Nat × Nat)) (h1 : 1 ≤ n) (hn : n ≤ 4) (hss : ss.length ≤ 60) (hs : SiteOk n ss) : FnEq Tryz.prog 64 [rw_ (wldR n ss)] (.pv (boolP true)) := by
  refine wf Tryz.func64 us72 (h := fun R hR => ?_)
  refine wb ?_ <;> intros
  all_goals try omega
  refine wE (names_ok n ss hn) ?_
  refine wb ?_ <;> intros
  refine wl (fun k : Nat => [(1, .ptr 0 0), (3, .pv (.sl (strR (nmL n)))), (5, .pv (intP k))]) (fun _ => [some (.box ((wldR n ss).map .pv))]) (fun k => k ≤ (nmL n).length) (fun k => (nmL n).length - k) 0 (Nat.zero_le _) (vm [0]) (fun k hk => ?_)
  refine wb (A2.mk ?_ ?_) <;> intros
  · have h2 : k < (nmL n).length := by omega
    have hg := List.getElem?_eq_getElem h2
    obtain ⟨q1, q2⟩ := nm_ok hn hg
    have hl := nmL_len n
    generalize (nmL n)[k] = x at hg q1 q2
    have hgm : (strR (nmL n))[k]? = some [strP x] := by simp [hg]
    refine row_get (by omega) hgm rfl ?_
    refine wb ?_ <;> intros
    refine wE (isName_ok x q1) ?_
    refine wb ?_ <;> intros
    refine row_get (by omega) hgm rfl ?_
    refine wb ?_ <;> intros
    refine wE (at_v ((nmL n).take k) x (-1) (by simp; omega) q2) ?_
    refine wb ?_ <;> intros
    exact sr_mark ⟨k + 1, h2, by omega, vm [0]⟩
  · refine wn 2 ?_
    refine wb ?_ <;> intros
    iterate 2 (refine row_get (by omega) rfl rfl ?_; refine wb ?_ <;> intros)
    refine wl (fun k : Nat => [(1, .ptr 0 0), (8, .pv (intP k))]) (fun _ => [some (.box ((wldR n ss).map .pv))]) (fun k => k ≤ ss.length) (fun k => ss.length - k) 0 (Nat.zero_le _) (vm [0]) (fun k hk => ?_)
    refine wb (A2.mk ?_ ?_) <;> intros
    · have h2 : k < ss.length := by omega
      have hg := List.getElem?_eq_getElem h2
      have hsk := hs k _ hg
      generalize ss[k] = x at hg hsk
      obtain ⟨th, m⟩ := x
      obtain ⟨z1, z2⟩ := hsk
      dsimp only at z1 z2
      refine row_map (x := (th, m)) (by omega) (by simpa using hg) rfl ?_
      refine wb (A2.mk ?_ ?_) <;> intros
      all_goals try omega
      · exact sr_mark ⟨k + 1, h2, by omega, vm [0]⟩
      · rcases z2 with ⟨rfl, rfl⟩ | ⟨j, ⟨yt, ym⟩, rfl, hy, z3⟩
        · exact absurd (Eq.refl (((0 : Nat) : Int))) (by assumption)
        dsimp only at z3
        have hym := site_le hs j _ hy
        dsimp only at hym
        refine row_map (x := (yt, ym)) (by omega) (by simpa using hy) rfl ?_
        refine wb (A2.mk ?_ ?_) <;> intros
        all_goals try (exfalso; omega)
        all_goals (refine row_map (x := (yt, ym)) (by omega) (by simpa using hy) rfl ?_; refine wb ?_ <;> intros)
        all_goals try (exfalso; omega)
        all_goals exact sr_mark ⟨j + 1 + 1, h2, by omega, vm [0]⟩
    · exact wr hR
end AM
