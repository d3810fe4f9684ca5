/- The functions that Trace needs: the compiler's parts. -/
import Derived.Test.YtaiaoiochbpmfaaGreatFt
import Derived.Test.YtaiaoiochbpmfaaGreatFl
import Derived.Test.YtaiaoiochbpmfaaGreatTh
namespace AM
open Go Go.Proofs Mk
set_option linter.unusedVariables false
set_option linter.unusedSimpArgs false
set_option maxRecDepth 20000
set_option maxHeartbeats 4000000
theorem wd {P : Program} {us : Nat → List (Nat × Nat)} {nt n0 nx : Nat} {R : Env → Sto → Prop} {hm : P.follows .mixedOrders = true} {env : Env} {σ : Sto} {post : AV → List (Option Obj) → Prop} (hR : ∀ env σ, RetVC P n0 [] post env σ → R env σ) (g : List (Option Obj)) (ls : List Nat) (fl : List (Nat × Option (List CT))) (hp : post (.tup []) g) (hb : vwB n0 ls g (fl.map (·.1)) = true := by kernel_rfl) (hl : g.length ≤ n0 + 8 := by exact Nat.le_of_ble_eq_true rfl) (hf : vF σ fl := by ((try clear hR); exact we)) (hO : vO (fzF σ fl) g.length (fl.map (·.1)) (lsf ls) σ g 0 := by ((try clear hR); exact we)) : sr ⟨P, us, nt, n0, R, hm⟩ [] env σ nx := sr_nil (hR _ _ (ret_mk (.tup []) g ls fl hb hl hp hf (rT_of ⟨rfl, by simp only [oneA, wk, AV.ren, AV.renL, wkL]⟩) hO))
theorem wdr {P : Program} {us : Nat → List (Nat × Nat)} {nt n0 nx : Nat} {R : Env → Sto → Prop} {hm : P.follows .mixedOrders = true} {k : List It} {c : Code} {env : Env} {σ : Sto} {post : AV → List (Option Obj) → Prop} (hR : ∀ env σ, RetVC P n0 [] post env σ → R env σ) (g : List (Option Obj)) (ls : List Nat) (fl : List (Nat × Option (List CT))) (hp : post (.tup []) g) (hb : vwB n0 ls g (fl.map (·.1)) = true := by kernel_rfl) (hl : g.length ≤ n0 + 8 := by exact Nat.le_of_ble_eq_true rfl) (hf : vF σ fl := by ((try clear hR); exact we)) (hO : vO (fzF σ fl) g.length (fl.map (·.1)) (lsf ls) σ g 0 := by ((try clear hR); exact we)) (hc : isRet c = true := by rfl) : sr ⟨P, us, nt, n0, R, hm⟩ (.code c :: k) env σ nx := cr_ret hc (hR _ _ (ret_mk (.tup []) g ls fl hb hl hp hf (rT_of ⟨rfl, by simp only [oneA, wk, AV.ren, AV.renL, wkL]⟩) hO))
theorem lockAt_v (l : List (ByteArray × Bool)) (s : ByteArray) (r : Int) (hl : l.length ≤ 1000) (h : atI (l.map (·.1)) s = r) : FnEq Tryz.prog 105 [.pv (.sl (l.map lkR)), .pv (strP s)] (.pv (intP r)) := by
  subst h
  refine wf Tryz.func105 (fun _ => []) (h := fun R hR => ?_)
  refine wb ?_ <;> intros
  refine wl (fun i : Nat => [(0, .pv (.sl (l.map lkR))), (1, .pv (strP s)), (5, .pv (intP i))]) (fun _ => []) (fun i => i ≤ l.length ∧ atI (l.map (·.1)) s = atFrom s i ((l.map (·.1)).drop i)) (fun i => l.length - i) 0 ⟨Nat.zero_le _, rfl⟩ (vm []) (fun i ⟨hi, ha⟩ => ?_)
  refine wb (A2.mk ?_ ?_) <;> intros
  · have h2 : i < l.length := by omega
    refine row_map (x := l[i]) (Int.natCast_nonneg _) (by simp [h2]) rfl ?_
    refine wb (A2.mk ?_ ?_) <;> intros
    · rw [at_hit (i := i) (by simpa using h2) (by simpa using ‹l[i].1 = s›) ha] at hR
      exact wr hR
    · exact sr_mark ⟨i + 1, ⟨h2, at_miss (i := i) (by simpa using h2) (by simpa using ‹_›) ha⟩, by omega, vm []⟩
  · rw [at_end (i := i) (by simp; omega) ha] at hR
    exact wr hR
theorem cellAt_v (n : Nat) (ss : List (Nat × Nat)) (s : ByteArray) (r : Int) (h : atI (ceL.map (·.name)) s = r) : FnEq Tryz.prog 156 [rw_ (wldR n ss), .pv (strP s)] (.pv (intP r)) := by
  subst h
  refine wf Tryz.func156 (fun _ => []) (h := fun R hR => ?_)
  refine wb ?_ <;> intros
  refine wl (fun i : Nat => [(1, .pv (strP s)), (2, .ptr 0 0), (5, .pv (intP i))]) (fun _ => [some (.box ((wldR n ss).map .pv))]) (fun i => i ≤ 5 ∧ atI (ceL.map (·.name)) s = atFrom s i ((ceL.map (·.name)).drop i)) (fun i => 5 - i) 0 ⟨Nat.zero_le _, rfl⟩ (vm [0]) (fun i ⟨hi, ha⟩ => ?_)
  refine wb (A2.mk ?_ ?_) <;> intros
  · have h2 : i < ceL.length := by rw [ceL_len]; omega
    refine row_map (x := ceL[i]) (Int.natCast_nonneg _) (by simp [h2]) rfl ?_
    refine wb (A2.mk ?_ ?_) <;> intros
    · rw [at_hit (i := i) (by simpa using h2) (by simpa using ‹ceL[i].name = s›) ha] at hR
      exact wr hR
    · exact sr_mark ⟨i + 1, ⟨by omega, at_miss (i := i) (by simpa using h2) (by simpa using ‹_›) ha⟩, by omega, vm [0]⟩
  · rw [at_end (i := i) (by simp [ceL_len]; omega) ha] at hR
    exact wr hR
@[go_sem] def gbox (n : Nat) (ss : List (Nat × Nat)) (r : Nat) (out : List In) (site next : Int) : Obj := .box [.pv (.sl (ceL.map CeR.r)), .pv (.sl (lkL.map lkR)), .pv (.sl (cdL.map cdR)), .pv (.sl (strR fuL)), .pv (.sl (strR (thNames n))), .pv (.sl (ss.map siR)), .pv (.sl (strR loNames)), .own r out.length, .pv (intP site), .pv (intP next)]
abbrev inO (out : List In) : Obj := .row 176 6 (out.map In.r)
@[go_sem] def gOs (n : Nat) (ss : List (Nat × Nat)) (out : List In) (site next : Int) : List Obj := [gbox n ss 1 out site next, inO out]
@[go_sem] def gOg (n : Nat) (ss : List (Nat × Nat)) (out : List In) (site next : Int) : List (Option Obj) := [some (gbox n ss 2 out site next), none, some (inO out)]
theorem put_ok (n : Nat) (ss : List (Nat × Nat)) (out : List In) (site next : Int) (i : In) (ho : out.length ≤ 2000) : ACall Tryz.prog 79 [.ptr 0 0, rw_ i.r] (gOs n ss out site next) (fun v g => v = .tup [] ∧ g = gOg n ss (out ++ [{ i with site := site }]) site next) := by
  refine wz Tryz.func79 (fun _ => [(4, 5)]) (h := fun R hR => ?_)
  refine wb ?_ <;> intros
  exact wd hR _ [0, 1, 114] [] ⟨rfl, rfl⟩
theorem cond_v (n : Nat) (ss : List (Nat × Nat)) (out : List In) (site next : Int) (s : ByteArray) (r : Int) (h : atI (cdL.map (·.1)) s = r) : ACall Tryz.prog 133 [.ptr 0 0, .pv (strP s)] (gOs n ss out site next) (fun v g => v = .pv (intP r) ∧ g = (gOs n ss out site next).map some) := by
  subst h
  refine wz Tryz.func133 (fun _ => []) (h := fun R hR => ?_)
  refine wb ?_ <;> intros
  refine wl (fun i : Nat => [(0, .ptr 0 0), (1, .pv (strP s)), (5, .pv (intP i))]) (fun _ => (gOs n ss out site next).map some) (fun i => i ≤ 1 ∧ atI (cdL.map (·.1)) s = atFrom s i ((cdL.map (·.1)).drop i)) (fun i => 1 - i) 0 ⟨Nat.zero_le _, rfl⟩ (vm [0, 1]) (fun i ⟨hi, ha⟩ => ?_)
  refine wb (A2.mk ?_ ?_) <;> intros
  · have h2 : i < cdL.length := by rw [cdL_len]; omega
    refine row_map (x := cdL[i]) (Int.natCast_nonneg _) (by simp [h2]) rfl ?_
    refine wb (A2.mk ?_ ?_) <;> intros
    · exact wo hR (.pv (intP i)) _ [0, 1] [] ⟨by rw [at_hit (i := i) (by simpa using h2) (by simpa using ‹cdL[i].1 = s›) ha], rfl⟩
    · exact sr_mark ⟨i + 1, ⟨by omega, at_miss (i := i) (by simpa using h2) (by simpa using ‹_›) ha⟩, by omega, vm [0, 1]⟩
  · exact wo hR (.pv (intP (-1))) _ [0, 1] [] ⟨by rw [at_end (i := i) (by simp [cdL_len]; omega) ha], rfl⟩
end AM

/- The functions that Trace needs: the compiler's expressions and assignments. -/
namespace AM
open Go Go.Proofs Mk
set_option linter.unusedVariables false
set_option linter.unusedSimpArgs false
set_option maxRecDepth 20000
set_option maxHeartbeats 4000000
def us134 : Nat → List (Nat × Nat) := fun i => if i = 7 then [(3, 5)] else if i = 10 then [(5, 7)] else if i = 13 then [(3, 5)] else []
def ValC (K : Int) (e : List PV) (f : Int → Int → List In) : Prop := ∀ (n : Nat) (ss : List (Nat × Nat)) (out : List In) (site next d : Int), 0 ≤ d → d ≤ K → (out.length : Int) ≤ 100 * K → ACall Tryz.prog 134 [.ptr 0 0, rw_ e, .pv (intP d)] (gOs n ss out site next) (fun v g => v = .tup [] ∧ g = gOg n ss (out ++ f site d) site next)
attribute [local go_sem] lfR
theorem valueL (l : Lf) : ValC 10 (lfR l) (fun st d => [valL st l d]) := by
  intro n ss out site next d h0 h1 ho
  cases l with
  | num k =>
    simp only [lfR, lfE, Lf.op, Lf.n, Lf.name]
    refine wz Tryz.func134 us134 (h := fun R hR => ?_)
    refine wb ?_ <;> intros
    refine wq (put_ok n ss out site next ⟨1, d, 0, 0, k.val, 0⟩ (by omega)) [0, 1] ?_
    rintro r g ⟨rfl, rfl⟩
    refine wb ?_ <;> intros
    exact wd hR _ [0, 1, 82] [] ⟨rfl, rfl⟩
  | var k =>
    simp only [lfR, lfE, Lf.op, Lf.n, Lf.name]
    cases k
    all_goals
      refine wz Tryz.func134 us134 (h := fun R hR => ?_)
      simp only [Nm.str]
      refine wb ?_ <;> intros
    · refine wE (at_v loNames ⟨#[97]⟩ 0 (by decide) rfl) ?_
      refine wb ?_ <;> intros
      refine wq (put_ok n ss out site next ⟨2, d, 0, 0, 0, 0⟩ (by omega)) [0, 1] ?_
      rintro r g ⟨rfl, rfl⟩
      refine wb ?_ <;> intros
      exact wd hR _ [0, 1, 186] [] ⟨rfl, rfl⟩
    · refine wE (at_v loNames ⟨#[98]⟩ 1 (by decide) rfl) ?_
      refine wb ?_ <;> intros
      refine wq (put_ok n ss out site next ⟨2, d, 1, 0, 0, 0⟩ (by omega)) [0, 1] ?_
      rintro r g ⟨rfl, rfl⟩
      refine wb ?_ <;> intros
      exact wd hR _ [0, 1, 186] [] ⟨rfl, rfl⟩
    · refine wE (at_v loNames ⟨#[120]⟩ (-1) (by decide) rfl) ?_
      refine wb ?_ <;> intros
      refine wE (cellAt_v n ss ⟨#[120]⟩ 0 rfl) ?_
      refine wb ?_ <;> intros
      refine wQ (put_ok n ss out site next ⟨6, d, 0, 0, 0, 0⟩ (by omega)) [0, 1] ⟨rfl, rfl⟩ ?_
      rintro r g ⟨rfl, rfl⟩
      refine wb ?_ <;> intros
      exact wd hR _ [0, 1, 234] [] ⟨rfl, rfl⟩
    · refine wE (at_v loNames ⟨#[121]⟩ (-1) (by decide) rfl) ?_
      refine wb ?_ <;> intros
      refine wE (cellAt_v n ss ⟨#[121]⟩ 1 rfl) ?_
      refine wb ?_ <;> intros
      refine wQ (put_ok n ss out site next ⟨6, d, 1, 0, 0, 0⟩ (by omega)) [0, 1] ⟨rfl, rfl⟩ ?_
      rintro r g ⟨rfl, rfl⟩
      refine wb ?_ <;> intros
      exact wd hR _ [0, 1, 234] [] ⟨rfl, rfl⟩
    · refine wE (at_v loNames ⟨#[118]⟩ (-1) (by decide) rfl) ?_
      refine wb ?_ <;> intros
      refine wE (cellAt_v n ss ⟨#[118]⟩ 2 rfl) ?_
      refine wb ?_ <;> intros
      refine wQ (put_ok n ss out site next ⟨6, d, 2, 0, 0, 0⟩ (by omega)) [0, 1] ⟨rfl, rfl⟩ ?_
      rintro r g ⟨rfl, rfl⟩
      refine wb ?_ <;> intros
      exact wd hR _ [0, 1, 234] [] ⟨rfl, rfl⟩
attribute [local go_sem] valE
theorem valueE (x : Ex) : ValC 9 (exE x).r (fun st d => valE st x d) := by
  cases x with
  | leaf l =>
    have h : ValC 9 (lfR l) (fun st d => [valL st l d]) := fun n ss out site next d h0 h1 ho => valueL l n ss out site next d h0 (by omega) (by omega)
    cases l <;> exact h
  | idx l =>
    intro n ss out site next d h0 h1 ho
    simp only [exE, Ex.op, Ex.n, Ex.name, Ex.kids]
    refine wz Tryz.func134 us134 (h := fun R hR => ?_)
    refine wb ?_ <;> intros
    refine row_get (by omega) rfl rfl ?_
    refine wb ?_ <;> intros
    refine wq (valueL l n ss out site next d h0 (by omega) (by omega)) [0, 1] ?_
    rintro r g ⟨rfl, rfl⟩
    refine wb ?_ <;> intros
    refine wE (cellAt_v n ss ⟨#[113]⟩ 3 rfl) ?_
    refine wb ?_ <;> intros
    refine row_get (by omega) rfl rfl ?_
    refine wb ?_ <;> intros
    refine wq (put_ok n ss (out ++ [valL site l d]) site next ⟨7, d, 3, d, 2, 0⟩ (by simp; omega)) [0, 154] ?_
    rintro r g ⟨rfl, rfl⟩
    refine wb ?_ <;> intros
    exact wd hR (gOg n ss (out ++ valE site (.idx l) d) site next) [0, 1, 338] [] ⟨rfl, rfl⟩
  | bin k l r =>
    have hk : binOp k ≠ 1 ∧ binOp k ≠ 2 ∧ binOp k ≠ 3 ∧ -100 ≤ binOp k ∧ binOp k ≤ 100 := by revert k; decide
    intro n ss out site next d h0 h1 ho
    simp only [exE, Ex.op, Ex.n, Ex.name, Ex.kids, valE]
    generalize binOp k = op at hk
    refine wz Tryz.func134 us134 (h := fun R hR => ?_)
    refine wb ?_ <;> intros
    refine row_get (by omega) rfl rfl ?_
    refine wb ?_ <;> intros
    refine wq (valueL l n ss out site next d h0 (by omega) (by omega)) [0, 1] ?_
    rintro r g ⟨rfl, rfl⟩
    refine wb ?_ <;> intros
    refine row_get (by omega) rfl rfl ?_
    refine wb ?_ <;> intros
    refine wq (valueL r n ss (out ++ [valL site l d]) site next (d + 1) (by omega) (by omega) (by simp; omega)) [0, 194] ?_
    rintro r' g ⟨rfl, rfl⟩
    refine wb ?_ <;> intros
    refine wq (put_ok n ss (out ++ [valL site l d] ++ [valL site r (d + 1)]) site next ⟨4, d, d, d + 1, op, 0⟩ (by simp; omega)) [0, 258] ?_
    rintro r' g ⟨rfl, rfl⟩
    refine wb ?_ <;> intros
    exact wd hR (gOg n ss (out ++ [valL site l d, valL site r (d + 1), ⟨4, d, d, d + 1, op, site⟩]) site next) [0, 1, 330] [] ⟨rfl, rfl⟩
end AM

/- The functions that Trace needs: the compiler's assignments. -/
namespace AM
open Go Go.Proofs Mk
set_option linter.unusedVariables false
set_option linter.unusedSimpArgs false
set_option maxRecDepth 20000
set_option maxHeartbeats 4000000
def us130 : Nat → List (Nat × Nat) := fun i => if i = 5 then [(3, 5)] else if i = 8 then [(3, 5)] else if i = 11 then [(4, 6)] else []
def AsgC (s : Sm) (f : Int → List In) : Prop := ∀ (n : Nat) (ss : List (Nat × Nat)) (out : List In) (site next : Int), out.length ≤ 800 → ACall Tryz.prog 130 [.ptr 0 0, rw_ (stR s.op s.name s.arg (s.index.map lfR) (exO s.ex) (s.body.map smR) (s.els.map smR))] (gOs n ss out site next) (fun v g => v = .tup [] ∧ g = gOg n ss (out ++ f site) site next)
attribute [local go_sem] lfR
theorem assign_asg (k : Nm) (e : Ex) : AsgC (.asg k e) (fun st => valE st e 2 ++ [asgI st k]) := by
  intro n ss out site next ho
  have hv : (valE site e 2).length ≤ 3 := valE_le site e 2
  simp only [Sm.op, Sm.name, Sm.arg, Sm.index, Sm.ex, Sm.body, Sm.els, exO, List.map_nil]
  cases k
  all_goals
    simp only [Nm.str, asgI]
    refine wz Tryz.func130 us130 (h := fun R hR => ?_)
    refine wb ?_ <;> intros
    refine wq (valueE e n ss out site next 2 (by decide) (by decide) (by omega)) [0, 1] ?_
    rintro r g ⟨rfl, rfl⟩
    refine wb ?_ <;> intros
  · refine wE (at_v loNames ⟨#[97]⟩ 0 (by decide) rfl) ?_
    refine wb ?_ <;> intros
    refine wq (put_ok n ss (out ++ valE site e 2) site next ⟨2, 0, 2, 0, 0, 0⟩ (by simp; omega)) [0, 122] ?_
    rintro r g ⟨rfl, rfl⟩
    refine wb ?_ <;> intros
    exact wd hR (gOg n ss (out ++ (valE site e 2 ++ [⟨2, 0, 2, 0, 0, site⟩])) site next) [0, 1, 242] [] ⟨rfl, rfl⟩
  · refine wE (at_v loNames ⟨#[98]⟩ 1 (by decide) rfl) ?_
    refine wb ?_ <;> intros
    refine wq (put_ok n ss (out ++ valE site e 2) site next ⟨2, 1, 2, 0, 0, 0⟩ (by simp; omega)) [0, 122] ?_
    rintro r g ⟨rfl, rfl⟩
    refine wb ?_ <;> intros
    exact wd hR (gOg n ss (out ++ (valE site e 2 ++ [⟨2, 1, 2, 0, 0, site⟩])) site next) [0, 1, 242] [] ⟨rfl, rfl⟩
  · refine wE (at_v loNames ⟨#[120]⟩ (-1) (by decide) rfl) ?_
    refine wb ?_ <;> intros
    refine wE (cellAt_v n ss ⟨#[120]⟩ 0 rfl) ?_
    refine wb ?_ <;> intros
    refine wQ (put_ok n ss (out ++ valE site e 2) site next ⟨8, 0, 2, 0, 0, 0⟩ (by simp; omega)) [0, 122] ⟨rfl, rfl⟩ ?_
    rintro r g ⟨rfl, rfl⟩
    refine wb ?_ <;> intros
    exact wd hR (gOg n ss (out ++ (valE site e 2 ++ [⟨8, 0, 2, 0, 0, site⟩])) site next) [0, 1, 290] [] ⟨rfl, rfl⟩
  · refine wE (at_v loNames ⟨#[121]⟩ (-1) (by decide) rfl) ?_
    refine wb ?_ <;> intros
    refine wE (cellAt_v n ss ⟨#[121]⟩ 1 rfl) ?_
    refine wb ?_ <;> intros
    refine wQ (put_ok n ss (out ++ valE site e 2) site next ⟨8, 1, 2, 0, 0, 0⟩ (by simp; omega)) [0, 122] ⟨rfl, rfl⟩ ?_
    rintro r g ⟨rfl, rfl⟩
    refine wb ?_ <;> intros
    exact wd hR (gOg n ss (out ++ (valE site e 2 ++ [⟨8, 1, 2, 0, 0, site⟩])) site next) [0, 1, 290] [] ⟨rfl, rfl⟩
  · refine wE (at_v loNames ⟨#[118]⟩ (-1) (by decide) rfl) ?_
    refine wb ?_ <;> intros
    refine wE (cellAt_v n ss ⟨#[118]⟩ 2 rfl) ?_
    refine wb ?_ <;> intros
    refine wQ (put_ok n ss (out ++ valE site e 2) site next ⟨8, 2, 2, 0, 0, 0⟩ (by simp; omega)) [0, 122] ⟨rfl, rfl⟩ ?_
    rintro r g ⟨rfl, rfl⟩
    refine wb ?_ <;> intros
    exact wd hR (gOg n ss (out ++ (valE site e 2 ++ [⟨8, 2, 2, 0, 0, site⟩])) site next) [0, 1, 290] [] ⟨rfl, rfl⟩
theorem assign_asq (i : Lf) (e : Ex) : AsgC (.asq i e) (fun st => valL st i 2 :: (valE st e 3 ++ [⟨9, 3, 3, 2, 2, st⟩])) := by
  intro n ss out site next ho
  have hv : (valE site e 3).length ≤ 3 := valE_le site e 3
  simp only [Sm.op, Sm.name, Sm.arg, Sm.index, Sm.ex, Sm.body, Sm.els, exO, List.map_nil, List.map_cons]
  refine wz Tryz.func130 us130 (h := fun R hR => ?_)
  refine wb ?_ <;> intros
  refine row_get (by omega) rfl rfl ?_
  refine wb ?_ <;> intros
  refine wq (valueL i n ss out site next 2 (by decide) (by decide) (by omega)) [0, 1] ?_
  rintro r g ⟨rfl, rfl⟩
  refine wb ?_ <;> intros
  refine wq (valueE e n ss (out ++ [valL site i 2]) site next 3 (by decide) (by decide) (by simp; omega)) [0, 138] ?_
  rintro r g ⟨rfl, rfl⟩
  refine wb ?_ <;> intros
  refine wE (cellAt_v n ss ⟨#[113]⟩ 3 rfl) ?_
  refine wb ?_ <;> intros
  refine row_get (by omega) rfl rfl ?_
  refine wb ?_ <;> intros
  refine wq (put_ok n ss (out ++ [valL site i 2] ++ valE site e 3) site next ⟨9, 3, 3, 2, 2, 0⟩ (by simp; omega)) [0, 186] ?_
  rintro r g ⟨rfl, rfl⟩
  refine wb ?_ <;> intros
  exact wdr hR (gOg n ss (out ++ (valL site i 2 :: (valE site e 3 ++ [⟨9, 3, 3, 2, 2, site⟩]))) site next) [0, 1, 378] [] ⟨rfl, rfl⟩
end AM
