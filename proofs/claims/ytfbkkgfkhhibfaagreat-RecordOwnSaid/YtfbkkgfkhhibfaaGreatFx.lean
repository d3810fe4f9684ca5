/- The functions that Trace needs: the compiler's parts. -/
import Derived.Test.YtfbkkgfkhhibfaaGreatFt
import Derived.Test.YtfbkkgfkhhibfaaGreatFg
import Derived.Test.YtfbkkgfkhhibfaaGreatTh
namespace AM
open Go Go.Proofs Mk
set_option linter.unusedVariables false
set_option linter.unusedSimpArgs false
set_option maxRecDepth 20000
set_option maxHeartbeats 4000000
theorem wd {P : Program} {us : Nat → List (Nat × Nat)} {nt n0 nx : Nat} {R : Env → Sto → Prop} {hm : P.follows .mixedOrders = true} {env : Env} {σ : Sto} {post : AV → List (Option Obj) → Prop} (hR : ∀ env σ, RetVC P n0 [] post env σ → R env σ) (g : List (Option Obj)) (ls : List Nat) (fl : List (Nat × Option (List CT))) (hp : post (.tup []) g) (hb : vwB n0 ls g (fl.map (·.1)) = true := by kernel_rfl) (hl : g.length ≤ n0 + 8 := by exact Nat.le_of_ble_eq_true rfl) (hf : vF σ fl := by ((try clear hR); exact we)) (hO : vO (fzF σ fl) g.length (fl.map (·.1)) (lsf ls) σ g 0 := by ((try clear hR); exact we)) : sr ⟨P, us, nt, n0, R, hm⟩ [] env σ nx := sr_nil (hR _ _ (ret_mk (.tup []) g ls fl hb hl hp hf (rT_of ⟨rfl, by simp only [oneA, wk, AV.ren, AV.renL, wkL]⟩) hO))
theorem wdr {P : Program} {us : Nat → List (Nat × Nat)} {nt n0 nx : Nat} {R : Env → Sto → Prop} {hm : P.follows .mixedOrders = true} {k : List It} {c : Code} {env : Env} {σ : Sto} {post : AV → List (Option Obj) → Prop} (hR : ∀ env σ, RetVC P n0 [] post env σ → R env σ) (g : List (Option Obj)) (ls : List Nat) (fl : List (Nat × Option (List CT))) (hp : post (.tup []) g) (hb : vwB n0 ls g (fl.map (·.1)) = true := by kernel_rfl) (hl : g.length ≤ n0 + 8 := by exact Nat.le_of_ble_eq_true rfl) (hf : vF σ fl := by ((try clear hR); exact we)) (hO : vO (fzF σ fl) g.length (fl.map (·.1)) (lsf ls) σ g 0 := by ((try clear hR); exact we)) (hc : isRet c = true := by rfl) : sr ⟨P, us, nt, n0, R, hm⟩ (.code c :: k) env σ nx := cr_ret hc (hR _ _ (ret_mk (.tup []) g ls fl hb hl hp hf (rT_of ⟨rfl, by simp only [oneA, wk, AV.ren, AV.renL, wkL]⟩) hO))
theorem lockAt_v (l : List (ByteArray × Bool)) (s : ByteArray) (r : Int) (hl : l.length ≤ 1000) (h : atI (l.map (·.1)) s = r) : FnEq Tryz.prog 107 [.pv (.sl (l.map lkR)), .pv (strP s)] (.pv (intP r)) := by
  subst h
  refine wf Tryz.func107 (fun _ => []) (h := fun R hR => ?_)
  refine wb ?_ <;> intros
  refine wl (fun i : Nat => [(0, .pv (.sl (l.map lkR))), (1, .pv (strP s)), (5, .pv (intP i))]) (fun _ => []) (fun i => i ≤ l.length ∧ atI (l.map (·.1)) s = atFrom s i ((l.map (·.1)).drop i)) (fun i => l.length - i) 0 ⟨Nat.zero_le _, rfl⟩ (vm []) (fun i ⟨hi, ha⟩ => ?_)
  refine wb (A2.mk ?_ ?_) <;> intros
  · have h2 : i < l.length := by omega
    refine row_map (x := l[i]) (Int.natCast_nonneg _) (by simp [h2]) rfl ?_
    refine wb (A2.mk ?_ ?_) <;> intros
    · rw [at_hit (i := i) (by simpa using h2) (by simpa using ‹l[i].1 = s›) ha] at hR
      exact wr hR
    · exact sr_mark ⟨i + 1, ⟨h2, at_miss (i := i) (by simpa using h2) (by simpa using ‹_›) ha⟩, by omega, vm []⟩
  · rw [at_end (i := i) (by simp; omega) ha] at hR
    exact wr hR
theorem cellAt_v (n : Nat) (ss : List (Nat × Nat)) (s : ByteArray) (r : Int) (h : atI (ceL.map (·.name)) s = r) : FnEq Tryz.prog 172 [rw_ (wldR n ss), .pv (strP s)] (.pv (intP r)) := by
  subst h
  refine wf Tryz.func172 (fun _ => []) (h := fun R hR => ?_)
  refine wb ?_ <;> intros
  refine wl (fun i : Nat => [(1, .pv (strP s)), (2, .ptr 0 0), (5, .pv (intP i))]) (fun _ => [some (.box ((wldR n ss).map .pv))]) (fun i => i ≤ 5 ∧ atI (ceL.map (·.name)) s = atFrom s i ((ceL.map (·.name)).drop i)) (fun i => 5 - i) 0 ⟨Nat.zero_le _, rfl⟩ (vm [0]) (fun i ⟨hi, ha⟩ => ?_)
  refine wb (A2.mk ?_ ?_) <;> intros
  · have h2 : i < ceL.length := by rw [ceL_len]; omega
    refine row_map (x := ceL[i]) (Int.natCast_nonneg _) (by simp [h2]) rfl ?_
    refine wb (A2.mk ?_ ?_) <;> intros
    · rw [at_hit (i := i) (by simpa using h2) (by simpa using ‹ceL[i].name = s›) ha] at hR
      exact wr hR
    · exact sr_mark ⟨i + 1, ⟨by omega, at_miss (i := i) (by simpa using h2) (by simpa using ‹_›) ha⟩, by omega, vm [0]⟩
  · rw [at_end (i := i) (by simp [ceL_len]; omega) ha] at hR
    exact wr hR
@[go_sem] def gbox (n : Nat) (ss : List (Nat × Nat)) (r : Nat) (out : List In) (site next : Int) : Obj := .box [.pv (.sl (ceL.map CeR.r)), .pv (.sl (lkL.map lkR)), .pv (.sl (cdL.map cdR)), .pv (.sl (strR fuL)), .pv (.sl (strR (thNames n))), .pv (.sl (ss.map siR)), .pv (.sl (strR loNames)), .own r out.length, .pv (intP site), .pv (intP next)]
abbrev inO (out : List In) : Obj := .row 182 6 (out.map In.r)
@[go_sem] def gOs (n : Nat) (ss : List (Nat × Nat)) (out : List In) (site next : Int) : List Obj := [gbox n ss 1 out site next, inO out]
@[go_sem] def gOg (n : Nat) (ss : List (Nat × Nat)) (out : List In) (site next : Int) : List (Option Obj) := [some (gbox n ss 2 out site next), none, some (inO out)]
theorem put_ok (n : Nat) (ss : List (Nat × Nat)) (out : List In) (site next : Int) (i : In) (ho : out.length ≤ 2000) : ACall Tryz.prog 71 [.ptr 0 0, rw_ i.r] (gOs n ss out site next) (fun v g => v = .tup [] ∧ g = gOg n ss (out ++ [{ i with site := site }]) site next) := by
  refine wz Tryz.func71 (fun _ => [(4, 5)]) (h := fun R hR => ?_)
  refine wb ?_ <;> intros
  exact wd hR _ [0, 1, 114] [] ⟨rfl, rfl⟩
theorem cond_v (n : Nat) (ss : List (Nat × Nat)) (out : List In) (site next : Int) (s : ByteArray) (r : Int) (h : atI (cdL.map (·.1)) s = r) : ACall Tryz.prog 146 [.ptr 0 0, .pv (strP s)] (gOs n ss out site next) (fun v g => v = .pv (intP r) ∧ g = (gOs n ss out site next).map some) := by
  subst h
  refine wz Tryz.func146 (fun _ => []) (h := fun R hR => ?_)
  refine wb ?_ <;> intros
  refine wl (fun i : Nat => [(0, .ptr 0 0), (1, .pv (strP s)), (5, .pv (intP i))]) (fun _ => (gOs n ss out site next).map some) (fun i => i ≤ 1 ∧ atI (cdL.map (·.1)) s = atFrom s i ((cdL.map (·.1)).drop i)) (fun i => 1 - i) 0 ⟨Nat.zero_le _, rfl⟩ (vm [0, 1]) (fun i ⟨hi, ha⟩ => ?_)
  refine wb (A2.mk ?_ ?_) <;> intros
  · have h2 : i < cdL.length := by rw [cdL_len]; omega
    refine row_map (x := cdL[i]) (Int.natCast_nonneg _) (by simp [h2]) rfl ?_
    refine wb (A2.mk ?_ ?_) <;> intros
    · exact wo hR (.pv (intP i)) _ [0, 1] [] ⟨by rw [at_hit (i := i) (by simpa using h2) (by simpa using ‹cdL[i].1 = s›) ha], rfl⟩
    · exact sr_mark ⟨i + 1, ⟨by omega, at_miss (i := i) (by simpa using h2) (by simpa using ‹_›) ha⟩, by omega, vm [0, 1]⟩
  · exact wo hR (.pv (intP (-1))) _ [0, 1] [] ⟨by rw [at_end (i := i) (by simp [cdL_len]; omega) ha], rfl⟩
end AM

/- The functions that Trace needs: the compiler's expressions and assignments. -/
namespace AM
open Go Go.Proofs Mk
set_option linter.unusedVariables false
set_option linter.unusedSimpArgs false
set_option maxRecDepth 20000
set_option maxHeartbeats 4000000
def us134 : Nat → List (Nat × Nat) := fun i => if i = 7 then [(3, 5)] else if i = 10 then [(5, 7)] else if i = 13 then [(3, 5)] else []
def ValC (K : Int) (e : List PV) (f : Int → Int → List In) : Prop := ∀ (n : Nat) (ss : List (Nat × Nat)) (out : List In) (site next d : Int), 0 ≤ d → d ≤ K → (out.length : Int) ≤ 100 * K → ACall Tryz.prog 147 [.ptr 0 0, rw_ e, .pv (intP d)] (gOs n ss out site next) (fun v g => v = .tup [] ∧ g = gOg n ss (out ++ f site d) site next)
attribute [local go_sem] lfR
theorem valueL (l : Lf) : ValC 10 (lfR l) (fun st d => [valL st l d]) := by
  intro n ss out site next d h0 h1 ho
  cases l with
  | num k =>
    simp only [lfR, lfE, Lf.op, Lf.n, Lf.name]
    refine wz Tryz.func147 us134 (h := fun R hR => ?_)
    refine wb ?_ <;> intros
    refine wq (put_ok n ss out site next ⟨1, d, 0, 0, k.val, 0⟩ (by omega)) [0, 1] ?_
    rintro r g ⟨rfl, rfl⟩
    refine wb ?_ <;> intros
    exact wd hR _ [0, 1, 82] [] ⟨rfl, rfl⟩
  | var k =>
    simp only [lfR, lfE, Lf.op, Lf.n, Lf.name]
    cases k
    all_goals
      refine wz Tryz.func147 us134 (h := fun R hR => ?_)
      simp only [Nm.str]
      refine wb ?_ <;> intros
    · refine wE (at_v loNames ⟨#[97]⟩ 0 (by decide) rfl) ?_
      refine wb ?_ <;> intros
      refine wq (put_ok n ss out site next ⟨2, d, 0, 0, 0, 0⟩ (by omega)) [0, 1] ?_
      rintro r g ⟨rfl, rfl⟩
      refine wb ?_ <;> intros
      exact wd hR _ [0, 1, 186] [] ⟨rfl, rfl⟩
    · refine wE (at_v loNames ⟨#[98]⟩ 1 (by decide) rfl) ?_
      refine wb ?_ <;> intros
      refine wq (put_ok n ss out site next ⟨2, d, 1, 0, 0, 0⟩ (by omega)) [0, 1] ?_
      rintro r g ⟨rfl, rfl⟩
      refine wb ?_ <;> intros
      exact wd hR _ [0, 1, 186] [] ⟨rfl, rfl⟩
    · refine wE (at_v loNames ⟨#[120]⟩ (-1) (by decide) rfl) ?_
      refine wb ?_ <;> intros
      refine wE (cellAt_v n ss ⟨#[120]⟩ 0 rfl) ?_
      refine wb ?_ <;> intros
      refine wQ (put_ok n ss out site next ⟨6, d, 0, 0, 0, 0⟩ (by omega)) [0, 1] ⟨rfl, rfl⟩ ?_
      rintro r g ⟨rfl, rfl⟩
      refine wb ?_ <;> intros
      exact wd hR _ [0, 1, 234] [] ⟨rfl, rfl⟩
    · refine wE (at_v loNames ⟨#[121]⟩ (-1) (by decide) rfl) ?_
      refine wb ?_ <;> intros
      refine wE (cellAt_v n ss ⟨#[121]⟩ 1 rfl) ?_
      refine wb ?_ <;> intros
      refine wQ (put_ok n ss out site next ⟨6, d, 1, 0, 0, 0⟩ (by omega)) [0, 1] ⟨rfl, rfl⟩ ?_
      rintro r g ⟨rfl, rfl⟩
      refine wb ?_ <;> intros
      exact wd hR _ [0, 1, 234] [] ⟨rfl, rfl⟩
    · refine wE (at_v loNames ⟨#[118]⟩ (-1) (by decide) rfl) ?_
      refine wb ?_ <;> intros
      refine wE (cellAt_v n ss ⟨#[118]⟩ 2 rfl) ?_
      refine wb ?_ <;> intros
      refine wQ (put_ok n ss out site next ⟨6, d, 2, 0, 0, 0⟩ (by omega)) [0, 1] ⟨rfl, rfl⟩ ?_
      rintro r g ⟨rfl, rfl⟩
      refine wb ?_ <;> intros
      exact wd hR _ [0, 1, 234] [] ⟨rfl, rfl⟩
attribute [local go_sem] valE
theorem valueE (x : Ex) : ValC 9 (exE x).r (fun st d => valE st x d) := by
  cases x with
  | leaf l =>
    have h : ValC 9 (lfR l) (fun st d => [valL st l d]) := fun n ss out site next d h0 h1 ho => valueL l n ss out site next d h0 (by omega) (by omega)
    cases l <;> exact h
  | idx l =>
    intro n ss out site next d h0 h1 ho
    simp only [exE, Ex.op, Ex.n, Ex.name, Ex.kids]
    refine wz Tryz.func147 us134 (h := fun R hR => ?_)
    refine wb ?_ <;> intros
    refine row_get (by omega) rfl rfl ?_
    refine wb ?_ <;> intros
    refine wq (valueL l n ss out site next d h0 (by omega) (by omega)) [0, 1] ?_
    rintro r g ⟨rfl, rfl⟩
    refine wb ?_ <;> intros
    refine wE (cellAt_v n ss ⟨#[113]⟩ 3 rfl) ?_
    refine wb ?_ <;> intros
    refine row_get (by omega) rfl rfl ?_
    refine wb ?_ <;> intros
    refine wq (put_ok n ss (out ++ [valL site l d]) site next ⟨7, d, 3, d, 2, 0⟩ (by simp; omega)) [0, 154] ?_
    rintro r g ⟨rfl, rfl⟩
    refine wb ?_ <;> intros
    exact wd hR (gOg n ss (out ++ valE site (.idx l) d) site next) [0, 1, 338] [] ⟨rfl, rfl⟩
  | bin k l r =>
    have hk : binOp k ≠ 1 ∧ binOp k ≠ 2 ∧ binOp k ≠ 3 ∧ -100 ≤ binOp k ∧ binOp k ≤ 100 := by revert k; decide
    intro n ss out site next d h0 h1 ho
    simp only [exE, Ex.op, Ex.n, Ex.name, Ex.kids, valE]
    generalize binOp k = op at hk
    refine wz Tryz.func147 us134 (h := fun R hR => ?_)
    refine wb ?_ <;> intros
    refine row_get (by omega) rfl rfl ?_
    refine wb ?_ <;> intros
    refine wq (valueL l n ss out site next d h0 (by omega) (by omega)) [0, 1] ?_
    rintro r g ⟨rfl, rfl⟩
    refine wb ?_ <;> intros
    refine row_get (by omega) rfl rfl ?_
    refine wb ?_ <;> intros
    refine wq (valueL r n ss (out ++ [valL site l d]) site next (d + 1) (by omega) (by omega) (by simp; omega)) [0, 194] ?_
    rintro r' g ⟨rfl, rfl⟩
    refine wb ?_ <;> intros
    refine wq (put_ok n ss (out ++ [valL site l d] ++ [valL site r (d + 1)]) site next ⟨4, d, d, d + 1, op, 0⟩ (by simp; omega)) [0, 258] ?_
    rintro r' g ⟨rfl, rfl⟩
    refine wb ?_ <;> intros
    exact wd hR (gOg n ss (out ++ [valL site l d, valL site r (d + 1), ⟨4, d, d, d + 1, op, site⟩]) site next) [0, 1, 330] [] ⟨rfl, rfl⟩
end AM

/- The functions that Trace needs: the compiler's assignments. -/
namespace AM
open Go Go.Proofs Mk
set_option linter.unusedVariables false
set_option linter.unusedSimpArgs false
set_option maxRecDepth 20000
set_option maxHeartbeats 4000000
def us130 : Nat → List (Nat × Nat) := fun i => if i = 5 then [(3, 5)] else if i = 8 then [(3, 5)] else if i = 11 then [(4, 6)] else []
def AsgC (s : Sm) (f : Int → List In) : Prop := ∀ (n : Nat) (ss : List (Nat × Nat)) (out : List In) (site next : Int), out.length ≤ 800 → ACall Tryz.prog 143 [.ptr 0 0, rw_ (stR s.op s.name s.arg (s.index.map lfR) (exO s.ex) (s.body.map smR) (s.els.map smR))] (gOs n ss out site next) (fun v g => v = .tup [] ∧ g = gOg n ss (out ++ f site) site next)
attribute [local go_sem] lfR
theorem assign_asg (k : Nm) (e : Ex) : AsgC (.asg k e) (fun st => valE st e 2 ++ [asgI st k]) := by
  intro n ss out site next ho
  have hv : (valE site e 2).length ≤ 3 := valE_le site e 2
  simp only [Sm.op, Sm.name, Sm.arg, Sm.index, Sm.ex, Sm.body, Sm.els, exO, List.map_nil]
  cases k
  all_goals
    simp only [Nm.str, asgI]
    refine wz Tryz.func143 us130 (h := fun R hR => ?_)
    refine wb ?_ <;> intros
    refine wq (valueE e n ss out site next 2 (by decide) (by decide) (by omega)) [0, 1] ?_
    rintro r g ⟨rfl, rfl⟩
    refine wb ?_ <;> intros
  · refine wE (at_v loNames ⟨#[97]⟩ 0 (by decide) rfl) ?_
    refine wb ?_ <;> intros
    refine wq (put_ok n ss (out ++ valE site e 2) site next ⟨2, 0, 2, 0, 0, 0⟩ (by simp; omega)) [0, 122] ?_
    rintro r g ⟨rfl, rfl⟩
    refine wb ?_ <;> intros
    exact wd hR (gOg n ss (out ++ (valE site e 2 ++ [⟨2, 0, 2, 0, 0, site⟩])) site next) [0, 1, 242] [] ⟨rfl, rfl⟩
  · refine wE (at_v loNames ⟨#[98]⟩ 1 (by decide) rfl) ?_
    refine wb ?_ <;> intros
    refine wq (put_ok n ss (out ++ valE site e 2) site next ⟨2, 1, 2, 0, 0, 0⟩ (by simp; omega)) [0, 122] ?_
    rintro r g ⟨rfl, rfl⟩
    refine wb ?_ <;> intros
    exact wd hR (gOg n ss (out ++ (valE site e 2 ++ [⟨2, 1, 2, 0, 0, site⟩])) site next) [0, 1, 242] [] ⟨rfl, rfl⟩
  · refine wE (at_v loNames ⟨#[120]⟩ (-1) (by decide) rfl) ?_
    refine wb ?_ <;> intros
    refine wE (cellAt_v n ss ⟨#[120]⟩ 0 rfl) ?_
    refine wb ?_ <;> intros
    refine wQ (put_ok n ss (out ++ valE site e 2) site next ⟨8, 0, 2, 0, 0, 0⟩ (by simp; omega)) [0, 122] ⟨rfl, rfl⟩ ?_
    rintro r g ⟨rfl, rfl⟩
    refine wb ?_ <;> intros
    exact wd hR (gOg n ss (out ++ (valE site e 2 ++ [⟨8, 0, 2, 0, 0, site⟩])) site next) [0, 1, 290] [] ⟨rfl, rfl⟩
  · refine wE (at_v loNames ⟨#[121]⟩ (-1) (by decide) rfl) ?_
    refine wb ?_ <;> intros
    refine wE (cellAt_v n ss ⟨#[121]⟩ 1 rfl) ?_
    refine wb ?_ <;> intros
    refine wQ (put_ok n ss (out ++ valE site e 2) site next ⟨8, 1, 2, 0, 0, 0⟩ (by simp; omega)) [0, 122] ⟨rfl, rfl⟩ ?_
    rintro r g ⟨rfl, rfl⟩
    refine wb ?_ <;> intros
    exact wd hR (gOg n ss (out ++ (valE site e 2 ++ [⟨8, 1, 2, 0, 0, site⟩])) site next) [0, 1, 290] [] ⟨rfl, rfl⟩
  · refine wE (at_v loNames ⟨#[118]⟩ (-1) (by decide) rfl) ?_
    refine wb ?_ <;> intros
    refine wE (cellAt_v n ss ⟨#[118]⟩ 2 rfl) ?_
    refine wb ?_ <;> intros
    refine wQ (put_ok n ss (out ++ valE site e 2) site next ⟨8, 2, 2, 0, 0, 0⟩ (by simp; omega)) [0, 122] ⟨rfl, rfl⟩ ?_
    rintro r g ⟨rfl, rfl⟩
    refine wb ?_ <;> intros
    exact wd hR (gOg n ss (out ++ (valE site e 2 ++ [⟨8, 2, 2, 0, 0, site⟩])) site next) [0, 1, 290] [] ⟨rfl, rfl⟩
theorem assign_asq (i : Lf) (e : Ex) : AsgC (.asq i e) (fun st => valL st i 2 :: (valE st e 3 ++ [⟨9, 3, 3, 2, 2, st⟩])) := by
  intro n ss out site next ho
  have hv : (valE site e 3).length ≤ 3 := valE_le site e 3
  simp only [Sm.op, Sm.name, Sm.arg, Sm.index, Sm.ex, Sm.body, Sm.els, exO, List.map_nil, List.map_cons]
  refine wz Tryz.func143 us130 (h := fun R hR => ?_)
  refine wb ?_ <;> intros
  refine row_get (by omega) rfl rfl ?_
  refine wb ?_ <;> intros
  refine wq (valueL i n ss out site next 2 (by decide) (by decide) (by omega)) [0, 1] ?_
  rintro r g ⟨rfl, rfl⟩
  refine wb ?_ <;> intros
  refine wq (valueE e n ss (out ++ [valL site i 2]) site next 3 (by decide) (by decide) (by simp; omega)) [0, 138] ?_
  rintro r g ⟨rfl, rfl⟩
  refine wb ?_ <;> intros
  refine wE (cellAt_v n ss ⟨#[113]⟩ 3 rfl) ?_
  refine wb ?_ <;> intros
  refine row_get (by omega) rfl rfl ?_
  refine wb ?_ <;> intros
  refine wq (put_ok n ss (out ++ [valL site i 2] ++ valE site e 3) site next ⟨9, 3, 3, 2, 2, 0⟩ (by simp; omega)) [0, 186] ?_
  rintro r g ⟨rfl, rfl⟩
  refine wb ?_ <;> intros
  exact wdr hR (gOg n ss (out ++ (valL site i 2 :: (valE site e 3 ++ [⟨9, 3, 3, 2, 2, site⟩]))) site next) [0, 1, 378] [] ⟨rfl, rfl⟩
end AM

/- The functions that Trace needs: the compiler's statements. -/
namespace AM
open Go Go.Proofs Mk
set_option linter.unusedVariables false
set_option linter.unusedSimpArgs false
set_option maxRecDepth 20000
set_option maxHeartbeats 4000000
def GsC (n : Nat) (l : List Sm) : Prop := ∀ (ss : List (Nat × Nat)) (out : List In) (site : Int) (next : Nat), out.length + 8 * cntL l ≤ 700 → next + cntL l ≤ 1000 → ACall Tryz.prog 70 [.ptr 0 0, .pv (smL l)] (gOs n ss out site next) (fun v g => v = .tup [] ∧ ∃ site' : Int, g = gOg n ss (out ++ genL n out.length next l) site' ((next + cntL l : Nat) : Int))
def GtC (n : Nat) (s : Sm) : Prop := ∀ (ss : List (Nat × Nat)) (out : List In) (site : Int) (next : Nat), out.length + 8 * cntS s ≤ 700 → next + cntS s ≤ 1000 → ACall Tryz.prog 109 [.ptr 0 0, rw_ (stR s.op s.name s.arg (s.index.map lfR) (exO s.ex) (s.body.map smR) (s.els.map smR))] (gOs n ss out site next) (fun v g => v = .tup [] ∧ ∃ site' : Int, g = gOg n ss (out ++ genS n out.length next s) site' ((next + cntS s : Nat) : Int))
theorem gstmts_ok (n : Nat) (l : List Sm) (hs : ∀ s ∈ l, GtC n s) : GsC n l := by
  intro ss out site next ho hn
  have hc := cntL_eq l
  refine wz Tryz.func70 (fun _ => []) (h := fun R hR => ?_)
  refine wb ?_ <;> intros
  refine wl (fun u : Nat × List In × Int × Nat => [(0, .ptr 0 0), (1, .pv (smL l)), (4, .pv (intP u.1))]) (fun u => gOg n ss u.2.1 u.2.2.1 u.2.2.2) (fun u => u.1 ≤ l.length ∧ u.2.1 ++ genL n u.2.1.length u.2.2.2 (l.drop u.1) = out ++ genL n out.length next l ∧ u.2.2.2 + cntL (l.drop u.1) = next + cntL l ∧ u.2.1.length + 8 * cntL (l.drop u.1) ≤ 700) (fun u => l.length - u.1) (0, out, site, next) ⟨Nat.zero_le _, rfl, rfl, ho⟩ (vm [0, 1, 1]) (fun ⟨i, o, st, nx⟩ ⟨hi, hd, hnx, hol⟩ => ?_)
  dsimp only at hi hd hnx hol
  refine wb (A2.mk ?_ ?_) <;> intros
  · have h2 : i < l.length := by omega
    rw [List.drop_eq_getElem_cons h2] at hd hnx hol
    generalize hx : l[i] = x at hd hnx hol
    simp only [genL, cntL] at hd hnx hol
    have hlen := genS_len n o.length nx x
    refine row_map (x := x) (by omega) (by simp [h2, hx]) (smR_len _) ?_
    rw [smR_eq]
    refine wb ?_ <;> intros
    refine wq (hs x (by rw [← hx]; exact List.getElem_mem _) ss o st nx (by omega) (by omega)) [0, 2] ?_
    rintro r g ⟨rfl, site', rfl⟩
    refine wb ?_ <;> intros
    refine sr_mark ⟨(i + 1, o ++ genS n o.length nx x, site', nx + cntS x), ⟨h2, by rw [List.append_assoc, List.length_append]; exact hd, by dsimp only; omega, by simp; omega⟩, by dsimp only; omega, vm [0, 1, 75]⟩
  · rw [List.drop_eq_nil_of_le (by omega)] at hd hnx
    simp only [genL, cntL, List.append_nil, Nat.add_zero] at hd hnx
    exact wd hR (gOg n ss o st nx) [0, 1, 2] [] ⟨rfl, st, by rw [← hd, ← hnx]⟩
theorem around_ok (n : Nat) (s : Sm) (hb : GsC n s.body) (first last obj : Int) (ss : List (Nat × Nat)) (out : List In) (site : Int) (next : Nat) (ho : out.length + 8 * cntL s.body + 2 ≤ 700) (hn : next + cntL s.body ≤ 1000) :
    ACall Tryz.prog 145 [.ptr 0 0, rw_ (stR s.op s.name s.arg (s.index.map lfR) (exO s.ex) (s.body.map smR) (s.els.map smR)), .pv (intP first), .pv (intP last), .pv (intP obj)] (gOs n ss out site next) (fun v g => v = .tup [] ∧ g = gOg n ss (out ++ ⟨first, obj, 0, 0, 0, site⟩ :: (genL n (out.length + 1) next s.body ++ [⟨last, obj, 0, 0, 0, site⟩])) site ((next + cntL s.body : Nat) : Int)) := by
  have hlen := genL_len n (out.length + 1) next s.body
  refine wz Tryz.func145 (fun _ => []) (h := fun R hR => ?_)
  refine wb ?_ <;> intros
  refine wq (put_ok n ss out site next ⟨first, obj, 0, 0, 0, 0⟩ (by omega)) [0, 1] ?_
  rintro r g ⟨rfl, rfl⟩
  refine wb ?_ <;> intros
  refine wq (hb ss (out ++ [⟨first, obj, 0, 0, 0, site⟩]) site next (by simp; omega) (by omega)) [0, 82] ?_
  rintro r g ⟨rfl, site', rfl⟩
  rw [List.length_append, List.length_singleton]
  refine wb ?_ <;> intros
  refine wq (put_ok n ss (out ++ [⟨first, obj, 0, 0, 0, site⟩] ++ genL n (out.length + 1) next s.body) site ((next + cntL s.body : Nat) : Int) ⟨last, obj, 0, 0, 0, 0⟩ (by simp; omega)) [0, 114] ?_
  rintro r g ⟨rfl, rfl⟩
  refine wb ?_ <;> intros
  exact wd hR _ [0, 1, 194] [] ⟨rfl, rfl⟩
def us131 : Nat → List (Nat × Nat) := fun i => if i = 3 then [(2, 6)] else if i = 10 then [(3, 8)] else if i = 12 then [(3, 8)] else if i = 15 then [(3, 8)] else if i = 17 then [(3, 8)] else []
theorem mod_app2 {β : Type} {z : β} {c : List β} {F : β → β} : ∀ (a : List β), (a ++ z :: c).modify a.length F = a ++ F z :: c
  | [] => rfl
  | x :: a => by simp only [List.cons_append, List.length_cons, List.modify_succ_cons, mod_app2 a]
theorem mod_m2 {α β : Type} {g : α → β} {a b : List α} {z : β} {c : List β} {F : β → β} : (a.map g ++ (b.map g ++ z :: c)).modify (a.length + b.length) F = a.map g ++ (b.map g ++ F z :: c) := by
  have := mod_app2 (z := z) (c := c) (F := F) (a.map g ++ b.map g)
  simpa [List.append_assoc] using this
theorem mod_m3 {α β : Type} {g : α → β} {a b d : List α} {y z : β} {c : List β} {F : β → β} : (a.map g ++ (b.map g ++ y :: (d.map g ++ z :: c))).modify (a.length + (b.length + (d.length + 1))) F = a.map g ++ (b.map g ++ y :: (d.map g ++ F z :: c)) := by
  have := mod_app2 (z := z) (c := c) (F := F) (a.map g ++ (b.map g ++ y :: d.map g))
  simpa [List.append_assoc, Nat.add_assoc, Nat.add_comm, Nat.add_left_comm] using this
attribute [local go_sem] List.append_assoc mod_m2 mod_m3
theorem brn_ite0 (n : Nat) (e : Ex) (b : List Sm) (hb : GsC n b) (ss : List (Nat × Nat)) (out : List In) (site : Int) (next : Nat) (ho : out.length + 8 * (cntL b) + 8 ≤ 700) (hn : next + (cntL b) ≤ 1000) :
    ACall Tryz.prog 144 [.ptr 0 0, rw_ (stR 2 bE bE [] (exE e) (b.map smR) [])] (gOs n ss out site next) (fun v g => v = .tup [] ∧ g = gOg n ss (out ++ (valE site e 2 ++ ⟨10, 2, ((out.length + (valE site e 2).length + 1 + (genL n (out.length + (valE site e 2).length + 1) next b).length : Nat) : Int), 0, 0, site⟩ :: genL n (out.length + (valE site e 2).length + 1) next b)) site ((next + (cntL b) : Nat) : Int)) := by
  have hlen := genL_len n (out.length + (valE site e 2).length + 1) next b
  have hv := valE_le site e 2
  refine wz Tryz.func144 us131 (h := fun R hR => ?_)
  refine wb ?_ <;> intros
  refine wQ (valueE e n ss out site next 2 (by decide) (by decide) (by omega)) [0, 1] ⟨rfl, rfl⟩ ?_
  rintro r g ⟨rfl, rfl⟩
  refine wb ?_ <;> intros
  refine wq (put_ok n ss (out ++ valE site e 2) site next ⟨10, 2, 0, 0, 0, 0⟩ (by simp; omega)) [0, 162] ?_
  rintro r g ⟨rfl, rfl⟩
  refine wb ?_ <;> intros
  refine wq (hb ss (out ++ valE site e 2 ++ [⟨10, 2, 0, 0, 0, site⟩]) site next (by simp; omega) (by omega)) [0, 274] ?_
  rintro r g ⟨rfl, site', rfl⟩
  rw [show (out ++ valE site e 2 ++ [(⟨10, 2, 0, 0, 0, site⟩ : In)]).length = out.length + (valE site e 2).length + 1 by simp [Nat.add_assoc]]
  refine wb ?_ <;> intros
  exact wdr hR (gOg n ss (out ++ (valE site e 2 ++ ⟨10, 2, ((out.length + (valE site e 2).length + 1 + (genL n (out.length + (valE site e 2).length + 1) next b).length : Nat) : Int), 0, 0, site⟩ :: genL n (out.length + (valE site e 2).length + 1) next b)) site ((next + cntL b : Nat) : Int)) [0, 1, 306] [] ⟨rfl, rfl⟩
theorem brn_whl (n : Nat) (e : Ex) (b : List Sm) (hb : GsC n b) (ss : List (Nat × Nat)) (out : List In) (site : Int) (next : Nat) (ho : out.length + 8 * (cntL b) + 8 ≤ 700) (hn : next + (cntL b) ≤ 1000) :
    ACall Tryz.prog 144 [.ptr 0 0, rw_ (stR 3 bE bE [] (exE e) (b.map smR) [])] (gOs n ss out site next) (fun v g => v = .tup [] ∧ g = gOg n ss (out ++ (valE site e 2 ++ ⟨10, 2, ((out.length + (valE site e 2).length + 1 + (genL n (out.length + (valE site e 2).length + 1) next b).length + 1 : Nat) : Int), 0, 0, site⟩ :: (genL n (out.length + (valE site e 2).length + 1) next b ++ [⟨5, (out.length : Int), 0, 0, 0, site⟩]))) site ((next + (cntL b) : Nat) : Int)) := by
  have hlen := genL_len n (out.length + (valE site e 2).length + 1) next b
  have hv := valE_le site e 2
  refine wz Tryz.func144 us131 (h := fun R hR => ?_)
  refine wb ?_ <;> intros
  refine wQ (valueE e n ss out site next 2 (by decide) (by decide) (by omega)) [0, 1] ⟨rfl, rfl⟩ ?_
  rintro r g ⟨rfl, rfl⟩
  refine wb ?_ <;> intros
  refine wq (put_ok n ss (out ++ valE site e 2) site next ⟨10, 2, 0, 0, 0, 0⟩ (by simp; omega)) [0, 162] ?_
  rintro r g ⟨rfl, rfl⟩
  refine wb ?_ <;> intros
  refine wq (hb ss (out ++ valE site e 2 ++ [⟨10, 2, 0, 0, 0, site⟩]) site next (by simp; omega) (by omega)) [0, 274] ?_
  rintro r g ⟨rfl, site', rfl⟩
  rw [show (out ++ valE site e 2 ++ [(⟨10, 2, 0, 0, 0, site⟩ : In)]).length = out.length + (valE site e 2).length + 1 by simp [Nat.add_assoc]]
  refine wb ?_ <;> intros
  refine wq (put_ok n ss (out ++ valE site e 2 ++ [⟨10, 2, 0, 0, 0, site⟩] ++ genL n (out.length + (valE site e 2).length + 1) next b) site ((next + cntL b : Nat) : Int) ⟨5, out.length, 0, 0, 0, 0⟩ (by simp; omega)) [0, 306] ?_
  rintro r g ⟨rfl, rfl⟩
  refine wb ?_ <;> intros
  exact wdr hR (gOg n ss (out ++ (valE site e 2 ++ ⟨10, 2, ((out.length + (valE site e 2).length + 1 + (genL n (out.length + (valE site e 2).length + 1) next b).length + 1 : Nat) : Int), 0, 0, site⟩ :: (genL n (out.length + (valE site e 2).length + 1) next b ++ [⟨5, (out.length : Int), 0, 0, 0, site⟩]))) site ((next + cntL b : Nat) : Int)) [0, 1, 402] [] ⟨rfl, rfl⟩
theorem brn_ite1 (n : Nat) (e : Ex) (b c : List Sm) (hb : GsC n b) (hc : GsC n c) (ss : List (Nat × Nat)) (out : List In) (site : Int) (next : Nat) (ho : out.length + 8 * (cntL b + cntL c) + 8 ≤ 700) (hn : next + (cntL b + cntL c) ≤ 1000) (h0 : 0 < c.length) :
    ACall Tryz.prog 144 [.ptr 0 0, rw_ (stR 2 bE bE [] (exE e) (b.map smR) (c.map smR))] (gOs n ss out site next) (fun v g => v = .tup [] ∧ ∃ site', g = gOg n ss (out ++ (valE site e 2 ++ ⟨10, 2, ((out.length + (valE site e 2).length + 1 + (genL n (out.length + (valE site e 2).length + 1) next b).length + 1 : Nat) : Int), 0, 0, site⟩ :: (genL n (out.length + (valE site e 2).length + 1) next b ++ ⟨5, ((out.length + (valE site e 2).length + 1 + (genL n (out.length + (valE site e 2).length + 1) next b).length + 1 + (genL n (out.length + (valE site e 2).length + 1 + (genL n (out.length + (valE site e 2).length + 1) next b).length + 1) (next + cntL b) c).length : Nat) : Int), 0, 0, 0, site⟩ :: genL n (out.length + (valE site e 2).length + 1 + (genL n (out.length + (valE site e 2).length + 1) next b).length + 1) (next + cntL b) c))) site' ((next + (cntL b + cntL c) : Nat) : Int)) := by
  have hlen := genL_len n (out.length + (valE site e 2).length + 1) next b
  have hv := valE_le site e 2
  refine wz Tryz.func144 us131 (h := fun R hR => ?_)
  refine wb ?_ <;> intros
  refine wQ (valueE e n ss out site next 2 (by decide) (by decide) (by omega)) [0, 1] ⟨rfl, rfl⟩ ?_
  rintro r g ⟨rfl, rfl⟩
  refine wb ?_ <;> intros
  refine wq (put_ok n ss (out ++ valE site e 2) site next ⟨10, 2, 0, 0, 0, 0⟩ (by simp; omega)) [0, 162] ?_
  rintro r g ⟨rfl, rfl⟩
  refine wb ?_ <;> intros
  refine wq (hb ss (out ++ valE site e 2 ++ [⟨10, 2, 0, 0, 0, site⟩]) site next (by simp; omega) (by omega)) [0, 274] ?_
  rintro r g ⟨rfl, site', rfl⟩
  rw [show (out ++ valE site e 2 ++ [(⟨10, 2, 0, 0, 0, site⟩ : In)]).length = out.length + (valE site e 2).length + 1 by simp [Nat.add_assoc]]
  refine wb ?_ <;> intros
  refine wq (put_ok n ss (out ++ valE site e 2 ++ [⟨10, 2, 0, 0, 0, site⟩] ++ genL n (out.length + (valE site e 2).length + 1) next b) site ((next + cntL b : Nat) : Int) ⟨5, 0, 0, 0, 0, 0⟩ (by simp; omega)) [0, 306] ?_
  rintro r g ⟨rfl, rfl⟩
  refine wb ?_ <;> intros
  have hl2 : (out ++ (valE site e 2 ++ (⟨10, 2, ((out.length + ((valE site e 2).length + ((genL n (out.length + (valE site e 2).length + 1) next b).length + 1 + 1)) : Nat) : Int), 0, 0, site⟩ : In) :: (genL n (out.length + (valE site e 2).length + 1) next b ++ [⟨5, 0, 0, 0, 0, site⟩]))).length = out.length + (valE site e 2).length + 1 + (genL n (out.length + (valE site e 2).length + 1) next b).length + 1 := by simp [Nat.add_assoc, Nat.add_comm, Nat.add_left_comm]
  refine wq (hc ss (out ++ (valE site e 2 ++ (⟨10, 2, ((out.length + ((valE site e 2).length + ((genL n (out.length + (valE site e 2).length + 1) next b).length + 1 + 1)) : Nat) : Int), 0, 0, site⟩ : In) :: (genL n (out.length + (valE site e 2).length + 1) next b ++ [⟨5, 0, 0, 0, 0, site⟩]))) site (next + cntL b) (by rw [hl2]; omega) (by omega)) [0, 474] ?_
  rintro r g ⟨rfl, site2, rfl⟩
  rw [hl2]
  have hlen2 := genL_len n (out.length + (valE site e 2).length + 1 + (genL n (out.length + (valE site e 2).length + 1) next b).length + 1) (next + cntL b) c
  refine wb ?_ <;> intros
  have hK : out.length + (valE site e 2).length + 1 + (genL n (out.length + (valE site e 2).length + 1) next b).length + 1 = out.length + ((valE site e 2).length + ((genL n (out.length + (valE site e 2).length + 1) next b).length + 1 + 1)) := by omega
  rw [show ((next + (cntL b + cntL c) : Nat) : Int) = ((next + cntL b + cntL c : Nat) : Int) by omega, hK] at hR
  exact wd hR _ [0, 1, 610] [] ⟨rfl, site2, rfl⟩
end AM
