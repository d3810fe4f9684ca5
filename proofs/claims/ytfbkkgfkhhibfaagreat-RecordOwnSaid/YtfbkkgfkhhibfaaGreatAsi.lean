/- The abstract machine: what 'simp' computes. -/
import Derived.Test.YtfbkkgfkhhibfaaGreatAdv
namespace AM
open Go Go.RowKit
set_option linter.unusedVariables false
set_option linter.unusedSimpArgs false
mutual
theorem ren_lb : ∀ (v : AV) (ρ : Nat → Nat), v.lb 0 = true → v.ren ρ = v
  | .own r n, _, h => by simp [AV.lb] at h
  | .ptr l o, _, h => by simp [AV.lb] at h
  | .rp r k i o, _, h => by simp [AV.lb] at h
  | .agg cs, ρ, h => by simp only [AV.ren]; rw [ren_lbL cs ρ (by simpa [AV.lb] using h)]
  | .tup cs, ρ, h => by simp only [AV.ren]; rw [ren_lbL cs ρ (by simpa [AV.lb] using h)]
  | .pv _, _, _ => rfl
  | .fp _ _, _, _ => rfl
  | .tp _ _, _, _ => rfl
  | .emp, _, _ => rfl
theorem ren_lbL : ∀ (vs : List AV) (ρ : Nat → Nat), AV.lbL 0 vs = true → AV.renL ρ vs = vs
  | [], _, _ => rfl
  | v :: r, ρ, h => by
    simp only [AV.lbL, Bool.and_eq_true] at h
    simp only [AV.renL]
    rw [ren_lb v ρ h.1, ren_lbL r ρ h.2]
end
def FnOk (P : Program) (f : FuncId) (as : List AV) (Q : AV → Prop) : Prop := isGo P f = true ∧ AV.lbL 0 as = true ∧ ACall P f as [] (fun r g => g = [] ∧ r.lb 0 = true ∧ Q r)
abbrev keyT : Key := ⟨[], [], true, false, true⟩
abbrev keyP : Key := ⟨[], [], false, true, true⟩
theorem call_fn {P : Program} {dr : Bool} {f : FuncId} {nx i : Nat} {vals : List (Option AV)} {σ : Sto} {K : AV → List (Nat × Option Obj) → Key → Prop} {as : List AV} {Q : AV → Prop} (hf : FnOk P f as Q) (hv : vals = as.map some) (hi : dr = true → ∃ r : AV, r.lb 0 = true ∧ Q r) (h : ∀ r, r.lb 0 = true → Q r → K r [] keyP) : CallVC P dr f nx i vals σ K := by
  obtain ⟨h1, h2, h3⟩ := hf
  refine ⟨as, [], _, [], h1, h3, by rw [ren_lbL as _ h2]; exact hv, h2, rfl, rfl, List.nodup_nil, rfl, fun k o hk => by simp at hk, fun hd => ?_, fun r g hp h4 h5 => ?_⟩
  · obtain ⟨r, q1, q2⟩ := hi hd
    exact ⟨r, [], ⟨rfl, q1, q2⟩, by simp, by simp⟩
  · obtain ⟨rfl, q1, q2⟩ := hp
    rw [ren_lb r _ q1]
    exact h r q1 q2
def RowVC (els : List (List PV)) (i : Int) (k : Nat) (F : List PV → Prop) : Prop := (0 ≤ i ∧ ∃ row, els[i.toNat]? = some row ∧ row.length = k) ∧ ∀ row, els[i.toNat]? = some row → F row
@[congr] theorem RowVC_congr {els els' : List (List PV)} {i i' : Int} {k : Nat} {F : List PV → Prop} (h : els = els') (h' : i = i') : RowVC els i k F = RowVC els' i' k F := by rw [h, h']
theorem row_map {α : Type} {l : List α} {f : α → List PV} {i : Int} {k : Nat} {F : List PV → Prop} {x : α} (h0 : 0 ≤ i) (hx : l[i.toNat]? = some x) (hk : (f x).length = k) (hF : F (f x)) : RowVC (l.map f) i k F := by
  have h1 : (l.map f)[i.toNat]? = some (f x) := by simp [hx]
  exact ⟨⟨h0, _, h1, hk⟩, fun row hr => by rw [h1] at hr; injection hr with hr; rw [← hr]; exact hF⟩
theorem row_get {els : List (List PV)} {i : Int} {k : Nat} {F : List PV → Prop} {x : List PV} (h0 : 0 ≤ i) (h1 : els[i.toNat]? = some x) (hk : x.length = k) (hF : F x) : RowVC els i k F :=
  ⟨⟨h0, _, h1, hk⟩, fun row hr => by rw [h1] at hr; injection hr with hr; rw [← hr]; exact hF⟩
def TyVC (ct : CT) (F : PV → Prop) : Prop := ∀ p, ct.ok p → F p
@[congr] theorem TyVC_congr {ct : CT} {F : PV → Prop} : TyVC ct F = TyVC ct F := rfl
def LdVC (els : List (List PV)) (i : Nat) (g : Bool) (k off : Nat) (F : AV → Prop) : Prop := (∃ row v, els[i]? = some row ∧ ldC g k (row.map .pv) off = some v) ∧ ∀ v, (∃ row, els[i]? = some row ∧ ldC g k (row.map .pv) off = some v) → F v
@[congr] theorem LdVC_congr {els els' : List (List PV)} {i i' : Nat} {g : Bool} {k off : Nat} {F : AV → Prop} (h : els = els') (h' : i = i') : LdVC els i g k off F = LdVC els' i' g k off F := by rw [h, h']
theorem ld_get {els : List (List PV)} {i : Nat} {g : Bool} {k off : Nat} {F : AV → Prop} {x : List PV} {v : AV} (h1 : els[i]? = some x) (hv : ldC g k (x.map .pv) off = some v) (hF : F v) : LdVC els i g k off F :=
  ⟨⟨_, _, h1, hv⟩, fun v' hr => by
    obtain ⟨row, q1, q2⟩ := hr
    rw [h1] at q1
    injection q1 with q1
    rw [← q1, hv] at q2
    injection q2 with q2
    rw [← q2]
    exact hF⟩
@[congr] theorem CallVC_congr {P : Program} {dr : Bool} {f : FuncId} {nx i : Nat} {vals vals' : List (Option AV)} {σ : Sto} {K : AV → List (Nat × Option Obj) → Key → Prop} (h : vals = vals') : CallVC P dr f nx i vals σ K = CallVC P dr f nx i vals' σ K := by rw [h]
def GateVC (b : Bool) (X Y : Prop) : Prop := (b = true → X) ∧ (b = false → Y)
section
variable {P : Program} {ops : Array Oper} {nx i : Nat} {dr : Bool} {U : List (Nat × Nat)} {K : Env → Sto → Nat → Prop} {log : List (Nat × Key)} {l : List Oper} {env : Env} {σ : Sto} {d : Option Nat} {ty : TypeId} {pos : String} {aft : Array Edge} {gd : Option (Nat × Bool)}
def vo (P : Program) (ops : Array Oper) (nx : Nat) (dr : Bool) (U : List (Nat × Nat)) (K : Env → Sto → Nat → Prop) (log : List (Nat × Key)) (o : Oper) (l : List Oper) (i : Nat) (env : Env) (σ : Sto) : Prop :=
  vX P dr nx i o env σ (fun v G key => chkL nx U i key log ∧ vS P ops nx dr U K (adl U i key log) l (i + 1) (env.put o.dst v) (σ.upds G))
def keyD (nx i : Nat) (d : DO) : Key := ⟨d.rd, d.wr.filter (fun l => !own nx i l), d.det, false, true⟩
def vD (P : Program) (ops : Array Oper) (nx : Nat) (dr : Bool) (U : List (Nat × Nat)) (K : Env → Sto → Nat → Prop) (log : List (Nat × Key)) (dst : Option Nat) (l : List Oper) (i : Nat) (env : Env) (σ : Sto) (x : Option DO) : Prop :=
  match x with
  | none => False
  | some d => d.ok ∧ ∀ v, d.out v → chkL nx U i (keyD nx i d) log ∧ vS P ops nx dr U K (adl U i (keyD nx i d) log) l (i + 1) (env.put dst v) (σ.upds d.upd)
@[go_sem] theorem vS_nil : vS P ops nx dr U K log [] i env σ = K env σ (nx + 8 * i) := rfl
@[go_sem] theorem vS_g0 {op : Op} : vS P ops nx dr U K log (⟨d, op, ty, pos, aft, none⟩ :: l) i env σ = vo P ops nx dr U K log ⟨d, op, ty, pos, aft, none⟩ l i env σ := rfl
def vgt (P : Program) (ops : Array Oper) (nx : Nat) (dr : Bool) (U : List (Nat × Nat)) (K : Env → Sto → Nat → Prop) (log : List (Nat × Key)) (o : Oper) (l : List Oper) (i : Nat) (env : Env) (σ : Sto) (want : Bool) (dg : Option Nat) (x : Option AV) : Prop :=
  match x with
  | some (.pv (.sc (.bool b))) => GateVC b (if want = true then vo P ops nx dr U K log o l i (env.put dg (.pv (.sc (.bool true)))) σ else vS P ops nx dr U K log l (i + 1) ((env.put dg (.pv (.sc (.bool true)))).put o.dst (.tup [])) σ)
      (if want = true then vS P ops nx dr U K log l (i + 1) ((env.put dg (.pv (.sc (.bool false)))).put o.dst (.tup [])) σ else vo P ops nx dr U K log o l i (env.put dg (.pv (.sc (.bool false)))) σ)
  | some (.tup []) => vS P ops nx dr U K log l (i + 1) (env.put o.dst (.tup [])) σ
  | _ => False
def dstAt (ops : Array Oper) (g : Nat) : Option Nat := (ops[g]?).bind (·.dst)
def evO (env : Env) : Option Nat → Option AV
  | some d => env d
  | none => none
@[go_sem] theorem vS_g1 {op : Op} {g : Nat} {want : Bool} : vS P ops nx dr U K log (⟨d, op, ty, pos, aft, some (g, want)⟩ :: l) i env σ = vgt P ops nx dr U K log ⟨d, op, ty, pos, aft, some (g, want)⟩ l i env σ want (dstAt ops g) (evO env (dstAt ops g)) := by
  simp only [vS, vG, vgt, dstAt, GateVC, vo]
  cases (ops[g]?).bind (·.dst) with
  | none => rfl
  | some q => rfl
@[go_sem] theorem evO_some {q : Nat} : evO env (some q) = env q := rfl
theorem vgt_tt {o : Oper} {want : Bool} {dg : Option Nat} : vgt P ops nx dr U K log o l i env σ want dg (some (.pv (.sc (.bool true)))) = if want = true then vo P ops nx dr U K log o l i (env.put dg (.pv (.sc (.bool true)))) σ else vS P ops nx dr U K log l (i + 1) ((env.put dg (.pv (.sc (.bool true)))).put o.dst (.tup [])) σ := by
  simp [vgt, GateVC]
theorem vgt_ff {o : Oper} {want : Bool} {dg : Option Nat} : vgt P ops nx dr U K log o l i env σ want dg (some (.pv (.sc (.bool false)))) = if want = true then vS P ops nx dr U K log l (i + 1) ((env.put dg (.pv (.sc (.bool false)))).put o.dst (.tup [])) σ else vo P ops nx dr U K log o l i (env.put dg (.pv (.sc (.bool false)))) σ := by
  simp [vgt, GateVC]
@[go_sem] theorem vgt_t1 {o : Oper} {dg : Option Nat} : vgt P ops nx dr U K log o l i env σ true dg (some (.pv (.sc (.bool true)))) = vo P ops nx dr U K log o l i (env.put dg (.pv (.sc (.bool true)))) σ := by rw [vgt_tt, if_pos rfl]
@[go_sem] theorem vgt_t0 {o : Oper} {dg : Option Nat} : vgt P ops nx dr U K log o l i env σ false dg (some (.pv (.sc (.bool true)))) = vS P ops nx dr U K log l (i + 1) ((env.put dg (.pv (.sc (.bool true)))).put o.dst (.tup [])) σ := by rw [vgt_tt, if_neg (by decide)]
@[go_sem] theorem vgt_f1 {o : Oper} {dg : Option Nat} : vgt P ops nx dr U K log o l i env σ true dg (some (.pv (.sc (.bool false)))) = vS P ops nx dr U K log l (i + 1) ((env.put dg (.pv (.sc (.bool false)))).put o.dst (.tup [])) σ := by rw [vgt_ff, if_pos rfl]
@[go_sem] theorem vgt_f0 {o : Oper} {dg : Option Nat} : vgt P ops nx dr U K log o l i env σ false dg (some (.pv (.sc (.bool false)))) = vo P ops nx dr U K log o l i (env.put dg (.pv (.sc (.bool false)))) σ := by rw [vgt_ff, if_neg (by decide)]
@[go_sem] theorem vgt_no {o : Oper} {want : Bool} {dg : Option Nat} : vgt P ops nx dr U K log o l i env σ want dg (some (.tup [])) = vS P ops nx dr U K log l (i + 1) (env.put o.dst (.tup [])) σ := rfl
theorem gate_of {o : Oper} {want : Bool} {dg : Option Nat} {b : Bool} (ht : b = true → vgt P ops nx dr U K log o l i env σ want dg (some (.pv (.sc (.bool true))))) (hf : b = false → vgt P ops nx dr U K log o l i env σ want dg (some (.pv (.sc (.bool false))))) : vgt P ops nx dr U K log o l i env σ want dg (some (.pv (.sc (.bool b)))) := by
  cases b
  · exact hf rfl
  · exact ht rfl
theorem chkT {k : Key} (h1 : k.rd = []) (h2 : k.wr = []) (h3 : k.isC = false) : chkL nx U i k log := fun e _ _ => ⟨fun l _ => by simp [h1, h2], fun l hl => (by rw [h2] at hl; cases hl), fun _ l hl => (by rw [h1, h2] at hl; cases hl), .inl h3⟩
@[go_sem] theorem vD_val {v : AV} : vD P ops nx dr U K log d l i env σ (some (.val v)) = vS P ops nx dr U K (adl U i keyT log) l (i + 1) (env.put d v) σ := by
  simp only [vD, DO.val, eq_iff_iff]
  exact ⟨fun h => (h.2 v rfl).2, fun h => ⟨trivial, fun u hu => ⟨chkT rfl rfl rfl, by rw [hu]; exact h⟩⟩⟩
@[go_sem] theorem vD_chk {p : Prop} {v : AV} : vD P ops nx dr U K log d l i env σ (some (.chk p v)) = (p ∧ vS P ops nx dr U K (adl U i keyT log) l (i + 1) (env.put d v) σ) := by
  simp only [vD, DO.chk, eq_iff_iff]
  exact ⟨fun h => ⟨h.1, (h.2 v rfl).2⟩, fun h => ⟨h.1, fun u hu => ⟨chkT rfl rfl rfl, by rw [hu]; exact h.2⟩⟩⟩
@[go_sem] theorem vD_none : vD P ops nx dr U K log d l i env σ none = False := rfl
def DO.eff (p : Prop) (v : AV) (rd : List Nat) (upd : List (Nat × Option Obj)) : DO := ⟨p, fun u => u = v, rd, true, upd⟩
def keyE (nx i : Nat) (rd : List Nat) (upd : List (Nat × Option Obj)) : Key := ⟨rd, (upd.map (·.1)).filter (fun l => !own nx i l), true, false, true⟩
@[go_sem] theorem vD_eff {p : Prop} {v : AV} {rd : List Nat} {upd : List (Nat × Option Obj)} : vD P ops nx dr U K log d l i env σ (some (.eff p v rd upd)) = (p ∧ chkL nx U i (keyE nx i rd upd) log ∧ vS P ops nx dr U K (adl U i (keyE nx i rd upd) log) l (i + 1) (env.put d v) (σ.upds upd)) := by
  simp only [vD, DO.eff, eq_iff_iff]
  exact ⟨fun h => ⟨h.1, h.2 v rfl⟩, fun h => ⟨h.1, fun u hu => by rw [hu]; exact h.2⟩⟩
def allV : List CT → (List PV → Prop) → Prop
  | [], F => F []
  | ct :: r, F => TyVC ct fun p => allV r fun ps => F (p :: ps)
@[go_sem] theorem allV_nil {F : List PV → Prop} : allV [] F = F [] := rfl
@[go_sem] theorem allV_cons {ct : CT} {r : List CT} {F : List PV → Prop} : allV (ct :: r) F = TyVC ct fun p => allV r fun ps => F (p :: ps) := rfl
theorem allV_iff : ∀ {cts : List CT} {F : List PV → Prop}, allV cts F ↔ ∀ ps, ctsL cts ps → F ps
  | [], F => ⟨fun h ps hp => by rw [List.length_eq_zero_iff.1 hp.1]; exact h, fun h => h [] ⟨rfl, fun j ct p hc => by simp at hc⟩⟩
  | ct :: r, F => by
    rw [allV_cons]
    constructor
    · intro h ps hp
      cases ps with
      | nil => cases hp.1
      | cons p s => exact allV_iff.1 (h p (hp.2 0 ct p rfl rfl)) s ⟨by simpa using hp.1, fun j c q h1 h2 => hp.2 (j + 1) c q (by simpa using h1) (by simpa using h2)⟩
    · intro h p hp
      refine allV_iff.2 fun ps hs => h (p :: ps) ⟨by simp [hs.1], fun j c q h1 h2 => ?_⟩
      cases j with
      | zero => simp at h1 h2; subst h1 h2; exact hp
      | succ j => exact hs.2 j c q (by simpa using h1) (by simpa using h2)
def DO.row (els : List (List PV)) (i : Int) (k : Nat) : DO := ⟨0 ≤ i ∧ ∃ row, els[i.toNat]? = some row ∧ row.length = k, fun u => ∃ row, els[i.toNat]? = some row ∧ u = .fp row 0, [], true, []⟩
@[go_sem] theorem vD_row {els : List (List PV)} {j : Int} {k : Nat} : vD P ops nx dr U K log d l i env σ (some (.row els j k)) = RowVC els j k (fun row => vS P ops nx dr U K (adl U i keyT log) l (i + 1) (env.put d (.fp row 0)) σ) := by
  simp only [vD, DO.row, RowVC, eq_iff_iff]
  refine and_congr_right (fun _ => ⟨fun h row hr => (h _ ⟨row, hr, rfl⟩).2, fun h v ⟨row, hr, hv⟩ => ⟨chkT rfl rfl rfl, by rw [hv]; exact h row hr⟩⟩)
def DO.tys (cts : List CT) : DO := ⟨True, fun u => ∃ ps, ctsL cts ps ∧ u = .agg (ps.map .pv), [], false, []⟩
@[go_sem] theorem vD_tys {cts : List CT} : vD P ops nx dr U K log d l i env σ (some (.tys cts)) = allV cts (fun ps => vS P ops nx dr U K (adl U i ⟨[], [], false, false, true⟩ log) l (i + 1) (env.put d (.agg (ps.map .pv))) σ) := by
  rw [eq_iff_iff, allV_iff]
  simp only [vD, DO.tys]
  exact ⟨fun h p hp => (h.2 _ ⟨p, hp, rfl⟩).2, fun h => ⟨trivial, fun v ⟨p, hp, hv⟩ => ⟨chkT rfl rfl rfl, by rw [hv]; exact h p hp⟩⟩⟩
def DO.tyc (ct : CT) : DO := ⟨True, fun u => ∃ p, ct.ok p ∧ u = .pv p, [], false, []⟩
@[go_sem] theorem vD_ty {ct : CT} : vD P ops nx dr U K log d l i env σ (some (.tyc ct)) = TyVC ct (fun p => vS P ops nx dr U K (adl U i ⟨[], [], false, false, true⟩ log) l (i + 1) (env.put d (.pv p)) σ) := by
  simp only [vD, DO.tyc, TyVC, eq_iff_iff]
  exact ⟨fun h p hp => (h.2 _ ⟨p, hp, rfl⟩).2, fun h => ⟨trivial, fun v ⟨p, hp, hv⟩ => ⟨chkT rfl rfl rfl, by rw [hv]; exact h p hp⟩⟩⟩
def DO.ld (els : List (List PV)) (i : Nat) (g : Bool) (k off r : Nat) : DO := ⟨∃ row v, els[i]? = some row ∧ ldC g k (row.map .pv) off = some v, fun u => ∃ row, els[i]? = some row ∧ ldC g k (row.map .pv) off = some u, [r], true, []⟩
@[go_sem] theorem vD_ld {els : List (List PV)} {j k off r : Nat} {g : Bool} : vD P ops nx dr U K log d l i env σ (some (.ld els j g k off r)) = LdVC els j g k off (fun v => chkL nx U i ⟨[r], [], true, false, true⟩ log ∧ vS P ops nx dr U K (adl U i ⟨[r], [], true, false, true⟩ log) l (i + 1) (env.put d v) σ) := by
  simp only [vD, DO.ld, LdVC, eq_iff_iff]
  exact and_congr_right (fun _ => Iff.rfl)
@[go_sem] theorem vo_move {x : Operand} : vo P ops nx dr U K log ⟨d, .move x, ty, pos, aft, gd⟩ l i env σ = vD P ops nx dr U K log d l i env σ ((ev env x).map DO.val) := rfl
@[go_sem] theorem vo_assign {x : Operand} : vo P ops nx dr U K log ⟨d, .assign x, ty, pos, aft, gd⟩ l i env σ = vD P ops nx dr U K log d l i env σ ((ev env x).map DO.val) := rfl
def dPick (c a b : Option AV) : Option DO :=
  match c with
  | some (.pv (.sc (.bool t))) => (if t = true then a else b).map DO.val
  | _ => none
@[go_sem] theorem dPick_t {a b : Option AV} : dPick (some (.pv (.sc (.bool true)))) a b = a.map DO.val := rfl
@[go_sem] theorem dPick_f {a b : Option AV} : dPick (some (.pv (.sc (.bool false)))) a b = b.map DO.val := rfl
@[go_sem] theorem vo_pick {c a b : Operand} : vo P ops nx dr U K log ⟨d, .pick c a b, ty, pos, aft, gd⟩ l i env σ = vD P ops nx dr U K log d l i env σ (dPick (ev env c) (ev env a) (ev env b)) := rfl
@[go_sem] theorem vo_alloc {t : TypeId} : vo P ops nx dr U K log ⟨d, .alloc t, ty, pos, aft, gd⟩ l i env σ = vD P ops nx dr U K log d l i env σ ((zeroT P t).map fun cs => .eff True (.ptr (nx + 8 * i) 0) [] [(nx + 8 * i, some (.box cs))]) := rfl
@[go_sem] theorem vo_box {t : TypeId} {x : Operand} : vo P ops nx dr U K log ⟨d, .box t x, ty, pos, aft, gd⟩ l i env σ = vD P ops nx dr U K log d l i env σ ((ev env x).bind fun v => if (vcells v).all isCell = true then some (.eff True (.ptr (nx + 8 * i) 0) [] [(nx + 8 * i, some (.box (vcells v)))]) else none) := rfl
def dBuild (z : Option (List AV)) (pl : Option (List (Nat × Nat))) (ps : Option (List (Nat × AV))) : Option DO :=
  match z, pl, ps with
  | some zs, some pl, some ps => (fillA (fun i => pl[i]?) zs ps).map fun cs => .val (.agg cs)
  | _, _, _ => none
@[go_sem] theorem dBuild_some {zs : List AV} {pl : List (Nat × Nat)} {ps : List (Nat × AV)} : dBuild (some zs) (some pl) (some ps) = (fillA (fun i => pl[i]?) zs ps).map fun cs => .val (.agg cs) := rfl
@[go_sem] theorem vo_build {t : TypeId} {parts : Array (Nat × Operand)} : vo P ops nx dr U K log ⟨d, .build t parts, ty, pos, aft, gd⟩ l i env σ = vD P ops nx dr U K log d l i env σ (dBuild (zeroT P t) (placesT P t) (evs (ev env) parts.toList)) := rfl
def dBs (el : Option (TypeId × Nat × Nat)) (n : Nat) (e : Operand → Option AV) (parts : List (Nat × Operand)) : Option DO :=
  match el with
  | some (_, k, _) => if n = 0 then (if parts.length = 0 then some (.val .emp) else none) else if parts.length = n ∧ n * k ≤ 2 ^ 24 then (rowsOf e k 0 parts).map fun rows => .val (.pv (.sl rows)) else none
  | none => none
@[go_sem] theorem dBs_some {el k b n : Nat} {e : Operand → Option AV} {parts : List (Nat × Operand)} : dBs (some (el, k, b)) n e parts = if n = 0 then (if parts.length = 0 then some (.val .emp) else none) else if parts.length = n ∧ n * k ≤ 2 ^ 24 then (rowsOf e k 0 parts).map fun rows => .val (.pv (.sl rows)) else none := rfl
def rowC (m k : Nat) (o : Option (List PV)) (rest : Option (List (List PV))) : Option (List (List PV)) :=
  match o, rest with
  | some ps, some rs => if ps.length = k then some (ps :: rs) else none
  | _, _ => none
@[go_sem] theorem rowC_some {m k : Nat} {ps : List PV} {rs : List (List PV)} : rowC m k (some ps) (some rs) = if ps.length = k then some (ps :: rs) else none := rfl
@[go_sem] theorem rowsOf_nil {e : Operand → Option AV} {k m : Nat} : rowsOf e k m [] = some [] := rfl
@[go_sem] theorem rowsOf_cons {e : Operand → Option AV} {k m j : Nat} {x : Operand} {r : List (Nat × Operand)} : rowsOf e k m ((j, x) :: r) = if j = m then rowC m k ((e x).bind fun v => toPs (vcells v)) (rowsOf e k (m + 1) r) else none := rfl
@[go_sem] theorem evs_nil {e : Operand → Option AV} : evs e [] = some [] := rfl
def evC (j : Nat) (x : Option AV) (r : Option (List (Nat × AV))) : Option (List (Nat × AV)) :=
  match x, r with
  | some v, some l => some ((j, v) :: l)
  | _, _ => none
@[go_sem] theorem evC_some {j : Nat} {v : AV} {l : List (Nat × AV)} : evC j (some v) (some l) = some ((j, v) :: l) := rfl
@[go_sem] theorem evs_cons {e : Operand → Option AV} {j : Nat} {x : Operand} {r : List (Nat × Operand)} : evs e ((j, x) :: r) = evC j (e x) (evs e r) := rfl
@[go_sem] theorem vcells_agg {cs : List AV} : vcells (.agg cs) = cs := rfl
@[go_sem] theorem vcells_pv {p : PV} : vcells (.pv p) = [.pv p] := rfl
@[go_sem] theorem vcells_emp : vcells .emp = [.emp] := rfl
@[go_sem] theorem vcells_own {r n : Nat} : vcells (.own r n) = [.own r n] := rfl
@[go_sem] theorem vcells_ptr {r n : Nat} : vcells (.ptr r n) = [.ptr r n] := rfl
@[go_sem] theorem toP_pv {p : PV} : toP (.pv p) = some p := rfl
@[go_sem] theorem toP_emp : toP .emp = some (.sl []) := rfl
@[go_sem] theorem toPs_nil : toPs [] = some [] := rfl
def toPC (p : Option PV) (ps : Option (List PV)) : Option (List PV) :=
  match p, ps with
  | some p, some ps => some (p :: ps)
  | _, _ => none
@[go_sem] theorem toPC_some {p : PV} {ps : List PV} : toPC (some p) (some ps) = some (p :: ps) := rfl
@[go_sem] theorem toPs_cons {v : AV} {r : List AV} : toPs (v :: r) = toPC (toP v) (toPs r) := rfl
def fillC (f : Nat → Option (Nat × Nat)) (cells : List AV) (v : AV) (q : Option (Nat × Nat)) (r : List (Nat × AV)) : Option (List AV) :=
  match q with
  | none => none
  | some (off, size) => if (vcells v).length = size ∧ off + size ≤ cells.length ∧ (vcells v).all isCell = true then fillA f (repl cells off (vcells v)) r else none
@[go_sem] theorem fillC_some {f : Nat → Option (Nat × Nat)} {cells : List AV} {v : AV} {off size : Nat} {r : List (Nat × AV)} : fillC f cells v (some (off, size)) r = if (vcells v).length = size ∧ off + size ≤ cells.length ∧ (vcells v).all isCell = true then fillA f (repl cells off (vcells v)) r else none := rfl
@[go_sem] theorem fillA_nil {f : Nat → Option (Nat × Nat)} {cells : List AV} : fillA f cells [] = some cells := rfl
@[go_sem] theorem fillA_cons {f : Nat → Option (Nat × Nat)} {cells : List AV} {j : Nat} {v : AV} {r : List (Nat × AV)} : fillA f cells ((j, v) :: r) = fillC f cells v (f j) r := rfl
@[go_sem] theorem isCell_pv {p : PV} : isCell (.pv p) = true := rfl
@[go_sem] theorem isCell_emp : isCell .emp = true := rfl
@[go_sem] theorem isCell_own {r n : Nat} : isCell (.own r n) = true := rfl
@[go_sem] theorem isCell_ptr {r n : Nat} : isCell (.ptr r n) = true := rfl
@[go_sem] theorem vo_buildSlice {t : TypeId} {n : Nat} {parts : Array (Nat × Operand)} : vo P ops nx dr U K log ⟨d, .buildSlice t n parts, ty, pos, aft, gd⟩ l i env σ = vD P ops nx dr U K log d l i env σ (dBs (elemT P t) n (ev env) parts.toList) := rfl
@[go_sem] theorem vo_load {t : TypeId} {x : Operand} : vo P ops nx dr U K log ⟨d, .load t x, ty, pos, aft, gd⟩ l i env σ = vD P ops nx dr U K log d l i env σ ((ev env x).bind (dLoad P σ t)) := rfl
@[go_sem] theorem vo_store {t : TypeId} {x y : Operand} : vo P ops nx dr U K log ⟨none, .store t x y, ty, pos, aft, gd⟩ l i env σ = vD P ops nx dr U K log none l i env σ ((ev env x).bind fun a => (ev env y).bind fun v => dStore P σ t a v) := rfl
@[go_sem] theorem vo_nilCheck {x : Operand} : vo P ops nx dr U K log ⟨d, .nilCheck x, ty, pos, aft, gd⟩ l i env σ = vD P ops nx dr U K log d l i env σ ((ev env x).bind fun v => if isPtr v = true then some (.val v) else none) := rfl
def dBin (P : Program) (t : TypeId) (op : BinOp) (x y : Option AV) : Option DO :=
  match x, y with
  | some (.pv (.sc a)), some (.pv (.sc b)) => match binV op a b with
    | some (p, v) => some (.chk p (.pv (.sc v)))
    | none => (binB P t op a b).map fun v => .val (.pv (.sc v))
  | _, _ => none
@[go_sem] theorem vo_binOp {op : BinOp} {t t' : TypeId} {x y : Operand} : vo P ops nx dr U K log ⟨d, .binOp op t x y t', ty, pos, aft, gd⟩ l i env σ = vD P ops nx dr U K log d l i env σ (dBin P t op (ev env x) (ev env y)) := rfl
variable {t : TypeId} {k : IntKind} {a b : Int} {s s' : ByteArray} {p q : Bool}
abbrev iv (k : IntKind) (n : Int) : Option AV := some (.pv (.sc (.int k n)))
theorem dBin_int {op : BinOp} {p : Prop} {v : Value} (h : binV op (.int k a) (.int k b) = some (p, v)) : dBin P t op (iv k a) (iv k b) = some (.chk p (.pv (.sc v))) := by simp only [dBin, iv, h]
@[go_sem] theorem dBin_add : dBin P t .add (some (.pv (.sc (.int k a)))) (some (.pv (.sc (.int k b)))) = some (.val (.pv (.sc (.int k (k.wrap (a + b)))))) := dBin_int (p := True) (v := .int k (k.wrap (a + b))) (by simp [binV])
@[go_sem] theorem dBin_sub : dBin P t .sub (some (.pv (.sc (.int k a)))) (some (.pv (.sc (.int k b)))) = some (.val (.pv (.sc (.int k (k.wrap (a - b)))))) := dBin_int (p := True) (v := .int k (k.wrap (a - b))) (by simp [binV])
@[go_sem] theorem dBin_mul : dBin P t .mul (some (.pv (.sc (.int k a)))) (some (.pv (.sc (.int k b)))) = some (.val (.pv (.sc (.int k (k.wrap (a * b)))))) := dBin_int (p := True) (v := .int k (k.wrap (a * b))) (by simp [binV])
@[go_sem] theorem dBin_quo : dBin P t .quo (some (.pv (.sc (.int k a)))) (some (.pv (.sc (.int k b)))) = some (.chk (b ≠ 0) (.pv (.sc (.int k (k.wrap (a.tdiv b)))))) := dBin_int (by simp [binV])
@[go_sem] theorem dBin_rem : dBin P t .rem (some (.pv (.sc (.int k a)))) (some (.pv (.sc (.int k b)))) = some (.chk (b ≠ 0) (.pv (.sc (.int k (a.tmod b))))) := dBin_int (by simp [binV])
@[go_sem] theorem dBin_eql : dBin P t .eql (some (.pv (.sc (.int k a)))) (some (.pv (.sc (.int k b)))) = some (.val (.pv (.sc (.bool (a == b))))) := dBin_int (p := True) (v := .bool (a == b)) (by simp [binV])
@[go_sem] theorem dBin_neq : dBin P t .neq (some (.pv (.sc (.int k a)))) (some (.pv (.sc (.int k b)))) = some (.val (.pv (.sc (.bool (a != b))))) := dBin_int (p := True) (v := .bool (a != b)) (by simp [binV])
@[go_sem] theorem dBin_lss : dBin P t .lss (some (.pv (.sc (.int k a)))) (some (.pv (.sc (.int k b)))) = some (.val (.pv (.sc (.bool (decide (a < b)))))) := dBin_int (p := True) (v := .bool (decide (a < b))) (by simp [binV])
@[go_sem] theorem dBin_leq : dBin P t .leq (some (.pv (.sc (.int k a)))) (some (.pv (.sc (.int k b)))) = some (.val (.pv (.sc (.bool (decide (a ≤ b)))))) := dBin_int (p := True) (v := .bool (decide (a ≤ b))) (by simp [binV])
@[go_sem] theorem dBin_gtr : dBin P t .gtr (some (.pv (.sc (.int k a)))) (some (.pv (.sc (.int k b)))) = some (.val (.pv (.sc (.bool (decide (b < a)))))) := dBin_int (p := True) (v := .bool (decide (b < a))) (by simp [binV])
@[go_sem] theorem dBin_geq : dBin P t .geq (some (.pv (.sc (.int k a)))) (some (.pv (.sc (.int k b)))) = some (.val (.pv (.sc (.bool (decide (b ≤ a)))))) := dBin_int (p := True) (v := .bool (decide (b ≤ a))) (by simp [binV])
@[go_sem] theorem dBin_seq : dBin P t .eql (some (.pv (.sc (.string s)))) (some (.pv (.sc (.string s')))) = some (.val (.pv (.sc (.bool (s.toList == s'.toList))))) := rfl
@[go_sem] theorem dBin_sne : dBin P t .neq (some (.pv (.sc (.string s)))) (some (.pv (.sc (.string s')))) = some (.val (.pv (.sc (.bool (!(s.toList == s'.toList)))))) := rfl
@[go_sem] theorem dBin_beq : dBin P t .eql (some (.pv (.sc (.bool p)))) (some (.pv (.sc (.bool q)))) = if boolT P t = true then some (.val (.pv (.sc (.bool (p == q))))) else none := by simp only [dBin, binV, binB]; split <;> rfl
@[go_sem] theorem dBin_bne : dBin P t .neq (some (.pv (.sc (.bool p)))) (some (.pv (.sc (.bool q)))) = if boolT P t = true then some (.val (.pv (.sc (.bool (!(p == q)))))) else none := by simp only [dBin, binV, binB]; split <;> rfl
def dUn (op : UnOp) (x : Option AV) : Option DO :=
  match op, x with
  | .not, some (.pv (.sc (.bool b))) => some (.val (.pv (.sc (.bool (!b)))))
  | .neg, some (.pv (.sc (.int k n))) => some (.val (.pv (.sc (.int k (k.wrap (0 - n))))))
  | _, _ => none
@[go_sem] theorem dUn_not : dUn .not (some (.pv (.sc (.bool p)))) = some (.val (.pv (.sc (.bool (!p))))) := rfl
@[go_sem] theorem dUn_neg : dUn .neg (some (.pv (.sc (.int k a)))) = some (.val (.pv (.sc (.int k (k.wrap (0 - a)))))) := rfl
@[go_sem] theorem vo_unOp {op : UnOp} {x : Operand} : vo P ops nx dr U K log ⟨d, .unOp op t x, ty, pos, aft, gd⟩ l i env σ = vD P ops nx dr U K log d l i env σ (dUn op (ev env x)) := rfl
def dConv (s t : Option IntKind) (x : Option AV) : Option DO :=
  match s, t, x with
  | some _, some k', some (.pv (.sc (.int k n))) => some (.val (.pv (.sc (.int k' (k'.wrap n)))))
  | _, _, _ => none
@[go_sem] theorem dConv_some {k0 k' : IntKind} : dConv (some k0) (some k') (some (.pv (.sc (.int k a)))) = some (.val (.pv (.sc (.int k' (k'.wrap a))))) := rfl
@[go_sem] theorem vo_convert {s t : TypeId} {x : Operand} : vo P ops nx dr U K log ⟨d, .convert s t x, ty, pos, aft, gd⟩ l i env σ = vD P ops nx dr U K log d l i env σ (dConv (intT P s) (intT P t) (ev env x)) := rfl
def dMake (el : Option (TypeId × Nat × Nat)) (z : TypeId → Option (List AV)) (x y : Option AV) : Option DO :=
  match el, x, y with
  | some (el, k, _), some (.pv (.sc (.int ik n))), some (.pv (.sc (.int ik' n'))) => if n = n' then ((z el).bind ctsOf).map fun cts => .chk (0 ≤ n ∧ n ≤ 100000) (.pv (.tr cts n.toNat)) else none
  | _, _, _ => none
@[go_sem] theorem dMake_some {el kk bb : Nat} {z : TypeId → Option (List AV)} {k k' : IntKind} : dMake (some (el, kk, bb)) z (some (.pv (.sc (.int k a)))) (some (.pv (.sc (.int k' a)))) = ((z el).bind ctsOf).map fun cts => .chk (0 ≤ a ∧ a ≤ 100000) (.pv (.tr cts a.toNat)) := by simp [dMake]
@[go_sem] theorem vo_make {x y : Operand} : vo P ops nx dr U K log ⟨d, .makeSlice t x y, ty, pos, aft, gd⟩ l i env σ = vD P ops nx dr U K log d l i env σ (dMake (elemT P t) (zeroT P) (ev env x) (ev env y)) := rfl
@[go_sem] theorem vo_slice {x : Operand} {lo hi : Option Operand} : vo P ops nx dr U K log ⟨d, .slice t x lo hi none, ty, pos, aft, gd⟩ l i env σ = vD P ops nx dr U K log d l i env σ ((ev env x).bind fun a => dPart P (ev env) σ (nx + 8 * i) t a lo hi) := rfl
def dFld (f : Option Nat) (x : Option AV) : Option DO :=
  match f, x with
  | some off, some v => (addO off v).map DO.val
  | _, _ => none
@[go_sem] theorem dFld_some {off : Nat} {v : AV} : dFld (some off) (some v) = (addO off v).map DO.val := rfl
@[go_sem] theorem vo_fieldAddr {x : Operand} {j : Nat} : vo P ops nx dr U K log ⟨d, .fieldAddr t x j, ty, pos, aft, gd⟩ l i env σ = vD P ops nx dr U K log d l i env σ (dFld (fldT P t j) (ev env x)) := rfl
def dIx (P : Program) (σ : Sto) (t : TypeId) (x y : Option AV) : Option DO :=
  match x, y with
  | some a, some (.pv (.sc (.int _ i))) => dIdx P σ t a i
  | _, _ => none
@[go_sem] theorem dIx_some {v : AV} : dIx P σ t (some v) (some (.pv (.sc (.int k a)))) = dIdx P σ t v a := rfl
@[go_sem] theorem vo_indexAddr {x y : Operand} : vo P ops nx dr U K log ⟨d, .indexAddr t x y, ty, pos, aft, gd⟩ l i env σ = vD P ops nx dr U K log d l i env σ (dIx P σ t (ev env x) (ev env y)) := rfl
def dIs (st : Bool) (x y : Option AV) : Option DO :=
  match x, y with
  | some (.pv (.sc (.string s))), some (.pv (.sc (.int _ i))) => if st = true then some (.chk (0 ≤ i ∧ i < s.size) (.pv (.sc (.int .u8 ((s[i.toNat]?).getD 0).toNat)))) else none
  | _, _ => none
@[go_sem] theorem dIs_some : dIs true (some (.pv (.sc (.string s)))) (some (.pv (.sc (.int k a)))) = some (.chk (0 ≤ a ∧ a < s.size) (.pv (.sc (.int .u8 ((s[a.toNat]?).getD 0).toNat)))) := rfl
@[go_sem] theorem vo_index {x y : Operand} : vo P ops nx dr U K log ⟨d, .index t x y, ty, pos, aft, gd⟩ l i env σ = vD P ops nx dr U K log d l i env σ (dIs (strT P t) (ev env x) (ev env y)) := rfl
def dEx (x : Option AV) (j : Nat) : Option DO :=
  match x with
  | some (.tup vs) => (vs[j]?).map DO.val
  | _ => none
@[go_sem] theorem dEx_some {vs : List AV} {j : Nat} : dEx (some (.tup vs)) j = (vs[j]?).map DO.val := rfl
@[go_sem] theorem vo_extract {x : Operand} {j : Nat} : vo P ops nx dr U K log ⟨d, .extract x j, ty, pos, aft, gd⟩ l i env σ = vD P ops nx dr U K log d l i env σ (dEx (ev env x) j) := rfl
@[go_sem] theorem vo_len {x : Operand} : vo P ops nx dr U K log ⟨d, .call { callee := .builtin .len, args := #[x], argTypes := #[t] }, ty, pos, aft, gd⟩ l i env σ = vD P ops nx dr U K log d l i env σ ((ev env x).bind fun v => (lenOf P t v).map fun (n : Nat) => DO.val (.pv (.sc (.int .i64 (n : Int))))) := by
  show vD P ops nx dr U K log d l i env σ _ = _
  congr 1
  simp only [dop, dCall]
  cases ev env x <;> rfl
def dMax (x y : Option AV) : Option DO :=
  match x, y with
  | some (.pv (.sc (.int k a))), some (.pv (.sc (.int k' b))) => if k = k' then some (.val (.pv (.sc (.int k (if b > a then b else a))))) else none
  | _, _ => none
@[go_sem] theorem dMax_some : dMax (some (.pv (.sc (.int k a)))) (some (.pv (.sc (.int k b)))) = some (.val (.pv (.sc (.int k (if a < b then b else a))))) := by simp [dMax]
@[go_sem] theorem vo_max {x y : Operand} {ats : Array TypeId} : vo P ops nx dr U K log ⟨d, .call { callee := .builtin .max, args := #[x, y], argTypes := ats }, ty, pos, aft, gd⟩ l i env σ = vD P ops nx dr U K log d l i env σ (dMax (ev env x) (ev env y)) := rfl
def dApC (b : Bool) (P : Program) (σ : Sto) (lab : Nat) (t : TypeId) (x y : AV) : Option DO :=
  match b with
  | true => dApF P t x y
  | false => dApp P σ lab t x y
theorem dApC_eq {b : Bool} {x y : AV} {lab : Nat} : dApC b P σ lab t x y = if b = true then dApF P t x y else dApp P σ lab t x y := by cases b <;> rfl
@[go_sem] theorem dApC_f {x y : AV} {lab : Nat} : dApC false P σ lab t x y = dApp P σ lab t x y := rfl
def dApG (el : Option (TypeId × Nat × Nat)) (ys : List (List PV)) : Option DO :=
  match el with
  | some (_, k, _) => some (.chk (ys.length ≤ 1000000 ∧ ∀ row ∈ ys, row.length = k) (.pv (.sl ys)))
  | none => none
@[go_sem] theorem dApG_some {el kk bb : Nat} {ys : List (List PV)} : dApG (some (el, kk, bb)) ys = some (.chk (ys.length ≤ 1000000 ∧ ∀ row ∈ ys, row.length = kk) (.pv (.sl ys))) := rfl
@[go_sem] theorem dApC_t {ys : List (List PV)} {lab : Nat} : dApC true P σ lab t .emp (.pv (.sl ys)) = dApG (elemT P t) ys := by
  unfold dApC dApF dApG
  cases elemT P t with
  | none => rfl
  | some q => obtain ⟨x1, x2, x3⟩ := q; rfl
@[go_sem] theorem dApC_t2 {lab : Nat} : dApC true P σ lab t .emp .emp = dApG (elemT P t) [] := by
  unfold dApC dApF dApG
  cases elemT P t with
  | none => rfl
  | some q => obtain ⟨x1, x2, x3⟩ := q; rfl
@[go_sem] theorem vo_append {x y : Operand} : vo P ops nx dr U K log ⟨d, .call { callee := .builtin .append, args := #[x, y], argTypes := #[t, t] }, ty, pos, aft, gd⟩ l i env σ = vD P ops nx dr U K log d l i env σ ((ev env x).bind fun a => (ev env y).bind fun b => dApC (fzA x y) P σ (nx + 8 * i) t a b) := by
  show vD P ops nx dr U K log d l i env σ _ = _
  congr 1
  simp only [dop, dCall]
  cases ev env x <;> cases ev env y <;> simp [dApC_eq]
@[go_sem] theorem fzA_tmp {i j : Nat} : fzA (.tmp i) (.tmp j) = if i = 31 then (if j = 37 then true else false) else if i = 23 then (if j = 28 then true else false) else if i = 123 then (if j = 124 then true else false) else false := rfl
@[go_sem] theorem fzA_c1 {c : Value} {x : Operand} : fzA (.const c) x = false := rfl
@[go_sem] theorem fzA_c2 {c : Value} {x : Operand} : fzA x (.const c) = false := by cases x <;> rfl
@[go_sem] theorem vo_call {f : FuncId} {args : Array Operand} {ats : Array TypeId} : vo P ops nx dr U K log ⟨d, .call { callee := .value (.func f), args := args, argTypes := ats }, ty, pos, aft, gd⟩ l i env σ = CallVC P dr f nx i (args.toList.map (ev env)) σ (fun v G key => chkL nx U i key log ∧ vS P ops nx dr U K (adl U i key log) l (i + 1) (env.put d v) (σ.upds G)) := rfl
@[go_sem] theorem ev_tmp {t : Nat} : ev env (.tmp t) = env t := rfl
@[go_sem] theorem ev_int : ev env (.const (.int k a)) = some (.pv (.sc (.int k a))) := rfl
@[go_sem] theorem ev_bool : ev env (.const (.bool p)) = some (.pv (.sc (.bool p))) := rfl
@[go_sem] theorem ev_string : ev env (.const (.string s)) = some (.pv (.sc (.string s))) := rfl
@[go_sem] theorem ev_nil : ev env (.const (.slice none 0 0)) = some .emp := rfl
@[go_sem] theorem ev_agg {l : List Value} : ev env (.const (.agg l.toArray)) = if l.all (·.oneCell') = true then some (.agg (l.map ofC)) else none := by
  show (if l.toArray.all (·.oneCell') = true then _ else none) = _
  rw [List.all_toArray]
@[go_sem] theorem oc_int : Value.oneCell' (.int k a) = true := rfl
@[go_sem] theorem oc_bool : Value.oneCell' (.bool p) = true := rfl
@[go_sem] theorem oc_str : Value.oneCell' (.string s) = true := rfl
@[go_sem] theorem oc_nil : Value.oneCell' (.slice none 0 0) = true := rfl
@[go_sem] theorem ofC_nil : ofC (.slice none 0 0) = .emp := rfl
@[go_sem] theorem ofC_int : ofC (.int k a) = .pv (.sc (.int k a)) := rfl
@[go_sem] theorem ofC_bool : ofC (.bool p) = .pv (.sc (.bool p)) := rfl
@[go_sem] theorem ofC_string : ofC (.string s) = .pv (.sc (.string s)) := rfl
@[go_sem] theorem put_some {e t : Nat} {v : AV} : (env.put (some e) v) t = if t = e then some v else env t := rfl
@[go_sem] theorem put_none {v : AV} : env.put none v = env := rfl
@[go_sem] theorem envOf_cons {e : Nat} {v : AV} {r : List (Nat × AV)} : envOf ((e, v) :: r) = (envOf r).put (some e) v := rfl
@[go_sem] theorem envOf_nil {t : Nat} : envOf [] t = none := rfl
@[go_sem] theorem upds_cons {e : Nat} {o : Option Obj} {r : List (Nat × Option Obj)} : σ.upds ((e, o) :: r) = (σ.upd e o).upds r := rfl
@[go_sem] theorem upds_nil : σ.upds [] = σ := rfl
@[go_sem] theorem upd_app {e t : Nat} {o : Option Obj} : (σ.upd e o) t = if t = e then o else σ t := rfl
@[go_sem] theorem adl_nil {key : Key} : adl [] i key log = log := rfl
@[go_sem] theorem chkL_nil {key : Key} : chkL nx U i key [] = True := by simp [chkL]
@[go_sem] theorem addO_ptr {off e j : Nat} : addO off (.ptr e j) = some (.ptr e (j + off)) := rfl
@[go_sem] theorem addO_rp {off r n j e : Nat} : addO off (.rp r n j e) = some (.rp r n j (e + off)) := rfl
@[go_sem] theorem addO_fp {off j : Nat} {row : List PV} : addO off (.fp row j) = some (.fp row (j + off)) := rfl
@[go_sem] theorem addO_tp {off j : Nat} {cts : List CT} : addO off (.tp cts j) = some (.tp cts (j + off)) := rfl
@[go_sem] theorem isPtr_ptr {e j : Nat} : isPtr (.ptr e j) = true := rfl
@[go_sem] theorem isPtr_fp {row : List PV} {j : Nat} : isPtr (.fp row j) = true := rfl
@[go_sem] theorem isPtr_rp {r n j e : Nat} : isPtr (.rp r n j e) = true := rfl
@[go_sem] theorem isPtr_tp {cts : List CT} {j : Nat} : isPtr (.tp cts j) = true := rfl
@[go_sem] theorem lenOf_sl {els : List (List PV)} : lenOf P t (.pv (.sl els)) = if (elemT P t).isSome = true then some els.length else none := rfl
@[go_sem] theorem lenOf_own {r n : Nat} : lenOf P t (.own r n) = if (elemT P t).isSome = true then some n else none := rfl
@[go_sem] theorem lenOf_tr {cts : List CT} {n : Nat} : lenOf P t (.pv (.tr cts n)) = if (elemT P t).isSome = true then some n else none := rfl
@[go_sem] theorem lenOf_emp : lenOf P t .emp = if (elemT P t).isSome = true then some 0 else none := rfl
@[go_sem] theorem lenOf_str : lenOf P t (.pv (.sc (.string s))) = if strT P t = true then some s.size else none := rfl
def dIdxL (el : Option (TypeId × Nat × Nat)) (els : List (List PV)) (i : Int) : Option DO :=
  match el with
  | some (_, k, _) => some (.row els i k)
  | none => none
@[go_sem] theorem dIdxL_some {el kk bb : Nat} {els : List (List PV)} : dIdxL (some (el, kk, bb)) els a = some (.row els a kk) := rfl
@[go_sem] theorem dIdx_sl {els : List (List PV)} : dIdx P σ t (.pv (.sl els)) a = dIdxL (elemT P t) els a := by
  unfold dIdx dIdxL
  cases elemT P t <;> rfl
def dIdxO (el : Option (TypeId × Nat × Nat)) (o : Option Obj) (r n : Nat) (i : Int) : Option DO :=
  match el, o with
  | some (_, k, _), some (.row ty k' els) => if k' = k ∧ els.length = n then some (.eff (0 ≤ i ∧ i < n) (.rp r k i.toNat 0) [r] []) else none
  | _, _ => none
@[go_sem] theorem dIdxO_some {el kk bb r n ty k' : Nat} {els : List (List PV)} : dIdxO (some (el, kk, bb)) (some (.row ty k' els)) r n a = if k' = kk ∧ els.length = n then some (.eff (0 ≤ a ∧ a < n) (.rp r kk a.toNat 0) [r] []) else none := rfl
@[go_sem] theorem dIdx_own {r n : Nat} : dIdx P σ t (.own r n) a = dIdxO (elemT P t) (σ r) r n a := by
  unfold dIdx dIdxO
  cases elemT P t with
  | none => rfl
  | some q =>
    obtain ⟨x1, x2, x3⟩ := q
    dsimp only
    cases σ r with
    | none => rfl
    | some o => cases o <;> rfl
def dIdxT (el : Option (TypeId × Nat × Nat)) (cts : List CT) (n : Nat) (i : Int) : Option DO :=
  match el with
  | some (_, k, _) => if cts.length = k then some (.chk (0 ≤ i ∧ i < n) (.tp cts 0)) else none
  | none => none
@[go_sem] theorem dIdxT_some {el kk bb n : Nat} {cts : List CT} : dIdxT (some (el, kk, bb)) cts n a = if cts.length = kk then some (.chk (0 ≤ a ∧ a < n) (.tp cts 0)) else none := rfl
@[go_sem] theorem dIdx_tr {cts : List CT} {n : Nat} : dIdx P σ t (.pv (.tr cts n)) a = dIdxT (elemT P t) cts n a := by
  unfold dIdx dIdxT
  cases elemT P t <;> rfl
def dLdP (ly : Option (Bool × Nat)) (o : Option Obj) (e off : Nat) : Option DO :=
  match ly, o with
  | some (g, k), some (.box cs) => (ldC g k cs off).map fun v => .eff True v [e] []
  | _, _ => none
@[go_sem] theorem dLdP_some {g : Bool} {kk e off : Nat} {cs : List AV} : dLdP (some (g, kk)) (some (.box cs)) e off = (ldC g kk cs off).map fun v => .eff True v [e] [] := rfl
@[go_sem] theorem dLoad_ptr {e off : Nat} : dLoad P σ t (.ptr e off) = dLdP (lay P t) (σ e) e off := by
  unfold dLoad dLdP
  cases lay P t with
  | none => rfl
  | some q =>
    obtain ⟨x1, x2⟩ := q
    dsimp only
    cases σ e with
    | none => rfl
    | some o => cases o <;> rfl
def dLdF (ly : Option (Bool × Nat)) (row : List PV) (off : Nat) : Option DO :=
  match ly with
  | some (g, k) => (ldC g k (row.map .pv) off).map DO.val
  | none => none
@[go_sem] theorem dLdF_some {g : Bool} {kk off : Nat} {row : List PV} : dLdF (some (g, kk)) row off = (ldC g kk (row.map .pv) off).map DO.val := rfl
@[go_sem] theorem dLoad_fp {row : List PV} {off : Nat} : dLoad P σ t (.fp row off) = dLdF (lay P t) row off := by
  unfold dLoad dLdF
  cases lay P t <;> rfl
def dLdR (ly : Option (Bool × Nat)) (o : Option Obj) (r k' j off : Nat) : Option DO :=
  match ly, o with
  | some (g, k), some (.row ty k2 els) => if k2 = k' then some (.ld els j g k off r) else none
  | _, _ => none
@[go_sem] theorem dLdR_some {g : Bool} {kk r k' j off ty k2 : Nat} {els : List (List PV)} : dLdR (some (g, kk)) (some (.row ty k2 els)) r k' j off = if k2 = k' then some (.ld els j g kk off r) else none := rfl
@[go_sem] theorem dLoad_rp {r k' j off : Nat} : dLoad P σ t (.rp r k' j off) = dLdR (lay P t) (σ r) r k' j off := by
  unfold dLoad dLdR
  cases lay P t with
  | none => rfl
  | some q =>
    obtain ⟨x1, x2⟩ := q
    dsimp only
    cases σ r with
    | none => rfl
    | some o => cases o <;> rfl
def dLdT (ly : Option (Bool × Nat)) (cts : List CT) (j : Nat) : Option DO :=
  match ly with
  | some (g, k) => if g = false then (cts[j]?).map fun ct => .tyc ct else if j = 0 ∧ k = cts.length then some (.tys cts) else none
  | none => none
@[go_sem] theorem dLdT_row {kk : Nat} {cts : List CT} : dLdT (some (true, kk)) cts 0 = if kk = cts.length then some (.tys cts) else none := by simp [dLdT]
@[go_sem] theorem dLdT_some {kk j : Nat} {cts : List CT} : dLdT (some (false, kk)) cts j = (cts[j]?).map fun ct => .tyc ct := rfl
@[go_sem] theorem dLoad_tp {cts : List CT} {j : Nat} : dLoad P σ t (.tp cts j) = dLdT (lay P t) cts j := by
  unfold dLoad dLdT
  cases lay P t <;> rfl
@[go_sem] theorem ldC_one {kk off : Nat} {cs : List AV} : ldC false kk cs off = cs[off]? := rfl
@[go_sem] theorem ldC_row {kk off : Nat} {cs : List AV} : ldC true kk cs off = if off + kk ≤ cs.length then some (.agg ((cs.drop off).take kk)) else none := rfl
def dStP (ly : Option (Bool × Nat)) (o : Option Obj) (e off : Nat) (v : AV) : Option DO :=
  match ly, o with
  | some (g, k), some (.box cs) => if (vcells v).length = k ∧ (vcells v).all isCell = true ∧ off + k ≤ cs.length then some (.eff True .emp [] [(e, some (.box (repl cs off (vcells v))))]) else none
  | _, _ => none
@[go_sem] theorem dStP_some {g : Bool} {kk e off : Nat} {cs : List AV} {v : AV} : dStP (some (g, kk)) (some (.box cs)) e off v = if (vcells v).length = kk ∧ (vcells v).all isCell = true ∧ off + kk ≤ cs.length then some (.eff True .emp [] [(e, some (.box (repl cs off (vcells v))))]) else none := rfl
@[go_sem] theorem dStore_ptr {e off : Nat} {v : AV} : dStore P σ t (.ptr e off) v = dStP (lay P t) (σ e) e off v := by
  unfold dStore dStP
  cases lay P t with
  | none => rfl
  | some q =>
    obtain ⟨x1, x2⟩ := q
    dsimp only
    cases σ e with
    | none => rfl
    | some o => cases o <;> rfl
def dStR (ly : Option (Bool × Nat)) (o : Option Obj) (ps : Option (List PV)) (r k' j off : Nat) : Option DO :=
  match ly, o, ps with
  | some (g, k), some (.row ty k2 els), some ps => if k2 = k' ∧ ps.length = k ∧ off + k ≤ k' then some (.eff (j < els.length) .emp [] [(r, some (.row ty k' (els.modify j (fun row => repl row off ps))))]) else none
  | _, _, _ => none
@[go_sem] theorem dStR_some {g : Bool} {kk r k' j off ty k2 : Nat} {els : List (List PV)} {ps : List PV} : dStR (some (g, kk)) (some (.row ty k2 els)) (some ps) r k' j off = if k2 = k' ∧ ps.length = kk ∧ off + kk ≤ k' then some (.eff (j < els.length) .emp [] [(r, some (.row ty k' (els.modify j (fun row => repl row off ps))))]) else none := rfl
@[go_sem] theorem dStore_rp {r k' j off : Nat} {v : AV} : dStore P σ t (.rp r k' j off) v = dStR (lay P t) (σ r) (toPs (vcells v)) r k' j off := by
  unfold dStore dStR
  cases lay P t with
  | none => rfl
  | some q =>
    obtain ⟨x1, x2⟩ := q
    dsimp only
    cases σ r with
    | none => cases toPs (vcells v) <;> rfl
    | some o => cases o <;> cases toPs (vcells v) <;> rfl
def dStT (ly : Option (Bool × Nat)) (ct : Option CT) (p : Option PV) : Option DO :=
  match ly, ct, p with
  | some (false, 1), some ct, some p => some (.eff (ct.ok p) .emp [] [])
  | _, _, _ => none
@[go_sem] theorem dStT_some {ct : CT} {p : PV} : dStT (some (false, 1)) (some ct) (some p) = some (.eff (ct.ok p) .emp [] []) := rfl
@[go_sem] theorem dStore_tp {cts : List CT} {j : Nat} {v : AV} : dStore P σ t (.tp cts j) v = dStT (lay P t) cts[j]? (toP v) := by
  unfold dStore dStT
  cases lay P t with
  | none => rfl
  | some q =>
    obtain ⟨g, kk⟩ := q
    dsimp only
    cases g
    · by_cases hk : kk = 1
      · subst hk
        simp only [and_self, if_true]
        cases cts[j]? <;> cases toP v <;> rfl
      · rw [if_neg (fun h => hk h.2)]
        split <;> first | rfl | (rename_i h1 h2; simp_all)
    · rw [if_neg (fun h => by cases h.1)]
def dAp (el : Option (TypeId × Nat × Nat)) (o : Option Obj) (ys : Option PV) (lab r n : Nat) : Option DO :=
  match el, o, ys with
  | some (el, k, _), some (.row ty k' els), some (.sl ys) => if (k' = k ∧ ty = el) ∧ els.length = n then some (.eff (n + ys.length ≤ 1000000 ∧ ∀ row ∈ ys, row.length = k) (.own lab (n + ys.length)) [] [(r, none), (lab, some (.row ty k' (els ++ ys)))]) else none
  | _, _, _ => none
@[go_sem] theorem dAp_some {el kk bb lab r n ty k' : Nat} {els ys : List (List PV)} : dAp (some (el, kk, bb)) (some (.row ty k' els)) (some (.sl ys)) lab r n = if (k' = kk ∧ ty = el) ∧ els.length = n then some (.eff (n + ys.length ≤ 1000000 ∧ ∀ row ∈ ys, row.length = kk) (.own lab (n + ys.length)) [] [(r, none), (lab, some (.row ty k' (els ++ ys)))]) else none := rfl
@[go_sem] theorem dApp_own {lab r n : Nat} {v : AV} : dApp P σ lab t (.own r n) v = dAp (elemT P t) (σ r) (toP v) lab r n := by
  unfold dApp dAp
  cases elemT P t with
  | none => rfl
  | some q =>
    obtain ⟨x1, x2, x3⟩ := q
    dsimp only
    cases σ r with
    | none => cases toP v <;> rfl
    | some o => cases o <;> (cases toP v with
      | none => rfl
      | some p => cases p <;> rfl)
def dApE (el : Option (TypeId × Nat × Nat)) (ys : PV) (lab : Nat) : Option DO :=
  match el, ys with
  | some (el, k, _), .sl ys => some (.eff (ys.length ≤ 1000000 ∧ ∀ row ∈ ys, row.length = k) (.own lab ys.length) [] [(lab, some (.row el k ys))])
  | some (el, k, _), .tr cts n => if cts.length = k then some (.chk (n ≤ 1000000) (.pv (.tr cts n))) else none
  | _, _ => none
@[go_sem] theorem dApE_sl {el kk bb lab : Nat} {ys : List (List PV)} : dApE (some (el, kk, bb)) (.sl ys) lab = some (.eff (ys.length ≤ 1000000 ∧ ∀ row ∈ ys, row.length = kk) (.own lab ys.length) [] [(lab, some (.row el kk ys))]) := rfl
@[go_sem] theorem dApE_tr {el kk bb lab n : Nat} {cts : List CT} : dApE (some (el, kk, bb)) (.tr cts n) lab = if cts.length = kk then some (.chk (n ≤ 1000000) (.pv (.tr cts n))) else none := rfl
@[go_sem] theorem dApp_emp {lab : Nat} {p : PV} : dApp P σ lab t .emp (.pv p) = dApE (elemT P t) p lab := by
  unfold dApp dApE
  cases elemT P t with
  | none => rfl
  | some q =>
    obtain ⟨x1, x2, x3⟩ := q
    cases p <;> rfl
@[go_sem] theorem dApp_emp2 {lab : Nat} : dApp P σ lab t .emp .emp = dApE (elemT P t) (.sl []) lab := by
  unfold dApp dApE
  cases elemT P t <;> rfl
def dPaL (el : Option (TypeId × Nat × Nat)) (els : List (List PV)) (lo hi : Option Int) : Option DO :=
  match el, lo, hi with
  | some (_, k, _), some l, some h => some (.chk (0 ≤ l ∧ l ≤ h ∧ h ≤ els.length ∧ ∀ row ∈ els, row.length = k) (.pv (.sl ((els.take h.toNat).drop l.toNat))))
  | _, _, _ => none
@[go_sem] theorem dPaL_some {el kk bb : Nat} {els : List (List PV)} : dPaL (some (el, kk, bb)) els (some a) (some b) = some (.chk (0 ≤ a ∧ a ≤ b ∧ b ≤ els.length ∧ ∀ row ∈ els, row.length = kk) (.pv (.sl ((els.take b.toNat).drop a.toNat)))) := rfl
@[go_sem] theorem dPart_sl {e : Operand → Option AV} {lab : Nat} {els : List (List PV)} {lo hi : Option Operand} : dPart P e σ lab t (.pv (.sl els)) lo hi = dPaL (elemT P t) els (bnd e lo 0) (bnd e hi els.length) := by
  unfold dPart dPaL
  cases elemT P t with
  | none => rfl
  | some q =>
    obtain ⟨x1, x2, x3⟩ := q
    dsimp only
    cases bnd e lo 0 <;> cases bnd e hi els.length <;> rfl
def dPaO (el : Option (TypeId × Nat × Nat)) (o : Option Obj) (hi : Option Int) (lab r n : Nat) : Option DO :=
  match el, o, hi with
  | some _, some (.row ty k' els), some h => if els.length = n then some (.eff (0 ≤ h ∧ h ≤ n) (.own lab h.toNat) [] [(r, none), (lab, some (.row ty k' (els.take h.toNat)))]) else none
  | _, _, _ => none
@[go_sem] theorem dPaO_some {q : TypeId × Nat × Nat} {ty k' lab r n : Nat} {els : List (List PV)} : dPaO (some q) (some (.row ty k' els)) (some a) lab r n = if els.length = n then some (.eff (0 ≤ a ∧ a ≤ n) (.own lab a.toNat) [] [(r, none), (lab, some (.row ty k' (els.take a.toNat)))]) else none := rfl
@[go_sem] theorem dPart_own {e : Operand → Option AV} {lab r n : Nat} {hi : Option Operand} : dPart P e σ lab t (.own r n) none hi = dPaO (elemT P t) (σ r) (bnd e hi n) lab r n := by
  unfold dPart dPaO
  cases elemT P t with
  | none => rfl
  | some q =>
    obtain ⟨x1, x2, x3⟩ := q
    dsimp only
    cases σ r with
    | none => cases bnd e hi n <;> rfl
    | some o => cases o <;> cases bnd e hi n <;> rfl
def bndV (x : Option AV) : Option Int :=
  match x with
  | some (.pv (.sc (.int _ i))) => some i
  | _ => none
@[go_sem] theorem bndV_some : bndV (some (.pv (.sc (.int k a)))) = some a := rfl
@[go_sem] theorem bnd_none {e : Operand → Option AV} : bnd e none a = some a := rfl
@[go_sem] theorem bnd_some {e : Operand → Option AV} {x : Operand} : bnd e (some x) a = bndV (e x) := rfl
@[go_sem] theorem dstAt_eq {o : Array Oper} {g : Nat} : dstAt o g = (o[g]?).bind (·.dst) := rfl
end
end AM
