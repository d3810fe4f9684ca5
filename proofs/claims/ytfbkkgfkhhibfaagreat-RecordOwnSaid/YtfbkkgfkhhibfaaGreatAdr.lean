/- The abstract machine: a step of a region. -/
import Derived.Test.YtfbkkgfkhhibfaaGreatAdk
namespace AM
open Go Go.RowKit
set_option linter.unusedVariables false
set_option linter.unusedSimpArgs false
abbrev Env := Nat → Option AV
def ev (env : Env) : Operand → Option AV
  | .tmp t => env t
  | .const v => ofV v
  | _ => none
def Env.put (env : Env) (dst : Option Nat) (v : AV) : Env :=
  match dst with
  | none => env
  | some d => fun t => if t = d then some v else env t
structure RelE (Ψ : Psi) (loc : Loc) (env : Env) (ts : Array Value) : Prop where
  rep : ∀ t v, env t = some v → ∃ x, ts[t]? = some x ∧ RepA Ψ loc v x
theorem ofV_rep {Ψ : Psi} {loc : Loc} {v : Value} {u : AV} (h : ofV v = some u) : RepA Ψ loc u v := by
  unfold ofV at h
  split at h
  · rename_i cs
    split at h
    · rename_i hc
      injection h with h
      subst h
      have hx : ∀ j, ∃ x, j < cs.size → cs[j]? = some x := fun j => by
        by_cases hj : j < cs.size
        · exact ⟨cs[j], fun _ => Array.getElem?_eq_getElem hj⟩
        · exact ⟨undef, fun h => absurd h hj⟩
      refine .agg (fun j => (hx j).choose) (by simp) (fun j hj => (hx j).choose_spec (by simpa using hj)) (fun j u hu => ?_)
      rw [List.getElem?_map, Array.getElem?_toList] at hu
      obtain ⟨y, hq, rfl⟩ := Option.map_eq_some_iff.1 hu
      have h1 := (hx j).choose_spec (Array.getElem?_eq_some_iff.1 hq).1
      exact Eq.subst (motive := fun z => RepA Ψ loc (ofC y) z) (Option.some.inj (hq.symm.trans h1)) (ofC_rep ((Array.all_eq_true_iff_forall_mem.1 hc) y (Array.mem_of_getElem? hq)))
    · cases h
  · cases h
  · rename_i h1 h2
    injection h with h
    subst h
    exact ofC_rep (by cases v <;> first | rfl | exact absurd rfl (h1 _) | exact absurd rfl (h2 _))
theorem RelE.ev {Ψ : Psi} {loc : Loc} {env : Env} {a : Act} (h : RelE Ψ loc env a.tmps) : ∀ x v, ev env x = some v → RepA Ψ loc v (a.eval x) := fun x v hx => by
  cases x with
  | tmp t =>
    obtain ⟨y, q1, q2⟩ := h.rep t v hx
    simp [Act.eval, q1]
    exact q2
  | const c => exact ofV_rep hx
  | _ => cases hx
theorem RelE.mono {Ψ Ψ' : Psi} {loc loc' : Loc} {env : Env} {ts : Array Value} (h : RelE Ψ loc env ts) (h1 : Ψ.le Ψ') (h2 : Loc.le loc loc') : RelE Ψ' loc' env ts :=
  ⟨fun t v e => by obtain ⟨x, q1, q2⟩ := h.rep t v e; exact ⟨x, q1, q2.mono h1 h2⟩⟩
theorem RelE.put {Ψ : Psi} {loc : Loc} {env : Env} {a : Act} {dst : Option Nat} {v : AV} {x : Value} (h : RelE Ψ loc env a.tmps) (hv : RepA Ψ loc v x) (hd : ∀ d, dst = some d → d < a.tmps.size) : RelE Ψ loc (env.put dst v) (a.put dst x).tmps := by
  refine ⟨fun t u hu => ?_⟩
  cases dst with
  | none => exact h.rep t u hu
  | some d =>
    simp only [Env.put] at hu
    simp only [Act.put]
    split at hu
    · rename_i ht
      subst ht
      injection hu with hu
      subst hu
      exact ⟨x, by rw [Array.getElem?_setIfInBounds, if_pos rfl, if_pos (hd t rfl)], hv⟩
    · rename_i ht
      obtain ⟨y, q1, q2⟩ := h.rep t u hu
      exact ⟨y, by rw [Array.getElem?_setIfInBounds_ne (fun e => ht e.symm)]; exact q1, q2⟩
def own (nx i l : Nat) : Bool := decide (nx + 8 * i ≤ l) && decide (l < nx + 8 * i + 8)
def rho (ls : List Nat) (lab : Nat) : Nat → Nat := fun l => if l < ls.length then ls.getD l 0 else lab + (l - ls.length)
structure Key where
  rd : List Nat
  wr : List Nat
  det : Bool
  isC : Bool
  mks : Bool
structure EX where
  ok : Prop
  out : AV → List (Nat × Option Obj) → Prop
  key : Key
def gate (ops : Array Oper) (o : Oper) (env : Env) : Option Bool :=
  match o.guard with
  | none => some true
  | some (g, want) => match (ops[g]?).bind (·.dst) with
    | none => none
    | some d => match env d with
      | some (.pv (.sc (.bool b))) => some (b == want)
      | some (.tup []) => some false
      | _ => none
def renG (ρ : Nat → Nat) (g : List (Option Obj)) : List (Nat × Option Obj) := g.zipIdx.map fun p => (ρ p.2, p.1.map (Obj.ren ρ))
def isGo (P : Program) (f : FuncId) : Bool :=
  match P.funcs[f]? with
  | some fn => fn.name != "runtime.NumGoroutine" && fn.body.isSome
  | none => false
inductive Sp (P : Program) (ops : Array Oper) (nx i : Nat) (o : Oper) (env : Env) (σ : Sto) : EX → Prop
  | skip (hg : gate ops o env = some false) : Sp P ops nx i o env σ ⟨True, fun v G => v = .tup [] ∧ G = [], ⟨[], [], true, false, false⟩⟩
  | op {d : DO} (hg : gate ops o env = some true) (h : dop P o (ev env) σ (nx + 8 * i) = some d) : Sp P ops nx i o env σ ⟨d.ok, fun v G => d.out v ∧ G = d.upd, ⟨d.rd, d.wr.filter (fun l => !own nx i l), d.det, false, true⟩⟩
  | call {f : FuncId} {args : Array Operand} {ats : Array TypeId} {as : List AV} {pre : List Obj} {post : AV → List (Option Obj) → Prop} {ls : List Nat} (hg : gate ops o env = some true) (ho : o.op = .call { callee := .value (.func f), args := args, argTypes := ats }) (hgo : isGo P f = true) (hc : ACall P f as pre post)
      (ha : args.toList.map (ev env) = (AV.renL (rho ls (nx + 8 * i)) as).map some) (hb : AV.lbL pre.length as = true) (hbo : pre.all (Obj.lb pre.length) = true) (hls : ls.length = pre.length) (hnd : ls.Nodup) (hno : ls.all (fun l => !own nx i l) = true)
      (hpre : ∀ k o, pre[k]? = some o → σ (ls.getD k 0) = some (o.ren (rho ls (nx + 8 * i)))) :
      Sp P ops nx i o env σ ⟨True, fun v G => ∃ r g, post r g ∧ pre.length ≤ g.length ∧ g.length ≤ pre.length + 8 ∧ v = r.ren (rho ls (nx + 8 * i)) ∧ G = renG (rho ls (nx + 8 * i)) g, ⟨[], ls, false, true, true⟩⟩
def exec (P : Program) (ops : Array Oper) (nx i : Nat) (o : Oper) (K : Env → Sto → Key → Prop) (env : Env) (σ : Sto) : Prop :=
  ∃ x, Sp P ops nx i o env σ x ∧ x.ok ∧ (∃ v G, x.out v G) ∧ ∀ v G, x.out v G → K (env.put o.dst v) (σ.upds G) x.key
def execQ (P : Program) (ops : Array Oper) (nx i : Nat) (o : Oper) (K : Env → Sto → Key → Prop) (env : Env) (σ : Sto) : Prop :=
  ∃ x, Sp P ops nx i o env σ x ∧ x.ok ∧ ∀ v G, x.out v G → K (env.put o.dst v) (σ.upds G) x.key
theorem exec_Q {P : Program} {ops : Array Oper} {nx i : Nat} {o : Oper} {K : Env → Sto → Key → Prop} {env : Env} {σ : Sto} (h : exec P ops nx i o K env σ) : execQ P ops nx i o K env σ :=
  let ⟨x, h1, h2, _, h4⟩ := h; ⟨x, h1, h2, h4⟩
theorem exec_mono {P : Program} {ops : Array Oper} {nx i : Nat} {o : Oper} {K K' : Env → Sto → Key → Prop} {env : Env} {σ : Sto} (h : exec P ops nx i o K env σ) (hk : ∀ env σ k, K env σ k → K' env σ k) : exec P ops nx i o K' env σ :=
  let ⟨x, h1, h2, h3, h4⟩ := h; ⟨x, h1, h2, h3, fun v G hv => hk _ _ _ (h4 v G hv)⟩
structure Rel (fr : Fr) (Ψ : Psi) (loc : Loc) (nt : Nat) (env : Env) (σ : Sto) (a : Act) (w : World) : Prop where
  env : RelE Ψ loc env a.tmps
  ok : Ok fr Ψ loc σ w
  sz : a.tmps.size = nt
  df : a.defers = []
theorem upds_miss (l : Nat) : ∀ (G : List (Nat × Option Obj)) (σ : Sto), l ∉ G.map (·.1) → σ.upds G l = σ l
  | [], σ, _ => rfl
  | (r, o) :: G, σ, h => by
    simp only [List.map_cons, List.mem_cons, not_or] at h
    rw [Sto.upds, upds_miss l G _ h.2, upd_ne _ _ h.1]
theorem upds_hit (l : Nat) (o : Option Obj) : ∀ (G : List (Nat × Option Obj)) (σ : Sto), (G.map (·.1)).Nodup → (l, o) ∈ G → σ.upds G l = o
  | [], σ, _, h => by cases h
  | (r, q) :: G, σ, hn, h => by
    simp only [List.map_cons, List.nodup_cons] at hn
    rcases List.mem_cons.1 h with h | h
    · injection h with h1 h2
      subst h1 h2
      rw [Sto.upds, upds_miss _ G _ hn.1, upd_eq]
    · exact upds_hit l o G _ hn.2 h
theorem dPart_wr {P : Program} {e : Operand → Option AV} {σ : Sto} {lab : Nat} {t : TypeId} {a : AV} {lo hi : Option Operand} {d : DO} (h : dPart P e σ lab t a lo hi = some d) : ∀ l ∈ d.wr, l = lab ∨ σ l ≠ none := by
  unfold dPart at h
  split at h
  · split at h
    · injection h with h; subst h; intro l hl; simp [DO.wr, DO.chk] at hl
    · cases h
  · split at h
    · rename_i ty k' els hh hs hr
      split at h
      · injection h with h
        subst h
        intro l hl
        simp [DO.wr] at hl
        rcases hl with rfl | rfl
        · exact .inr (by rw [hs]; simp)
        · exact .inl rfl
      · cases h
    · cases h
  · cases h
theorem dApp_wr {P : Program} {σ : Sto} {lab : Nat} {t : TypeId} {a b : AV} {d : DO} (h : dApp P σ lab t a b = some d) : ∀ l ∈ d.wr, l = lab ∨ σ l ≠ none := by
  unfold dApp at h
  split at h
  · split at h
    · rename_i ty k' els ys hs hp
      split at h
      · injection h with h
        subst h
        intro l hl
        simp [DO.wr] at hl
        rcases hl with rfl | rfl
        · exact .inr (by rw [hs]; simp)
        · exact .inl rfl
      · cases h
    · cases h
  · split at h
    · injection h with h; subst h; intro l hl; simp [DO.wr, DO.chk] at hl
    · cases h
  · split at h
    · injection h with h; subst h; intro l hl; simp [DO.wr] at hl; exact .inl hl
    · cases h
  · cases h
theorem dStore_wr {P : Program} {σ : Sto} {lab : Nat} {t : TypeId} {a v : AV} {d : DO} (h : dStore P σ t a v = some d) : ∀ l ∈ d.wr, l = lab ∨ σ l ≠ none := by
  unfold dStore at h
  split at h
  · split at h
    · rename_i cs hs
      split at h
      · injection h with h; subst h; intro l hl; simp [DO.wr] at hl; subst hl; exact .inr (by rw [hs]; simp)
      · cases h
    · cases h
  · split at h
    · rename_i ty k2 els ps hs hp
      split at h
      · injection h with h; subst h; intro l hl; simp [DO.wr] at hl; subst hl; exact .inr (by rw [hs]; simp)
      · cases h
    · cases h
  · split at h
    · split at h
      · injection h with h; subst h; intro l hl; simp [DO.wr] at hl
      · cases h
    · cases h
  · cases h
theorem wr_val {v : AV} : ∀ l ∈ (DO.val v).wr, False := fun l hl => by simp [DO.wr, DO.val] at hl
theorem wr_map {α : Type} {x : Option α} {f : α → DO} {d : DO} (h : x.map f = some d) (hf : ∀ a, (f a).upd = []) : ∀ l ∈ d.wr, False := fun l hl => by
  obtain ⟨a, _, rfl⟩ := map_some h
  simp [DO.wr, hf] at hl
theorem dop_wr {P : Program} {o : Oper} {e : Operand → Option AV} {σ : Sto} {lab : Nat} {d : DO} (h : dop P o e σ lab = some d) : ∀ l ∈ d.wr, l = lab ∨ σ l ≠ none := by
  unfold dop at h
  split at h
  · exact fun l hl => (wr_map h (fun _ => rfl) l hl).elim
  · exact fun l hl => (wr_map h (fun _ => rfl) l hl).elim
  · split at h
    · exact fun l hl => (wr_map h (fun _ => rfl) l hl).elim
    · cases h
  · obtain ⟨v, hv, rfl⟩ := map_some h
    intro l hl; simp [DO.wr] at hl; exact .inl hl
  · obtain ⟨v, hv, h⟩ := bind_some h
    split at h
    · injection h with h; subst h; intro l hl; simp [DO.wr] at hl; exact .inl hl
    · cases h
  · split at h
    · exact fun l hl => (wr_map h (fun _ => rfl) l hl).elim
    · cases h
  · split at h
    · split at h
      · split at h
        · injection h with h; subst h; exact fun l hl => (wr_val l hl).elim
        · cases h
      · split at h
        · exact fun l hl => (wr_map h (fun _ => rfl) l hl).elim
        · cases h
    · cases h
  · obtain ⟨v, hv, h⟩ := bind_some h
    unfold dLoad at h
    split at h
    · split at h
      · exact fun l hl => (wr_map h (fun _ => rfl) l hl).elim
      · cases h
    · exact fun l hl => (wr_map h (fun _ => rfl) l hl).elim
    · split at h
      · split at h
        · injection h with h; subst h; intro l hl; simp [DO.wr] at hl
        · cases h
      · cases h
    · split at h
      · exact fun l hl => (wr_map h (fun _ => rfl) l hl).elim
      · split at h
        · injection h with h; subst h; intro l hl; simp [DO.wr] at hl
        · cases h
    · cases h
  · split at h
    · obtain ⟨a, ha, h⟩ := bind_some h
      obtain ⟨v, hv, h⟩ := bind_some h
      exact dStore_wr h
    · cases h
  · obtain ⟨v, hv, h⟩ := bind_some h
    split at h
    · injection h with h; subst h; exact fun l hl => (wr_val l hl).elim
    · cases h
  · split at h
    · split at h
      · injection h with h; subst h; intro l hl; simp [DO.wr, DO.chk] at hl
      · exact fun l hl => (wr_map h (fun _ => rfl) l hl).elim
    · cases h
  · split at h
    · injection h with h; subst h; exact fun l hl => (wr_val l hl).elim
    · injection h with h; subst h; exact fun l hl => (wr_val l hl).elim
    · cases h
  · split at h
    · injection h with h; subst h; exact fun l hl => (wr_val l hl).elim
    · cases h
  · split at h
    · split at h
      · exact fun l hl => (wr_map h (fun _ => rfl) l hl).elim
      · cases h
    · cases h
  · obtain ⟨a, ha, h⟩ := bind_some h
    exact dPart_wr h
  · split at h
    · exact fun l hl => (wr_map h (fun _ => rfl) l hl).elim
    · cases h
  · split at h
    · unfold dIdx at h
      split at h
      · injection h with h; subst h; intro l hl; simp [DO.wr] at hl
      · split at h
        · split at h
          · injection h with h; subst h; intro l hl; simp [DO.wr] at hl
          · cases h
        · cases h
      · split at h
        · injection h with h; subst h; intro l hl; simp [DO.wr] at hl
        · cases h
      · cases h
    · cases h
  · split at h
    · split at h
      · injection h with h; subst h; intro l hl; simp [DO.wr, DO.chk] at hl
      · cases h
    · cases h
  · split at h
    · exact fun l hl => (wr_map h (fun _ => rfl) l hl).elim
    · cases h
  · split at h
    · unfold dCall at h
      split at h
      · split at h
        · exact fun l hl => (wr_map h (fun _ => rfl) l hl).elim
        · cases h
      · split at h
        · split at h
          · injection h with h; subst h; exact fun l hl => (wr_val l hl).elim
          · cases h
        · cases h
      · split at h
        · split at h
          · split at h
            · unfold dApF at h
              split at h
              · injection h with h; subst h; exact fun l hl => (by simp [DO.chk, DO.wr] at hl)
              · cases h
            · exact dApp_wr h
          · cases h
        · cases h
      · cases h
    · cases h
  · cases h
theorem sp_mk {P : Program} {ops : Array Oper} {nx i : Nat} {o : Oper} {env : Env} {σ : Sto} {x : EX} (h : Sp P ops nx i o env σ x) {v : AV} {G : List (Nat × Option Obj)} (ho : x.out v G) {l : Nat} (hl : l ∈ G.map (·.1)) : x.key.mks = true := by
  cases h with
  | skip hg => obtain ⟨_, rfl⟩ := ho; simp at hl
  | op => rfl
  | call => rfl
theorem sp_labels {P : Program} {ops : Array Oper} {nx i : Nat} {o : Oper} {env : Env} {σ : Sto} {x : EX} (h : Sp P ops nx i o env σ x) {v : AV} {G : List (Nat × Option Obj)} (ho : x.out v G) : ∀ l ∈ G.map (·.1), own nx i l = true ∨ (l ∈ x.key.wr ∧ (own nx i l = true ∨ σ l ≠ none)) := by
  cases h with
  | skip hg => obtain ⟨_, rfl⟩ := ho; intro l hl; simp at hl
  | op hg h =>
    obtain ⟨_, rfl⟩ := ho
    intro l hl
    cases hown : own nx i l with
    | true => exact .inl rfl
    | false =>
      refine .inr ⟨List.mem_filter.2 ⟨hl, by simp [hown]⟩, ?_⟩
      rcases dop_wr h l hl with rfl | h
      · simp [own] at hown
      · exact .inr h
  | call hg ho' hgo hc ha hb hbo hls hnd hno hpre =>
    rename_i f args ats as pre post ls
    obtain ⟨r, g, _, h1, h2, _, rfl⟩ := ho
    intro l hl
    simp only [renG, List.map_map] at hl
    obtain ⟨p, hp, rfl⟩ := List.mem_map.1 hl
    simp only [Function.comp]
    have hlt : p.2 < g.length := by
      have := List.snd_lt_of_mem_zipIdx hp
      simpa using this
    unfold rho
    split
    · rename_i hk
      have hk' : p.2 < pre.length := by omega
      refine .inr ⟨?_, .inr (by rw [hpre p.2 _ (List.getElem?_eq_getElem hk')]; simp)⟩
      show ls.getD p.2 0 ∈ ls
      rw [List.getD_eq_getElem?_getD, List.getElem?_eq_getElem hk]
      exact List.getElem_mem hk
    · left
      simp [own]
      omega
end AM
