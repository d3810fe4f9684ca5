/- The abstract machine: how a function's condition is walked. -/
import Derived.Test.YtfbkkgfkhhibfaaGreatAdn
namespace AM
open Go Go.RowKit
set_option linter.unusedVariables false
set_option linter.unusedSimpArgs false
inductive It where
  | code (c : Code)
  | blk (id : Nat)
  | mark (G : Env → Sto → Prop)
structure Mc where
  P : Program
  us : Nat → List (Nat × Nat)
  nt : Nat
  n0 : Nat
  R : Env → Sto → Prop
  hm : P.follows .mixedOrders = true
def AtK (fr : Fr) (nt : Nat) (G : Env → Sto → Prop) (a : Act) (w : World) : Prop :=
  ∃ env σ nx Ψ loc, Rel fr Ψ loc nt env σ a w ∧ (∀ l, nx ≤ l → loc l = none ∧ σ l = none) ∧ G env σ
def Ct (M : Mc) (fr : Fr) : List It → Exit → Act → World → Prop
  | [], .normal, a, w => AtK fr M.nt M.R a w
  | [], .ret, a, w => AtK fr M.nt M.R a w
  | [], _, _, _ => False
  | .code c :: k, .normal, a, w => c.wp M.P (Ct M fr k) a w
  | .code _ :: k, e, a, w => Ct M fr k e a w
  | .blk id :: k, .exit i, a, w => if i = id then Ct M fr k .normal a w else Ct M fr k (.exit i) a w
  | .blk _ :: k, e, a, w => Ct M fr k e a w
  | .mark G :: _, .normal, a, w => AtK fr M.nt G a w
  | .mark _ :: k, e, a, w => Ct M fr k e a w
def chkK (M : Mc) : List It → Bool
  | [] => true
  | .code c :: k => chkC M.nt M.us c && chkK M k
  | _ :: k => chkK M k
def sr (M : Mc) (k : List It) (env : Env) (σ : Sto) (nx : Nat) : Prop :=
  chkK M k = true → ∀ (fr : Fr) (Ψ : Psi) (loc : Loc) (a : Act) (w : World), fr.n0 = M.n0 → Rel fr Ψ loc M.nt env σ a w → (∀ l, nx ≤ l → loc l = none ∧ σ l = none) → Ct M fr k .normal a w
def sx (M : Mc) (id : Nat) (k : List It) (env : Env) (σ : Sto) (nx : Nat) : Prop :=
  chkK M k = true → ∀ (fr : Fr) (Ψ : Psi) (loc : Loc) (a : Act) (w : World), fr.n0 = M.n0 → Rel fr Ψ loc M.nt env σ a w → (∀ l, nx ≤ l → loc l = none ∧ σ l = none) → Ct M fr k (.exit id) a w
section
variable {M : Mc} {k : List It} {env : Env} {σ : Sto} {nx : Nat}
theorem sr_nil (h : M.R env σ) : sr M [] env σ nx := fun _ fr Ψ loc a w hn hr hf => ⟨env, σ, nx, Ψ, loc, hr, hf, h⟩
theorem sr_mark {G : Env → Sto → Prop} (h : G env σ) : sr M (.mark G :: k) env σ nx := fun _ fr Ψ loc a w hn hr hf => ⟨env, σ, nx, Ψ, loc, hr, hf, h⟩
theorem sr_blk {id : Nat} (h : sr M k env σ nx) : sr M (.blk id :: k) env σ nx := fun hc fr Ψ loc a w hn hr hf => h hc fr Ψ loc a w hn hr hf
theorem chk_code {c : Code} (h : chkK M (.code c :: k) = true) : chkC M.nt M.us c = true ∧ chkK M k = true := by simpa [chkK] using h
theorem sr_skip (h : sr M k env σ nx) : sr M (.code .skip :: k) env σ nx := fun hc fr Ψ loc a w hn hr hf => wp_skip (h (chk_code hc).2 fr Ψ loc a w hn hr hf)
theorem sr_seq {a b : Code} (h : sr M (.code a :: .code b :: k) env σ nx) : sr M (.code (.seq a b) :: k) env σ nx := fun hc fr Ψ loc ac w hn hr hf => by
  obtain ⟨h1, h2⟩ := chk_code hc
  simp only [chkC, Bool.and_eq_true] at h1
  have := h (by simp [chkK, h1, h2]) fr Ψ loc ac w hn hr hf
  refine wp_seq (wp_mono this (fun e a w hq => ?_))
  cases e <;> exact hq
theorem sr_block {id : Nat} {b : Code} (h : sr M (.code b :: .blk id :: k) env σ nx) : sr M (.code (.block id b) :: k) env σ nx := fun hc fr Ψ loc ac w hn hr hf => by
  obtain ⟨h1, h2⟩ := chk_code hc
  have := h (by simp only [chkK, Bool.and_eq_true]; exact ⟨by simpa [chkC] using h1, h2⟩) fr Ψ loc ac w hn hr hf
  refine wp_block (wp_mono this (fun e a w hq => ?_))
  cases e <;> exact hq
theorem sr_exit {id : Nat} (h : sx M id k env σ nx) : sr M (.code (.exit id) :: k) env σ nx := fun hc fr Ψ loc ac w hn hr hf => wp_exit (h (chk_code hc).2 fr Ψ loc ac w hn hr hf)
theorem sx_code {id : Nat} {c : Code} (h : sx M id k env σ nx) : sx M id (.code c :: k) env σ nx := fun hc fr Ψ loc ac w hn hr hf => h (chk_code hc).2 fr Ψ loc ac w hn hr hf
theorem sx_mark {id : Nat} {G : Env → Sto → Prop} (h : sx M id k env σ nx) : sx M id (.mark G :: k) env σ nx := fun hc fr Ψ loc ac w hn hr hf => h hc fr Ψ loc ac w hn hr hf
theorem sx_hit {id : Nat} (h : sr M k env σ nx) : sx M id (.blk id :: k) env σ nx := fun hc fr Ψ loc ac w hn hr hf => by
  show (if id = id then _ else _)
  rw [if_pos rfl]
  exact h hc fr Ψ loc ac w hn hr hf
theorem sx_miss {id j : Nat} (hne : (id == j) = false) (h : sx M id k env σ nx) : sx M id (.blk j :: k) env σ nx := fun hc fr Ψ loc ac w hn hr hf => by
  show (if id = j then _ else _)
  rw [if_neg (by simpa using hne)]
  exact h hc fr Ψ loc ac w hn hr hf
theorem ct_ret {fr : Fr} {a : Act} {w : World} (h : AtK fr M.nt M.R a w) : ∀ k, Ct M fr k .ret a w
  | [] => h
  | .code _ :: k => ct_ret h k
  | .blk _ :: k => ct_ret h k
  | .mark _ :: k => ct_ret h k
theorem sr_ret (h : M.R env σ) : sr M (.code .ret :: k) env σ nx := fun hc fr Ψ loc ac w hn hr hf => wp_ret (ct_ret ⟨env, σ, nx, Ψ, loc, hr, hf, h⟩ k)
theorem sr_cond {c : Operand} {t e : Code} {b : Bool} (hb : ev env c = some (.pv (.sc (.bool b)))) (ht : b = true → sr M (.code t :: k) env σ nx) (he : b = false → sr M (.code e :: k) env σ nx) : sr M (.code (.cond c t e) :: k) env σ nx := fun hc fr Ψ loc ac w hn hr hf => by
  obtain ⟨h1, h2⟩ := chk_code hc
  simp only [chkC, Bool.and_eq_true] at h1
  obtain ⟨hx, _⟩ := rep_sc (hr.env.ev c _ hb)
  refine wp_cond_split hx (fun hb' => ?_) (fun hb' => ?_)
  · exact ht hb' (by simp [chkK, h1, h2]) fr Ψ loc ac w hn hr hf
  · exact he hb' (by simp [chkK, h1, h2]) fr Ψ loc ac w hn hr hf
theorem sr_view (E : List (Nat × AV)) (S : List (Option Obj)) (hv : View M.n0 env σ E S) (h : sr M k (envOf E) (ofL S) S.length) : sr M k env σ nx := fun hc fr Ψ loc ac w hn hr hf => by
  obtain ⟨Ψ', loc', r1, r2⟩ := rel_view hr hn hv
  exact h hc fr Ψ' loc' ac w hn r1 r2
theorem sr_loop {b : Code} {T : Type} (E : T → List (Nat × AV)) (S : T → List (Option Obj)) (f : T → Prop) (μ : T → Nat) (t0 : T) (h0 : f t0) (hv : View M.n0 env σ (E t0) (S t0))
    (h : ∀ t, f t → sr M (.code b :: .mark (fun env σ => ∃ u, f u ∧ μ u < μ t ∧ View M.n0 env σ (E u) (S u)) :: k) (envOf (E t)) (ofL (S t)) (S t).length) : sr M (.code (.loop b) :: k) env σ nx := fun hc fr Ψ loc ac w hn hr hf => by
  obtain ⟨c1, c2⟩ := chk_code hc
  obtain ⟨Ψ', loc', r1, r2⟩ := rel_view hr hn hv
  let I : Nat → Act → World → Prop := fun n a w => ∃ t Ψ loc, μ t = n ∧ f t ∧ Rel fr Ψ loc M.nt (envOf (E t)) (ofL (S t)) a w ∧ ∀ l, (S t).length ≤ l → loc l = none ∧ ofL (S t) l = none
  have key : ∀ n a w, I n a w → ∀ (b' : Frame) (q : List Item) (cs : List Frame), ∃ e a' w', Ct M fr k e a' w' ∧ Arrives M.P (lone (b'.at a (.code b :: .inLoop b :: q)) cs w) b' q cs e a' w' := by
    intro n
    induction n using Nat.strongRecOn with
    | _ n ih =>
      intro a w hI b' q cs
      obtain ⟨t, Ψ, loc, hμ, hf, hr, hfr⟩ := hI
      have hw : b.wp M.P (Ct M fr (.mark (fun env σ => ∃ u, f u ∧ μ u < μ t ∧ View M.n0 env σ (E u) (S u)) :: k)) a w := h t hf (by simp only [chkK, Bool.and_eq_true]; exact ⟨by simpa [chkC] using c1, c2⟩) fr Ψ loc a w hn hr hfr
      obtain ⟨e, a₁, w₁, hq, harr⟩ := hw b' (.inLoop b :: q) cs
      cases e with
      | normal =>
        obtain ⟨env, σ, nx, Ψ', loc', q1, q2, u, q3, q4, q5⟩ := hq
        obtain ⟨Ψ'', loc'', s1, s2⟩ := rel_view q1 hn q5
        obtain ⟨e₂, a₂, w₂, hq₂, harr₂⟩ := ih (μ u) (hμ ▸ q4) a₁ w₁ ⟨u, Ψ'', loc'', rfl, q3, s1, s2⟩ b' q cs
        exact ⟨e₂, a₂, w₂, hq₂, .of_steps (Steps.trans harr (.one step_inLoop)) harr₂⟩
      | exit id => exact ⟨.exit id, a₁, w₁, hq, .pass (x := .inLoop b) rfl (fun _ _ => .inl (by simp)) harr⟩
      | ret => exact ⟨.ret, a₁, w₁, hq, .pass (x := .inLoop b) rfl (fun _ _ => .inl (by simp)) harr⟩
      | goto l => exact ⟨.goto l, a₁, w₁, hq, .pass (x := .inLoop b) rfl (fun _ _ => .inl (by simp)) harr⟩
      | panic c => exact ⟨.panic c, a₁, w₁, hq, .pass (x := .inLoop b) rfl (fun _ _ => .inl (by simp)) harr⟩
      | outgrown => exact ⟨.outgrown, a₁, w₁, hq, .pass (x := .inLoop b) rfl (fun _ _ => .inl (by simp)) harr⟩
  intro b' q cs
  obtain ⟨e, a', w', hq, harr⟩ := key _ ac w ⟨t0, Ψ', loc', rfl, h0, r1, r2⟩ b' q cs
  exact ⟨e, a', w', hq, .of_steps (.one step_loop) harr⟩
end
def adl (U : List (Nat × Nat)) (i : Nat) (key : Key) (log : List (Nat × Key)) : List (Nat × Key) := if U.any (fun p => p.1 == i) = true then log ++ [(i, key)] else log
def chkL (nx : Nat) (U : List (Nat × Nat)) (i : Nat) (key : Key) (log : List (Nat × Key)) : Prop := ∀ e ∈ log, (e.1, i) ∈ U → compat (nx + 8 * e.1) e.2 key
def vS (P : Program) (ops : Array Oper) (nx : Nat) (dr : Bool) (U : List (Nat × Nat)) (K : Env → Sto → Nat → Prop) : List (Nat × Key) → List Oper → Nat → Env → Sto → Prop
  | _, [], i, env, σ => K env σ (nx + 8 * i)
  | log, o :: l, i, env, σ => vG ops o env (fun env => vX P dr nx i o env σ (fun v G key => chkL nx U i key log ∧ vS P ops nx dr U K (adl U i key log) l (i + 1) (env.put o.dst v) (σ.upds G))) (fun env => vS P ops nx dr U K log l (i + 1) (env.put o.dst (.tup [])) σ)
section
variable {P : Program} {ops : Array Oper} {nx : Nat} {U : List (Nat × Nat)} {K : Env → Sto → Nat → Prop}
theorem vX_mono {dr : Bool} {i : Nat} {o : Oper} {env : Env} {σ : Sto} {K K' : AV → List (Nat × Option Obj) → Key → Prop} (h : vX P dr nx i o env σ K) (hk : ∀ v G k, K v G k → K' v G k) : vX P dr nx i o env σ K' := by
  unfold vX at h ⊢
  split at h
  · obtain ⟨as, pre, post, ls, h1, h2, h3, h4, h5, h6, h7, h8, h9, h10, h11⟩ := h
    exact ⟨as, pre, post, ls, h1, h2, h3, h4, h5, h6, h7, h8, h9, h10, fun r g q1 q2 q3 => hk _ _ _ (h11 r g q1 q2 q3)⟩
  · unfold OpVC at h ⊢
    split at h
    · exact h.elim
    · exact ⟨h.1, fun v hv => hk _ _ _ (h.2 v hv)⟩
theorem vG_mono {o : Oper} {env : Env} {X Y X' Y' : Env → Prop} (h : vG ops o env X Y) (hx : ∀ e, X e → X' e) (hy : ∀ e, Y e → Y' e) : vG ops o env X' Y' := by
  unfold vG at h ⊢
  split at h
  · exact hx _ h
  · rename_i g want hg
    split at h
    · exact h.elim
    · rename_i d hd
      split at h
      · rename_i b hb
        refine ⟨fun e => ?_, fun e => ?_⟩
        · have := h.1 e
          split at this
          · rename_i hw; rw [if_pos hw]; exact hx _ this
          · rename_i hw; rw [if_neg hw]; exact hy _ this
        · have := h.2 e
          split at this
          · rename_i hw; rw [if_pos hw]; exact hy _ this
          · rename_i hw; rw [if_neg hw]; exact hx _ this
      · exact hy _ h
      · exact h.elim
theorem vS_plain : ∀ (l : List Oper) (log : List (Nat × Key)) (i : Nat) (env : Env) (σ : Sto), vS P ops nx false U K log l i env σ → vL P ops nx K l i env σ
  | [], _, _, _, _, h => h
  | o :: l, log, i, env, σ, h => by
    unfold vS at h
    unfold vL
    exact vG_mono h (fun e he => vX_mono he (fun v G k hk => vS_plain l _ _ _ _ hk.2)) (fun e he => vS_plain l _ _ _ _ he)
theorem vS_drawn : ∀ (l : List Oper) (log log' : List (Nat × Key)) (i : Nat) (env : Env) (σ : Sto), (∀ e ∈ log', (∃ j, (e.1, j) ∈ U) → e ∈ log) → vS P ops nx true U K log l i env σ → vLD P ops nx U K log' l i env σ
  | [], _, _, _, _, _, _, h => h
  | o :: l, log, log', i, env, σ, hl, h => by
    unfold vS at h
    unfold vLD
    refine vG_mono h (fun e he => vX_mono he (fun v G k hk => ⟨fun x hx hu => hk.1 x (hl x hx ⟨i, hu⟩) hu, vS_drawn l _ _ _ _ _ (fun x hx hu => ?_) hk.2⟩)) (fun e he => vS_drawn l _ _ _ _ _ hl he)
    unfold adl
    rcases List.mem_append.1 hx with hx | hx
    · have := hl x hx hu
      split
      · exact List.mem_append_left _ this
      · exact this
    · simp only [List.mem_singleton] at hx
      subst hx
      obtain ⟨j, hj⟩ := hu
      rw [if_pos (List.any_eq_true.2 ⟨(i, j), hj, by simp⟩)]
      simp
end
theorem sr_region {M : Mc} {k : List It} {env : Env} {σ : Sto} {nx id : Nat} {ops : Array Oper} {d : Bool} (h : vS M.P ops nx d (if d = true then M.us id else []) (sr M k) [] ops.toList 0 env σ) : sr M (.code (.region id ops d) :: k) env σ nx := fun hc fr Ψ loc a w hn hr hf => by
  obtain ⟨h1, h2⟩ := chk_code hc
  have hvc : vc M.P M.us M.n0 (.region id ops d) (fun x env σ nx => match x with | .normal => sr M k env σ nx | _ => False) env σ nx := by
    unfold vc
    cases d with
    | true => exact vS_drawn _ _ _ _ _ _ (fun e he => by cases he) h
    | false => exact vS_plain _ _ _ _ _ h
  refine wp_mono (region_vc M.hm h1 _ env σ nx fr Ψ loc a w hn hr hf hvc) (fun e a w hq => ?_)
  cases e with
  | normal =>
    obtain ⟨env, σ, nx, Ψ, loc, q1, q2, q3⟩ := hq
    exact q3 h2 fr Ψ loc a w hn q1 q2
  | exit id => obtain ⟨env, σ, nx, Ψ, loc, q1, q2, q3⟩ := hq; exact q3.elim
  | ret => obtain ⟨env, σ, nx, Ψ, loc, q1, q2, q3⟩ := hq; exact q3.elim
  | _ => exact hq.elim
theorem acall {P : Program} {us : Nat → List (Nat × Nat)} {f : FuncId} {fn : Func} {body : Code} {args : List AV} {pre : List Obj} {post : AV → List (Option Obj) → Prop} (hm : P.follows .mixedOrders = true) (hf : P.funcs[f]? = some fn) (hb : fn.body = some body) (hargs : args.length ≤ fn.ntmps) (hc : chkC fn.ntmps us body = true)
    (h : ∀ R : Env → Sto → Prop, (∀ env σ, RetVC P pre.length fn.results.toList post env σ → R env σ) → sr ⟨P, us, fn.ntmps, pre.length, R, hm⟩ [.code body] (envOf (entryE args)) (ofL (pre.map some)) pre.length) : ACall P f args pre post := by
  refine acall_gen hf hb hargs (fun fr Ψ loc a w hn hr hfr => ?_)
  have hs := h (fun env σ => RetVC P pre.length fn.results.toList post env σ) (fun _ _ h => h) (by simp [chkK, hc]) fr Ψ loc a w hn hr hfr
  refine wp_mono hs (fun e a w hq => ?_)
  cases e with
  | normal => exact hq
  | ret => exact hq
  | _ => exact hq.elim
attribute [irreducible] sr sx
end AM
