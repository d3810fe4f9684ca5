/- The abstract machine: calls that are handed objects; empty lists as rows. -/
import Derived.Test.YtaiaoiochbpmfaaGreatAtm
namespace AM
open Go Go.Proofs Go.RowKit
set_option linter.unusedVariables false
set_option linter.unusedSimpArgs false
theorem sr_ghost {M : Mc} {k : List It} {env : Env} {σ : Sto} {nx : Nat} (l j e kk : Nat) {cs : List AV} (h1 : σ l = some (.box cs)) (h2 : cs[j]? = some .emp) (h : sr M k env ((σ.upd l (some (.box (cs.set j (.own nx 0))))).upd nx (some (.row e kk []))) (nx + 1)) : sr M k env σ nx := by
  unfold sr at h ⊢
  intro hc fr Ψ loc a w hn hr hf
  obtain ⟨b, c, arr, ty, q1, q2, q3, q4⟩ := hr.ok.ob l _ h1
  obtain ⟨x, r1, r2, r3⟩ := q4 j _ h2
  have hnl : nx ≠ l := fun e => by rw [← e, (hf nx (Nat.le_refl _)).2] at h1; cases h1
  cases r3 with
  | @emp A =>
    have hle : Loc.le loc (loc.upd nx (A, 0)) := Loc.le_upd (hf nx (Nat.le_refl _)).1
    have hok : Ok fr Ψ (loc.upd nx (A, 0)) σ w := hr.ok.locs hle (fun r o ho => Loc.upd_ne (fun e => by rw [e, (hf nx (Nat.le_refl _)).2] at ho; cases ho))
    have hbl : blk (loc.upd nx (A, 0)) l = some b := by unfold blk; rw [Loc.upd_ne (Ne.symm hnl), q1]
    have hfree := hok.free h1 hbl
    have hok2 : Ok fr Ψ (loc.upd nx (A, 0)) ((σ.upd l none).upd l (some (.box (cs.set j (.own nx 0))))) w := by
      refine (hok.drop l).claim (by simp [Sto.upd]) ⟨b, c, arr, ty, by rw [Loc.upd_ne (Ne.symm hnl), q1], q2, by simp [q3], fun i v hv => ?_⟩ (fun b' hb' => by rw [hbl] at hb'; injection hb' with hb'; rw [← hb']; exact hfree)
      rw [List.getElem?_set] at hv
      split at hv
      · rename_i hij
        split at hv
        · injection hv with hv
          subst hij hv
          exact ⟨_, r1, r2, .own Loc.upd_eq (Nat.le_refl _)⟩
        · cases hv
      · obtain ⟨x, s1, s2, s3⟩ := q4 i v hv
        exact ⟨x, s1, s2, s3.mono (.refl _) hle⟩
    have he : ((σ.upd l none).upd l (some (.box (cs.set j (.own nx 0))))) = σ.upd l (some (.box (cs.set j (.own nx 0)))) := by
      funext r; unfold Sto.upd; split <;> rfl
    rw [he] at hok2
    have hok3 := hok2.claim (l := nx) (o := .row e kk []) (by unfold Sto.upd; rw [if_neg hnl]; exact (hf nx (Nat.le_refl _)).2) ⟨A, 0, Loc.upd_eq, .inl ⟨rfl, rfl⟩⟩ (fun b' hb' => by simp [blk, Loc.upd_eq] at hb')
    refine h hc fr Ψ _ a w hn ⟨⟨fun t v ht => ?_⟩, hok3, hr.sz, hr.df⟩ (fun r hr' => ⟨?_, ?_⟩)
    · obtain ⟨x, s1, s2⟩ := hr.env.rep t v ht
      exact ⟨x, s1, s2.mono (.refl _) hle⟩
    · rw [Loc.upd_ne (by omega)]; exact (hf r (by omega)).1
    · unfold Sto.upd
      rw [if_neg (by omega)]
      split
      · rename_i hrl; exfalso; rw [hrl] at hr'; have := (hf l (by omega)).2; rw [h1] at this; cases this
      · exact (hf r (by omega)).2
theorem sr_ghostE {M : Mc} {k : List It} {env : Env} {σ : Sto} {nx : Nat} (t e kk : Nat) (h2 : env t = some .emp) (h : sr M k (env.put (some t) (.own nx 0)) (σ.upd nx (some (.row e kk []))) (nx + 1)) : sr M k env σ nx := by
  unfold sr at h ⊢
  intro hc fr Ψ loc a w hn hr hf
  obtain ⟨x, r1, r3⟩ := hr.env.rep t _ h2
  have hn0 := hf nx (Nat.le_refl _)
  cases r3 with
  | @emp A =>
    have hle : Loc.le loc (loc.upd nx (A, 0)) := Loc.le_upd hn0.1
    have hok : Ok fr Ψ (loc.upd nx (A, 0)) σ w := hr.ok.locs hle (fun r o ho => Loc.upd_ne (fun e => by rw [e, hn0.2] at ho; cases ho))
    have hok3 := hok.claim (l := nx) (o := .row e kk []) hn0.2 ⟨A, 0, Loc.upd_eq, .inl ⟨rfl, rfl⟩⟩ (fun b' hb' => by simp [blk, Loc.upd_eq] at hb')
    refine h hc fr Ψ _ a w hn ⟨⟨fun t' v ht => ?_⟩, hok3, hr.sz, hr.df⟩ (fun r hr' => ⟨?_, ?_⟩)
    · simp only [Env.put] at ht
      split at ht
      · rename_i hte
        injection ht with ht
        subst hte ht
        exact ⟨_, r1, .own Loc.upd_eq (Nat.le_refl _)⟩
      · obtain ⟨x, s1, s2⟩ := hr.env.rep t' v ht
        exact ⟨x, s1, s2.mono (.refl _) hle⟩
    · rw [Loc.upd_ne (by omega)]; exact (hf r (by omega)).1
    · unfold Sto.upd
      rw [if_neg (by omega)]
      exact (hf r (by omega)).2
theorem sr_join {M : Mc} {k : List It} {env : Env} {σ : Sto} {nx : Nat} {c : Code} {T : Type} (E : T → List (Nat × AV)) (S : T → List (Option Obj)) (f : T → Prop) (h1 : sr M (.code c :: .mark (fun env σ => ∃ t, f t ∧ View M.n0 env σ (E t) (S t)) :: k) env σ nx) (h2 : ∀ t, f t → sr M k (envOf (E t)) (ofL (S t)) (S t).length) : sr M (.code c :: k) env σ nx := by
  unfold sr at h1 h2 ⊢
  intro hc fr Ψ loc a w hn hr hf
  obtain ⟨c1, c2⟩ := chk_code hc
  have := h1 (by simp only [chkK, Bool.and_eq_true]; exact ⟨c1, c2⟩) fr Ψ loc a w hn hr hf
  refine wp_mono this (fun e a w hq => ?_)
  cases e with
  | normal =>
    obtain ⟨env, σ, nx, Ψ, loc, q1, q2, t, q3, q4⟩ := hq
    obtain ⟨Ψ', loc', r1, r2⟩ := rel_view q1 hn q4
    exact h2 t q3 c2 fr Ψ' loc' a w hn r1 r2
  | _ => exact hq
def cO (σ : Sto) (ρ : Nat → Nat) : List Nat → List Obj → Prop
  | l :: ls, o :: os => σ l = some (o.ren ρ) ∧ cO σ ρ ls os
  | _, _ => True
theorem cO_get {σ : Sto} {ρ : Nat → Nat} : ∀ {ls : List Nat} {os : List Obj}, cO σ ρ ls os → ls.length = os.length → ∀ k o, os[k]? = some o → σ (ls.getD k 0) = some (o.ren ρ)
  | [], [], _, _, k, o, h => by simp at h
  | l :: ls, o :: os, h, hl, 0, o', h' => by simp at h'; subst h'; simpa using h.1
  | l :: ls, o :: os, h, hl, k + 1, o', h' => by simpa using cO_get h.2 (by simpa using hl) k o' (by simpa using h')
def cB (nx i : Nat) (ls : List Nat) (n : Nat) : Bool := ls.length == n && nodB ls && ls.all (fun l => !own nx i l)
theorem call_ob {P : Program} {dr : Bool} {f : FuncId} {nx i : Nat} {vals : List (Option AV)} {σ : Sto} {K : AV → List (Nat × Option Obj) → Key → Prop} {vs : List AV} {pre : List Obj} {post : AV → List (Option Obj) → Prop} (hc : ACall P f vs pre post) (ls : List Nat) (hg : isGo P f = true) (hb : cB nx i ls pre.length = true) (hv : vals = (AV.renL (rho ls (nx + 8 * i)) vs).map some) (ha : AV.lbL pre.length vs = true) (hp : pre.all (Obj.lb pre.length) = true) (ho : cO σ (rho ls (nx + 8 * i)) ls pre) (hi : dr = true → ∃ r g, post r g ∧ pre.length ≤ g.length ∧ g.length ≤ pre.length + 8)
    (h : ∀ r g, post r g → K (r.ren (rho ls (nx + 8 * i))) (renG (rho ls (nx + 8 * i)) g) ⟨[], ls, false, true, true⟩) : CallVC P dr f nx i vals σ K := by
  simp only [cB, Bool.and_eq_true, beq_iff_eq] at hb
  exact ⟨vs, pre, post, ls, hg, hc, hv, ha, hp, hb.1.1, nodB_ok hb.1.2, hb.2, fun k o hk => cO_get ho hb.1.1 k o hk, hi, fun r g q _ _ => h r g q⟩
@[go_sem] theorem olbs_cons {n : Nat} {o : Obj} {r : List Obj} : List.all (o :: r) (Obj.lb n) = (o.lb n && r.all (Obj.lb n)) := rfl
def fz1 (c : Option (List CT)) (o : Option Obj) : Option PV :=
  match c, o with
  | none, some (.row _ _ els) => some (.sl els)
  | some cts, some (.row _ _ els) => some (.tr cts els.length)
  | _, _ => none
@[go_sem] theorem fz1_sl {e k : Nat} {els : List (List PV)} : fz1 none (some (.row e k els)) = some (.sl els) := rfl
@[go_sem] theorem fz1_tr {e k : Nat} {cts : List CT} {els : List (List PV)} : fz1 (some cts) (some (.row e k els)) = some (.tr cts els.length) := rfl
@[go_sem] theorem fzF_nil {σ : Sto} {r : Nat} : fzF σ [] r = none := by simp [fzF]
@[go_sem] theorem fzF_cons {σ : Sto} {a r : Nat} {c : Option (List CT)} {fl : List (Nat × Option (List CT))} : fzF σ ((a, c) :: fl) r = if a = r then fz1 c (σ r) else fzF σ fl r := by
  unfold fzF
  by_cases h : a = r
  · subst h
    simp only [List.find?_cons, beq_self_eq_true, if_true]
    cases c <;> cases hσ : σ a with
    | none => rfl
    | some o => cases o <;> rfl
  · have hb : (a == r) = false := by simpa using h
    simp only [List.find?_cons, hb, if_neg h]
@[go_sem] theorem lenIs_sl {els : List (List PV)} {n : Nat} : lenIs (.sl els) n = (els.length = n) := rfl
@[go_sem] theorem lenIs_tr {cts : List CT} {m n : Nat} : lenIs (.tr cts m) n = (m = n) := rfl
def fzK (o : Option Obj) : Prop := match o with
  | some (.row ..) => True
  | _ => False
@[go_sem] theorem fzK_row {e k : Nat} {els : List (List PV)} : fzK (some (.row e k els)) = True := rfl
@[go_sem] theorem fzOk_none {σ : Sto} {r : Nat} : fzOk σ (r, none) = fzK (σ r) := by
  simp only [fzOk, fzK]
  cases σ r with
  | none => rfl
  | some o => cases o <;> rfl
@[go_sem] theorem mem_nats {a b : Nat} {l : List Nat} : (a ∈ b :: l) = (a = b ∨ a ∈ l) := by simp
attribute [go_sem] or_self or_false false_or
section
variable {σ : Sto} {ρ : Nat → Nat} {l : Nat} {ls : List Nat} {o : Obj} {os : List Obj} {lab k : Nat}
@[go_sem] theorem cO_cons : cO σ ρ (l :: ls) (o :: os) = (σ l = some (o.ren ρ) ∧ cO σ ρ ls os) := rfl
@[go_sem] theorem cO_nil : cO σ ρ [] os = True := by cases os <;> rfl
@[go_sem] theorem rho_app : rho ls lab k = if k < ls.length then ls.getD k 0 else lab + (k - ls.length) := rfl
@[go_sem] theorem getD_zero {r : List Nat} : (l :: r).getD 0 0 = l := rfl
@[go_sem] theorem getD_succ {r : List Nat} : (l :: r).getD (k + 1) 0 = r.getD k 0 := rfl
@[go_sem] theorem renG_eq {g : List (Option Obj)} : renG ρ g = g.zipIdx.map fun p => (ρ p.2, p.1.map (Obj.ren ρ)) := rfl
end
@[go_sem] theorem lbL_map {n : Nat} : ∀ {l : List PV}, AV.lbL n (l.map .pv) = true
  | [] => rfl
  | p :: l => by simp only [List.map_cons, AV.lbL, AV.lb, Bool.true_and]; exact lbL_map
@[go_sem] theorem renL_map {ρ : Nat → Nat} : ∀ {l : List PV}, AV.renL ρ (l.map .pv) = l.map .pv
  | [] => rfl
  | p :: l => by simp only [List.map_cons, AV.renL, AV.ren]; rw [renL_map]
@[go_sem] theorem cells_map : ∀ {l : List PV}, (l.map AV.pv).all isCell = true
  | [] => rfl
  | p :: l => by simp only [List.map_cons, List.all_cons]; rw [cells_map]; rfl
@[go_sem] theorem toPs_map : ∀ {l : List PV}, toPs (l.map AV.pv) = some l
  | [] => rfl
  | p :: l => by simp only [List.map_cons, toPs, toP]; rw [toPs_map]
@[reducible] def rw_ (r : List PV) : AV := .agg (r.map .pv)
attribute [go_sem] true_or or_true
theorem row_pick {α : Type} (l : List α) (f : α → List PV) {els : List (List PV)} {j k : Nat} {F : List PV → Prop} (hj : j < l.length) (hF : ∀ x ∈ l, F (f x)) (he : els = l.map f := by rfl) (hk : ∀ x, (f x).length = k := by first | exact fun _ => rfl | exact fun x => by simp only [go_sem]) : RowVC els (j : Int) k F := by
  rw [he]
  exact row_map (x := l[j]) (by omega) (by simp [hj]) (hk _) (hF _ (List.getElem_mem hj))
end AM
