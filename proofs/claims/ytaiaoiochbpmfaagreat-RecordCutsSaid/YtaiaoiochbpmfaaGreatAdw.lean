/- The abstract machine: steps that may be swapped. -/
import Derived.Test.YtaiaoiochbpmfaaGreatAdh
namespace AM
open Go Go.RowKit
set_option linter.unusedVariables false
set_option linter.unusedSimpArgs false
def inFr (fr l : Nat) : Bool := decide (fr ≤ l) && decide (l < fr + 8)
def compat (fr : Nat) (a b : Key) : Prop := (∀ l ∈ a.wr, l ∉ b.rd ∧ l ∉ b.wr) ∧ (∀ l ∈ b.wr, l ∉ a.rd) ∧ (a.mks = true → ∀ l ∈ b.rd ++ b.wr, inFr fr l = false) ∧ (b.isC = false ∨ a.det = true)
section
variable {P : Program} {ops : Array Oper} {nx i j : Nat} {o oi oj : Oper} {env env' : Env} {σ σ' : Sto}
theorem exec_imp {K K' : Env → Sto → Key → Prop} (h : exec P ops nx i o K env σ) (hk : ∀ x v G, Sp P ops nx i o env σ x → x.out v G → K (env.put o.dst v) (σ.upds G) x.key → K' (env.put o.dst v) (σ.upds G) x.key) : exec P ops nx i o K' env σ :=
  let ⟨x, h1, h2, h3, h4⟩ := h; ⟨x, h1, h2, h3, fun v G hv => hk x v G h1 hv (h4 v G hv)⟩
theorem ev_congr (h : ∀ t ∈ o.looksAt ops, env' t = env t) : ∀ x ∈ o.op.operands, ev env' x = ev env x := fun x hx => by
  cases x with
  | tmp t => exact h t (List.mem_append_left _ (List.mem_filterMap.2 ⟨.tmp t, by simpa using hx, rfl⟩))
  | _ => rfl
theorem gate_congr (h : ∀ t ∈ o.looksAt ops, env' t = env t) : gate ops o env' = gate ops o env := by
  unfold gate
  cases hg : o.guard with
  | none => rfl
  | some gw =>
    obtain ⟨g, want⟩ := gw
    dsimp only
    cases hd : (ops[g]?).bind (·.dst) with
    | none => rfl
    | some d =>
      dsimp only
      rw [h d (by simp [Oper.looksAt, hg, hd])]
theorem sp_local {x : EX} (hs : Sp P ops nx i o env σ x) (he : ∀ t ∈ o.looksAt ops, env' t = env t) (hσ : ∀ l, (l ∈ x.key.rd ∨ l ∈ x.key.wr ∨ own nx i l = true) → σ' l = σ l) : Sp P ops nx i o env' σ' x := by
  cases hs with
  | skip hg => exact .skip ((gate_congr he).trans hg)
  | op hg h =>
    refine .op ((gate_congr he).trans hg) (dop_congr (ev_congr he) h (fun l hl => ?_))
    rcases hl with hl | hl
    · exact hσ l (.inl hl)
    · cases ho : own nx i l with
      | true => exact hσ l (.inr (.inr ho))
      | false => exact hσ l (.inr (.inl (List.mem_filter.2 ⟨hl, by simp [ho]⟩)))
  | call hg ho hgo hc ha hb hbo hls hnd hno hpre =>
    rename_i f args ats as pre post ls
    refine .call ((gate_congr he).trans hg) ho hgo hc ?_ hb hbo hls hnd hno (fun k o' hk => ?_)
    · rw [← ha]
      refine List.map_congr_left (fun y hy => ev_congr he y ?_)
      rw [ho]
      simp [Op.operands, Call.operands]
      exact .inr (by simpa using hy)
    · rw [hσ _ (.inr (.inl ?_))]
      · exact hpre k o' hk
      · show ls.getD k 0 ∈ ls
        have hk2 := (List.getElem?_eq_some_iff.1 hk).1
        exact getD_mem (by omega)
theorem sp_unique {x x' : EX} (h : Sp P ops nx i o env σ x) (h' : Sp P ops nx i o env σ x') (hc : x.key.isC = false) : x' = x := by
  have nocall : ∀ {f : FuncId} {args : Array Operand} {ats : Array TypeId} {e : Operand → Option AV} {lab : Nat} {d : DO}, o.op = .call { callee := .value (.func f), args := args, argTypes := ats } → dop P o e σ lab = some d → False := fun ho hd => by
    unfold dop at hd
    rw [ho] at hd
    cases hd
  cases h with
  | skip hg =>
    cases h' with
    | skip => rfl
    | op hg' => rw [hg] at hg'; cases hg'
    | call hg' => rw [hg] at hg'; cases hg'
  | op hg hd =>
    cases h' with
    | skip hg' => rw [hg] at hg'; cases hg'
    | op hg' hd' => rw [hd] at hd'; injection hd' with hd'; subst hd'; rfl
    | call hg' ho => exact (nocall ho hd).elim
  | call => cases hc
theorem sp_det {x : EX} (h : Sp P ops nx i o env σ x) (hd : x.key.det = true) {v v' : AV} {G G' : List (Nat × Option Obj)} (h1 : x.out v G) (h2 : x.out v' G') : v = v' ∧ G = G' := by
  cases h with
  | skip hg => exact ⟨h1.1.trans h2.1.symm, h1.2.trans h2.2.symm⟩
  | op hg h => exact ⟨(dop_ok h).det hd _ _ h1.1 h2.1, h1.2.trans h2.2.symm⟩
  | call => cases hd
theorem dLoad_rd {t : TypeId} {v : AV} {d : DO} (h : dLoad P σ t v = some d) : ∀ l ∈ d.rd, σ l ≠ none := by
  unfold dLoad at h
  split at h
  · split at h
    · rename_i hs
      obtain ⟨u, _, rfl⟩ := map_some h
      intro l hl; simp at hl; subst hl; rw [hs]; simp
    · cases h
  · obtain ⟨u, _, rfl⟩ := map_some h; intro l hl; simp [DO.val] at hl
  · split at h
    · rename_i hs
      split at h
      · injection h with h; subst h; intro l hl; simp at hl; subst hl; rw [hs]; simp
      · cases h
    · cases h
  · split at h
    · obtain ⟨u, _, rfl⟩ := map_some h; intro l hl; simp at hl
    · split at h
      · injection h with h; subst h; intro l hl; simp at hl
      · cases h
  · cases h
theorem dIdx_rd {t : TypeId} {v : AV} {i : Int} {d : DO} (h : dIdx P σ t v i = some d) : ∀ l ∈ d.rd, σ l ≠ none := by
  unfold dIdx at h
  split at h
  · injection h with h; subst h; intro l hl; simp at hl
  · split at h
    · rename_i hs
      split at h
      · injection h with h; subst h; intro l hl; simp at hl; subst hl; rw [hs]; simp
      · cases h
    · cases h
  · split at h
    · injection h with h; subst h; intro l hl; simp at hl
    · cases h
  · cases h
theorem rd_map {α : Type} {x : Option α} {f : α → DO} {d : DO} (h : x.map f = some d) (hf : ∀ a, (f a).rd = []) : ∀ l ∈ d.rd, σ l ≠ none := fun l hl => by
  obtain ⟨a, _, rfl⟩ := map_some h
  simp [hf] at hl
theorem rd_nil {d : DO} (h : d.rd = []) : ∀ l ∈ d.rd, σ l ≠ none := fun l hl => by rw [h] at hl; cases hl
theorem dop_rd {e : Operand → Option AV} {lab : Nat} {d : DO} (h : dop P o e σ lab = some d) : ∀ l ∈ d.rd, σ l ≠ none := by
  unfold dop at h
  split at h
  · exact rd_map h (fun _ => rfl)
  · exact rd_map h (fun _ => rfl)
  · split at h
    · exact rd_map h (fun _ => rfl)
    · cases h
  · exact rd_map h (fun _ => rfl)
  · obtain ⟨v, hv, h⟩ := bind_some h
    split at h
    · injection h with h; subst h; exact rd_nil rfl
    · cases h
  · split at h
    · exact rd_map h (fun _ => rfl)
    · cases h
  · split at h
    · split at h
      · split at h
        · injection h with h; subst h; exact rd_nil rfl
        · cases h
      · split at h
        · exact rd_map h (fun _ => rfl)
        · cases h
    · cases h
  · obtain ⟨v, hv, h⟩ := bind_some h
    exact dLoad_rd h
  · split at h
    · obtain ⟨a, ha, h⟩ := bind_some h
      obtain ⟨v, hv, h⟩ := bind_some h
      unfold dStore at h
      split at h
      · split at h
        · split at h
          · injection h with h; subst h; exact rd_nil rfl
          · cases h
        · cases h
      · split at h
        · split at h
          · injection h with h; subst h; exact rd_nil rfl
          · cases h
        · cases h
      · split at h
        · split at h
          · injection h with h; subst h; exact rd_nil rfl
          · cases h
        · cases h
      · cases h
    · cases h
  · obtain ⟨v, hv, h⟩ := bind_some h
    split at h
    · injection h with h; subst h; exact rd_nil rfl
    · cases h
  · split at h
    · split at h
      · injection h with h; subst h; exact rd_nil rfl
      · exact rd_map h (fun _ => rfl)
    · cases h
  · split at h
    · injection h with h; subst h; exact rd_nil rfl
    · injection h with h; subst h; exact rd_nil rfl
    · cases h
  · split at h
    · injection h with h; subst h; exact rd_nil rfl
    · cases h
  · split at h
    · split at h
      · exact rd_map h (fun _ => rfl)
      · cases h
    · cases h
  · obtain ⟨a, ha, h⟩ := bind_some h
    unfold dPart at h
    split at h
    · split at h
      · injection h with h; subst h; exact rd_nil rfl
      · cases h
    · split at h
      · split at h
        · injection h with h; subst h; exact rd_nil rfl
        · cases h
      · cases h
    · cases h
  · split at h
    · exact rd_map h (fun _ => rfl)
    · cases h
  · split at h
    · exact dIdx_rd h
    · cases h
  · split at h
    · split at h
      · injection h with h; subst h; exact rd_nil rfl
      · cases h
    · cases h
  · split at h
    · exact rd_map h (fun _ => rfl)
    · cases h
  · split at h
    · unfold dCall at h
      split at h
      · split at h
        · exact rd_map h (fun _ => rfl)
        · cases h
      · split at h
        · split at h
          · injection h with h; subst h; exact rd_nil rfl
          · cases h
        · cases h
      · split at h
        · split at h
          · split at h
            · unfold dApF at h
              split at h
              · injection h with h; subst h; exact rd_nil rfl
              · cases h
            unfold dApp at h
            split at h
            · split at h
              · split at h
                · injection h with h; subst h; exact rd_nil rfl
                · cases h
              · cases h
            · split at h
              · injection h with h; subst h; exact rd_nil rfl
              · cases h
            · split at h
              · injection h with h; subst h; exact rd_nil rfl
              · cases h
            · cases h
          · cases h
        · cases h
      · cases h
    · cases h
  · cases h
theorem sp_keys {x : EX} (h : Sp P ops nx i o env σ x) : ∀ l, l ∈ x.key.rd ∨ l ∈ x.key.wr → σ l ≠ none := fun l hl => by
  cases h with
  | skip => simp at hl
  | op hg h =>
    rcases hl with hl | hl
    · exact dop_rd h l hl
    · obtain ⟨h1, h2⟩ := List.mem_filter.1 hl
      rcases dop_wr h l h1 with rfl | h3
      · simp [own] at h2
      · exact h3
  | call hg ho hgo hc ha hb hbo hls hnd hno hpre =>
    rename_i f args ats as pre post ls
    rcases hl with hl | hl
    · cases hl
    · obtain ⟨k, hk, rfl⟩ := List.mem_iff_getElem.1 (show l ∈ ls from hl)
      have hk' : k < pre.length := by omega
      have := hpre k _ (List.getElem?_eq_getElem hk')
      rw [List.getD_eq_getElem?_getD, List.getElem?_eq_getElem hk] at this
      simp only [Option.getD_some] at this
      rw [this]
      simp
theorem upds_in {l : Nat} : ∀ (G : List (Nat × Option Obj)) (σ σ' : Sto), l ∈ G.map (·.1) → σ.upds G l = σ'.upds G l
  | [], _, _, h => by cases h
  | (r, o) :: G, σ, σ', h => by
    simp only [Sto.upds]
    by_cases hg : l ∈ G.map (·.1)
    · exact upds_in G _ _ hg
    · simp only [List.map_cons, List.mem_cons] at h
      have hr : l = r := h.resolve_right hg
      rw [upds_miss _ _ _ hg, upds_miss _ _ _ hg, hr, upd_eq, upd_eq]
theorem upds_comm {G G' : List (Nat × Option Obj)} (h : ∀ l ∈ G.map (·.1), l ∉ G'.map (·.1)) (σ : Sto) : (σ.upds G).upds G' = (σ.upds G').upds G := by
  funext l
  by_cases h1 : l ∈ G.map (·.1)
  · rw [upds_miss _ _ _ (h l h1)]
    exact upds_in G _ _ h1
  · rw [upds_miss l G _ h1]
    by_cases h2 : l ∈ G'.map (·.1)
    · exact upds_in G' _ _ h2
    · rw [upds_miss _ _ _ h2, upds_miss _ _ _ h2, upds_miss _ _ _ h1]
theorem put_comm {d d' : Option Nat} (h : ∀ t, d = some t → d' ≠ some t) (v v' : AV) : (env.put d v).put d' v' = (env.put d' v').put d v := by
  cases d with
  | none => rfl
  | some t =>
    cases d' with
    | none => rfl
    | some t' =>
      have hne : t' ≠ t := fun e => h t rfl (by rw [e])
      funext q
      simp only [Env.put]
      by_cases h1 : q = t
      · subst h1
        rw [if_neg (Ne.symm hne)]
        simp
      · simp [h1]
theorem put_other {d : Option Nat} {t : Nat} {v : AV} (h : d ≠ some t) : (env.put d v) t = env t := by
  cases d with
  | none => rfl
  | some q =>
    simp only [Env.put]
    rw [if_neg (fun e => h (by rw [e]))]
theorem swap {K : Env → Sto → Key → Key → Prop} (hij : i ≠ j) (hap : oi.apart ops oj = true) (hfi : ∀ l, own nx i l = true → σ l = none) (hfj : ∀ l, own nx j l = true → σ l = none)
    (h : exec P ops nx i oi (fun e s ki => exec P ops nx j oj (fun e s kj => compat (nx + 8 * i) ki kj ∧ K e s ki kj) e s) env σ) :
    exec P ops nx j oj (fun e s kj => exec P ops nx i oi (fun e s ki => K e s ki kj) e s) env σ := by
  obtain ⟨a1, a2, a3⟩ := Oper.apart_spec hap
  have hdis : ∀ l, own nx i l = true → own nx j l = true → False := fun l h1 h2 => by
    have h1 := own_iff.1 h1
    have h2 := own_iff.1 h2
    omega
  have hfr : ∀ l, inFr (nx + 8 * i) l = own nx i l := fun l => rfl
  obtain ⟨xi, spi, oki, ⟨vi0, Gi0, ho0⟩, hi⟩ := h
  have labi : ∀ v G, xi.out v G → ∀ l ∈ G.map (·.1), own nx i l = true ∨ (l ∈ xi.key.wr ∧ (own nx i l = true ∨ σ l ≠ none)) := fun v G ho => sp_labels spi ho
  have back : ∀ (vi : AV) (Gi : List (Nat × Option Obj)) (xj : EX), xi.out vi Gi → Sp P ops nx j oj (env.put oi.dst vi) (σ.upds Gi) xj → compat (nx + 8 * i) xi.key xj.key → Sp P ops nx j oj env σ xj := fun vi Gi xj ho sp hcp => by
    refine sp_local sp (fun t ht => (put_other (fun e => a1 t e ht)).symm) (fun l hl => (upds_miss _ _ _ (fun hm => ?_)).symm)
    rcases labi vi Gi ho l hm with h1 | ⟨h1, h2⟩
    · rcases hl with hl | hl | hl
      · have := hcp.2.2.1 (sp_mk spi ho hm) l (List.mem_append_left _ hl); rw [hfr, h1] at this; cases this
      · have := hcp.2.2.1 (sp_mk spi ho hm) l (List.mem_append_right _ hl); rw [hfr, h1] at this; cases this
      · exact hdis l h1 hl
    · rcases hl with hl | hl | hl
      · exact (hcp.1 l h1).1 hl
      · exact (hcp.1 l h1).2 hl
      · rcases h2 with h2 | h2
        · exact hdis l h2 hl
        · exact h2 (hfj l hl)
  obtain ⟨xj, spj, okj, ⟨vj0, Gj0, hoj0⟩, hj⟩ := hi vi0 Gi0 ho0
  have hcp := (hj vj0 Gj0 hoj0).1
  have spj' := back vi0 Gi0 xj ho0 spj hcp
  refine ⟨xj, spj', okj, ⟨vj0, Gj0, hoj0⟩, fun vj Gj hoj => ?_⟩
  have labj := sp_labels spj' hoj
  have dis : ∀ vi Gi, xi.out vi Gi → ∀ l ∈ Gi.map (·.1), l ∉ Gj.map (·.1) := fun vi Gi ho l h1 h2 => by
    rcases labi vi Gi ho l h1 with p | ⟨p, q⟩ <;> rcases labj l h2 with p' | ⟨p', q'⟩
    · exact hdis l p p'
    · have := hcp.2.2.1 (sp_mk spi ho h1) l (List.mem_append_right _ p'); rw [hfr, p] at this; cases this
    · exact sp_keys spi l (.inr p) (hfj l p')
    · exact (hcp.1 l p).2 p'
  refine ⟨xi, sp_local spi (fun t ht => put_other (fun e => a3 t e ht)) (fun l hl => upds_miss _ _ _ (fun hm => ?_)), oki, ⟨vi0, Gi0, ho0⟩, fun vi Gi ho => ?_⟩
  · rcases labj l hm with p | ⟨p, q⟩
    · rcases hl with hl | hl | hl
      · exact sp_keys spi l (.inl hl) (hfj l p)
      · exact sp_keys spi l (.inr hl) (hfj l p)
      · exact hdis l hl p
    · rcases hl with hl | hl | hl
      · exact hcp.2.1 l p hl
      · exact (hcp.1 l hl).2 p
      · exact sp_keys spj' l (.inr p) (hfi l hl)
  · rw [← put_comm (fun t e => a2 t e) vi vj, ← upds_comm (dis vi Gi ho) σ]
    rcases hcp.2.2.2 with hD | hdet
    · obtain ⟨xj', spx, _, ⟨v1, G1, ho1⟩, hj'⟩ := hi vi Gi ho
      have hcp' := (hj' v1 G1 ho1).1
      have e := sp_unique spj' (back vi Gi xj' ho spx hcp') hD
      subst e
      exact (hj' vj Gj hoj).2
    · obtain ⟨rfl, rfl⟩ := sp_det spi hdet ho ho0
      exact (hj vj Gj hoj).2
end
end AM
