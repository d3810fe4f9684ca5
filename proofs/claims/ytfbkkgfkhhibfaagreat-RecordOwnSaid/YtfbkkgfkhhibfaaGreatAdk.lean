/- The abstract machine: what an operation depends on. -/
import Derived.Test.YtfbkkgfkhhibfaaGreatAdd
namespace AM
open Go Go.RowKit
set_option linter.unusedVariables false
set_option linter.unusedSimpArgs false
def DO.wr (d : DO) : List Nat := d.upd.map (·.1)
section
variable {P : Program} {o : Oper} {e e' : Operand → Option AV} {σ σ' : Sto} {lab : Nat} {d : DO}
theorem dLoad_congr {t : TypeId} {v : AV} (h : dLoad P σ t v = some d) (hσ : ∀ l, l ∈ d.rd ∨ l ∈ d.wr → σ' l = σ l) : dLoad P σ' t v = some d := by
  unfold dLoad at h ⊢
  split at h
  · rename_i g k l off hl
    (try simp only [hl])
    split at h
    · rename_i cs hs
      obtain ⟨u, hu, rfl⟩ := map_some h
      rw [hσ l (.inl (by simp)), hs]
      simp [hu]
    · cases h
  · rename_i hl; (try simp only [hl]); exact h
  · rename_i g k r k' i off hl
    (try simp only [hl])
    split at h
    · rename_i ty k2 els hs
      split at h
      · rename_i hk
        injection h with h
        subst h
        rw [hσ r (.inl (by simp)), hs]
        simp [hk]
      · cases h
    · cases h
  · rename_i hl; (try simp only [hl]); exact h
  · cases h
theorem dStore_congr {t : TypeId} {a v : AV} (h : dStore P σ t a v = some d) (hσ : ∀ l, l ∈ d.rd ∨ l ∈ d.wr → σ' l = σ l) : dStore P σ' t a v = some d := by
  unfold dStore at h ⊢
  split at h
  · rename_i g k l off hl
    (try simp only [hl])
    split at h
    · rename_i cs hs
      split at h
      · rename_i hc
        injection h with h
        subst h
        rw [hσ l (.inr (by simp [DO.wr])), hs]
        dsimp only
        rw [if_pos hc]
      · cases h
    · cases h
  · rename_i g k r k' i off hl
    (try simp only [hl])
    split at h
    · rename_i ty k2 els ps hs hp
      split at h
      · rename_i hc
        injection h with h
        subst h
        rw [hσ r (.inr (by simp [DO.wr])), hs, hp]
        dsimp only
        rw [if_pos hc]
      · cases h
    · cases h
  · rename_i hl; (try simp only [hl]); exact h
  · cases h
theorem dIdx_congr {t : TypeId} {a : AV} {i : Int} (h : dIdx P σ t a i = some d) (hσ : ∀ l, l ∈ d.rd ∨ l ∈ d.wr → σ' l = σ l) : dIdx P σ' t a i = some d := by
  unfold dIdx at h ⊢
  split at h
  · rename_i hl; (try simp only [hl]); exact h
  · rename_i el k b r n hel
    (try simp only [hel])
    split at h
    · rename_i ty k' els hs
      split at h
      · rename_i hc
        injection h with h
        subst h
        rw [hσ r (.inl (by simp)), hs]
        dsimp only
        rw [if_pos hc]
      · cases h
    · cases h
  · rename_i hl; (try simp only [hl]); exact h
  · cases h
theorem bnd_congr {x : Option Operand} {n : Int} (he : ∀ y, x = some y → e' y = e y) : bnd e' x n = bnd e x n := by
  unfold bnd
  cases x with
  | none => rfl
  | some y => simp only [he y rfl]
theorem dPart_congr {t : TypeId} {a : AV} {lo hi : Option Operand} (he : ∀ y, lo = some y ∨ hi = some y → e' y = e y) (h : dPart P e σ lab t a lo hi = some d) (hσ : ∀ l, l ∈ d.rd ∨ l ∈ d.wr → σ' l = σ l) : dPart P e' σ' lab t a lo hi = some d := by
  have h1 : ∀ n, bnd e' lo n = bnd e lo n := fun n => bnd_congr (fun y hy => he y (.inl hy))
  have h2 : ∀ n, bnd e' hi n = bnd e hi n := fun n => bnd_congr (fun y hy => he y (.inr hy))
  unfold dPart at h ⊢
  simp only [h1, h2]
  split at h
  · rename_i hl; (try simp only [hl]); exact h
  · rename_i el k b r n hel
    (try simp only [hel])
    split at h
    · rename_i ty k' els hh hs hr
      split at h
      · rename_i hn
        injection h with h
        subst h
        rw [hσ r (.inr (by simp [DO.wr])), hs]
        simp only [hr]
        rw [if_pos hn]
      · cases h
    · cases h
  · cases h
theorem dApp_congr {t : TypeId} {a b : AV} (h : dApp P σ lab t a b = some d) (hσ : ∀ l, l ∈ d.rd ∨ l ∈ d.wr → σ' l = σ l) : dApp P σ' lab t a b = some d := by
  unfold dApp at h ⊢
  split at h
  · rename_i el k by' r n hel
    (try simp only [hel])
    split at h
    · rename_i ty k' els ys hs hp
      split at h
      · rename_i hc
        injection h with h
        subst h
        rw [hσ r (.inr (by simp [DO.wr])), hs]
        simp only [hp]
        rw [if_pos hc]
      · cases h
    · cases h
  · rename_i hl; (try simp only [hl]); exact h
  · rename_i el k by' hel hno
    (try simp only [hel])
    exact h
  · cases h
theorem evs_congr : ∀ (ps : List (Nat × Operand)), (∀ p ∈ ps, e' p.2 = e p.2) → evs e' ps = evs e ps
  | [], _ => rfl
  | (i, x) :: r, h => by
    unfold evs
    rw [h (i, x) (by simp), evs_congr r (fun p hp => h p (by simp [hp]))]
theorem rowsOf_congr {k : Nat} : ∀ (ps : List (Nat × Operand)) (m : Nat), (∀ p ∈ ps, e' p.2 = e p.2) → rowsOf e' k m ps = rowsOf e k m ps
  | [], _, _ => rfl
  | (i, x) :: r, m, h => by
    unfold rowsOf
    rw [h (i, x) (by simp), rowsOf_congr r (m + 1) (fun p hp => h p (by simp [hp]))]
theorem dCall_congr {b : Builtin} {args : List Operand} {ats : Array TypeId} (he : ∀ y ∈ args, e' y = e y) (h : dCall P e σ lab b args ats = some d) (hσ : ∀ l, l ∈ d.rd ∨ l ∈ d.wr → σ' l = σ l) : dCall P e' σ' lab b args ats = some d := by
  unfold dCall at h ⊢
  split at h
  · rename_i x
    simp only [he x (by simp)]
    exact h
  · rename_i x y
    simp only [he x (by simp), he y (by simp)]
    exact h
  · rename_i x y
    simp only [he x (by simp), he y (by simp)]
    split at h
    · rename_i t t' a b hat hx hy
      (try simp only [hat, hx, hy])
      split at h
      · rename_i ht
        rw [if_pos ht]
        split at h
        · rename_i hf; rw [if_pos hf]; exact h
        · rename_i hf; rw [if_neg hf]; exact dApp_congr h hσ
      · cases h
    · cases h
  · cases h
theorem dop_congr (he : ∀ x ∈ o.op.operands, e' x = e x) (h : dop P o e σ lab = some d) (hσ : ∀ l, l ∈ d.rd ∨ l ∈ d.wr → σ' l = σ l) : dop P o e' σ' lab = some d := by
  unfold dop at h ⊢
  split at h
  · rename_i x ho; rw [ho] at he; simp only [he x (by simp [Op.operands])]; exact h
  · rename_i x ho; rw [ho] at he; simp only [he x (by simp [Op.operands])]; exact h
  · rename_i c a b ho; rw [ho] at he; simp only [he c (by simp [Op.operands]), he a (by simp [Op.operands]), he b (by simp [Op.operands])]; exact h
  · exact h
  · rename_i t x ho; rw [ho] at he; simp only [he x (by simp [Op.operands])]; exact h
  · rename_i t parts ho
    rw [ho] at he
    rw [evs_congr parts.toList (fun p hp => he p.2 (by simp only [Op.operands]; exact List.mem_toArray.2 (List.mem_map.2 ⟨p, hp, rfl⟩)))]
    exact h
  · rename_i t n parts ho
    rw [ho] at he
    have : ∀ k, rowsOf e' k 0 parts.toList = rowsOf e k 0 parts.toList := fun k => rowsOf_congr parts.toList 0 (fun p hp => he p.2 (by simp only [Op.operands]; exact List.mem_toArray.2 (List.mem_map.2 ⟨p, hp, rfl⟩)))
    simp only [this]
    exact h
  · rename_i t x ho
    rw [ho] at he
    rw [he x (by simp [Op.operands])]
    obtain ⟨v, hv, h⟩ := bind_some h
    rw [hv]
    exact dLoad_congr h hσ
  · rename_i t x y ho
    rw [ho] at he
    rw [he x (by simp [Op.operands]), he y (by simp [Op.operands])]
    split at h
    · rename_i hd
      rw [if_pos hd]
      obtain ⟨a, ha, h⟩ := bind_some h
      obtain ⟨v, hv, h⟩ := bind_some h
      rw [ha, hv]
      exact dStore_congr h hσ
    · cases h
  · rename_i x ho; rw [ho] at he; simp only [he x (by simp [Op.operands])]; exact h
  · rename_i op t x y t' ho; rw [ho] at he; simp only [he x (by simp [Op.operands]), he y (by simp [Op.operands])]; exact h
  · rename_i op t x ho; rw [ho] at he; simp only [he x (by simp [Op.operands])]; exact h
  · rename_i s t x ho; rw [ho] at he; simp only [he x (by simp [Op.operands])]; exact h
  · rename_i t x y ho; rw [ho] at he; simp only [he x (by simp [Op.operands]), he y (by simp [Op.operands])]; exact h
  · rename_i t x lo hi ho
    rw [ho] at he
    rw [he x (by simp [Op.operands])]
    obtain ⟨a, ha, h⟩ := bind_some h
    rw [ha]
    exact dPart_congr (fun y hy => he y (by rcases hy with rfl | rfl <;> simp [Op.operands])) h hσ
  · rename_i t x k ho; rw [ho] at he; simp only [he x (by simp [Op.operands])]; exact h
  · rename_i t x y ho
    rw [ho] at he
    simp only [he x (by simp [Op.operands]), he y (by simp [Op.operands])]
    split at h
    · rename_i a ik i hx hy
      (try simp only [hx, hy])
      exact dIdx_congr h hσ
    · cases h
  · rename_i t x y ho; rw [ho] at he; simp only [he x (by simp [Op.operands]), he y (by simp [Op.operands])]; exact h
  · rename_i x i ho; rw [ho] at he; simp only [he x (by simp [Op.operands])]; exact h
  · rename_i c ho
    rw [ho] at he
    obtain ⟨callee, args, ats⟩ := c
    split at h
    · rename_i b hb
      dsimp only at hb h ⊢
      subst hb
      exact dCall_congr (fun y hy => he y (by simp [Op.operands, Call.operands]; simpa using hy)) h hσ
    · cases h
  · cases h
structure DOk (d : DO) : Prop where
  inh : d.ok → ∃ v, d.out v
  det : d.det = true → ∀ v v', d.out v → d.out v' → v = v'
theorem dok_val {v : AV} : DOk (.val v) := ⟨fun _ => ⟨v, rfl⟩, fun _ a b h h' => (show a = v from h).trans (show b = v from h').symm⟩
theorem dok_chk {p : Prop} {v : AV} : DOk (.chk p v) := ⟨fun _ => ⟨v, rfl⟩, fun _ a b h h' => (show a = v from h).trans (show b = v from h').symm⟩
theorem dok_eq {p : Prop} {v : AV} {rd : List Nat} {b : Bool} {u : List (Nat × Option Obj)} : DOk ⟨p, fun x => x = v, rd, b, u⟩ := ⟨fun _ => ⟨v, rfl⟩, fun _ a b h h' => (show a = v from h).trans (show b = v from h').symm⟩
theorem CT.inh (c : CT) : ∃ p, c.ok p := by
  cases c with
  | int k => exact ⟨.sc (.int k 0), 0, by cases k <;> rfl, rfl⟩
  | bool => exact ⟨boolP true, true, rfl⟩
  | asc b => exact ⟨.sl [], [], rfl, by simp, by simp⟩
theorem dok_map {α : Type} {x : Option α} {f : α → AV} (h : x.map (fun a => DO.val (f a)) = some d) : DOk d := by
  obtain ⟨a, _, rfl⟩ := map_some h; exact dok_val
theorem dok_mapv {x : Option AV} (h : x.map DO.val = some d) : DOk d := by
  obtain ⟨a, _, rfl⟩ := map_some h; exact dok_val
theorem ctsL_inh (cts : List CT) : ∃ ps, ctsL cts ps := by
  obtain ⟨ps, h1, h2⟩ := exPs (Q := fun j p => ∀ ct, cts[j]? = some ct → ct.ok p) cts.length (fun j hj => by
    obtain ⟨p, hp⟩ := cts[j].inh
    exact ⟨p, fun ct hc => by rw [List.getElem?_eq_getElem hj] at hc; injection hc with hc; subst hc; exact hp⟩)
  exact ⟨ps, h1, fun j ct p hc hp => h2 j p hp ct hc⟩
theorem dop_ok (h : dop P o e σ lab = some d) : DOk d := by
  unfold dop at h
  split at h
  · exact dok_mapv h
  · exact dok_mapv h
  · split at h
    · exact dok_mapv h
    · cases h
  · obtain ⟨v, hv, rfl⟩ := map_some h; exact dok_eq
  · obtain ⟨v, hv, h⟩ := bind_some h
    split at h
    · injection h with h; subst h; exact dok_eq
    · cases h
  · split at h
    · exact dok_map h
    · cases h
  · split at h
    · split at h
      · split at h
        · injection h with h; subst h; exact dok_val
        · cases h
      · split at h
        · exact dok_map h
        · cases h
    · cases h
  · obtain ⟨v, hv, h⟩ := bind_some h
    unfold dLoad at h
    split at h
    · split at h
      · obtain ⟨u, hu, rfl⟩ := map_some h; exact dok_eq
      · cases h
    · exact dok_mapv h
    · split at h
      · split at h
        · injection h with h
          subst h
          exact ⟨fun ⟨row, v, h1, h2⟩ => ⟨v, row, h1, h2⟩, fun _ a b ⟨r1, h1, h2⟩ ⟨r2, h3, h4⟩ => by
            rw [h1] at h3
            injection h3 with h3
            subst h3
            rw [h2] at h4
            injection h4⟩
        · cases h
      · cases h
    · split at h
      · obtain ⟨ct, hc, rfl⟩ := map_some h
        exact ⟨fun _ => by obtain ⟨p, hp⟩ := ct.inh; exact ⟨_, p, hp, rfl⟩, fun h => by cases h⟩
      · split at h
        · injection h with h
          subst h
          refine ⟨fun _ => ?_, fun h => by cases h⟩
          exact (ctsL_inh _).elim fun ps h => ⟨_, ps, h, rfl⟩
        · cases h
    · cases h
  · split at h
    · obtain ⟨a, ha, h⟩ := bind_some h
      obtain ⟨v, hv, h⟩ := bind_some h
      unfold dStore at h
      split at h
      · split at h
        · split at h
          · injection h with h; subst h; exact dok_eq
          · cases h
        · cases h
      · split at h
        · split at h
          · injection h with h; subst h; exact dok_eq
          · cases h
        · cases h
      · split at h
        · split at h
          · injection h with h; subst h; exact dok_eq
          · cases h
        · cases h
      · cases h
    · cases h
  · obtain ⟨v, hv, h⟩ := bind_some h
    split at h
    · injection h with h; subst h; exact dok_val
    · cases h
  · split at h
    · split at h
      · injection h with h; subst h; exact dok_chk
      · exact dok_map h
    · cases h
  · split at h
    · injection h with h; subst h; exact dok_val
    · injection h with h; subst h; exact dok_val
    · cases h
  · split at h
    · injection h with h; subst h; exact dok_val
    · cases h
  · split at h
    · split at h
      · obtain ⟨cts, hc, rfl⟩ := map_some h; exact dok_chk
      · cases h
    · cases h
  · obtain ⟨a, ha, h⟩ := bind_some h
    unfold dPart at h
    split at h
    · split at h
      · injection h with h; subst h; exact dok_chk
      · cases h
    · split at h
      · split at h
        · injection h with h; subst h; exact dok_eq
        · cases h
      · cases h
    · cases h
  · split at h
    · exact dok_mapv h
    · cases h
  · split at h
    · unfold dIdx at h
      split at h
      · injection h with h
        subst h
        exact ⟨fun ⟨_, row, h1, _⟩ => ⟨_, row, h1, rfl⟩, fun _ a b ⟨r1, h1, h2⟩ ⟨r2, h3, h4⟩ => by
          rw [h1] at h3
          injection h3 with h3
          subst h3
          rw [h2, h4]⟩
      · split at h
        · split at h
          · injection h with h; subst h; exact dok_eq
          · cases h
        · cases h
      · split at h
        · injection h with h; subst h; exact dok_eq
        · cases h
      · cases h
    · cases h
  · split at h
    · split at h
      · injection h with h; subst h; exact dok_chk
      · cases h
    · cases h
  · split at h
    · exact dok_mapv h
    · cases h
  · split at h
    · unfold dCall at h
      split at h
      · split at h
        · exact dok_map h
        · cases h
      · split at h
        · split at h
          · injection h with h; subst h; exact dok_val
          · cases h
        · cases h
      · split at h
        · split at h
          · split at h
            · unfold dApF at h
              split at h
              · injection h with h; subst h; exact dok_chk
              · cases h
            unfold dApp at h
            split at h
            · split at h
              · split at h
                · injection h with h; subst h; exact dok_eq
                · cases h
              · cases h
            · split at h
              · injection h with h; subst h; exact dok_chk
              · cases h
            · split at h
              · injection h with h; subst h; exact dok_eq
              · cases h
            · cases h
          · cases h
        · cases h
      · cases h
    · cases h
  · cases h
end
end AM

/- The abstract machine: contracts of functions, labels by other names. -/
namespace AM
open Go Go.RowKit
set_option linter.unusedVariables false
set_option linter.unusedSimpArgs false
mutual
def AV.ren (ρ : Nat → Nat) : AV → AV
  | .own r n => .own (ρ r) n
  | .ptr l o => .ptr (ρ l) o
  | .rp r k i o => .rp (ρ r) k i o
  | .agg cs => .agg (AV.renL ρ cs)
  | .tup cs => .tup (AV.renL ρ cs)
  | .pv p => .pv p
  | .fp row o => .fp row o
  | .tp cts j => .tp cts j
  | .emp => .emp
def AV.renL (ρ : Nat → Nat) : List AV → List AV
  | [] => []
  | v :: r => AV.ren ρ v :: AV.renL ρ r
end
mutual
def AV.lb (n : Nat) : AV → Bool
  | .own r _ => decide (r < n)
  | .ptr l _ => decide (l < n)
  | .rp r _ _ _ => decide (r < n)
  | .agg cs => AV.lbL n cs
  | .tup cs => AV.lbL n cs
  | .pv _ => true
  | .fp _ _ => true
  | .tp _ _ => true
  | .emp => true
def AV.lbL (n : Nat) : List AV → Bool
  | [] => true
  | v :: r => AV.lb n v && AV.lbL n r
end
theorem renL_get (ρ : Nat → Nat) : ∀ (cs : List AV) (j : Nat), (AV.renL ρ cs)[j]? = (cs[j]?).map (AV.ren ρ)
  | [], j => by simp [AV.renL]
  | v :: r, 0 => by simp [AV.renL]
  | v :: r, j + 1 => by simp [AV.renL, renL_get ρ r j]
theorem renL_len (ρ : Nat → Nat) : ∀ (cs : List AV), (AV.renL ρ cs).length = cs.length
  | [] => rfl
  | v :: r => by simp [AV.renL, renL_len ρ r]
theorem lbL_get {n : Nat} : ∀ {cs : List AV} {j : Nat} {v : AV}, AV.lbL n cs = true → cs[j]? = some v → v.lb n = true
  | [], j, v, _, h => by simp at h
  | u :: r, 0, v, hb, h => by simp at h; subst h; simp [AV.lbL] at hb; exact hb.1
  | u :: r, j + 1, v, hb, h => by simp [AV.lbL] at hb; exact lbL_get hb.2 (by simpa using h)
mutual
theorem rep_in {Ψ : Psi} {loc loc' : Loc} {ρ : Nat → Nat} {n : Nat} (hl : ∀ l, l < n → loc' l = loc (ρ l)) : ∀ (v : AV) (x : Value), RepA Ψ loc (v.ren ρ) x → v.lb n = true → RepA Ψ loc' v x
  | .own r m, x, h, hb => by
    unfold AV.ren at h
    cases h with
    | own h1 hn => exact .own (by rw [hl r (by simpa [AV.lb] using hb)]; exact h1) hn
  | .ptr l o, x, h, hb => by
    unfold AV.ren at h
    cases h with
    | ptr h1 => exact .ptr (by rw [hl l (by simpa [AV.lb] using hb)]; exact h1)
  | .rp r k i o, x, h, hb => by
    unfold AV.ren at h
    cases h with
    | rp h1 => exact .rp (by rw [hl r (by simpa [AV.lb] using hb)]; exact h1)
  | .agg cs, x, h, hb => by
    unfold AV.ren at h
    cases h with
    | agg f hs hx hr => exact .agg f (by rw [hs, renL_len]) (fun j hj => hx j (by rw [renL_len]; exact hj)) (rep_inL hl cs f hr (by simpa [AV.lb] using hb))
  | .tup cs, x, h, hb => by
    unfold AV.ren at h
    cases h with
    | tup f hs hx hr => exact .tup f (by rw [hs, renL_len]) (fun j hj => hx j (by rw [renL_len]; exact hj)) (rep_inL hl cs f hr (by simpa [AV.lb] using hb))
  | .pv p, x, h, hb => by unfold AV.ren at h; cases h with | pv h => exact .pv h
  | .fp row o, x, h, hb => by unfold AV.ren at h; cases h with | fp f h1 h2 => exact .fp f h1 h2
  | .tp cts j, x, h, hb => by unfold AV.ren at h; cases h with | tp h1 h2 h3 h4 => exact .tp h1 h2 h3 h4
  | .emp, x, h, hb => by unfold AV.ren at h; cases h with | emp => exact .emp
theorem rep_inL {Ψ : Psi} {loc loc' : Loc} {ρ : Nat → Nat} {n : Nat} (hl : ∀ l, l < n → loc' l = loc (ρ l)) : ∀ (cs : List AV) (f : Nat → Value), (∀ j v, (AV.renL ρ cs)[j]? = some v → RepA Ψ loc v (f j)) → AV.lbL n cs = true → ∀ (j : Nat) v, cs[j]? = some v → RepA Ψ loc' v (f j)
  | [], f, h, hb, j, v, hv => by simp at hv
  | u :: r, f, h, hb, 0, v, hv => by
    simp at hv
    subst hv
    simp only [AV.lbL, Bool.and_eq_true] at hb
    exact rep_in hl u _ (h 0 _ (by simp [AV.renL])) hb.1
  | u :: r, f, h, hb, j + 1, v, hv => by
    simp only [AV.lbL, Bool.and_eq_true] at hb
    exact rep_inL hl r (fun j => f (j + 1)) (fun j v hv => h (j + 1) v (by simpa [AV.renL] using hv)) hb.2 j v (by simpa using hv)
end
mutual
theorem rep_out {Ψ : Psi} {loc loc' : Loc} {ρ : Nat → Nat} (hl : ∀ l e, loc' l = some e → loc (ρ l) = some e) : ∀ (v : AV) (x : Value), RepA Ψ loc' v x → RepA Ψ loc (v.ren ρ) x
  | .own r m, x, h => by unfold AV.ren; cases h with | own h1 hn => exact .own (hl _ _ h1) hn
  | .ptr l o, x, h => by unfold AV.ren; cases h with | ptr h1 => exact .ptr (hl _ _ h1)
  | .rp r k i o, x, h => by unfold AV.ren; cases h with | rp h1 => exact .rp (hl _ _ h1)
  | .agg cs, x, h => by
    unfold AV.ren
    cases h with
    | agg f hs hx hr => exact .agg f (by rw [hs, renL_len]) (fun j hj => hx j (by rw [renL_len] at hj; exact hj)) (rep_outL hl cs f hr)
  | .tup cs, x, h => by
    unfold AV.ren
    cases h with
    | tup f hs hx hr => exact .tup f (by rw [hs, renL_len]) (fun j hj => hx j (by rw [renL_len] at hj; exact hj)) (rep_outL hl cs f hr)
  | .pv p, x, h => by unfold AV.ren; cases h with | pv h => exact .pv h
  | .fp row o, x, h => by unfold AV.ren; cases h with | fp f h1 h2 => exact .fp f h1 h2
  | .tp cts j, x, h => by unfold AV.ren; cases h with | tp h1 h2 h3 h4 => exact .tp h1 h2 h3 h4
  | .emp, x, h => by unfold AV.ren; cases h with | emp => exact .emp
theorem rep_outL {Ψ : Psi} {loc loc' : Loc} {ρ : Nat → Nat} (hl : ∀ l e, loc' l = some e → loc (ρ l) = some e) : ∀ (cs : List AV) (f : Nat → Value), (∀ j v, cs[j]? = some v → RepA Ψ loc' v (f j)) → ∀ (j : Nat) v, (AV.renL ρ cs)[j]? = some v → RepA Ψ loc v (f j)
  | [], f, h, j, v, hv => by simp [AV.renL] at hv
  | u :: r, f, h, 0, v, hv => by
    simp [AV.renL] at hv
    subst hv
    exact rep_out hl u _ (h 0 _ rfl)
  | u :: r, f, h, j + 1, v, hv => rep_outL hl r (fun j => f (j + 1)) (fun j v hv => h (j + 1) v (by simpa using hv)) j v (by simpa [AV.renL] using hv)
end
def Obj.ren (ρ : Nat → Nat) : Obj → Obj
  | .box cs => .box (AV.renL ρ cs)
  | .row e k els => .row e k els
def Obj.lb (n : Nat) : Obj → Bool
  | .box cs => AV.lbL n cs
  | .row .. => true
theorem holds_in {Ψ : Psi} {loc loc' : Loc} {ρ : Nat → Nat} {n l : Nat} {w : World} (hl : ∀ l, l < n → loc' l = loc (ρ l)) (hln : l < n) {o : Obj} (h : Holds Ψ loc w (ρ l) (o.ren ρ)) (hb : o.lb n = true) : Holds Ψ loc' w l o := by
  cases o with
  | box cs =>
    obtain ⟨b, c, arr, ty, h1, h2, h3, h4⟩ := h
    refine ⟨b, c, arr, ty, by rw [hl l hln]; exact h1, h2, by rw [h3, renL_len], fun j v hv => ?_⟩
    obtain ⟨x, q1, q2, q3⟩ := h4 j (v.ren ρ) (by rw [renL_get, hv]; rfl)
    exact ⟨x, q1, q2, rep_in hl v x q3 (lbL_get hb hv)⟩
  | row e k els =>
    obtain ⟨A, c, h1, h2⟩ := h
    exact ⟨A, c, by rw [hl l hln]; exact h1, h2⟩
theorem holds_out {Ψ : Psi} {loc loc' : Loc} {ρ : Nat → Nat} {l : Nat} {w : World} (hl : ∀ l e, loc' l = some e → loc (ρ l) = some e) {o : Obj} (h : Holds Ψ loc' w l o) : Holds Ψ loc w (ρ l) (o.ren ρ) := by
  cases o with
  | box cs =>
    obtain ⟨b, c, arr, ty, h1, h2, h3, h4⟩ := h
    refine ⟨b, c, arr, ty, hl _ _ h1, h2, by rw [h3, renL_len], fun j v hv => ?_⟩
    rw [renL_get] at hv
    cases hc : cs[j]? with
    | none => simp [hc] at hv
    | some u =>
      simp [hc] at hv
      subst hv
      obtain ⟨x, q1, q2, q3⟩ := h4 j u hc
      exact ⟨x, q1, q2, rep_out hl u x q3⟩
  | row e k els =>
    obtain ⟨A, c, h1, h2⟩ := h
    exact ⟨A, c, hl _ _ h1, h2⟩
def RepsL (Ψ : Psi) (loc : Loc) (args : List AV) (vs : List Value) : Prop := vs.length = args.length ∧ ∀ (j : Nat) v, args[j]? = some v → ∃ x, vs[j]? = some x ∧ RepA Ψ loc v x
def ofL (os : List (Option Obj)) : Sto := fun l => (os[l]?).bind id
def ACall (P : Program) (f : FuncId) (args : List AV) (pre : List Obj) (post : AV → List (Option Obj) → Prop) : Prop :=
  ∀ (fr : Fr) (Ψ : Psi) (loc : Loc) (w : World) (vs : Array Value), Ok fr Ψ loc (ofL (pre.map some)) w → fr.n0 = pre.length → (∀ l, pre.length ≤ l → loc l = none) → RepsL Ψ loc args vs.toList →
    Calls P f vs w fun e w' => ∃ r v g Ψ' loc', e = .returned r ∧ post v g ∧ pre.length ≤ g.length ∧ g.length ≤ pre.length + 8 ∧ RepA Ψ' loc' v r ∧ Ok fr Ψ' loc' (ofL g) w' ∧ (∀ l, g.length ≤ l → loc' l = none)
end AM
