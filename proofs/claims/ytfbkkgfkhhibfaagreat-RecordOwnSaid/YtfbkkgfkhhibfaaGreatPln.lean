/- Words for the recorders of chapter 14: three blocks of cells, one for each thread, and the rows that they name. -/
import Derived.Test.YtfbkkgfkhhibfaaGreatRrow
import Derived.Test.YtfbkkgfkhhibfaaGreatPl
import Derived.Test.YtfbkkgfkhhibfaaGreatSum
import Derived.Deep.QuietTactic
import Derived.BigQuiet
namespace Go.Proofs.YtfbkkgfkhhibfaaGreat
open Go Go.RowKit Iv
set_option linter.unusedVariables false
def BufAt (w : World) (B : Nat) (css : List Value) (rs : List Rec) : Prop :=
  css.length = rs.length * 8 ∧ ∀ k r, rs[k]? = some r → ∃ (Ad : Option Addr) (nd cd : Nat) (Af : Option Addr) (nf cf : Nat), (∀ j u, (recV r Ad nd cd Af nf cf)[j]? = some u → css[k * 8 + j]? = some u) ∧ Lies w B 1 Ad nd (r.ev.deps.map iv) ∧ Lies w B 1 Af nf (r.ev.from_.map iv)
theorem BufAt.nil (w : World) (B : Nat) : BufAt w B [] [] := ⟨rfl, fun k r hr => by simp at hr⟩
theorem BufAt.grow {w w' : World} {B : Nat} {css : List Value} {rs : List Rec} {row : Option Nat} (h : BufAt w B css rs) (hg : w.grownBy w' row) (hB : B ≤ w.heap.size) (hr : ∀ g, row = some g → B ≤ g) : BufAt w' B css rs :=
  ⟨h.1, fun k r hk => by
    obtain ⟨Ad, nd, cd, Af, nf, cf, q1, q2, q3⟩ := h.2 k r hk
    exact ⟨Ad, nd, cd, Af, nf, cf, q1, q2.grown hg hB hr, q3.grown hg hB hr⟩⟩
theorem BufAt.snoc {w : World} {B : Nat} {css : List Value} {rs : List Rec} (h : BufAt w B css rs) {r : Rec} {Ad : Option Addr} {nd cd : Nat} {Af : Option Addr} {nf cf : Nat}
    (h1 : Lies w B 1 Ad nd (r.ev.deps.map iv)) (h2 : Lies w B 1 Af nf (r.ev.from_.map iv)) : BufAt w B (css ++ (recV r Ad nd cd Af nf cf).toList) (rs ++ [r]) := by
  refine ⟨by rw [List.length_append, h.1, List.length_append]; unfold recV; simp [Nat.add_mul], fun k q hq => ?_⟩
  by_cases hk : k < rs.length
  · rw [List.getElem?_append_left hk] at hq
    obtain ⟨Ad', nd', cd', Af', nf', cf', z1, z2, z3⟩ := h.2 k q hq
    refine ⟨Ad', nd', cd', Af', nf', cf', fun j u hu => ?_, z2, z3⟩
    have := z1 j u hu
    rw [List.getElem?_append_left (List.getElem?_eq_some_iff.1 this).1]
    exact this
  · have hkl : k < rs.length + 1 := by have := (List.getElem?_eq_some_iff.1 hq).1; simpa using this
    have hkn : k = rs.length := by omega
    subst hkn
    rw [List.getElem?_append_right (Nat.le_refl _), Nat.sub_self] at hq
    simp only [List.getElem?_cons_zero, Option.some.injEq] at hq
    subst hq
    refine ⟨Ad, nd, cd, Af, nf, cf, fun j u hu => ?_, h1, h2⟩
    rw [List.getElem?_append_right (by rw [h.1]; omega), h.1, Nat.add_sub_cancel_left]
    simpa using hu
theorem BufAt.recs {w : World} {base e c n B : Nat} {A : Option Addr} {css : List Value} {rs : List Rec} (h : BufAt w B css rs) (ho : w.ownsRow base e 8 (.slice A n c) n css) (hn : n = rs.length) (hB : B ≤ w.heap.size) : Recs w w.heap.size A n rs := by
  refine ⟨hn.symm, fun k r hr => ?_⟩
  have hk : k < n := by rw [hn]; exact (List.getElem?_eq_some_iff.1 hr).1
  obtain ⟨g, cap, hv, hbg, hlt⟩ := ho.form (by omega)
  injection hv with hA
  subst hA
  obtain ⟨Ad, nd, cd, Af, nf, cf, q1, q2, q3⟩ := h.2 k r hr
  refine ⟨g, 0, Ad, nd, cd, Af, nf, cf, rfl, hlt, fun j u hu => ?_, q2.more hB, q3.more hB⟩
  have := ho.cells (g := g) rfl (k * 8 + j) u (q1 j u hu)
  rw [Nat.zero_add]
  have e0 : (⟨g, 0, none⟩ : Addr).add (k * 8 + j) = ⟨g, k * 8 + j, none⟩ := by unfold Addr.add; split <;> simp_all
  rwa [e0] at this
def fam (thr : Nat) (f : Nat → Value) : Array Value := ((List.range thr).map f).toArray
theorem fam_get {thr t : Nat} (f : Nat → Value) (ht : t < thr) : (fam thr f)[t]? = some (f t) := by simp [fam, ht]
theorem fam_set {thr t : Nat} (f : Nat → Value) (v : Value) : (fam thr f).setIfInBounds t v = fam thr (upd f t v) := by
  unfold fam
  apply Array.ext
  · simp
  · intro i h1 h2
    simp only [Array.size_setIfInBounds, List.size_toArray, List.length_map, List.length_range] at h1
    rw [Array.getElem_setIfInBounds (by simpa using h1)]
    by_cases hi : t = i
    · subst hi
      simp [upd]
    · have : i ≠ t := fun e => hi e.symm
      simp [hi, upd, this]
theorem upd_comp {α β : Type} (g : α → β) (f : Nat → α) (t : Nat) (x : α) : (fun k => g (upd f t x k)) = upd (fun k => g (f k)) t (g x) := by
  funext k
  unfold upd
  split <;> rfl
structure RM (base B thr gB gW gF : Nat) (s : St) (vb vf : Nat → Value) (css : Nat → List Value) (wr : World) : Prop where
  hB : Held wr gB 48 (fam thr vb)
  hW : Held wr gW 3 (fam thr fun t => .int .i64 (s.first t))
  hF : Held wr gF 22 (fam thr vf)
  ob : ∀ t, t < thr → wr.ownsRow base 54 8 (vb t) (s.buf t).length (css t)
  oc : ∀ t, t < thr → BufAt wr B (css t) (s.buf t)
  of_ : ∀ t, t < thr → wr.ownsRow base 5 1 (vf t) (s.file t).length ((s.file t).map bv)
  abb : ∀ t k, t < thr → k < thr → t ≠ k → Apart (vb t) (vb k)
  aff : ∀ t k, t < thr → k < thr → t ≠ k → Apart (vf t) (vf k)
  abf : ∀ t k, t < thr → k < thr → Apart (vb t) (vf k)
  lt : gB < base ∧ gW < base ∧ gF < base
  ge : B ≤ gB ∧ B ≤ gW ∧ B ≤ gF
  ne : gB ≠ gW ∧ gB ≠ gF ∧ gW ≠ gF
  bs : base ≤ wr.heap.size
section
variable {base B thr gB gW gF : Nat} {s : St} {vb vf : Nat → Value} {css : Nat → List Value} {wr w1 : World}
theorem RM.keep (h : RM base B thr gB gW gF s vb vf css wr) (hg : wr.grownBy w1 none) : RM base B thr gB gW gF s vb vf css w1 :=
  ⟨h.hB.grown hg (fun e => nomatch e), h.hW.grown hg (fun e => nomatch e), h.hF.grown hg (fun e => nomatch e), fun t ht => own_keep (h.ob t ht) hg (fun _ _ e => nomatch e), fun t ht => (h.oc t ht).grow hg (by have := h.bs; have := h.lt; have := h.ge; omega) (fun _ e => nomatch e),
    fun t ht => own_keep (h.of_ t ht) hg (fun _ _ e => nomatch e), h.abb, h.aff, h.abf, h.lt, h.ge, h.ne, Nat.le_trans h.bs hg.size⟩
theorem own_ne {e sz n g : Nat} {v : Value} {xs : List Value} (h : wr.ownsRow base e sz v n xs) (hg : g < base) : v.ownBlock ≠ some g := by
  intro hv
  have := (h.lt g hv).1
  omega
theorem RM.setB (h : RM base B thr gB gW gF s vb vf css wr) {t : Nat} (ht : t < thr) {v : Value} {xs : List Value} {rs : List Rec} (ho : w1.ownsRow base 54 8 v rs.length xs) (hc : BufAt w1 B xs rs) (hg : wr.grownBy w1 (vb t).ownBlock)
    (a1 : ∀ k, k < thr → k ≠ t → Apart v (vb k)) (a2 : ∀ k, k < thr → Apart v (vf k)) :
    RM base B thr gB gW gF ⟨upd s.buf t rs, s.first, s.file⟩ (upd vb t v) vf (upd css t xs) (w1.setCell ⟨gB, t, none⟩ v) := by
  obtain ⟨l1, l2, l3⟩ := h.lt
  obtain ⟨e1, e2, e3⟩ := h.ge
  obtain ⟨n1, n2, n3⟩ := h.ne
  have hbs := h.bs
  have own := h.ob t ht
  have hb1 := h.hB.grown hg (fun e => own_ne own l1 e.symm)
  have hw1 := h.hW.grown hg (fun e => own_ne own l2 e.symm)
  have hf1 := h.hF.grown hg (fun e => own_ne own l3 e.symm)
  have st := grown_store w1 gB t v
  have bsz : base ≤ w1.heap.size := Nat.le_trans hbs hg.size
  refine ⟨?_, hw1.far (p := ⟨gB, t, none⟩) (fun e => n1 e.symm) v, hf1.far (p := ⟨gB, t, none⟩) (fun e => n2 e.symm) v, fun k hk => ?_, fun k hk => ?_, fun k hk => ?_, fun a k ha hk hak => ?_, h.aff, fun a k ha hk => ?_, h.lt, h.ge, h.ne, Nat.le_trans bsz st.size⟩
  · have := hb1.store t v
    rw [fam_set] at this
    exact this
  · by_cases hkt : k = t
    · subst hkt
      simp only [upd_same]
      exact own_keep ho st (fun g hv e => own_ne ho l1 (by rw [hv, e]))
    · simp only [upd_other _ _ hkt]
      exact own_keep (own_keep (h.ob k hk) hg (fun g hv e => h.abb k t hk ht hkt g hv e)) st (fun g hv e => own_ne (h.ob k hk) l1 (by rw [hv, e]))
  · by_cases hkt : k = t
    · subst hkt
      simp only [upd_same]
      exact hc.grow st (by omega) (fun g e => by injection e with e; omega)
    · simp only [upd_other _ _ hkt]
      exact ((h.oc k hk).grow hg (by omega) (fun g e => by have := (own.lt g e).1; omega)).grow st (by omega) (fun g e => by injection e with e; omega)
  · exact own_keep (own_keep (h.of_ k hk) hg (fun g hv e => (h.abf t k ht hk).symm g hv e)) st (fun g hv e => own_ne (h.of_ k hk) l1 (by rw [hv, e]))
  · by_cases hat' : a = t
    · subst hat'
      simp only [upd_same, upd_other _ _ (fun e => hak e.symm)]
      exact a1 k hk (fun e => hak e.symm)
    · by_cases hkt : k = t
      · subst hkt
        simp only [upd_same, upd_other _ _ hat']
        exact (a1 a ha hat').symm
      · simp only [upd_other _ _ hat', upd_other _ _ hkt]
        exact h.abb a k ha hk hak
  · by_cases hat' : a = t
    · subst hat'
      simp only [upd_same]
      exact a2 k hk
    · simp only [upd_other _ _ hat']
      exact h.abf a k ha hk
theorem RM.grewB (h : RM base B thr gB gW gF s vb vf css wr) {t : Nat} (ht : t < thr) {v : Value} {xs : List Value} {rs : List Rec} (ho : w1.ownsRow base 54 8 v rs.length xs) (hc : BufAt w1 B xs rs) (hg : wr.grownBy w1 (vb t).ownBlock) (hat : At wr (vb t).ownBlock v.ownBlock) :
    RM base B thr gB gW gF ⟨upd s.buf t rs, s.first, s.file⟩ (upd vb t v) vf (upd css t xs) (w1.setCell ⟨gB, t, none⟩ v) :=
  h.setB ht ho hc hg (fun k hk hkt => (h.abb t k ht hk (fun e => hkt e.symm)).step (h.ob k hk) hat) (fun k hk => (h.abf t k ht hk).step (h.of_ k hk) hat)
theorem RM.clearB (h : RM base B thr gB gW gF s vb vf css wr) {t : Nat} (ht : t < thr) :
    RM base B thr gB gW gF ⟨upd s.buf t [], s.first, s.file⟩ (upd vb t (.slice none 0 0)) vf (upd css t []) (wr.setCell ⟨gB, t, none⟩ (.slice none 0 0)) :=
  h.setB ht (World.ownsRow_nil _ _ _ _) (BufAt.nil _ _) (World.grownBy.refl wr _) (fun k _ _ => (Apart.nil _).symm) (fun k _ => (Apart.nil _).symm)
theorem RM.setF (h : RM base B thr gB gW gF s vb vf css wr) {t : Nat} (ht : t < thr) {v : Value} {ys : Bytes} (ho : w1.ownsRow base 5 1 v ys.length (ys.map bv)) (hg : wr.grownBy w1 (vf t).ownBlock)
    (a1 : ∀ k, k < thr → k ≠ t → Apart v (vf k)) (a2 : ∀ k, k < thr → Apart (vb k) v) :
    RM base B thr gB gW gF ⟨s.buf, s.first, upd s.file t ys⟩ vb (upd vf t v) css (w1.setCell ⟨gF, t, none⟩ v) := by
  obtain ⟨l1, l2, l3⟩ := h.lt
  obtain ⟨e1, e2, e3⟩ := h.ge
  obtain ⟨n1, n2, n3⟩ := h.ne
  have hbs := h.bs
  have own := h.of_ t ht
  have hb1 := h.hB.grown hg (fun e => own_ne own l1 e.symm)
  have hw1 := h.hW.grown hg (fun e => own_ne own l2 e.symm)
  have hf1 := h.hF.grown hg (fun e => own_ne own l3 e.symm)
  have st := grown_store w1 gF t v
  have bsz : base ≤ w1.heap.size := Nat.le_trans hbs hg.size
  refine ⟨hb1.far (p := ⟨gF, t, none⟩) n2 v, hw1.far (p := ⟨gF, t, none⟩) n3 v, ?_, fun k hk => ?_, fun k hk => ?_, fun k hk => ?_, h.abb, fun a k ha hk hak => ?_, fun a k ha hk => ?_, h.lt, h.ge, h.ne, Nat.le_trans bsz st.size⟩
  · have := hf1.store t v
    rw [fam_set] at this
    exact this
  · exact own_keep (own_keep (h.ob k hk) hg (fun g hv e => h.abf k t hk ht g hv e)) st (fun g hv e => own_ne (h.ob k hk) l3 (by rw [hv, e]))
  · exact ((h.oc k hk).grow hg (by omega) (fun g e => by have := (own.lt g e).1; omega)).grow st (by omega) (fun g e => by injection e with e; omega)
  · by_cases hkt : k = t
    · subst hkt
      simp only [upd_same]
      exact own_keep ho st (fun g hv e => own_ne ho l3 (by rw [hv, e]))
    · simp only [upd_other _ _ hkt]
      exact own_keep (own_keep (h.of_ k hk) hg (fun g hv e => h.aff k t hk ht hkt g hv e)) st (fun g hv e => own_ne (h.of_ k hk) l3 (by rw [hv, e]))
  · by_cases hat' : a = t
    · subst hat'
      simp only [upd_same, upd_other _ _ (fun e => hak e.symm)]
      exact a1 k hk (fun e => hak e.symm)
    · by_cases hkt : k = t
      · subst hkt
        simp only [upd_same, upd_other _ _ hat']
        exact (a1 a ha hat').symm
      · simp only [upd_other _ _ hat', upd_other _ _ hkt]
        exact h.aff a k ha hk hak
  · by_cases hkt : k = t
    · subst hkt
      simp only [upd_same]
      exact a2 a ha
    · simp only [upd_other _ _ hkt]
      exact h.abf a k ha hk
theorem RM.grewF (h : RM base B thr gB gW gF s vb vf css wr) {t : Nat} (ht : t < thr) {v : Value} {ys : Bytes} (ho : w1.ownsRow base 5 1 v ys.length (ys.map bv)) (hg : wr.grownBy w1 (vf t).ownBlock) (hat : At wr (vf t).ownBlock v.ownBlock) :
    RM base B thr gB gW gF ⟨s.buf, s.first, upd s.file t ys⟩ vb (upd vf t v) css (w1.setCell ⟨gF, t, none⟩ v) :=
  h.setF ht ho hg (fun k hk hkt => (h.aff t k ht hk (fun e => hkt e.symm)).step (h.of_ k hk) hat) (fun k hk => ((h.abf k t hk ht).symm.step (h.ob k hk) hat).symm)
theorem RM.setW (h : RM base B thr gB gW gF s vb vf css wr) {t : Nat} (x : Int) :
    RM base B thr gB gW gF ⟨s.buf, upd s.first t x, s.file⟩ vb vf css (wr.setCell ⟨gW, t, none⟩ (.int .i64 x)) := by
  obtain ⟨l1, l2, l3⟩ := h.lt
  obtain ⟨e1, e2, e3⟩ := h.ge
  obtain ⟨n1, n2, n3⟩ := h.ne
  have hbs := h.bs
  have st := grown_store wr gW t (.int .i64 x)
  refine ⟨h.hB.far (p := ⟨gW, t, none⟩) n1 _, ?_, h.hF.far (p := ⟨gW, t, none⟩) (fun e => n3 e.symm) _, fun k hk => own_keep (h.ob k hk) st (fun g hv e => own_ne (h.ob k hk) l2 (by rw [hv, e])), fun k hk => (h.oc k hk).grow st (by omega) (fun g e => by injection e with e; omega),
    fun k hk => own_keep (h.of_ k hk) st (fun g hv e => own_ne (h.of_ k hk) l2 (by rw [hv, e])), h.abb, h.aff, h.abf, h.lt, h.ge, h.ne, Nat.le_trans hbs st.size⟩
  have := h.hW.store t (.int .i64 x)
  rw [fam_set] at this
  have e : (fun k => Value.int .i64 (upd s.first t x k)) = upd (fun k => Value.int .i64 (s.first k)) t (.int .i64 x) := upd_comp (Value.int .i64) s.first t x
  show Held _ gW _ (fam thr fun k => Value.int .i64 (upd s.first t x k))
  rw [e]
  exact this
end
end Go.Proofs.YtfbkkgfkhhibfaaGreat

/- The walk of the plan's checks (chapter 14). -/
namespace Go.Proofs.YtfbkkgfkhhibfaaGreat
open Go Go.RowKit Iv
set_option linter.unusedVariables false
def Fls (w : World) (B : Nat) (A : Option Addr) (n : Nat) (fs : List (Int × Int)) : Prop :=
  fs.length = n ∧ ∀ k f, fs[k]? = some f → ∃ b o : Nat, A = some ⟨b, o, none⟩ ∧ b < B ∧ w.cell? ⟨b, o + k * 2, none⟩ = some (.int .i64 f.1) ∧ w.cell? ⟨b, o + k * 2 + 1, none⟩ = some (.int .i64 f.2)
theorem Fls.grown {w w' : World} {B n : Nat} {A : Option Addr} {fs : List (Int × Int)} {row : Option Nat} (h : Fls w B A n fs) (hg : w.grownBy w' row) (hB : B ≤ w.heap.size) (hr : ∀ g, row = some g → B ≤ g) : Fls w' B A n fs :=
  ⟨h.1, fun k f hf => by
    obtain ⟨b, o, e, hb, h1, h2⟩ := h.2 k f hf
    have hk : ∀ j, w'.cell? ⟨b, j, none⟩ = w.cell? ⟨b, j, none⟩ := fun j => World.cell?_of_block (hg.block b (by omega) (fun e => by have := hr _ e.symm; omega))
    exact ⟨b, o, e, hb, by rw [hk]; exact h1, by rw [hk]; exact h2⟩⟩
theorem Fls.at {w : World} {B n k : Nat} {A : Option Addr} {fs : List (Int × Int)} (h : Fls w B A n fs) (hk : k < n) :
    ∃ b o f, A = some ⟨b, o, none⟩ ∧ b < B ∧ fs[k]? = some f ∧ w.cell? ⟨b, o + k * 2, none⟩ = some (.int .i64 f.1) ∧ w.cell? ⟨b, o + k * 2 + 1, none⟩ = some (.int .i64 f.2) := by
  have h1 : k < fs.length := by have := h.1; omega
  obtain ⟨b, o, q1, q2, q3, q4⟩ := h.2 k fs[k] (List.getElem?_eq_getElem h1)
  exact ⟨b, o, fs[k], q1, q2, List.getElem?_eq_getElem h1, q3, q4⟩
def planV (p : Pln) (Af : Option Addr) (nf cf : Nat) (Ac : Option Addr) (nc cc : Nat) : Array Value := #[.int .i64 p.cap, .slice Af nf cf, .int .i64 p.stop, .slice Ac nc cc]
set_option maxRecDepth 100000 in
set_option maxHeartbeats 3200000 in
theorem planAllowed_head (thr : Int) (p : Pln) (Af : Option Addr) (nf cf : Nat) (Ac : Option Addr) (nc cc : Nat) (w : World) (h : planHead thr p = false) :
    Calls Tryz.prog 26 #[.int .i64 thr, .agg (planV p Af nf cf Ac nc cc)] w fun e w' => e = .returned (.bool (planOk thr p)) ∧ w.grownBy w' none := by
  obtain ⟨cap, fl, stop, cu⟩ := p
  have HF : Hid (planOk thr ⟨cap, fl, stop, cu⟩ = false) := Lib.hid (by unfold planOk; rw [h]; rfl)
  have hh : thr < 1 ∨ 4 < thr ∨ cap < 1 ∨ 64 < cap ∨ stop < 0 := by
    unfold planHead at h
    simp only [Bool.and_eq_false_iff, decide_eq_false_iff_not] at h
    omega
  unfold planV
  dsimp only
  clear h
  by_cases a1 : thr < 1
  · clear hh
    go_enter Tryz.func26, Tryz.ntmps26
    go_wp2_with fail
    go_ret
    exact ⟨ret_bool HF.out.symm, World.grownBy_alloc w _ none⟩
  · by_cases a2 : (4 : Int) < thr
    · clear hh
      go_enter Tryz.func26, Tryz.ntmps26
      go_wp2_with fail
      go_ret
      exact ⟨ret_bool HF.out.symm, World.grownBy_alloc w _ none⟩
    · by_cases a3 : cap < 1
      · clear hh
        go_enter Tryz.func26, Tryz.ntmps26
        go_wp2_with fail
        go_ret
        exact ⟨ret_bool HF.out.symm, World.grownBy_alloc w _ none⟩
      · by_cases a4 : (64 : Int) < cap
        · clear hh
          go_enter Tryz.func26, Tryz.ntmps26
          go_wp2_with fail
          go_ret
          exact ⟨ret_bool HF.out.symm, World.grownBy_alloc w _ none⟩
        · have a5 : stop < 0 := by omega
          clear hh
          go_enter Tryz.func26, Tryz.ntmps26
          go_wp2_with fail
          go_ret
          exact ⟨ret_bool HF.out.symm, World.grownBy_alloc w _ none⟩
theorem all_drop {α : Type} {f : α → Bool} {xs : List α} {k : Nat} {x : α} (h : xs[k]? = some x) : (xs.drop k).all f = (f x && (xs.drop (k + 1)).all f) := by
  obtain ⟨hl, rfl⟩ := List.getElem?_eq_some_iff.1 h
  rw [List.drop_eq_getElem_cons hl]
  rfl
set_option maxRecDepth 100000 in
set_option maxHeartbeats 3200000 in
theorem planAllowed_any (thr : Int) (p : Pln) (Af : Option Addr) (nf cf : Nat) (Ac : Option Addr) (nc cc B : Nat) (w : World) (hf : Fls w B Af nf p.flushes) (hcu : Lies w B 1 Ac nc (p.cuts.map iv)) (hB : B ≤ w.heap.size) (hnf : nf ≤ 1000000) (hnc : nc ≤ 1000000) :
    Calls Tryz.prog 26 #[.int .i64 thr, .agg (planV p Af nf cf Ac nc cc)] w fun e w' => e = .returned (.bool (planOk thr p)) ∧ w.grownBy w' none := by
  cases hh : planHead thr p with
  | false => exact planAllowed_head thr p Af nf cf Ac nc cc w hh
  | true =>
    obtain ⟨cap, fl, stop, cu⟩ := p
    have HOK : Hid (planOk thr ⟨cap, fl, stop, cu⟩ = (fl.all (flushOk thr) && cu.all (fun n => decide (0 ≤ n)) && decide ((cu.length : Int) ≤ thr))) := Lib.hid (by unfold planOk; rw [hh]; simp [Bool.and_assoc])
    unfold planHead at hh
    simp only [Bool.and_eq_true, decide_eq_true_eq] at hh
    dsimp only at hf hcu hh
    have a1 : ¬ thr < 1 := by omega
    have a2 : ¬ (4 : Int) < thr := by omega
    have a3 : ¬ cap < 1 := by omega
    have a4 : ¬ (64 : Int) < cap := by omega
    have a5 : ¬ stop < 0 := by omega
    have hlc : cu.length = nc := hcu.lenI
    have HLC := Lib.hid hlc
    have HLF := Lib.hid hf.1
    clear hh hlc
    obtain ⟨W, hW⟩ : ∃ W, W = w.alloc (.cells #[.int .i64 cap, .slice Af nf cf, .int .i64 stop, .slice Ac nc cc] 39) := ⟨_, rfl⟩
    have hWg : w.grownBy W none := by rw [hW]; exact World.grownBy_alloc w _ none
    have hb0 : Held W w.heap.size 39 #[.int .i64 cap, .slice Af nf cf, .int .i64 stop, .slice Ac nc cc] := by rw [hW]; exact Held.new _ _ _
    have HW := Lib.hid hW
    clear hW
    unfold planV
    dsimp only
    go_enter Tryz.func26, Tryz.ntmps26
    go_upto_region 3 with fail
    rw [show w.alloc (.cells #[.int .i64 cap, .slice Af nf cf, .int .i64 stop, .slice Ac nc cc] 39) = W from HW.out.symm]
    have k1 : W.cell? ⟨w.heap.size, 1, none⟩ = some (.slice Af nf cf) := hb0.cell 1
    go_wp2_with fail
    go_loopw [33] (fun iv wr => ∃ k : Nat, iv = .int .i64 (k : Int) ∧ k ≤ nf ∧ W.grownBy wr none ∧ (fl.drop k).all (flushOk thr) = fl.all (flushOk thr)) (fun iv _ => nf - (intOf iv).toNat)
    case atStart => exact ⟨0, rfl, Nat.zero_le _, World.grownBy.refl W none, rfl⟩
    case round =>
      obtain ⟨k, rfl, hk, hg, ho⟩ := hrel
      have HO := Lib.hid ho
      clear ho
      have hgw := grownBy_trans hWg hg (.inl rfl)
      have kz : w.heap.size < wr.heap.size := (hb0.grown hg (fun e => nomatch e)).lt
      by_cases hlt : k < nf
      · obtain ⟨b, o, f, rfl, hbB, hfk, f0, f1⟩ := (hf.grown hgw hB (fun _ e => nomatch e)).at hlt
        have HS := Lib.hid (all_drop (f := flushOk thr) hfk)
        clear hfk
        have HG1 : Hid (W.grownBy (wr.alloc (.cells #[.int .i64 f.1, .int .i64 f.2] 68)) none) := Lib.hid (grownBy_trans hg (World.grownBy_alloc wr _ none) (.inl rfl))
        by_cases hgood : flushOk thr f = true
        · have hgd := hgood
          unfold flushOk at hgd
          simp only [Bool.and_eq_true, decide_eq_true_eq] at hgd
          have g1 : ¬ f.1 < 0 := by omega
          have g2 : ¬ f.2 < 0 := by omega
          have g3 : ¬ thr ≤ f.2 := by omega
          have HGD := Lib.hid hgood
          clear hgood hgd
          go_wp2_with fail
          go_roundw
          case rel => exact ⟨k + 1, by go_num, by omega, HG1.out, by have := HS.out; rw [HO.out, HGD.out, Bool.true_and] at this; exact this.symm⟩
          case measure => simp [intOf]; omega
        · have HF : Hid (planOk thr ⟨cap, fl, stop, cu⟩ = false) := Lib.hid (by
            have h1 := HS.out
            rw [HO.out, Bool.eq_false_iff.2 hgood, Bool.false_and] at h1
            rw [HOK.out, h1]
            rfl)
          have hb : f.1 < 0 ∨ f.2 < 0 ∨ thr ≤ f.2 := by
            unfold flushOk at hgood
            simp only [Bool.and_eq_true, decide_eq_true_eq] at hgood
            omega
          clear hgood
          by_cases g1 : f.1 < 0
          · clear hb
            go_wp2_with fail
            go_ret
            exact ⟨ret_bool HF.out.symm, grownBy_trans hWg HG1.out (.inl rfl)⟩
          · by_cases g2 : f.2 < 0
            · clear hb
              go_wp2_with fail
              go_ret
              exact ⟨ret_bool HF.out.symm, grownBy_trans hWg HG1.out (.inl rfl)⟩
            · have g3 : thr ≤ f.2 := by omega
              clear hb
              go_wp2_with fail
              go_ret
              exact ⟨ret_bool HF.out.symm, grownBy_trans hWg HG1.out (.inl rfl)⟩
      · have hkn : k = nf := by omega
        have HALL : Hid (fl.all (flushOk thr) = true) := Lib.hid (by
          have := HO.out
          rw [List.drop_eq_nil_of_le (by have := HLF.out; omega)] at this
          exact this.symm)
        subst hkn
        have k3 : wr.cell? ⟨w.heap.size, 3, none⟩ = some (.slice Ac nc cc) := (hb0.grown hg (fun e => nomatch e)).cell 3
        have hc2 := hcu.grown hgw hB (fun _ e => nomatch e)
        have hb2 := hb0.grown hg (fun e => nomatch e)
        have HB2 := Lib.hid hb2
        have HGW := Lib.hid hgw
        clear hb2 hgw hg hb0 hWg hf hcu k1
        obtain ⟨W1, hW1⟩ : ∃ W1, W1 = wr := ⟨_, rfl⟩
        subst hW1
        go_wp2_with fail
        go_loopw [55] (fun iv wr => ∃ j : Nat, iv = .int .i64 (j : Int) ∧ j ≤ nc ∧ wr = W1 ∧ (cu.drop j).all (fun n => decide (0 ≤ n)) = cu.all (fun n => decide (0 ≤ n))) (fun iv _ => nc - (intOf iv).toNat)
        case atStart => exact ⟨0, rfl, Nat.zero_le _, rfl, rfl⟩
        case round =>
          obtain ⟨j, rfl, hj, rfl, hoj⟩ := hrel
          have HOJ := Lib.hid hoj
          clear hoj
          by_cases hjl : j < nc
          · obtain ⟨ad, u, rfl, hb1, hx, hc⟩ := hc2.cellAt hjl
            simp only [List.getElem?_map, Option.map_eq_some_iff] at hx
            obtain ⟨x, hx, rfl⟩ := hx
            unfold iv at hc
            have HS := Lib.hid (all_drop (f := fun n : Int => decide (0 ≤ n)) hx)
            clear hx
            by_cases hx0 : x < 0
            · have HF : Hid (planOk thr ⟨cap, fl, stop, cu⟩ = false) := Lib.hid (by
                have h1 := HS.out
                rw [HOJ.out, decide_eq_false (by omega), Bool.false_and] at h1
                rw [HOK.out, h1]
                simp)
              go_wp2_with fail
              go_ret
              exact ⟨ret_bool HF.out.symm, HGW.out⟩
            · have HX : Hid (decide (0 ≤ x) = true) := Lib.hid (decide_eq_true (by omega))
              go_wp2_with fail
              go_roundw
              case rel => exact ⟨j + 1, by go_num, by omega, trivial, by have := HS.out; rw [HOJ.out, HX.out, Bool.true_and] at this; exact this.symm⟩
              case measure => simp [intOf]; omega
          · have hjn : j = nc := by omega
            have HF : Hid (planOk thr ⟨cap, fl, stop, cu⟩ = decide ((nc : Int) ≤ thr)) := Lib.hid (by
              have h1 := HOJ.out
              rw [List.drop_eq_nil_of_le (by have := HLC.out; omega)] at h1
              rw [HOK.out, HALL.out, ← h1, HLC.out]
              rfl)
            clear hjn
            go_wp2_with fail
            go_ret
            exact ⟨ret_bool HF.out.symm, HGW.out⟩
end Go.Proofs.YtfbkkgfkhhibfaaGreat
