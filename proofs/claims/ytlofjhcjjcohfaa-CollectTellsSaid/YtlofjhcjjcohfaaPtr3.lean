/- The plain law of the collected trace (chapter 15): the events whose numbers follow each other from 0 on, each of which occurs once. No program in sight. -/
import Derived.Test.YtlofjhcjjcohfaaPl
namespace Iv
/-- How often a number occurs. -/
def cnt (l : List Rec) (n : Int) : Nat := l.countP fun r => decide (r.seq = n)
/-- The event with a number. -/
def evAt (l : List Rec) (n : Int) : Ev := match l.find? (fun r => decide (r.seq = n)) with | some r => r.ev | none => ⟨0, 0, 0, 0, 0, [], []⟩
def trEv (l : List Rec) : Nat → Nat → List Ev
  | 0, _ => []
  | f + 1, n => if cnt l n = 1 then evAt l n :: trEv l f (n + 1) else []
/-- The collected events. -/
def trAll (l : List Rec) : List Ev := trEv l (l.length + 1) 0

theorem countP_split {α : Type} (p q r : α → Bool) (l : List α) (h : ∀ x, r x = (p x || q x)) (hd : ∀ x, ¬ (p x = true ∧ q x = true)) : l.countP r = l.countP p + l.countP q := by
  induction l with
  | nil => rfl
  | cons x t ih =>
    rw [List.countP_cons, List.countP_cons, List.countP_cons, ih, h x]
    have := hd x
    cases hp : p x <;> cases hq : q x <;> simp_all <;> omega
/-- Numbers that occur once each: no more than there are. -/
theorem once_le (l : List Rec) (n : Nat) (h : ∀ i : Nat, i < n → cnt l i = 1) : n ≤ l.length := by
  have key : ∀ m : Nat, m ≤ n → l.countP (fun r => decide (0 ≤ r.seq ∧ r.seq < (m : Int))) = m := by
    intro m
    induction m with
    | zero => intro _; rw [List.countP_eq_zero]; intro r _; simp; try omega
    | succ m ih =>
      intro hm
      rw [countP_split (fun r => decide (0 ≤ r.seq ∧ r.seq < (m : Int))) (fun r => decide (r.seq = (m : Int))) _ l (fun r => by
        rw [← Bool.decide_or]
        apply decide_eq_decide.2
        omega) (fun r hr => by simp at hr; omega), ih (by omega)]
      have := h m (by omega)
      unfold cnt at this
      rw [this]
  have := key n (Nat.le_refl _)
  rw [← this]
  exact List.countP_le_length
theorem trEv_fuel (l : List Rec) (f : Nat) : ∀ (g n : Nat), (∀ i : Nat, i < n → cnt l i = 1) → l.length < f + n → l.length < g + n → trEv l f n = trEv l g n := by
  induction f with
  | zero => intro g n h h1 _; have := once_le l n h; omega
  | succ f ih =>
    intro g n h h1 h2
    have hn := once_le l n h
    obtain ⟨g, rfl⟩ : ∃ g', g = g' + 1 := ⟨g - 1, by omega⟩
    unfold trEv
    split
    · rename_i hc
      congr 1
      exact ih g (n + 1) (fun i hi => by
        rcases Nat.lt_or_eq_of_le (Nat.le_of_lt_succ hi) with c | c
        · exact h i c
        · rw [c]; exact hc) (by omega) (by omega)
    · rfl
/-- What is left of the trace behind n events. -/
def trFrom (l : List Rec) (n : Nat) : List Ev := trEv l (l.length + 1) n
theorem trFrom_one {l : List Rec} {n : Nat} (h : ∀ i : Nat, i < n → cnt l i = 1) (hc : cnt l n = 1) : trFrom l n = evAt l n :: trFrom l (n + 1) := by
  unfold trFrom
  conv => lhs; unfold trEv
  rw [if_pos hc]
  congr 1
  have h' : ∀ i : Nat, i < n + 1 → cnt l i = 1 := fun i hi => by
    rcases Nat.lt_or_eq_of_le (Nat.le_of_lt_succ hi) with c | c
    · exact h i c
    · rw [c]; exact hc
  have := once_le l (n + 1) h'
  exact trEv_fuel l _ _ _ h' (by omega) (by omega)
theorem trFrom_stop {l : List Rec} {n : Nat} (hc : cnt l n ≠ 1) : trFrom l n = [] := by
  unfold trFrom trEv
  rw [if_neg hc]
theorem trAll_len (l : List Rec) : (trAll l).length ≤ l.length := by
  have key : ∀ f n : Nat, (∀ i : Nat, i < n → cnt l i = 1) → n + (trEv l f n).length ≤ l.length := by
    intro f
    induction f with
    | zero => intro n h; have := once_le l n h; simp [trEv]; omega
    | succ f ih =>
      intro n h
      unfold trEv
      split
      · rename_i hc
        have := ih (n + 1) (fun i hi => by
          rcases Nat.lt_or_eq_of_le (Nat.le_of_lt_succ hi) with c | c
          · exact h i c
          · rw [c]; exact hc)
        rw [List.length_cons]
        omega
      · have := once_le l n h; simp; omega
  have := key (l.length + 1) 0 (fun i hi => by omega)
  unfold trAll
  omega

/-- Sorted by their numbers. -/
def Asc (s : List Rec) : Prop := ∀ (i j : Nat) (x y : Rec), i < j → s[i]? = some x → s[j]? = some y → x.seq ≤ y.seq
/-- The program's test at place n of the sorted records. -/
def stepOk (s : List Rec) (n : Nat) : Prop := (∃ r, s[n]? = some r ∧ r.seq = (n : Int)) ∧ (∀ r, s[n + 1]? = some r → r.seq ≠ (n : Int))
theorem countP_take_drop {α : Type} (p : α → Bool) (l : List α) (n : Nat) : l.countP p = (l.take n).countP p + (l.drop n).countP p := by
  rw [← List.countP_append, List.take_append_drop]
theorem cnt_sorted {s : List Rec} (hs : Asc s) {n : Nat} (hlow : ∀ (i : Nat) (r : Rec), i < n → s[i]? = some r → r.seq < n) (hhigh : ∀ r, s[n]? = some r → (n : Int) ≤ r.seq) : stepOk s n ↔ cnt s n = 1 := by
  have h0 : (s.take n).countP (fun r => decide (r.seq = (n : Int))) = 0 := by
    rw [List.countP_eq_zero]
    intro r hr
    obtain ⟨i, hi, rfl⟩ := List.mem_iff_getElem.1 hr
    have hil : i < n := by rw [List.length_take] at hi; omega
    have hlo := hlow i _ hil (by rw [← List.getElem?_take_of_lt hil]; exact List.getElem?_eq_getElem hi)
    simp only [decide_eq_true_eq]
    omega
  unfold cnt
  rw [countP_take_drop _ s n, h0, Nat.zero_add]
  cases hd : s.drop n with
  | nil =>
    have hl : s.length ≤ n := List.drop_eq_nil_iff.1 hd
    constructor
    · rintro ⟨⟨r, hr, _⟩, _⟩
      have := (List.getElem?_eq_some_iff.1 hr).1
      omega
    · intro h; simp at h
  | cons x t =>
    have hx : s[n]? = some x := by
      have : (s.drop n)[0]? = some x := by rw [hd]; rfl
      rwa [List.getElem?_drop, Nat.add_zero] at this
    have ht : ∀ j, t[j]? = s[n + 1 + j]? := fun j => by
      have : (s.drop n)[j + 1]? = t[j]? := by rw [hd]; rfl
      rw [← this, List.getElem?_drop]
      congr 1; omega
    have hxn := hhigh x hx
    rw [List.countP_cons]
    by_cases hxe : x.seq = (n : Int)
    · rw [if_pos (decide_eq_true hxe)]
      constructor
      · rintro ⟨_, h2⟩
        have : t.countP (fun r => decide (r.seq = (n : Int))) = 0 := by
          rw [List.countP_eq_zero]
          intro r hr
          obtain ⟨j, hj, rfl⟩ := List.mem_iff_getElem.1 hr
          have hjs : s[n + 1 + j]? = some t[j] := by rw [← ht]; exact List.getElem?_eq_getElem hj
          have hl : n + 1 < s.length := by have := (List.getElem?_eq_some_iff.1 hjs).1; omega
          have hne := h2 _ (List.getElem?_eq_getElem hl)
          have hge := hs n (n + 1) _ _ (by omega) hx (List.getElem?_eq_getElem hl)
          have hge2 : (s[n + 1]).seq ≤ (t[j]).seq := by
            rcases Nat.eq_zero_or_pos j with c | c
            · subst c
              have h5 : s[n + 1]? = some t[0] := hjs
              rw [List.getElem?_eq_getElem hl] at h5
              injection h5 with h5
              rw [h5]; exact Int.le_refl _
            · exact hs (n + 1) (n + 1 + j) _ _ (by omega) (List.getElem?_eq_getElem hl) hjs
          simp; omega
        rw [this]
      · intro h
        refine ⟨⟨x, hx, hxe⟩, fun r hr hrn => ?_⟩
        have h1 : t[0]? = some r := by rw [ht]; exact hr
        have : 0 < t.countP (fun r => decide (r.seq = (n : Int))) := List.countP_pos_iff.2 ⟨r, List.mem_of_getElem? h1, by simp [hrn]⟩
        omega
    · rw [if_neg (by simp [hxe])]
      have hgt : (n : Int) < x.seq := by omega
      have : t.countP (fun r => decide (r.seq = (n : Int))) = 0 := by
        rw [List.countP_eq_zero]
        intro r hr
        obtain ⟨j, hj, rfl⟩ := List.mem_iff_getElem.1 hr
        have hjs : s[n + 1 + j]? = some t[j] := by rw [← ht]; exact List.getElem?_eq_getElem hj
        have := hs n (n + 1 + j) _ _ (by omega) hx hjs
        simp; omega
      rw [this]
      constructor
      · rintro ⟨⟨r, hr, hre⟩, _⟩
        rw [hx] at hr
        injection hr with hr
        subst hr
        exact absurd hre hxe
      · intro h; simp at h
theorem cnt_perm {l s : List Rec} (h : s.Perm l) (n : Int) : cnt s n = cnt l n := h.countP_eq _
/-- The event that occurs once: whoever has its number. -/
theorem evAt_of {l : List Rec} {n : Int} (h : cnt l n = 1) {r : Rec} (hr : r ∈ l) (hn : r.seq = n) : evAt l n = r.ev := by
  unfold evAt
  have key : ∀ l : List Rec, cnt l n = 1 → r ∈ l → l.find? (fun r => decide (r.seq = n)) = some r := by
    intro l
    induction l with
    | nil => intro _ h; cases h
    | cons x t ih =>
      intro h hr
      unfold cnt at h ih
      rw [List.countP_cons] at h
      rw [List.find?_cons]
      by_cases hx : x.seq = n
      · simp only [hx, decide_true]
        rcases List.mem_cons.1 hr with rfl | hr
        · rfl
        · have : 0 < t.countP (fun r => decide (r.seq = n)) := List.countP_pos_iff.2 ⟨r, hr, by simp [hn]⟩
          rw [if_pos (decide_eq_true hx)] at h
          omega
      · simp only [hx, decide_false]
        rcases List.mem_cons.1 hr with rfl | hr
        · exact absurd hn hx
        · exact ih (by simpa [hx] using h) hr
  rw [key l h hr]
end Iv

/- The records of all files and what is lost of each (chapter 15). No program in sight. -/
namespace Iv
def fileAt (fs : List Bytes) (t : Nat) : Bytes := (fs[t]?).getD []
def recsOf (t : Nat) (b : Bytes) : List Rec := (blocksAll t b 0 (-1)).flatMap fun p => p.1.recs
def recsTo (fs : List Bytes) (k : Nat) : List Rec := (List.range k).flatMap fun t => recsOf t (fileAt fs t)
def lostOf (fs : List Bytes) (t : Nat) : Int := ((fileAt fs t).length : Int) - (sizeB (blocksAll t (fileAt fs t) 0 (-1)) : Int)
def lostTo (fs : List Bytes) (k : Nat) : List Int := (List.range k).map (lostOf fs)
theorem recsTo_succ (fs : List Bytes) (k : Nat) : recsTo fs (k + 1) = recsTo fs k ++ recsOf k (fileAt fs k) := by
  unfold recsTo
  rw [List.range_succ, List.flatMap_append]
  simp
theorem lostTo_succ (fs : List Bytes) (k : Nat) : lostTo fs (k + 1) = lostTo fs k ++ [lostOf fs k] := by
  unfold lostTo
  rw [List.range_succ, List.map_append]
  rfl
theorem blocks_nil (th : Int) : blocksAll th [] 0 (-1) = [] := by
  apply blocksAll_bad
  unfold goodB
  have : (Iv.decode []).2.2 ≠ 0 := by decide +kernel
  simp [this]
theorem fileAt_none {fs : List Bytes} {t : Nat} (h : fs.length ≤ t) : fileAt fs t = [] := by
  unfold fileAt
  rw [List.getElem?_eq_none h]
  rfl
theorem recsOf_none {fs : List Bytes} {t : Nat} (h : fs.length ≤ t) : recsOf t (fileAt fs t) = [] := by
  rw [fileAt_none h]
  unfold recsOf
  rw [blocks_nil]
  rfl
theorem lostOf_none {fs : List Bytes} {t : Nat} (h : fs.length ≤ t) : lostOf fs t = 0 := by
  unfold lostOf
  rw [fileAt_none h, blocks_nil]
  rfl
theorem recsTo_end {fs : List Bytes} {t k : Nat} (h : fs.length ≤ t) (hk : t ≤ k) : recsTo fs k = recsTo fs t := by
  induction k with
  | zero => rw [show t = 0 by omega]
  | succ k ih =>
    by_cases c : t = k + 1
    · rw [c]
    · rw [recsTo_succ, ih (by omega), recsOf_none (by omega), List.append_nil]
theorem lostTo_end {fs : List Bytes} {t k : Nat} (h : fs.length ≤ t) (hk : t ≤ k) : lostTo fs k = lostTo fs t ++ List.replicate (k - t) 0 := by
  induction k with
  | zero => rw [show t = 0 by omega]; simp
  | succ k ih =>
    by_cases c : t = k + 1
    · rw [c]; simp
    · rw [lostTo_succ, ih (by omega), lostOf_none (by omega), List.append_assoc, show k + 1 - t = (k - t) + 1 by omega, List.replicate_succ']
theorem lostTo_len (fs : List Bytes) (k : Nat) : (lostTo fs k).length = k := by unfold lostTo; simp
/-- The records of a file: in order, none below 0. -/
theorem recsOf_pos {t : Nat} {b : Bytes} {r : Rec} (h : r ∈ recsOf t b) : 0 ≤ r.seq := by
  have okp : ∀ (rs : List Rec) (th s : Int), -1 ≤ s → okRecs th s rs = true → (∀ r ∈ rs, s < r.seq) := by
    intro rs
    induction rs with
    | nil => intro th s _ _ r hr; cases hr
    | cons x l ih =>
      intro th s hs ho r hr
      unfold okRecs at ho
      simp only [Bool.and_eq_true, decide_eq_true_eq] at ho
      rcases List.mem_cons.1 hr with rfl | hr
      · exact ho.1.1.1.2
      · have h1 := ho.1.1.1.2
        have := ih th x.seq (by omega) ho.2 r hr
        omega
  unfold recsOf at h
  obtain ⟨p, hp, hr⟩ := List.mem_flatMap.1 h
  have hg : ∀ (f : Nat) (b : Bytes) (rc la : Int), p ∈ blocksOf t f b rc la → fits p.1 = 0 := by
    intro f
    induction f with
    | zero => intro b rc la h; simp [blocksOf] at h
    | succ f ih =>
      intro b rc la h
      unfold blocksOf at h
      split at h
      · rename_i hgood
        rcases List.mem_cons.1 h with h | h
        · rw [h]; exact (goodB_ok hgood).2.2.2
        · exact ih _ _ _ h
      · simp at h
  have hf := hg _ _ _ _ hp
  have := okp _ _ _ (by decide) (fits_zero hf).2.2.2.2.2.2 r hr
  omega
theorem recsTo_pos {fs : List Bytes} {k : Nat} {r : Rec} (h : r ∈ recsTo fs k) : 0 ≤ r.seq := by
  unfold recsTo at h
  obtain ⟨t, _, hr⟩ := List.mem_flatMap.1 h
  exact recsOf_pos hr
theorem blocksAll_size (th rc la : Int) (b : Bytes) : sizeB (blocksAll th b rc la) ≤ b.length := by
  have : ∀ (f : Nat) (b : Bytes) (rc la : Int), sizeB (blocksOf th f b rc la) ≤ b.length := by
    intro f
    induction f with
    | zero => intro b rc la; simp [blocksOf, sizeB]
    | succ f ih =>
      intro b rc la
      unfold blocksOf
      split
      · rename_i hg
        obtain ⟨_, h1, h2, _⟩ := goodB_ok hg
        have := ih (b.drop (Iv.decode b).2.1) (rc + (Iv.decode b).1.recs.length) (lastSeq (Iv.decode b).1 la)
        rw [List.length_drop] at this
        unfold sizeB at this ⊢
        simp only [List.map_cons, List.sum_cons]
        omega
      · simp [sizeB]
  exact this _ b rc la
theorem recsOf_len (t : Nat) (b : Bytes) : (recsOf t b).length ≤ 64 * b.length := by
  have : ∀ (f : Nat) (b : Bytes) (rc la : Int), ((blocksOf t f b rc la).flatMap fun p => p.1.recs).length ≤ 64 * b.length := by
    intro f
    induction f with
    | zero => intro b rc la; simp [blocksOf]
    | succ f ih =>
      intro b rc la
      unfold blocksOf
      split
      · rename_i hg
        obtain ⟨_, h1, h2, h3⟩ := goodB_ok hg
        have := ih (b.drop (Iv.decode b).2.1) (rc + (Iv.decode b).1.recs.length) (lastSeq (Iv.decode b).1 la)
        rw [List.length_drop] at this
        have h4 := (fits_zero h3).2.1
        simp only [List.flatMap_cons, List.length_append]
        omega
      · simp
  exact this _ b 0 (-1)
theorem recsTo_len (fs : List Bytes) (k : Nat) (h : ∀ f ∈ fs, f.length ≤ 3000) : (recsTo fs k).length ≤ 192000 * k := by
  induction k with
  | zero => simp [recsTo]
  | succ k ih =>
    rw [recsTo_succ, List.length_append]
    have h1 := recsOf_len k (fileAt fs k)
    have h2 : (fileAt fs k).length ≤ 3000 := by
      unfold fileAt
      cases hk : fs[k]? with
      | none => simp
      | some f => exact h f (List.mem_of_getElem? hk)
    omega
end Iv

/- The lists of the collected events are short. -/
namespace Iv
theorem recsOf_short {t : Nat} {b : Bytes} {r : Rec} (h : r ∈ recsOf t b) : r.ev.deps.length ≤ 400 ∧ r.ev.from_.length ≤ 400 := by
  unfold recsOf at h
  obtain ⟨p, hp, hr⟩ := List.mem_flatMap.1 h
  have hg : ∀ (f : Nat) (b : Bytes) (rc la : Int), p ∈ blocksOf t f b rc la → fits p.1 = 0 := by
    intro f
    induction f with
    | zero => intro b rc la h; simp [blocksOf] at h
    | succ f ih =>
      intro b rc la h
      unfold blocksOf at h
      split at h
      · rename_i hgood
        rcases List.mem_cons.1 h with h | h
        · rw [h]; exact (goodB_ok hgood).2.2.2
        · exact ih _ _ _ h
      · simp at h
  have hf := hg _ _ _ _ hp
  have := okRecs_thread _ _ _ (fits_zero hf).2.2.2.2.2.2 r hr
  exact ⟨this.2.1, this.2.2.1⟩
theorem recsTo_short {fs : List Bytes} {k : Nat} {r : Rec} (h : r ∈ recsTo fs k) : r.ev.deps.length ≤ 400 ∧ r.ev.from_.length ≤ 400 := by
  unfold recsTo at h
  obtain ⟨t, _, hr⟩ := List.mem_flatMap.1 h
  exact recsOf_short hr
theorem evAt_short {l : List Rec} (h : ∀ r ∈ l, r.ev.deps.length ≤ 400 ∧ r.ev.from_.length ≤ 400) (n : Int) : (evAt l n).deps.length ≤ 400 ∧ (evAt l n).from_.length ≤ 400 := by
  unfold evAt
  split
  · rename_i r hr
    exact h r (List.mem_of_find?_eq_some hr)
  · simp
theorem trEv_short {l : List Rec} (h : ∀ r ∈ l, r.ev.deps.length ≤ 400 ∧ r.ev.from_.length ≤ 400) (f : Nat) : ∀ n, ∀ e ∈ trEv l f n, e.deps.length ≤ 400 ∧ e.from_.length ≤ 400 := by
  induction f with
  | zero => intro n e he; simp [trEv] at he
  | succ f ih =>
    intro n e he
    unfold trEv at he
    split at he
    · rcases List.mem_cons.1 he with he | he
      · rw [he]; exact evAt_short h _
      · exact ih _ _ he
    · simp at he
theorem trAll_short (fs : List Bytes) (k : Nat) : ∀ e ∈ trAll (recsTo fs k), e.deps.length ≤ 400 ∧ e.from_.length ≤ 400 :=
  trEv_short (fun _ hr => recsTo_short hr) _ _
end Iv
