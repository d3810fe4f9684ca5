/- The plain law of the files of chapter 14: what is recorded, event by event, cut by cut. No program in sight. -/
import Derived.Test.YtlofjhcjjcohfaaPrec
namespace Iv

/-- What is recorded before round n. -/
def rec0 (l : List Ev) (p : Pln) : Nat → St
  | 0 => St.none
  | n + 1 => recorded l p n
def lastN (l : List Ev) (p : Pln) : Nat := min p.stop.toNat l.length
/-- The first k files are cut. -/
def cutSt (s : St) (cuts : List Int) (k : Nat) : St := ⟨s.buf, s.first, fun t => match (cuts.take k)[t]? with | some x => cutFile (s.file t) x | none => s.file t⟩
def filesOf (l : List Ev) (p : Pln) (t : Nat) : Bytes := (cutSt (recorded l p (lastN l p)) p.cuts p.cuts.length).file t

theorem rec_first (l : List Ev) (p : Pln) : recorded l p 0 = (rec0 l p 0).flush 0 p.flushes := rfl
theorem rec_next {l : List Ev} {p : Pln} {n : Nat} {e : Ev} (h : l[n]? = some e) : recorded l p (n + 1) = ((rec0 l p (n + 1)).add p.cap n e).flush (n + 1) p.flushes := by
  show (match l[n]? with | some e => ((recorded l p n).add p.cap n e).flush (n + 1) p.flushes | none => recorded l p n) = _
  rw [h]
  rfl
theorem cutSt_zero (s : St) (cuts : List Int) : cutSt s cuts 0 = s := by
  cases s
  simp [cutSt]
theorem cutSt_at (s : St) (cuts : List Int) (k : Nat) : (cutSt s cuts k).file k = s.file k := by
  unfold cutSt
  simp [List.getElem?_take]
theorem cutSt_next {s : St} {cuts : List Int} {k : Nat} {x : Int} (h : cuts[k]? = some x) : cutSt s cuts (k + 1) = ⟨(cutSt s cuts k).buf, (cutSt s cuts k).first, upd (cutSt s cuts k).file k (cutFile (s.file k) x)⟩ := by
  unfold cutSt
  congr 1
  funext t
  unfold upd
  simp only [List.getElem?_take]
  by_cases ht : t = k
  · subst ht
    simp [h]
  · rw [if_neg ht]
    by_cases h1 : t < k
    · rw [if_pos h1, if_pos (by omega)]
    · rw [if_neg h1, if_neg (by omega)]
theorem flush_cons (s : St) (n : Nat) (f : Int × Int) (fs : List (Int × Int)) : s.flush n (f :: fs) = (if f.1 = n then s.write f.2.toNat else s).flush n fs := rfl
theorem flush_drop {fs : List (Int × Int)} {k : Nat} {f : Int × Int} (h : fs[k]? = some f) (s : St) (n : Nat) : s.flush n (fs.drop k) = (if f.1 = n then s.write f.2.toNat else s).flush n (fs.drop (k + 1)) := by
  obtain ⟨hl, rfl⟩ := List.getElem?_eq_some_iff.1 h
  rw [List.drop_eq_getElem_cons hl, flush_cons]
theorem RecFit.seqOf {e : Ev} {n : Int} (h : RecFit ⟨0, e⟩) (hn : inI64 n) : RecFit ⟨n, e⟩ := ⟨hn, h.thread, h.kind, h.obj, h.value, h.site, h.deps, h.from_⟩

/-- What is recorded before the flushes of round n. -/
def recA (l : List Ev) (p : Pln) : Nat → St
  | 0 => St.none
  | n + 1 => match l[n]? with
    | some e => (recorded l p n).add p.cap n e
    | none => recorded l p n
theorem recA_next {l : List Ev} {p : Pln} {n : Nat} {e : Ev} (h : l[n]? = some e) : recA l p (n + 1) = (rec0 l p (n + 1)).add p.cap n e := by
  show (match l[n]? with | some e => (recorded l p n).add p.cap n e | none => recorded l p n) = _
  rw [h]
  rfl
theorem recA_flush {l : List Ev} {p : Pln} {n : Nat} (h : n ≤ l.length) : (recA l p n).flush n p.flushes = recorded l p n := by
  cases n with
  | zero => rfl
  | succ n =>
    have hk : l[n]? = some l[n] := List.getElem?_eq_getElem h
    rw [rec_next hk, recA_next hk]
/-- What a plan and events without an error are. -/
structure PlanGood (l : List Ev) (thr : Nat) (p : Pln) (c : Nat) : Prop where
  cap : p.cap = ((c + 1 : Nat) : Int)
  c64 : c + 1 ≤ 64
  thr1 : 1 ≤ thr
  thr4 : thr ≤ 4
  stop : 0 ≤ p.stop
  fl : ∀ f ∈ p.flushes, 0 ≤ f.1 ∧ 0 ≤ f.2 ∧ f.2 < thr
  cu : ∀ x ∈ p.cuts, 0 ≤ x
  cul : p.cuts.length ≤ thr
  len : l.length ≤ 400
  ev : ∀ e ∈ l, 0 ≤ e.thread ∧ e.thread < thr ∧ e.deps.length ≤ 400 ∧ e.from_.length ≤ 400
theorem planGood {l : List Ev} {thr : Int} {p : Pln} (h : filesErr l thr p = 0) : ∃ t c, thr = ((t : Nat) : Int) ∧ PlanGood l t p c := by
  unfold filesErr at h
  split at h
  · rename_i hp
    split at h
    · omega
    · rename_i h4
      split at h
      · rename_i hl
        unfold planOk planHead at hp
        simp only [Bool.and_eq_true, decide_eq_true_eq, List.all_eq_true] at hp hl
        obtain ⟨⟨⟨⟨⟨⟨⟨a1, a2⟩, a3⟩, a4⟩, a5⟩, a6⟩, a7⟩, a8⟩ := hp
        refine ⟨thr.toNat, (p.cap - 1).toNat, by omega, by omega, by omega, by omega, by omega, a5, fun f hf => ?_, fun x hx => ?_, by omega, by omega, fun e he => ?_⟩
        · have := a6 f hf
          unfold flushOk at this
          simp only [Bool.and_eq_true, decide_eq_true_eq] at this
          omega
        · exact a7 x hx
        · have := hl e he
          unfold evOk at this
          simp only [Bool.and_eq_true, decide_eq_true_eq] at this
          omega
      · omega
  · omega
theorem PlanGood.ok {l : List Ev} {thr : Nat} {p : Pln} {c : Nat} (h : PlanGood l thr p c) : filesErr l thr p = 0 := by
  have h1 := h.cap
  have h2 := h.c64
  have h3 := h.thr1
  have h4 := h.thr4
  have h5 := h.stop
  have h6 := h.cul
  have h7 := h.len
  unfold filesErr
  rw [if_pos, if_neg (by omega), if_pos]
  · rw [List.all_eq_true]
    intro e he
    have := h.ev e he
    unfold evOk
    simp only [Bool.and_eq_true, decide_eq_true_eq]
    omega
  · unfold planOk planHead
    simp only [Bool.and_eq_true, decide_eq_true_eq, List.all_eq_true]
    refine ⟨⟨⟨by omega, fun f hf => ?_⟩, fun x hx => h.cu x hx⟩, by omega⟩
    have := h.fl f hf
    unfold flushOk
    simp only [Bool.and_eq_true, decide_eq_true_eq]
    omega
theorem PlanGood.recorded {l : List Ev} {thr : Nat} {p : Pln} {c : Nat} (h : PlanGood l thr p c) (hn : ∀ e ∈ l, RecFit ⟨0, e⟩) : ∀ n, n ≤ l.length → Good c n thr (recorded l p n) := by
  intro n
  induction n with
  | zero => intro _; exact (Good.none c thr).flush (by have := h.c64; omega) (by omega) h.thr4 _ (fun f hf => (h.fl f hf).2)
  | succ n ih =>
    intro hl
    have h1 := ih (by omega)
    have hk : l[n]? = some l[n] := List.getElem?_eq_getElem hl
    rw [rec_next hk]
    have hm : l[n] ∈ l := List.getElem_mem hl
    obtain ⟨e1, e2, e3, e4⟩ := h.ev _ hm
    have h4 := h.len
    have := h1.add (e := l[n]) h.c64 (by omega) h.thr4 e1 e2 e3 e4 ((hn _ hm).seqOf ⟨by omega, by omega⟩)
    rw [← h.cap] at this
    exact this.flush (by have := h.c64; omega) (by omega) h.thr4 _ (fun f hf => (h.fl f hf).2)
theorem PlanGood.recA {l : List Ev} {thr : Nat} {p : Pln} {c : Nat} (h : PlanGood l thr p c) (hn : ∀ e ∈ l, RecFit ⟨0, e⟩) (n : Nat) (hl : n ≤ l.length) : Good c n thr (recA l p n) := by
  cases n with
  | zero => exact Good.none c thr
  | succ n =>
    have hk : l[n]? = some l[n] := List.getElem?_eq_getElem hl
    rw [recA_next hk]
    have hm : l[n] ∈ l := List.getElem_mem hl
    obtain ⟨e1, e2, e3, e4⟩ := h.ev _ hm
    have h4 := h.len
    have := (h.recorded hn n (by omega)).add (e := l[n]) h.c64 (by omega) h.thr4 e1 e2 e3 e4 ((hn _ hm).seqOf ⟨by omega, by omega⟩)
    rw [← h.cap] at this
    exact this
theorem PlanGood.before {l : List Ev} {thr : Nat} {p : Pln} {c : Nat} (h : PlanGood l thr p c) (hn : ∀ e ∈ l, RecFit ⟨0, e⟩) (n : Nat) (hl : n ≤ l.length + 1) : Good c (n - 1) thr (rec0 l p n) := by
  cases n with
  | zero => exact Good.none c thr
  | succ n => exact h.recorded hn n (by omega)
end Iv
