/- The plain law of the files of chapter 14: what is buffered can always be encoded. No program in sight. -/
import Derived.Test.YtlofjhcjjcohfaaPblk
namespace Iv
open Go.RowKit (wrap64)

/-- The numbers of a record fit. -/
structure RecFit (r : Rec) : Prop where
  seq : inI64 r.seq
  thread : inI64 r.ev.thread
  kind : inI64 r.ev.kind
  obj : inI64 r.ev.obj
  value : inI64 r.ev.value
  site : inI64 r.ev.site
  deps : allI64 r.ev.deps
  from_ : allI64 r.ev.from_

/-- A plan: capacity, flushes (after, thread), stop, cuts. -/
structure Pln where
  cap : Int
  flushes : List (Int × Int)
  stop : Int
  cuts : List Int
def flushOk (thr : Int) (f : Int × Int) : Bool := decide (0 ≤ f.1) && decide (0 ≤ f.2) && decide (f.2 < thr)
def planHead (thr : Int) (p : Pln) : Bool := decide (1 ≤ thr) && decide (thr ≤ 4) && decide (1 ≤ p.cap) && decide (p.cap ≤ 64) && decide (0 ≤ p.stop)
def planOk (thr : Int) (p : Pln) : Bool := planHead thr p && p.flushes.all (flushOk thr) && p.cuts.all (fun n => decide (0 ≤ n)) && decide ((p.cuts.length : Int) ≤ thr)
def evOk (thr : Int) (e : Ev) : Bool := decide (0 ≤ e.thread) && decide (e.thread < thr) && decide (e.deps.length ≤ 400) && decide (e.from_.length ≤ 400)
/-- The error of Files. -/
def filesErr (l : List Ev) (thr : Int) (p : Pln) : Int := if planOk thr p then (if 400 < l.length then 2 else if l.all (evOk thr) then 0 else 1) else 1

/-- What is recorded: buffers, numbers of written records, files, of each thread. -/
structure St where
  buf : Nat → List Rec
  first : Nat → Int
  file : Nat → Bytes
def upd {α : Type} (f : Nat → α) (t : Nat) (x : α) : Nat → α := fun k => if k = t then x else f k
theorem upd_same {α : Type} (f : Nat → α) (t : Nat) (x : α) : upd f t x t = x := by simp [upd]
theorem upd_other {α : Type} (f : Nat → α) {t k : Nat} (x : α) (h : k ≠ t) : upd f t x k = f k := by simp [upd, h]
def blkOf (s : St) (t : Nat) : Blk := ⟨t, s.first t, s.buf t⟩
def St.write (s : St) (t : Nat) : St :=
  if (s.buf t).length = 0 then s else ⟨upd s.buf t [], upd s.first t (s.first t + (s.buf t).length), upd s.file t (s.file t ++ (encode (blkOf s t)).1)⟩
def St.push (s : St) (t : Nat) (r : Rec) : St := ⟨upd s.buf t (s.buf t ++ [r]), s.first, s.file⟩
def St.add (s : St) (cap : Int) (seq : Nat) (e : Ev) : St :=
  if (((s.buf e.thread.toNat).length + 1 : Nat) : Int) = cap ∨ e.kind = 2 then (s.push e.thread.toNat ⟨seq, e⟩).write e.thread.toNat else s.push e.thread.toNat ⟨seq, e⟩
def St.flush (s : St) (n : Nat) : List (Int × Int) → St
  | [] => s
  | f :: fs => St.flush (if f.1 = n then s.write f.2.toNat else s) n fs
def St.none : St := ⟨fun _ => [], fun _ => 0, fun _ => []⟩
/-- What is recorded when n events are over. -/
def recorded (l : List Ev) (p : Pln) : Nat → St
  | 0 => St.none.flush 0 p.flushes
  | n + 1 => match l[n]? with
    | some e => ((recorded l p n).add p.cap n e).flush (n + 1) p.flushes
    | none => recorded l p n
/-- What a crash leaves of a file. -/
def cutFile (b : Bytes) (k : Int) : Bytes := b.take (b.length - k.toNat)

theorem okRecs_snoc {th : Int} (l : List Rec) : ∀ {seq : Int} {r : Rec}, okRecs th seq l = true → (∀ q ∈ l, q.seq < r.seq) → seq < r.seq → r.ev.thread = th → r.ev.deps.length ≤ 400 → r.ev.from_.length ≤ 400 → okRecs th seq (l ++ [r]) = true := by
  induction l with
  | nil =>
    intro seq r _ _ hs ht hd hf
    simp [okRecs, hs, ht, hd, hf]
  | cons a l ih =>
    intro seq r h hall hs ht hd hf
    simp only [okRecs, Bool.and_eq_true, List.cons_append] at h ⊢
    exact ⟨h.1, ih h.2 (fun q hq => hall q (List.mem_cons_of_mem _ hq)) (hall a (List.mem_cons_self ..)) ht hd hf⟩

/-- What holds of the buffer, the count and the file of a thread when n events are over. -/
structure GoodT (c n : Nat) (t : Nat) (b : List Rec) (f : Int) (x : Bytes) : Prop where
  ok : okRecs t (-1) b = true
  len : b.length ≤ c
  below : ∀ r ∈ b, r.seq < n
  fit : ∀ r ∈ b, RecFit r
  lo : 0 ≤ f
  hi : f + b.length ≤ n
  size : (x.length : Int) ≤ 10000 * f

theorem recOk_fit {thread seq : Int} {rs : List Rec} (h : okRecs thread seq rs = true) (hn : ∀ r ∈ rs, RecFit r) : ∀ r ∈ rs, RecOk r := by
  intro r hr
  have h1 := okRecs_thread thread rs seq h r hr
  have h2 := hn r hr
  exact ⟨h2.seq, h2.thread, h2.kind, h2.obj, h2.value, h2.site, h2.deps, h2.from_, h1.2.1, h1.2.2.1⟩
theorem GoodT.fits {c n t : Nat} {b : List Rec} {f : Int} {x : Bytes} (h : GoodT c n t b f x) (hb : 0 < b.length) (hc : c ≤ 64) (hn : n ≤ 400) (ht : t < 4) : fits ⟨t, f, b⟩ = 0 := by
  have h1 := h.ok
  have h2 := h.len
  have h3 := h.lo
  have h4 := h.hi
  unfold Iv.fits okBlk
  rw [if_neg (by show ¬ 64 < b.length; omega)]
  have : (decide (0 < b.length) && decide (0 ≤ (t : Int)) && decide ((t : Int) < 4) && decide (0 ≤ f) && decide (f ≤ 400) && okRecs t (-1) b) = true := by
    rw [h1]
    simp only [Bool.and_true, Bool.and_eq_true, decide_eq_true_eq]
    omega
  rw [if_pos this]
theorem blk_len {x : Blk} (hf : fits x = 0) (hr : ∀ r ∈ x.recs, RecOk r) : (blkBytes x).length ≤ 10000 * x.recs.length := by
  obtain ⟨z0, z1, z2, z3, z4, z5, z6⟩ := fits_zero hf
  have hpl := putRecs_len x.recs (-1) hr
  have hq := pack_bounded (putRecs (-1) x.recs)
  have q1 := putI_len (n := x.first) ⟨by omega, by omega⟩
  have q2 := putI_len (n := (x.recs.length : Int)) ⟨by omega, by omega⟩
  have q3 := putI_len (n := ((putRecs (-1) x.recs).length : Int)) ⟨by omega, by omega⟩
  have q4 := putI_len (n := ((pack (putRecs (-1) x.recs)).length : Int)) ⟨by omega, by omega⟩
  unfold blkBytes blkBody headBytes
  simp only [List.length_append, List.length_cons, sum4_len]
  omega
theorem GoodT.enc {c n t : Nat} {b : List Rec} {f : Int} {x : Bytes} (h : GoodT c n t b f x) (hb : 0 < b.length) (hc : c ≤ 64) (hn : n ≤ 400) (ht : t < 4) :
    (encode ⟨t, f, b⟩).2 = 0 ∧ (encode ⟨t, f, b⟩).1.length ≤ 10000 * b.length := by
  have hf := h.fits hb hc hn ht
  have : encode ⟨t, f, b⟩ = (blkBytes ⟨t, f, b⟩, 0) := by unfold encode; rw [if_pos hf]
  rw [this]
  exact ⟨rfl, blk_len hf (recOk_fit h.ok h.fit)⟩
/-- Written. -/
theorem GoodT.wrote {c n t : Nat} {b : List Rec} {f : Int} {x : Bytes} (h : GoodT c n t b f x) (hb : 0 < b.length) (hc : c ≤ 64) (hn : n ≤ 400) (ht : t < 4) (c' : Nat) : GoodT c' n t [] (f + b.length) (x ++ (encode ⟨t, f, b⟩).1) := by
  have h3 := h.lo
  have h4 := h.hi
  have h5 := h.size
  have h6 := (h.enc hb hc hn ht).2
  refine ⟨rfl, by simp, fun r hr => by simp at hr, fun r hr => by simp at hr, by omega, by simp; omega, ?_⟩
  rw [List.length_append]
  omega
/-- One event more. -/
theorem GoodT.pushed {c n t : Nat} {b : List Rec} {f : Int} {x : Bytes} (h : GoodT c n t b f x) {e : Ev} (he : e.thread = t) (hd : e.deps.length ≤ 400) (hf : e.from_.length ≤ 400) (hr : RecFit ⟨n, e⟩) : GoodT (c + 1) (n + 1) t (b ++ [⟨n, e⟩]) f x := by
  have h2 := h.len
  have h4 := h.hi
  refine ⟨okRecs_snoc b h.ok (fun q hq => h.below q hq) (by show (-1 : Int) < (n : Int); omega) he hd hf, by simp; omega, fun r hr' => ?_, fun r hr' => ?_, h.lo, by simp; omega, h.size⟩
  · rcases List.mem_append.1 hr' with h1 | h1
    · have := h.below r h1
      omega
    · simp only [List.mem_singleton] at h1
      subst h1
      show (n : Int) < ((n + 1 : Nat) : Int)
      omega
  · rcases List.mem_append.1 hr' with h1 | h1
    · exact h.fit r h1
    · simp only [List.mem_singleton] at h1
      subst h1
      exact hr
theorem GoodT.later {c n n' t : Nat} {b : List Rec} {f : Int} {x : Bytes} (h : GoodT c n t b f x) (hn : n ≤ n') : GoodT c n' t b f x :=
  ⟨h.ok, h.len, fun r hr => by have := h.below r hr; omega, h.fit, h.lo, by have := h.hi; omega, h.size⟩
theorem GoodT.wider {c c' n t : Nat} {b : List Rec} {f : Int} {x : Bytes} (h : GoodT c n t b f x) (hc : b.length ≤ c') : GoodT c' n t b f x := ⟨h.ok, hc, h.below, h.fit, h.lo, h.hi, h.size⟩

/-- All threads. -/
def Good (c n thr : Nat) (s : St) : Prop := ∀ t, t < thr → GoodT c n t (s.buf t) (s.first t) (s.file t)
theorem Good.none (c thr : Nat) : Good c 0 thr St.none := fun t _ => ⟨rfl, by simp [St.none], fun r hr => by simp [St.none] at hr, fun r hr => by simp [St.none] at hr, by simp [St.none], by simp [St.none], by simp [St.none]⟩
theorem Good.write {c n thr : Nat} {s : St} (h : Good c n thr s) (hc : c ≤ 64) (hn : n ≤ 400) (hthr : thr ≤ 4) (t : Nat) (ht : t < thr) : Good c n thr (s.write t) := by
  unfold St.write
  split
  · exact h
  · rename_i h0
    intro k hk
    by_cases hkt : k = t
    · subst hkt
      simp only [upd_same]
      exact (h k hk).wrote (by omega) hc hn (by omega) c
    · simp only [upd_other _ _ hkt]
      exact h k hk
theorem Good.flush {c n thr : Nat} (hc : c ≤ 64) (hn : n ≤ 400) (hthr : thr ≤ 4) (fs : List (Int × Int)) : ∀ {s : St}, Good c n thr s → (∀ f ∈ fs, 0 ≤ f.2 ∧ f.2 < thr) → Good c n thr (s.flush n fs) := by
  induction fs with
  | nil => intro s h _; exact h
  | cons f fs ih =>
    intro s h hf
    have h1 := hf f (List.mem_cons_self ..)
    unfold St.flush
    refine ih ?_ (fun g hg => hf g (List.mem_cons_of_mem _ hg))
    split
    · exact h.write hc hn hthr _ (by omega)
    · exact h
/-- The buffer of the thread is one longer, and all else is as it was. -/
theorem Good.push {c n thr : Nat} {s : St} (h : Good c n thr s) {e : Ev} (he : 0 ≤ e.thread) (hd : e.deps.length ≤ 400) (hf : e.from_.length ≤ 400) (hr : RecFit ⟨n, e⟩) :
    ∀ t, t < thr → GoodT (c + 1) (n + 1) t ((s.push e.thread.toNat ⟨n, e⟩).buf t) ((s.push e.thread.toNat ⟨n, e⟩).first t) ((s.push e.thread.toNat ⟨n, e⟩).file t) := by
  intro t htt
  unfold St.push
  by_cases hk : t = e.thread.toNat
  · subst hk
    simp only [upd_same]
    exact (h _ htt).pushed (by omega) hd hf hr
  · simp only [upd_other _ _ hk]
    exact ((h t htt).later (Nat.le_succ n)).wider (by have := (h t htt).len; omega)
theorem Good.pushed {c n thr : Nat} {s : St} (h : Good c n thr s) {e : Ev} (he : 0 ≤ e.thread) (hd : e.deps.length ≤ 400) (hf : e.from_.length ≤ 400) (hr : RecFit ⟨n, e⟩) : Good (c + 1) (n + 1) thr (s.push e.thread.toNat ⟨n, e⟩) := h.push he hd hf hr
theorem Good.add {c n thr : Nat} {s : St} (h : Good c n thr s) {e : Ev} (hc : c + 1 ≤ 64) (hn : n + 1 ≤ 400) (hthr : thr ≤ 4) (he : 0 ≤ e.thread) (ht : e.thread < thr) (hd : e.deps.length ≤ 400) (hf : e.from_.length ≤ 400) (hr : RecFit ⟨n, e⟩) : Good c (n + 1) thr (s.add ((c + 1 : Nat) : Int) n e) := by
  have hp := h.pushed he hd hf hr
  have htn : e.thread.toNat < thr := by omega
  unfold St.add
  split
  · have hw := hp.write hc hn hthr _ htn
    intro t htt
    refine (hw t htt).wider ?_
    unfold St.write
    have h0 : ¬ ((s.push e.thread.toNat ⟨n, e⟩).buf e.thread.toNat).length = 0 := by unfold St.push; simp [upd_same]
    rw [if_neg h0]
    by_cases hk : t = e.thread.toNat
    · subst hk
      simp [upd_same]
    · simp only [upd_other _ _ hk, St.push]
      exact (h t htt).len
  · rename_i hne
    intro t htt
    refine (hp t htt).wider ?_
    by_cases hk : t = e.thread.toNat
    · subst hk
      have h1 := (h _ htt).len
      unfold St.push
      simp only [upd_same, List.length_append, List.length_singleton]
      by_cases h2 : (s.buf e.thread.toNat).length = c
      · exact absurd (.inl (by rw [h2])) hne
      · omega
    · simp only [upd_other _ _ hk, St.push]
      exact (h t htt).len
end Iv
