/- The plain law of the collected trace (chapter 15): the events whose numbers follow each other from 0 on, each of which occurs once. No program in sight. -/
import Derived.Test.YtaiaoiochbpmfaaGreatPl
namespace Iv
def Asc (s : List Rec) : Prop := ∀ (i j : Nat) (x y : Rec), i < j → s[i]? = some x → s[j]? = some y → x.seq ≤ y.seq
end Iv

/- The records of all files and what is lost of each (chapter 15). No program in sight. -/
namespace Iv
end Iv

/- Plain laws of record (chapter 14): files grow, are cut, and hold the blocks of their thread. No program in sight. -/
namespace Iv
set_option linter.unusedVariables false
theorem recorded_plan {l : List Ev} {p q : Pln} (hc : q.cap = p.cap) (hf : q.flushes = p.flushes) : ∀ n, recorded l q n = recorded l p n := by
  intro n
  induction n with
  | zero => simp only [recorded, hf]
  | succ n ih => simp only [recorded, hc, hf, ih]
theorem write_pre (s : St) (t k : Nat) : ∃ y, (s.write t).file k = s.file k ++ y := by
  unfold St.write
  split
  · exact ⟨[], by simp⟩
  · by_cases hk : k = t
    · subst hk
      exact ⟨_, by simp only [upd_same]; rfl⟩
    · exact ⟨[], by simp [upd_other _ _ hk]⟩
theorem flush_pre (fs : List (Int × Int)) : ∀ (s : St) (n k : Nat), ∃ y, (s.flush n fs).file k = s.file k ++ y := by
  induction fs with
  | nil => intro s n k; exact ⟨[], by simp [St.flush]⟩
  | cons f fs ih =>
    intro s n k
    unfold St.flush
    obtain ⟨y, hy⟩ := ih (if f.1 = n then s.write f.2.toNat else s) n k
    split at hy
    · rename_i hf
      rw [if_pos hf]
      obtain ⟨z, hz⟩ := write_pre s f.2.toNat k
      exact ⟨z ++ y, by rw [hy, hz, List.append_assoc]⟩
    · rename_i hf
      rw [if_neg hf]
      exact ⟨y, hy⟩
theorem add_pre (s : St) (cap : Int) (n : Nat) (e : Ev) (k : Nat) : ∃ y, (s.add cap n e).file k = s.file k ++ y := by
  unfold St.add
  split
  · obtain ⟨y, hy⟩ := write_pre (s.push e.thread.toNat ⟨n, e⟩) e.thread.toNat k
    exact ⟨y, hy⟩
  · exact ⟨[], by simp [St.push]⟩
theorem recorded_pre (l : List Ev) (p : Pln) (n k : Nat) : ∃ y, (recorded l p (n + 1)).file k = (recorded l p n).file k ++ y := by
  cases h : l[n]? with
  | none => exact ⟨[], by simp [recorded, h]⟩
  | some e =>
    obtain ⟨y, hy⟩ := add_pre (recorded l p n) p.cap n e k
    obtain ⟨z, hz⟩ := flush_pre p.flushes ((recorded l p n).add p.cap n e) (n + 1) k
    exact ⟨y ++ z, by simp only [recorded, h]; rw [hz, hy, List.append_assoc]⟩
theorem filesOf_nocut {l : List Ev} {p : Pln} (hc : p.cuts = []) (t : Nat) : filesOf l p t = (recorded l p (lastN l p)).file t := by
  unfold filesOf
  rw [hc, List.length_nil, cutSt_zero]
theorem files_grow {l : List Ev} {p q : Pln} (h0 : 0 ≤ p.stop) (hc : p.cuts = []) (hq : q = ⟨p.cap, p.flushes, p.stop + 1, p.cuts⟩) (t : Nat) : ∃ y, filesOf l q t = filesOf l p t ++ y := by
  subst hq
  rw [filesOf_nocut hc, filesOf_nocut (p := ⟨p.cap, p.flushes, p.stop + 1, p.cuts⟩) hc]
  rw [recorded_plan (p := p) (q := ⟨p.cap, p.flushes, p.stop + 1, p.cuts⟩) rfl rfl]
  have : lastN l ⟨p.cap, p.flushes, p.stop + 1, p.cuts⟩ = lastN l p ∨ lastN l ⟨p.cap, p.flushes, p.stop + 1, p.cuts⟩ = lastN l p + 1 := by
    unfold lastN
    show min (p.stop + 1).toNat l.length = _ ∨ min (p.stop + 1).toNat l.length = _
    omega
  rcases this with h | h
  · rw [h]; exact ⟨[], by simp⟩
  · rw [h]; exact recorded_pre l p _ t
theorem files_cut (l : List Ev) (p : Pln) (t : Nat) : filesOf l p t = match p.cuts[t]? with | some x => cutFile (filesOf l ⟨p.cap, p.flushes, p.stop, []⟩ t) x | none => filesOf l ⟨p.cap, p.flushes, p.stop, []⟩ t := by
  rw [filesOf_nocut (p := ⟨p.cap, p.flushes, p.stop, []⟩) rfl, recorded_plan (p := p) (q := ⟨p.cap, p.flushes, p.stop, []⟩) rfl rfl]
  show (cutSt (recorded l p (lastN l p)) p.cuts p.cuts.length).file t = _
  unfold cutSt
  rw [List.take_length]
  rfl
def evsT (l : List Ev) (t : Int) : Nat → List Rec
  | 0 => []
  | n + 1 => evsT l t n ++ (match l[n]? with | some e => if e.thread = t then [⟨n, e⟩] else [] | none => [])
theorem evsT_succ (l : List Ev) (t : Int) (n : Nat) : evsT l t (n + 1) = evsT l t n ++ (match l[n]? with | some e => if e.thread = t then [⟨n, e⟩] else [] | none => []) := rfl
theorem evsT_mem {l : List Ev} {t : Int} : ∀ {n : Nat} {r : Rec}, r ∈ evsT l t n → ∃ k : Nat, k < n ∧ r.seq = k ∧ l[k]? = some r.ev ∧ r.ev.thread = t := by
  intro n
  induction n with
  | zero => intro r h; simp [evsT] at h
  | succ n ih =>
    intro r h
    rw [evsT_succ] at h
    rcases List.mem_append.1 h with h | h
    · obtain ⟨k, h1, h2⟩ := ih h
      exact ⟨k, by omega, h2⟩
    · cases he : l[n]? with
      | none => rw [he] at h; simp at h
      | some e =>
        rw [he] at h
        dsimp only at h
        split at h
        · rename_i ht
          simp only [List.mem_singleton] at h
          subst h
          exact ⟨n, by omega, rfl, he, ht⟩
        · simp at h
theorem evsT_asc (l : List Ev) (t : Int) : ∀ n, (evsT l t n).Pairwise (fun a b => a.seq < b.seq) := by
  intro n
  induction n with
  | zero => simp [evsT]
  | succ n ih =>
    rw [evsT_succ, List.pairwise_append]
    refine ⟨ih, ?_, fun a ha b hb => ?_⟩
    · cases he : l[n]? with
      | none => simp
      | some e => dsimp only; split <;> simp
    · obtain ⟨k, hk, h2, _⟩ := evsT_mem ha
      have hb2 : b.seq = n := by
        cases he : l[n]? with
        | none => rw [he] at hb; simp at hb
        | some e =>
          rw [he] at hb
          dsimp only at hb
          split at hb
          · simp only [List.mem_singleton] at hb; subst hb; rfl
          · simp at hb
      omega
def Chain (t : Int) : Int → Int → List Blk → Prop
  | _, _, [] => True
  | rc, la, b :: bs => (fits b = 0 ∧ b.thread = t ∧ b.first = rc ∧ (∀ r ∈ b.recs, RecOk r) ∧ ∀ r ∈ b.recs, la < r.seq) ∧ Chain t (rc + b.recs.length) (lastSeq b la) bs
def lastAll (la : Int) : List Blk → Int
  | [] => la
  | b :: bs => lastAll (lastSeq b la) bs
def recsB (bs : List Blk) : List Rec := bs.flatMap (·.recs)
def bytesB (bs : List Blk) : Bytes := bs.flatMap blkBytes
theorem lastSeq_lt {b : Blk} {la m : Int} (h : la < m) (hb : ∀ q ∈ b.recs, q.seq < m) : lastSeq b la < m := by
  unfold lastSeq
  split
  · rename_i r hr
    exact hb r (List.mem_of_getLast? hr)
  · exact h
theorem lastAll_lt {m : Int} : ∀ {bs : List Blk} {la : Int}, la < m → (∀ q ∈ recsB bs, q.seq < m) → lastAll la bs < m
  | [], la, h, _ => h
  | b :: bs, la, h, hb => lastAll_lt (bs := bs) (lastSeq_lt h (fun q hq => hb q (by unfold recsB; rw [List.flatMap_cons]; exact List.mem_append_left _ hq))) (fun q hq => hb q (by unfold recsB; rw [List.flatMap_cons]; exact List.mem_append_right _ hq))
theorem Chain.snoc {t : Int} {b : Blk} (hf : fits b = 0) (ht : b.thread = t) (hr : ∀ r ∈ b.recs, RecOk r) : ∀ {bs : List Blk} {rc la : Int}, Chain t rc la bs → b.first = rc + (recsB bs).length → (∀ r ∈ b.recs, lastAll la bs < r.seq) → Chain t rc la (bs ++ [b])
  | [], rc, la, _, h1, h2 => ⟨⟨hf, ht, by simpa [recsB] using h1, hr, h2⟩, trivial⟩
  | x :: bs, rc, la, h, h1, h2 => ⟨h.1, Chain.snoc hf ht hr h.2 (by rw [h1]; unfold recsB; rw [List.flatMap_cons, List.length_append]; omega) h2⟩
theorem decode_nil : (Iv.decode []).2.2 ≠ 0 := by decide +kernel
theorem blocks_nil2 (th rc la : Int) : blocksAll th [] rc la = [] := by
  apply blocksAll_bad
  unfold goodB
  simp [decode_nil]
theorem blocks_chain {t : Int} (rest : Bytes) : ∀ {bs : List Blk} {rc la : Int}, Chain t rc la bs → blocksAll t (bytesB bs ++ rest) rc la = bs.map (fun b => (b, (blkBytes b).length)) ++ blocksAll t rest (rc + (recsB bs).length) (lastAll la bs) := by
  intro bs
  induction bs with
  | nil => intro rc la h; simp [bytesB, recsB, lastAll]
  | cons b bs ih =>
    intro rc la h
    obtain ⟨⟨h1, h2, h3, h4, h5⟩, h6⟩ := h
    have hd := decode_encode h1 h4 (bytesB bs ++ rest)
    have hbb : bytesB (b :: bs) ++ rest = blkBytes b ++ (bytesB bs ++ rest) := by unfold bytesB; rw [List.flatMap_cons, List.append_assoc]
    have hlen : (recsB (b :: bs)).length = b.recs.length + (recsB bs).length := by unfold recsB; rw [List.flatMap_cons, List.length_append]
    rw [hbb, blocksAll_good (by
      rw [hd]
      unfold goodB
      have h0 := (fits_zero h1).1
      cases hq : b.recs with
      | nil => rw [hq] at h0; simp at h0
      | cons r rs =>
        have := h5 r (by rw [hq]; exact List.mem_cons_self ..)
        simp [h2, h3, this]), hd]
    dsimp only
    rw [List.drop_left, ih h6, List.map_cons, List.cons_append, hlen]
    congr 3
    omega
theorem blocks_file {t : Int} {bs : List Blk} (h : Chain t 0 (-1) bs) : blocksAll t (bytesB bs) 0 (-1) = bs.map (fun b => (b, (blkBytes b).length)) := by
  have := blocks_chain [] h
  rw [List.append_nil, blocks_nil2, List.append_nil] at this
  exact this
theorem sizeB_map (bs : List Blk) : sizeB (bs.map (fun b => (b, (blkBytes b).length))) = (bytesB bs).length := by
  induction bs with
  | nil => rfl
  | cons b bs ih =>
    unfold sizeB bytesB at *
    simp only [List.map_cons, List.sum_cons, List.flatMap_cons, List.length_append, ih]
structure FB (l : List Ev) (m n : Nat) (t : Nat) (b : List Rec) (f : Int) (x : Bytes) (bs : List Blk) : Prop where
  ch : Chain t 0 (-1) bs
  by_ : x = bytesB bs
  rs : recsB bs ++ b = evsT l t n
  fst : f = (recsB bs).length
  len : ∀ y ∈ bs, y.recs.length ≤ m
def FBs (l : List Ev) (m n thr : Nat) (s : St) : Prop := ∀ t, t < thr → ∃ bs, FB l m n t (s.buf t) (s.first t) (s.file t) bs
theorem FBs.none (l : List Ev) (m thr : Nat) : FBs l m 0 thr St.none := fun t _ => ⟨[], trivial, rfl, rfl, rfl, fun y hy => by simp at hy⟩
theorem recsB_snoc (bs : List Blk) (b : Blk) : recsB (bs ++ [b]) = recsB bs ++ b.recs := by unfold recsB; simp
theorem bytesB_snoc (bs : List Blk) (b : Blk) : bytesB (bs ++ [b]) = bytesB bs ++ blkBytes b := by unfold bytesB; simp
theorem FBs.write {l : List Ev} {m c n thr : Nat} {s : St} (h : FBs l m n thr s) (g : Good c n thr s) (hc : c ≤ 64) (hm : c ≤ m) (hn : n ≤ 400) (hthr : thr ≤ 4) (t : Nat) (ht : t < thr) : FBs l m n thr (s.write t) := by
  unfold St.write
  split
  · exact h
  · rename_i h0
    intro k hk
    by_cases hkt : k = t
    · subst hkt
      simp only [upd_same]
      obtain ⟨bs, q⟩ := h k hk
      have gt := g k hk
      have hf := gt.fits (by omega) hc hn (by omega)
      have he : (encode (blkOf s k)).1 = blkBytes (blkOf s k) := by
        unfold encode
        have : fits (blkOf s k) = 0 := hf
        rw [if_pos this]
      have hpw := evsT_asc l k n
      rw [← q.rs, List.pairwise_append] at hpw
      refine ⟨bs ++ [blkOf s k], q.ch.snoc hf rfl (recOk_fit gt.ok gt.fit) (by rw [Int.zero_add]; exact q.fst) (fun r hr => ?_), ?_, ?_, ?_, fun y hy => ?_⟩
      · refine lastAll_lt ?_ (fun q' hq => hpw.2.2 q' hq r hr)
        exact (okRecs_thread k _ _ gt.ok r hr).2.2.2
      · rw [bytesB_snoc, he, q.by_]
      · rw [recsB_snoc, List.append_nil]
        exact q.rs
      · rw [recsB_snoc, List.length_append, q.fst]
        show _ = (((recsB bs).length + (s.buf k).length : Nat) : Int)
        omega
      · rcases List.mem_append.1 hy with hy | hy
        · exact q.len y hy
        · simp only [List.mem_singleton] at hy
          subst hy
          have := gt.len
          show (s.buf k).length ≤ m
          omega
    · simp only [upd_other _ _ hkt]
      exact h k hk
theorem FBs.flush {l : List Ev} {m c n thr : Nat} (hc : c ≤ 64) (hm : c ≤ m) (hn : n ≤ 400) (hthr : thr ≤ 4) (fs : List (Int × Int)) : ∀ {s : St}, FBs l m n thr s → Good c n thr s → (∀ f ∈ fs, 0 ≤ f.2 ∧ f.2 < thr) → FBs l m n thr (s.flush n fs) := by
  induction fs with
  | nil => intro s h _ _; exact h
  | cons f fs ih =>
    intro s h g hf
    have h1 := hf f (List.mem_cons_self ..)
    unfold St.flush
    split
    · exact ih (h.write g hc hm hn hthr _ (by omega)) (g.write hc hn hthr _ (by omega)) (fun g hg => hf g (List.mem_cons_of_mem _ hg))
    · exact ih h g (fun g hg => hf g (List.mem_cons_of_mem _ hg))
theorem FBs.push {l : List Ev} {m n thr : Nat} {s : St} (h : FBs l m n thr s) {e : Ev} (hl : l[n]? = some e) (he : 0 ≤ e.thread) : FBs l m (n + 1) thr (s.push e.thread.toNat ⟨n, e⟩) := by
  intro t ht
  obtain ⟨bs, q⟩ := h t ht
  unfold St.push
  by_cases hk : t = e.thread.toNat
  · subst hk
    simp only [upd_same]
    refine ⟨bs, q.ch, q.by_, ?_, q.fst, q.len⟩
    rw [← List.append_assoc, q.rs]
    rw [evsT_succ, hl]
    dsimp only
    rw [if_pos (by omega)]
  · simp only [upd_other _ _ hk]
    refine ⟨bs, q.ch, q.by_, ?_, q.fst, q.len⟩
    rw [q.rs]
    rw [evsT_succ, hl]
    dsimp only
    rw [if_neg (by omega), List.append_nil]
theorem FBs.add {l : List Ev} {c n thr : Nat} {s : St} (h : FBs l (c + 1) n thr s) (g : Good c n thr s) {e : Ev} (hl : l[n]? = some e) (hc : c + 1 ≤ 64) (hn : n + 1 ≤ 400) (hthr : thr ≤ 4) (he : 0 ≤ e.thread) (ht : e.thread < thr) (hd : e.deps.length ≤ 400) (hf : e.from_.length ≤ 400) (hr : RecFit ⟨n, e⟩) : FBs l (c + 1) (n + 1) thr (s.add ((c + 1 : Nat) : Int) n e) := by
  have hp := h.push hl he
  unfold St.add
  split
  · exact hp.write (g.pushed he hd hf hr) hc (Nat.le_refl _) hn hthr _ (by omega)
  · exact hp
theorem PlanGood.files {l : List Ev} {thr : Nat} {p : Pln} {c : Nat} (h : PlanGood l thr p c) (hn : ∀ e ∈ l, RecFit ⟨0, e⟩) : ∀ n, n ≤ l.length → FBs l (c + 1) n thr (Iv.recorded l p n) := by
  intro n
  induction n with
  | zero => intro _; exact (FBs.none l (c + 1) thr).flush (c := c) (by have := h.c64; omega) (by omega) (by omega) h.thr4 _ (Good.none c thr) (fun f hf => (h.fl f hf).2)
  | succ n ih =>
    intro hl
    have h1 := ih (by omega)
    have g1 := h.recorded hn n (by omega)
    have hk : l[n]? = some l[n] := List.getElem?_eq_getElem hl
    rw [rec_next hk]
    have hm : l[n] ∈ l := List.getElem_mem hl
    obtain ⟨e1, e2, e3, e4⟩ := h.ev _ hm
    have h4 := h.len
    have h64 := h.c64
    have hfit : RecFit ⟨(n : Int), l[n]⟩ := (hn _ hm).seqOf ⟨by omega, by omega⟩
    have a1 := h1.add g1 hk h.c64 (by omega) h.thr4 e1 e2 e3 e4 hfit
    have a2 := g1.add (e := l[n]) h.c64 (by omega) h.thr4 e1 e2 e3 e4 hfit
    rw [← h.cap] at a1 a2
    exact a1.flush (c := c) (by omega) (by omega) (by omega) h.thr4 _ a2 (fun f hf => (h.fl f hf).2)
def OwnL (l : List Ev) (t : Int) : Nat → List Rec → Prop
  | _, [] => True
  | a, r :: R => (∃ q : Nat, r.seq = q ∧ a ≤ q ∧ (∀ i, a ≤ i → i < q → ∃ e, l[i]? = some e ∧ e.thread ≠ t) ∧ l[q]? = some r.ev ∧ r.ev.thread = t) ∧ OwnL l t (r.seq.toNat + 1) R
def endL : Nat → List Rec → Nat
  | a, [] => a
  | _, r :: R => endL (r.seq.toNat + 1) R
theorem ownL_app {l : List Ev} {t : Int} : ∀ {A B : List Rec} {a : Nat}, OwnL l t a (A ++ B) ↔ OwnL l t a A ∧ OwnL l t (endL a A) B
  | [], B, a => by simp [OwnL, endL]
  | r :: A, B, a => by
    have := ownL_app (l := l) (t := t) (A := A) (B := B) (a := r.seq.toNat + 1)
    simp only [List.cons_append, OwnL, endL, this]
    exact ⟨fun ⟨h1, h2, h3⟩ => ⟨⟨h1, h2⟩, h3⟩, fun ⟨⟨h1, h2⟩, h3⟩ => ⟨h1, h2, h3⟩⟩
theorem endL_app : ∀ (A B : List Rec) (a : Nat), endL a (A ++ B) = endL (endL a A) B
  | [], B, a => rfl
  | r :: A, B, a => endL_app A B _
theorem evsT_own {l : List Ev} {t : Int} : ∀ n, n ≤ l.length → OwnL l t 0 (evsT l t n) ∧ endL 0 (evsT l t n) ≤ n ∧ (∀ i, endL 0 (evsT l t n) ≤ i → i < n → ∃ e, l[i]? = some e ∧ e.thread ≠ t) := by
  intro n
  induction n with
  | zero => intro _; exact ⟨trivial, Nat.le_refl _, fun i _ h => by omega⟩
  | succ n ih =>
    intro hl
    obtain ⟨h1, h2, h3⟩ := ih (by omega)
    have hk : l[n]? = some l[n] := List.getElem?_eq_getElem hl
    rw [evsT_succ, hk]
    dsimp only
    by_cases ht : l[n].thread = t
    · rw [if_pos ht]
      refine ⟨ownL_app.2 ⟨h1, ⟨n, rfl, h2, h3, hk, ht⟩, trivial⟩, ?_, ?_⟩
      · rw [endL_app]
        show ((n : Int)).toNat + 1 ≤ n + 1
        omega
      · rw [endL_app]
        intro i hi hi2
        have : ((n : Int)).toNat + 1 ≤ i := hi
        omega
    · rw [if_neg ht, List.append_nil]
      refine ⟨h1, by omega, fun i hi hi2 => ?_⟩
      by_cases hin : i < n
      · exact h3 i hi hin
      · rw [show i = n by omega]
        exact ⟨_, hk, ht⟩
theorem PlanGood.own {l : List Ev} {thr : Nat} {p : Pln} {c : Nat} (h : PlanGood l thr p c) (hn : ∀ e ∈ l, RecFit ⟨0, e⟩) (hc : p.cuts = []) (t : Nat) (ht : t < thr) :
    ∃ bs : List Blk, blocksAll t (filesOf l p t) 0 (-1) = bs.map (fun b => (b, (blkBytes b).length)) ∧ sizeB (bs.map (fun b => (b, (blkBytes b).length))) = (filesOf l p t).length ∧ (∀ y ∈ bs, y.recs.length ≤ c + 1) ∧ OwnL l t 0 (recsB bs) := by
  have hN : lastN l p ≤ l.length := by unfold lastN; omega
  obtain ⟨bs, q⟩ := h.files hn _ hN t ht
  rw [filesOf_nocut hc]
  refine ⟨bs, by rw [q.by_]; exact blocks_file q.ch, by rw [sizeB_map, q.by_], q.len, ?_⟩
  have h1 := (evsT_own (l := l) (t := t) _ hN).1
  rw [← q.rs] at h1
  exact (ownL_app.1 h1).1
end Iv
