/- The plain law of the records of chapter 11: what is appended is read again; one encoding a record; a cut is truncated. No program in sight. -/
import Derived.Test.YtlofjhcjjcohfaaPvar
import Derived.RowKit
namespace Iv
open Go.RowKit (wrap64)

theorem wrap64_i64 (n : Int) : inI64 (wrap64 n) := by
  unfold inI64 wrap64
  omega
theorem wrap64_of {n : Int} (h : inI64 n) : wrap64 n = n := by
  unfold inI64 at h
  unfold wrap64
  omega
theorem wrap64_sub_add (a b : Int) : wrap64 (b + wrap64 (a - b)) = wrap64 a := by
  unfold wrap64
  omega
theorem wrap64_add_sub {b d : Int} (h : inI64 d) : wrap64 (wrap64 (b + d) - b) = d := by
  unfold inI64 at h
  unfold wrap64
  omega

/-- An event: thread, kind, object, value, site, and the two lists. -/
structure Ev where
  thread : Int
  kind : Int
  obj : Int
  value : Int
  site : Int
  deps : List Int
  from_ : List Int

structure Rec where
  seq : Int
  ev : Ev

def allI64 (l : List Int) : Prop := ∀ n ∈ l, inI64 n

/-- The numbers of a list, each as its distance from the one before. -/
def putDeltas (last : Int) : List Int → Bytes
  | [] => []
  | k :: t => putI (wrap64 (k - last)) ++ putDeltas k t
def putL (l : List Int) : Bytes := putI l.length ++ putDeltas 0 l
def putRec (r : Rec) (seq : Int) : Bytes :=
  putI (wrap64 (r.seq - seq)) ++ (putI r.ev.kind ++ (putI r.ev.obj ++ (putI r.ev.value ++ (putI r.ev.site ++ (putL r.ev.deps ++ putL r.ev.from_)))))

/-- A reader: how many bytes are read, and the error (0: none). -/
structure Rd where
  at_ : Nat
  err : Int

def rdNum (b : Bytes) (s : Rd) : Int × Rd :=
  if s.err = 0 then
    if (getI (b.drop s.at_)).2.2 = 0 then ((getI (b.drop s.at_)).1, ⟨s.at_ + (getI (b.drop s.at_)).2.1, 0⟩) else (0, ⟨s.at_, (getI (b.drop s.at_)).2.2⟩)
  else (0, s)

/-- n rounds of the list's loop. -/
def rdItems (b : Bytes) : Nat → Int → Rd → List Int × Rd
  | 0, _, s => ([], s)
  | n + 1, last, s =>
    if s.err = 0 then
      (wrap64 (last + (rdNum b s).1) :: (rdItems b n (wrap64 (last + (rdNum b s).1)) (rdNum b s).2).1, (rdItems b n (wrap64 (last + (rdNum b s).1)) (rdNum b s).2).2)
    else ([], s)

/-- The reader behind the count: is the count in its bounds? -/
def rdCheck (p : Int × Rd) : Rd := if p.2.err = 0 ∧ (p.1 < 0 ∨ 400 < p.1) then ⟨p.2.at_, 11⟩ else p.2
def rdList (b : Bytes) (s : Rd) : List Int × Rd := rdItems b (rdNum b s).1.toNat 0 (rdCheck (rdNum b s))

structure RdAll where
  s0 : Int × Rd
  s1 : Int × Rd
  s2 : Int × Rd
  s3 : Int × Rd
  s4 : Int × Rd
  l5 : List Int × Rd
  l6 : List Int × Rd

def rdAll (b : Bytes) : RdAll :=
  let s0 := rdNum b ⟨0, 0⟩
  let s1 := rdNum b s0.2
  let s2 := rdNum b s1.2
  let s3 := rdNum b s2.2
  let s4 := rdNum b s3.2
  let l5 := rdList b s4.2
  let l6 := rdList b l5.2
  ⟨s0, s1, s2, s3, s4, l5, l6⟩

def zeroEv : Ev := ⟨0, 0, 0, 0, 0, [], []⟩
def zeroRec : Rec := ⟨0, zeroEv⟩

/-- What Read returns: the record, the size, the error. -/
def getRec (b : Bytes) (thread seq : Int) : Rec × Nat × Int :=
  let a := rdAll b
  if a.l6.2.err = 0 then (⟨wrap64 (seq + a.s0.1), ⟨thread, a.s1.1, a.s2.1, a.s3.1, a.s4.1, a.l5.1, a.l6.1⟩⟩, a.l6.2.at_, 0) else (zeroRec, 0, a.l6.2.err)

/-! ### One number -/
theorem rdNum_bad {b : Bytes} {s : Rd} (h : s.err ≠ 0) : rdNum b s = (0, s) := by unfold rdNum; rw [if_neg h]
theorem rdNum_put {b rest : Bytes} {s : Rd} {n : Int} (hn : inI64 n) (he : s.err = 0) (hb : b.drop s.at_ = putI n ++ rest) :
    rdNum b s = (n, ⟨s.at_ + (putI n).length, 0⟩) := by
  unfold rdNum
  rw [if_pos he, hb, getI_putI hn]
  rfl
theorem drop_next {b x rest : Bytes} {k : Nat} (h : b.drop k = x ++ rest) : b.drop (k + x.length) = rest := by
  rw [← List.drop_drop, h, List.drop_left]

theorem rdItems_bad {b : Bytes} {n : Nat} {last : Int} {s : Rd} (h : s.err ≠ 0) : rdItems b n last s = ([], s) := by
  cases n with
  | zero => rfl
  | succ n => rw [rdItems, if_neg h]
theorem rdList_bad {b : Bytes} {s : Rd} (h : s.err ≠ 0) : rdList b s = ([], s) := by
  unfold rdList rdCheck
  rw [rdNum_bad h]
  simp [rdItems]

/-! ### What was appended is read -/
theorem rdItems_put {b : Bytes} (l : List Int) : ∀ (last : Int) (s : Rd) (rest : Bytes), allI64 l → s.err = 0 → b.drop s.at_ = putDeltas last l ++ rest →
    rdItems b l.length last s = (l, ⟨s.at_ + (putDeltas last l).length, 0⟩) := by
  induction l with
  | nil =>
    intro last s rest _ he _
    have : s = ⟨s.at_, 0⟩ := by cases s; simp_all
    simp only [List.length_nil, rdItems, putDeltas, Nat.add_zero]
    rw [← this]
  | cons k t ih =>
    intro last s rest hl he hb
    simp only [putDeltas, List.append_assoc] at hb
    have h1 := rdNum_put (s := s) (wrap64_i64 (k - last)) he hb
    have hk : inI64 k := hl k (by simp)
    simp only [List.length_cons, rdItems]
    rw [if_pos he, h1]
    dsimp only
    rw [wrap64_sub_add, wrap64_of hk]
    rw [ih k ⟨s.at_ + (putI (wrap64 (k - last))).length, 0⟩ rest (fun n hn => hl n (by simp [hn])) rfl (drop_next hb)]
    simp only [putDeltas, List.length_append, Nat.add_assoc]

theorem rdList_put {b : Bytes} {l : List Int} {s : Rd} {rest : Bytes} (hl : allI64 l) (hlen : l.length ≤ 400) (he : s.err = 0) (hb : b.drop s.at_ = putL l ++ rest) :
    rdList b s = (l, ⟨s.at_ + (putL l).length, 0⟩) := by
  unfold putL at hb ⊢
  rw [List.append_assoc] at hb
  have h1 := rdNum_put (s := s) (n := (l.length : Int)) ⟨by omega, by omega⟩ he hb
  unfold rdList rdCheck
  rw [h1]
  dsimp only
  rw [if_neg (by omega), Int.toNat_natCast, rdItems_put l 0 ⟨s.at_ + (putI l.length).length, 0⟩ rest hl rfl (drop_next hb)]
  simp only [List.length_append, Nat.add_assoc]

structure RecOk (r : Rec) : Prop where
  seq : inI64 r.seq
  thread : inI64 r.ev.thread
  kind : inI64 r.ev.kind
  obj : inI64 r.ev.obj
  value : inI64 r.ev.value
  site : inI64 r.ev.site
  deps : allI64 r.ev.deps
  from_ : allI64 r.ev.from_
  ld : r.ev.deps.length ≤ 400
  lf : r.ev.from_.length ≤ 400

theorem rdAll_put {r : Rec} (h : RecOk r) (seq : Int) (more : Bytes) :
    (rdAll (putRec r seq ++ more)).s0.1 = wrap64 (r.seq - seq) ∧ (rdAll (putRec r seq ++ more)).s1.1 = r.ev.kind ∧ (rdAll (putRec r seq ++ more)).s2.1 = r.ev.obj ∧
    (rdAll (putRec r seq ++ more)).s3.1 = r.ev.value ∧ (rdAll (putRec r seq ++ more)).s4.1 = r.ev.site ∧ (rdAll (putRec r seq ++ more)).l5.1 = r.ev.deps ∧
    (rdAll (putRec r seq ++ more)).l6 = (r.ev.from_, ⟨(putRec r seq).length, 0⟩) := by
  generalize hb : putRec r seq ++ more = b
  have hb0 : b.drop 0 = _ := hb.symm
  simp only [putRec, List.append_assoc] at hb0
  have h0 := rdNum_put (s := ⟨0, 0⟩) (wrap64_i64 _) rfl hb0
  have hb1 := drop_next hb0
  have h1 := rdNum_put (s := ⟨_, 0⟩) h.kind rfl hb1
  have hb2 := drop_next hb1
  have h2 := rdNum_put (s := ⟨_, 0⟩) h.obj rfl hb2
  have hb3 := drop_next hb2
  have h3 := rdNum_put (s := ⟨_, 0⟩) h.value rfl hb3
  have hb4 := drop_next hb3
  have h4 := rdNum_put (s := ⟨_, 0⟩) h.site rfl hb4
  have hb5 := drop_next hb4
  have h5 := rdList_put (s := ⟨_, 0⟩) h.deps h.ld rfl hb5
  have hb6 := drop_next hb5
  have h6 := rdList_put (s := ⟨_, 0⟩) h.from_ h.lf rfl hb6
  unfold rdAll
  simp only [h0, h1, h2, h3, h4, h5, h6]
  refine ⟨trivial, trivial, trivial, trivial, trivial, trivial, ?_⟩
  congr 2
  simp only [putRec, List.length_append]
  omega

theorem getRec_put {r : Rec} (h : RecOk r) (seq : Int) (more : Bytes) : getRec (putRec r seq ++ more) r.ev.thread seq = (r, (putRec r seq).length, 0) := by
  obtain ⟨e0, e1, e2, e3, e4, e5, e6⟩ := rdAll_put h seq more
  unfold getRec
  simp only [e0, e1, e2, e3, e4, e5, e6]
  simp only [if_true]
  rw [wrap64_sub_add, wrap64_of h.seq]

/-! ### Errors stay -/
def errOk (e : Int) : Prop := e = 0 ∨ e = 9 ∨ e = 11
theorem rdNum_err (b : Bytes) (s : Rd) : (s.err ≠ 0 → (rdNum b s).2 = s) ∧ (errOk s.err → errOk (rdNum b s).2.err) := by
  constructor
  · intro h; rw [rdNum_bad h]
  · intro h
    unfold rdNum
    split
    · split
      · exact .inl rfl
      · rcases getI_err (b.drop s.at_) with h' | ⟨e, h1, h2⟩
        · contradiction
        · rw [h2]; exact .inr h1
    · exact h
theorem rdItems_errOk (b : Bytes) (n : Nat) : ∀ (last : Int) (s : Rd), errOk s.err → errOk (rdItems b n last s).2.err := by
  induction n with
  | zero => intro last s h; exact h
  | succ n ih =>
    intro last s h
    simp only [rdItems]
    split
    · exact ih _ _ ((rdNum_err b s).2 h)
    · exact h
theorem rdList_errOk (b : Bytes) (s : Rd) (h : errOk s.err) : errOk (rdList b s).2.err := by
  unfold rdList
  refine rdItems_errOk b _ _ _ ?_
  unfold rdCheck
  split
  · exact .inr (.inr rfl)
  · exact (rdNum_err b s).2 h
theorem rdAll_errOk (b : Bytes) : errOk (rdAll b).l6.2.err := by
  unfold rdAll
  dsimp only
  exact rdList_errOk b _ (rdList_errOk b _ ((rdNum_err b _).2 ((rdNum_err b _).2 ((rdNum_err b _).2 ((rdNum_err b _).2 ((rdNum_err b _).2 (.inl rfl)))))))

theorem rdNum_ok {b : Bytes} {s : Rd} (h : (rdNum b s).2.err = 0) : s.err = 0 := by
  by_cases h0 : s.err = 0
  · exact h0
  · rw [rdNum_bad h0] at h; exact h
theorem rdItems_ok {b : Bytes} {n : Nat} {last : Int} {s : Rd} (h : (rdItems b n last s).2.err = 0) : s.err = 0 := by
  by_cases h0 : s.err = 0
  · exact h0
  · rw [rdItems_bad h0] at h; exact h
theorem rdList_ok {b : Bytes} {s : Rd} (h : (rdList b s).2.err = 0) : s.err = 0 := by
  by_cases h0 : s.err = 0
  · exact h0
  · rw [rdList_bad h0] at h; exact h

/-! ### What is accepted is what is appended -/
theorem rdNum_once {b : Bytes} {s : Rd} (h : (rdNum b s).2.err = 0) : inI64 (rdNum b s).1 ∧ (rdNum b s).2 = ⟨s.at_ + (putI (rdNum b s).1).length, 0⟩ ∧
    (b.drop s.at_).take (putI (rdNum b s).1).length = putI (rdNum b s).1 ∧ (putI (rdNum b s).1).length ≤ (b.drop s.at_).length := by
  have h0 := rdNum_ok h
  unfold rdNum at h ⊢
  rw [if_pos h0] at h ⊢
  by_cases h1 : (getI (b.drop s.at_)).2.2 = 0
  · rw [if_pos h1]
    have := getI_once (l := b.drop s.at_) (n := (getI (b.drop s.at_)).1) (k := (getI (b.drop s.at_)).2.1) (by rw [← h1])
    obtain ⟨a1, a2, a3, a4, a5⟩ := this
    dsimp only
    rw [← a2]
    exact ⟨a1, rfl, a5, a4⟩
  · rw [if_neg h1] at h
    exact absurd h h1

theorem take_take_append {b x y : Bytes} {k : Nat} (h1 : (b.drop k).take x.length = x) (_hx : x.length ≤ (b.drop k).length) (h2 : (b.drop (k + x.length)).take y.length = y) :
    (b.drop k).take (x.length + y.length) = x ++ y := by
  rw [List.take_add, h1, List.drop_drop, h2]

/-- A piece of the bytes: it stands at k. -/
def Piece (b : Bytes) (k : Nat) (x : Bytes) : Prop := (b.drop k).take x.length = x ∧ x.length ≤ (b.drop k).length
theorem Piece.nil (b : Bytes) (k : Nat) : Piece b k [] := ⟨rfl, by simp⟩
theorem Piece.cat {b x y : Bytes} {k : Nat} (h : Piece b k x) (h' : Piece b (k + x.length) y) : Piece b k (x ++ y) := by
  refine ⟨?_, ?_⟩
  · rw [List.length_append]; exact take_take_append h.1 h.2 h'.1
  · have h1 := h.2
    have h2 := h'.2
    simp only [List.length_drop, List.length_append] at *
    omega

theorem rdNum_piece {b : Bytes} {s : Rd} (h : (rdNum b s).2.err = 0) : inI64 (rdNum b s).1 ∧ (rdNum b s).2 = ⟨s.at_ + (putI (rdNum b s).1).length, 0⟩ ∧ Piece b s.at_ (putI (rdNum b s).1) :=
  let ⟨a, c, d, e⟩ := rdNum_once h
  ⟨a, c, d, e⟩

theorem rdItems_once {b : Bytes} (n : Nat) : ∀ (last : Int) (s : Rd), (rdItems b n last s).2.err = 0 →
    allI64 (rdItems b n last s).1 ∧ (rdItems b n last s).1.length = n ∧ (rdItems b n last s).2 = ⟨s.at_ + (putDeltas last (rdItems b n last s).1).length, 0⟩ ∧ Piece b s.at_ (putDeltas last (rdItems b n last s).1) := by
  induction n with
  | zero =>
    intro last s h
    refine ⟨by intro k hk; simp [rdItems] at hk, rfl, ?_, Piece.nil b _⟩
    cases s
    simp only [rdItems] at h ⊢
    simp_all [putDeltas]
  | succ n ih =>
    intro last s h
    have h0 := rdItems_ok h
    simp only [rdItems] at h ⊢
    rw [if_pos h0] at h ⊢
    dsimp only at h ⊢
    have h1 := rdItems_ok h
    obtain ⟨i1, i2, i3, i4⟩ := ih _ _ h
    obtain ⟨n1, n2, n3⟩ := rdNum_piece h1
    have hd : wrap64 (wrap64 (last + (rdNum b s).1) - last) = (rdNum b s).1 := wrap64_add_sub n1
    refine ⟨?_, by rw [List.length_cons, i2], ?_, ?_⟩
    · intro k hk
      rcases List.mem_cons.1 hk with rfl | hk
      · exact wrap64_i64 _
      · exact i1 k hk
    · rw [i3]
      simp only [putDeltas, hd, List.length_append]
      rw [n2]
      dsimp only
      congr 1
      omega
    · simp only [putDeltas, hd]
      refine n3.cat ?_
      rw [n2] at i4 ⊢
      exact i4

theorem rdList_once {b : Bytes} {s : Rd} (h : (rdList b s).2.err = 0) : allI64 (rdList b s).1 ∧ (rdList b s).1.length ≤ 400 ∧
    (rdList b s).2 = ⟨s.at_ + (putL (rdList b s).1).length, 0⟩ ∧ Piece b s.at_ (putL (rdList b s).1) := by
  unfold rdList at h ⊢
  have h1 := rdItems_ok h
  have hc : ¬ ((rdNum b s).2.err = 0 ∧ ((rdNum b s).1 < 0 ∨ 400 < (rdNum b s).1)) := by
    intro hc
    unfold rdCheck at h1
    rw [if_pos hc] at h1
    simp at h1
  have he : rdCheck (rdNum b s) = (rdNum b s).2 := by unfold rdCheck; rw [if_neg hc]
  rw [he] at h h1 ⊢
  obtain ⟨n1, n2, n3⟩ := rdNum_piece h1
  obtain ⟨i1, i2, i3, i4⟩ := rdItems_once _ _ _ h
  have hn : ((rdNum b s).1.toNat : Int) = (rdNum b s).1 := by omega
  generalize hl : (rdItems b (rdNum b s).1.toNat 0 (rdNum b s).2) = l at *
  have hp : putL l.1 = putI (rdNum b s).1 ++ putDeltas 0 l.1 := by unfold putL; rw [i2, hn]
  refine ⟨i1, by omega, ?_, ?_⟩
  · rw [i3, hp, n2, List.length_append]
    dsimp only
    congr 1
    omega
  · rw [hp]
    refine n3.cat ?_
    rw [n2] at i4
    exact i4

theorem getRec_once {b : Bytes} {thread seq : Int} {r : Rec} {k : Nat} (ht : inI64 thread) (h : getRec b thread seq = (r, k, 0)) :
    RecOk r ∧ r.ev.thread = thread ∧ k = (putRec r seq).length ∧ 1 ≤ k ∧ k ≤ b.length ∧ b.take k = putRec r seq := by
  unfold getRec at h
  dsimp only at h
  by_cases he : (rdAll b).l6.2.err = 0
  · rw [if_pos he] at h
    simp only [Prod.mk.injEq] at h
    obtain ⟨hr, hk, _⟩ := h
    unfold rdAll at he hr hk
    dsimp only at he hr hk
    obtain ⟨f1, f2, f3, f4⟩ := rdList_once he
    have he5 := rdList_ok he
    obtain ⟨d1, d2, d3, d4⟩ := rdList_once he5
    have he4 := rdList_ok he5
    obtain ⟨g1, g2, g3⟩ := rdNum_piece he4
    have he3 := rdNum_ok he4
    obtain ⟨v1, v2, v3⟩ := rdNum_piece he3
    have he2 := rdNum_ok he3
    obtain ⟨o1, o2, o3⟩ := rdNum_piece he2
    have he1 := rdNum_ok he2
    obtain ⟨k1, k2, k3⟩ := rdNum_piece he1
    have he0 := rdNum_ok he1
    obtain ⟨q1, q2, q3⟩ := rdNum_piece he0
    generalize rdNum b ⟨0, 0⟩ = S0 at *
    generalize rdNum b S0.2 = S1 at *
    generalize rdNum b S1.2 = S2 at *
    generalize rdNum b S2.2 = S3 at *
    generalize rdNum b S3.2 = S4 at *
    generalize rdList b S4.2 = L5 at *
    generalize rdList b L5.2 = L6 at *
    have hp : Piece b 0 (putRec r seq) := by
      rw [← hr]
      unfold putRec
      dsimp only
      rw [wrap64_add_sub q1]
      refine q3.cat ?_
      rw [q2] at k3 k2
      refine k3.cat ?_
      rw [k2] at o3 o2
      refine o3.cat ?_
      rw [o2] at v3 v2
      refine v3.cat ?_
      rw [v2] at g3 g2
      refine g3.cat ?_
      rw [g2] at d4 d3
      refine d4.cat ?_
      rw [d3] at f4
      exact f4
    have hlen : k = (putRec r seq).length := by
      rw [← hk, f3, d3, g2, v2, o2, k2, q2, ← hr]
      unfold putRec
      dsimp only
      rw [wrap64_add_sub q1]
      simp only [List.length_append]
      omega
    have hpos : 1 ≤ (putRec r seq).length := by
      unfold putRec
      rw [List.length_append]
      have := putI_pos (wrap64 (r.seq - seq))
      omega
    refine ⟨?_, by rw [← hr], hlen, by omega, ?_, ?_⟩
    · rw [← hr]
      exact ⟨wrap64_i64 _, ht, k1, o1, v1, g1, d1, f1, d2, f2⟩
    · have := hp.2; simp at this; omega
    · rw [hlen]; have := hp.1; simpa using this
  · rw [if_neg he] at h
    simp only [Prod.mk.injEq] at h
    exact absurd h.2.2 he

/-- The cases of Read. -/
theorem getRec_cases (b : Bytes) (thread seq : Int) : (getRec b thread seq).2.2 = 0 ∨ ∃ e : Int, (e = 9 ∨ e = 11) ∧ getRec b thread seq = (zeroRec, 0, e) := by
  unfold getRec
  dsimp only
  split
  · exact .inl rfl
  · rename_i h
    rcases rdAll_errOk b with h' | h'
    · exact absurd h' h
    · exact .inr ⟨_, h', rfl⟩

/-! ### A cut record is truncated -/
/-- What is left is cut: the error says so, or the reader stands ahead of the cut. -/
def Cut (b : Bytes) (s : Rd) (rest : Bytes) : Prop := s.err = 9 ∨ (s.err = 0 ∧ ∃ j, j < rest.length ∧ b.drop s.at_ = rest.take j)

theorem rdNum_cut {b rest : Bytes} {s : Rd} {n : Int} (hn : inI64 n) (h : Cut b s (putI n ++ rest)) : Cut b (rdNum b s).2 rest ∧ ((rdNum b s).2.err = 0 → (rdNum b s).1 = n) := by
  rcases h with h | ⟨he, j, hj, hb⟩
  · rw [rdNum_bad (by rw [h]; decide)]
    exact ⟨.inl h, fun h0 => by rw [h] at h0; exact absurd h0 (by decide)⟩
  · rcases Nat.lt_or_ge j (putI n).length with hlt | hge
    · have h2 : b.drop s.at_ = (putI n).take j := by rw [hb, List.take_append_of_le_length (by omega)]
      have hz := getI_cut hn hlt
      unfold rdNum
      rw [if_pos he, h2, hz, if_neg (by decide)]
      exact ⟨.inl rfl, fun h0 => absurd (show (9 : Int) = 0 from h0) (by decide)⟩
    · have h2 : b.drop s.at_ = putI n ++ rest.take (j - (putI n).length) := by rw [hb, List.take_append, List.take_of_length_le hge]
      rw [rdNum_put hn he h2]
      rw [List.length_append] at hj
      exact ⟨.inr ⟨rfl, _, by omega, drop_next h2⟩, fun _ => rfl⟩

theorem rdItems_cut {b rest : Bytes} (l : List Int) : ∀ (last : Int) (s : Rd), allI64 l → Cut b s (putDeltas last l ++ rest) → Cut b (rdItems b l.length last s).2 rest := by
  induction l with
  | nil => intro last s _ h; exact h
  | cons k t ih =>
    intro last s hl h
    simp only [putDeltas, List.append_assoc] at h
    obtain ⟨h1, h2⟩ := rdNum_cut (wrap64_i64 _) h
    simp only [List.length_cons, rdItems]
    split
    · dsimp only
      have h1' := h1
      rcases h1' with h9 | ⟨h0, _⟩
      · rw [rdItems_bad (by rw [h9]; decide)]
        exact .inl h9
      · rw [h2 h0, wrap64_sub_add, wrap64_of (hl k (by simp))]
        exact ih _ _ (fun n hn => hl n (by simp [hn])) h1
    · rename_i he
      rcases h with h | ⟨h, _⟩
      · exact .inl h
      · exact absurd h he

theorem rdList_cut {b rest : Bytes} {l : List Int} {s : Rd} (hl : allI64 l) (hlen : l.length ≤ 400) (h : Cut b s (putL l ++ rest)) : Cut b (rdList b s).2 rest := by
  unfold putL at h
  rw [List.append_assoc] at h
  obtain ⟨h1, h2⟩ := rdNum_cut (n := (l.length : Int)) ⟨by omega, by omega⟩ h
  unfold rdList rdCheck
  rcases h1 with h9 | ⟨h0, h1⟩
  · rw [if_neg (by rw [h9]; intro hh; exact absurd hh.1 (by decide)), rdItems_bad (by rw [h9]; decide)]
    exact .inl h9
  · have hc := h2 h0
    rw [if_neg (by rw [hc]; omega), hc, Int.toNat_natCast]
    exact rdItems_cut l _ _ hl (.inr ⟨h0, h1⟩)

theorem getRec_cut {r : Rec} (h : RecOk r) (thread seq : Int) {k : Nat} (hk : k < (putRec r seq).length) : getRec ((putRec r seq).take k) thread seq = (zeroRec, 0, 9) := by
  generalize hb : (putRec r seq).take k = b
  have c0 : Cut b ⟨0, 0⟩ (putRec r seq) := .inr ⟨rfl, k, hk, hb.symm⟩
  unfold putRec at c0
  have c1 := (rdNum_cut (wrap64_i64 _) c0).1
  have c2 := (rdNum_cut h.kind c1).1
  have c3 := (rdNum_cut h.obj c2).1
  have c4 := (rdNum_cut h.value c3).1
  have c5 := (rdNum_cut h.site c4).1
  have c6 := rdList_cut h.deps h.ld c5
  have c7 : Cut b _ [] := rdList_cut (rest := []) h.from_ h.lf (by rw [List.append_nil]; exact c6)
  have h9 : (rdAll b).l6.2.err = 9 := by
    rcases c7 with h9 | ⟨_, j, hj, _⟩
    · exact h9
    · simp at hj
  unfold getRec
  dsimp only
  rw [h9, if_neg (by decide)]

theorem putRec_pos (r : Rec) (seq : Int) : 1 ≤ (putRec r seq).length := by
  unfold putRec
  rw [List.length_append]
  have := putI_pos (wrap64 (r.seq - seq))
  omega

/-! ### Lengths -/
theorem putDeltas_len (l : List Int) : ∀ last, (putDeltas last l).length ≤ 10 * l.length := by
  induction l with
  | nil => intro last; simp [putDeltas]
  | cons k t ih =>
    intro last
    have := ih k
    have := putI_len (wrap64_i64 (k - last))
    simp only [putDeltas, List.length_append, List.length_cons]
    omega
theorem putL_len (l : List Int) (h : l.length ≤ 400) : (putL l).length ≤ 4010 := by
  unfold putL
  have := putDeltas_len l 0
  have := putI_len (n := (l.length : Int)) ⟨by omega, by omega⟩
  simp only [List.length_append]
  omega
theorem putRec_len {r : Rec} (h : RecOk r) (seq : Int) : (putRec r seq).length ≤ 8070 := by
  unfold putRec
  have := putI_len (wrap64_i64 (r.seq - seq))
  have := putI_len h.kind
  have := putI_len h.obj
  have := putI_len h.value
  have := putI_len h.site
  have := putL_len _ h.ld
  have := putL_len _ h.lf
  simp only [List.length_append]
  omega
end Iv
