/- The plain law of the blocks of chapter 13: what is encoded is decoded; the program's way of decoding and the reference's come to the same. No program in sight. -/
import Derived.Test.YtlofjhcjjcohfaaPev
import Derived.Test.YtlofjhcjjcohfaaPcrc
import Derived.Test.YtlofjhcjjcohfaaPpack
namespace Iv
open Go.RowKit (wrap64)

structure Blk where
  thread : Int
  first : Int
  recs : List Rec

def zeroBlk : Blk := ⟨0, 0, []⟩

/-- The records of a block, in order, of its thread; 'seq': the number of the one before. -/
def okRecs (thread : Int) : Int → List Rec → Bool
  | _, [] => true
  | seq, r :: t => decide (r.ev.thread = thread) && decide (seq < r.seq) && decide (r.ev.deps.length ≤ 400) && decide (r.ev.from_.length ≤ 400) && okRecs thread r.seq t
def okBlk (x : Blk) : Bool := decide (0 < x.recs.length) && decide (0 ≤ x.thread) && decide (x.thread < 4) && decide (0 ≤ x.first) && decide (x.first ≤ 400) && okRecs x.thread (-1) x.recs
/-- The error of a block. -/
def fits (x : Blk) : Int := if 64 < x.recs.length then 2 else if okBlk x then 0 else 1

/-- The payload. -/
def putRecs : Int → List Rec → Bytes
  | _, [] => []
  | seq, r :: t => putRec r seq ++ putRecs r.seq t

def sum4 (c : Nat) : Bytes := [UInt8.ofNat (c / 16777216), UInt8.ofNat (c / 65536), UInt8.ofNat (c / 256), UInt8.ofNat c]

def headBytes (thread first n size packed : Int) : Bytes := 84 :: UInt8.ofNat (thread % 256).toNat :: (putI first ++ (putI n ++ (putI size ++ putI packed)))
def blkBody (x : Blk) : Bytes :=
  headBytes x.thread x.first x.recs.length (putRecs (-1) x.recs).length (pack (putRecs (-1) x.recs)).length ++ pack (putRecs (-1) x.recs)
def blkBytes (x : Blk) : Bytes := blkBody x ++ sum4 (crc (blkBody x))

/-- What Encode returns. -/
def encode (x : Blk) : Bytes × Int := if fits x = 0 then (blkBytes x, 0) else ([], fits x)

/-- n records of a payload, and what is left; none: one cannot be read. -/
def getRecs (thread : Int) : Nat → Int → Bytes → Option (List Rec × Bytes)
  | 0, _, b => some ([], b)
  | n + 1, seq, b =>
    if (getRec b thread seq).2.2 = 0 then
      match getRecs thread n (getRec b thread seq).1.seq (b.drop (getRec b thread seq).2.1) with
      | some (l, t) => some ((getRec b thread seq).1 :: l, t)
      | none => none
    else none

/-- The four numbers of a head: the reader behind each. -/
structure Head where
  first : Int × Rd
  n : Int × Rd
  size : Int × Rd
  packed : Int × Rd
def getHead (b : Bytes) : Head :=
  let a0 := rdNum b ⟨2, 0⟩
  let a1 := rdNum b a0.2
  let a2 := rdNum b a1.2
  let a3 := rdNum b a2.2
  ⟨a0, a1, a2, a3⟩

def headBad (t : UInt8) (h : Head) : Bool :=
  decide (4 ≤ t.toNat) || decide (h.first.1 < 0) || decide (400 < h.first.1) || decide (h.n.1 < 1) || decide (64 < h.n.1) || decide (h.size.1 < 0) || decide (1048576 < h.size.1) || decide (h.packed.1 < 0) || decide (1048576 < h.packed.1)

/-- What is left to decide behind the checksum: the program's way. -/
def tailP (b : Bytes) (t : UInt8) (first : Int) (n : Nat) (size : Int) (from_ end_ : Nat) : Blk × Nat × Int :=
  let p := unpack ((b.take end_).drop from_) size
  if p.2 = 0 ∧ (p.1.length : Int) = size then
    match getRecs t.toNat n (-1) p.1 with
    | some (l, []) => if encode ⟨t.toNat, first, l⟩ = (b.take (end_ + 4), 0) then (⟨t.toNat, first, l⟩, end_ + 4, 0) else (zeroBlk, 0, 11)
    | _ => (zeroBlk, 0, 11)
  else (zeroBlk, 0, 11)
/-- The reference's way: the payload's length is not asked. -/
def tailR (b : Bytes) (t : UInt8) (first : Int) (n : Nat) (size : Int) (from_ end_ : Nat) : Blk × Nat × Int :=
  let p := unpack ((b.take end_).drop from_) size
  if p.2 = 0 then
    match getRecs t.toNat n (-1) p.1 with
    | some (l, []) => if encode ⟨t.toNat, first, l⟩ = (b.take (end_ + 4), 0) then (⟨t.toNat, first, l⟩, end_ + 4, 0) else (zeroBlk, 0, 11)
    | _ => (zeroBlk, 0, 11)
  else (zeroBlk, 0, 11)

/-- What Decode returns. -/
def decodeBy (tail : Bytes → UInt8 → Int → Nat → Int → Nat → Nat → Blk × Nat × Int) (b : Bytes) : Blk × Nat × Int :=
  match b with
  | [] => (zeroBlk, 0, 9)
  | x :: u =>
    if x.toNat ≠ 84 then (zeroBlk, 0, 11)
    else match u with
      | [] => (zeroBlk, 0, 9)
      | t :: _ =>
        if (getHead b).packed.2.err ≠ 0 then (zeroBlk, 0, (getHead b).packed.2.err)
        else if headBad t (getHead b) then (zeroBlk, 0, 11)
        else if b.length < (getHead b).packed.2.at_ + (getHead b).packed.1.toNat + 4 then (zeroBlk, 0, 9)
        else if (b.drop ((getHead b).packed.2.at_ + (getHead b).packed.1.toNat)).take 4 ≠ sum4 (crc (b.take ((getHead b).packed.2.at_ + (getHead b).packed.1.toNat))) then (zeroBlk, 0, 10)
        else tail b t (getHead b).first.1 (getHead b).n.1.toNat (getHead b).size.1 (getHead b).packed.2.at_ ((getHead b).packed.2.at_ + (getHead b).packed.1.toNat)
def decode (b : Bytes) : Blk × Nat × Int := decodeBy tailP b
def decodeR (b : Bytes) : Blk × Nat × Int := decodeBy tailR b

/-! ### Records read are records written -/
theorem getRecs_once (thread : Int) (ht : inI64 thread) (n : Nat) : ∀ (seq : Int) (b : Bytes) (l : List Rec) (t : Bytes), getRecs thread n seq b = some (l, t) →
    l.length = n ∧ b = putRecs seq l ++ t ∧ (∀ r ∈ l, RecOk r ∧ r.ev.thread = thread) := by
  induction n with
  | zero =>
    intro seq b l t h
    simp only [getRecs, Option.some.injEq, Prod.mk.injEq] at h
    obtain ⟨rfl, rfl⟩ := h
    exact ⟨rfl, rfl, fun r hr => by simp at hr⟩
  | succ n ih =>
    intro seq b l t h
    simp only [getRecs] at h
    by_cases he : (getRec b thread seq).2.2 = 0
    · rw [if_pos he] at h
      cases hg : getRecs thread n (getRec b thread seq).1.seq (b.drop (getRec b thread seq).2.1) with
      | none => rw [hg] at h; simp at h
      | some p =>
        obtain ⟨l', t'⟩ := p
        rw [hg] at h
        simp only [Option.some.injEq, Prod.mk.injEq] at h
        obtain ⟨rfl, rfl⟩ := h
        obtain ⟨i1, i2, i3⟩ := ih _ _ _ _ hg
        have := getRec_once (b := b) (thread := thread) (seq := seq) (r := (getRec b thread seq).1) (k := (getRec b thread seq).2.1) ht (by rw [← he])
        obtain ⟨r1, r2, r3, _, r5, r6⟩ := this
        refine ⟨by simp [i1], ?_, ?_⟩
        · simp only [putRecs, List.append_assoc]
          rw [← i2, ← r6, List.take_append_drop]
        · intro r hr
          rcases List.mem_cons.1 hr with rfl | hr
          · exact ⟨r1, r2⟩
          · exact i3 r hr
    · rw [if_neg he] at h
      simp at h

theorem getRecs_put (thread : Int) (l : List Rec) : ∀ (seq : Int) (rest : Bytes), (∀ r ∈ l, RecOk r ∧ r.ev.thread = thread) → getRecs thread l.length seq (putRecs seq l ++ rest) = some (l, rest) := by
  induction l with
  | nil => intro seq rest _; rfl
  | cons r t ih =>
    intro seq rest h
    have hr := h r (by simp)
    have hg : getRec (putRec r seq ++ (putRecs r.seq t ++ rest)) thread seq = (r, (putRec r seq).length, 0) := by rw [← hr.2]; exact getRec_put hr.1 seq _
    simp only [List.length_cons, getRecs, putRecs, List.append_assoc]
    rw [hg]
    simp only [if_true]
    rw [List.drop_left, ih r.seq rest fun q hq => h q (by simp [hq])]

/-! ### Heads -/
theorem getHead_put {b rest : Bytes} {t0 t1 : UInt8} {first n size packed : Int} (h1 : inI64 first) (h2 : inI64 n) (h3 : inI64 size) (h4 : inI64 packed)
    (hb : b = t0 :: t1 :: (putI first ++ (putI n ++ (putI size ++ putI packed))) ++ rest) :
    (getHead b).first.1 = first ∧ (getHead b).n.1 = n ∧ (getHead b).size.1 = size ∧
      (getHead b).packed = (packed, ⟨2 + ((putI first).length + ((putI n).length + ((putI size).length + (putI packed).length))), 0⟩) := by
  have hb0 : b.drop 2 = putI first ++ (putI n ++ (putI size ++ (putI packed ++ rest))) := by rw [hb]; simp
  have a0 := rdNum_put (s := ⟨2, 0⟩) h1 rfl hb0
  have hb1 := drop_next hb0
  have a1 := rdNum_put (s := ⟨_, 0⟩) h2 rfl hb1
  have hb2 := drop_next hb1
  have a2 := rdNum_put (s := ⟨_, 0⟩) h3 rfl hb2
  have hb3 := drop_next hb2
  have a3 := rdNum_put (s := ⟨_, 0⟩) h4 rfl hb3
  unfold getHead
  simp only [a0, a1, a2, a3]
  refine ⟨trivial, trivial, trivial, ?_⟩
  congr 2
  omega

/-- What a good head was made of. -/
theorem getHead_once {b : Bytes} (h : (getHead b).packed.2.err = 0) :
    inI64 (getHead b).first.1 ∧ inI64 (getHead b).n.1 ∧ inI64 (getHead b).size.1 ∧ inI64 (getHead b).packed.1 ∧
    Piece b 2 (putI (getHead b).first.1 ++ (putI (getHead b).n.1 ++ (putI (getHead b).size.1 ++ putI (getHead b).packed.1))) ∧
    (getHead b).packed.2.at_ = 2 + (putI (getHead b).first.1 ++ (putI (getHead b).n.1 ++ (putI (getHead b).size.1 ++ putI (getHead b).packed.1))).length := by
  unfold getHead at h ⊢
  dsimp only at h ⊢
  obtain ⟨n3, p3, q3⟩ := rdNum_piece h
  have h2 := rdNum_ok h
  obtain ⟨n2, p2, q2⟩ := rdNum_piece h2
  have h1 := rdNum_ok h2
  obtain ⟨n1, p1, q1⟩ := rdNum_piece h1
  have h0 := rdNum_ok h1
  obtain ⟨n0, p0, q0⟩ := rdNum_piece h0
  generalize rdNum b ⟨2, 0⟩ = S0 at *
  generalize rdNum b S0.2 = S1 at *
  generalize rdNum b S1.2 = S2 at *
  generalize rdNum b S2.2 = S3 at *
  refine ⟨n0, n1, n2, n3, ?_, ?_⟩
  · refine q0.cat ?_
    rw [p0] at q1 p1
    refine q1.cat ?_
    rw [p1] at q2 p2
    refine q2.cat ?_
    rw [p2] at q3
    exact q3
  · rw [p3, p2, p1, p0]
    simp only [List.length_append]
    omega

theorem headBad_false {t : UInt8} {h : Head} (hh : headBad t h = false) : t.toNat < 4 ∧ 0 ≤ h.first.1 ∧ h.first.1 ≤ 400 ∧ 1 ≤ h.n.1 ∧ h.n.1 ≤ 64 ∧ 0 ≤ h.size.1 ∧ h.size.1 ≤ 1048576 ∧ 0 ≤ h.packed.1 ∧ h.packed.1 ≤ 1048576 := by
  unfold headBad at hh
  simp only [Bool.or_eq_false_iff, decide_eq_false_iff_not] at hh
  omega

/-! ### The two ways come to the same -/
theorem sum4_len (c : Nat) : (sum4 c).length = 4 := rfl

theorem piece_all {b x : Bytes} (h : Piece b 0 x) : b.take x.length = x := by have := h.1; simpa using this

/-- If the bytes of an encoding stand at the head of b, b's head is that encoding's. -/
theorem head_of_encode {b : Bytes} {x : Blk} {k : Nat} (hf : inI64 x.first) (hn : x.recs.length ≤ 64) (hs : (putRecs (-1) x.recs).length ≤ 4611686018427387904) (hk : b.take k = blkBytes x) :
    (getHead b).size.1 = (putRecs (-1) x.recs).length := by
  have hp := pack_bounded (putRecs (-1) x.recs)
  have hb : b = 84 :: UInt8.ofNat (x.thread % 256).toNat :: (putI x.first ++ (putI x.recs.length ++ (putI (putRecs (-1) x.recs).length ++ putI (pack (putRecs (-1) x.recs)).length))) ++
      (pack (putRecs (-1) x.recs) ++ (sum4 (crc (blkBody x)) ++ b.drop k)) := by
    conv => lhs; rw [← List.take_append_drop k b, hk]
    unfold blkBytes blkBody headBytes
    simp only [List.append_assoc, List.cons_append]
  exact (getHead_put hf ⟨by omega, by omega⟩ ⟨by omega, by omega⟩ ⟨by omega, by omega⟩ hb).2.2.1

theorem encode_ok {x : Blk} {y : Bytes} (h : encode x = (y, 0)) : fits x = 0 ∧ y = blkBytes x := by
  unfold encode at h
  by_cases hf : fits x = 0
  · rw [if_pos hf] at h
    simp only [Prod.mk.injEq] at h
    exact ⟨hf, h.1.symm⟩
  · rw [if_neg hf] at h
    simp only [Prod.mk.injEq] at h
    exact absurd h.2 hf

theorem tails_same {b : Bytes} {t : UInt8} {first : Int} {n : Nat} {from_ end_ : Nat} (hf : inI64 first) (hsz : (getHead b).size.1 ≤ 1048576) :
    tailP b t first n (getHead b).size.1 from_ end_ = tailR b t first n (getHead b).size.1 from_ end_ := by
  unfold tailP tailR
  dsimp only
  generalize hp : unpack ((b.take end_).drop from_) (getHead b).size.1 = p
  by_cases h0 : p.2 = 0
  · by_cases hl : (p.1.length : Int) = (getHead b).size.1
    · rw [if_pos ⟨h0, hl⟩, if_pos h0]
    · rw [if_neg (fun h => hl h.2), if_pos h0]
      cases hg : getRecs t.toNat n (-1) p.1 with
      | none => rfl
      | some q =>
        obtain ⟨l, u⟩ := q
        cases u with
        | cons => rfl
        | nil =>
          dsimp only
          split
          · rename_i he
            obtain ⟨hfit, hy⟩ := encode_ok he
            have ht := byte_lt t
            obtain ⟨g1, g2, _⟩ := getRecs_once t.toNat ⟨by omega, by omega⟩ n _ _ _ _ hg
            have h64 : l.length ≤ 64 := by
              unfold fits at hfit
              by_cases hh : 64 < l.length
              · rw [if_pos (show 64 < (⟨t.toNat, first, l⟩ : Blk).recs.length from hh)] at hfit; simp at hfit
              · omega
            have hpl : p.1 = putRecs (-1) l := by simpa using g2
            have hbig : (putRecs (-1) l).length ≤ 4611686018427387904 := by
              have := unpack_room (l := (b.take end_).drop from_) (o := p.1) (most := (getHead b).size.1) (by rw [hp, ← h0])
              rw [← hpl]
              omega
            have := head_of_encode (b := b) (x := ⟨t.toNat, first, l⟩) (k := end_ + 4) hf h64 hbig hy
            exact absurd (by rw [hpl]; exact this.symm) hl
          · rfl
  · rw [if_neg (fun h => h0 h.1), if_neg h0]

theorem decode_same (b : Bytes) : decode b = decodeR b := by
  unfold decode decodeR decodeBy
  match b with
  | [] => rfl
  | x :: u =>
    dsimp only
    split
    · rfl
    · match u with
      | [] => rfl
      | t :: v =>
        dsimp only
        split
        · rfl
        · split
          · rfl
          · rename_i he hb
            have hbad := headBad_false (by simpa using hb)
            split
            · rfl
            · split
              · rfl
              · exact tails_same ⟨by omega, by omega⟩ (by omega)

/-! ### What is encoded is decoded -/
theorem okRecs_thread (thread : Int) (l : List Rec) : ∀ seq, okRecs thread seq l = true → ∀ r ∈ l, r.ev.thread = thread ∧ r.ev.deps.length ≤ 400 ∧ r.ev.from_.length ≤ 400 ∧ seq < r.seq := by
  induction l with
  | nil => intro seq _ r hr; simp at hr
  | cons q t ih =>
    intro seq h r hr
    simp only [okRecs, Bool.and_eq_true, decide_eq_true_eq] at h
    rcases List.mem_cons.1 hr with rfl | hr
    · exact ⟨h.1.1.1.1, h.1.1.2, h.1.2, h.1.1.1.2⟩
    · have := ih _ h.2 r hr
      exact ⟨this.1, this.2.1, this.2.2.1, by omega⟩

theorem fits_zero {x : Blk} (h : fits x = 0) : 0 < x.recs.length ∧ x.recs.length ≤ 64 ∧ 0 ≤ x.thread ∧ x.thread < 4 ∧ 0 ≤ x.first ∧ x.first ≤ 400 ∧ okRecs x.thread (-1) x.recs = true := by
  unfold fits at h
  by_cases h1 : 64 < x.recs.length
  · rw [if_pos h1] at h; simp at h
  · rw [if_neg h1] at h
    by_cases h2 : okBlk x = true
    · unfold okBlk at h2
      simp only [Bool.and_eq_true, decide_eq_true_eq] at h2
      obtain ⟨⟨⟨⟨⟨a, b⟩, c⟩, d⟩, e⟩, f⟩ := h2
      exact ⟨a, by omega, b, c, d, e, f⟩
    · rw [if_neg h2] at h; simp at h

theorem putRecs_len (l : List Rec) : ∀ seq, (∀ r ∈ l, RecOk r) → (putRecs seq l).length ≤ 8070 * l.length := by
  induction l with
  | nil => intro seq _; simp [putRecs]
  | cons r t ih =>
    intro seq h
    have h1 := putRec_len (h r (by simp)) seq
    have h2 := ih r.seq fun q hq => h q (by simp [hq])
    simp only [putRecs, List.length_append, List.length_cons]
    omega

theorem decode_encode {x : Blk} (h : fits x = 0) (hr : ∀ r ∈ x.recs, RecOk r) (more : Bytes) : decode (blkBytes x ++ more) = (x, (blkBytes x).length, 0) := by
  obtain ⟨h1, h2, h3, h4, h5, h6, h7⟩ := fits_zero h
  have hth := okRecs_thread x.thread x.recs (-1) h7
  have hpl := putRecs_len x.recs (-1) hr
  have hpb := pack_bounded (putRecs (-1) x.recs)
  generalize hpay : putRecs (-1) x.recs = pay at *
  have hb : blkBytes x ++ more = 84 :: UInt8.ofNat (x.thread % 256).toNat :: (putI x.first ++ (putI x.recs.length ++ (putI pay.length ++ putI (pack pay).length))) ++
      (pack pay ++ (sum4 (crc (blkBody x)) ++ more)) := by
    unfold blkBytes blkBody headBytes
    rw [hpay]
    simp only [List.append_assoc, List.cons_append]
  have hlb : (blkBody x).length = 2 + ((putI x.first).length + ((putI x.recs.length).length + ((putI pay.length).length + (putI (pack pay).length).length))) + (pack pay).length := by
    unfold blkBody headBytes
    rw [hpay]
    simp only [List.length_append, List.length_cons]
    omega
  obtain ⟨g1, g2, g3, g4⟩ := getHead_put (b := blkBytes x ++ more) ⟨by omega, by omega⟩ ⟨by omega, by omega⟩ ⟨by omega, by omega⟩ ⟨by omega, by omega⟩ hb
  have ht : (UInt8.ofNat (x.thread % 256).toNat).toNat = x.thread.toNat := by rw [ofNat_toNat_lt (by omega)]; omega
  have hbody : (blkBytes x ++ more).take (blkBody x).length = blkBody x := by
    unfold blkBytes
    rw [List.append_assoc, List.take_left]
  have hsum : ((blkBytes x ++ more).drop (blkBody x).length).take 4 = sum4 (crc (blkBody x)) := by
    unfold blkBytes
    rw [List.append_assoc, List.drop_left]
    exact List.take_left' (sum4_len _)
  have hwhole : (blkBytes x ++ more).take ((blkBody x).length + 4) = blkBytes x := List.take_left' (by unfold blkBytes; rw [List.length_append, sum4_len])
  unfold decode
  have hcases : decodeBy tailP (blkBytes x ++ more) = decodeBy tailP (84 :: UInt8.ofNat (x.thread % 256).toNat :: ((putI x.first ++ (putI x.recs.length ++ (putI pay.length ++ putI (pack pay).length))) ++ (pack pay ++ (sum4 (crc (blkBody x)) ++ more)))) := by
    rw [hb]; rfl
  rw [hcases]
  unfold decodeBy
  dsimp only
  have hb' : 84 :: UInt8.ofNat (x.thread % 256).toNat :: ((putI x.first ++ (putI x.recs.length ++ (putI pay.length ++ putI (pack pay).length))) ++ (pack pay ++ (sum4 (crc (blkBody x)) ++ more))) = blkBytes x ++ more := hb.symm
  rw [hb']
  rw [if_neg (by decide)]
  rw [g4]
  dsimp only
  rw [if_neg (by decide)]
  have hbad : headBad (UInt8.ofNat (x.thread % 256).toNat) (getHead (blkBytes x ++ more)) = false := by
    unfold headBad
    rw [g1, g2, g3, g4, ht]
    simp only [Bool.or_eq_false_iff, decide_eq_false_iff_not]
    omega
  rw [hbad]
  simp only [Bool.false_eq_true, if_false]
  rw [Int.toNat_natCast]
  rw [show 2 + ((putI x.first).length + ((putI x.recs.length).length + ((putI pay.length).length + (putI (pack pay).length).length))) + (pack pay).length = (blkBody x).length from hlb.symm]
  rw [if_neg (by unfold blkBytes; rw [List.length_append, List.length_append, sum4_len]; omega)]
  rw [hbody, hsum, if_neg (by simp)]
  rw [g1, g2, g3]
  unfold tailP
  dsimp only
  have hmid : ((blkBytes x ++ more).take (blkBody x).length).drop (2 + ((putI x.first).length + ((putI x.recs.length).length + ((putI pay.length).length + (putI (pack pay).length).length)))) = pack pay := by
    rw [hbody]
    unfold blkBody
    rw [hpay]
    refine List.drop_left' ?_
    unfold headBytes
    simp only [List.length_append, List.length_cons]
    omega
  rw [hmid, unpack_pack]
  dsimp only
  rw [if_pos ⟨rfl, rfl⟩]
  have ht2 : ((UInt8.ofNat (x.thread % 256).toNat).toNat : Int) = x.thread := by rw [ht]; omega
  rw [ht2]
  have hg := getRecs_put x.thread x.recs (-1) [] fun r hr' => ⟨hr r hr', (hth r hr').1⟩
  rw [List.append_nil, hpay] at hg
  rw [Int.toNat_natCast, hg]
  dsimp only
  rw [hwhole]
  have he : encode ⟨x.thread, x.first, x.recs⟩ = (blkBytes x, 0) := by
    unfold encode
    rw [if_pos (show fits ⟨x.thread, x.first, x.recs⟩ = 0 from h)]
  rw [if_pos he]
  have : (blkBody x).length + 4 = (blkBytes x).length := by unfold blkBytes; rw [List.length_append, sum4_len]
  rw [this]
end Iv
