/- The plain law of chapter 12: what is packed, what is unpacked; one is undone by the other. No program in sight. -/
import Derived.Test.YtlofjhcjjcohfaaPvar
namespace Iv

/-- How far the bytes from i on stand at the distance d ahead, too: at most m of them. -/
def mlen (b : Bytes) (i d : Nat) : Nat → Nat
  | 0 => 0
  | m + 1 => if i + mlen b i d m < b.length ∧ b[i + mlen b i d m]? = b[i + mlen b i d m - d]? ∧ mlen b i d m = m then m + 1 else mlen b i d m

theorem mlen_le (b : Bytes) (i d m : Nat) : mlen b i d m ≤ m := by
  induction m with
  | zero => simp [mlen]
  | succ m ih => simp only [mlen]; split <;> omega

/-- A count that stopped at n: there the bytes differ, or the list or the room ends. -/
def Stops (b : Bytes) (i d m n : Nat) : Prop :=
  n ≤ m ∧ (∀ k, k < n → i + k < b.length ∧ b[i + k]? = b[i + k - d]?) ∧ (n = m ∨ ¬ (i + n < b.length ∧ b[i + n]? = b[i + n - d]?))

theorem mlen_stops (b : Bytes) (i d m : Nat) : Stops b i d m (mlen b i d m) := by
  induction m with
  | zero => exact ⟨Nat.le_refl _, fun k hk => by simp [mlen] at hk, .inl rfl⟩
  | succ m ih =>
    obtain ⟨h1, h2, h3⟩ := ih
    simp only [mlen]
    split
    · rename_i hc
      refine ⟨Nat.le_refl _, fun k hk => ?_, .inl rfl⟩
      by_cases hkm : k < mlen b i d m
      · exact h2 k hkm
      · have hk2 : k = mlen b i d m := by omega
        rw [hk2]; exact ⟨hc.1, hc.2.1⟩
    · rename_i hc
      refine ⟨by omega, h2, .inr fun hh => ?_⟩
      rcases h3 with h3 | h3
      · exact hc ⟨hh.1, hh.2, h3⟩
      · exact h3 hh
theorem Stops.unique {b : Bytes} {i d m n n' : Nat} (h : Stops b i d m n) (h' : Stops b i d m n') : n = n' := by
  rcases Nat.lt_trichotomy n n' with hlt | he | hlt
  · rcases h.2.2 with e | e
    · have := h'.1; omega
    · exact absurd (h'.2.1 n hlt) e
  · exact he
  · rcases h'.2.2 with e | e
    · have := h.1; omega
    · exact absurd (h.2.1 n' hlt) e
theorem stops_mlen {b : Bytes} {i d m n : Nat} (h : Stops b i d m n) : mlen b i d m = n := (mlen_stops b i d m).unique h

/-- The greatest length and the least distance, of the distances up to k. -/
def best (b : Bytes) (i : Nat) : Nat → Nat × Nat
  | 0 => (0, 0)
  | k + 1 => if (best b i k).1 < mlen b i (k + 1) 130 then (mlen b i (k + 1) 130, k + 1) else best b i k

def far (i : Nat) : Nat := min 255 i
def bestAt (b : Bytes) (i : Nat) : Nat × Nat := best b i (far i)

theorem best_le (b : Bytes) (i k : Nat) : (best b i k).1 ≤ 130 := by
  induction k with
  | zero => simp [best]
  | succ k ih =>
    simp only [best]
    split
    · exact mlen_le _ _ _ _
    · exact ih
theorem best_spec (b : Bytes) (i k : Nat) : (best b i k).1 = 0 ∨ (1 ≤ (best b i k).2 ∧ (best b i k).2 ≤ k ∧ (best b i k).1 = mlen b i (best b i k).2 130) := by
  induction k with
  | zero => exact .inl rfl
  | succ k ih =>
    simp only [best]
    split
    · exact .inr ⟨by simp, by simp, rfl⟩
    · rcases ih with h | h
      · exact .inl h
      · exact .inr ⟨h.1, by omega, h.2.2⟩
theorem mlen_end (b : Bytes) (i d : Nat) (h : i ≤ b.length) : i + mlen b i d 130 ≤ b.length := by
  obtain ⟨_, h2, _⟩ := mlen_stops b i d 130
  rcases Nat.eq_zero_or_pos (mlen b i d 130) with h0 | h0
  · omega
  · have := (h2 (mlen b i d 130 - 1) (by omega)).1
    omega
theorem best_end (b : Bytes) (i k : Nat) (h : i ≤ b.length) : i + (best b i k).1 ≤ b.length := by
  rcases best_spec b i k with h0 | h0
  · omega
  · rw [h0.2.2]; exact mlen_end b i _ h

/-- Once the greatest length that there can be is reached, further distances change nothing. -/
theorem best_stays (b : Bytes) (i k j : Nat) (hk : k ≤ j) (hi : i ≤ b.length) (h : min 130 (b.length - i) ≤ (best b i k).1) : best b i j = best b i k := by
  induction j with
  | zero => obtain rfl : k = 0 := by omega
            rfl
  | succ j ih =>
    by_cases e : k = j + 1
    · rw [e]
    · have := ih (by omega)
      simp only [best]
      rw [if_neg (by
        rw [this]
        have h1 := mlen_le b i (j + 1) 130
        have h2 := mlen_end b i (j + 1) hi
        omega)]
      exact this

/-- A literal item: the bytes from f to e. -/
def lit (b : Bytes) (f e : Nat) : Bytes := if f < e then UInt8.ofNat (e - f - 1) :: (b.take e).drop f else []

/-- The rest of the packed stream: bytes from f on are not written yet, bytes from i on not looked at. -/
def pk (b : Bytes) (f i : Nat) : Bytes :=
  if h : i < b.length then
    if 3 ≤ (bestAt b i).1 then lit b f i ++ (UInt8.ofNat ((bestAt b i).1 + 125) :: UInt8.ofNat (bestAt b i).2 :: pk b (i + (bestAt b i).1) (i + (bestAt b i).1))
    else if i + 1 - f = 128 then lit b f (i + 1) ++ pk b (i + 1) (i + 1)
    else pk b f (i + 1)
  else lit b f b.length
termination_by b.length - i
decreasing_by all_goals omega

def pack (b : Bytes) : Bytes := pk b 0 0

theorem pk_end {b : Bytes} {f i : Nat} (h : b.length ≤ i) : pk b f i = lit b f b.length := by rw [pk, dif_neg (by omega)]
theorem pk_copy {b : Bytes} {f i : Nat} (h : i < b.length) (h3 : 3 ≤ (bestAt b i).1) :
    pk b f i = lit b f i ++ (UInt8.ofNat ((bestAt b i).1 + 125) :: UInt8.ofNat (bestAt b i).2 :: pk b (i + (bestAt b i).1) (i + (bestAt b i).1)) := by
  rw [pk, dif_pos h, if_pos h3]
theorem pk_full {b : Bytes} {f i : Nat} (h : i < b.length) (h3 : (bestAt b i).1 < 3) (hf : i + 1 - f = 128) : pk b f i = lit b f (i + 1) ++ pk b (i + 1) (i + 1) := by
  rw [pk, dif_pos h, if_neg (by omega), if_pos hf]
theorem pk_step {b : Bytes} {f i : Nat} (h : i < b.length) (h3 : (bestAt b i).1 < 3) (hf : i + 1 - f ≠ 128) : pk b f i = pk b f (i + 1) := by
  rw [pk, dif_pos h, if_neg (by omega), if_neg hf]

/-- A copy item: n bytes that stand d ahead. -/
def copyOut (out : Bytes) (d : Nat) : Nat → Bytes
  | 0 => out
  | n + 1 => copyOut (out ++ [(out[out.length - d]?).getD 0]) d n

theorem copyOut_len (d n : Nat) : ∀ out : Bytes, (copyOut out d n).length = out.length + n := by
  induction n with
  | zero => intro out; rfl
  | succ n ih => intro out; rw [copyOut, ih]; simp; omega

/-- What is unpacked: the bytes, and the error's code (0: none, 2: too large, 9: truncated, 11: no encoding). -/
def unp (most : Int) (l : Bytes) (out : Bytes) : Bytes × Int :=
  match h : l with
  | [] => (out, 0)
  | x :: t =>
    if x.toNat < 128 then
      if t.length < x.toNat + 1 then ([], 9)
      else if most < (out.length : Int) + x.toNat + 1 then ([], 2)
      else unp most (t.drop (x.toNat + 1)) (out ++ t.take (x.toNat + 1))
    else match h2 : t with
      | [] => ([], 9)
      | d :: u =>
        if d.toNat = 0 ∨ out.length < d.toNat then ([], 11)
        else if most < (out.length : Int) + x.toNat - 125 then ([], 2)
        else unp most u (copyOut out d.toNat (x.toNat - 125))
termination_by l.length
decreasing_by
  · simp; omega
  · simp; omega

def unpack (l : Bytes) (most : Int) : Bytes × Int := unp most l []

section
variable {most : Int} {out : Bytes}
theorem unp_nil : unp most [] out = (out, 0) := by rw [unp]
theorem unp_lit {x : UInt8} {t : Bytes} (h : x.toNat < 128) : unp most (x :: t) out =
    if t.length < x.toNat + 1 then ([], 9) else if most < (out.length : Int) + x.toNat + 1 then ([], 2) else unp most (t.drop (x.toNat + 1)) (out ++ t.take (x.toNat + 1)) := by
  rw [unp.eq_def]
  dsimp only
  rw [if_pos h]
theorem unp_one {x : UInt8} (h : 128 ≤ x.toNat) : unp most [x] out = ([], 9) := by rw [unp, if_neg (by omega)]
theorem unp_copy {x d : UInt8} {u : Bytes} (h : 128 ≤ x.toNat) : unp most (x :: d :: u) out =
    if d.toNat = 0 ∨ out.length < d.toNat then ([], 11) else if most < (out.length : Int) + x.toNat - 125 then ([], 2) else unp most u (copyOut out d.toNat (x.toNat - 125)) := by
  rw [unp, if_neg (by omega)]
end

/-- There is never more than there is room for. -/
theorem unp_room {most : Int} (n : Nat) : ∀ (l out o : Bytes), l.length = n → unp most l out = (o, 0) → o = out ∨ (o.length : Int) ≤ most := by
  induction n using Nat.strongRecOn with
  | _ n ih =>
    intro l out o hn h
    match l with
    | [] =>
      rw [unp_nil] at h
      simp only [Prod.mk.injEq, and_true] at h
      exact .inl h.symm
    | x :: t =>
      by_cases hx : x.toNat < 128
      · rw [unp_lit hx] at h
        by_cases h1 : t.length < x.toNat + 1
        · rw [if_pos h1] at h; simp at h
        · rw [if_neg h1] at h
          by_cases h2 : most < (out.length : Int) + x.toNat + 1
          · rw [if_pos h2] at h; simp at h
          · rw [if_neg h2] at h
            rcases ih _ (by rw [← hn]; simp; omega) _ _ _ rfl h with h3 | h3
            · refine .inr ?_
              rw [h3, List.length_append, List.length_take]
              omega
            · exact .inr h3
      · match t with
        | [] => rw [unp_one (by omega)] at h; simp at h
        | d :: u =>
          rw [unp_copy (by omega)] at h
          by_cases h1 : d.toNat = 0 ∨ out.length < d.toNat
          · rw [if_pos h1] at h; simp at h
          · rw [if_neg h1] at h
            by_cases h2 : most < (out.length : Int) + x.toNat - 125
            · rw [if_pos h2] at h; simp at h
            · rw [if_neg h2] at h
              rcases ih _ (by rw [← hn]; simp; omega) _ _ _ rfl h with h3 | h3
              · refine .inr ?_
                rw [h3, copyOut_len]
                omega
              · exact .inr h3
theorem unpack_room {l o : Bytes} {most : Int} (h : unpack l most = (o, 0)) : o.length = 0 ∨ (o.length : Int) ≤ most := by
  rcases unp_room _ l [] o rfl h with h1 | h1
  · exact .inl (by rw [h1]; rfl)
  · exact .inr h1
/-- An error comes with no bytes. -/
theorem unp_err {most : Int} (n : Nat) : ∀ (l out : Bytes), l.length = n → (unp most l out).2 = 0 ∨ ∃ e : Int, (e = 2 ∨ e = 9 ∨ e = 11) ∧ unp most l out = ([], e) := by
  induction n using Nat.strongRecOn with
  | _ n ih =>
    intro l out hn
    match l with
    | [] => exact .inl (by rw [unp_nil])
    | x :: t =>
      by_cases hx : x.toNat < 128
      · rw [unp_lit hx]
        split
        · exact .inr ⟨9, .inr (.inl rfl), rfl⟩
        · split
          · exact .inr ⟨2, .inl rfl, rfl⟩
          · exact ih _ (by rw [← hn]; simp; omega) _ _ rfl
      · match t with
        | [] => exact .inr ⟨9, .inr (.inl rfl), unp_one (by omega)⟩
        | d :: u =>
          rw [unp_copy (by omega)]
          split
          · exact .inr ⟨11, .inr (.inr rfl), rfl⟩
          · split
            · exact .inr ⟨2, .inl rfl, rfl⟩
            · exact ih _ (by rw [← hn]; simp; omega) _ _ rfl
theorem unpack_err (l : Bytes) (most : Int) : (unpack l most).2 = 0 ∨ ∃ e : Int, (e = 2 ∨ e = 9 ∨ e = 11) ∧ unpack l most = ([], e) := unp_err _ l [] rfl

theorem take_drop_append (b : Bytes) {f e : Nat} (h : f ≤ e) : b.take f ++ (b.take e).drop f = b.take e := by
  rw [List.drop_take]
  have : b.take e = b.take f ++ (b.drop f).take (e - f) := by
    rw [← List.take_add, Nat.add_sub_cancel' h]
  rw [this]

/-- A literal item is undone. -/
theorem unp_lit_item {most : Int} {b pre rest : Bytes} {f e : Nat} (hf : f ≤ e) (he : e ≤ b.length) (h128 : e - f ≤ 128) (hm : (pre.length : Int) + e ≤ most) :
    unp most (lit b f e ++ rest) (pre ++ b.take f) = unp most rest (pre ++ b.take e) := by
  unfold lit
  by_cases hlt : f < e
  · rw [if_pos hlt, List.cons_append]
    have hn : (UInt8.ofNat (e - f - 1)).toNat = e - f - 1 := ofNat_toNat_lt (by omega)
    have hl : ((b.take e).drop f).length = e - f := by simp; omega
    rw [unp_lit (by omega), hn, if_neg (by rw [List.length_append, hl]; omega), if_neg (by
      rw [List.length_append, List.length_take]; omega)]
    have e1 : e - f - 1 + 1 = ((b.take e).drop f).length := by rw [hl]; omega
    rw [e1, List.drop_left, List.take_left, List.append_assoc, take_drop_append b hf]
  · rw [if_neg hlt, show e = f from by omega]
    rfl

/-- A copy from within the list continues it. -/
theorem copyOut_take (b pre : Bytes) (i d : Nat) (hd : 1 ≤ d) (hdi : d ≤ i) (n : Nat) : i + n ≤ b.length → (∀ k, k < n → b[i + k]? = b[i + k - d]?) →
    copyOut (pre ++ b.take i) d n = pre ++ b.take (i + n) := by
  induction n generalizing i with
  | zero => intro _ _; rfl
  | succ n ih =>
    intro hi h
    have hl : (pre ++ b.take i).length = pre.length + i := by simp; omega
    have hx : (pre ++ b.take i)[(pre ++ b.take i).length - d]? = b[i - d]? := by
      rw [hl, List.getElem?_append_right (by omega), List.getElem?_take, if_pos (by omega)]
      congr 1; omega
    have h0 := h 0 (by omega)
    simp only [Nat.add_zero] at h0
    have hbi : b[i]? = some b[i] := List.getElem?_eq_getElem (by omega)
    rw [copyOut, hx, ← h0, hbi]
    have : pre ++ b.take i ++ [(some b[i]).getD 0] = pre ++ b.take (i + 1) := by
      rw [List.append_assoc, Option.getD_some, List.take_succ_eq_append_getElem (by omega)]
    rw [this, ih (i + 1) (by omega) (by omega) (fun k hk => by have := h (k + 1) (by omega); rwa [show i + 1 + k = i + (k + 1) from by omega])]
    congr 2; omega

theorem bestAt_copy {b : Bytes} {i : Nat} (hi : i < b.length) (h3 : 3 ≤ (bestAt b i).1) :
    1 ≤ (bestAt b i).2 ∧ (bestAt b i).2 ≤ i ∧ (bestAt b i).2 ≤ 255 ∧ (bestAt b i).1 ≤ 130 ∧ i + (bestAt b i).1 ≤ b.length ∧
      ∀ k, k < (bestAt b i).1 → b[i + k]? = b[i + k - (bestAt b i).2]? := by
  unfold bestAt at h3 ⊢
  have hl := best_le b i (far i)
  have he := best_end b i (far i) (by omega)
  rcases best_spec b i (far i) with h | ⟨h1, h2, hm⟩
  · omega
  · have hf : far i ≤ i ∧ far i ≤ 255 := by unfold far; omega
    have hs := mlen_stops b i (best b i (far i)).2 130
    refine ⟨h1, by omega, by omega, hl, he, fun k hk => ?_⟩
    exact (hs.2.1 k (by omega)).2

/-- What is packed is undone, whatever stands ahead of it in the output, and whatever follows. -/
theorem unp_pk {most : Int} (b pre rest : Bytes) (hm : (pre.length : Int) + b.length ≤ most) (n : Nat) : ∀ (f i : Nat), b.length - i = n → f ≤ i → i ≤ b.length → i - f < 128 →
    unp most (pk b f i ++ rest) (pre ++ b.take f) = unp most rest (pre ++ b) := by
  induction n using Nat.strongRecOn with
  | _ n ih =>
    intro f i hn hf hi h128
    rcases Nat.lt_or_ge i b.length with hlt | hge
    · by_cases h3 : 3 ≤ (bestAt b i).1
      · obtain ⟨h1, h2, h255, h130, hend, hk⟩ := bestAt_copy hlt h3
        rw [pk_copy hlt h3, List.append_assoc, unp_lit_item hf (by omega) (by omega) (by omega)]
        have e1 : (UInt8.ofNat ((bestAt b i).1 + 125)).toNat = (bestAt b i).1 + 125 := ofNat_toNat_lt (by omega)
        have e2 : (UInt8.ofNat (bestAt b i).2).toNat = (bestAt b i).2 := ofNat_toNat_lt (by omega)
        have hlen : (pre ++ b.take i).length = pre.length + i := by simp; omega
        simp only [List.cons_append]
        rw [unp_copy (by omega), e1, e2, hlen, if_neg (by omega), if_neg (by omega), Nat.add_sub_cancel, copyOut_take b pre i _ h1 h2 _ hend hk]
        exact ih _ (by omega) _ _ rfl (by omega) (by omega) (by omega)
      · by_cases hf8 : i + 1 - f = 128
        · rw [pk_full hlt (by omega) hf8, List.append_assoc, unp_lit_item (by omega) (by omega) (by omega) (by omega)]
          exact ih _ (by omega) _ _ rfl (by omega) (by omega) (by omega)
        · rw [pk_step hlt (by omega) hf8]
          exact ih _ (by omega) f (i + 1) rfl (by omega) (by omega) (by omega)
    · rw [pk_end hge, unp_lit_item (by omega) (by omega) (by omega) (by omega), List.take_length]

theorem unpack_pack (b : Bytes) : unpack (pack b) b.length = (b, 0) := by
  have := unp_pk (most := b.length) b [] [] (by simp) _ 0 0 rfl (by omega) (by omega) (by omega)
  simp only [List.append_nil, List.nil_append, List.take_zero] at this
  rw [unpack, pack, this, unp_nil]

theorem unpack_join (a b : Bytes) : unpack (pack a ++ pack b) ((a.length + b.length : Nat) : Int) = (a ++ b, 0) := by
  have h1 := unp_pk (most := ((a.length + b.length : Nat) : Int)) a [] (pack b) (by simp; omega) _ 0 0 rfl (by omega) (by omega) (by omega)
  have h2 := unp_pk (most := ((a.length + b.length : Nat) : Int)) b a [] (by omega) _ 0 0 rfl (by omega) (by omega) (by omega)
  simp only [List.append_nil, List.nil_append, List.take_zero] at h1 h2
  rw [unpack, pack, h1]
  unfold pack
  rw [h2, unp_nil]

/-- One byte less is too little room. -/
theorem unp_pk_small {most : Int} (b rest : Bytes) (hm : (b.length : Int) - 1 = most) (n : Nat) : ∀ (f i : Nat), b.length - i = n → f ≤ i → i ≤ b.length → i - f < 128 → f < b.length →
    unp most (pk b f i ++ rest) (b.take f) = ([], 2) := by
  induction n using Nat.strongRecOn with
  | _ n ih =>
    intro f i hn hf hi h128 hfb
    have hlast : ∀ e, f < e → e = b.length → e - f ≤ 128 → ∀ r : Bytes, unp most (lit b f e ++ r) (b.take f) = ([], 2) := by
      intro e hfe he h8 r
      unfold lit
      rw [if_pos hfe, List.cons_append]
      have hx : (UInt8.ofNat (e - f - 1)).toNat = e - f - 1 := ofNat_toNat_lt (by omega)
      have hl : ((b.take e).drop f).length = e - f := by simp; omega
      rw [unp_lit (by omega), hx, if_neg (by rw [List.length_append, hl]; omega), if_pos (by rw [List.length_take]; omega)]
    have hmid : ∀ e, f ≤ e → e < b.length → e - f ≤ 128 → ∀ r : Bytes, unp most (lit b f e ++ r) (b.take f) = unp most r (b.take e) := by
      intro e hfe he h8 r
      have := unp_lit_item (most := most) (b := b) (pre := []) (rest := r) hfe (by omega) h8 (by simp; omega)
      simpa using this
    rcases Nat.lt_or_ge i b.length with hlt | hge
    · by_cases h3 : 3 ≤ (bestAt b i).1
      · obtain ⟨h1, h2, h255, h130, hend, hk⟩ := bestAt_copy hlt h3
        rw [pk_copy hlt h3, List.append_assoc, hmid i hf hlt (by omega)]
        have e1 : (UInt8.ofNat ((bestAt b i).1 + 125)).toNat = (bestAt b i).1 + 125 := ofNat_toNat_lt (by omega)
        have e2 : (UInt8.ofNat (bestAt b i).2).toNat = (bestAt b i).2 := ofNat_toNat_lt (by omega)
        have hlen : (b.take i).length = i := by simp; omega
        simp only [List.cons_append]
        rw [unp_copy (by omega), e1, e2, hlen, if_neg (by omega)]
        by_cases hfin : i + (bestAt b i).1 = b.length
        · rw [if_pos (by omega)]
        · rw [if_neg (by omega), Nat.add_sub_cancel]
          have := copyOut_take b [] i _ h1 h2 _ hend hk
          simp only [List.nil_append] at this
          rw [this]
          exact ih _ (by omega) _ _ rfl (by omega) (by omega) (by omega) (by omega)
      · by_cases hf8 : i + 1 - f = 128
        · rw [pk_full hlt (by omega) hf8, List.append_assoc]
          by_cases hfin : i + 1 = b.length
          · exact hlast _ (by omega) hfin (by omega) _
          · rw [hmid (i + 1) (by omega) (by omega) (by omega)]
            exact ih _ (by omega) _ _ rfl (by omega) (by omega) (by omega) (by omega)
        · rw [pk_step hlt (by omega) hf8]
          exact ih _ (by omega) f (i + 1) rfl (by omega) (by omega) (by omega) hfb
    · rw [pk_end hge]
      exact hlast _ hfb rfl (by omega) _

theorem unpack_small {b : Bytes} (h : 0 < b.length) : unpack (pack b) ((b.length : Int) - 1) = ([], 2) := by
  have := unp_pk_small (most := (b.length : Int) - 1) b [] rfl _ 0 0 rfl (by omega) (by omega) (by omega) h
  simpa [unpack, pack] using this

/-- A cut in front of the end. -/
theorem unp_cut {most : Int} (b : Bytes) (hm : (b.length : Int) ≤ most) (n : Nat) : ∀ (f i k : Nat), b.length - i = n → f ≤ i → i ≤ b.length → i - f < 128 → k < (pk b f i).length →
    unp most ((pk b f i).take k) (b.take f) = ([], 9) ∨ ∃ j, j < b.length ∧ unp most ((pk b f i).take k) (b.take f) = (b.take j, 0) := by
  induction n using Nat.strongRecOn with
  | _ n ih =>
    intro f i k hn hf hi h128 hk
    -- a cut inside a literal item
    have hin : ∀ e, f ≤ e → e ≤ b.length → e - f ≤ 128 → k < (lit b f e).length → ∀ r : Bytes,
        unp most ((lit b f e ++ r).take k) (b.take f) = ([], 9) ∨ ∃ j, j < b.length ∧ unp most ((lit b f e ++ r).take k) (b.take f) = (b.take j, 0) := by
      intro e hfe he h8 hkl r
      rw [List.take_append_of_le_length (by omega)]
      unfold lit at hkl ⊢
      by_cases hlt : f < e
      · rw [if_pos hlt] at hkl ⊢
        cases k with
        | zero => exact .inr ⟨f, by omega, by rw [List.take_zero, unp_nil]⟩
        | succ k =>
          have hx : (UInt8.ofNat (e - f - 1)).toNat = e - f - 1 := ofNat_toNat_lt (by omega)
          have hl : ((b.take e).drop f).length = e - f := by simp; omega
          rw [List.length_cons, hl] at hkl
          rw [List.take_succ_cons, unp_lit (by omega), hx, if_pos (by rw [List.length_take, hl]; omega)]
          exact .inl rfl
      · rw [if_neg hlt] at hkl; simp at hkl
    have hout : ∀ e, f ≤ e → e ≤ b.length → e - f ≤ 128 → (lit b f e).length ≤ k → ∀ r : Bytes,
        unp most ((lit b f e ++ r).take k) (b.take f) = unp most (r.take (k - (lit b f e).length)) (b.take e) := by
      intro e hfe he h8 hkl r
      rw [List.take_append, List.take_of_length_le hkl]
      have := unp_lit_item (most := most) (b := b) (pre := []) (rest := r.take (k - (lit b f e).length)) hfe he h8 (by simp; omega)
      simpa using this
    rcases Nat.lt_or_ge i b.length with hlt | hge
    · by_cases h3 : 3 ≤ (bestAt b i).1
      · obtain ⟨h1, h2, h255, h130, hend, hkk⟩ := bestAt_copy hlt h3
        rw [pk_copy hlt h3] at hk ⊢
        rcases Nat.lt_or_ge k (lit b f i).length with hkl | hkl
        · exact hin i hf (by omega) (by omega) hkl _
        · rw [hout i hf (by omega) (by omega) hkl]
          rw [List.length_append] at hk
          generalize hj : k - (lit b f i).length = j at *
          have hj2 : j < (UInt8.ofNat ((bestAt b i).1 + 125) :: UInt8.ofNat (bestAt b i).2 :: pk b (i + (bestAt b i).1) (i + (bestAt b i).1)).length := by omega
          have e1 : (UInt8.ofNat ((bestAt b i).1 + 125)).toNat = (bestAt b i).1 + 125 := ofNat_toNat_lt (by omega)
          have e2 : (UInt8.ofNat (bestAt b i).2).toNat = (bestAt b i).2 := ofNat_toNat_lt (by omega)
          have hlen : (b.take i).length = i := by simp; omega
          match j, hj2 with
          | 0, _ => exact .inr ⟨i, hlt, by rw [List.take_zero, unp_nil]⟩
          | 1, _ =>
            rw [List.take_succ_cons, List.take_zero, unp_one (by omega)]
            exact .inl rfl
          | j + 2, hj2 =>
            rw [List.take_succ_cons, List.take_succ_cons, unp_copy (by omega), e1, e2, hlen, if_neg (by omega), if_neg (by omega), Nat.add_sub_cancel]
            have := copyOut_take b [] i _ h1 h2 _ hend hkk
            simp only [List.nil_append] at this
            rw [this]
            exact ih _ (by omega) _ _ j rfl (by omega) (by omega) (by omega) (by simpa using hj2)
      · by_cases hf8 : i + 1 - f = 128
        · rw [pk_full hlt (by omega) hf8] at hk ⊢
          rcases Nat.lt_or_ge k (lit b f (i + 1)).length with hkl | hkl
          · exact hin _ (by omega) (by omega) (by omega) hkl _
          · rw [hout _ (by omega) (by omega) (by omega) hkl]
            rw [List.length_append] at hk
            exact ih _ (by omega) _ _ _ rfl (by omega) (by omega) (by omega) (by omega)
        · rw [pk_step hlt (by omega) hf8] at hk ⊢
          exact ih _ (by omega) f (i + 1) k rfl (by omega) (by omega) (by omega) hk
    · rw [pk_end hge] at hk ⊢
      have := hin b.length (by omega) (by omega) (by omega) hk []
      simpa using this

theorem unpack_cut {b : Bytes} {k : Nat} (hk : k < (pack b).length) : unpack ((pack b).take k) b.length = ([], 9) ∨ ∃ j, j < b.length ∧ unpack ((pack b).take k) b.length = (b.take j, 0) := by
  have := unp_cut (most := b.length) b (by omega) _ 0 0 k rfl (by omega) (by omega) (by omega) hk
  simpa [unpack, pack] using this

theorem pack_ne {b : Bytes} (h : 0 < b.length) : 0 < (pack b).length := by
  rcases Nat.eq_zero_or_pos (pack b).length with h0 | h0
  · have := unpack_pack b
    rw [List.eq_nil_of_length_eq_zero h0, unpack, unp_nil] at this
    have : b = [] := by simpa using this.symm
    subst this
    simp at h
  · exact h0

theorem lit_len (b : Bytes) {f e : Nat} (_hf : f ≤ e) (he : e ≤ b.length) : (lit b f e).length = if f < e then e - f + 1 else 0 := by
  unfold lit
  split
  · simp; omega
  · rfl

/-- Packing adds at most one byte to each 128 bytes that were begun. -/
theorem pk_bounded (b : Bytes) (n : Nat) : ∀ (f i : Nat), b.length - i = n → f ≤ i → i ≤ b.length → i - f < 128 → (pk b f i).length ≤ (b.length - f) + (b.length - f + 127) / 128 := by
  induction n using Nat.strongRecOn with
  | _ n ih =>
    intro f i hn hf hi h128
    rcases Nat.lt_or_ge i b.length with hlt | hge
    · by_cases h3 : 3 ≤ (bestAt b i).1
      · obtain ⟨h1, h2, h255, h130, hend, hkk⟩ := bestAt_copy hlt h3
        have := ih _ (by omega) (i + (bestAt b i).1) (i + (bestAt b i).1) rfl (by omega) (by omega) (by omega)
        rw [pk_copy hlt h3, List.length_append, lit_len b hf (by omega), List.length_cons, List.length_cons]
        split <;> omega
      · by_cases hf8 : i + 1 - f = 128
        · have := ih _ (by omega) (i + 1) (i + 1) rfl (by omega) (by omega) (by omega)
          rw [pk_full hlt (by omega) hf8, List.length_append, lit_len b (by omega) (by omega), if_pos (by omega)]
          omega
        · rw [pk_step hlt (by omega) hf8]
          exact ih _ (by omega) f (i + 1) rfl (by omega) (by omega) (by omega)
    · rw [pk_end hge, lit_len b (by omega) (by omega)]
      split <;> omega
theorem pack_bounded (b : Bytes) : (pack b).length ≤ b.length + (b.length + 127) / 128 := by
  have := pk_bounded b _ 0 0 rfl (by omega) (by omega) (by omega)
  simpa [pack] using this
end Iv
