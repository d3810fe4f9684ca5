/- The plain arithmetic of the zigzag varints of chapter 11: what is written is read again; one encoding a number; a cut is truncated. No program in sight. -/
namespace Iv

abbrev Bytes := List UInt8

theorem byte_lt (b : UInt8) : b.toNat < 256 := UInt8.toNat_lt b
theorem ofNat_toNat_lt {n : Nat} (h : n < 256) : (UInt8.ofNat n).toNat = n := by
  simp [Nat.mod_eq_of_lt h]
theorem u8_eq {a b : UInt8} (h : a.toNat = b.toNat) : a = b := UInt8.toNat_inj.1 h
theorem ofNat_of_toNat (b : UInt8) : UInt8.ofNat b.toNat = b := by simp

/-- The number that stands for an integer. -/
def zig (n : Int) : Nat := if n < 0 then (-2 * n - 1).toNat else (2 * n).toNat
/-- The integer that a number stands for. -/
def zag (u : Nat) : Int := if u % 2 = 1 then -(u / 2 : Nat) - 1 else (u / 2 : Nat)

theorem zag_zig (n : Int) : zag (zig n) = n := by
  unfold zag zig
  split <;> split <;> omega
theorem zig_zag (u : Nat) : zig (zag u) = u := by
  unfold zag zig
  split <;> split <;> omega
theorem zig_lt {n : Int} (h1 : -9223372036854775808 ≤ n) (h2 : n ≤ 9223372036854775807) : zig n < 18446744073709551616 := by
  unfold zig
  split <;> omega
theorem zag_lo {u : Nat} (h : u < 18446744073709551616) : -9223372036854775808 ≤ zag u := by
  unfold zag
  split <;> omega
theorem zag_hi {u : Nat} (h : u < 18446744073709551616) : zag u ≤ 9223372036854775807 := by
  unfold zag
  split <;> omega

/-- The bytes of a number, seven bits each. -/
def vput (u : Nat) : Bytes := if u < 128 then [UInt8.ofNat u] else UInt8.ofNat (u % 128 + 128) :: vput (u / 128)
termination_by u
decreasing_by omega

theorem vput_lt {u : Nat} (h : u < 128) : vput u = [UInt8.ofNat u] := by rw [vput, if_pos h]
theorem vput_ge {u : Nat} (h : 128 ≤ u) : vput u = UInt8.ofNat (u % 128 + 128) :: vput (u / 128) := by rw [vput, if_neg (by omega)]

theorem vput_pos (u : Nat) : 1 ≤ (vput u).length := by
  rw [vput]
  split <;> simp

/-- How long a number is. -/
theorem vput_len (k : Nat) : ∀ u, (vput u).length ≤ k + 1 ↔ u < 128 ^ (k + 1) := by
  induction k with
  | zero =>
    intro u
    by_cases h : u < 128
    · simp [vput_lt h, h]
    · have := vput_pos (u / 128)
      rw [vput_ge (by omega)]
      simp
      constructor
      · intro h0; rw [h0] at this; simp at this
      · intro; omega
  | succ k ih =>
    intro u
    by_cases h : u < 128
    · have h1 : (vput u).length = 1 := by simp [vput_lt h]
      have h2 : (128 : Nat) ^ 1 ≤ 128 ^ (k + 1 + 1) := Nat.pow_le_pow_right (by omega) (by omega)
      constructor
      · intro; omega
      · intro; omega
    · rw [vput_ge (by omega)]
      have := ih (u / 128)
      have e : (128 : Nat) ^ (k + 1 + 1) = 128 ^ (k + 1) * 128 := Nat.pow_succ ..
      rw [List.length_cons, e, ← Nat.div_lt_iff_lt_mul (by omega : 0 < 128)]
      omega

theorem vput_len10 {u : Nat} (h : u < 18446744073709551616) : (vput u).length ≤ 10 := by
  refine (vput_len 9 u).2 ?_
  have : (128 : Nat) ^ (9 + 1) = 1180591620717411303424 := by decide
  omega

/-- What a reader gives: the integer, how many bytes it takes, the error's code (0: none, 9: truncated, 11: no encoding). -/
def vget : Bytes → Nat → Nat → Int × Nat × Int
  | [], _, _ => (0, 0, 9)
  | x :: t, i, acc =>
    if i = 9 ∧ 1 < x.toNat then (0, 0, 11)
    else if 128 ≤ x.toNat then vget t (i + 1) (acc + x.toNat % 128 * 128 ^ i)
    else if x.toNat = 0 ∧ 0 < i then (0, 0, 11)
    else (zag (acc + x.toNat * 128 ^ i), i + 1, 0)

theorem vget_nil (i acc : Nat) : vget [] i acc = (0, 0, 9) := rfl

/-- Behind ten bytes nothing is read. -/
theorem vget_vput (u : Nat) : ∀ (i acc : Nat) (more : Bytes), (u = 0 → i = 0) → acc + u * 128 ^ i < 18446744073709551616 →
    vget (vput u ++ more) i acc = (zag (acc + u * 128 ^ i), i + (vput u).length, 0) := by
  induction u using Nat.strongRecOn with
  | _ u ih =>
    intro i acc more h0 hu
    have hi : 9 ≤ i → u ≤ 1 ∧ (u = 1 → i = 9) := by
      intro hi
      by_cases hu0 : u = 0
      · exact ⟨by omega, by omega⟩
      · by_cases h9 : i = 9
        · subst h9
          have : (128 : Nat) ^ 9 = 9223372036854775808 := by decide
          rw [this] at hu
          exact ⟨by omega, fun _ => rfl⟩
        · have h10 : (128 : Nat) ^ 10 ≤ 128 ^ i := Nat.pow_le_pow_right (by omega) (by omega)
          have e10 : (128 : Nat) ^ 10 = 1180591620717411303424 := by decide
          have : 1 * 128 ^ i ≤ u * 128 ^ i := Nat.mul_le_mul_right _ (by omega)
          omega
    by_cases h : u < 128
    · rw [vput_lt h]
      simp only [List.cons_append, List.nil_append, vget, List.length_cons, List.length_nil]
      rw [ofNat_toNat_lt (by omega)]
      rw [if_neg (by intro ⟨h9, h1⟩; have := hi (by omega); omega), if_neg (by omega), if_neg (by omega)]
    · rw [vput_ge (by omega)]
      have hi9 : i < 9 := by
        rcases Nat.lt_or_ge i 9 with h9 | h9
        · exact h9
        · have := hi h9; omega
      simp only [List.cons_append, vget, List.length_cons]
      rw [ofNat_toNat_lt (by omega)]
      rw [if_neg (by omega), if_pos (by omega)]
      have e : (u % 128 + 128) % 128 = u % 128 := by omega
      have hdiv : u % 128 * 128 ^ i + u / 128 * 128 ^ (i + 1) = u * 128 ^ i := by
        rw [Nat.pow_succ, Nat.mul_comm (128 ^ i) 128, ← Nat.mul_assoc, ← Nat.add_mul]
        congr 1
        omega
      rw [e, ih (u / 128) (by omega) (i + 1) (acc + u % 128 * 128 ^ i) more (by omega) (by omega)]
      have : acc + u % 128 * 128 ^ i + u / 128 * 128 ^ (i + 1) = acc + u * 128 ^ i := by omega
      rw [this, show i + 1 + (vput (u / 128)).length = i + ((vput (u / 128)).length + 1) from by omega]

/-- A cut encoding is truncated. -/
theorem vget_cut (u : Nat) : ∀ (i acc k : Nat), u * 128 ^ i < 18446744073709551616 → k < (vput u).length → vget ((vput u).take k) i acc = (0, 0, 9) := by
  induction u using Nat.strongRecOn with
  | _ u ih =>
    intro i acc k hu hk
    by_cases h : u < 128
    · rw [vput_lt h] at hk
      simp at hk
      subst hk
      rfl
    · have hi9 : i < 9 := by
        rcases Nat.lt_or_ge i 9 with h9 | h9
        · exact h9
        · have h10 : (128 : Nat) ^ 9 ≤ 128 ^ i := Nat.pow_le_pow_right (by omega) (by omega)
          have e10 : (128 : Nat) ^ 9 = 9223372036854775808 := by decide
          have : 128 * 128 ^ i ≤ u * 128 ^ i := Nat.mul_le_mul_right _ (by omega)
          omega
      rw [vput_ge (by omega)] at hk ⊢
      cases k with
      | zero => rfl
      | succ k =>
        simp only [List.take_succ_cons, vget]
        rw [ofNat_toNat_lt (by omega), if_neg (by omega), if_pos (by omega)]
        refine ih (u / 128) (by omega) (i + 1) _ k ?_ (by simpa using hk)
        have hdiv : u % 128 * 128 ^ i + u / 128 * 128 ^ (i + 1) = u * 128 ^ i := by
          rw [Nat.pow_succ, Nat.mul_comm (128 ^ i) 128, ← Nat.mul_assoc, ← Nat.add_mul]
          congr 1
          omega
        omega

/-- What is accepted is the one encoding. -/
theorem vget_once (l : Bytes) : ∀ (i acc k : Nat) (n : Int), acc < 128 ^ i → i ≤ 9 → vget l i acc = (n, k, 0) →
    ∃ u, n = zag (acc + u * 128 ^ i) ∧ (u = 0 → i = 0) ∧ k = i + (vput u).length ∧ l.take (k - i) = vput u ∧ k - i ≤ l.length ∧ acc + u * 128 ^ i < 18446744073709551616 := by
  induction l with
  | nil => intro i acc k n _ _ h; simp [vget] at h
  | cons x t ih =>
    intro i acc k n hacc hi h
    have hx := byte_lt x
    simp only [vget] at h
    by_cases c1 : i = 9 ∧ 1 < x.toNat
    · rw [if_pos c1] at h; simp at h
    · rw [if_neg c1] at h
      by_cases c2 : 128 ≤ x.toNat
      · rw [if_pos c2] at h
        have hi8 : i < 9 := by omega
        have hacc' : acc + x.toNat % 128 * 128 ^ i < 128 ^ (i + 1) := by
          have h1 : x.toNat % 128 * 128 ^ i ≤ 127 * 128 ^ i := Nat.mul_le_mul_right _ (by omega)
          rw [Nat.pow_succ]
          omega
        obtain ⟨u, hn, hu0, hk, ht, hl, hb⟩ := ih (i + 1) _ k n hacc' (by omega) h
        have hu : u ≠ 0 := fun e => by have := hu0 e; omega
        have e1 : (x.toNat % 128 + u * 128) % 128 = x.toNat % 128 := by omega
        have e2 : (x.toNat % 128 + u * 128) / 128 = u := by omega
        have hsum : acc + (x.toNat % 128 + u * 128) * 128 ^ i = acc + x.toNat % 128 * 128 ^ i + u * 128 ^ (i + 1) := by
          rw [Nat.add_mul, Nat.pow_succ, Nat.mul_assoc, Nat.mul_comm 128 (128 ^ i)]
          omega
        have hv : vput (x.toNat % 128 + u * 128) = x :: vput u := by
          rw [vput_ge (by omega), e1, e2]
          congr 1
          refine u8_eq ?_
          rw [ofNat_toNat_lt (by omega)]
          omega
        refine ⟨x.toNat % 128 + u * 128, by rw [hsum]; exact hn, by omega, ?_, ?_, ?_, by rw [hsum]; exact hb⟩
        · rw [hv, hk, List.length_cons]; omega
        · rw [hv, show k - i = (k - (i + 1)) + 1 from by have := vput_pos u; omega, List.take_succ_cons, ht]
        · rw [List.length_cons]; omega
      · rw [if_neg c2] at h
        by_cases c3 : x.toNat = 0 ∧ 0 < i
        · rw [if_pos c3] at h; simp at h
        · rw [if_neg c3] at h
          simp only [Prod.mk.injEq] at h
          obtain ⟨hn, hk, _⟩ := h
          have hv : vput x.toNat = [x] := by rw [vput_lt (by omega), ofNat_of_toNat]
          refine ⟨x.toNat, hn.symm, by omega, by rw [hv]; simp; omega, ?_, by simp; omega, ?_⟩
          · rw [hv, show k - i = 1 from by omega]; simp
          · by_cases h9 : i = 9
            · subst h9
              have : (128 : Nat) ^ 9 = 9223372036854775808 := by decide
              rw [this] at hacc ⊢
              have : x.toNat ≤ 1 := by omega
              omega
            · have h1 : x.toNat * 128 ^ i ≤ 127 * 128 ^ i := Nat.mul_le_mul_right _ (by omega)
              have h2 : (128 : Nat) ^ (i + 1) ≤ 128 ^ 9 := Nat.pow_le_pow_right (by omega) (by omega)
              have : (128 : Nat) ^ 9 = 9223372036854775808 := by decide
              rw [Nat.pow_succ] at h2
              omega

/-- The bytes of an integer. -/
def putI (n : Int) : Bytes := vput (zig n)
/-- The integer whose bytes begin a list. -/
def getI (l : Bytes) : Int × Nat × Int := vget l 0 0

def inI64 (n : Int) : Prop := -9223372036854775808 ≤ n ∧ n ≤ 9223372036854775807

theorem putI_pos (n : Int) : 1 ≤ (putI n).length := vput_pos _
theorem putI_len {n : Int} (h : inI64 n) : (putI n).length ≤ 10 := vput_len10 (zig_lt h.1 h.2)
theorem getI_putI {n : Int} (h : inI64 n) (more : Bytes) : getI (putI n ++ more) = (n, (putI n).length, 0) := by
  unfold getI putI
  rw [vget_vput _ 0 0 more (fun _ => rfl) (by have := zig_lt h.1 h.2; omega)]
  simp [zag_zig]
theorem getI_cut {n : Int} (h : inI64 n) {k : Nat} (hk : k < (putI n).length) : getI ((putI n).take k) = (0, 0, 9) :=
  vget_cut _ 0 0 k (by have := zig_lt h.1 h.2; omega) hk
theorem getI_once {l : Bytes} {n : Int} {k : Nat} (h : getI l = (n, k, 0)) : inI64 n ∧ k = (putI n).length ∧ 1 ≤ k ∧ k ≤ l.length ∧ l.take k = putI n := by
  obtain ⟨u, hn, _, hk, ht, hl, hb⟩ := vget_once l 0 0 k n (by simp) (by omega) h
  have hn' : n = zag u := by simpa using hn
  have hz : zig n = u := by rw [hn', zig_zag]
  unfold putI
  rw [hz]
  have := vput_pos u
  exact ⟨by rw [hn']; exact ⟨zag_lo (by omega), zag_hi (by omega)⟩, by omega, by omega, by omega, by simpa using ht⟩

/-- The cases of a reading. -/
theorem vget_err (l : Bytes) : ∀ (i acc : Nat), (vget l i acc).2.2 = 0 ∨ ∃ e : Int, (e = 9 ∨ e = 11) ∧ vget l i acc = (0, 0, e) := by
  induction l with
  | nil => intro i acc; exact .inr ⟨9, .inl rfl, rfl⟩
  | cons x t ih =>
    intro i acc
    simp only [vget]
    split
    · exact .inr ⟨11, .inr rfl, rfl⟩
    · split
      · exact ih _ _
      · split
        · exact .inr ⟨11, .inr rfl, rfl⟩
        · exact .inl rfl
theorem getI_err (l : Bytes) : (getI l).2.2 = 0 ∨ ∃ e : Int, (e = 9 ∨ e = 11) ∧ getI l = (0, 0, e) := vget_err l 0 0

/-- The size of an encoding: EventIntSizes. -/
theorem putI_size (n : Int) (k : Nat) : (putI n).length ≤ k + 1 ↔ -(128 ^ (k + 1) / 2 : Nat) ≤ n ∧ n < (128 ^ (k + 1) / 2 : Nat) := by
  unfold putI
  rw [vput_len]
  have h2 : (128 : Nat) ^ (k + 1) % 2 = 0 := by rw [Nat.pow_succ]; omega
  unfold zig
  split <;> omega
end Iv
