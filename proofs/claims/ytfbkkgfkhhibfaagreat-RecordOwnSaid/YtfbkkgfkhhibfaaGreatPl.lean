/- The plain arithmetic of the zigzag varints of chapter 11: what is written is read again; one encoding a number; a cut is truncated. No program in sight. -/
import Derived.RowKit
namespace Iv
abbrev Bytes := List UInt8
theorem byte_lt (b : UInt8) : b.toNat < 256 := UInt8.toNat_lt b
theorem ofNat_toNat_lt {n : Nat} (h : n < 256) : (UInt8.ofNat n).toNat = n := by
  simp [Nat.mod_eq_of_lt h]
theorem u8_eq {a b : UInt8} (h : a.toNat = b.toNat) : a = b := UInt8.toNat_inj.1 h
theorem ofNat_of_toNat (b : UInt8) : UInt8.ofNat b.toNat = b := by simp
def zig (n : Int) : Nat := if n < 0 then (-2 * n - 1).toNat else (2 * n).toNat
def zag (u : Nat) : Int := if u % 2 = 1 then -(u / 2 : Nat) - 1 else (u / 2 : Nat)
theorem zag_zig (n : Int) : zag (zig n) = n := by
  unfold zag zig
  split <;> split <;> omega
theorem zig_zag (u : Nat) : zig (zag u) = u := by
  unfold zag zig
  split <;> split <;> omega
theorem zig_lt {n : Int} (h1 : -9223372036854775808 ≤ n) (h2 : n ≤ 9223372036854775807) : zig n < 18446744073709551616 := by
  unfold zig
  split <;> omega
theorem zag_lo {u : Nat} (h : u < 18446744073709551616) : -9223372036854775808 ≤ zag u := by
  unfold zag
  split <;> omega
theorem zag_hi {u : Nat} (h : u < 18446744073709551616) : zag u ≤ 9223372036854775807 := by
  unfold zag
  split <;> omega
def vput (u : Nat) : Bytes := if u < 128 then [UInt8.ofNat u] else UInt8.ofNat (u % 128 + 128) :: vput (u / 128)
termination_by u
decreasing_by omega
theorem vput_lt {u : Nat} (h : u < 128) : vput u = [UInt8.ofNat u] := by rw [vput, if_pos h]
theorem vput_ge {u : Nat} (h : 128 ≤ u) : vput u = UInt8.ofNat (u % 128 + 128) :: vput (u / 128) := by rw [vput, if_neg (by omega)]
theorem vput_pos (u : Nat) : 1 ≤ (vput u).length := by
  rw [vput]
  split <;> simp
theorem vput_len (k : Nat) : ∀ u, (vput u).length ≤ k + 1 ↔ u < 128 ^ (k + 1) := by
  induction k with
  | zero =>
    intro u
    by_cases h : u < 128
    · simp [vput_lt h, h]
    · have := vput_pos (u / 128)
      rw [vput_ge (by omega)]
      simp
      constructor
      · intro h0; rw [h0] at this; simp at this
      · intro; omega
  | succ k ih =>
    intro u
    by_cases h : u < 128
    · have h1 : (vput u).length = 1 := by simp [vput_lt h]
      have h2 : (128 : Nat) ^ 1 ≤ 128 ^ (k + 1 + 1) := Nat.pow_le_pow_right (by omega) (by omega)
      constructor
      · intro; omega
      · intro; omega
    · rw [vput_ge (by omega)]
      have := ih (u / 128)
      have e : (128 : Nat) ^ (k + 1 + 1) = 128 ^ (k + 1) * 128 := Nat.pow_succ ..
      rw [List.length_cons, e, ← Nat.div_lt_iff_lt_mul (by omega : 0 < 128)]
      omega
theorem vput_len10 {u : Nat} (h : u < 18446744073709551616) : (vput u).length ≤ 10 := by
  refine (vput_len 9 u).2 ?_
  have : (128 : Nat) ^ (9 + 1) = 1180591620717411303424 := by decide
  omega
def vget : Bytes → Nat → Nat → Int × Nat × Int
  | [], _, _ => (0, 0, 9)
  | x :: t, i, acc =>
    if i = 9 ∧ 1 < x.toNat then (0, 0, 11)
    else if 128 ≤ x.toNat then vget t (i + 1) (acc + x.toNat % 128 * 128 ^ i)
    else if x.toNat = 0 ∧ 0 < i then (0, 0, 11)
    else (zag (acc + x.toNat * 128 ^ i), i + 1, 0)
theorem vget_vput (u : Nat) : ∀ (i acc : Nat) (more : Bytes), (u = 0 → i = 0) → acc + u * 128 ^ i < 18446744073709551616 →
    vget (vput u ++ more) i acc = (zag (acc + u * 128 ^ i), i + (vput u).length, 0) := by
  induction u using Nat.strongRecOn with
  | _ u ih =>
    intro i acc more h0 hu
    have hi : 9 ≤ i → u ≤ 1 ∧ (u = 1 → i = 9) := by
      intro hi
      by_cases hu0 : u = 0
      · exact ⟨by omega, by omega⟩
      · by_cases h9 : i = 9
        · subst h9
          have : (128 : Nat) ^ 9 = 9223372036854775808 := by decide
          rw [this] at hu
          exact ⟨by omega, fun _ => rfl⟩
        · have h10 : (128 : Nat) ^ 10 ≤ 128 ^ i := Nat.pow_le_pow_right (by omega) (by omega)
          have e10 : (128 : Nat) ^ 10 = 1180591620717411303424 := by decide
          have : 1 * 128 ^ i ≤ u * 128 ^ i := Nat.mul_le_mul_right _ (by omega)
          omega
    by_cases h : u < 128
    · rw [vput_lt h]
      simp only [List.cons_append, List.nil_append, vget, List.length_cons, List.length_nil]
      rw [ofNat_toNat_lt (by omega)]
      rw [if_neg (by intro ⟨h9, h1⟩; have := hi (by omega); omega), if_neg (by omega), if_neg (by omega)]
    · rw [vput_ge (by omega)]
      have hi9 : i < 9 := by
        rcases Nat.lt_or_ge i 9 with h9 | h9
        · exact h9
        · have := hi h9; omega
      simp only [List.cons_append, vget, List.length_cons]
      rw [ofNat_toNat_lt (by omega)]
      rw [if_neg (by omega), if_pos (by omega)]
      have e : (u % 128 + 128) % 128 = u % 128 := by omega
      have hdiv : u % 128 * 128 ^ i + u / 128 * 128 ^ (i + 1) = u * 128 ^ i := by
        rw [Nat.pow_succ, Nat.mul_comm (128 ^ i) 128, ← Nat.mul_assoc, ← Nat.add_mul]
        congr 1
        omega
      rw [e, ih (u / 128) (by omega) (i + 1) (acc + u % 128 * 128 ^ i) more (by omega) (by omega)]
      have : acc + u % 128 * 128 ^ i + u / 128 * 128 ^ (i + 1) = acc + u * 128 ^ i := by omega
      rw [this, show i + 1 + (vput (u / 128)).length = i + ((vput (u / 128)).length + 1) from by omega]
theorem vget_once (l : Bytes) : ∀ (i acc k : Nat) (n : Int), acc < 128 ^ i → i ≤ 9 → vget l i acc = (n, k, 0) →
    ∃ u, n = zag (acc + u * 128 ^ i) ∧ (u = 0 → i = 0) ∧ k = i + (vput u).length ∧ l.take (k - i) = vput u ∧ k - i ≤ l.length ∧ acc + u * 128 ^ i < 18446744073709551616 := by
  induction l with
  | nil => intro i acc k n _ _ h; simp [vget] at h
  | cons x t ih =>
    intro i acc k n hacc hi h
    have hx := byte_lt x
    simp only [vget] at h
    by_cases c1 : i = 9 ∧ 1 < x.toNat
    · rw [if_pos c1] at h; simp at h
    · rw [if_neg c1] at h
      by_cases c2 : 128 ≤ x.toNat
      · rw [if_pos c2] at h
        have hi8 : i < 9 := by omega
        have hacc' : acc + x.toNat % 128 * 128 ^ i < 128 ^ (i + 1) := by
          have h1 : x.toNat % 128 * 128 ^ i ≤ 127 * 128 ^ i := Nat.mul_le_mul_right _ (by omega)
          rw [Nat.pow_succ]
          omega
        obtain ⟨u, hn, hu0, hk, ht, hl, hb⟩ := ih (i + 1) _ k n hacc' (by omega) h
        have hu : u ≠ 0 := fun e => by have := hu0 e; omega
        have e1 : (x.toNat % 128 + u * 128) % 128 = x.toNat % 128 := by omega
        have e2 : (x.toNat % 128 + u * 128) / 128 = u := by omega
        have hsum : acc + (x.toNat % 128 + u * 128) * 128 ^ i = acc + x.toNat % 128 * 128 ^ i + u * 128 ^ (i + 1) := by
          rw [Nat.add_mul, Nat.pow_succ, Nat.mul_assoc, Nat.mul_comm 128 (128 ^ i)]
          omega
        have hv : vput (x.toNat % 128 + u * 128) = x :: vput u := by
          rw [vput_ge (by omega), e1, e2]
          congr 1
          refine u8_eq ?_
          rw [ofNat_toNat_lt (by omega)]
          omega
        refine ⟨x.toNat % 128 + u * 128, by rw [hsum]; exact hn, by omega, ?_, ?_, ?_, by rw [hsum]; exact hb⟩
        · rw [hv, hk, List.length_cons]; omega
        · rw [hv, show k - i = (k - (i + 1)) + 1 from by have := vput_pos u; omega, List.take_succ_cons, ht]
        · rw [List.length_cons]; omega
      · rw [if_neg c2] at h
        by_cases c3 : x.toNat = 0 ∧ 0 < i
        · rw [if_pos c3] at h; simp at h
        · rw [if_neg c3] at h
          simp only [Prod.mk.injEq] at h
          obtain ⟨hn, hk, _⟩ := h
          have hv : vput x.toNat = [x] := by rw [vput_lt (by omega), ofNat_of_toNat]
          refine ⟨x.toNat, hn.symm, by omega, by rw [hv]; simp; omega, ?_, by simp; omega, ?_⟩
          · rw [hv, show k - i = 1 from by omega]; simp
          · by_cases h9 : i = 9
            · subst h9
              have : (128 : Nat) ^ 9 = 9223372036854775808 := by decide
              rw [this] at hacc ⊢
              have : x.toNat ≤ 1 := by omega
              omega
            · have h1 : x.toNat * 128 ^ i ≤ 127 * 128 ^ i := Nat.mul_le_mul_right _ (by omega)
              have h2 : (128 : Nat) ^ (i + 1) ≤ 128 ^ 9 := Nat.pow_le_pow_right (by omega) (by omega)
              have : (128 : Nat) ^ 9 = 9223372036854775808 := by decide
              rw [Nat.pow_succ] at h2
              omega
def putI (n : Int) : Bytes := vput (zig n)
def getI (l : Bytes) : Int × Nat × Int := vget l 0 0
def inI64 (n : Int) : Prop := -9223372036854775808 ≤ n ∧ n ≤ 9223372036854775807
theorem putI_pos (n : Int) : 1 ≤ (putI n).length := vput_pos _
theorem putI_len {n : Int} (h : inI64 n) : (putI n).length ≤ 10 := vput_len10 (zig_lt h.1 h.2)
theorem getI_putI {n : Int} (h : inI64 n) (more : Bytes) : getI (putI n ++ more) = (n, (putI n).length, 0) := by
  unfold getI putI
  rw [vget_vput _ 0 0 more (fun _ => rfl) (by have := zig_lt h.1 h.2; omega)]
  simp [zag_zig]
theorem getI_once {l : Bytes} {n : Int} {k : Nat} (h : getI l = (n, k, 0)) : inI64 n ∧ k = (putI n).length ∧ 1 ≤ k ∧ k ≤ l.length ∧ l.take k = putI n := by
  obtain ⟨u, hn, _, hk, ht, hl, hb⟩ := vget_once l 0 0 k n (by simp) (by omega) h
  have hn' : n = zag u := by simpa using hn
  have hz : zig n = u := by rw [hn', zig_zag]
  unfold putI
  rw [hz]
  have := vput_pos u
  exact ⟨by rw [hn']; exact ⟨zag_lo (by omega), zag_hi (by omega)⟩, by omega, by omega, by omega, by simpa using ht⟩
theorem vget_err (l : Bytes) : ∀ (i acc : Nat), (vget l i acc).2.2 = 0 ∨ ∃ e : Int, (e = 9 ∨ e = 11) ∧ vget l i acc = (0, 0, e) := by
  induction l with
  | nil => intro i acc; exact .inr ⟨9, .inl rfl, rfl⟩
  | cons x t ih =>
    intro i acc
    simp only [vget]
    split
    · exact .inr ⟨11, .inr rfl, rfl⟩
    · split
      · exact ih _ _
      · split
        · exact .inr ⟨11, .inr rfl, rfl⟩
        · exact .inl rfl
theorem getI_err (l : Bytes) : (getI l).2.2 = 0 ∨ ∃ e : Int, (e = 9 ∨ e = 11) ∧ getI l = (0, 0, e) := vget_err l 0 0
end Iv
namespace Iv
def crcStep (c : Nat) : Nat := if c % 2 = 1 then (c / 2) ^^^ 3988292384 else c / 2
def crcSteps : Nat → Nat → Nat
  | 0, c => c
  | n + 1, c => crcSteps n (crcStep c)
def crcByte (c : Nat) (x : UInt8) : Nat := crcSteps 8 (c ^^^ x.toNat)
def crcFold (c : Nat) (l : Bytes) : Nat := l.foldl crcByte c
def crc (l : Bytes) : Nat := 4294967295 ^^^ crcFold 4294967295 l
theorem xor_lt32 {a b : Nat} (ha : a < 4294967296) (hb : b < 4294967296) : a ^^^ b < 4294967296 :=
  Nat.xor_lt_two_pow (n := 32) ha hb
theorem crcStep_lt {c : Nat} (h : c < 4294967296) : crcStep c < 4294967296 := by
  unfold crcStep
  split
  · exact xor_lt32 (by omega) (by omega)
  · omega
theorem crcSteps_lt (n : Nat) : ∀ {c : Nat}, c < 4294967296 → crcSteps n c < 4294967296 := by
  induction n with
  | zero => intro c h; exact h
  | succ n ih => intro c h; exact ih (crcStep_lt h)
theorem crcByte_lt {c : Nat} (h : c < 4294967296) (x : UInt8) : crcByte c x < 4294967296 :=
  crcSteps_lt 8 (xor_lt32 h (by have := byte_lt x; omega))
theorem crcFold_lt (l : Bytes) : ∀ {c : Nat}, c < 4294967296 → crcFold c l < 4294967296 := by
  induction l with
  | nil => intro c h; exact h
  | cons x t ih => intro c h; exact ih (crcByte_lt h x)
theorem crc_lt (l : Bytes) : crc l < 4294967296 := xor_lt32 (by omega) (crcFold_lt l (by omega))
theorem crcSteps_succ (n : Nat) : ∀ c, crcSteps (n + 1) c = crcStep (crcSteps n c) := by
  induction n with
  | zero => intro c; rfl
  | succ n ih => intro c; rw [crcSteps, ih (crcStep c)]; rfl
theorem crcFold_append (c : Nat) (l m : Bytes) : crcFold c (l ++ m) = crcFold (crcFold c l) m := by simp [crcFold]
end Iv
namespace Iv
def mlen (b : Bytes) (i d : Nat) : Nat → Nat
  | 0 => 0
  | m + 1 => if i + mlen b i d m < b.length ∧ b[i + mlen b i d m]? = b[i + mlen b i d m - d]? ∧ mlen b i d m = m then m + 1 else mlen b i d m
theorem mlen_le (b : Bytes) (i d m : Nat) : mlen b i d m ≤ m := by
  induction m with
  | zero => simp [mlen]
  | succ m ih => simp only [mlen]; split <;> omega
def Stops (b : Bytes) (i d m n : Nat) : Prop :=
  n ≤ m ∧ (∀ k, k < n → i + k < b.length ∧ b[i + k]? = b[i + k - d]?) ∧ (n = m ∨ ¬ (i + n < b.length ∧ b[i + n]? = b[i + n - d]?))
theorem mlen_stops (b : Bytes) (i d m : Nat) : Stops b i d m (mlen b i d m) := by
  induction m with
  | zero => exact ⟨Nat.le_refl _, fun k hk => by simp [mlen] at hk, .inl rfl⟩
  | succ m ih =>
    obtain ⟨h1, h2, h3⟩ := ih
    simp only [mlen]
    split
    · rename_i hc
      refine ⟨Nat.le_refl _, fun k hk => ?_, .inl rfl⟩
      by_cases hkm : k < mlen b i d m
      · exact h2 k hkm
      · have hk2 : k = mlen b i d m := by omega
        rw [hk2]; exact ⟨hc.1, hc.2.1⟩
    · rename_i hc
      refine ⟨by omega, h2, .inr fun hh => ?_⟩
      rcases h3 with h3 | h3
      · exact hc ⟨hh.1, hh.2, h3⟩
      · exact h3 hh
theorem Stops.unique {b : Bytes} {i d m n n' : Nat} (h : Stops b i d m n) (h' : Stops b i d m n') : n = n' := by
  rcases Nat.lt_trichotomy n n' with hlt | he | hlt
  · rcases h.2.2 with e | e
    · have := h'.1; omega
    · exact absurd (h'.2.1 n hlt) e
  · exact he
  · rcases h'.2.2 with e | e
    · have := h.1; omega
    · exact absurd (h.2.1 n' hlt) e
theorem stops_mlen {b : Bytes} {i d m n : Nat} (h : Stops b i d m n) : mlen b i d m = n := (mlen_stops b i d m).unique h
def best (b : Bytes) (i : Nat) : Nat → Nat × Nat
  | 0 => (0, 0)
  | k + 1 => if (best b i k).1 < mlen b i (k + 1) 130 then (mlen b i (k + 1) 130, k + 1) else best b i k
def far (i : Nat) : Nat := min 255 i
def bestAt (b : Bytes) (i : Nat) : Nat × Nat := best b i (far i)
theorem best_le (b : Bytes) (i k : Nat) : (best b i k).1 ≤ 130 := by
  induction k with
  | zero => simp [best]
  | succ k ih =>
    simp only [best]
    split
    · exact mlen_le _ _ _ _
    · exact ih
theorem best_spec (b : Bytes) (i k : Nat) : (best b i k).1 = 0 ∨ (1 ≤ (best b i k).2 ∧ (best b i k).2 ≤ k ∧ (best b i k).1 = mlen b i (best b i k).2 130) := by
  induction k with
  | zero => exact .inl rfl
  | succ k ih =>
    simp only [best]
    split
    · exact .inr ⟨by simp, by simp, rfl⟩
    · rcases ih with h | h
      · exact .inl h
      · exact .inr ⟨h.1, by omega, h.2.2⟩
theorem mlen_end (b : Bytes) (i d : Nat) (h : i ≤ b.length) : i + mlen b i d 130 ≤ b.length := by
  obtain ⟨_, h2, _⟩ := mlen_stops b i d 130
  rcases Nat.eq_zero_or_pos (mlen b i d 130) with h0 | h0
  · omega
  · have := (h2 (mlen b i d 130 - 1) (by omega)).1
    omega
theorem best_end (b : Bytes) (i k : Nat) (h : i ≤ b.length) : i + (best b i k).1 ≤ b.length := by
  rcases best_spec b i k with h0 | h0
  · omega
  · rw [h0.2.2]; exact mlen_end b i _ h
theorem best_stays (b : Bytes) (i k j : Nat) (hk : k ≤ j) (hi : i ≤ b.length) (h : min 130 (b.length - i) ≤ (best b i k).1) : best b i j = best b i k := by
  induction j with
  | zero => obtain rfl : k = 0 := by omega
            rfl
  | succ j ih =>
    by_cases e : k = j + 1
    · rw [e]
    · have := ih (by omega)
      simp only [best]
      rw [if_neg (by
        rw [this]
        have h1 := mlen_le b i (j + 1) 130
        have h2 := mlen_end b i (j + 1) hi
        omega)]
      exact this
def lit (b : Bytes) (f e : Nat) : Bytes := if f < e then UInt8.ofNat (e - f - 1) :: (b.take e).drop f else []
def pk (b : Bytes) (f i : Nat) : Bytes :=
  if h : i < b.length then
    if 3 ≤ (bestAt b i).1 then lit b f i ++ (UInt8.ofNat ((bestAt b i).1 + 125) :: UInt8.ofNat (bestAt b i).2 :: pk b (i + (bestAt b i).1) (i + (bestAt b i).1))
    else if i + 1 - f = 128 then lit b f (i + 1) ++ pk b (i + 1) (i + 1)
    else pk b f (i + 1)
  else lit b f b.length
termination_by b.length - i
decreasing_by all_goals omega
def pack (b : Bytes) : Bytes := pk b 0 0
theorem pk_end {b : Bytes} {f i : Nat} (h : b.length ≤ i) : pk b f i = lit b f b.length := by rw [pk, dif_neg (by omega)]
theorem pk_copy {b : Bytes} {f i : Nat} (h : i < b.length) (h3 : 3 ≤ (bestAt b i).1) :
    pk b f i = lit b f i ++ (UInt8.ofNat ((bestAt b i).1 + 125) :: UInt8.ofNat (bestAt b i).2 :: pk b (i + (bestAt b i).1) (i + (bestAt b i).1)) := by
  rw [pk, dif_pos h, if_pos h3]
theorem pk_full {b : Bytes} {f i : Nat} (h : i < b.length) (h3 : (bestAt b i).1 < 3) (hf : i + 1 - f = 128) : pk b f i = lit b f (i + 1) ++ pk b (i + 1) (i + 1) := by
  rw [pk, dif_pos h, if_neg (by omega), if_pos hf]
theorem pk_step {b : Bytes} {f i : Nat} (h : i < b.length) (h3 : (bestAt b i).1 < 3) (hf : i + 1 - f ≠ 128) : pk b f i = pk b f (i + 1) := by
  rw [pk, dif_pos h, if_neg (by omega), if_neg hf]
def copyOut (out : Bytes) (d : Nat) : Nat → Bytes
  | 0 => out
  | n + 1 => copyOut (out ++ [(out[out.length - d]?).getD 0]) d n
theorem copyOut_len (d n : Nat) : ∀ out : Bytes, (copyOut out d n).length = out.length + n := by
  induction n with
  | zero => intro out; rfl
  | succ n ih => intro out; rw [copyOut, ih]; simp; omega
def unp (most : Int) (l : Bytes) (out : Bytes) : Bytes × Int :=
  match h : l with
  | [] => (out, 0)
  | x :: t =>
    if x.toNat < 128 then
      if t.length < x.toNat + 1 then ([], 9)
      else if most < (out.length : Int) + x.toNat + 1 then ([], 2)
      else unp most (t.drop (x.toNat + 1)) (out ++ t.take (x.toNat + 1))
    else match h2 : t with
      | [] => ([], 9)
      | d :: u =>
        if d.toNat = 0 ∨ out.length < d.toNat then ([], 11)
        else if most < (out.length : Int) + x.toNat - 125 then ([], 2)
        else unp most u (copyOut out d.toNat (x.toNat - 125))
termination_by l.length
decreasing_by
  · simp; omega
  · simp; omega
def unpack (l : Bytes) (most : Int) : Bytes × Int := unp most l []
section
variable {most : Int} {out : Bytes}
theorem unp_nil : unp most [] out = (out, 0) := by rw [unp]
theorem unp_lit {x : UInt8} {t : Bytes} (h : x.toNat < 128) : unp most (x :: t) out =
    if t.length < x.toNat + 1 then ([], 9) else if most < (out.length : Int) + x.toNat + 1 then ([], 2) else unp most (t.drop (x.toNat + 1)) (out ++ t.take (x.toNat + 1)) := by
  rw [unp.eq_def]
  dsimp only
  rw [if_pos h]
theorem unp_one {x : UInt8} (h : 128 ≤ x.toNat) : unp most [x] out = ([], 9) := by rw [unp, if_neg (by omega)]
theorem unp_copy {x d : UInt8} {u : Bytes} (h : 128 ≤ x.toNat) : unp most (x :: d :: u) out =
    if d.toNat = 0 ∨ out.length < d.toNat then ([], 11) else if most < (out.length : Int) + x.toNat - 125 then ([], 2) else unp most u (copyOut out d.toNat (x.toNat - 125)) := by
  rw [unp, if_neg (by omega)]
end
theorem unp_room {most : Int} (n : Nat) : ∀ (l out o : Bytes), l.length = n → unp most l out = (o, 0) → o = out ∨ (o.length : Int) ≤ most := by
  induction n using Nat.strongRecOn with
  | _ n ih =>
    intro l out o hn h
    match l with
    | [] =>
      rw [unp_nil] at h
      simp only [Prod.mk.injEq, and_true] at h
      exact .inl h.symm
    | x :: t =>
      by_cases hx : x.toNat < 128
      · rw [unp_lit hx] at h
        by_cases h1 : t.length < x.toNat + 1
        · rw [if_pos h1] at h; simp at h
        · rw [if_neg h1] at h
          by_cases h2 : most < (out.length : Int) + x.toNat + 1
          · rw [if_pos h2] at h; simp at h
          · rw [if_neg h2] at h
            rcases ih _ (by rw [← hn]; simp; omega) _ _ _ rfl h with h3 | h3
            · refine .inr ?_
              rw [h3, List.length_append, List.length_take]
              omega
            · exact .inr h3
      · match t with
        | [] => rw [unp_one (by omega)] at h; simp at h
        | d :: u =>
          rw [unp_copy (by omega)] at h
          by_cases h1 : d.toNat = 0 ∨ out.length < d.toNat
          · rw [if_pos h1] at h; simp at h
          · rw [if_neg h1] at h
            by_cases h2 : most < (out.length : Int) + x.toNat - 125
            · rw [if_pos h2] at h; simp at h
            · rw [if_neg h2] at h
              rcases ih _ (by rw [← hn]; simp; omega) _ _ _ rfl h with h3 | h3
              · refine .inr ?_
                rw [h3, copyOut_len]
                omega
              · exact .inr h3
theorem unpack_room {l o : Bytes} {most : Int} (h : unpack l most = (o, 0)) : o.length = 0 ∨ (o.length : Int) ≤ most := by
  rcases unp_room _ l [] o rfl h with h1 | h1
  · exact .inl (by rw [h1]; rfl)
  · exact .inr h1
theorem take_drop_append (b : Bytes) {f e : Nat} (h : f ≤ e) : b.take f ++ (b.take e).drop f = b.take e := by
  rw [List.drop_take]
  have : b.take e = b.take f ++ (b.drop f).take (e - f) := by
    rw [← List.take_add, Nat.add_sub_cancel' h]
  rw [this]
theorem unp_lit_item {most : Int} {b pre rest : Bytes} {f e : Nat} (hf : f ≤ e) (he : e ≤ b.length) (h128 : e - f ≤ 128) (hm : (pre.length : Int) + e ≤ most) :
    unp most (lit b f e ++ rest) (pre ++ b.take f) = unp most rest (pre ++ b.take e) := by
  unfold lit
  by_cases hlt : f < e
  · rw [if_pos hlt, List.cons_append]
    have hn : (UInt8.ofNat (e - f - 1)).toNat = e - f - 1 := ofNat_toNat_lt (by omega)
    have hl : ((b.take e).drop f).length = e - f := by simp; omega
    rw [unp_lit (by omega), hn, if_neg (by rw [List.length_append, hl]; omega), if_neg (by
      rw [List.length_append, List.length_take]; omega)]
    have e1 : e - f - 1 + 1 = ((b.take e).drop f).length := by rw [hl]; omega
    rw [e1, List.drop_left, List.take_left, List.append_assoc, take_drop_append b hf]
  · rw [if_neg hlt, show e = f from by omega]
    rfl
theorem copyOut_take (b pre : Bytes) (i d : Nat) (hd : 1 ≤ d) (hdi : d ≤ i) (n : Nat) : i + n ≤ b.length → (∀ k, k < n → b[i + k]? = b[i + k - d]?) →
    copyOut (pre ++ b.take i) d n = pre ++ b.take (i + n) := by
  induction n generalizing i with
  | zero => intro _ _; rfl
  | succ n ih =>
    intro hi h
    have hl : (pre ++ b.take i).length = pre.length + i := by simp; omega
    have hx : (pre ++ b.take i)[(pre ++ b.take i).length - d]? = b[i - d]? := by
      rw [hl, List.getElem?_append_right (by omega), List.getElem?_take, if_pos (by omega)]
      congr 1; omega
    have h0 := h 0 (by omega)
    simp only [Nat.add_zero] at h0
    have hbi : b[i]? = some b[i] := List.getElem?_eq_getElem (by omega)
    rw [copyOut, hx, ← h0, hbi]
    have : pre ++ b.take i ++ [(some b[i]).getD 0] = pre ++ b.take (i + 1) := by
      rw [List.append_assoc, Option.getD_some, List.take_succ_eq_append_getElem (by omega)]
    rw [this, ih (i + 1) (by omega) (by omega) (fun k hk => by have := h (k + 1) (by omega); rwa [show i + 1 + k = i + (k + 1) from by omega])]
    congr 2; omega
theorem bestAt_copy {b : Bytes} {i : Nat} (hi : i < b.length) (h3 : 3 ≤ (bestAt b i).1) :
    1 ≤ (bestAt b i).2 ∧ (bestAt b i).2 ≤ i ∧ (bestAt b i).2 ≤ 255 ∧ (bestAt b i).1 ≤ 130 ∧ i + (bestAt b i).1 ≤ b.length ∧
      ∀ k, k < (bestAt b i).1 → b[i + k]? = b[i + k - (bestAt b i).2]? := by
  unfold bestAt at h3 ⊢
  have hl := best_le b i (far i)
  have he := best_end b i (far i) (by omega)
  rcases best_spec b i (far i) with h | ⟨h1, h2, hm⟩
  · omega
  · have hf : far i ≤ i ∧ far i ≤ 255 := by unfold far; omega
    have hs := mlen_stops b i (best b i (far i)).2 130
    refine ⟨h1, by omega, by omega, hl, he, fun k hk => ?_⟩
    exact (hs.2.1 k (by omega)).2
theorem unp_pk {most : Int} (b pre rest : Bytes) (hm : (pre.length : Int) + b.length ≤ most) (n : Nat) : ∀ (f i : Nat), b.length - i = n → f ≤ i → i ≤ b.length → i - f < 128 →
    unp most (pk b f i ++ rest) (pre ++ b.take f) = unp most rest (pre ++ b) := by
  induction n using Nat.strongRecOn with
  | _ n ih =>
    intro f i hn hf hi h128
    rcases Nat.lt_or_ge i b.length with hlt | hge
    · by_cases h3 : 3 ≤ (bestAt b i).1
      · obtain ⟨h1, h2, h255, h130, hend, hk⟩ := bestAt_copy hlt h3
        rw [pk_copy hlt h3, List.append_assoc, unp_lit_item hf (by omega) (by omega) (by omega)]
        have e1 : (UInt8.ofNat ((bestAt b i).1 + 125)).toNat = (bestAt b i).1 + 125 := ofNat_toNat_lt (by omega)
        have e2 : (UInt8.ofNat (bestAt b i).2).toNat = (bestAt b i).2 := ofNat_toNat_lt (by omega)
        have hlen : (pre ++ b.take i).length = pre.length + i := by simp; omega
        simp only [List.cons_append]
        rw [unp_copy (by omega), e1, e2, hlen, if_neg (by omega), if_neg (by omega), Nat.add_sub_cancel, copyOut_take b pre i _ h1 h2 _ hend hk]
        exact ih _ (by omega) _ _ rfl (by omega) (by omega) (by omega)
      · by_cases hf8 : i + 1 - f = 128
        · rw [pk_full hlt (by omega) hf8, List.append_assoc, unp_lit_item (by omega) (by omega) (by omega) (by omega)]
          exact ih _ (by omega) _ _ rfl (by omega) (by omega) (by omega)
        · rw [pk_step hlt (by omega) hf8]
          exact ih _ (by omega) f (i + 1) rfl (by omega) (by omega) (by omega)
    · rw [pk_end hge, unp_lit_item (by omega) (by omega) (by omega) (by omega), List.take_length]
theorem unpack_pack (b : Bytes) : unpack (pack b) b.length = (b, 0) := by
  have := unp_pk (most := b.length) b [] [] (by simp) _ 0 0 rfl (by omega) (by omega) (by omega)
  simp only [List.append_nil, List.nil_append, List.take_zero] at this
  rw [unpack, pack, this, unp_nil]
theorem lit_len (b : Bytes) {f e : Nat} (_hf : f ≤ e) (he : e ≤ b.length) : (lit b f e).length = if f < e then e - f + 1 else 0 := by
  unfold lit
  split
  · simp; omega
  · rfl
theorem pk_bounded (b : Bytes) (n : Nat) : ∀ (f i : Nat), b.length - i = n → f ≤ i → i ≤ b.length → i - f < 128 → (pk b f i).length ≤ (b.length - f) + (b.length - f + 127) / 128 := by
  induction n using Nat.strongRecOn with
  | _ n ih =>
    intro f i hn hf hi h128
    rcases Nat.lt_or_ge i b.length with hlt | hge
    · by_cases h3 : 3 ≤ (bestAt b i).1
      · obtain ⟨h1, h2, h255, h130, hend, hkk⟩ := bestAt_copy hlt h3
        have := ih _ (by omega) (i + (bestAt b i).1) (i + (bestAt b i).1) rfl (by omega) (by omega) (by omega)
        rw [pk_copy hlt h3, List.length_append, lit_len b hf (by omega), List.length_cons, List.length_cons]
        split <;> omega
      · by_cases hf8 : i + 1 - f = 128
        · have := ih _ (by omega) (i + 1) (i + 1) rfl (by omega) (by omega) (by omega)
          rw [pk_full hlt (by omega) hf8, List.length_append, lit_len b (by omega) (by omega), if_pos (by omega)]
          omega
        · rw [pk_step hlt (by omega) hf8]
          exact ih _ (by omega) f (i + 1) rfl (by omega) (by omega) (by omega)
    · rw [pk_end hge, lit_len b (by omega) (by omega)]
      split <;> omega
theorem pack_bounded (b : Bytes) : (pack b).length ≤ b.length + (b.length + 127) / 128 := by
  have := pk_bounded b _ 0 0 rfl (by omega) (by omega) (by omega)
  simpa [pack] using this
end Iv
namespace Iv
open Go.RowKit (wrap64)
theorem wrap64_i64 (n : Int) : inI64 (wrap64 n) := by
  unfold inI64 wrap64
  omega
theorem wrap64_of {n : Int} (h : inI64 n) : wrap64 n = n := by
  unfold inI64 at h
  unfold wrap64
  omega
theorem wrap64_sub_add (a b : Int) : wrap64 (b + wrap64 (a - b)) = wrap64 a := by
  unfold wrap64
  omega
theorem wrap64_add_sub {b d : Int} (h : inI64 d) : wrap64 (wrap64 (b + d) - b) = d := by
  unfold inI64 at h
  unfold wrap64
  omega
structure Ev where
  thread : Int
  kind : Int
  obj : Int
  value : Int
  site : Int
  deps : List Int
  from_ : List Int
structure Rec where
  seq : Int
  ev : Ev
def allI64 (l : List Int) : Prop := ∀ n ∈ l, inI64 n
def putDeltas (last : Int) : List Int → Bytes
  | [] => []
  | k :: t => putI (wrap64 (k - last)) ++ putDeltas k t
def putL (l : List Int) : Bytes := putI l.length ++ putDeltas 0 l
def putRec (r : Rec) (seq : Int) : Bytes :=
  putI (wrap64 (r.seq - seq)) ++ (putI r.ev.kind ++ (putI r.ev.obj ++ (putI r.ev.value ++ (putI r.ev.site ++ (putL r.ev.deps ++ putL r.ev.from_)))))
structure Rd where
  at_ : Nat
  err : Int
def rdNum (b : Bytes) (s : Rd) : Int × Rd :=
  if s.err = 0 then
    if (getI (b.drop s.at_)).2.2 = 0 then ((getI (b.drop s.at_)).1, ⟨s.at_ + (getI (b.drop s.at_)).2.1, 0⟩) else (0, ⟨s.at_, (getI (b.drop s.at_)).2.2⟩)
  else (0, s)
def rdItems (b : Bytes) : Nat → Int → Rd → List Int × Rd
  | 0, _, s => ([], s)
  | n + 1, last, s =>
    if s.err = 0 then
      (wrap64 (last + (rdNum b s).1) :: (rdItems b n (wrap64 (last + (rdNum b s).1)) (rdNum b s).2).1, (rdItems b n (wrap64 (last + (rdNum b s).1)) (rdNum b s).2).2)
    else ([], s)
def rdCheck (p : Int × Rd) : Rd := if p.2.err = 0 ∧ (p.1 < 0 ∨ 400 < p.1) then ⟨p.2.at_, 11⟩ else p.2
def rdList (b : Bytes) (s : Rd) : List Int × Rd := rdItems b (rdNum b s).1.toNat 0 (rdCheck (rdNum b s))
structure RdAll where
  s0 : Int × Rd
  s1 : Int × Rd
  s2 : Int × Rd
  s3 : Int × Rd
  s4 : Int × Rd
  l5 : List Int × Rd
  l6 : List Int × Rd
def rdAll (b : Bytes) : RdAll :=
  let s0 := rdNum b ⟨0, 0⟩
  let s1 := rdNum b s0.2
  let s2 := rdNum b s1.2
  let s3 := rdNum b s2.2
  let s4 := rdNum b s3.2
  let l5 := rdList b s4.2
  let l6 := rdList b l5.2
  ⟨s0, s1, s2, s3, s4, l5, l6⟩
def zeroEv : Ev := ⟨0, 0, 0, 0, 0, [], []⟩
def zeroRec : Rec := ⟨0, zeroEv⟩
def getRec (b : Bytes) (thread seq : Int) : Rec × Nat × Int :=
  let a := rdAll b
  if a.l6.2.err = 0 then (⟨wrap64 (seq + a.s0.1), ⟨thread, a.s1.1, a.s2.1, a.s3.1, a.s4.1, a.l5.1, a.l6.1⟩⟩, a.l6.2.at_, 0) else (zeroRec, 0, a.l6.2.err)
theorem rdNum_bad {b : Bytes} {s : Rd} (h : s.err ≠ 0) : rdNum b s = (0, s) := by unfold rdNum; rw [if_neg h]
theorem rdNum_put {b rest : Bytes} {s : Rd} {n : Int} (hn : inI64 n) (he : s.err = 0) (hb : b.drop s.at_ = putI n ++ rest) :
    rdNum b s = (n, ⟨s.at_ + (putI n).length, 0⟩) := by
  unfold rdNum
  rw [if_pos he, hb, getI_putI hn]
  rfl
theorem drop_next {b x rest : Bytes} {k : Nat} (h : b.drop k = x ++ rest) : b.drop (k + x.length) = rest := by
  rw [← List.drop_drop, h, List.drop_left]
theorem rdItems_bad {b : Bytes} {n : Nat} {last : Int} {s : Rd} (h : s.err ≠ 0) : rdItems b n last s = ([], s) := by
  cases n with
  | zero => rfl
  | succ n => rw [rdItems, if_neg h]
theorem rdList_bad {b : Bytes} {s : Rd} (h : s.err ≠ 0) : rdList b s = ([], s) := by
  unfold rdList rdCheck
  rw [rdNum_bad h]
  simp [rdItems]
theorem rdItems_put {b : Bytes} (l : List Int) : ∀ (last : Int) (s : Rd) (rest : Bytes), allI64 l → s.err = 0 → b.drop s.at_ = putDeltas last l ++ rest →
    rdItems b l.length last s = (l, ⟨s.at_ + (putDeltas last l).length, 0⟩) := by
  induction l with
  | nil =>
    intro last s rest _ he _
    have : s = ⟨s.at_, 0⟩ := by cases s; simp_all
    simp only [List.length_nil, rdItems, putDeltas, Nat.add_zero]
    rw [← this]
  | cons k t ih =>
    intro last s rest hl he hb
    simp only [putDeltas, List.append_assoc] at hb
    have h1 := rdNum_put (s := s) (wrap64_i64 (k - last)) he hb
    have hk : inI64 k := hl k (by simp)
    simp only [List.length_cons, rdItems]
    rw [if_pos he, h1]
    dsimp only
    rw [wrap64_sub_add, wrap64_of hk]
    rw [ih k ⟨s.at_ + (putI (wrap64 (k - last))).length, 0⟩ rest (fun n hn => hl n (by simp [hn])) rfl (drop_next hb)]
    simp only [putDeltas, List.length_append, Nat.add_assoc]
theorem rdList_put {b : Bytes} {l : List Int} {s : Rd} {rest : Bytes} (hl : allI64 l) (hlen : l.length ≤ 400) (he : s.err = 0) (hb : b.drop s.at_ = putL l ++ rest) :
    rdList b s = (l, ⟨s.at_ + (putL l).length, 0⟩) := by
  unfold putL at hb ⊢
  rw [List.append_assoc] at hb
  have h1 := rdNum_put (s := s) (n := (l.length : Int)) ⟨by omega, by omega⟩ he hb
  unfold rdList rdCheck
  rw [h1]
  dsimp only
  rw [if_neg (by omega), Int.toNat_natCast, rdItems_put l 0 ⟨s.at_ + (putI l.length).length, 0⟩ rest hl rfl (drop_next hb)]
  simp only [List.length_append, Nat.add_assoc]
structure RecOk (r : Rec) : Prop where
  seq : inI64 r.seq
  thread : inI64 r.ev.thread
  kind : inI64 r.ev.kind
  obj : inI64 r.ev.obj
  value : inI64 r.ev.value
  site : inI64 r.ev.site
  deps : allI64 r.ev.deps
  from_ : allI64 r.ev.from_
  ld : r.ev.deps.length ≤ 400
  lf : r.ev.from_.length ≤ 400
theorem rdAll_put {r : Rec} (h : RecOk r) (seq : Int) (more : Bytes) :
    (rdAll (putRec r seq ++ more)).s0.1 = wrap64 (r.seq - seq) ∧ (rdAll (putRec r seq ++ more)).s1.1 = r.ev.kind ∧ (rdAll (putRec r seq ++ more)).s2.1 = r.ev.obj ∧
    (rdAll (putRec r seq ++ more)).s3.1 = r.ev.value ∧ (rdAll (putRec r seq ++ more)).s4.1 = r.ev.site ∧ (rdAll (putRec r seq ++ more)).l5.1 = r.ev.deps ∧
    (rdAll (putRec r seq ++ more)).l6 = (r.ev.from_, ⟨(putRec r seq).length, 0⟩) := by
  generalize hb : putRec r seq ++ more = b
  have hb0 : b.drop 0 = _ := hb.symm
  simp only [putRec, List.append_assoc] at hb0
  have h0 := rdNum_put (s := ⟨0, 0⟩) (wrap64_i64 _) rfl hb0
  have hb1 := drop_next hb0
  have h1 := rdNum_put (s := ⟨_, 0⟩) h.kind rfl hb1
  have hb2 := drop_next hb1
  have h2 := rdNum_put (s := ⟨_, 0⟩) h.obj rfl hb2
  have hb3 := drop_next hb2
  have h3 := rdNum_put (s := ⟨_, 0⟩) h.value rfl hb3
  have hb4 := drop_next hb3
  have h4 := rdNum_put (s := ⟨_, 0⟩) h.site rfl hb4
  have hb5 := drop_next hb4
  have h5 := rdList_put (s := ⟨_, 0⟩) h.deps h.ld rfl hb5
  have hb6 := drop_next hb5
  have h6 := rdList_put (s := ⟨_, 0⟩) h.from_ h.lf rfl hb6
  unfold rdAll
  simp only [h0, h1, h2, h3, h4, h5, h6]
  refine ⟨trivial, trivial, trivial, trivial, trivial, trivial, ?_⟩
  congr 2
  simp only [putRec, List.length_append]
  omega
theorem getRec_put {r : Rec} (h : RecOk r) (seq : Int) (more : Bytes) : getRec (putRec r seq ++ more) r.ev.thread seq = (r, (putRec r seq).length, 0) := by
  obtain ⟨e0, e1, e2, e3, e4, e5, e6⟩ := rdAll_put h seq more
  unfold getRec
  simp only [e0, e1, e2, e3, e4, e5, e6]
  simp only [if_true]
  rw [wrap64_sub_add, wrap64_of h.seq]
theorem rdNum_ok {b : Bytes} {s : Rd} (h : (rdNum b s).2.err = 0) : s.err = 0 := by
  by_cases h0 : s.err = 0
  · exact h0
  · rw [rdNum_bad h0] at h; exact h
theorem rdItems_ok {b : Bytes} {n : Nat} {last : Int} {s : Rd} (h : (rdItems b n last s).2.err = 0) : s.err = 0 := by
  by_cases h0 : s.err = 0
  · exact h0
  · rw [rdItems_bad h0] at h; exact h
theorem rdList_ok {b : Bytes} {s : Rd} (h : (rdList b s).2.err = 0) : s.err = 0 := by
  by_cases h0 : s.err = 0
  · exact h0
  · rw [rdList_bad h0] at h; exact h
theorem rdNum_once {b : Bytes} {s : Rd} (h : (rdNum b s).2.err = 0) : inI64 (rdNum b s).1 ∧ (rdNum b s).2 = ⟨s.at_ + (putI (rdNum b s).1).length, 0⟩ ∧
    (b.drop s.at_).take (putI (rdNum b s).1).length = putI (rdNum b s).1 ∧ (putI (rdNum b s).1).length ≤ (b.drop s.at_).length := by
  have h0 := rdNum_ok h
  unfold rdNum at h ⊢
  rw [if_pos h0] at h ⊢
  by_cases h1 : (getI (b.drop s.at_)).2.2 = 0
  · rw [if_pos h1]
    have := getI_once (l := b.drop s.at_) (n := (getI (b.drop s.at_)).1) (k := (getI (b.drop s.at_)).2.1) (by rw [← h1])
    obtain ⟨a1, a2, a3, a4, a5⟩ := this
    dsimp only
    rw [← a2]
    exact ⟨a1, rfl, a5, a4⟩
  · rw [if_neg h1] at h
    exact absurd h h1
theorem take_take_append {b x y : Bytes} {k : Nat} (h1 : (b.drop k).take x.length = x) (_hx : x.length ≤ (b.drop k).length) (h2 : (b.drop (k + x.length)).take y.length = y) :
    (b.drop k).take (x.length + y.length) = x ++ y := by
  rw [List.take_add, h1, List.drop_drop, h2]
def Piece (b : Bytes) (k : Nat) (x : Bytes) : Prop := (b.drop k).take x.length = x ∧ x.length ≤ (b.drop k).length
theorem Piece.nil (b : Bytes) (k : Nat) : Piece b k [] := ⟨rfl, by simp⟩
theorem Piece.cat {b x y : Bytes} {k : Nat} (h : Piece b k x) (h' : Piece b (k + x.length) y) : Piece b k (x ++ y) := by
  refine ⟨?_, ?_⟩
  · rw [List.length_append]; exact take_take_append h.1 h.2 h'.1
  · have h1 := h.2
    have h2 := h'.2
    simp only [List.length_drop, List.length_append] at *
    omega
theorem rdNum_piece {b : Bytes} {s : Rd} (h : (rdNum b s).2.err = 0) : inI64 (rdNum b s).1 ∧ (rdNum b s).2 = ⟨s.at_ + (putI (rdNum b s).1).length, 0⟩ ∧ Piece b s.at_ (putI (rdNum b s).1) :=
  let ⟨a, c, d, e⟩ := rdNum_once h
  ⟨a, c, d, e⟩
theorem rdItems_once {b : Bytes} (n : Nat) : ∀ (last : Int) (s : Rd), (rdItems b n last s).2.err = 0 →
    allI64 (rdItems b n last s).1 ∧ (rdItems b n last s).1.length = n ∧ (rdItems b n last s).2 = ⟨s.at_ + (putDeltas last (rdItems b n last s).1).length, 0⟩ ∧ Piece b s.at_ (putDeltas last (rdItems b n last s).1) := by
  induction n with
  | zero =>
    intro last s h
    refine ⟨by intro k hk; simp [rdItems] at hk, rfl, ?_, Piece.nil b _⟩
    cases s
    simp only [rdItems] at h ⊢
    simp_all [putDeltas]
  | succ n ih =>
    intro last s h
    have h0 := rdItems_ok h
    simp only [rdItems] at h ⊢
    rw [if_pos h0] at h ⊢
    dsimp only at h ⊢
    have h1 := rdItems_ok h
    obtain ⟨i1, i2, i3, i4⟩ := ih _ _ h
    obtain ⟨n1, n2, n3⟩ := rdNum_piece h1
    have hd : wrap64 (wrap64 (last + (rdNum b s).1) - last) = (rdNum b s).1 := wrap64_add_sub n1
    refine ⟨?_, by rw [List.length_cons, i2], ?_, ?_⟩
    · intro k hk
      rcases List.mem_cons.1 hk with rfl | hk
      · exact wrap64_i64 _
      · exact i1 k hk
    · rw [i3]
      simp only [putDeltas, hd, List.length_append]
      rw [n2]
      dsimp only
      congr 1
      omega
    · simp only [putDeltas, hd]
      refine n3.cat ?_
      rw [n2] at i4 ⊢
      exact i4
theorem rdList_once {b : Bytes} {s : Rd} (h : (rdList b s).2.err = 0) : allI64 (rdList b s).1 ∧ (rdList b s).1.length ≤ 400 ∧
    (rdList b s).2 = ⟨s.at_ + (putL (rdList b s).1).length, 0⟩ ∧ Piece b s.at_ (putL (rdList b s).1) := by
  unfold rdList at h ⊢
  have h1 := rdItems_ok h
  have hc : ¬ ((rdNum b s).2.err = 0 ∧ ((rdNum b s).1 < 0 ∨ 400 < (rdNum b s).1)) := by
    intro hc
    unfold rdCheck at h1
    rw [if_pos hc] at h1
    simp at h1
  have he : rdCheck (rdNum b s) = (rdNum b s).2 := by unfold rdCheck; rw [if_neg hc]
  rw [he] at h h1 ⊢
  obtain ⟨n1, n2, n3⟩ := rdNum_piece h1
  obtain ⟨i1, i2, i3, i4⟩ := rdItems_once _ _ _ h
  have hn : ((rdNum b s).1.toNat : Int) = (rdNum b s).1 := by omega
  generalize hl : (rdItems b (rdNum b s).1.toNat 0 (rdNum b s).2) = l at *
  have hp : putL l.1 = putI (rdNum b s).1 ++ putDeltas 0 l.1 := by unfold putL; rw [i2, hn]
  refine ⟨i1, by omega, ?_, ?_⟩
  · rw [i3, hp, n2, List.length_append]
    dsimp only
    congr 1
    omega
  · rw [hp]
    refine n3.cat ?_
    rw [n2] at i4
    exact i4
theorem getRec_once {b : Bytes} {thread seq : Int} {r : Rec} {k : Nat} (ht : inI64 thread) (h : getRec b thread seq = (r, k, 0)) :
    RecOk r ∧ r.ev.thread = thread ∧ k = (putRec r seq).length ∧ 1 ≤ k ∧ k ≤ b.length ∧ b.take k = putRec r seq := by
  unfold getRec at h
  dsimp only at h
  by_cases he : (rdAll b).l6.2.err = 0
  · rw [if_pos he] at h
    simp only [Prod.mk.injEq] at h
    obtain ⟨hr, hk, _⟩ := h
    unfold rdAll at he hr hk
    dsimp only at he hr hk
    obtain ⟨f1, f2, f3, f4⟩ := rdList_once he
    have he5 := rdList_ok he
    obtain ⟨d1, d2, d3, d4⟩ := rdList_once he5
    have he4 := rdList_ok he5
    obtain ⟨g1, g2, g3⟩ := rdNum_piece he4
    have he3 := rdNum_ok he4
    obtain ⟨v1, v2, v3⟩ := rdNum_piece he3
    have he2 := rdNum_ok he3
    obtain ⟨o1, o2, o3⟩ := rdNum_piece he2
    have he1 := rdNum_ok he2
    obtain ⟨k1, k2, k3⟩ := rdNum_piece he1
    have he0 := rdNum_ok he1
    obtain ⟨q1, q2, q3⟩ := rdNum_piece he0
    generalize rdNum b ⟨0, 0⟩ = S0 at *
    generalize rdNum b S0.2 = S1 at *
    generalize rdNum b S1.2 = S2 at *
    generalize rdNum b S2.2 = S3 at *
    generalize rdNum b S3.2 = S4 at *
    generalize rdList b S4.2 = L5 at *
    generalize rdList b L5.2 = L6 at *
    have hp : Piece b 0 (putRec r seq) := by
      rw [← hr]
      unfold putRec
      dsimp only
      rw [wrap64_add_sub q1]
      refine q3.cat ?_
      rw [q2] at k3 k2
      refine k3.cat ?_
      rw [k2] at o3 o2
      refine o3.cat ?_
      rw [o2] at v3 v2
      refine v3.cat ?_
      rw [v2] at g3 g2
      refine g3.cat ?_
      rw [g2] at d4 d3
      refine d4.cat ?_
      rw [d3] at f4
      exact f4
    have hlen : k = (putRec r seq).length := by
      rw [← hk, f3, d3, g2, v2, o2, k2, q2, ← hr]
      unfold putRec
      dsimp only
      rw [wrap64_add_sub q1]
      simp only [List.length_append]
      omega
    have hpos : 1 ≤ (putRec r seq).length := by
      unfold putRec
      rw [List.length_append]
      have := putI_pos (wrap64 (r.seq - seq))
      omega
    refine ⟨?_, by rw [← hr], hlen, by omega, ?_, ?_⟩
    · rw [← hr]
      exact ⟨wrap64_i64 _, ht, k1, o1, v1, g1, d1, f1, d2, f2⟩
    · have := hp.2; simp at this; omega
    · rw [hlen]; have := hp.1; simpa using this
  · rw [if_neg he] at h
    simp only [Prod.mk.injEq] at h
    exact absurd h.2.2 he
theorem putDeltas_len (l : List Int) : ∀ last, (putDeltas last l).length ≤ 10 * l.length := by
  induction l with
  | nil => intro last; simp [putDeltas]
  | cons k t ih =>
    intro last
    have := ih k
    have := putI_len (wrap64_i64 (k - last))
    simp only [putDeltas, List.length_append, List.length_cons]
    omega
theorem putL_len (l : List Int) (h : l.length ≤ 400) : (putL l).length ≤ 4010 := by
  unfold putL
  have := putDeltas_len l 0
  have := putI_len (n := (l.length : Int)) ⟨by omega, by omega⟩
  simp only [List.length_append]
  omega
theorem putRec_len {r : Rec} (h : RecOk r) (seq : Int) : (putRec r seq).length ≤ 8070 := by
  unfold putRec
  have := putI_len (wrap64_i64 (r.seq - seq))
  have := putI_len h.kind
  have := putI_len h.obj
  have := putI_len h.value
  have := putI_len h.site
  have := putL_len _ h.ld
  have := putL_len _ h.lf
  simp only [List.length_append]
  omega
end Iv
namespace Iv
open Go.RowKit (wrap64)
structure Blk where
  thread : Int
  first : Int
  recs : List Rec
def zeroBlk : Blk := ⟨0, 0, []⟩
def okRecs (thread : Int) : Int → List Rec → Bool
  | _, [] => true
  | seq, r :: t => decide (r.ev.thread = thread) && decide (seq < r.seq) && decide (r.ev.deps.length ≤ 400) && decide (r.ev.from_.length ≤ 400) && okRecs thread r.seq t
def okBlk (x : Blk) : Bool := decide (0 < x.recs.length) && decide (0 ≤ x.thread) && decide (x.thread < 4) && decide (0 ≤ x.first) && decide (x.first ≤ 400) && okRecs x.thread (-1) x.recs
def fits (x : Blk) : Int := if 64 < x.recs.length then 2 else if okBlk x then 0 else 1
def putRecs : Int → List Rec → Bytes
  | _, [] => []
  | seq, r :: t => putRec r seq ++ putRecs r.seq t
def sum4 (c : Nat) : Bytes := [UInt8.ofNat (c / 16777216), UInt8.ofNat (c / 65536), UInt8.ofNat (c / 256), UInt8.ofNat c]
def headBytes (thread first n size packed : Int) : Bytes := 84 :: UInt8.ofNat (thread % 256).toNat :: (putI first ++ (putI n ++ (putI size ++ putI packed)))
def blkBody (x : Blk) : Bytes :=
  headBytes x.thread x.first x.recs.length (putRecs (-1) x.recs).length (pack (putRecs (-1) x.recs)).length ++ pack (putRecs (-1) x.recs)
def blkBytes (x : Blk) : Bytes := blkBody x ++ sum4 (crc (blkBody x))
def encode (x : Blk) : Bytes × Int := if fits x = 0 then (blkBytes x, 0) else ([], fits x)
def getRecs (thread : Int) : Nat → Int → Bytes → Option (List Rec × Bytes)
  | 0, _, b => some ([], b)
  | n + 1, seq, b =>
    if (getRec b thread seq).2.2 = 0 then
      match getRecs thread n (getRec b thread seq).1.seq (b.drop (getRec b thread seq).2.1) with
      | some (l, t) => some ((getRec b thread seq).1 :: l, t)
      | none => none
    else none
structure Head where
  first : Int × Rd
  n : Int × Rd
  size : Int × Rd
  packed : Int × Rd
def getHead (b : Bytes) : Head :=
  let a0 := rdNum b ⟨2, 0⟩
  let a1 := rdNum b a0.2
  let a2 := rdNum b a1.2
  let a3 := rdNum b a2.2
  ⟨a0, a1, a2, a3⟩
def headBad (t : UInt8) (h : Head) : Bool :=
  decide (4 ≤ t.toNat) || decide (h.first.1 < 0) || decide (400 < h.first.1) || decide (h.n.1 < 1) || decide (64 < h.n.1) || decide (h.size.1 < 0) || decide (1048576 < h.size.1) || decide (h.packed.1 < 0) || decide (1048576 < h.packed.1)
def tailP (b : Bytes) (t : UInt8) (first : Int) (n : Nat) (size : Int) (from_ end_ : Nat) : Blk × Nat × Int :=
  let p := unpack ((b.take end_).drop from_) size
  if p.2 = 0 ∧ (p.1.length : Int) = size then
    match getRecs t.toNat n (-1) p.1 with
    | some (l, []) => if encode ⟨t.toNat, first, l⟩ = (b.take (end_ + 4), 0) then (⟨t.toNat, first, l⟩, end_ + 4, 0) else (zeroBlk, 0, 11)
    | _ => (zeroBlk, 0, 11)
  else (zeroBlk, 0, 11)
def tailR (b : Bytes) (t : UInt8) (first : Int) (n : Nat) (size : Int) (from_ end_ : Nat) : Blk × Nat × Int :=
  let p := unpack ((b.take end_).drop from_) size
  if p.2 = 0 then
    match getRecs t.toNat n (-1) p.1 with
    | some (l, []) => if encode ⟨t.toNat, first, l⟩ = (b.take (end_ + 4), 0) then (⟨t.toNat, first, l⟩, end_ + 4, 0) else (zeroBlk, 0, 11)
    | _ => (zeroBlk, 0, 11)
  else (zeroBlk, 0, 11)
def decodeBy (tail : Bytes → UInt8 → Int → Nat → Int → Nat → Nat → Blk × Nat × Int) (b : Bytes) : Blk × Nat × Int :=
  match b with
  | [] => (zeroBlk, 0, 9)
  | x :: u =>
    if x.toNat ≠ 84 then (zeroBlk, 0, 11)
    else match u with
      | [] => (zeroBlk, 0, 9)
      | t :: _ =>
        if (getHead b).packed.2.err ≠ 0 then (zeroBlk, 0, (getHead b).packed.2.err)
        else if headBad t (getHead b) then (zeroBlk, 0, 11)
        else if b.length < (getHead b).packed.2.at_ + (getHead b).packed.1.toNat + 4 then (zeroBlk, 0, 9)
        else if (b.drop ((getHead b).packed.2.at_ + (getHead b).packed.1.toNat)).take 4 ≠ sum4 (crc (b.take ((getHead b).packed.2.at_ + (getHead b).packed.1.toNat))) then (zeroBlk, 0, 10)
        else tail b t (getHead b).first.1 (getHead b).n.1.toNat (getHead b).size.1 (getHead b).packed.2.at_ ((getHead b).packed.2.at_ + (getHead b).packed.1.toNat)
def decode (b : Bytes) : Blk × Nat × Int := decodeBy tailP b
def decodeR (b : Bytes) : Blk × Nat × Int := decodeBy tailR b
theorem getRecs_once (thread : Int) (ht : inI64 thread) (n : Nat) : ∀ (seq : Int) (b : Bytes) (l : List Rec) (t : Bytes), getRecs thread n seq b = some (l, t) →
    l.length = n ∧ b = putRecs seq l ++ t ∧ (∀ r ∈ l, RecOk r ∧ r.ev.thread = thread) := by
  induction n with
  | zero =>
    intro seq b l t h
    simp only [getRecs, Option.some.injEq, Prod.mk.injEq] at h
    obtain ⟨rfl, rfl⟩ := h
    exact ⟨rfl, rfl, fun r hr => by simp at hr⟩
  | succ n ih =>
    intro seq b l t h
    simp only [getRecs] at h
    by_cases he : (getRec b thread seq).2.2 = 0
    · rw [if_pos he] at h
      cases hg : getRecs thread n (getRec b thread seq).1.seq (b.drop (getRec b thread seq).2.1) with
      | none => rw [hg] at h; simp at h
      | some p =>
        obtain ⟨l', t'⟩ := p
        rw [hg] at h
        simp only [Option.some.injEq, Prod.mk.injEq] at h
        obtain ⟨rfl, rfl⟩ := h
        obtain ⟨i1, i2, i3⟩ := ih _ _ _ _ hg
        have := getRec_once (b := b) (thread := thread) (seq := seq) (r := (getRec b thread seq).1) (k := (getRec b thread seq).2.1) ht (by rw [← he])
        obtain ⟨r1, r2, r3, _, r5, r6⟩ := this
        refine ⟨by simp [i1], ?_, ?_⟩
        · simp only [putRecs, List.append_assoc]
          rw [← i2, ← r6, List.take_append_drop]
        · intro r hr
          rcases List.mem_cons.1 hr with rfl | hr
          · exact ⟨r1, r2⟩
          · exact i3 r hr
    · rw [if_neg he] at h
      simp at h
theorem getRecs_put (thread : Int) (l : List Rec) : ∀ (seq : Int) (rest : Bytes), (∀ r ∈ l, RecOk r ∧ r.ev.thread = thread) → getRecs thread l.length seq (putRecs seq l ++ rest) = some (l, rest) := by
  induction l with
  | nil => intro seq rest _; rfl
  | cons r t ih =>
    intro seq rest h
    have hr := h r (by simp)
    have hg : getRec (putRec r seq ++ (putRecs r.seq t ++ rest)) thread seq = (r, (putRec r seq).length, 0) := by rw [← hr.2]; exact getRec_put hr.1 seq _
    simp only [List.length_cons, getRecs, putRecs, List.append_assoc]
    rw [hg]
    simp only [if_true]
    rw [List.drop_left, ih r.seq rest fun q hq => h q (by simp [hq])]
theorem getHead_put {b rest : Bytes} {t0 t1 : UInt8} {first n size packed : Int} (h1 : inI64 first) (h2 : inI64 n) (h3 : inI64 size) (h4 : inI64 packed)
    (hb : b = t0 :: t1 :: (putI first ++ (putI n ++ (putI size ++ putI packed))) ++ rest) :
    (getHead b).first.1 = first ∧ (getHead b).n.1 = n ∧ (getHead b).size.1 = size ∧
      (getHead b).packed = (packed, ⟨2 + ((putI first).length + ((putI n).length + ((putI size).length + (putI packed).length))), 0⟩) := by
  have hb0 : b.drop 2 = putI first ++ (putI n ++ (putI size ++ (putI packed ++ rest))) := by rw [hb]; simp
  have a0 := rdNum_put (s := ⟨2, 0⟩) h1 rfl hb0
  have hb1 := drop_next hb0
  have a1 := rdNum_put (s := ⟨_, 0⟩) h2 rfl hb1
  have hb2 := drop_next hb1
  have a2 := rdNum_put (s := ⟨_, 0⟩) h3 rfl hb2
  have hb3 := drop_next hb2
  have a3 := rdNum_put (s := ⟨_, 0⟩) h4 rfl hb3
  unfold getHead
  simp only [a0, a1, a2, a3]
  refine ⟨trivial, trivial, trivial, ?_⟩
  congr 2
  omega
theorem headBad_false {t : UInt8} {h : Head} (hh : headBad t h = false) : t.toNat < 4 ∧ 0 ≤ h.first.1 ∧ h.first.1 ≤ 400 ∧ 1 ≤ h.n.1 ∧ h.n.1 ≤ 64 ∧ 0 ≤ h.size.1 ∧ h.size.1 ≤ 1048576 ∧ 0 ≤ h.packed.1 ∧ h.packed.1 ≤ 1048576 := by
  unfold headBad at hh
  simp only [Bool.or_eq_false_iff, decide_eq_false_iff_not] at hh
  omega
theorem sum4_len (c : Nat) : (sum4 c).length = 4 := rfl
theorem head_of_encode {b : Bytes} {x : Blk} {k : Nat} (hf : inI64 x.first) (hn : x.recs.length ≤ 64) (hs : (putRecs (-1) x.recs).length ≤ 4611686018427387904) (hk : b.take k = blkBytes x) :
    (getHead b).size.1 = (putRecs (-1) x.recs).length := by
  have hp := pack_bounded (putRecs (-1) x.recs)
  have hb : b = 84 :: UInt8.ofNat (x.thread % 256).toNat :: (putI x.first ++ (putI x.recs.length ++ (putI (putRecs (-1) x.recs).length ++ putI (pack (putRecs (-1) x.recs)).length))) ++
      (pack (putRecs (-1) x.recs) ++ (sum4 (crc (blkBody x)) ++ b.drop k)) := by
    conv => lhs; rw [← List.take_append_drop k b, hk]
    unfold blkBytes blkBody headBytes
    simp only [List.append_assoc, List.cons_append]
  exact (getHead_put hf ⟨by omega, by omega⟩ ⟨by omega, by omega⟩ ⟨by omega, by omega⟩ hb).2.2.1
theorem encode_ok {x : Blk} {y : Bytes} (h : encode x = (y, 0)) : fits x = 0 ∧ y = blkBytes x := by
  unfold encode at h
  by_cases hf : fits x = 0
  · rw [if_pos hf] at h
    simp only [Prod.mk.injEq] at h
    exact ⟨hf, h.1.symm⟩
  · rw [if_neg hf] at h
    simp only [Prod.mk.injEq] at h
    exact absurd h.2 hf
theorem tails_same {b : Bytes} {t : UInt8} {first : Int} {n : Nat} {from_ end_ : Nat} (hf : inI64 first) (hsz : (getHead b).size.1 ≤ 1048576) :
    tailP b t first n (getHead b).size.1 from_ end_ = tailR b t first n (getHead b).size.1 from_ end_ := by
  unfold tailP tailR
  dsimp only
  generalize hp : unpack ((b.take end_).drop from_) (getHead b).size.1 = p
  by_cases h0 : p.2 = 0
  · by_cases hl : (p.1.length : Int) = (getHead b).size.1
    · rw [if_pos ⟨h0, hl⟩, if_pos h0]
    · rw [if_neg (fun h => hl h.2), if_pos h0]
      cases hg : getRecs t.toNat n (-1) p.1 with
      | none => rfl
      | some q =>
        obtain ⟨l, u⟩ := q
        cases u with
        | cons => rfl
        | nil =>
          dsimp only
          split
          · rename_i he
            obtain ⟨hfit, hy⟩ := encode_ok he
            have ht := byte_lt t
            obtain ⟨g1, g2, _⟩ := getRecs_once t.toNat ⟨by omega, by omega⟩ n _ _ _ _ hg
            have h64 : l.length ≤ 64 := by
              unfold fits at hfit
              by_cases hh : 64 < l.length
              · rw [if_pos (show 64 < (⟨t.toNat, first, l⟩ : Blk).recs.length from hh)] at hfit; simp at hfit
              · omega
            have hpl : p.1 = putRecs (-1) l := by simpa using g2
            have hbig : (putRecs (-1) l).length ≤ 4611686018427387904 := by
              have := unpack_room (l := (b.take end_).drop from_) (o := p.1) (most := (getHead b).size.1) (by rw [hp, ← h0])
              rw [← hpl]
              omega
            have := head_of_encode (b := b) (x := ⟨t.toNat, first, l⟩) (k := end_ + 4) hf h64 hbig hy
            exact absurd (by rw [hpl]; exact this.symm) hl
          · rfl
  · rw [if_neg (fun h => h0 h.1), if_neg h0]
theorem decode_same (b : Bytes) : decode b = decodeR b := by
  unfold decode decodeR decodeBy
  match b with
  | [] => rfl
  | x :: u =>
    dsimp only
    split
    · rfl
    · match u with
      | [] => rfl
      | t :: v =>
        dsimp only
        split
        · rfl
        · split
          · rfl
          · rename_i he hb
            have hbad := headBad_false (by simpa using hb)
            split
            · rfl
            · split
              · rfl
              · exact tails_same ⟨by omega, by omega⟩ (by omega)
theorem okRecs_thread (thread : Int) (l : List Rec) : ∀ seq, okRecs thread seq l = true → ∀ r ∈ l, r.ev.thread = thread ∧ r.ev.deps.length ≤ 400 ∧ r.ev.from_.length ≤ 400 ∧ seq < r.seq := by
  induction l with
  | nil => intro seq _ r hr; simp at hr
  | cons q t ih =>
    intro seq h r hr
    simp only [okRecs, Bool.and_eq_true, decide_eq_true_eq] at h
    rcases List.mem_cons.1 hr with rfl | hr
    · exact ⟨h.1.1.1.1, h.1.1.2, h.1.2, h.1.1.1.2⟩
    · have := ih _ h.2 r hr
      exact ⟨this.1, this.2.1, this.2.2.1, by omega⟩
theorem fits_zero {x : Blk} (h : fits x = 0) : 0 < x.recs.length ∧ x.recs.length ≤ 64 ∧ 0 ≤ x.thread ∧ x.thread < 4 ∧ 0 ≤ x.first ∧ x.first ≤ 400 ∧ okRecs x.thread (-1) x.recs = true := by
  unfold fits at h
  by_cases h1 : 64 < x.recs.length
  · rw [if_pos h1] at h; simp at h
  · rw [if_neg h1] at h
    by_cases h2 : okBlk x = true
    · unfold okBlk at h2
      simp only [Bool.and_eq_true, decide_eq_true_eq] at h2
      obtain ⟨⟨⟨⟨⟨a, b⟩, c⟩, d⟩, e⟩, f⟩ := h2
      exact ⟨a, by omega, b, c, d, e, f⟩
    · rw [if_neg h2] at h; simp at h
theorem putRecs_len (l : List Rec) : ∀ seq, (∀ r ∈ l, RecOk r) → (putRecs seq l).length ≤ 8070 * l.length := by
  induction l with
  | nil => intro seq _; simp [putRecs]
  | cons r t ih =>
    intro seq h
    have h1 := putRec_len (h r (by simp)) seq
    have h2 := ih r.seq fun q hq => h q (by simp [hq])
    simp only [putRecs, List.length_append, List.length_cons]
    omega
theorem decode_encode {x : Blk} (h : fits x = 0) (hr : ∀ r ∈ x.recs, RecOk r) (more : Bytes) : decode (blkBytes x ++ more) = (x, (blkBytes x).length, 0) := by
  obtain ⟨h1, h2, h3, h4, h5, h6, h7⟩ := fits_zero h
  have hth := okRecs_thread x.thread x.recs (-1) h7
  have hpl := putRecs_len x.recs (-1) hr
  have hpb := pack_bounded (putRecs (-1) x.recs)
  generalize hpay : putRecs (-1) x.recs = pay at *
  have hb : blkBytes x ++ more = 84 :: UInt8.ofNat (x.thread % 256).toNat :: (putI x.first ++ (putI x.recs.length ++ (putI pay.length ++ putI (pack pay).length))) ++
      (pack pay ++ (sum4 (crc (blkBody x)) ++ more)) := by
    unfold blkBytes blkBody headBytes
    rw [hpay]
    simp only [List.append_assoc, List.cons_append]
  have hlb : (blkBody x).length = 2 + ((putI x.first).length + ((putI x.recs.length).length + ((putI pay.length).length + (putI (pack pay).length).length))) + (pack pay).length := by
    unfold blkBody headBytes
    rw [hpay]
    simp only [List.length_append, List.length_cons]
    omega
  obtain ⟨g1, g2, g3, g4⟩ := getHead_put (b := blkBytes x ++ more) ⟨by omega, by omega⟩ ⟨by omega, by omega⟩ ⟨by omega, by omega⟩ ⟨by omega, by omega⟩ hb
  have ht : (UInt8.ofNat (x.thread % 256).toNat).toNat = x.thread.toNat := by rw [ofNat_toNat_lt (by omega)]; omega
  have hbody : (blkBytes x ++ more).take (blkBody x).length = blkBody x := by
    unfold blkBytes
    rw [List.append_assoc, List.take_left]
  have hsum : ((blkBytes x ++ more).drop (blkBody x).length).take 4 = sum4 (crc (blkBody x)) := by
    unfold blkBytes
    rw [List.append_assoc, List.drop_left]
    exact List.take_left' (sum4_len _)
  have hwhole : (blkBytes x ++ more).take ((blkBody x).length + 4) = blkBytes x := List.take_left' (by unfold blkBytes; rw [List.length_append, sum4_len])
  unfold decode
  have hcases : decodeBy tailP (blkBytes x ++ more) = decodeBy tailP (84 :: UInt8.ofNat (x.thread % 256).toNat :: ((putI x.first ++ (putI x.recs.length ++ (putI pay.length ++ putI (pack pay).length))) ++ (pack pay ++ (sum4 (crc (blkBody x)) ++ more)))) := by
    rw [hb]; rfl
  rw [hcases]
  unfold decodeBy
  dsimp only
  have hb' : 84 :: UInt8.ofNat (x.thread % 256).toNat :: ((putI x.first ++ (putI x.recs.length ++ (putI pay.length ++ putI (pack pay).length))) ++ (pack pay ++ (sum4 (crc (blkBody x)) ++ more))) = blkBytes x ++ more := hb.symm
  rw [hb']
  rw [if_neg (by decide)]
  rw [g4]
  dsimp only
  rw [if_neg (by decide)]
  have hbad : headBad (UInt8.ofNat (x.thread % 256).toNat) (getHead (blkBytes x ++ more)) = false := by
    unfold headBad
    rw [g1, g2, g3, g4, ht]
    simp only [Bool.or_eq_false_iff, decide_eq_false_iff_not]
    omega
  rw [hbad]
  simp only [Bool.false_eq_true, if_false]
  rw [Int.toNat_natCast]
  rw [show 2 + ((putI x.first).length + ((putI x.recs.length).length + ((putI pay.length).length + (putI (pack pay).length).length))) + (pack pay).length = (blkBody x).length from hlb.symm]
  rw [if_neg (by unfold blkBytes; rw [List.length_append, List.length_append, sum4_len]; omega)]
  rw [hbody, hsum, if_neg (by simp)]
  rw [g1, g2, g3]
  unfold tailP
  dsimp only
  have hmid : ((blkBytes x ++ more).take (blkBody x).length).drop (2 + ((putI x.first).length + ((putI x.recs.length).length + ((putI pay.length).length + (putI (pack pay).length).length)))) = pack pay := by
    rw [hbody]
    unfold blkBody
    rw [hpay]
    refine List.drop_left' ?_
    unfold headBytes
    simp only [List.length_append, List.length_cons]
    omega
  rw [hmid, unpack_pack]
  dsimp only
  rw [if_pos ⟨rfl, rfl⟩]
  have ht2 : ((UInt8.ofNat (x.thread % 256).toNat).toNat : Int) = x.thread := by rw [ht]; omega
  rw [ht2]
  have hg := getRecs_put x.thread x.recs (-1) [] fun r hr' => ⟨hr r hr', (hth r hr').1⟩
  rw [List.append_nil, hpay] at hg
  rw [Int.toNat_natCast, hg]
  dsimp only
  rw [hwhole]
  have he : encode ⟨x.thread, x.first, x.recs⟩ = (blkBytes x, 0) := by
    unfold encode
    rw [if_pos (show fits ⟨x.thread, x.first, x.recs⟩ = 0 from h)]
  rw [if_pos he]
  have : (blkBody x).length + 4 = (blkBytes x).length := by unfold blkBytes; rw [List.length_append, sum4_len]
  rw [this]
end Iv
namespace Iv
end Iv
namespace Iv
open Go.RowKit (wrap64)
theorem decode_good {b : Bytes} {x : Blk} {k : Nat} (h : decode b = (x, k, 0)) : fits x = 0 ∧ b.take k = blkBytes x ∧ k ≤ b.length ∧ 0 < k := by
  have key : fits x = 0 ∧ b.take k = blkBytes x ∧ k ≤ b.length := by
    unfold decode decodeBy at h
    split at h
    · simp at h
    · split at h
      · simp at h
      · split at h
        · simp at h
        · split at h
          · rename_i he
            simp only [Prod.mk.injEq] at h
            exact absurd h.2.2 he
          · split at h
            · simp at h
            · split at h
              · simp at h
              · rename_i hlen
                split at h
                · simp at h
                · unfold tailP at h
                  dsimp only at h
                  split at h
                  · split at h
                    · split at h
                      · rename_i henc
                        simp only [Prod.mk.injEq] at h
                        obtain ⟨h1, h2, _⟩ := h
                        subst h1 h2
                        obtain ⟨f0, hy⟩ := encode_ok henc
                        refine ⟨f0, hy, by omega⟩
                      · simp at h
                    · simp at h
                  · simp at h
  refine ⟨key.1, key.2.1, key.2.2, ?_⟩
  rcases Nat.eq_zero_or_pos k with h0 | h0
  · have h1 := key.2.1
    rw [h0, List.take_zero] at h1
    unfold blkBytes blkBody headBytes at h1
    simp at h1
  · exact h0
def goodB (th recs last : Int) (d : Blk × Nat × Int) : Bool :=
  decide (d.2.2 = 0) && decide (d.1.thread = th) && decide (d.1.first = recs) && (match d.1.recs with | [] => false | r :: _ => decide (last < r.seq))
def lastSeq (x : Blk) (e : Int) : Int := match x.recs.getLast? with | some r => r.seq | none => e
def blocksOf (th : Int) : Nat → Bytes → Int → Int → List (Blk × Nat)
  | 0, _, _, _ => []
  | f + 1, b, recs, last =>
    if goodB th recs last (decode b) then ((decode b).1, (decode b).2.1) :: blocksOf th f (b.drop (decode b).2.1) (recs + (decode b).1.recs.length) (lastSeq (decode b).1 last) else []
theorem goodB_ok {th recs last : Int} {b : Bytes} (h : goodB th recs last (decode b) = true) : (decode b).2.2 = 0 ∧ (decode b).2.1 ≤ b.length ∧ 0 < (decode b).2.1 ∧ fits (decode b).1 = 0 := by
  unfold goodB at h
  simp only [Bool.and_eq_true, decide_eq_true_eq] at h
  have he : decode b = ((decode b).1, (decode b).2.1, 0) := by
    rw [← h.1.1.1]
  have := decode_good he
  exact ⟨h.1.1.1, this.2.2.1, this.2.2.2, this.1⟩
theorem blocksOf_fuel (th : Int) (f : Nat) : ∀ (g : Nat) (b : Bytes) (recs last : Int), b.length < f → b.length < g → blocksOf th f b recs last = blocksOf th g b recs last := by
  induction f with
  | zero => intro g b recs last h; omega
  | succ f ih =>
    intro g b recs last hf hg
    obtain ⟨g, rfl⟩ : ∃ g', g = g' + 1 := ⟨g - 1, by omega⟩
    unfold blocksOf
    split
    · rename_i hgood
      obtain ⟨_, h1, h2, _⟩ := goodB_ok hgood
      congr 1
      exact ih g _ _ _ (by rw [List.length_drop]; omega) (by rw [List.length_drop]; omega)
    · rfl
def blocksAll (th : Int) (b : Bytes) (recs last : Int) : List (Blk × Nat) := blocksOf th (b.length + 1) b recs last
theorem blocksAll_good {th recs last : Int} {b : Bytes} (h : goodB th recs last (decode b) = true) :
    blocksAll th b recs last = ((decode b).1, (decode b).2.1) :: blocksAll th (b.drop (decode b).2.1) (recs + (decode b).1.recs.length) (lastSeq (decode b).1 last) := by
  obtain ⟨_, h1, h2, _⟩ := goodB_ok h
  unfold blocksAll
  conv => lhs; unfold blocksOf
  rw [if_pos h]
  congr 1
  exact blocksOf_fuel th _ _ _ _ _ (by rw [List.length_drop]; omega) (by omega)
theorem blocksAll_bad {th recs last : Int} {b : Bytes} (h : goodB th recs last (decode b) = false) : blocksAll th b recs last = [] := by
  unfold blocksAll blocksOf
  rw [if_neg (by rw [h]; decide)]
def sizeB (l : List (Blk × Nat)) : Nat := (l.map (·.2)).sum
end Iv
namespace Iv
open Go.RowKit (wrap64)
structure RecFit (r : Rec) : Prop where
  seq : inI64 r.seq
  thread : inI64 r.ev.thread
  kind : inI64 r.ev.kind
  obj : inI64 r.ev.obj
  value : inI64 r.ev.value
  site : inI64 r.ev.site
  deps : allI64 r.ev.deps
  from_ : allI64 r.ev.from_
structure Pln where
  cap : Int
  flushes : List (Int × Int)
  stop : Int
  cuts : List Int
def flushOk (thr : Int) (f : Int × Int) : Bool := decide (0 ≤ f.1) && decide (0 ≤ f.2) && decide (f.2 < thr)
def planHead (thr : Int) (p : Pln) : Bool := decide (1 ≤ thr) && decide (thr ≤ 4) && decide (1 ≤ p.cap) && decide (p.cap ≤ 64) && decide (0 ≤ p.stop)
def planOk (thr : Int) (p : Pln) : Bool := planHead thr p && p.flushes.all (flushOk thr) && p.cuts.all (fun n => decide (0 ≤ n)) && decide ((p.cuts.length : Int) ≤ thr)
def evOk (thr : Int) (e : Ev) : Bool := decide (0 ≤ e.thread) && decide (e.thread < thr) && decide (e.deps.length ≤ 400) && decide (e.from_.length ≤ 400)
def filesErr (l : List Ev) (thr : Int) (p : Pln) : Int := if planOk thr p then (if 400 < l.length then 2 else if l.all (evOk thr) then 0 else 1) else 1
structure St where
  buf : Nat → List Rec
  first : Nat → Int
  file : Nat → Bytes
def upd {α : Type} (f : Nat → α) (t : Nat) (x : α) : Nat → α := fun k => if k = t then x else f k
theorem upd_same {α : Type} (f : Nat → α) (t : Nat) (x : α) : upd f t x t = x := by simp [upd]
theorem upd_other {α : Type} (f : Nat → α) {t k : Nat} (x : α) (h : k ≠ t) : upd f t x k = f k := by simp [upd, h]
def blkOf (s : St) (t : Nat) : Blk := ⟨t, s.first t, s.buf t⟩
def St.write (s : St) (t : Nat) : St :=
  if (s.buf t).length = 0 then s else ⟨upd s.buf t [], upd s.first t (s.first t + (s.buf t).length), upd s.file t (s.file t ++ (encode (blkOf s t)).1)⟩
def St.push (s : St) (t : Nat) (r : Rec) : St := ⟨upd s.buf t (s.buf t ++ [r]), s.first, s.file⟩
def St.add (s : St) (cap : Int) (seq : Nat) (e : Ev) : St :=
  if (((s.buf e.thread.toNat).length + 1 : Nat) : Int) = cap ∨ e.kind = 2 then (s.push e.thread.toNat ⟨seq, e⟩).write e.thread.toNat else s.push e.thread.toNat ⟨seq, e⟩
def St.flush (s : St) (n : Nat) : List (Int × Int) → St
  | [] => s
  | f :: fs => St.flush (if f.1 = n then s.write f.2.toNat else s) n fs
def St.none : St := ⟨fun _ => [], fun _ => 0, fun _ => []⟩
def recorded (l : List Ev) (p : Pln) : Nat → St
  | 0 => St.none.flush 0 p.flushes
  | n + 1 => match l[n]? with
    | some e => ((recorded l p n).add p.cap n e).flush (n + 1) p.flushes
    | none => recorded l p n
def cutFile (b : Bytes) (k : Int) : Bytes := b.take (b.length - k.toNat)
theorem okRecs_snoc {th : Int} (l : List Rec) : ∀ {seq : Int} {r : Rec}, okRecs th seq l = true → (∀ q ∈ l, q.seq < r.seq) → seq < r.seq → r.ev.thread = th → r.ev.deps.length ≤ 400 → r.ev.from_.length ≤ 400 → okRecs th seq (l ++ [r]) = true := by
  induction l with
  | nil =>
    intro seq r _ _ hs ht hd hf
    simp [okRecs, hs, ht, hd, hf]
  | cons a l ih =>
    intro seq r h hall hs ht hd hf
    simp only [okRecs, Bool.and_eq_true, List.cons_append] at h ⊢
    exact ⟨h.1, ih h.2 (fun q hq => hall q (List.mem_cons_of_mem _ hq)) (hall a (List.mem_cons_self ..)) ht hd hf⟩
structure GoodT (c n : Nat) (t : Nat) (b : List Rec) (f : Int) (x : Bytes) : Prop where
  ok : okRecs t (-1) b = true
  len : b.length ≤ c
  below : ∀ r ∈ b, r.seq < n
  fit : ∀ r ∈ b, RecFit r
  lo : 0 ≤ f
  hi : f + b.length ≤ n
  size : (x.length : Int) ≤ 10000 * f
theorem recOk_fit {thread seq : Int} {rs : List Rec} (h : okRecs thread seq rs = true) (hn : ∀ r ∈ rs, RecFit r) : ∀ r ∈ rs, RecOk r := by
  intro r hr
  have h1 := okRecs_thread thread rs seq h r hr
  have h2 := hn r hr
  exact ⟨h2.seq, h2.thread, h2.kind, h2.obj, h2.value, h2.site, h2.deps, h2.from_, h1.2.1, h1.2.2.1⟩
theorem GoodT.fits {c n t : Nat} {b : List Rec} {f : Int} {x : Bytes} (h : GoodT c n t b f x) (hb : 0 < b.length) (hc : c ≤ 64) (hn : n ≤ 400) (ht : t < 4) : fits ⟨t, f, b⟩ = 0 := by
  have h1 := h.ok
  have h2 := h.len
  have h3 := h.lo
  have h4 := h.hi
  unfold Iv.fits okBlk
  rw [if_neg (by show ¬ 64 < b.length; omega)]
  have : (decide (0 < b.length) && decide (0 ≤ (t : Int)) && decide ((t : Int) < 4) && decide (0 ≤ f) && decide (f ≤ 400) && okRecs t (-1) b) = true := by
    rw [h1]
    simp only [Bool.and_true, Bool.and_eq_true, decide_eq_true_eq]
    omega
  rw [if_pos this]
theorem blk_len {x : Blk} (hf : fits x = 0) (hr : ∀ r ∈ x.recs, RecOk r) : (blkBytes x).length ≤ 10000 * x.recs.length := by
  obtain ⟨z0, z1, z2, z3, z4, z5, z6⟩ := fits_zero hf
  have hpl := putRecs_len x.recs (-1) hr
  have hq := pack_bounded (putRecs (-1) x.recs)
  have q1 := putI_len (n := x.first) ⟨by omega, by omega⟩
  have q2 := putI_len (n := (x.recs.length : Int)) ⟨by omega, by omega⟩
  have q3 := putI_len (n := ((putRecs (-1) x.recs).length : Int)) ⟨by omega, by omega⟩
  have q4 := putI_len (n := ((pack (putRecs (-1) x.recs)).length : Int)) ⟨by omega, by omega⟩
  unfold blkBytes blkBody headBytes
  simp only [List.length_append, List.length_cons, sum4_len]
  omega
theorem GoodT.enc {c n t : Nat} {b : List Rec} {f : Int} {x : Bytes} (h : GoodT c n t b f x) (hb : 0 < b.length) (hc : c ≤ 64) (hn : n ≤ 400) (ht : t < 4) :
    (encode ⟨t, f, b⟩).2 = 0 ∧ (encode ⟨t, f, b⟩).1.length ≤ 10000 * b.length := by
  have hf := h.fits hb hc hn ht
  have : encode ⟨t, f, b⟩ = (blkBytes ⟨t, f, b⟩, 0) := by unfold encode; rw [if_pos hf]
  rw [this]
  exact ⟨rfl, blk_len hf (recOk_fit h.ok h.fit)⟩
theorem GoodT.wrote {c n t : Nat} {b : List Rec} {f : Int} {x : Bytes} (h : GoodT c n t b f x) (hb : 0 < b.length) (hc : c ≤ 64) (hn : n ≤ 400) (ht : t < 4) (c' : Nat) : GoodT c' n t [] (f + b.length) (x ++ (encode ⟨t, f, b⟩).1) := by
  have h3 := h.lo
  have h4 := h.hi
  have h5 := h.size
  have h6 := (h.enc hb hc hn ht).2
  refine ⟨rfl, by simp, fun r hr => by simp at hr, fun r hr => by simp at hr, by omega, by simp; omega, ?_⟩
  rw [List.length_append]
  omega
theorem GoodT.pushed {c n t : Nat} {b : List Rec} {f : Int} {x : Bytes} (h : GoodT c n t b f x) {e : Ev} (he : e.thread = t) (hd : e.deps.length ≤ 400) (hf : e.from_.length ≤ 400) (hr : RecFit ⟨n, e⟩) : GoodT (c + 1) (n + 1) t (b ++ [⟨n, e⟩]) f x := by
  have h2 := h.len
  have h4 := h.hi
  refine ⟨okRecs_snoc b h.ok (fun q hq => h.below q hq) (by show (-1 : Int) < (n : Int); omega) he hd hf, by simp; omega, fun r hr' => ?_, fun r hr' => ?_, h.lo, by simp; omega, h.size⟩
  · rcases List.mem_append.1 hr' with h1 | h1
    · have := h.below r h1
      omega
    · simp only [List.mem_singleton] at h1
      subst h1
      show (n : Int) < ((n + 1 : Nat) : Int)
      omega
  · rcases List.mem_append.1 hr' with h1 | h1
    · exact h.fit r h1
    · simp only [List.mem_singleton] at h1
      subst h1
      exact hr
theorem GoodT.later {c n n' t : Nat} {b : List Rec} {f : Int} {x : Bytes} (h : GoodT c n t b f x) (hn : n ≤ n') : GoodT c n' t b f x :=
  ⟨h.ok, h.len, fun r hr => by have := h.below r hr; omega, h.fit, h.lo, by have := h.hi; omega, h.size⟩
theorem GoodT.wider {c c' n t : Nat} {b : List Rec} {f : Int} {x : Bytes} (h : GoodT c n t b f x) (hc : b.length ≤ c') : GoodT c' n t b f x := ⟨h.ok, hc, h.below, h.fit, h.lo, h.hi, h.size⟩
def Good (c n thr : Nat) (s : St) : Prop := ∀ t, t < thr → GoodT c n t (s.buf t) (s.first t) (s.file t)
theorem Good.none (c thr : Nat) : Good c 0 thr St.none := fun t _ => ⟨rfl, by simp [St.none], fun r hr => by simp [St.none] at hr, fun r hr => by simp [St.none] at hr, by simp [St.none], by simp [St.none], by simp [St.none]⟩
theorem Good.write {c n thr : Nat} {s : St} (h : Good c n thr s) (hc : c ≤ 64) (hn : n ≤ 400) (hthr : thr ≤ 4) (t : Nat) (ht : t < thr) : Good c n thr (s.write t) := by
  unfold St.write
  split
  · exact h
  · rename_i h0
    intro k hk
    by_cases hkt : k = t
    · subst hkt
      simp only [upd_same]
      exact (h k hk).wrote (by omega) hc hn (by omega) c
    · simp only [upd_other _ _ hkt]
      exact h k hk
theorem Good.flush {c n thr : Nat} (hc : c ≤ 64) (hn : n ≤ 400) (hthr : thr ≤ 4) (fs : List (Int × Int)) : ∀ {s : St}, Good c n thr s → (∀ f ∈ fs, 0 ≤ f.2 ∧ f.2 < thr) → Good c n thr (s.flush n fs) := by
  induction fs with
  | nil => intro s h _; exact h
  | cons f fs ih =>
    intro s h hf
    have h1 := hf f (List.mem_cons_self ..)
    unfold St.flush
    refine ih ?_ (fun g hg => hf g (List.mem_cons_of_mem _ hg))
    split
    · exact h.write hc hn hthr _ (by omega)
    · exact h
theorem Good.push {c n thr : Nat} {s : St} (h : Good c n thr s) {e : Ev} (he : 0 ≤ e.thread) (hd : e.deps.length ≤ 400) (hf : e.from_.length ≤ 400) (hr : RecFit ⟨n, e⟩) :
    ∀ t, t < thr → GoodT (c + 1) (n + 1) t ((s.push e.thread.toNat ⟨n, e⟩).buf t) ((s.push e.thread.toNat ⟨n, e⟩).first t) ((s.push e.thread.toNat ⟨n, e⟩).file t) := by
  intro t htt
  unfold St.push
  by_cases hk : t = e.thread.toNat
  · subst hk
    simp only [upd_same]
    exact (h _ htt).pushed (by omega) hd hf hr
  · simp only [upd_other _ _ hk]
    exact ((h t htt).later (Nat.le_succ n)).wider (by have := (h t htt).len; omega)
theorem Good.pushed {c n thr : Nat} {s : St} (h : Good c n thr s) {e : Ev} (he : 0 ≤ e.thread) (hd : e.deps.length ≤ 400) (hf : e.from_.length ≤ 400) (hr : RecFit ⟨n, e⟩) : Good (c + 1) (n + 1) thr (s.push e.thread.toNat ⟨n, e⟩) := h.push he hd hf hr
theorem Good.add {c n thr : Nat} {s : St} (h : Good c n thr s) {e : Ev} (hc : c + 1 ≤ 64) (hn : n + 1 ≤ 400) (hthr : thr ≤ 4) (he : 0 ≤ e.thread) (ht : e.thread < thr) (hd : e.deps.length ≤ 400) (hf : e.from_.length ≤ 400) (hr : RecFit ⟨n, e⟩) : Good c (n + 1) thr (s.add ((c + 1 : Nat) : Int) n e) := by
  have hp := h.pushed he hd hf hr
  have htn : e.thread.toNat < thr := by omega
  unfold St.add
  split
  · have hw := hp.write hc hn hthr _ htn
    intro t htt
    refine (hw t htt).wider ?_
    unfold St.write
    have h0 : ¬ ((s.push e.thread.toNat ⟨n, e⟩).buf e.thread.toNat).length = 0 := by unfold St.push; simp [upd_same]
    rw [if_neg h0]
    by_cases hk : t = e.thread.toNat
    · subst hk
      simp [upd_same]
    · simp only [upd_other _ _ hk, St.push]
      exact (h t htt).len
  · rename_i hne
    intro t htt
    refine (hp t htt).wider ?_
    by_cases hk : t = e.thread.toNat
    · subst hk
      have h1 := (h _ htt).len
      unfold St.push
      simp only [upd_same, List.length_append, List.length_singleton]
      by_cases h2 : (s.buf e.thread.toNat).length = c
      · exact absurd (.inl (by rw [h2])) hne
      · omega
    · simp only [upd_other _ _ hk, St.push]
      exact (h t htt).len
end Iv
namespace Iv
def rec0 (l : List Ev) (p : Pln) : Nat → St
  | 0 => St.none
  | n + 1 => recorded l p n
def lastN (l : List Ev) (p : Pln) : Nat := min p.stop.toNat l.length
def cutSt (s : St) (cuts : List Int) (k : Nat) : St := ⟨s.buf, s.first, fun t => match (cuts.take k)[t]? with | some x => cutFile (s.file t) x | none => s.file t⟩
def filesOf (l : List Ev) (p : Pln) (t : Nat) : Bytes := (cutSt (recorded l p (lastN l p)) p.cuts p.cuts.length).file t
theorem rec_next {l : List Ev} {p : Pln} {n : Nat} {e : Ev} (h : l[n]? = some e) : recorded l p (n + 1) = ((rec0 l p (n + 1)).add p.cap n e).flush (n + 1) p.flushes := by
  show (match l[n]? with | some e => ((recorded l p n).add p.cap n e).flush (n + 1) p.flushes | none => recorded l p n) = _
  rw [h]
  rfl
theorem cutSt_zero (s : St) (cuts : List Int) : cutSt s cuts 0 = s := by
  cases s
  simp [cutSt]
theorem cutSt_at (s : St) (cuts : List Int) (k : Nat) : (cutSt s cuts k).file k = s.file k := by
  unfold cutSt
  simp [List.getElem?_take]
theorem cutSt_next {s : St} {cuts : List Int} {k : Nat} {x : Int} (h : cuts[k]? = some x) : cutSt s cuts (k + 1) = ⟨(cutSt s cuts k).buf, (cutSt s cuts k).first, upd (cutSt s cuts k).file k (cutFile (s.file k) x)⟩ := by
  unfold cutSt
  congr 1
  funext t
  unfold upd
  simp only [List.getElem?_take]
  by_cases ht : t = k
  · subst ht
    simp [h]
  · rw [if_neg ht]
    by_cases h1 : t < k
    · rw [if_pos h1, if_pos (by omega)]
    · rw [if_neg h1, if_neg (by omega)]
theorem flush_cons (s : St) (n : Nat) (f : Int × Int) (fs : List (Int × Int)) : s.flush n (f :: fs) = (if f.1 = n then s.write f.2.toNat else s).flush n fs := rfl
theorem flush_drop {fs : List (Int × Int)} {k : Nat} {f : Int × Int} (h : fs[k]? = some f) (s : St) (n : Nat) : s.flush n (fs.drop k) = (if f.1 = n then s.write f.2.toNat else s).flush n (fs.drop (k + 1)) := by
  obtain ⟨hl, rfl⟩ := List.getElem?_eq_some_iff.1 h
  rw [List.drop_eq_getElem_cons hl, flush_cons]
theorem RecFit.seqOf {e : Ev} {n : Int} (h : RecFit ⟨0, e⟩) (hn : inI64 n) : RecFit ⟨n, e⟩ := ⟨hn, h.thread, h.kind, h.obj, h.value, h.site, h.deps, h.from_⟩
def recA (l : List Ev) (p : Pln) : Nat → St
  | 0 => St.none
  | n + 1 => match l[n]? with
    | some e => (recorded l p n).add p.cap n e
    | none => recorded l p n
theorem recA_next {l : List Ev} {p : Pln} {n : Nat} {e : Ev} (h : l[n]? = some e) : recA l p (n + 1) = (rec0 l p (n + 1)).add p.cap n e := by
  show (match l[n]? with | some e => (recorded l p n).add p.cap n e | none => recorded l p n) = _
  rw [h]
  rfl
theorem recA_flush {l : List Ev} {p : Pln} {n : Nat} (h : n ≤ l.length) : (recA l p n).flush n p.flushes = recorded l p n := by
  cases n with
  | zero => rfl
  | succ n =>
    have hk : l[n]? = some l[n] := List.getElem?_eq_getElem h
    rw [rec_next hk, recA_next hk]
structure PlanGood (l : List Ev) (thr : Nat) (p : Pln) (c : Nat) : Prop where
  cap : p.cap = ((c + 1 : Nat) : Int)
  c64 : c + 1 ≤ 64
  thr1 : 1 ≤ thr
  thr4 : thr ≤ 4
  stop : 0 ≤ p.stop
  fl : ∀ f ∈ p.flushes, 0 ≤ f.1 ∧ 0 ≤ f.2 ∧ f.2 < thr
  cu : ∀ x ∈ p.cuts, 0 ≤ x
  cul : p.cuts.length ≤ thr
  len : l.length ≤ 400
  ev : ∀ e ∈ l, 0 ≤ e.thread ∧ e.thread < thr ∧ e.deps.length ≤ 400 ∧ e.from_.length ≤ 400
theorem planGood {l : List Ev} {thr : Int} {p : Pln} (h : filesErr l thr p = 0) : ∃ t c, thr = ((t : Nat) : Int) ∧ PlanGood l t p c := by
  unfold filesErr at h
  split at h
  · rename_i hp
    split at h
    · omega
    · rename_i h4
      split at h
      · rename_i hl
        unfold planOk planHead at hp
        simp only [Bool.and_eq_true, decide_eq_true_eq, List.all_eq_true] at hp hl
        obtain ⟨⟨⟨⟨⟨⟨⟨a1, a2⟩, a3⟩, a4⟩, a5⟩, a6⟩, a7⟩, a8⟩ := hp
        refine ⟨thr.toNat, (p.cap - 1).toNat, by omega, by omega, by omega, by omega, by omega, a5, fun f hf => ?_, fun x hx => ?_, by omega, by omega, fun e he => ?_⟩
        · have := a6 f hf
          unfold flushOk at this
          simp only [Bool.and_eq_true, decide_eq_true_eq] at this
          omega
        · exact a7 x hx
        · have := hl e he
          unfold evOk at this
          simp only [Bool.and_eq_true, decide_eq_true_eq] at this
          omega
      · omega
  · omega
theorem PlanGood.ok {l : List Ev} {thr : Nat} {p : Pln} {c : Nat} (h : PlanGood l thr p c) : filesErr l thr p = 0 := by
  have h1 := h.cap
  have h2 := h.c64
  have h3 := h.thr1
  have h4 := h.thr4
  have h5 := h.stop
  have h6 := h.cul
  have h7 := h.len
  unfold filesErr
  rw [if_pos, if_neg (by omega), if_pos]
  · rw [List.all_eq_true]
    intro e he
    have := h.ev e he
    unfold evOk
    simp only [Bool.and_eq_true, decide_eq_true_eq]
    omega
  · unfold planOk planHead
    simp only [Bool.and_eq_true, decide_eq_true_eq, List.all_eq_true]
    refine ⟨⟨⟨by omega, fun f hf => ?_⟩, fun x hx => h.cu x hx⟩, by omega⟩
    have := h.fl f hf
    unfold flushOk
    simp only [Bool.and_eq_true, decide_eq_true_eq]
    omega
theorem PlanGood.recorded {l : List Ev} {thr : Nat} {p : Pln} {c : Nat} (h : PlanGood l thr p c) (hn : ∀ e ∈ l, RecFit ⟨0, e⟩) : ∀ n, n ≤ l.length → Good c n thr (recorded l p n) := by
  intro n
  induction n with
  | zero => intro _; exact (Good.none c thr).flush (by have := h.c64; omega) (by omega) h.thr4 _ (fun f hf => (h.fl f hf).2)
  | succ n ih =>
    intro hl
    have h1 := ih (by omega)
    have hk : l[n]? = some l[n] := List.getElem?_eq_getElem hl
    rw [rec_next hk]
    have hm : l[n] ∈ l := List.getElem_mem hl
    obtain ⟨e1, e2, e3, e4⟩ := h.ev _ hm
    have h4 := h.len
    have := h1.add (e := l[n]) h.c64 (by omega) h.thr4 e1 e2 e3 e4 ((hn _ hm).seqOf ⟨by omega, by omega⟩)
    rw [← h.cap] at this
    exact this.flush (by have := h.c64; omega) (by omega) h.thr4 _ (fun f hf => (h.fl f hf).2)
theorem PlanGood.recA {l : List Ev} {thr : Nat} {p : Pln} {c : Nat} (h : PlanGood l thr p c) (hn : ∀ e ∈ l, RecFit ⟨0, e⟩) (n : Nat) (hl : n ≤ l.length) : Good c n thr (recA l p n) := by
  cases n with
  | zero => exact Good.none c thr
  | succ n =>
    have hk : l[n]? = some l[n] := List.getElem?_eq_getElem hl
    rw [recA_next hk]
    have hm : l[n] ∈ l := List.getElem_mem hl
    obtain ⟨e1, e2, e3, e4⟩ := h.ev _ hm
    have h4 := h.len
    have := (h.recorded hn n (by omega)).add (e := l[n]) h.c64 (by omega) h.thr4 e1 e2 e3 e4 ((hn _ hm).seqOf ⟨by omega, by omega⟩)
    rw [← h.cap] at this
    exact this
theorem PlanGood.before {l : List Ev} {thr : Nat} {p : Pln} {c : Nat} (h : PlanGood l thr p c) (hn : ∀ e ∈ l, RecFit ⟨0, e⟩) (n : Nat) (hl : n ≤ l.length + 1) : Good c (n - 1) thr (rec0 l p n) := by
  cases n with
  | zero => exact Good.none c thr
  | succ n => exact h.recorded hn n (by omega)
end Iv
namespace Iv
end Iv
namespace Iv
def oneEv : Ev := ⟨0, 2, 0, 0, 0, [], []⟩
def onePln : Pln := ⟨1, [], 1, []⟩
theorem one_err : filesErr [oneEv] 1 onePln = 0 := by decide +kernel
theorem one_len : 10 < (filesOf [oneEv] onePln 0).length := by decide +kernel
end Iv
