/- The plain arithmetic of the checksum of chapter 13: it is linear over exclusive or, and one changed byte changes it. No program in sight. -/
import Derived.Test.YtlofjhcjjcohfaaPvar
namespace Iv

def crcStep (c : Nat) : Nat := if c % 2 = 1 then (c / 2) ^^^ 3988292384 else c / 2
def crcSteps : Nat → Nat → Nat
  | 0, c => c
  | n + 1, c => crcSteps n (crcStep c)
def crcByte (c : Nat) (x : UInt8) : Nat := crcSteps 8 (c ^^^ x.toNat)
def crcFold (c : Nat) (l : Bytes) : Nat := l.foldl crcByte c
def crc (l : Bytes) : Nat := 4294967295 ^^^ crcFold 4294967295 l

theorem xor_lt32 {a b : Nat} (ha : a < 4294967296) (hb : b < 4294967296) : a ^^^ b < 4294967296 :=
  Nat.xor_lt_two_pow (n := 32) ha hb
theorem xor_half (a b : Nat) : (a ^^^ b) / 2 = a / 2 ^^^ b / 2 := by
  have := Nat.xor_div_two_pow (a := a) (b := b) (n := 1)
  simpa using this
theorem xor_odd (a b : Nat) : (a ^^^ b) % 2 = (a % 2 + b % 2) % 2 := by
  have := Nat.xor_mod_two_pow (a := a) (b := b) (n := 1)
  simp only [Nat.pow_one] at this
  rw [this]
  rcases Nat.mod_two_eq_zero_or_one a with h | h <;> rcases Nat.mod_two_eq_zero_or_one b with h' | h' <;> rw [h, h'] <;> rfl

theorem crcStep_lt {c : Nat} (h : c < 4294967296) : crcStep c < 4294967296 := by
  unfold crcStep
  split
  · exact xor_lt32 (by omega) (by omega)
  · omega
theorem crcSteps_lt (n : Nat) : ∀ {c : Nat}, c < 4294967296 → crcSteps n c < 4294967296 := by
  induction n with
  | zero => intro c h; exact h
  | succ n ih => intro c h; exact ih (crcStep_lt h)
theorem crcByte_lt {c : Nat} (h : c < 4294967296) (x : UInt8) : crcByte c x < 4294967296 :=
  crcSteps_lt 8 (xor_lt32 h (by have := byte_lt x; omega))
theorem crcFold_lt (l : Bytes) : ∀ {c : Nat}, c < 4294967296 → crcFold c l < 4294967296 := by
  induction l with
  | nil => intro c h; exact h
  | cons x t ih => intro c h; exact ih (crcByte_lt h x)
theorem crc_lt (l : Bytes) : crc l < 4294967296 := xor_lt32 (by omega) (crcFold_lt l (by omega))
theorem crcSteps_succ (n : Nat) : ∀ c, crcSteps (n + 1) c = crcStep (crcSteps n c) := by
  induction n with
  | zero => intro c; rfl
  | succ n ih => intro c; rw [crcSteps, ih (crcStep c)]; rfl

theorem crcStep_xor (a b : Nat) : crcStep (a ^^^ b) = crcStep a ^^^ crcStep b := by
  unfold crcStep
  rw [xor_odd, xor_half]
  rcases Nat.mod_two_eq_zero_or_one a with h | h <;> rcases Nat.mod_two_eq_zero_or_one b with h' | h' <;> rw [h, h']
  · simp
  · simp only [Nat.zero_add, Nat.reduceMod, if_true]
    rw [if_neg (by omega), Nat.xor_assoc]
  · simp only [Nat.add_zero, Nat.reduceMod, if_true]
    rw [if_neg (by omega), Nat.xor_assoc, Nat.xor_assoc, Nat.xor_comm (b / 2)]
  · simp only [Nat.reduceAdd, Nat.reduceMod, if_true]
    rw [if_neg (by omega)]
    rw [Nat.xor_assoc, ← Nat.xor_assoc 3988292384, Nat.xor_comm 3988292384 (b / 2), Nat.xor_assoc (b / 2), Nat.xor_self, Nat.xor_zero]
theorem crcSteps_xor (n : Nat) : ∀ a b, crcSteps n (a ^^^ b) = crcSteps n a ^^^ crcSteps n b := by
  induction n with
  | zero => intro a b; rfl
  | succ n ih => intro a b; simp only [crcSteps, crcStep_xor, ih]

theorem xor3 (a b c x y z : Nat) : (a ^^^ b ^^^ c) ^^^ (x ^^^ y ^^^ z) = (a ^^^ x) ^^^ (b ^^^ y) ^^^ (c ^^^ z) := by
  simp only [Nat.xor_assoc]
  congr 1
  rw [← Nat.xor_assoc c x, Nat.xor_comm c x, Nat.xor_assoc x c, ← Nat.xor_assoc b x, Nat.xor_comm b x, Nat.xor_assoc x b]
  congr 2
  rw [← Nat.xor_assoc c y, Nat.xor_comm c y, Nat.xor_assoc y c]

/-- Three texts of one length, and the text of their exclusive ors. -/
theorem crcFold_xor (a : Bytes) : ∀ (b c d : Bytes) (i j k : Nat), b.length = a.length → c.length = a.length → d.length = a.length →
    (∀ (n : Nat) (x y z u : UInt8), a[n]? = some x → b[n]? = some y → c[n]? = some z → d[n]? = some u → u.toNat = x.toNat ^^^ y.toNat ^^^ z.toNat) →
    crcFold (i ^^^ j ^^^ k) d = crcFold i a ^^^ crcFold j b ^^^ crcFold k c := by
  induction a with
  | nil =>
    intro b c d i j k hb hc hd _
    have hb' : b = [] := List.eq_nil_of_length_eq_zero hb
    have hc' : c = [] := List.eq_nil_of_length_eq_zero hc
    have hd' : d = [] := List.eq_nil_of_length_eq_zero hd
    subst hb' hc' hd'
    rfl
  | cons x a ih =>
    intro b c d i j k hb hc hd h
    match b, c, d, hb, hc, hd with
    | y :: b, z :: c, u :: d, hb, hc, hd =>
      simp only [List.length_cons, Nat.add_right_cancel_iff] at hb hc hd
      have hu := h 0 x y z u rfl rfl rfl rfl
      have e : crcByte (i ^^^ j ^^^ k) u = crcByte i x ^^^ crcByte j y ^^^ crcByte k z := by
        unfold crcByte
        rw [hu, xor3, crcSteps_xor, crcSteps_xor]
      show crcFold (crcByte (i ^^^ j ^^^ k) u) d = crcFold (crcByte i x) a ^^^ crcFold (crcByte j y) b ^^^ crcFold (crcByte k z) c
      rw [e]
      exact ih b c d _ _ _ hb hc hd fun n x' y' z' u' h1 h2 h3 h4 => h (n + 1) x' y' z' u' h1 h2 h3 h4

theorem crc_xor {a b c d : Bytes} (hb : b.length = a.length) (hc : c.length = a.length) (hd : d.length = a.length)
    (h : ∀ (n : Nat) (x y z u : UInt8), a[n]? = some x → b[n]? = some y → c[n]? = some z → d[n]? = some u → u.toNat = x.toNat ^^^ y.toNat ^^^ z.toNat) :
    crc d = crc a ^^^ crc b ^^^ crc c := by
  have := crcFold_xor a b c d 4294967295 4294967295 4294967295 hb hc hd h
  rw [show (4294967295 : Nat) ^^^ 4294967295 ^^^ 4294967295 = 4294967295 from by decide] at this
  unfold crc
  rw [this, ← xor3, show (4294967295 : Nat) ^^^ 4294967295 ^^^ 4294967295 = 4294967295 from by decide]

/-- The step loses nothing. -/
theorem xor_cancel {a b p : Nat} (h : a ^^^ p = b ^^^ p) : a = b := by
  have h2 : (a ^^^ p) ^^^ p = (b ^^^ p) ^^^ p := by rw [h]
  rwa [Nat.xor_assoc, Nat.xor_assoc, Nat.xor_self, Nat.xor_zero, Nat.xor_zero] at h2
theorem high_xor {a : Nat} (h : a < 2147483648) : 2147483648 ≤ a ^^^ 3988292384 := by
  have h1 : (a ^^^ 3988292384) / 2 ^ 31 = a / 2 ^ 31 ^^^ 3988292384 / 2 ^ 31 := Nat.xor_div_two_pow
  have h2 : a / 2 ^ 31 = 0 := by omega
  rw [h2, show (3988292384 : Nat) / 2 ^ 31 = 1 from by decide, Nat.zero_xor] at h1
  omega
theorem crcStep_inj {a b : Nat} (ha : a < 4294967296) (hb : b < 4294967296) (h : crcStep a = crcStep b) : a = b := by
  unfold crcStep at h
  split at h <;> split at h
  · have := xor_cancel h; omega
  · have := high_xor (a := a / 2) (by omega); omega
  · have := high_xor (a := b / 2) (by omega); omega
  · omega
theorem crcSteps_inj (n : Nat) : ∀ {a b : Nat}, a < 4294967296 → b < 4294967296 → crcSteps n a = crcSteps n b → a = b := by
  induction n with
  | zero => intro a b _ _ h; exact h
  | succ n ih => intro a b ha hb h; exact crcStep_inj ha hb (ih (crcStep_lt ha) (crcStep_lt hb) h)
theorem crcByte_inj {a b : Nat} (ha : a < 4294967296) (hb : b < 4294967296) {x : UInt8} (h : crcByte a x = crcByte b x) : a = b := by
  have hx := byte_lt x
  exact xor_cancel (crcSteps_inj 8 (xor_lt32 ha (by omega)) (xor_lt32 hb (by omega)) h)
theorem crcByte_inj2 {c : Nat} (hc : c < 4294967296) {x y : UInt8} (h : crcByte c x = crcByte c y) : x = y := by
  have hx := byte_lt x
  have hy := byte_lt y
  have := crcSteps_inj 8 (xor_lt32 hc (by omega)) (xor_lt32 hc (by omega)) h
  rw [Nat.xor_comm c, Nat.xor_comm c] at this
  exact u8_eq (xor_cancel this)
theorem crcFold_inj (l : Bytes) : ∀ {a b : Nat}, a < 4294967296 → b < 4294967296 → crcFold a l = crcFold b l → a = b := by
  induction l with
  | nil => intro a b _ _ h; exact h
  | cons x t ih => intro a b ha hb h; exact crcByte_inj ha hb (ih (crcByte_lt ha x) (crcByte_lt hb x) h)
theorem crcFold_append (c : Nat) (l m : Bytes) : crcFold c (l ++ m) = crcFold (crcFold c l) m := by simp [crcFold]

/-- One changed byte changes the sum. -/
theorem crc_changed (p q : Bytes) {x y : UInt8} (h : x ≠ y) : crc (p ++ x :: q) ≠ crc (p ++ y :: q) := by
  intro e
  unfold crc at e
  rw [Nat.xor_comm 4294967295, Nat.xor_comm 4294967295] at e
  have e := xor_cancel e
  rw [crcFold_append, crcFold_append] at e
  have hp := crcFold_lt p (c := 4294967295) (by omega)
  exact h (crcByte_inj2 hp (crcFold_inj q (crcByte_lt hp x) (crcByte_lt hp y) e))
end Iv
