/- The plain law of packed runs (chapter 12): n + 1 equal bytes. No program in sight. -/
import Derived.Test.YtlcmffbikiamjaaPpack
namespace Iv

/-- The items behind the first byte of a run: k bytes are left. -/
def runItems (x : UInt8) (k : Nat) : Bytes :=
  if 3 ≤ k then UInt8.ofNat (min k 130 + 125) :: 1 :: runItems x (k - min k 130)
  else if 0 < k then UInt8.ofNat (k - 1) :: List.replicate k x else []
termination_by k
decreasing_by omega

def runWant (x : UInt8) (k : Nat) : Bytes := if k + 1 ≤ 3 then UInt8.ofNat k :: List.replicate (k + 1) x else 0 :: x :: runItems x k

theorem rep_get {x : UInt8} {n i : Nat} (h : i < n) : (List.replicate n x)[i]? = some x := by simp [h]

theorem best_rep (x : UInt8) (n i : Nat) (hi : 1 ≤ i) (hn : i < n) : bestAt (List.replicate n x) i = (min 130 (n - i), 1) := by
  have hs : Stops (List.replicate n x) i 1 130 (min 130 (n - i)) := by
    refine ⟨by omega, fun k hk => ⟨by simp; omega, ?_⟩, ?_⟩
    · rw [rep_get (by omega), rep_get (by omega)]
    · by_cases h : min 130 (n - i) = 130
      · exact .inl h
      · exact .inr fun ⟨h2, _⟩ => by simp at h2; omega
  have hm := stops_mlen hs
  have h1 : best (List.replicate n x) i 1 = (min 130 (n - i), 1) := by
    simp only [best, Nat.zero_add]
    rw [hm, if_pos (by omega)]
  unfold bestAt
  rw [← h1]
  refine best_stays _ i 1 _ (by unfold far; omega) (by simp; omega) ?_
  rw [h1]
  simp

theorem lit_rep (x : UInt8) (n f e : Nat) (hf : f < e) (he : e ≤ n) : lit (List.replicate n x) f e = UInt8.ofNat (e - f - 1) :: List.replicate (e - f) x := by
  unfold lit
  rw [if_pos hf]
  congr 1
  simp
  congr 1
  omega

theorem pk_rep_end (x : UInt8) (n f : Nat) (m : Nat) : ∀ i, n - i = m → 1 ≤ i → i ≤ n → n - i < 3 → n - f < 128 → f ≤ i → pk (List.replicate n x) f i = lit (List.replicate n x) f n := by
  induction m with
  | zero =>
    intro i hm _ hi _ _ _
    rw [pk_end (by simp; omega)]
    simp
  | succ m ih =>
    intro i hm h1 hi h3 hf hfi
    rw [pk_step (by simp; omega) (by rw [best_rep x n i h1 (by omega)]; simp; omega) (by omega)]
    exact ih (i + 1) (by omega) (by omega) (by omega) (by omega) hf (by omega)

theorem pk_rep (x : UInt8) (n : Nat) (m : Nat) : ∀ i, n - i = m → 1 ≤ i → i ≤ n → pk (List.replicate n x) i i = runItems x m := by
  induction m using Nat.strongRecOn with
  | _ m ih =>
    intro i hm h1 hi
    rw [runItems]
    by_cases h3 : 3 ≤ m
    · rw [if_pos h3]
      have hb := best_rep x n i h1 (by omega)
      rw [pk_copy (by simp; omega) (by rw [hb]; simp; omega), hb]
      simp only [lit, Nat.lt_irrefl, if_false, List.nil_append]
      rw [ih (m - min m 130) (by omega) (i + min 130 (n - i)) (by omega) (by omega) (by omega)]
      rw [show min 130 (n - i) = min m 130 from by omega]
      rfl
    · rw [if_neg h3, pk_rep_end x n i m i hm h1 hi (by omega) (by omega) (Nat.le_refl _)]
      by_cases h0 : 0 < m
      · rw [if_pos h0, lit_rep x n i n (by omega) (Nat.le_refl _), hm]
      · rw [if_neg h0]
        unfold lit
        rw [if_neg (by omega)]

theorem pack_run (x : UInt8) (k : Nat) : pack (List.replicate (k + 1) x) = runWant x k := by
  unfold pack runWant
  have h0 : (bestAt (List.replicate (k + 1) x) 0).1 < 3 := by
    show (best _ 0 (far 0)).1 < 3
    simp [far, best]
  rw [pk_step (by simp) h0 (by omega), Nat.zero_add]
  by_cases hk : k + 1 ≤ 3
  · rw [if_pos hk, pk_rep_end x (k + 1) 0 k 1 (by omega) (by omega) (by omega) (by omega) (by omega) (by omega), lit_rep x (k + 1) 0 (k + 1) (by omega) (Nat.le_refl _)]
    simp
  · rw [if_neg hk]
    have hb := best_rep x (k + 1) 1 (by omega) (by omega)
    rw [pk_copy (by simp; omega) (by rw [hb]; simp; omega), hb, lit_rep x (k + 1) 0 1 (by omega) (by omega)]
    have ht : runItems x k = UInt8.ofNat (min k 130 + 125) :: 1 :: runItems x (k - min k 130) := by rw [runItems, if_pos (by omega)]
    rw [ht, pk_rep x (k + 1) (k - min k 130) (1 + min 130 (k + 1 - 1)) (by omega) (by omega) (by omega)]
    rw [show min 130 (k + 1 - 1) = min k 130 from by omega]
    rfl
end Iv
