/- The plain law of the stable sort's merge: rotations, and a cut of two ascending runs. No program in sight. -/
import Derived.Sort.LotA
namespace Iv
open Go.Sort
set_option linter.unusedVariables false
theorem swo_asym {β : Type} {lt : β → β → Bool} (hO : SWO lt) (x y : β) (hxy : lt x y = true) : lt y x = false := by
  cases hyx : lt y x with
  | false => rfl
  | true => have := hO.trans x y x hxy hyx; rw [hO.irrefl] at this; exact absurd this (by decide)
variable {α : Type} [Inhabited α]

/-- What lies at place t when the parts [a, m) and [m, b) have changed places. -/
def rotAt (d : Array α) (a m b t : Nat) : α := if t < a ∨ b ≤ t then d[t]! else if t < a + (b - m) then d[t + (m - a)]! else d[t - (b - m)]!
def swapR (d : Array α) (a b : Nat) : Nat → Array α
  | 0 => d
  | n + 1 => swp (swapR d a b n) (a + n) (b + n)
theorem swapR_size (d : Array α) (a b n : Nat) : (swapR d a b n).size = d.size := by
  induction n with
  | zero => rfl
  | succ n ih => unfold swapR; rw [size_swp, ih]
theorem swapR_get (d : Array α) (a b : Nat) : ∀ n, a + n ≤ b → b + n ≤ d.size → ∀ t, (swapR d a b n)[t]! = if a ≤ t ∧ t < a + n then d[t + (b - a)]! else if b ≤ t ∧ t < b + n then d[t - (b - a)]! else d[t]! := by
  intro n
  induction n with
  | zero =>
    intro _ _ t
    rw [if_neg (by omega), if_neg (by omega)]
    rfl
  | succ n ih =>
    intro h1 h2 t
    have ih := ih (by omega) (by omega)
    unfold swapR
    by_cases e1 : t = a + n
    · rw [e1, swp_left _ _ _ (by rw [swapR_size]; omega) (by omega), ih, if_neg (by omega), if_neg (by omega), if_pos (by omega)]
      congr 1; omega
    · by_cases e2 : t = b + n
      · rw [e2, swp_right _ _ _ (by rw [swapR_size]; omega), ih, if_neg (by omega), if_neg (by omega), if_neg (by omega), if_pos (by omega)]
        congr 1; omega
      · rw [swp_other _ _ _ _ e1 e2, ih]
        by_cases c1 : a ≤ t ∧ t < a + n
        · rw [if_pos c1, if_pos (by omega)]
        · by_cases c2 : b ≤ t ∧ t < b + n
          · rw [if_neg c1, if_pos c2, if_neg (by omega), if_pos (by omega)]
          · rw [if_neg c1, if_neg c2, if_neg (by omega), if_neg (by omega)]
theorem swapR_perm (d : Array α) (lo hi a b n : Nat) (h0 : lo ≤ a) (h1 : a + n ≤ b) (h2 : b + n ≤ hi) (h3 : hi ≤ d.size) : PermIn lo hi d (swapR d a b n) := by
  induction n with
  | zero => exact permIn_refl d lo hi
  | succ n ih => exact permIn_trans d _ _ lo hi (ih (by omega) (by omega)) (swp_permIn _ lo hi _ _ (by omega) (by omega) (by omega) (by omega) (by rw [swapR_size]; exact h3))

theorem rot_step1 (d : Array α) (p m q : Nat) (h1 : q - m < m - p) (hp : p ≤ m) (hq : m < q) (hd : q ≤ d.size) (t : Nat) : rotAt (swapR d p m (q - m)) (p + (q - m)) m q t = rotAt d p m q t := by
  have g := swapR_get d p m (q - m) (by omega) (by omega)
  unfold rotAt
  by_cases c0 : t < p ∨ q ≤ t
  · rw [if_pos (by omega), if_pos c0, g, if_neg (by omega), if_neg (by omega)]
  · rw [if_neg c0]
    by_cases c1 : t < p + (q - m)
    · rw [if_pos (by omega), if_pos c1, g, if_pos (by omega)]
    · rw [if_neg c1]
      rw [if_neg (by omega)]
      by_cases c2 : t < p + (q - m) + (q - m)
      · rw [if_pos c2, g, if_neg (by omega), if_pos (by omega)]
        congr 1; omega
      · rw [if_neg c2, g, if_neg (by omega), if_neg (by omega)]
theorem rot_step2 (d : Array α) (p m q : Nat) (h1 : m - p < q - m) (hp : p < m) (hq : m ≤ q) (hd : q ≤ d.size) (t : Nat) : rotAt (swapR d p (q - (m - p)) (m - p)) p m (q - (m - p)) t = rotAt d p m q t := by
  have g := swapR_get d p (q - (m - p)) (m - p) (by omega) (by omega)
  unfold rotAt
  by_cases c0 : t < p ∨ q ≤ t
  · rw [if_pos (by omega), if_pos c0, g, if_neg (by omega), if_neg (by omega)]
  · rw [if_neg c0]
    by_cases c1 : t < p + (q - m)
    · rw [if_pos c1]
      by_cases c2 : q - (m - p) ≤ t
      · rw [if_pos (by omega), g, if_neg (by omega), if_pos (by omega)]
        omega
      · rw [if_neg (by omega)]
        by_cases c3 : t < p + (q - (m - p) - m)
        · rw [if_pos c3, g, if_neg (by omega), if_neg (by omega)]
        · rw [if_neg c3, g, if_pos (by omega)]
          congr 1; omega
    · rw [if_neg c1, if_pos (by omega), g, if_neg (by omega), if_pos (by omega)]
      congr 1; omega
theorem rot_last (d : Array α) (p m q : Nat) (h1 : m - p = q - m) (hp : p ≤ m) (hq : m ≤ q) (hd : q ≤ d.size) (t : Nat) : (swapR d p m (m - p))[t]! = rotAt d p m q t := by
  rw [swapR_get d p m (m - p) (by omega) (by omega)]
  unfold rotAt
  by_cases c0 : t < p ∨ q ≤ t
  · rw [if_pos c0, if_neg (by omega), if_neg (by omega)]
  · rw [if_neg c0]
    by_cases c1 : t < p + (q - m)
    · rw [if_pos c1, if_pos (by omega)]
    · rw [if_neg c1, if_neg (by omega), if_pos (by omega)]
      congr 1; omega
theorem rot_none (d : Array α) (a m b t : Nat) (h : m = a ∨ m = b) (h1 : a ≤ m) (h2 : m ≤ b) : rotAt d a m b t = d[t]! := by
  unfold rotAt
  split
  · rfl
  · split
    · congr 1; omega
    · congr 1; omega
theorem swp_get' (d : Array α) (i j t : Nat) (hi : i < d.size) (hj : j < d.size) (hij : i ≠ j) : (swp d i j)[t]! = if t = i then d[j]! else if t = j then d[i]! else d[t]! := by
  by_cases h1 : t = i
  · rw [if_pos h1, h1, swp_left _ _ _ hi hij]
  · by_cases h2 : t = j
    · rw [if_neg h1, if_pos h2, h2, swp_right _ _ _ hj]
    · rw [if_neg h1, if_neg h2, swp_other _ _ _ _ h1 h2]
/-- One element moves to the right. -/
theorem rot_right (d dk : Array α) (a k b : Nat) (hk : a ≤ k) (hkb : k + 1 < b) (hb : b ≤ d.size) (hs : dk.size = d.size) (h : ∀ t, dk[t]! = rotAt d a (a + 1) (k + 1) t) (t : Nat) : (swp dk k (k + 1))[t]! = rotAt d a (a + 1) (k + 2) t := by
  rw [swp_get' _ _ _ _ (by omega) (by omega) (by omega), h, h, h]
  unfold rotAt
  by_cases c1 : t = k
  · rw [if_pos c1, if_pos (by omega), if_neg (by omega), if_pos (by omega)]
    congr 1; omega
  · by_cases c2 : t = k + 1
    · rw [if_neg c1, if_pos c2, if_neg (by omega), if_neg (by omega), if_neg (by omega), if_neg (by omega)]
      congr 1; omega
    · rw [if_neg c1, if_neg c2]
      by_cases c3 : t < a ∨ k + 1 ≤ t
      · rw [if_pos c3, if_pos (by omega)]
      · rw [if_neg c3, if_pos (by omega), if_neg (by omega), if_pos (by omega)]
/-- One element moves to the left. -/
theorem rot_left (d dk : Array α) (a k m : Nat) (hk : a < k) (hkm : k ≤ m) (hb : m < d.size) (hs : dk.size = d.size) (h : ∀ t, dk[t]! = rotAt d k m (m + 1) t) (t : Nat) : (swp dk k (k - 1))[t]! = rotAt d (k - 1) m (m + 1) t := by
  rw [swp_get' _ _ _ _ (by omega) (by omega) (by omega), h, h, h]
  unfold rotAt
  by_cases c1 : t = k
  · rw [if_pos c1, if_pos (by omega), if_neg (by omega), if_neg (by omega)]
    congr 1; omega
  · by_cases c2 : t = k - 1
    · rw [if_neg c1, if_pos c2, if_neg (by omega), if_pos (by omega), if_neg (by omega), if_pos (by omega)]
      congr 1; omega
    · rw [if_neg c1, if_neg c2]
      by_cases c3 : t < k ∨ m + 1 ≤ t
      · rw [if_pos c3, if_pos (by omega)]
      · rw [if_neg c3, if_neg (by omega), if_neg (by omega), if_neg (by omega)]

theorem rot_out {d : Array α} {a m b t : Nat} (h : t < a ∨ b ≤ t) : rotAt d a m b t = d[t]! := by unfold rotAt; rw [if_pos h]
theorem rot_l {d : Array α} {a m b t : Nat} (h1 : a ≤ t) (h2 : t < b) (h3 : t < a + (b - m)) : rotAt d a m b t = d[t + (m - a)]! := by unfold rotAt; rw [if_neg (by omega), if_pos h3]
theorem rot_r {d : Array α} {a m b t : Nat} (h1 : a ≤ t) (h2 : t < b) (h3 : a + (b - m) ≤ t) : rotAt d a m b t = d[t - (b - m)]! := by unfold rotAt; rw [if_neg (by omega), if_neg (by omega)]
variable {lt : α → α → Bool}
/-- One element, then an ascending run. -/
theorem insert_right (hO : SWO lt) (d d' : Array α) (a i b : Nat) (hai : a + 1 ≤ i) (hib : i ≤ b) (hs : SortedIn lt (a + 1) b d) (h1 : ∀ t, a + 1 ≤ t → t < i → lt d[t]! d[a]! = true) (h2 : ∀ t, i ≤ t → t < b → lt d[t]! d[a]! = false)
    (h : ∀ t, d'[t]! = rotAt d a (a + 1) i t) : SortedIn lt a b d' := by
  intro x y hx hxy hy
  rw [h, h]
  by_cases c1 : y < i
  · rw [rot_l (t := x) hx (by omega) (by omega)]
    by_cases c2 : y < a + (i - (a + 1))
    · rw [rot_l (t := y) (by omega) c1 c2]
      exact hs _ _ (by omega) (by omega) (by omega)
    · rw [rot_r (t := y) (by omega) c1 (by omega), show y - (i - (a + 1)) = a by omega]
      exact swo_asym hO _ _ (h1 _ (by omega) (by omega))
  · rw [rot_out (t := y) (by omega)]
    by_cases c2 : x < i
    · by_cases c3 : x < a + (i - (a + 1))
      · rw [rot_l (t := x) hx c2 c3]
        exact hs _ _ (by omega) (by omega) (by omega)
      · rw [rot_r (t := x) hx c2 (by omega), show x - (i - (a + 1)) = a by omega]
        exact h2 _ (by omega) (by omega)
    · rw [rot_out (t := x) (by omega)]
      exact hs _ _ (by omega) (by omega) (by omega)
/-- An ascending run, then one element. -/
theorem insert_left (hO : SWO lt) (d d' : Array α) (a i m : Nat) (hai : a ≤ i) (him : i ≤ m) (hs : SortedIn lt a m d) (h1 : ∀ t, a ≤ t → t < i → lt d[m]! d[t]! = false) (h2 : ∀ t, i ≤ t → t < m → lt d[m]! d[t]! = true)
    (h : ∀ t, d'[t]! = rotAt d i m (m + 1) t) : SortedIn lt a (m + 1) d' := by
  intro x y hx hxy hy
  rw [h, h]
  by_cases c1 : x < i
  · rw [rot_out (t := x) (by omega)]
    by_cases c2 : y < i
    · rw [rot_out (t := y) (by omega)]
      exact hs _ _ (by omega) (by omega) (by omega)
    · by_cases c3 : y = i
      · rw [rot_l (t := y) (by omega) hy (by omega), show y + (m - i) = m by omega]
        exact h1 _ (by omega) (by omega)
      · rw [rot_r (t := y) (by omega) hy (by omega)]
        exact hs _ _ (by omega) (by omega) (by omega)
  · rw [rot_r (t := y) (by omega) hy (by omega)]
    by_cases c3 : x = i
    · rw [rot_l (t := x) (by omega) (by omega) (by omega), show x + (m - i) = m by omega]
      exact swo_asym hO _ _ (h2 _ (by omega) (by omega))
    · rw [rot_r (t := x) (by omega) (by omega) (by omega)]
      exact hs _ _ (by omega) (by omega) (by omega)
/-- The cut of two ascending runs: where the left one is cut at s and the right one at e = mid + m - s, and these parts change places. -/
theorem sym_cut (hO : SWO lt) (d d' : Array α) (a m b mid s e : Nat) (hmid : mid = (a + b) / 2) (ham : a < m) (hmb : m < b)
    (hl : SortedIn lt a m d) (hr : SortedIn lt m b d) (he : e + s = mid + m)
    (hlo : (if m > mid then mid + m - b else a) ≤ s) (hhi : s ≤ (if m > mid then mid else m))
    (h1 : ∀ c, (if m > mid then mid + m - b else a) ≤ c → c < s → lt d[mid + m - 1 - c]! d[c]! = false)
    (h2 : ∀ c, s ≤ c → c < (if m > mid then mid else m) → lt d[mid + m - 1 - c]! d[c]! = true)
    (h : ∀ t, d'[t]! = rotAt d s m e t) :
    a ≤ s ∧ s ≤ mid ∧ mid ≤ e ∧ e ≤ b ∧ s ≤ m ∧ m ≤ e ∧ SortedIn lt a s d' ∧ SortedIn lt s mid d' ∧ SortedIn lt mid e d' ∧ SortedIn lt e b d' ∧ ∀ x y, a ≤ x → x < mid → mid ≤ y → y < b → lt d'[y]! d'[x]! = false := by
  have hle : ∀ {lo hi : Nat}, SortedIn lt lo hi d → ∀ i j, lo ≤ i → i ≤ j → j < hi → lt d[j]! d[i]! = false := fun hs i j hi hij hj => by
    rcases Nat.lt_or_eq_of_le hij with h0 | h0
    · exact hs i j hi h0 hj
    · subst h0; exact hO.irrefl _
  have b1 : a ≤ s := by split at hlo <;> omega
  have b2 : s ≤ m := by split at hhi <;> omega
  have b3 : s ≤ mid := by split at hhi <;> omega
  have b4 : e ≤ b := by split at hlo <;> omega
  have b5 : m ≤ e := by omega
  have b6 : mid ≤ e := by omega
  refine ⟨b1, b3, b6, b4, b2, b5, ?_, ?_, ?_, ?_, ?_⟩
  · intro x y hx hxy hy
    rw [h, h, rot_out (t := x) (by omega), rot_out (t := y) (by omega)]
    exact hl _ _ hx hxy (by omega)
  · intro x y hx hxy hy
    rw [h, h, rot_l (t := x) (by omega) (by omega) (by omega), rot_l (t := y) (by omega) (by omega) (by omega)]
    exact hr _ _ (by omega) (by omega) (by omega)
  · intro x y hx hxy hy
    rw [h, h, rot_r (t := x) (by omega) (by omega) (by omega), rot_r (t := y) (by omega) (by omega) (by omega)]
    exact hl _ _ (by omega) (by omega) (by omega)
  · intro x y hx hxy hy
    rw [h, h, rot_out (t := x) (by omega), rot_out (t := y) (by omega)]
    exact hr _ _ (by omega) (by omega) (by omega)
  · -- left parts: [a, s) of the left run, [m, e) of the right; right parts: [s, m) of the left, [e, b) of the right
    intro x y hx hxm hy hyb
    rw [h, h]
    -- the right run's first left over against the left run's last kept
    have key1 : s > a → e < b → lt d[e]! d[s - 1]! = false := fun hs0 he0 => by
      have := h1 (s - 1) (by split <;> omega) (by omega)
      have e1 : mid + m - 1 - (s - 1) = e := by omega
      rwa [e1] at this
    have key2 : s < m → m < e → lt d[s]! d[e - 1]! = false := fun hs0 he0 => by
      have := h2 s (Nat.le_refl _) (by split <;> omega)
      have e1 : mid + m - 1 - s = e - 1 := by omega
      rw [e1] at this
      exact swo_asym hO _ _ this
    by_cases cx : x < s
    · rw [rot_out (t := x) (.inl cx)]
      by_cases cy : e ≤ y
      · rw [rot_out (t := y) (.inr cy)]
        exact hO.ntrans _ _ _ (hle hr e y (by omega) cy hyb) (hO.ntrans _ _ _ (key1 (by omega) (by omega)) (hle hl x (s - 1) hx (by omega) (by omega)))
      · rw [rot_r (t := y) (by omega) (by omega) (by omega)]
        exact hle hl _ _ hx (by omega) (by omega)
    · rw [rot_l (t := x) (by omega) (by omega) (by omega)]
      by_cases cy : e ≤ y
      · rw [rot_out (t := y) (.inr cy)]
        exact hle hr _ _ (by omega) (by omega) hyb
      · rw [rot_r (t := y) (by omega) (by omega) (by omega)]
        exact hO.ntrans _ _ _ (hle hl s _ (by omega) (by omega) (by omega)) (hO.ntrans _ _ _ (key2 (by omega) (by omega)) (hle hr _ (e - 1) (by omega) (by omega) (by omega)))
/-- The search's test falls only once. -/
theorem sym_mono (hO : SWO lt) (d : Array α) (a m b mid lo hi : Nat) (hmid : mid = (a + b) / 2) (ham : a < m) (hmb : m < b) (hlo : lo = if m > mid then mid + m - b else a) (hhi : hi = if m > mid then mid else m)
    (hl : SortedIn lt a m d) (hr : SortedIn lt m b d) (c1 c2 : Nat) (h0 : lo ≤ c1) (h1 : c1 < c2) (h2 : c2 < hi) (h : lt d[mid + m - 1 - c2]! d[c2]! = false) : lt d[mid + m - 1 - c1]! d[c1]! = false := by
  have e1 : a ≤ c1 ∧ c2 < m ∧ m ≤ mid + m - 1 - c2 ∧ mid + m - 1 - c1 < b := by split at hlo <;> split at hhi <;> omega
  exact hO.ntrans _ _ _ (hr _ _ (by omega) (by omega) (by omega)) (hO.ntrans _ _ _ h (hl _ _ (by omega) h1 (by omega)))
/-- Two sorted halves, none of the right below one of the left. -/
theorem sorted_join (d d1 d2 : Array α) (a mid b : Nat) (h1 : a ≤ mid) (h2 : mid ≤ b) (hb : b ≤ d.size) (hx : ∀ x y, a ≤ x → x < mid → mid ≤ y → y < b → lt d[y]! d[x]! = false)
    (p1 : PermIn a mid d d1) (s1 : SortedIn lt a mid d1) (p2 : PermIn mid b d1 d2) (s2 : SortedIn lt mid b d2) : SortedIn lt a b d2 := by
  have q1 : ∀ x y, a ≤ x → x < mid → mid ≤ y → y < b → lt d1[y]! d1[x]! = false := by
    intro x y x1 x2 y1 y2
    rw [p1.2.1 y (.inr y1)]
    exact permIn_all d d1 a mid (fun u => lt d[y]! u = false) (by omega) p1 (fun i i1 i2 => hx i y i1 i2 y1 y2) x x1 x2
  intro x y x0 xy yb
  by_cases hy : y < mid
  · rw [p2.2.1 x (.inl (by omega)), p2.2.1 y (.inl hy)]
    exact s1 x y x0 xy hy
  · by_cases hx' : x < mid
    · rw [p2.2.1 x (.inl hx')]
      exact permIn_all d1 d2 mid b (fun u => lt u d1[x]! = false) (by rw [p1.1]; exact hb) p2 (fun i i1 i2 => q1 x i x0 hx' i1 i2) y (by omega) yb
    · exact s2 x y (by omega) xy yb
end Iv
