/- collect.copyWorld: six clones in a region that draws its order, stored into the result. -/
import Derived.Test.YtlofjhcjjcohfaaTrP
import Derived.Test.YtlofjhcjjcohfaaCln
import Derived.Test.YtlofjhcjjcohfaaHeldE
namespace Go.Proofs.Ytlofjhcjjcohfaa
open Go Go.RowKit Iv
set_option linter.unusedVariables false

/-- A slice handed in. -/
structure In1 (w : World) (B sz bytes : Nat) (A : Option Addr) (n c : Nat) (X : List Value) : Prop where
  lies : Lies w B sz A n X
  none_ : A = none → c = 0
  one : ∀ u ∈ X, u.oneCell' = true
  cap : n ≤ maxLen
  bytes_ : n * bytes ≤ 140737488355328
theorem In1.grown {w w' : World} {B sz bytes n c : Nat} {A : Option Addr} {X : List Value} (h : In1 w B sz bytes A n c X) (hg : w.grownBy w' none) (hB : B ≤ w.heap.size) : In1 w' B sz bytes A n c X :=
  ⟨h.lies.grown hg hB (fun g e => nomatch e), h.none_, h.one, h.cap, h.bytes_⟩
theorem cloneCell_in {w : World} {B n c : Nat} {A : Option Addr} {X : List Value} (h : In1 w B 5 48 A n c X) (hB : B ≤ w.heap.size) :
    Calls Try.prog 79 #[.slice A n c] w fun e w' => ∃ A' c', e = .returned (.slice A' n c') ∧ w'.ownsRow w.heap.size 139 5 (.slice A' n c') n X ∧ w.grownBy w' none :=
  (cloneCell_any w B A n c X h.lies hB h.none_ h.one h.cap h.bytes_).mono fun e w' ⟨A', n', c', he, hn, ho, hg⟩ => by subst hn; exact ⟨A', c', he, ho, hg⟩
theorem cloneLock_in {w : World} {B n c : Nat} {A : Option Addr} {X : List Value} (h : In1 w B 2 24 A n c X) (hB : B ≤ w.heap.size) :
    Calls Try.prog 80 #[.slice A n c] w fun e w' => ∃ A' c', e = .returned (.slice A' n c') ∧ w'.ownsRow w.heap.size 142 2 (.slice A' n c') n X ∧ w.grownBy w' none :=
  (cloneLock_any w B A n c X h.lies hB h.none_ h.one h.cap h.bytes_).mono fun e w' ⟨A', n', c', he, hn, ho, hg⟩ => by subst hn; exact ⟨A', c', he, ho, hg⟩
theorem cloneCond_in {w : World} {B n c : Nat} {A : Option Addr} {X : List Value} (h : In1 w B 2 24 A n c X) (hB : B ≤ w.heap.size) :
    Calls Try.prog 81 #[.slice A n c] w fun e w' => ∃ A' c', e = .returned (.slice A' n c') ∧ w'.ownsRow w.heap.size 145 2 (.slice A' n c') n X ∧ w.grownBy w' none :=
  (cloneCond_any w B A n c X h.lies hB h.none_ h.one h.cap h.bytes_).mono fun e w' ⟨A', n', c', he, hn, ho, hg⟩ => by subst hn; exact ⟨A', c', he, ho, hg⟩
theorem cloneStr_in {w : World} {B n c : Nat} {A : Option Addr} {X : List Value} (h : In1 w B 1 16 A n c X) (hB : B ≤ w.heap.size) :
    Calls Try.prog 82 #[.slice A n c] w fun e w' => ∃ A' c', e = .returned (.slice A' n c') ∧ w'.ownsRow w.heap.size 9 1 (.slice A' n c') n X ∧ w.grownBy w' none :=
  (cloneStr_any w B A n c X h.lies hB h.none_ h.one h.cap h.bytes_).mono fun e w' ⟨A', n', c', he, hn, ho, hg⟩ => by subst hn; exact ⟨A', c', he, ho, hg⟩
theorem cloneSite_in {w : World} {B n c : Nat} {A : Option Addr} {X : List Value} (h : In1 w B 3 24 A n c X) (hB : B ≤ w.heap.size) :
    Calls Try.prog 83 #[.slice A n c] w fun e w' => ∃ A' c', e = .returned (.slice A' n c') ∧ w'.ownsRow w.heap.size 149 3 (.slice A' n c') n X ∧ w.grownBy w' none :=
  (cloneSite_any w B A n c X h.lies hB h.none_ h.one h.cap h.bytes_).mono fun e w' ⟨A', n', c', he, hn, ho, hg⟩ => by subst hn; exact ⟨A', c', he, ho, hg⟩
theorem stores6 {w : World} {g : Nat} {t : TypeId} {z : Value} (H : Held w g t #[z, z, z, z, z, z]) (u0 u1 u2 u3 u4 u5 : Value) (b : Nat) (hb : b ≤ g) :
    Held ((((((w.setCell ⟨g, 0, none⟩ u0).setCell ⟨g, 1, none⟩ u1).setCell ⟨g, 2, none⟩ u2).setCell ⟨g, 3, none⟩ u3).setCell ⟨g, 4, none⟩ u4).setCell ⟨g, 5, none⟩ u5) g t #[u0, u1, u2, u3, u4, u5] ∧ w.grownBy ((((((w.setCell ⟨g, 0, none⟩ u0).setCell ⟨g, 1, none⟩ u1).setCell ⟨g, 2, none⟩ u2).setCell ⟨g, 3, none⟩ u3).setCell ⟨g, 4, none⟩ u4).setCell ⟨g, 5, none⟩ u5) (some g) := by
  have q0 : Held (w.setCell ⟨g, 0, none⟩ u0) g t #[u0, z, z, z, z, z] := H.store 0 _
  have g0 : w.grownBy (w.setCell ⟨g, 0, none⟩ u0) (some g) := grown_store w g 0 u0
  have q1 : Held ((w.setCell ⟨g, 0, none⟩ u0).setCell ⟨g, 1, none⟩ u1) g t #[u0, u1, z, z, z, z] := q0.store 1 _
  have g1 : w.grownBy ((w.setCell ⟨g, 0, none⟩ u0).setCell ⟨g, 1, none⟩ u1) (some g) := grownBy_trans g0 (grown_store _ g 1 u1) (.inl rfl)
  have q2 : Held (((w.setCell ⟨g, 0, none⟩ u0).setCell ⟨g, 1, none⟩ u1).setCell ⟨g, 2, none⟩ u2) g t #[u0, u1, u2, z, z, z] := q1.store 2 _
  have g2 : w.grownBy (((w.setCell ⟨g, 0, none⟩ u0).setCell ⟨g, 1, none⟩ u1).setCell ⟨g, 2, none⟩ u2) (some g) := grownBy_trans g1 (grown_store _ g 2 u2) (.inl rfl)
  have q3 : Held ((((w.setCell ⟨g, 0, none⟩ u0).setCell ⟨g, 1, none⟩ u1).setCell ⟨g, 2, none⟩ u2).setCell ⟨g, 3, none⟩ u3) g t #[u0, u1, u2, u3, z, z] := q2.store 3 _
  have g3 : w.grownBy ((((w.setCell ⟨g, 0, none⟩ u0).setCell ⟨g, 1, none⟩ u1).setCell ⟨g, 2, none⟩ u2).setCell ⟨g, 3, none⟩ u3) (some g) := grownBy_trans g2 (grown_store _ g 3 u3) (.inl rfl)
  have q4 : Held (((((w.setCell ⟨g, 0, none⟩ u0).setCell ⟨g, 1, none⟩ u1).setCell ⟨g, 2, none⟩ u2).setCell ⟨g, 3, none⟩ u3).setCell ⟨g, 4, none⟩ u4) g t #[u0, u1, u2, u3, u4, z] := q3.store 4 _
  have g4 : w.grownBy (((((w.setCell ⟨g, 0, none⟩ u0).setCell ⟨g, 1, none⟩ u1).setCell ⟨g, 2, none⟩ u2).setCell ⟨g, 3, none⟩ u3).setCell ⟨g, 4, none⟩ u4) (some g) := grownBy_trans g3 (grown_store _ g 4 u4) (.inl rfl)
  have q5 : Held ((((((w.setCell ⟨g, 0, none⟩ u0).setCell ⟨g, 1, none⟩ u1).setCell ⟨g, 2, none⟩ u2).setCell ⟨g, 3, none⟩ u3).setCell ⟨g, 4, none⟩ u4).setCell ⟨g, 5, none⟩ u5) g t #[u0, u1, u2, u3, u4, u5] := q4.store 5 _
  have g5 : w.grownBy ((((((w.setCell ⟨g, 0, none⟩ u0).setCell ⟨g, 1, none⟩ u1).setCell ⟨g, 2, none⟩ u2).setCell ⟨g, 3, none⟩ u3).setCell ⟨g, 4, none⟩ u4).setCell ⟨g, 5, none⟩ u5) (some g) := grownBy_trans g4 (grown_store _ g 5 u5) (.inl rfl)
  exact ⟨q5, g5⟩

set_option maxRecDepth 100000 in
set_option maxHeartbeats 3200000 in
theorem copyWorld_any (w : World) (B : Nat) (A0 : Option Addr) (n0 c0 : Nat) (X0 : List Value) (A1 : Option Addr) (n1 c1 : Nat) (X1 : List Value) (A2 : Option Addr) (n2 c2 : Nat) (X2 : List Value) (A3 : Option Addr) (n3 c3 : Nat) (X3 : List Value) (A4 : Option Addr) (n4 c4 : Nat) (X4 : List Value) (A5 : Option Addr) (n5 c5 : Nat) (X5 : List Value) (h0 : In1 w B 5 48 A0 n0 c0 X0) (h1 : In1 w B 2 24 A1 n1 c1 X1) (h2 : In1 w B 2 24 A2 n2 c2 X2) (h3 : In1 w B 1 16 A3 n3 c3 X3) (h4 : In1 w B 1 16 A4 n4 c4 X4) (h5 : In1 w B 3 24 A5 n5 c5 X5) (hB : B ≤ w.heap.size) :
    Calls Try.prog 65 #[.agg #[.slice A0 n0 c0, .slice A1 n1 c1, .slice A2 n2 c2, .slice A3 n3 c3, .slice A4 n4 c4, .slice A5 n5 c5]] w fun e w' => ∃ D0 k0 D1 k1 D2 k2 D3 k3 D4 k4 D5 k5, e = .returned (.agg #[Value.slice D0 n0 k0, Value.slice D1 n1 k1, Value.slice D2 n2 k2, Value.slice D3 n3 k3, Value.slice D4 n4 k4, Value.slice D5 n5 k5]) ∧ (w'.ownsRow w.heap.size 139 5 (.slice D0 n0 k0) n0 X0 ∧ w'.ownsRow w.heap.size 142 2 (.slice D1 n1 k1) n1 X1 ∧ w'.ownsRow w.heap.size 145 2 (.slice D2 n2 k2) n2 X2 ∧ w'.ownsRow w.heap.size 9 1 (.slice D3 n3 k3) n3 X3 ∧ w'.ownsRow w.heap.size 9 1 (.slice D4 n4 k4) n4 X4 ∧ w'.ownsRow w.heap.size 149 3 (.slice D5 n5 k5) n5 X5) ∧ w.grownBy w' none := by
  obtain ⟨W, hW⟩ : ∃ W, W = (w.alloc (.cells #[.slice A0 n0 c0, .slice A1 n1 c1, .slice A2 n2 c2, .slice A3 n3 c3, .slice A4 n4 c4, .slice A5 n5 c5] 70)).alloc (.cells #[.slice none 0 0, .slice none 0 0, .slice none 0 0, .slice none 0 0, .slice none 0 0, .slice none 0 0] 70) := ⟨_, rfl⟩
  have hg : w.grownBy W none := by
    rw [hW]; exact grownBy_trans (World.grownBy_alloc w _ none) (World.grownBy_alloc _ _ none) (.inl rfl)
  have hb0 : Held W w.heap.size 70 #[.slice A0 n0 c0, .slice A1 n1 c1, .slice A2 n2 c2, .slice A3 n3 c3, .slice A4 n4 c4, .slice A5 n5 c5] := by rw [hW]; exact (Held.new w _ _).alloc _
  have hb1 : Held W (w.heap.size + 1) 70 #[.slice none 0 0, .slice none 0 0, .slice none 0 0, .slice none 0 0, .slice none 0 0, .slice none 0 0] := by
    rw [hW]
    have := Held.new (w.alloc (.cells #[.slice A0 n0 c0, .slice A1 n1 c1, .slice A2 n2 c2, .slice A3 n3 c3, .slice A4 n4 c4, .slice A5 n5 c5] 70)) 70 #[.slice none 0 0, .slice none 0 0, .slice none 0 0, .slice none 0 0, .slice none 0 0, .slice none 0 0]
    rwa [World.size_alloc] at this
  have HB0 := Lib.hid hb0
  have HB1 := Lib.hid hb1
  have HBW : Hid (B ≤ W.heap.size) := Lib.hid (Nat.le_trans hB hg.size)
  have HGW := Lib.hid hg
  have hws : w.heap.size + 1 < W.heap.size := hb1.lt
  have HI0 := Lib.hid (fun (W2 : World) (g : W.grownBy W2 none) => h0.grown (grownBy_trans hg g (.inl rfl)) hB)
  have HI1 := Lib.hid (fun (W2 : World) (g : W.grownBy W2 none) => h1.grown (grownBy_trans hg g (.inl rfl)) hB)
  have HI2 := Lib.hid (fun (W2 : World) (g : W.grownBy W2 none) => h2.grown (grownBy_trans hg g (.inl rfl)) hB)
  have HI3 := Lib.hid (fun (W2 : World) (g : W.grownBy W2 none) => h3.grown (grownBy_trans hg g (.inl rfl)) hB)
  have HI4 := Lib.hid (fun (W2 : World) (g : W.grownBy W2 none) => h4.grown (grownBy_trans hg g (.inl rfl)) hB)
  have HI5 := Lib.hid (fun (W2 : World) (g : W.grownBy W2 none) => h5.grown (grownBy_trans hg g (.inl rfl)) hB)
  have HS : Hid (∀ w', W.grownBy w' none → w'.cell? ⟨w.heap.size, 0, none⟩ = some (.slice A0 n0 c0) ∧ w'.cell? ⟨w.heap.size, 1, none⟩ = some (.slice A1 n1 c1) ∧ w'.cell? ⟨w.heap.size, 2, none⟩ = some (.slice A2 n2 c2) ∧ w'.cell? ⟨w.heap.size, 3, none⟩ = some (.slice A3 n3 c3) ∧ w'.cell? ⟨w.heap.size, 4, none⟩ = some (.slice A4 n4 c4) ∧ w'.cell? ⟨w.heap.size, 5, none⟩ = some (.slice A5 n5 c5)) := Lib.hid (fun w' g => by
    have H := HB0.out.grown g (fun e => nomatch e)
    exact ⟨H.cell 0, H.cell 1, H.cell 2, H.cell 3, H.cell 4, H.cell 5⟩)
  have HW := Lib.hid hW
  clear hW hb0 hb1 hg h0 h1 h2 h3 h4 h5
  go_enter Try.func65, Try.ntmps65
  go_wp2_with fail
  rw [show (w.alloc (.cells #[.slice A0 n0 c0, .slice A1 n1 c1, .slice A2 n2 c2, .slice A3 n3 c3, .slice A4 n4 c4, .slice A5 n5 c5] 70)).alloc (.cells #[.slice none 0 0, .slice none 0 0, .slice none 0 0, .slice none 0 0, .slice none 0 0, .slice none 0 0] 70) = W from HW.out.symm]
  refine wp_region_E (z := 19) (S := fun w' => w'.cell? ⟨w.heap.size, 0, none⟩ = some (.slice A0 n0 c0) ∧ w'.cell? ⟨w.heap.size, 1, none⟩ = some (.slice A1 n1 c1) ∧ w'.cell? ⟨w.heap.size, 2, none⟩ = some (.slice A2 n2 c2) ∧ w'.cell? ⟨w.heap.size, 3, none⟩ = some (.slice A3 n3 c3) ∧ w'.cell? ⟨w.heap.size, 4, none⟩ = some (.slice A4 n4 c4) ∧ w'.cell? ⟨w.heap.size, 5, none⟩ = some (.slice A5 n5 c5)) (by kernel_rfl) (by exact HS.out _ (grown_toDrew (World.grownBy.refl W none))) (fun hHeld => ?_)
  refine wpAnyE_take (i := 0) (oi := ⟨some 3, _, _, _, _, _⟩) (v := ?_) rfl (by kernel_rfl) (by kernel_rfl) (by kernel_rfl) (by kernel_rfl) (fun _ _ _ h => h) (Or.inl ⟨by rfl, ?_⟩) (by assumption) ?_
  rotate_left
  · intro w hSw; (try dsimp only at hSw); go_simp; (try with_reducible rfl)
  try simp only [Act.put, List.setIfInBounds_toArray, List.set_cons_zero, List.set_cons_succ]
  refine wpAnyE_take (i := 1) (oi := ⟨some 4, _, _, _, _, _⟩) (v := ?_) rfl (by kernel_rfl) (by kernel_rfl) (by kernel_rfl) (by kernel_rfl) (fun _ _ _ h => h) (Or.inl ⟨by rfl, ?_⟩) (by assumption) ?_
  rotate_left
  · intro w hSw; (try dsimp only at hSw); go_simp; (try with_reducible rfl)
  try simp only [Act.put, List.setIfInBounds_toArray, List.set_cons_zero, List.set_cons_succ]
  refine wpAnyE_take (i := 3) (oi := ⟨some 6, _, _, _, _, _⟩) (v := ?_) rfl (by kernel_rfl) (by kernel_rfl) (by kernel_rfl) (by kernel_rfl) (fun _ _ _ h => h) (Or.inl ⟨by rfl, ?_⟩) (by assumption) ?_
  rotate_left
  · intro w hSw; (try dsimp only at hSw); go_simp; (try with_reducible rfl)
  try simp only [Act.put, List.setIfInBounds_toArray, List.set_cons_zero, List.set_cons_succ]
  refine wpAnyE_take (i := 4) (oi := ⟨some 7, _, _, _, _, _⟩) (v := ?_) rfl (by kernel_rfl) (by kernel_rfl) (by kernel_rfl) (by kernel_rfl) (fun _ _ _ h => h) (Or.inl ⟨by rfl, ?_⟩) (by assumption) ?_
  rotate_left
  · intro w hSw; (try dsimp only at hSw); go_simp; (try with_reducible rfl)
  try simp only [Act.put, List.setIfInBounds_toArray, List.set_cons_zero, List.set_cons_succ]
  refine wpAnyE_take (i := 6) (oi := ⟨some 9, _, _, _, _, _⟩) (v := ?_) rfl (by kernel_rfl) (by kernel_rfl) (by kernel_rfl) (by kernel_rfl) (fun _ _ _ h => h) (Or.inl ⟨by rfl, ?_⟩) (by assumption) ?_
  rotate_left
  · intro w hSw; (try dsimp only at hSw); go_simp; (try with_reducible rfl)
  try simp only [Act.put, List.setIfInBounds_toArray, List.set_cons_zero, List.set_cons_succ]
  refine wpAnyE_take (i := 7) (oi := ⟨some 10, _, _, _, _, _⟩) (v := ?_) rfl (by kernel_rfl) (by kernel_rfl) (by kernel_rfl) (by kernel_rfl) (fun _ _ _ h => h) (Or.inl ⟨by rfl, ?_⟩) (by assumption) ?_
  rotate_left
  · intro w hSw; (try dsimp only at hSw); go_simp; (try with_reducible rfl)
  try simp only [Act.put, List.setIfInBounds_toArray, List.set_cons_zero, List.set_cons_succ]
  refine wpAnyE_take (i := 9) (oi := ⟨some 12, _, _, _, _, _⟩) (v := ?_) rfl (by kernel_rfl) (by kernel_rfl) (by kernel_rfl) (by kernel_rfl) (fun _ _ _ h => h) (Or.inl ⟨by rfl, ?_⟩) (by assumption) ?_
  rotate_left
  · intro w hSw; (try dsimp only at hSw); go_simp; (try with_reducible rfl)
  try simp only [Act.put, List.setIfInBounds_toArray, List.set_cons_zero, List.set_cons_succ]
  refine wpAnyE_take (i := 10) (oi := ⟨some 13, _, _, _, _, _⟩) (v := ?_) rfl (by kernel_rfl) (by kernel_rfl) (by kernel_rfl) (by kernel_rfl) (fun _ _ _ h => h) (Or.inl ⟨by rfl, ?_⟩) (by assumption) ?_
  rotate_left
  · intro w hSw; (try dsimp only at hSw); go_simp; (try with_reducible rfl)
  try simp only [Act.put, List.setIfInBounds_toArray, List.set_cons_zero, List.set_cons_succ]
  refine wpAnyE_take (i := 12) (oi := ⟨some 15, _, _, _, _, _⟩) (v := ?_) rfl (by kernel_rfl) (by kernel_rfl) (by kernel_rfl) (by kernel_rfl) (fun _ _ _ h => h) (Or.inl ⟨by rfl, ?_⟩) (by assumption) ?_
  rotate_left
  · intro w hSw; (try dsimp only at hSw); go_simp; (try with_reducible rfl)
  try simp only [Act.put, List.setIfInBounds_toArray, List.set_cons_zero, List.set_cons_succ]
  refine wpAnyE_take (i := 13) (oi := ⟨some 16, _, _, _, _, _⟩) (v := ?_) rfl (by kernel_rfl) (by kernel_rfl) (by kernel_rfl) (by kernel_rfl) (fun _ _ _ h => h) (Or.inl ⟨by rfl, ?_⟩) (by assumption) ?_
  rotate_left
  · intro w hSw; (try dsimp only at hSw); go_simp; (try with_reducible rfl)
  try simp only [Act.put, List.setIfInBounds_toArray, List.set_cons_zero, List.set_cons_succ]
  refine wpAnyE_take (i := 15) (oi := ⟨some 18, _, _, _, _, _⟩) (v := ?_) rfl (by kernel_rfl) (by kernel_rfl) (by kernel_rfl) (by kernel_rfl) (fun _ _ _ h => h) (Or.inl ⟨by rfl, ?_⟩) (by assumption) ?_
  rotate_left
  · intro w hSw; (try dsimp only at hSw); go_simp; (try with_reducible rfl)
  try simp only [Act.put, List.setIfInBounds_toArray, List.set_cons_zero, List.set_cons_succ]
  refine wpAnyE_take (i := 16) (oi := ⟨some 19, _, _, _, _, _⟩) (v := ?_) rfl (by kernel_rfl) (by kernel_rfl) (by kernel_rfl) (by kernel_rfl) (fun _ _ _ h => h) (Or.inl ⟨by rfl, ?_⟩) (by assumption) ?_
  rotate_left
  · intro w hSw; (try dsimp only at hSw); go_simp; (try with_reducible rfl)
  try simp only [Act.put, List.setIfInBounds_toArray, List.set_cons_zero, List.set_cons_succ]
  refine wpAnyE_one (i := 2) (o := ⟨some 5, _, _, _, _, _⟩) (by kernel_rfl) rfl (fun K hK => ?_)
  rw [if_pos (by rfl)]
  go_simp
  refine (cloneCell_in (HI0.out _ (grown_toDrew (World.grownBy.refl W none))) HBW.out).mono ?_
  rintro e w1 ⟨D0, k0, rfl, hown0, hg0⟩
  have HG1 : Hid (W.grownBy w1 none) := Lib.hid (grownBy_trans (grown_toDrew (World.grownBy.refl W none)) hg0 (.inl rfl))
  have HGB1 : Hid (B ≤ w1.heap.size) := Lib.hid (Nat.le_trans HBW.out HG1.out.size)
  have HO0 : Hid (w1.ownsRow W.heap.size 139 5 (.slice D0 n0 k0) n0 X0) := Lib.hid (ownsRow_base hown0 (Nat.le_refl _))
  clear hown0 hg0
  refine hK.out _ _ (by with_reducible exact HS.out _ HG1.out) (fun hHeld2 => ?_)
  clear hK K hHeld
  have hHeld := hHeld2
  clear hHeld2
  try simp only [Act.put, List.setIfInBounds_toArray, List.set_cons_zero, List.set_cons_succ]
  refine wpAnyE_one (i := 5) (o := ⟨some 8, _, _, _, _, _⟩) (by kernel_rfl) rfl (fun K hK => ?_)
  rw [if_pos (by rfl)]
  go_simp
  refine (cloneLock_in (HI1.out _ HG1.out) HGB1.out).mono ?_
  rintro e w2 ⟨D1, k1, rfl, hown1, hg1⟩
  have HG2 : Hid (W.grownBy w2 none) := Lib.hid (grownBy_trans HG1.out hg1 (.inl rfl))
  have HGB2 : Hid (B ≤ w2.heap.size) := Lib.hid (Nat.le_trans HBW.out HG2.out.size)
  have HO1 : Hid (w2.ownsRow W.heap.size 142 2 (.slice D1 n1 k1) n1 X1) := Lib.hid (ownsRow_base hown1 HG1.out.size)
  replace HO0 := Lib.hid (own_keep HO0.out hg1 (fun g _ e => nomatch e))
  clear hown1 hg1
  refine hK.out _ _ (by with_reducible exact HS.out _ HG2.out) (fun hHeld2 => ?_)
  clear hK K hHeld
  have hHeld := hHeld2
  clear hHeld2
  try simp only [Act.put, List.setIfInBounds_toArray, List.set_cons_zero, List.set_cons_succ]
  refine wpAnyE_one (i := 8) (o := ⟨some 11, _, _, _, _, _⟩) (by kernel_rfl) rfl (fun K hK => ?_)
  rw [if_pos (by rfl)]
  go_simp
  refine (cloneCond_in (HI2.out _ HG2.out) HGB2.out).mono ?_
  rintro e w3 ⟨D2, k2, rfl, hown2, hg2⟩
  have HG3 : Hid (W.grownBy w3 none) := Lib.hid (grownBy_trans HG2.out hg2 (.inl rfl))
  have HGB3 : Hid (B ≤ w3.heap.size) := Lib.hid (Nat.le_trans HBW.out HG3.out.size)
  have HO2 : Hid (w3.ownsRow W.heap.size 145 2 (.slice D2 n2 k2) n2 X2) := Lib.hid (ownsRow_base hown2 HG2.out.size)
  replace HO0 := Lib.hid (own_keep HO0.out hg2 (fun g _ e => nomatch e))
  replace HO1 := Lib.hid (own_keep HO1.out hg2 (fun g _ e => nomatch e))
  clear hown2 hg2
  refine hK.out _ _ (by with_reducible exact HS.out _ HG3.out) (fun hHeld2 => ?_)
  clear hK K hHeld
  have hHeld := hHeld2
  clear hHeld2
  try simp only [Act.put, List.setIfInBounds_toArray, List.set_cons_zero, List.set_cons_succ]
  refine wpAnyE_one (i := 11) (o := ⟨some 14, _, _, _, _, _⟩) (by kernel_rfl) rfl (fun K hK => ?_)
  rw [if_pos (by rfl)]
  go_simp
  refine (cloneStr_in (HI3.out _ HG3.out) HGB3.out).mono ?_
  rintro e w4 ⟨D3, k3, rfl, hown3, hg3⟩
  have HG4 : Hid (W.grownBy w4 none) := Lib.hid (grownBy_trans HG3.out hg3 (.inl rfl))
  have HGB4 : Hid (B ≤ w4.heap.size) := Lib.hid (Nat.le_trans HBW.out HG4.out.size)
  have HO3 : Hid (w4.ownsRow W.heap.size 9 1 (.slice D3 n3 k3) n3 X3) := Lib.hid (ownsRow_base hown3 HG3.out.size)
  replace HO0 := Lib.hid (own_keep HO0.out hg3 (fun g _ e => nomatch e))
  replace HO1 := Lib.hid (own_keep HO1.out hg3 (fun g _ e => nomatch e))
  replace HO2 := Lib.hid (own_keep HO2.out hg3 (fun g _ e => nomatch e))
  clear hown3 hg3
  refine hK.out _ _ (by with_reducible exact HS.out _ HG4.out) (fun hHeld2 => ?_)
  clear hK K hHeld
  have hHeld := hHeld2
  clear hHeld2
  try simp only [Act.put, List.setIfInBounds_toArray, List.set_cons_zero, List.set_cons_succ]
  refine wpAnyE_one (i := 14) (o := ⟨some 17, _, _, _, _, _⟩) (by kernel_rfl) rfl (fun K hK => ?_)
  rw [if_pos (by rfl)]
  go_simp
  refine (cloneStr_in (HI4.out _ HG4.out) HGB4.out).mono ?_
  rintro e w5 ⟨D4, k4, rfl, hown4, hg4⟩
  have HG5 : Hid (W.grownBy w5 none) := Lib.hid (grownBy_trans HG4.out hg4 (.inl rfl))
  have HGB5 : Hid (B ≤ w5.heap.size) := Lib.hid (Nat.le_trans HBW.out HG5.out.size)
  have HO4 : Hid (w5.ownsRow W.heap.size 9 1 (.slice D4 n4 k4) n4 X4) := Lib.hid (ownsRow_base hown4 HG4.out.size)
  replace HO0 := Lib.hid (own_keep HO0.out hg4 (fun g _ e => nomatch e))
  replace HO1 := Lib.hid (own_keep HO1.out hg4 (fun g _ e => nomatch e))
  replace HO2 := Lib.hid (own_keep HO2.out hg4 (fun g _ e => nomatch e))
  replace HO3 := Lib.hid (own_keep HO3.out hg4 (fun g _ e => nomatch e))
  clear hown4 hg4
  refine hK.out _ _ (by with_reducible exact HS.out _ HG5.out) (fun hHeld2 => ?_)
  clear hK K hHeld
  have hHeld := hHeld2
  clear hHeld2
  try simp only [Act.put, List.setIfInBounds_toArray, List.set_cons_zero, List.set_cons_succ]
  refine wpAnyE_one (i := 17) (o := ⟨some 20, _, _, _, _, _⟩) (by kernel_rfl) rfl (fun K hK => ?_)
  rw [if_pos (by rfl)]
  go_simp
  refine (cloneSite_in (HI5.out _ HG5.out) HGB5.out).mono ?_
  rintro e w6 ⟨D5, k5, rfl, hown5, hg5⟩
  have HG6 : Hid (W.grownBy w6 none) := Lib.hid (grownBy_trans HG5.out hg5 (.inl rfl))
  have HGB6 : Hid (B ≤ w6.heap.size) := Lib.hid (Nat.le_trans HBW.out HG6.out.size)
  have HO5 : Hid (w6.ownsRow W.heap.size 149 3 (.slice D5 n5 k5) n5 X5) := Lib.hid (ownsRow_base hown5 HG5.out.size)
  replace HO0 := Lib.hid (own_keep HO0.out hg5 (fun g _ e => nomatch e))
  replace HO1 := Lib.hid (own_keep HO1.out hg5 (fun g _ e => nomatch e))
  replace HO2 := Lib.hid (own_keep HO2.out hg5 (fun g _ e => nomatch e))
  replace HO3 := Lib.hid (own_keep HO3.out hg5 (fun g _ e => nomatch e))
  replace HO4 := Lib.hid (own_keep HO4.out hg5 (fun g _ e => nomatch e))
  clear hown5 hg5
  refine hK.out _ _ (by with_reducible exact HS.out _ HG6.out) (fun hHeld2 => ?_)
  clear hK K hHeld
  have hHeld := hHeld2
  clear hHeld2
  try simp only [Act.put, List.setIfInBounds_toArray, List.set_cons_zero, List.set_cons_succ]
  refine wpAnyE_take (i := 18) (oi := ⟨some 21, _, _, _, _, _⟩) (v := ?_) rfl (by kernel_rfl) (by kernel_rfl) (by kernel_rfl) (by kernel_rfl) (fun _ _ _ h => h) (Or.inl ⟨by rfl, ?_⟩) (by assumption) ?_
  rotate_left
  · intro w hSw; (try dsimp only at hSw); go_simp; (try with_reducible rfl)
  try simp only [Act.put, List.setIfInBounds_toArray, List.set_cons_zero, List.set_cons_succ]
  refine wpAnyE_last (o := ⟨none, _, _, _, _, _⟩) (by kernel_rfl) rfl (fun K hK => ?_)
  rw [if_pos (by rfl)]
  have HZ6 := Lib.hid (HB1.out.grown HG6.out (fun e => nomatch e))
  have z0 : w6.cell? ⟨w.heap.size + 1, 0, none⟩ = some (.slice none 0 0) := HZ6.out.cell 0
  have z1 : w6.cell? ⟨w.heap.size + 1, 1, none⟩ = some (.slice none 0 0) := HZ6.out.cell 1
  have z2 : w6.cell? ⟨w.heap.size + 1, 2, none⟩ = some (.slice none 0 0) := HZ6.out.cell 2
  have z3 : w6.cell? ⟨w.heap.size + 1, 3, none⟩ = some (.slice none 0 0) := HZ6.out.cell 3
  have z4 : w6.cell? ⟨w.heap.size + 1, 4, none⟩ = some (.slice none 0 0) := HZ6.out.cell 4
  have z5 : w6.cell? ⟨w.heap.size + 1, 5, none⟩ = some (.slice none 0 0) := HZ6.out.cell 5
  have y0 := HZ6.out.free 0
  have y1 := HZ6.out.free 1
  have y2 := HZ6.out.free 2
  have y3 := HZ6.out.free 3
  have y4 := HZ6.out.free 4
  have y5 := HZ6.out.free 5
  go_simp
  refine hK.out _ _ ?_
  clear hK K
  try simp only [Act.put, List.setIfInBounds_toArray, List.set_cons_zero, List.set_cons_succ]
  refine wpAnyE_done (by kernel_rfl) ?_ _
  obtain ⟨q6, g6⟩ := stores6 HZ6.out (Value.slice D0 n0 k0) (Value.slice D1 n1 k1) (Value.slice D2 n2 k2) (Value.slice D3 n3 k3) (Value.slice D4 n4 k4) (Value.slice D5 n5 k5) _ (Nat.le_refl _)
  generalize hwx : ((((((w6.setCell ⟨w.heap.size + 1, 0, none⟩ (Value.slice D0 n0 k0)).setCell ⟨w.heap.size + 1, 1, none⟩ (Value.slice D1 n1 k1)).setCell ⟨w.heap.size + 1, 2, none⟩ (Value.slice D2 n2 k2)).setCell ⟨w.heap.size + 1, 3, none⟩ (Value.slice D3 n3 k3)).setCell ⟨w.heap.size + 1, 4, none⟩ (Value.slice D4 n4 k4)).setCell ⟨w.heap.size + 1, 5, none⟩ (Value.slice D5 n5 k5)) = wx at q6 g6 ⊢
  have r0 : wx.cell? ⟨w.heap.size + 1, 0, none⟩ = some (.slice D0 n0 k0) := q6.cell 0
  have r1 : wx.cell? ⟨w.heap.size + 1, 1, none⟩ = some (.slice D1 n1 k1) := q6.cell 1
  have r2 : wx.cell? ⟨w.heap.size + 1, 2, none⟩ = some (.slice D2 n2 k2) := q6.cell 2
  have r3 : wx.cell? ⟨w.heap.size + 1, 3, none⟩ = some (.slice D3 n3 k3) := q6.cell 3
  have r4 : wx.cell? ⟨w.heap.size + 1, 4, none⟩ = some (.slice D4 n4 k4) := q6.cell 4
  have r5 : wx.cell? ⟨w.heap.size + 1, 5, none⟩ = some (.slice D5 n5 k5) := q6.cell 5
  go_wp2_with fail
  refine bodyPost_ret (v := .agg #[Value.slice D0 n0 k0, Value.slice D1 n1 k1, Value.slice D2 n2 k2, Value.slice D3 n3 k3, Value.slice D4 n4 k4, Value.slice D5 n5 k5]) (by simp [results, Try.results65, go_sem, r0, r1, r2, r3, r4, r5]) rfl ?_
  have hk : ∀ (e sz n : Nat) (v : Value) (X : List Value), w6.ownsRow W.heap.size e sz v n X → wx.ownsRow w.heap.size e sz v n X := fun e sz n v X h =>
    ownsRow_base (own_keep h g6 (fun x e1 e2 => by injection e2 with e2; have := (h.lt x e1).1; omega)) (by omega)
  exact ⟨D0, k0, D1, k1, D2, k2, D3, k3, D4, k4, D5, k5, rfl, ⟨hk _ _ _ _ _ HO0.out, hk _ _ _ _ _ HO1.out, hk _ _ _ _ _ HO2.out, hk _ _ _ _ _ HO3.out, hk _ _ _ _ _ HO4.out, hk _ _ _ _ _ HO5.out⟩, grownBy_trans (grownBy_trans HGW.out HG6.out (.inl rfl)) g6 (.inr ⟨_, rfl, by omega⟩)⟩
end Go.Proofs.Ytlofjhcjjcohfaa
