/- slices.Clone at the five types of a world's slices. -/
import Derived.Test.YtlofjhcjjcohfaaWk
import Derived.Great.BuildSlice
namespace Go.Proofs.Ytlofjhcjjcohfaa
open Go Go.RowKit Iv
set_option linter.unusedVariables false

theorem wpList_buildEmpty {P : Program} {ops : Array Oper} {rest : List Oper} {o : Oper} {a : Act} {w : World} {Q : Exit → Act → World → Prop} (hg : o.guard = none) (t e : TypeId) (ho : o.op = .buildSlice t 0 #[])
    (ie : TypeInfo) (hu : P.underlying t = some (.slice e)) (hie : P.info? e = some ie)
    (h : ∀ w', w' = w.alloc (.cells #[] e) → wpList P ops Q rest (a.put o.dst (.slice (some ⟨w.heap.size, 0, none⟩) 0 0)) w') : wpList P ops Q (o :: rest) a w := by
  refine wpList_plain hg fun K hK => ?_
  unfold Oper.wp execOp
  have hr : (Instr.buildSlice t 0 #[]).run P w = .ok (.slice (some ⟨w.heap.size, 0, none⟩) 0 0) (w.alloc (.cells #[] e)) := by
    simp [Instr.buildSlice, run_underlying hu, sizeOf, typeInfo, hie, newRow, Instr.fill]; simp [show Array.range 0 = #[] from by decide]
  simp [ho, hr, Result.andThen]
  exact hK _ _ (h _ rfl)
theorem alloc_grown (w : World) (o : Obj) : w.grownBy (w.alloc o) none := grown_alloc (World.grownBy.refl _ none)

theorem info_clCell : (Try.prog.info? 139).map (fun i => (i.zero.map fun z => z.cells.size, i.size, i.bytes)) = some (some 5, 5, 48) := by kernel_rfl
set_option maxRecDepth 100000 in
theorem cloneCell_any (w : World) (B : Nat) (A : Option Addr) (n c : Nat) (xs : List Value) (hl : Lies w B 5 A n xs) (hB : B ≤ w.heap.size) (ho : A = none → c = 0) (h1 : ∀ u ∈ xs, u.oneCell' = true)
    (hn : n ≤ maxLen) (hby : n * 48 ≤ 140737488355328) :
    Calls Try.prog 79 #[.slice A n c] w fun e w' => ∃ A' n' c', e = .returned (.slice A' n' c') ∧ n' = n ∧ w'.ownsRow w.heap.size 139 5 (.slice A' n' c') n xs ∧ w.grownBy w' none := by
  cases A with
  | none =>
    obtain rfl := ho rfl
    obtain rfl : n = 0 := by
      rcases Nat.eq_zero_or_pos n with h0 | h0
      · exact h0
      · obtain ⟨ad, h, _⟩ := hl.2 h0
        cases h
    obtain rfl : xs = [] := List.eq_nil_of_length_eq_zero (by simpa using hl.1)
    clear hl ho h1 hn hby
    have qn := fun (w : World) => Lib.run_eql_slice_nil (P := Try.prog) w 64 139 none 0 0 0 0 Try.underlying64
    go_enter Try.func79, Try.ntmps79
    go_wp2_with fail
    go_ret
    exact ⟨none, 0, 0, rfl, rfl, World.ownsRow_nil _ _ _ _, World.grownBy.refl w none⟩
  | some ad =>
    obtain ⟨i0, hi, hh⟩ : ∃ i0, Try.prog.info? 139 = some i0 ∧ (i0.zero.map (fun z => z.cells.size), i0.size, i0.bytes) = (some 5, 5, 48) := by
      have := info_clCell
      cases hx : Try.prog.info? 139 with
      | none => rw [hx] at this; cases this
      | some i0 => rw [hx] at this; exact ⟨i0, rfl, by simpa using this⟩
    injection hh with hz0 hh
    injection hh with hz1 hz2
    obtain ⟨z, hz, hzs⟩ : ∃ z, i0.zero = some z ∧ z.cells.size = 5 := by
      cases hx : i0.zero with
      | none => rw [hx] at hz0; cases hz0
      | some z => rw [hx] at hz0; exact ⟨z, rfl, by simpa using hz0⟩
    have HI := Lib.hid hi
    have HZ0 := Lib.hid hz
    have HZS := Lib.hid hzs
    have HZ1 := Lib.hid hz1
    have HZ2 := Lib.hid hz2
    have HL := Lib.hid hl
    have H1 := Lib.hid h1
    have HOB := Lib.hid ho
    have h0 : (0 : Nat) < 5 := by omega
    clear hz0 hz1 hz2 hi hz hzs hl h1 ho
    have qn := fun (w : World) => Lib.run_eql_slice_nil (P := Try.prog) w 64 139 (some ad) n c 0 0 Try.underlying64
    go_enter Try.func79, Try.ntmps79
    go_wp2_with (first
      | (at_builtin; refine wpList_join _ rfl (.tmp 5) (.tmp 6) _ rfl w.heap.size 139 i0 z 5 48 Try.underlying64 HI.out HZ0.out HZ1.out HZ2.out HZS.out h0 _ 0 [] rfl HE.out B (some ad) n c xs rfl HL2.out (fun e => nomatch e) H1.out (by omega) (by omega) HBW.out ?_; intro v2 w2 hown2 hg2 hat2)
      | (refine wpList_buildEmpty rfl _ 139 rfl i0 Try.underlying64 HI.out ?_; intro w1 hw1
         have HE : Hid (w1.ownsRow w.heap.size 139 5 (.slice (some ⟨w.heap.size, 0, none⟩) 0 0) 0 []) := Lib.hid (by rw [hw1]; exact World.ownsRow_made w #[] 0 (Nat.le_refl _) (Nat.zero_le _) (by simp))
         have HG1 : Hid (w.grownBy w1 none) := Lib.hid (by rw [hw1]; exact alloc_grown w _)
         have HBW : Hid (w.heap.size ≤ w1.heap.size) := Lib.hid HG1.out.size
         have HL2 : Hid (Lies w1 B 5 (some ad) n xs) := Lib.hid (HL.out.grown HG1.out hB (fun g e => nomatch e))
         clear hw1))
    go_ret
    obtain ⟨A', c', hv, _⟩ := own_slice hown2
    exact ⟨A', 0 + n, c', by rw [hv]; rfl, by omega, by rw [← hv]; simpa using hown2, grownBy_trans HG1.out hg2 (.inr ⟨_, rfl, Nat.le_refl _⟩)⟩

theorem info_clLock : (Try.prog.info? 142).map (fun i => (i.zero.map fun z => z.cells.size, i.size, i.bytes)) = some (some 2, 2, 24) := by kernel_rfl
set_option maxRecDepth 100000 in
theorem cloneLock_any (w : World) (B : Nat) (A : Option Addr) (n c : Nat) (xs : List Value) (hl : Lies w B 2 A n xs) (hB : B ≤ w.heap.size) (ho : A = none → c = 0) (h1 : ∀ u ∈ xs, u.oneCell' = true)
    (hn : n ≤ maxLen) (hby : n * 24 ≤ 140737488355328) :
    Calls Try.prog 80 #[.slice A n c] w fun e w' => ∃ A' n' c', e = .returned (.slice A' n' c') ∧ n' = n ∧ w'.ownsRow w.heap.size 142 2 (.slice A' n' c') n xs ∧ w.grownBy w' none := by
  cases A with
  | none =>
    obtain rfl := ho rfl
    obtain rfl : n = 0 := by
      rcases Nat.eq_zero_or_pos n with h0 | h0
      · exact h0
      · obtain ⟨ad, h, _⟩ := hl.2 h0
        cases h
    obtain rfl : xs = [] := List.eq_nil_of_length_eq_zero (by simpa using hl.1)
    clear hl ho h1 hn hby
    have qn := fun (w : World) => Lib.run_eql_slice_nil (P := Try.prog) w 65 142 none 0 0 0 0 Try.underlying65
    go_enter Try.func80, Try.ntmps80
    go_wp2_with fail
    go_ret
    exact ⟨none, 0, 0, rfl, rfl, World.ownsRow_nil _ _ _ _, World.grownBy.refl w none⟩
  | some ad =>
    obtain ⟨i0, hi, hh⟩ : ∃ i0, Try.prog.info? 142 = some i0 ∧ (i0.zero.map (fun z => z.cells.size), i0.size, i0.bytes) = (some 2, 2, 24) := by
      have := info_clLock
      cases hx : Try.prog.info? 142 with
      | none => rw [hx] at this; cases this
      | some i0 => rw [hx] at this; exact ⟨i0, rfl, by simpa using this⟩
    injection hh with hz0 hh
    injection hh with hz1 hz2
    obtain ⟨z, hz, hzs⟩ : ∃ z, i0.zero = some z ∧ z.cells.size = 2 := by
      cases hx : i0.zero with
      | none => rw [hx] at hz0; cases hz0
      | some z => rw [hx] at hz0; exact ⟨z, rfl, by simpa using hz0⟩
    have HI := Lib.hid hi
    have HZ0 := Lib.hid hz
    have HZS := Lib.hid hzs
    have HZ1 := Lib.hid hz1
    have HZ2 := Lib.hid hz2
    have HL := Lib.hid hl
    have H1 := Lib.hid h1
    have HOB := Lib.hid ho
    have h0 : (0 : Nat) < 2 := by omega
    clear hz0 hz1 hz2 hi hz hzs hl h1 ho
    have qn := fun (w : World) => Lib.run_eql_slice_nil (P := Try.prog) w 65 142 (some ad) n c 0 0 Try.underlying65
    go_enter Try.func80, Try.ntmps80
    go_wp2_with (first
      | (at_builtin; refine wpList_join _ rfl (.tmp 5) (.tmp 6) _ rfl w.heap.size 142 i0 z 2 24 Try.underlying65 HI.out HZ0.out HZ1.out HZ2.out HZS.out h0 _ 0 [] rfl HE.out B (some ad) n c xs rfl HL2.out (fun e => nomatch e) H1.out (by omega) (by omega) HBW.out ?_; intro v2 w2 hown2 hg2 hat2)
      | (refine wpList_buildEmpty rfl _ 142 rfl i0 Try.underlying65 HI.out ?_; intro w1 hw1
         have HE : Hid (w1.ownsRow w.heap.size 142 2 (.slice (some ⟨w.heap.size, 0, none⟩) 0 0) 0 []) := Lib.hid (by rw [hw1]; exact World.ownsRow_made w #[] 0 (Nat.le_refl _) (Nat.zero_le _) (by simp))
         have HG1 : Hid (w.grownBy w1 none) := Lib.hid (by rw [hw1]; exact alloc_grown w _)
         have HBW : Hid (w.heap.size ≤ w1.heap.size) := Lib.hid HG1.out.size
         have HL2 : Hid (Lies w1 B 2 (some ad) n xs) := Lib.hid (HL.out.grown HG1.out hB (fun g e => nomatch e))
         clear hw1))
    go_ret
    obtain ⟨A', c', hv, _⟩ := own_slice hown2
    exact ⟨A', 0 + n, c', by rw [hv]; rfl, by omega, by rw [← hv]; simpa using hown2, grownBy_trans HG1.out hg2 (.inr ⟨_, rfl, Nat.le_refl _⟩)⟩

theorem info_clCond : (Try.prog.info? 145).map (fun i => (i.zero.map fun z => z.cells.size, i.size, i.bytes)) = some (some 2, 2, 24) := by kernel_rfl
set_option maxRecDepth 100000 in
theorem cloneCond_any (w : World) (B : Nat) (A : Option Addr) (n c : Nat) (xs : List Value) (hl : Lies w B 2 A n xs) (hB : B ≤ w.heap.size) (ho : A = none → c = 0) (h1 : ∀ u ∈ xs, u.oneCell' = true)
    (hn : n ≤ maxLen) (hby : n * 24 ≤ 140737488355328) :
    Calls Try.prog 81 #[.slice A n c] w fun e w' => ∃ A' n' c', e = .returned (.slice A' n' c') ∧ n' = n ∧ w'.ownsRow w.heap.size 145 2 (.slice A' n' c') n xs ∧ w.grownBy w' none := by
  cases A with
  | none =>
    obtain rfl := ho rfl
    obtain rfl : n = 0 := by
      rcases Nat.eq_zero_or_pos n with h0 | h0
      · exact h0
      · obtain ⟨ad, h, _⟩ := hl.2 h0
        cases h
    obtain rfl : xs = [] := List.eq_nil_of_length_eq_zero (by simpa using hl.1)
    clear hl ho h1 hn hby
    have qn := fun (w : World) => Lib.run_eql_slice_nil (P := Try.prog) w 66 145 none 0 0 0 0 Try.underlying66
    go_enter Try.func81, Try.ntmps81
    go_wp2_with fail
    go_ret
    exact ⟨none, 0, 0, rfl, rfl, World.ownsRow_nil _ _ _ _, World.grownBy.refl w none⟩
  | some ad =>
    obtain ⟨i0, hi, hh⟩ : ∃ i0, Try.prog.info? 145 = some i0 ∧ (i0.zero.map (fun z => z.cells.size), i0.size, i0.bytes) = (some 2, 2, 24) := by
      have := info_clCond
      cases hx : Try.prog.info? 145 with
      | none => rw [hx] at this; cases this
      | some i0 => rw [hx] at this; exact ⟨i0, rfl, by simpa using this⟩
    injection hh with hz0 hh
    injection hh with hz1 hz2
    obtain ⟨z, hz, hzs⟩ : ∃ z, i0.zero = some z ∧ z.cells.size = 2 := by
      cases hx : i0.zero with
      | none => rw [hx] at hz0; cases hz0
      | some z => rw [hx] at hz0; exact ⟨z, rfl, by simpa using hz0⟩
    have HI := Lib.hid hi
    have HZ0 := Lib.hid hz
    have HZS := Lib.hid hzs
    have HZ1 := Lib.hid hz1
    have HZ2 := Lib.hid hz2
    have HL := Lib.hid hl
    have H1 := Lib.hid h1
    have HOB := Lib.hid ho
    have h0 : (0 : Nat) < 2 := by omega
    clear hz0 hz1 hz2 hi hz hzs hl h1 ho
    have qn := fun (w : World) => Lib.run_eql_slice_nil (P := Try.prog) w 66 145 (some ad) n c 0 0 Try.underlying66
    go_enter Try.func81, Try.ntmps81
    go_wp2_with (first
      | (at_builtin; refine wpList_join _ rfl (.tmp 5) (.tmp 6) _ rfl w.heap.size 145 i0 z 2 24 Try.underlying66 HI.out HZ0.out HZ1.out HZ2.out HZS.out h0 _ 0 [] rfl HE.out B (some ad) n c xs rfl HL2.out (fun e => nomatch e) H1.out (by omega) (by omega) HBW.out ?_; intro v2 w2 hown2 hg2 hat2)
      | (refine wpList_buildEmpty rfl _ 145 rfl i0 Try.underlying66 HI.out ?_; intro w1 hw1
         have HE : Hid (w1.ownsRow w.heap.size 145 2 (.slice (some ⟨w.heap.size, 0, none⟩) 0 0) 0 []) := Lib.hid (by rw [hw1]; exact World.ownsRow_made w #[] 0 (Nat.le_refl _) (Nat.zero_le _) (by simp))
         have HG1 : Hid (w.grownBy w1 none) := Lib.hid (by rw [hw1]; exact alloc_grown w _)
         have HBW : Hid (w.heap.size ≤ w1.heap.size) := Lib.hid HG1.out.size
         have HL2 : Hid (Lies w1 B 2 (some ad) n xs) := Lib.hid (HL.out.grown HG1.out hB (fun g e => nomatch e))
         clear hw1))
    go_ret
    obtain ⟨A', c', hv, _⟩ := own_slice hown2
    exact ⟨A', 0 + n, c', by rw [hv]; rfl, by omega, by rw [← hv]; simpa using hown2, grownBy_trans HG1.out hg2 (.inr ⟨_, rfl, Nat.le_refl _⟩)⟩

theorem info_clStr : (Try.prog.info? 9).map (fun i => (i.zero.map fun z => z.cells.size, i.size, i.bytes)) = some (some 1, 1, 16) := by kernel_rfl
set_option maxRecDepth 100000 in
theorem cloneStr_any (w : World) (B : Nat) (A : Option Addr) (n c : Nat) (xs : List Value) (hl : Lies w B 1 A n xs) (hB : B ≤ w.heap.size) (ho : A = none → c = 0) (h1 : ∀ u ∈ xs, u.oneCell' = true)
    (hn : n ≤ maxLen) (hby : n * 16 ≤ 140737488355328) :
    Calls Try.prog 82 #[.slice A n c] w fun e w' => ∃ A' n' c', e = .returned (.slice A' n' c') ∧ n' = n ∧ w'.ownsRow w.heap.size 9 1 (.slice A' n' c') n xs ∧ w.grownBy w' none := by
  cases A with
  | none =>
    obtain rfl := ho rfl
    obtain rfl : n = 0 := by
      rcases Nat.eq_zero_or_pos n with h0 | h0
      · exact h0
      · obtain ⟨ad, h, _⟩ := hl.2 h0
        cases h
    obtain rfl : xs = [] := List.eq_nil_of_length_eq_zero (by simpa using hl.1)
    clear hl ho h1 hn hby
    have qn := fun (w : World) => Lib.run_eql_slice_nil (P := Try.prog) w 67 9 none 0 0 0 0 Try.underlying67
    go_enter Try.func82, Try.ntmps82
    go_wp2_with fail
    go_ret
    exact ⟨none, 0, 0, rfl, rfl, World.ownsRow_nil _ _ _ _, World.grownBy.refl w none⟩
  | some ad =>
    obtain ⟨i0, hi, hh⟩ : ∃ i0, Try.prog.info? 9 = some i0 ∧ (i0.zero.map (fun z => z.cells.size), i0.size, i0.bytes) = (some 1, 1, 16) := by
      have := info_clStr
      cases hx : Try.prog.info? 9 with
      | none => rw [hx] at this; cases this
      | some i0 => rw [hx] at this; exact ⟨i0, rfl, by simpa using this⟩
    injection hh with hz0 hh
    injection hh with hz1 hz2
    obtain ⟨z, hz, hzs⟩ : ∃ z, i0.zero = some z ∧ z.cells.size = 1 := by
      cases hx : i0.zero with
      | none => rw [hx] at hz0; cases hz0
      | some z => rw [hx] at hz0; exact ⟨z, rfl, by simpa using hz0⟩
    have HI := Lib.hid hi
    have HZ0 := Lib.hid hz
    have HZS := Lib.hid hzs
    have HZ1 := Lib.hid hz1
    have HZ2 := Lib.hid hz2
    have HL := Lib.hid hl
    have H1 := Lib.hid h1
    have HOB := Lib.hid ho
    have h0 : (0 : Nat) < 1 := by omega
    clear hz0 hz1 hz2 hi hz hzs hl h1 ho
    have qn := fun (w : World) => Lib.run_eql_slice_nil (P := Try.prog) w 67 9 (some ad) n c 0 0 Try.underlying67
    go_enter Try.func82, Try.ntmps82
    go_wp2_with (first
      | (at_builtin; refine wpList_join _ rfl (.tmp 5) (.tmp 6) _ rfl w.heap.size 9 i0 z 1 16 Try.underlying67 HI.out HZ0.out HZ1.out HZ2.out HZS.out h0 _ 0 [] rfl HE.out B (some ad) n c xs rfl HL2.out (fun e => nomatch e) H1.out (by omega) (by omega) HBW.out ?_; intro v2 w2 hown2 hg2 hat2)
      | (refine wpList_buildEmpty rfl _ 9 rfl i0 Try.underlying67 HI.out ?_; intro w1 hw1
         have HE : Hid (w1.ownsRow w.heap.size 9 1 (.slice (some ⟨w.heap.size, 0, none⟩) 0 0) 0 []) := Lib.hid (by rw [hw1]; exact World.ownsRow_made w #[] 0 (Nat.le_refl _) (Nat.zero_le _) (by simp))
         have HG1 : Hid (w.grownBy w1 none) := Lib.hid (by rw [hw1]; exact alloc_grown w _)
         have HBW : Hid (w.heap.size ≤ w1.heap.size) := Lib.hid HG1.out.size
         have HL2 : Hid (Lies w1 B 1 (some ad) n xs) := Lib.hid (HL.out.grown HG1.out hB (fun g e => nomatch e))
         clear hw1))
    go_ret
    obtain ⟨A', c', hv, _⟩ := own_slice hown2
    exact ⟨A', 0 + n, c', by rw [hv]; rfl, by omega, by rw [← hv]; simpa using hown2, grownBy_trans HG1.out hg2 (.inr ⟨_, rfl, Nat.le_refl _⟩)⟩

theorem info_clSite : (Try.prog.info? 149).map (fun i => (i.zero.map fun z => z.cells.size, i.size, i.bytes)) = some (some 3, 3, 24) := by kernel_rfl
set_option maxRecDepth 100000 in
theorem cloneSite_any (w : World) (B : Nat) (A : Option Addr) (n c : Nat) (xs : List Value) (hl : Lies w B 3 A n xs) (hB : B ≤ w.heap.size) (ho : A = none → c = 0) (h1 : ∀ u ∈ xs, u.oneCell' = true)
    (hn : n ≤ maxLen) (hby : n * 24 ≤ 140737488355328) :
    Calls Try.prog 83 #[.slice A n c] w fun e w' => ∃ A' n' c', e = .returned (.slice A' n' c') ∧ n' = n ∧ w'.ownsRow w.heap.size 149 3 (.slice A' n' c') n xs ∧ w.grownBy w' none := by
  cases A with
  | none =>
    obtain rfl := ho rfl
    obtain rfl : n = 0 := by
      rcases Nat.eq_zero_or_pos n with h0 | h0
      · exact h0
      · obtain ⟨ad, h, _⟩ := hl.2 h0
        cases h
    obtain rfl : xs = [] := List.eq_nil_of_length_eq_zero (by simpa using hl.1)
    clear hl ho h1 hn hby
    have qn := fun (w : World) => Lib.run_eql_slice_nil (P := Try.prog) w 68 149 none 0 0 0 0 Try.underlying68
    go_enter Try.func83, Try.ntmps83
    go_wp2_with fail
    go_ret
    exact ⟨none, 0, 0, rfl, rfl, World.ownsRow_nil _ _ _ _, World.grownBy.refl w none⟩
  | some ad =>
    obtain ⟨i0, hi, hh⟩ : ∃ i0, Try.prog.info? 149 = some i0 ∧ (i0.zero.map (fun z => z.cells.size), i0.size, i0.bytes) = (some 3, 3, 24) := by
      have := info_clSite
      cases hx : Try.prog.info? 149 with
      | none => rw [hx] at this; cases this
      | some i0 => rw [hx] at this; exact ⟨i0, rfl, by simpa using this⟩
    injection hh with hz0 hh
    injection hh with hz1 hz2
    obtain ⟨z, hz, hzs⟩ : ∃ z, i0.zero = some z ∧ z.cells.size = 3 := by
      cases hx : i0.zero with
      | none => rw [hx] at hz0; cases hz0
      | some z => rw [hx] at hz0; exact ⟨z, rfl, by simpa using hz0⟩
    have HI := Lib.hid hi
    have HZ0 := Lib.hid hz
    have HZS := Lib.hid hzs
    have HZ1 := Lib.hid hz1
    have HZ2 := Lib.hid hz2
    have HL := Lib.hid hl
    have H1 := Lib.hid h1
    have HOB := Lib.hid ho
    have h0 : (0 : Nat) < 3 := by omega
    clear hz0 hz1 hz2 hi hz hzs hl h1 ho
    have qn := fun (w : World) => Lib.run_eql_slice_nil (P := Try.prog) w 68 149 (some ad) n c 0 0 Try.underlying68
    go_enter Try.func83, Try.ntmps83
    go_wp2_with (first
      | (at_builtin; refine wpList_join _ rfl (.tmp 5) (.tmp 6) _ rfl w.heap.size 149 i0 z 3 24 Try.underlying68 HI.out HZ0.out HZ1.out HZ2.out HZS.out h0 _ 0 [] rfl HE.out B (some ad) n c xs rfl HL2.out (fun e => nomatch e) H1.out (by omega) (by omega) HBW.out ?_; intro v2 w2 hown2 hg2 hat2)
      | (refine wpList_buildEmpty rfl _ 149 rfl i0 Try.underlying68 HI.out ?_; intro w1 hw1
         have HE : Hid (w1.ownsRow w.heap.size 149 3 (.slice (some ⟨w.heap.size, 0, none⟩) 0 0) 0 []) := Lib.hid (by rw [hw1]; exact World.ownsRow_made w #[] 0 (Nat.le_refl _) (Nat.zero_le _) (by simp))
         have HG1 : Hid (w.grownBy w1 none) := Lib.hid (by rw [hw1]; exact alloc_grown w _)
         have HBW : Hid (w.heap.size ≤ w1.heap.size) := Lib.hid HG1.out.size
         have HL2 : Hid (Lies w1 B 3 (some ad) n xs) := Lib.hid (HL.out.grown HG1.out hB (fun g e => nomatch e))
         clear hw1))
    go_ret
    obtain ⟨A', c', hv, _⟩ := own_slice hown2
    exact ⟨A', 0 + n, c', by rw [hv]; rfl, by omega, by rw [← hv]; simpa using hown2, grownBy_trans HG1.out hg2 (.inr ⟨_, rfl, Nat.le_refl _⟩)⟩
end Go.Proofs.Ytlofjhcjjcohfaa
