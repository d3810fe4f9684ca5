/- The walk of Spoil: a text changed at one place; which, is not said. -/
import Derived.Test.YtlcmffbikiamjaaWk
import Derived.Test.YtlcmffbikiamjaaMake
import Derived.Laws.IdiomStrings
namespace Go.Proofs.Ytlcmffbikiamjaa
open Go Go.RowKit Iv
set_option linter.unusedVariables false

/-- A text came out that is not much longer. -/
def SomeText (n : Nat) (w : World) (e : Ending) (w' : World) : Prop := ∃ s : ByteArray, e = .returned (.string s) ∧ s.size ≤ n ∧ w.grownBy w' none

theorem one_size (b : UInt8) : (ByteArray.mk #[b]).size = 1 := rfl
theorem conv_one (b : UInt8) (W : World) (a : Addr) (h : W.cell? a = some (.int .u8 (b.toNat : Int))) : (convert 22 9 (.slice (some a) 1 1)).run Try.prog W = .ok (.string ⟨#[b]⟩) W := by
  have := run_convert_bytes_back (P := Try.prog) W 22 9 5 a 1 [b] Try.underlying22 Try.underlying5 Try.underlying9 (fun j hj => by
    have hj0 : j = 0 := by simpa using hj
    subst hj0
    simpa [Addr.add] using h)
  exact this

set_option maxRecDepth 100000 in
set_option maxHeartbeats 3200000 in
theorem spoil_any (s : ByteArray) (at_ how c : Int) (w : World) (hs : s.size ≤ 1000000) (ha : 0 ≤ at_ ∧ at_ ≤ 65535) (hh : 0 ≤ how ∧ how ≤ 65535) (hc : 0 ≤ c ∧ c ≤ 255) :
    Calls Try.prog 47 #[.string s, .int .u16 at_, .int .u16 how, .int .u8 c] w (SomeText (2 * s.size + 1) w) := by
  obtain ⟨ha0, ha1⟩ := ha
  obtain ⟨hh0, hh1⟩ := hh
  obtain ⟨b, hbc⟩ : ∃ b : UInt8, (b.toNat : Int) = c := ⟨UInt8.ofNat c.toNat, by rw [ofNat_toNat_lt (by omega)]; omega⟩
  subst hbc
  have kc := fun (W : World) (a : Addr) (h : W.cell? a = some (.int .u8 (b.toNat : Int))) => conv_one b W a h
  have kn := fun (W : World) => conv_one b (W.alloc (.cells #[.int .u8 (b.toNat : Int)] 5)) ⟨W.heap.size, 0, none⟩ (cell_new1 W _ _ 0 _ rfl)
  by_cases h0 : s.toList = []
  · have e1 : (s.toList.isEmpty) = true := by rw [h0]; rfl
    clear h0
    go_enter Try.func47, Try.ntmps47
    go_wp2_with fail
    go_ret
    exact ⟨_, rfl, by show 1 ≤ _; omega, World.grownBy_alloc w _ none⟩
  · have hsz : s.size ≠ 0 := by
      intro h
      apply h0
      cases s with
      | mk d =>
        have h1 : d.size = 0 := h
        rw [Array.size_eq_zero_iff.1 h1, ByteArray.toList, ByteArray.toList.loop]
        rfl
    have e1 : (s.toList.isEmpty) = false := by rw [List.isEmpty_eq_false_iff]; exact h0
    clear h0
    obtain ⟨i, hi⟩ : ∃ i : Nat, (i : Int) = at_ % (s.size : Int) := ⟨(at_ % (s.size : Int)).toNat, by have := Int.emod_nonneg at_ (show (s.size : Int) ≠ 0 by omega); omega⟩
    have hil : i < s.size := by
      have := Int.emod_lt_of_pos at_ (show (0 : Int) < (s.size : Int) by omega)
      omega
    have hii : at_ % (s.size : Int) = (i : Int) := hi.symm
    have hx1 : (s.extract 0 i).size = i := by simp; omega
    clear hi
    have gA : ∀ o : Obj, w.grownBy (w.alloc o).drew none := fun o => grown_toDrew (World.grownBy_alloc w o none)
    have gD : w.grownBy w.drew none := grown_toDrew (World.grownBy.refl w none)
    have GA := Lib.hid gA
    have GD := Lib.hid gD
    clear gA gD
    rcases (show how % 6 = 0 ∨ how % 6 = 1 ∨ how % 6 = 2 ∨ how % 6 = 3 ∨ how % 6 = 4 ∨ how % 6 = 5 by omega) with m | m | m | m | m | m
    all_goals
      go_enter Try.func47, Try.ntmps47
      go_wp2_with fail
      first
        | (go_ret; done)
        | (go_region; all_goals (go_wp2_with fail))
        | skip
      all_goals
        go_ret
        first
          | exact ⟨_, rfl, by first | omega | (simp [ByteArray.size_append, ByteArray.size_extract, one_size] <;> omega), GA.out _⟩
          | exact ⟨_, rfl, by first | omega | (simp [ByteArray.size_append, ByteArray.size_extract] <;> omega), GD.out⟩
          | exact ⟨_, rfl, by first | omega | (simp [ByteArray.size_append, ByteArray.size_extract] <;> omega), World.grownBy.refl w none⟩
          | (trace_state; sorry)
end Go.Proofs.Ytlcmffbikiamjaa
