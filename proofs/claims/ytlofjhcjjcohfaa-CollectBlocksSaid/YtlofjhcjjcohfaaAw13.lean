/- The sanity check of chapter 13. -/
import Derived.Test.YtlofjhcjjcohfaaSum
import Derived.Lib.SlBytesConst
namespace Go.Proofs.Ytlofjhcjjcohfaa
open Go Go.RowKit Iv
set_option linter.unusedVariables false

def nineBytes : Bytes := [49, 50, 51, 52, 53, 54, 55, 56, 57]
theorem crc_nine : crc nineBytes = 3421780262 := by decide +kernel

set_option maxRecDepth 100000 in
set_option maxHeartbeats 400000 in
theorem awake13_any (w : World) :
    Calls Try.prog 18 #[] w fun e w' => e = .returned (.bool true) ∧ Below w.heap.size w w' := by
  have kc := fun (w : World) (C : Array Value) (n c : Nat) => Lib.run_convert_bytes_const (P := Try.prog) w 27 5 C n c Try.underlying27 Try.underlying5
  go_enter Try.func18, Try.ntmps18
  go_wp2_with fail
  clear kc
  refine (sumP_any _ _ _ nineBytes _ (w.heap.size + 1) ⟨rfl, fun _ => ⟨_, rfl, by simp, fun j u hu => ?_⟩⟩ (by omega)).mono ?_
  · have hj : (⟨w.heap.size, 0, none⟩ : Addr).add j = ⟨w.heap.size, j, none⟩ := by unfold Addr.add; split <;> simp_all
    rw [hj, World.cell?_alloc_mark]
    simpa [nineBytes, bv] using hu
  rintro e w' ⟨rfl, rfl⟩
  rw [crc_nine]
  go_wp2_with fail
  go_ret
  exact ⟨rfl, (Below.refl _ _).alloc (Nat.le_refl _) _⟩

end Go.Proofs.Ytlofjhcjjcohfaa
