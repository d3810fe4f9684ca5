/- The walks of BlockSums and of its sanity check. -/
import Derived.Test.YtlcmffbikiamjaaSum
import Derived.Lib.SlBytesConst
namespace Go.Proofs.Ytlcmffbikiamjaa
open Go Go.RowKit Iv
set_option linter.unusedVariables false

def nineBytes : Bytes := [49, 50, 51, 52, 53, 54, 55, 56, 57]
theorem crc_nine : crc nineBytes = 3421780262 := by decide +kernel

set_option maxRecDepth 100000 in
set_option maxHeartbeats 400000 in
theorem awake13_any (w : World) :
    Calls Try.prog 30 #[] w fun e w' => e = .returned (.bool true) ∧ Below w.heap.size w w' := by
  have kc := fun (w : World) (C : Array Value) (n c : Nat) => Lib.run_convert_bytes_const (P := Try.prog) w 22 5 C n c Try.underlying22 Try.underlying5
  go_enter Try.func30, Try.ntmps30
  go_wp2_with fail
  clear kc
  refine (sumP_any _ _ _ nineBytes _ (w.heap.size + 1) ⟨rfl, fun _ => ⟨_, rfl, by simp, fun j u hu => ?_⟩⟩ (by omega)).mono ?_
  · have hj : (⟨w.heap.size, 0, none⟩ : Addr).add j = ⟨w.heap.size, j, none⟩ := by unfold Addr.add; split <;> simp_all
    rw [hj, World.cell?_alloc_mark]
    simpa [nineBytes, bv] using hu
  rintro e w' ⟨rfl, rfl⟩
  rw [crc_nine]
  go_wp2_with fail
  go_ret
  exact ⟨rfl, (Below.refl _ _).alloc (Nat.le_refl _) _⟩

set_option maxHeartbeats 400000 in
theorem blockSums_any (A : Option Addr) (n c : Nat) (xs : Bytes) (w : World) (h : Lies w w.heap.size 1 A n (xs.map bv)) (_hnc : n ≤ c) (_hcm : c ≤ maxLen) (_ho : A = none → c = 0) :
    Calls Try.prog 4 #[.slice A n c] w fun e w' => e = .returned (.bool true) ∧ Below w.heap.size w w' := by
  unfold maxLen at _hcm
  by_cases h2 : 2000 < n
  · go_enter Try.func4, Try.ntmps4
    go_wp2_with fail
    go_ret
    exact ⟨rfl, Below.refl _ _⟩
  · go_enter Try.func4, Try.ntmps4
    go_wp2_with fail
    refine (sumP_any _ _ _ xs _ _ h (by omega)).mono ?_
    rintro e w' ⟨rfl, rfl⟩
    go_wp2_with fail
    refine (sumR_any _ _ _ xs _ _ h (by omega)).mono ?_
    rintro e w' ⟨rfl, rfl⟩
    go_wp2_with fail
    refine (awake13_any _).mono ?_
    rintro e w' ⟨rfl, hb⟩
    go_wp2_with fail
    go_ret
    exact ⟨rfl, hb⟩
end Go.Proofs.Ytlcmffbikiamjaa
