/- The walk of 'long'. -/
import Derived.Test.YtlofjhcjjcohfaaRecI
namespace Go.Proofs.Ytlofjhcjjcohfaa
open Go Go.RowKit Iv
set_option linter.unusedVariables false

set_option maxRecDepth 100000 in
set_option maxHeartbeats 400000 in
theorem long_no (r : Rec) (Ad : Option Addr) (nd cd : Nat) (Af : Option Addr) (nf cf : Nat) (w : World) (hd : nd ≤ 400) (hf : nf ≤ 400) :
    Calls Try.prog 10 #[.agg (recV r Ad nd cd Af nf cf)] w fun e w' => e = .returned (.bool false) ∧ w.grownBy w' none := by
  have h1 : ¬ (400 : Int) < (nd : Int) := by omega
  have h2 : ¬ (400 : Int) < (nf : Int) := by omega
  unfold recV
  go_enter Try.func10, Try.ntmps10
  go_wp2_with fail
  go_ret
  exact ⟨rfl, World.grownBy_alloc w _ none⟩

set_option maxRecDepth 100000 in
set_option maxHeartbeats 400000 in
theorem long_yes (r : Rec) (Ad : Option Addr) (nd cd : Nat) (Af : Option Addr) (nf cf : Nat) (w : World) (h : 400 < nd ∨ 400 < nf) :
    Calls Try.prog 10 #[.agg (recV r Ad nd cd Af nf cf)] w fun e w' => e = .returned (.bool true) ∧ w.grownBy w' none := by
  unfold recV
  by_cases h1 : 400 < nd
  · clear h
    go_enter Try.func10, Try.ntmps10
    go_wp2_with fail
    go_ret
    exact ⟨rfl, World.grownBy_alloc w _ none⟩
  · have h2 : (400 : Int) < (nf : Int) := by omega
    have h1' : ¬ (400 : Int) < (nd : Int) := by omega
    clear h h1
    go_enter Try.func10, Try.ntmps10
    go_wp2_with fail
    go_ret
    exact ⟨rfl, World.grownBy_alloc w _ none⟩

end Go.Proofs.Ytlofjhcjjcohfaa
