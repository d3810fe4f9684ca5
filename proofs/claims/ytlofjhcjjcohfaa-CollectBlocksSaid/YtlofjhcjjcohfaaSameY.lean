/- SameBytes of two equal lists. -/
import Derived.Test.YtlofjhcjjcohfaaSame
namespace Go.Proofs.Ytlofjhcjjcohfaa
open Go Go.RowKit Iv
set_option linter.unusedVariables false

/-- SameBytes of two equal lists. -/
theorem same_yes (A A' : Option Addr) (n n' c c' : Nat) (xs : Bytes) (w : World) (B B' : Nat) (h : Lies w B 1 A n (xs.map bv)) (h' : Lies w B' 1 A' n' (xs.map bv)) (hn : n ≤ 1000000000000) (hn' : n' ≤ 1000000000000) :
    Calls Try.prog 17 #[.slice A n c, .slice A' n' c'] w fun e w' => e = .returned (.bool true) ∧ ∃ q, w' = w.drewN q :=
  (same_any A A' n n' c c' xs xs w (max B B') (h.more (Nat.le_max_left _ _)) (h'.more (Nat.le_max_right _ _)) hn hn').mono fun e w' ⟨he, hw⟩ => ⟨by rw [he]; simp, hw⟩

end Go.Proofs.Ytlofjhcjjcohfaa
