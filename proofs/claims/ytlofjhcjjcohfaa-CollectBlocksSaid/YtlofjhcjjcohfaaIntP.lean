/- What the readers of an integer give, part by part. -/
import Derived.Test.YtlofjhcjjcohfaaInt
namespace Go.Proofs.Ytlofjhcjjcohfaa
open Go Go.RowKit Iv
set_option linter.unusedVariables false

/-- What a reader gives, part by part. -/
theorem intP_parts (A : Option Addr) (n c : Nat) (xs : Bytes) (w : World) (B : Nat) (h : Lies w B 1 A n (xs.map bv)) (hn : n ≤ 1000000000000) {m : Int} {k : Nat} {er : Int} (hg : getI xs = (m, k, er)) :
    Calls Try.prog 54 #[.slice A n c] w fun e w' => e = .returned (.tuple #[.int .i64 m, .int .i64 (k : Int), .int .i64 er]) ∧ w = w' := by
  have := intP_any A n c xs w B h hn
  rw [hg] at this
  exact this
theorem intR_parts (A : Option Addr) (n c : Nat) (xs : Bytes) (w : World) (B : Nat) (h : Lies w B 1 A n (xs.map bv)) (hn : n ≤ 1000000000000) {m : Int} {k : Nat} {er : Int} (hg : getI xs = (m, k, er)) :
    Calls Try.prog 74 #[.slice A n c] w fun e w' => e = .returned (.tuple #[.int .i64 m, .int .i64 (k : Int), .int .i64 er]) ∧ w = w' := by
  have := intR_any A n c xs w B h hn
  rw [hg] at this
  exact this

end Go.Proofs.Ytlofjhcjjcohfaa
