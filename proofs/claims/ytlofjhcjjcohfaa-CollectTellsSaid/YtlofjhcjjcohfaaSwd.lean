/- The comparison of two equal elements of a world's slices: '!=' is false. -/
import Derived.Test.YtlofjhcjjcohfaaWk
import Derived.Laws.StructEq
namespace Go.Proofs.Ytlofjhcjjcohfaa
open Go Go.RowKit Iv
set_option linter.unusedVariables false

theorem neqCell (w : World) (s : ByteArray) (a b e : Int) (d : Bool) : (binOp .neq 139 (.agg #[.string s, .int .i64 a, .int .i64 b, .bool d, .int .i64 e]) (.agg #[.string s, .int .i64 a, .int .i64 b, .bool d, .int .i64 e])).run Try.prog w = .ok (.bool false) w := by
  go_simp
theorem neqStr (w : World) (s : ByteArray) : (binOp .neq 9 (.string s) (.string s)).run Try.prog w = .ok (.bool false) w := by
  go_simp
theorem neqLock (w : World) (s : ByteArray) (d : Bool) : (binOp .neq 142 (.agg #[.string s, .bool d]) (.agg #[.string s, .bool d])).run Try.prog w = .ok (.bool false) w := by
  go_simp
theorem neqCond (w : World) (s : ByteArray) (d : Int) : (binOp .neq 145 (.agg #[.string s, .int .i64 d]) (.agg #[.string s, .int .i64 d])).run Try.prog w = .ok (.bool false) w := by
  go_simp
theorem neqSite (w : World) (a b c : Int) : (binOp .neq 149 (.agg #[.int .i64 a, .int .i64 b, .int .i64 c]) (.agg #[.int .i64 a, .int .i64 b, .int .i64 c])).run Try.prog w = .ok (.bool false) w := by
  go_simp
end Go.Proofs.Ytlofjhcjjcohfaa
