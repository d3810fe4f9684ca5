/- How long an encoding is at most. -/
import Derived.Test.YtlofjhcjjcohfaaEnc
namespace Go.Proofs.Ytlofjhcjjcohfaa
open Go Go.RowKit Iv

theorem encode_len {x : Blk} (hin : ∀ r ∈ x.recs, RecNums r) : (encode x).1.length ≤ 1000000000000 := by
  by_cases hf : fits x = 0
  · rw [encode_good hf]
    obtain ⟨z0, z1, z2, z3, z4, z5, z6⟩ := fits_zero hf
    have hpl := putRecs_len x.recs (-1) (recOk_of z6 hin)
    have hq := pack_bounded (putRecs (-1) x.recs)
    have q1 := putI_len (n := x.first) ⟨by omega, by omega⟩
    have q2 := putI_len (n := (x.recs.length : Int)) ⟨by omega, by omega⟩
    have q3 := putI_len (n := ((putRecs (-1) x.recs).length : Int)) ⟨by omega, by omega⟩
    have q4 := putI_len (n := ((pack (putRecs (-1) x.recs)).length : Int)) ⟨by omega, by omega⟩
    unfold blkBytes blkBody headBytes
    simp only [List.length_append, List.length_cons, sum4_len]
    omega
  · unfold encode
    rw [if_neg hf]
    simp

end Go.Proofs.Ytlofjhcjjcohfaa
