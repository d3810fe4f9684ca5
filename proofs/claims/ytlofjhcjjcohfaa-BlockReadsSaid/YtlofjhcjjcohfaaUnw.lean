/- Words for Unpack's loop (chapter 12): what stands at the head of a round. -/
import Derived.Test.YtlofjhcjjcohfaaPkw
namespace Iv
open Go Go.RowKit

/-- What holds at the head of a round: what is unpacked so far, and where it lies. -/
structure UnAt (te : TypeId) (w : World) (base : Nat) (most : Int) (xs : Bytes) (k : Nat) (ys : Bytes) (v : Value) (wr : World) : Prop where
  own : wr.ownsRow base te 1 v ys.length (ys.map bv)
  grown : w.grownBy wr none
  at_ : At w none v.ownBlock
  len : ys.length ≤ 130 * k
  room : ys = [] ∨ (ys.length : Int) ≤ most
  eq : unp most (xs.drop k) ys = unpack xs most

theorem drop_cons {xs : Bytes} {k : Nat} {x : UInt8} (hx : xs[k]? = some x) : xs.drop k = x :: xs.drop (k + 1) := by
  obtain ⟨hl, hx'⟩ := List.getElem?_eq_some_iff.1 hx
  rw [List.drop_eq_getElem_cons hl, hx']

section
variable {te : TypeId} {w wr w1 : World} {base k : Nat} {most : Int} {xs ys zs : Bytes} {v v1 : Value}
theorem UnAt.start (te : TypeId) (w : World) (base : Nat) (most : Int) (xs : Bytes) : UnAt te w base most xs 0 [] (.slice none 0 0) w :=
  ⟨World.ownsRow_nil _ _ _ _, World.grownBy.refl w none, .inl rfl, Nat.zero_le _, .inl rfl, rfl⟩
/-- The end of the stream. -/
theorem UnAt.done (h : UnAt te w base most xs k ys v wr) (hk : xs.length ≤ k) : unpack xs most = (ys, 0) := by
  have := h.eq
  rw [List.drop_eq_nil_of_le hk, unp_nil] at this
  exact this.symm
/-- A literal item. -/
theorem UnAt.lit {x : UInt8} (h : UnAt te w base most xs k ys v wr) (hx : xs[k]? = some x) (h7 : x.toNat < 128) :
    unpack xs most = if xs.length - (k + 1) < x.toNat + 1 then ([], 9) else if most < (ys.length : Int) + x.toNat + 1 then ([], 2) else unp most (xs.drop (k + x.toNat + 2)) (ys ++ (xs.drop (k + 1)).take (x.toNat + 1)) := by
  rw [← h.eq, drop_cons hx, unp_lit h7, List.length_drop, List.drop_drop]
  rw [show k + 1 + (x.toNat + 1) = k + x.toNat + 2 from by omega]
theorem UnAt.litNext {x : UInt8} (h : UnAt te w base most xs k ys v wr) (hx : xs[k]? = some x) (h7 : x.toNat < 128) (h1 : k + x.toNat + 2 ≤ xs.length) (h2 : (ys.length : Int) + x.toNat + 1 ≤ most)
    (hown : w1.ownsRow base te 1 v1 (ys.length + (x.toNat + 1)) (ys.map bv ++ ((xs.drop (k + 1)).take (x.toNat + 1)).map bv)) (hg : wr.grownBy w1 v.ownBlock) (hat : At wr v.ownBlock v1.ownBlock) :
    UnAt te w base most xs (k + x.toNat + 2) (ys ++ (xs.drop (k + 1)).take (x.toNat + 1)) v1 w1 := by
  have hl : (ys ++ (xs.drop (k + 1)).take (x.toNat + 1)).length = ys.length + (x.toNat + 1) := by simp; omega
  refine ⟨?_, grownBy_trans h.grown hg h.at_, h.at_.trans hat h.grown.size, ?_, .inr ?_, ?_⟩
  · rw [hl, List.map_append]; exact hown
  · rw [hl]; have := h.len; omega
  · rw [hl]; omega
  · have := h.lit hx h7
    rw [if_neg (by omega), if_neg (by omega)] at this
    exact this.symm
/-- A copy item. -/
theorem UnAt.one {x : UInt8} (h : UnAt te w base most xs k ys v wr) (hx : xs[k]? = some x) (h7 : 128 ≤ x.toNat) (hl : xs.length ≤ k + 1) : unpack xs most = ([], 9) := by
  rw [← h.eq, drop_cons hx, List.drop_eq_nil_of_le hl, unp_one h7]
theorem UnAt.copy {x d : UInt8} (h : UnAt te w base most xs k ys v wr) (hx : xs[k]? = some x) (h7 : 128 ≤ x.toNat) (hd : xs[k + 1]? = some d) :
    unpack xs most = if d.toNat = 0 ∨ ys.length < d.toNat then ([], 11) else if most < (ys.length : Int) + x.toNat - 125 then ([], 2) else unp most (xs.drop (k + 2)) (copyOut ys d.toNat (x.toNat - 125)) := by
  rw [← h.eq, drop_cons hx, drop_cons hd, unp_copy h7]
theorem UnAt.copyNext {x d : UInt8} (h : UnAt te w base most xs k ys v wr) (hx : xs[k]? = some x) (h7 : 128 ≤ x.toNat) (hd : xs[k + 1]? = some d) (h0 : ¬ (d.toNat = 0 ∨ ys.length < d.toNat)) (h2 : (ys.length : Int) + x.toNat - 125 ≤ most)
    (hz : zs = copyOut ys d.toNat (x.toNat - 125)) (hown : w1.ownsRow base te 1 v1 zs.length (zs.map bv)) (hg : w.grownBy w1 none) (hat : At w none v1.ownBlock) :
    UnAt te w base most xs (k + 2) zs v1 w1 := by
  have hl : zs.length = ys.length + (x.toNat - 125) := by rw [hz, copyOut_len]
  have hx8 := byte_lt x
  refine ⟨hown, hg, hat, ?_, .inr ?_, ?_⟩
  · rw [hl]; have := h.len; omega
  · rw [hl]; omega
  · have := h.copy hx h7 hd
    rw [if_neg h0, if_neg (by omega)] at this
    rw [hz]
    exact this.symm
end
/-- No item makes more than 130 bytes. -/
theorem unp_len {most : Int} (n : Nat) : ∀ (l out : Bytes), l.length = n → (unp most l out).1.length ≤ out.length + 130 * n := by
  induction n using Nat.strongRecOn with
  | _ n ih =>
    intro l out hn
    match l with
    | [] => rw [unp_nil]; simp
    | x :: t =>
      simp only [List.length_cons] at hn
      have hx8 := byte_lt x
      by_cases h7 : x.toNat < 128
      · rw [unp_lit h7]
        split
        · simp
        · split
          · simp
          · rename_i h1 _
            have := ih (t.drop (x.toNat + 1)).length (by simp; omega) (t.drop (x.toNat + 1)) (out ++ t.take (x.toNat + 1)) rfl
            simp only [List.length_append, List.length_drop, List.length_take] at this
            omega
      · match t with
        | [] => rw [unp_one (by omega)]; simp
        | d :: u =>
          rw [unp_copy (by omega)]
          split
          · simp
          · split
            · simp
            · have := ih u.length (by simp at hn; omega) u (copyOut out d.toNat (x.toNat - 125)) rfl
              rw [copyOut_len] at this
              simp only [List.length_cons] at hn
              omega
theorem unpack_len (l : Bytes) (most : Int) : (unpack l most).1.length ≤ 130 * l.length := by
  have := unp_len (most := most) _ l [] rfl
  unfold unpack
  simpa using this
/-- What holds inside a copy item: j bytes are copied. -/
structure CpAt (te : TypeId) (w : World) (base : Nat) (ys : Bytes) (d N j : Nat) (zs : Bytes) (v : Value) (wr : World) : Prop where
  own : wr.ownsRow base te 1 v zs.length (zs.map bv)
  grown : w.grownBy wr none
  at_ : At w none v.ownBlock
  len : zs.length = ys.length + j
  le : j ≤ N
  eq : copyOut zs d (N - j) = copyOut ys d N
section
variable {te : TypeId} {w wr w1 : World} {base d N j : Nat} {ys zs : Bytes} {v v1 : Value}
theorem CpAt.get (h : CpAt te w base ys d N j zs v wr) (hd : 1 ≤ d) (hdy : d ≤ ys.length) : ∃ y, zs[zs.length - d]? = some y := by
  have := h.len
  exact ⟨_, List.getElem?_eq_getElem (by omega)⟩
theorem CpAt.next {y : UInt8} (h : CpAt te w base ys d N j zs v wr) (hj : j < N) (hy : zs[zs.length - d]? = some y)
    (hown : w1.ownsRow base te 1 v1 (zs.length + 1) (zs.map bv ++ [bv y])) (hg : wr.grownBy w1 v.ownBlock) (hat : At wr v.ownBlock v1.ownBlock) :
    CpAt te w base ys d N (j + 1) (zs ++ [y]) v1 w1 := by
  refine ⟨?_, grownBy_trans h.grown hg h.at_, h.at_.trans hat h.grown.size, by rw [List.length_append, h.len]; rfl, hj, ?_⟩
  · rw [List.length_append, List.map_append]; exact hown
  · rw [← h.eq, show N - j = (N - (j + 1)) + 1 from by omega, copyOut, hy]
    rfl
theorem CpAt.done (h : CpAt te w base ys d N j zs v wr) (hj : N ≤ j) : zs = copyOut ys d N := by
  have := h.eq
  rw [show N - j = 0 from by omega] at this
  exact this
end
end Iv
