/- How the arguments of the statements read: from the form's reading to the words of the walks. -/
import Derived.Test.YtlofjhcjjcohfaaWk
import Derived.ProofKit
import Derived.OpenShut
import Derived.ChangeOld
namespace Iv
open Go Go.RowKit Go.ChangeShapes Go.WideShapes Go.ChangeAt
open Go.ChangeMaps (open_string shut_string)

section
variable {H : Type} {enc : TypeId × Value → H} {P : Program} {W : World} {held : Bool}

theorem fits_i64 {n : Int} (h : (Lit.int .i64 n).wf = true) : inI64 n := by
  simp only [Lit.wf, IntKind.min, IntKind.max, IntKind.signed, IntKind.bits, Bool.and_eq_true, decide_eq_true_eq, if_true] at h
  unfold inI64
  omega
theorem fits_u8 {n : Int} (h : (Lit.int .u8 n).wf = true) : 0 ≤ n ∧ n ≤ 255 := by
  simp [Lit.wf, IntKind.min, IntKind.max, IntKind.signed, IntKind.bits] at h
  omega
theorem fits_u16 {n : Int} (h : (Lit.int .u16 n).wf = true) : 0 ≤ n ∧ n ≤ 65535 := by
  simp [Lit.wf, IntKind.min, IntKind.max, IntKind.signed, IntKind.bits] at h
  omega

theorem lies_of_cells {k : IntKind} {a : Addr} {len cap : Nat} {zs : List Int} (hl : len ≤ cap) (hz : zs.length = cap)
    (hc : ∀ i, i < zs.length → W.cell? (a.add i) = some (.int k (zs.getD i 0))) : Lies W W.heap.size 1 (some a) len ((zs.take len).map (Value.int k)) := by
  refine ⟨by simp; omega, fun hn => ⟨a, rfl, ?_, fun j u hu => ?_⟩⟩
  · have := World.block_lt_of_cell? W _ (hc 0 (by omega))
    rwa [addBlock] at this
  · simp only [List.getElem?_map, List.getElem?_take, Option.map_eq_some_iff] at hu
    obtain ⟨z, hz2, rfl⟩ := hu
    split at hz2
    · have hj : j < zs.length := (List.getElem?_eq_some_iff.1 hz2).1
      rw [hc j hj]
      simp [List.getD, hz2]
    · cases hz2

theorem bytes_of_wf (zs : List Int) (h : ∀ n ∈ zs, (Lit.int .u8 n).wf = true) : ∃ xs : Bytes, zs.map (Value.int .u8) = xs.map bv := by
  refine ⟨zs.map fun n => UInt8.ofNat n.toNat, ?_⟩
  rw [List.map_map]
  refine List.map_congr_left fun n hn => ?_
  have := fits_u8 (h n hn)
  show _ = bv _
  unfold bv
  rw [ofNat_toNat_lt (by omega), Int.toNat_of_nonneg this.1]

/-- A '[]byte' that came in. -/
theorem open_bytes {t e : TypeId} {fuel : Nat} {cs : List Value} {x : DataW H × List MemPlace} (ht : P.underlying t = some (.slice e)) (he : P.underlying e = some (.int .u8)) (hc : P.cellsOf e = 1)
    (h : DataW.trod enc P W 0 (fun _ => true) held fuel t cs = some x) :
    ∃ A n c, ∃ xs : Bytes, cs = [.slice A n c] ∧ Lies W W.heap.size 1 A n (xs.map bv) ∧ n ≤ c ∧ c ≤ maxLen ∧ (A = none → c = 0) := by
  rcases open_ints ht he hc h with ⟨rfl, _⟩ | ⟨a, len, cap, zs, rfl, _, hl, hm, hz, _, hcell, hw⟩
  · exact ⟨none, 0, 0, [], rfl, Lies.nil, Nat.le_refl _, Nat.zero_le _, fun _ => rfl⟩
  · obtain ⟨xs, hx⟩ := bytes_of_wf (zs.take len) (fun n hn => hw n (List.mem_of_mem_take hn))
    refine ⟨some a, len, cap, xs, rfl, ?_, hl, hm, fun e => by cases e⟩
    rw [← hx]
    exact lies_of_cells hl (by simpa using hz) hcell

/-- A '[]int' that came in. -/
theorem open_intlist {t e : TypeId} {fuel : Nat} {cs : List Value} {x : DataW H × List MemPlace} (ht : P.underlying t = some (.slice e)) (he : P.underlying e = some (.int .i64)) (hc : P.cellsOf e = 1)
    (h : DataW.trod enc P W 0 (fun _ => true) held fuel t cs = some x) :
    ∃ A n c, ∃ xs : List Int, cs = [.slice A n c] ∧ Lies W W.heap.size 1 A n (xs.map iv) ∧ n ≤ c ∧ c ≤ maxLen ∧ (A = none → c = 0) ∧ allI64 xs := by
  rcases open_ints ht he hc h with ⟨rfl, _⟩ | ⟨a, len, cap, zs, rfl, _, hl, hm, hz, _, hcell, hw⟩
  · exact ⟨none, 0, 0, [], rfl, Lies.nil, Nat.le_refl _, Nat.zero_le _, fun _ => rfl, fun n hn => by simp at hn⟩
  · exact ⟨some a, len, cap, zs.take len, rfl, lies_of_cells hl (by simpa using hz) hcell, hl, hm, (fun e => by cases e), fun n hn => fits_i64 (hw n (List.mem_of_mem_take hn))⟩

theorem trod_i64 {t : TypeId} {fuel : Nat} {cs : List Value} {x : DataW H × List MemPlace} {base : Nat} {spare : Nat → Bool} (ht : P.underlying t = some (.int .i64))
    (h : DataW.trod enc P W base spare held fuel t cs = some x) : ∃ n, cs = [.int .i64 n] ∧ inI64 n := by
  obtain ⟨n, rfl, _, hw⟩ := DataW.trod_int ht h
  exact ⟨n, rfl, fits_i64 hw⟩
end
end Iv
