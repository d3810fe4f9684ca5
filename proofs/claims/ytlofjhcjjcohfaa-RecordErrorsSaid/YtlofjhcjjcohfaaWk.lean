/- What every walk of this claim imports; the bytes' values; small lemmas on endings. -/
import Derived.Test.YtlofjhcjjcohfaaProg
import Derived.Test.YtlofjhcjjcohfaaMem
import Derived.Test.YtlofjhcjjcohfaaPev
import Derived.WalkLawsBesides
import Derived.WalkSpells
import Derived.Deep.QuietTactic
import Derived.BigQuiet
import Derived.Deep.DeepFit
namespace Iv
open Go Go.RowKit

/-- A byte as a cell. -/
def bv (b : UInt8) : Value := .int .u8 (b.toNat : Int)
def iv (n : Int) : Value := .int .i64 n

theorem take_next {α : Type} {xs : List α} {k : Nat} {x : α} (h : xs[k]? = some x) : xs.take (k + 1) = xs.take k ++ [x] := by
  obtain ⟨hl, rfl⟩ := List.getElem?_eq_some_iff.1 h
  exact List.take_succ_eq_append_getElem hl
theorem ret_bool {a b : Bool} (h : a = b) : Ending.returned (.bool a) = .returned (.bool b) := by rw [h]
theorem ret_int {k : IntKind} {a b : Int} (h : a = b) : Ending.returned (.int k a) = .returned (.int k b) := by rw [h]
theorem bv_one (l : Bytes) : ∀ u ∈ l.map bv, u.oneCell' = true := by
  intro u hu
  obtain ⟨b, _, rfl⟩ := List.mem_map.1 hu
  rfl
theorem iv_one (l : List Int) : ∀ u ∈ l.map iv, u.oneCell' = true := by
  intro u hu
  obtain ⟨b, _, rfl⟩ := List.mem_map.1 hu
  rfl
/-- A byte of a slice that lies in memory. -/
theorem Lies.byte {w : World} {B n k : Nat} {A : Option Addr} {xs : Bytes} (h : Lies w B 1 A n (xs.map bv)) (hk : k < n) :
    ∃ ad x, A = some ad ∧ ad.block < B ∧ xs[k]? = some x ∧ w.cell? (ad.add k) = some (.int .u8 (x.toNat : Int)) := by
  obtain ⟨ad, u, rfl, hb, hx, hc⟩ := h.cellAt hk
  simp only [List.getElem?_map, Option.map_eq_some_iff] at hx
  obtain ⟨x, hx, rfl⟩ := hx
  exact ⟨ad, x, rfl, hb, hx, hc⟩
theorem Lies.int {w : World} {B n k : Nat} {A : Option Addr} {xs : List Int} (h : Lies w B 1 A n (xs.map iv)) (hk : k < n) :
    ∃ ad x, A = some ad ∧ ad.block < B ∧ xs[k]? = some x ∧ w.cell? (ad.add k) = some (.int .i64 x) := by
  obtain ⟨ad, u, rfl, hb, hx, hc⟩ := h.cellAt hk
  simp only [List.getElem?_map, Option.map_eq_some_iff] at hx
  obtain ⟨x, hx, rfl⟩ := hx
  exact ⟨ad, x, rfl, hb, hx, hc⟩
theorem Lies.lenB {w : World} {B n : Nat} {A : Option Addr} {xs : Bytes} (h : Lies w B 1 A n (xs.map bv)) : xs.length = n := by simpa using h.1
theorem Lies.lenI {w : World} {B n : Nat} {A : Option Addr} {xs : List Int} (h : Lies w B 1 A n (xs.map iv)) : xs.length = n := by simpa using h.1
end Iv
namespace Go.Proofs.Ytlofjhcjjcohfaa
open Go
theorem info_u8 : (Try.prog.info? 5).map (fun i => (i.zero, i.size, i.bytes)) = some (some (.int .u8 0), 1, 1) := by kernel_rfl
theorem info_int : (Try.prog.info? 3).map (fun i => (i.zero, i.size, i.bytes)) = some (some (.int .i64 0), 1, 8) := by kernel_rfl
end Go.Proofs.Ytlofjhcjjcohfaa
