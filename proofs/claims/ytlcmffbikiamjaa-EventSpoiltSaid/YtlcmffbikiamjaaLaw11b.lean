/- The walks of EventIntReads, EventIntsOnce and of the sanity check of chapter 11. -/
import Derived.Test.YtlcmffbikiamjaaPut
import Derived.Test.YtlcmffbikiamjaaInt
import Derived.Test.YtlcmffbikiamjaaSame
import Derived.Deep.RegionWith
namespace Go.Proofs.Ytlcmffbikiamjaa
open Go Go.RowKit Iv
set_option linter.unusedVariables false

theorem putI_64 : putI 64 = [128, 1] := by
  show vput 128 = [128, 1]
  rw [vput_ge (by omega), vput_lt (by omega)]
  rfl

set_option maxRecDepth 100000 in
set_option maxHeartbeats 400000 in
theorem awake11_any (w : World) :
    Calls Try.prog 35 #[] w fun e w' => e = .returned (.bool true) ∧ Below w.heap.size w w' := by
  have HC := Lib.hid (putInt_any none 0 0 0 [] 64 w Lies.nil (Nat.le_refl _) ⟨by omega, by omega⟩ (by omega) w.heap.size (Nat.le_refl _))
  go_enter Try.func35, Try.ntmps35
  go_wp2_with fail
  refine HC.out.mono ?_
  rintro e w1 ⟨v', rfl, hown, hg, hat⟩
  rw [List.nil_append, putI_64] at hown
  have hbel : Below w.heap.size w w1 := (Below.refl _ _).grown hg (Nat.le_refl _) (fun k hk => by cases hk)
  obtain ⟨g, cap, hv, _, _⟩ := hown.form (by decide)
  subst hv
  have c0 := hown.cellAt 0 (by decide)
  have c1 := hown.cellAt 1 (by decide)
  have d0 : w1.cell? ⟨g, 0, none⟩ = some (.int .u8 128) := c0
  have d1 : w1.cell? ⟨g, 1, none⟩ = some (.int .u8 1) := c1
  have hl : ([128, 1] : Bytes).length = 2 := rfl
  rw [hl]
  clear c0 c1 hl hown hg hat HC
  go_wp2_with fail
  go_ret
  exact ⟨rfl, hbel⟩

/-- What a reader gives, part by part. -/
theorem intP_parts (A : Option Addr) (n c : Nat) (xs : Bytes) (w : World) (B : Nat) (h : Lies w B 1 A n (xs.map bv)) (hn : n ≤ 1000000000000) {m : Int} {k : Nat} {er : Int} (hg : getI xs = (m, k, er)) :
    Calls Try.prog 37 #[.slice A n c] w fun e w' => e = .returned (.tuple #[.int .i64 m, .int .i64 (k : Int), .int .i64 er]) ∧ w = w' := by
  have := intP_any A n c xs w B h hn
  rw [hg] at this
  exact this
theorem intR_parts (A : Option Addr) (n c : Nat) (xs : Bytes) (w : World) (B : Nat) (h : Lies w B 1 A n (xs.map bv)) (hn : n ≤ 1000000000000) {m : Int} {k : Nat} {er : Int} (hg : getI xs = (m, k, er)) :
    Calls Try.prog 38 #[.slice A n c] w fun e w' => e = .returned (.tuple #[.int .i64 m, .int .i64 (k : Int), .int .i64 er]) ∧ w = w' := by
  have := intR_any A n c xs w B h hn
  rw [hg] at this
  exact this

set_option maxRecDepth 100000 in
set_option maxHeartbeats 400000 in
theorem eventIntReads_any (A : Option Addr) (n c : Nat) (xs : Bytes) (w : World) (h : Lies w w.heap.size 1 A n (xs.map bv)) (hnc : n ≤ c) (hcm : c ≤ maxLen) (ho : A = none → c = 0) :
    Calls Try.prog 8 #[.slice A n c] w fun e w' => e = .returned (.bool true) ∧ Below w.heap.size w w' := by
  unfold maxLen at hcm
  clear ho
  by_cases h3 : 300 < n
  · go_enter Try.func8, Try.ntmps8
    go_wp2_with fail
    go_ret
    exact ⟨rfl, Below.refl _ _⟩
  · obtain ⟨m, k, er, hg⟩ : ∃ m k er, getI xs = (m, k, er) := ⟨_, _, _, rfl⟩
    have CP := Lib.hid (intP_parts A n c xs w _ h (by omega) hg)
    have CR := Lib.hid (intR_parts A n c xs w _ h (by omega) hg)
    clear hg
    go_enter Try.func8, Try.ntmps8
    go_wp2_with fail
    refine CP.out.mono ?_
    rintro e w' ⟨rfl, rfl⟩
    go_wp2_with fail
    refine CR.out.mono ?_
    rintro e w' ⟨rfl, rfl⟩
    go_wp2_with fail
    refine (awake11_any _).mono ?_
    rintro e w' ⟨rfl, hb⟩
    go_wp2_with fail
    go_ret
    exact ⟨rfl, hb⟩

end Go.Proofs.Ytlcmffbikiamjaa
