/- The walks of the two searches for a copy (chapter 12): 'bestAt'. -/
import Derived.Test.YtlofjhcjjcohfaaWk
import Derived.Deep.DeepCutAuto
import Derived.IntWalk
namespace Iv
theorem best_done {b : Bytes} {i k : Nat} (h1 : 1 ≤ k) (h2 : k ≤ far i + 1) (hi : i ≤ b.length) (h : far i < k ∨ min 130 (b.length - i) ≤ (best b i (k - 1)).1) : bestAt b i = best b i (k - 1) := by
  unfold bestAt
  rcases h with h | h
  · rw [show far i = k - 1 from by omega]
  · exact best_stays b i (k - 1) (far i) (by omega) hi h
theorem best_up {b : Bytes} {i k m : Nat} (h1 : 1 ≤ k) (hm : mlen b i k 130 = m) : best b i k = if (best b i (k - 1)).1 < m then (m, k) else best b i (k - 1) := by
  obtain ⟨j, rfl⟩ : ∃ j, k = j + 1 := ⟨k - 1, by omega⟩
  simp only [best, Nat.add_sub_cancel, hm]
theorem far_le {i k : Nat} : k ≤ far i ↔ k ≤ 255 ∧ k ≤ i := by unfold far; omega
end Iv
namespace Go.Proofs.Ytlofjhcjjcohfaa
open Go Go.RowKit Iv
set_option linter.unusedVariables false

set_option maxRecDepth 100000 in
set_option maxHeartbeats 1600000 in
theorem matchP_any (A : Option Addr) (n c B : Nat) (xs : Bytes) (i : Nat) (w : World) (hLie : Lies w B 1 A n (xs.map bv)) (hi : i ≤ n) (hn : n ≤ 1000000000000) :
    Calls Try.prog 69 #[.slice A n c, .int .i64 (i : Int)] w fun e w' => e = .returned (.tuple #[.int .i64 ((bestAt xs i).1 : Int), .int .i64 ((bestAt xs i).2 : Int)]) ∧ ∃ q, w' = w.drewN q := by
  have HL := Lib.hid hLie.lenB
  obtain ⟨L, hL⟩ : ∃ L, L = min 130 (n - i) := ⟨_, rfl⟩
  have hL1 : L ≤ 130 := by omega
  have hL2 : i + L ≤ n := by omega
  have hL3 : L = 130 ∨ i + L = n := by omega
  have HLL := Lib.hid hL
  clear hL
  go_enter Try.func69, Try.ntmps69
  go_wp2_with fail
  all_goals
    go_loopw [7, 8, 9] (fun s ds d wr => ∃ (k q S D : Nat), d = .int .i64 (k : Int) ∧ 1 ≤ k ∧ k ≤ far i + 1 ∧ best xs i (k - 1) = (S, D) ∧ s = .int .i64 (S : Int) ∧ ds = .int .i64 (D : Int) ∧ wr = w.drewN q) (fun _ _ d _ => 300 - (intOf d).toNat)
    case atStart => exact ⟨1, 0, 0, 0, rfl, by omega, by omega, rfl, rfl, rfl, rfl⟩
    case round =>
      obtain ⟨k, q, S, D, rfl, hk1, hk2, hb, rfl, rfl, rfl⟩ := hrel
      have hS : S ≤ L := by
        have h1 := best_le xs i (k - 1)
        have h2 := best_end xs i (k - 1) (by rw [HL.out]; exact hi)
        rw [hb] at h1 h2
        have h3 := HLL.out
        have h4 := HL.out
        simp only at h1 h2
        omega
      have HB := Lib.hid hb
      clear hb
      by_cases hc : (k ≤ 255 ∧ k ≤ i) ∧ S < L
      · obtain ⟨⟨hc1, hc2⟩, hc3⟩ := hc
        obtain ⟨q0, hq0⟩ : ∃ q0, q0 = q := ⟨_, rfl⟩
        have hb0 : i + L ≤ xs.length := by rw [HL.out]; exact hL2
        go_wp2_with fail
        go_loopw [10] (fun nv wr => ∃ (m q2 : Nat), nv = .int .i64 (m : Int) ∧ m ≤ L ∧ wr = w.drewN q2 ∧ (∀ j, j < m → xs[i + j]? = xs[i + j - k]?)) (fun nv _ => 300 - (intOf nv).toNat)
        case atStart => exact ⟨0, q, rfl, Nat.zero_le _, rfl, fun j hj => by omega⟩
        case round =>
          clear hq0 q0
          obtain ⟨m, q2, rfl, hm, rfl, heq⟩ := hrel
          have HE := Lib.hid heq
          clear heq
          have HN := Lib.hid (show Stops xs i k 130 m → best xs i k = if S < m then (m, k) else (S, D) from fun hst => by have := best_up hk1 (stops_mlen hst); rw [HB.out] at this; exact this)
          by_cases hmL : m < L
          · obtain ⟨ad, x, hA, hb1, hx, hcx⟩ := hLie.byte (show i + m < n by omega)
            obtain ⟨ad', y, hA', hb2, hy, hcy⟩ := hLie.byte (show i + m - k < n by omega)
            subst hA
            obtain rfl : ad = ad' := by injection hA'
            have HX := Lib.hid hx
            have HY := Lib.hid hy
            clear hx hy hA'
            have e1 : IntKind.i64.wrap ((i : Int) + (m : Int)) = (i : Int) + (m : Int) := IntWalk.i64_in _ (by omega)
            have e2 : IntKind.i64.wrap ((i : Int) + (m : Int) - (k : Int)) = (i : Int) + (m : Int) - (k : Int) := IntWalk.i64_in _ (by omega)
            have e3 : ((i : Int) + (m : Int)).toNat = i + m := by omega
            have e4 : ((i : Int) + (m : Int) - (k : Int)).toNat = i + m - k := by omega
            have p1 : (0 : Int) ≤ (i : Int) + (m : Int) := by omega
            have p2 : (0 : Int) ≤ (i : Int) + (m : Int) - (k : Int) := by omega
            have p3 : (i : Int) + (m : Int) < (n : Int) := by omega
            have p4 : (i : Int) + (m : Int) - (k : Int) < (n : Int) := by omega
            have p5 : (m : Int) < (n : Int) - (i : Int) := by omega
            have p6 : (m : Int) < 130 := by omega
            by_cases hxy : x = y
            · have hne : ((x.toNat : Int) == (y.toNat : Int)) = true := by simp [hxy]
              have HXY := Lib.hid hxy
              clear hxy
              go_wp2_with fail
              go_quiet (fail)
              clear e1 e2 e3 e4
              go_wp2_with fail
              go_roundw
              case rel => exact ⟨m + 1, q2 + nq, by go_num, by omega, by simp, fun j hj => by
                by_cases hjm : j = m
                · rw [hjm, HX.out, HY.out, HXY.out]
                · exact HE.out j (by omega)⟩
              case measure => simp [intOf]; omega
            · have hne : ((x.toNat : Int) == (y.toNat : Int)) = false := by
                rw [beq_eq_false_iff_ne]
                intro e
                exact hxy (u8_eq (by omega))
              have HXY := Lib.hid hxy
              clear hxy
              have HST := Lib.hid (HN.out ⟨by omega, fun j hj => ⟨by have := hb0; omega, HE.out j hj⟩, .inr (fun hh => HXY.out (by have h1 := hh.2; rw [HX.out, HY.out] at h1; injection h1))⟩)
              clear HN
              go_wp2_with fail
              go_quiet (fail)
              clear e1 e2 e3 e4
              go_wp2_with fail
              all_goals
                go_roundw
                case rel => exact ⟨k + 1, q2 + nq, _, _, by go_num, by omega, by have := far_le (i := i) (k := k); omega, by rw [Nat.add_sub_cancel, HST.out]; first | exact if_pos (by omega) | exact if_neg (by omega), rfl, rfl, by simp⟩
                case measure => simp [intOf]; omega
          · have HST := Lib.hid (HN.out ⟨by omega, fun j hj => ⟨by have := hb0; omega, HE.out j hj⟩, by
              rcases (show m = 130 ∨ i + m = n by omega) with h1 | h1
              · exact .inl h1
              · exact .inr (fun hh => by have := HL.out; omega)⟩)
            clear HN
            first | (have hd : decide ((m : Int) < 130) = false := by rw [decide_eq_false_iff_not]; omega) | (have hd : decide ((m : Int) < (n : Int) - (i : Int)) = false := by rw [decide_eq_false_iff_not]; omega)
            go_wp2_with fail
            go_quiet (fail)
            clear hd
            go_wp2_with fail
            all_goals
              go_roundw
              case rel => exact ⟨k + 1, q2 + nq, _, _, by go_num, by omega, by have := far_le (i := i) (k := k); omega, by rw [Nat.add_sub_cancel, HST.out]; first | exact if_pos (by omega) | exact if_neg (by omega), rfl, rfl, by simp⟩
              case measure => simp [intOf]; omega
      · have HF : Hid (bestAt xs i = (S, D)) := by
          refine Lib.hid ?_
          rw [← HB.out]
          refine best_done hk1 hk2 (by rw [HL.out]; exact hi) ?_
          rw [HB.out, HL.out]
          unfold far at hk2 ⊢
          have := HLL.out
          simp only
          omega
        go_wp2_with fail
        all_goals (go_ret2; exact ⟨by rw [HF.out]; rfl, q, rfl⟩)

/-- What the reference's search returns: no copy of fewer than 3 bytes. -/
def bestR (xs : Bytes) (i : Nat) : Nat × Nat := if (bestAt xs i).1 < 3 then (0, 0) else bestAt xs i

set_option maxRecDepth 100000 in
set_option maxHeartbeats 1600000 in
theorem matchR_any (A : Option Addr) (n c B : Nat) (xs : Bytes) (i : Nat) (w : World) (hLie : Lies w B 1 A n (xs.map bv)) (hi : i ≤ n) (hn : n ≤ 1000000000000) :
    Calls Try.prog 71 #[.slice A n c, .int .i64 (i : Int)] w fun e w' => e = .returned (.tuple #[.int .i64 ((bestR xs i).1 : Int), .int .i64 ((bestR xs i).2 : Int)]) ∧ ∃ q, w' = w.drewN q := by
  have HL := Lib.hid hLie.lenB
  go_enter Try.func71, Try.ntmps71
  go_wp2_with fail
  go_loopw [6, 7, 8] (fun s ds d wr => ∃ (k q S D : Nat), d = .int .i64 (k : Int) ∧ 1 ≤ k ∧ k ≤ far i + 1 ∧ best xs i (k - 1) = (S, D) ∧ s = .int .i64 (S : Int) ∧ ds = .int .i64 (D : Int) ∧ wr = w.drewN q) (fun _ _ d _ => 300 - (intOf d).toNat)
  case atStart => exact ⟨1, 0, 0, 0, rfl, by omega, by omega, rfl, rfl, rfl, rfl⟩
  case round =>
    obtain ⟨k, q, S, D, rfl, hk1, hk2, hb, rfl, rfl, rfl⟩ := hrel
    have hS : S ≤ 130 := by
      have h1 := best_le xs i (k - 1)
      rw [hb] at h1
      simpa using h1
    have HB := Lib.hid hb
    clear hb
    by_cases hc : k ≤ 255 ∧ k ≤ i
    · obtain ⟨hc1, hc2⟩ := hc
      have hb0 : n ≤ xs.length := by rw [HL.out]; exact Nat.le_refl _
      go_wp2_with fail
      go_loopw [9] (fun nv wr => ∃ (m q2 : Nat), nv = .int .i64 (m : Int) ∧ m ≤ 130 ∧ i + m ≤ n ∧ wr = w.drewN q2 ∧ (∀ j, j < m → xs[i + j]? = xs[i + j - k]?)) (fun nv _ => 300 - (intOf nv).toNat)
      case atStart => exact ⟨0, q, rfl, Nat.zero_le _, hi, rfl, fun j hj => by omega⟩
      case round =>
        obtain ⟨m, q2, rfl, hm, hmn, rfl, heq⟩ := hrel
        have HE := Lib.hid heq
        clear heq
        have HN := Lib.hid (show Stops xs i k 130 m → best xs i k = if S < m then (m, k) else (S, D) from fun hst => by have := best_up hk1 (stops_mlen hst); rw [HB.out] at this; exact this)
        have e1 : IntKind.i64.wrap ((i : Int) + (m : Int)) = (i : Int) + (m : Int) := IntWalk.i64_in _ (by omega)
        by_cases hmL : m < 130
        · by_cases hmn2 : i + m < n
          · obtain ⟨ad, x, hA, hb1, hx, hcx⟩ := hLie.byte (show i + m < n by omega)
            obtain ⟨ad', y, hA', hb2, hy, hcy⟩ := hLie.byte (show i + m - k < n by omega)
            subst hA
            obtain rfl : ad = ad' := by injection hA'
            have HX := Lib.hid hx
            have HY := Lib.hid hy
            clear hx hy hA'
            have e2 : IntKind.i64.wrap ((i : Int) + (m : Int) - (k : Int)) = (i : Int) + (m : Int) - (k : Int) := IntWalk.i64_in _ (by omega)
            have e3 : ((i : Int) + (m : Int)).toNat = i + m := by omega
            have e4 : ((i : Int) + (m : Int) - (k : Int)).toNat = i + m - k := by omega
            have p1 : (0 : Int) ≤ (i : Int) + (m : Int) := by omega
            have p2 : (0 : Int) ≤ (i : Int) + (m : Int) - (k : Int) := by omega
            have p3 : (i : Int) + (m : Int) < (n : Int) := by omega
            have p4 : (i : Int) + (m : Int) - (k : Int) < (n : Int) := by omega
            have p6 : (m : Int) < 130 := by omega
            by_cases hxy : x = y
            · have hne : ((x.toNat : Int) == (y.toNat : Int)) = true := by simp [hxy]
              have HXY := Lib.hid hxy
              clear hxy
              go_wp2_with fail
              go_quiet (fail)
              clear e1 e2 e3 e4
              go_wp2_with fail
              go_roundw
              case rel => exact ⟨m + 1, q2 + nq, by go_num, by omega, by omega, by simp, fun j hj => by
                by_cases hjm : j = m
                · rw [hjm, HX.out, HY.out, HXY.out]
                · exact HE.out j (by omega)⟩
              case measure => simp [intOf]; omega
            · have hne : ((x.toNat : Int) == (y.toNat : Int)) = false := by
                rw [beq_eq_false_iff_ne]
                intro e
                exact hxy (u8_eq (by omega))
              have HXY := Lib.hid hxy
              clear hxy
              have HST := Lib.hid (HN.out ⟨by omega, fun j hj => ⟨by have := hb0; omega, HE.out j hj⟩, .inr (fun hh => HXY.out (by have h1 := hh.2; rw [HX.out, HY.out] at h1; injection h1))⟩)
              clear HN
              go_wp2_with fail
              go_quiet (fail)
              clear e1 e2 e3 e4
              go_wp2_with fail
              all_goals
                go_roundw
                case rel => exact ⟨k + 1, q2 + nq, _, _, by go_num, by omega, by have := far_le (i := i) (k := k); omega, by rw [Nat.add_sub_cancel, HST.out]; first | exact if_pos (by omega) | exact if_neg (by omega), rfl, rfl, by simp⟩
                case measure => simp [intOf]; omega
          · have HST := Lib.hid (HN.out ⟨by omega, fun j hj => ⟨by have := hb0; omega, HE.out j hj⟩, .inr (fun hh => by have := HL.out; omega)⟩)
            clear HN
            have p6 : (m : Int) < 130 := by omega
            have p7 : decide ((i : Int) + (m : Int) < (n : Int)) = false := by rw [decide_eq_false_iff_not]; omega
            go_wp2_with fail
            go_quiet (fail)
            clear e1 p7
            go_wp2_with fail
            all_goals
              go_roundw
              case rel => exact ⟨k + 1, q2 + nq, _, _, by go_num, by omega, by have := far_le (i := i) (k := k); omega, by rw [Nat.add_sub_cancel, HST.out]; first | exact if_pos (by omega) | exact if_neg (by omega), rfl, rfl, by simp⟩
              case measure => simp [intOf]; omega
        · have HST := Lib.hid (HN.out ⟨by omega, fun j hj => ⟨by have := hb0; omega, HE.out j hj⟩, .inl (by omega)⟩)
          clear HN
          have p6 : decide ((m : Int) < 130) = false := by rw [decide_eq_false_iff_not]; omega
          go_wp2_with fail
          go_quiet (fail)
          clear e1 p6
          go_wp2_with fail
          all_goals
            go_roundw
            case rel => exact ⟨k + 1, q2 + nq, _, _, by go_num, by omega, by have := far_le (i := i) (k := k); omega, by rw [Nat.add_sub_cancel, HST.out]; first | exact if_pos (by omega) | exact if_neg (by omega), rfl, rfl, by simp⟩
            case measure => simp [intOf]; omega
    · have HF : Hid (bestAt xs i = (S, D)) := by
        refine Lib.hid ?_
        rw [← HB.out]
        refine best_done hk1 hk2 (by rw [HL.out]; exact hi) (.inl ?_)
        have := far_le (i := i) (k := k)
        omega
      by_cases h3 : S < 3
      · have HR : Hid (bestR xs i = (0, 0)) := by
          refine Lib.hid ?_
          unfold bestR
          rw [HF.out]
          exact if_pos h3
        go_wp2_with fail
        all_goals (go_ret2; exact ⟨by rw [HR.out]; rfl, q, rfl⟩)
      · have HR : Hid (bestR xs i = (S, D)) := by
          refine Lib.hid ?_
          unfold bestR
          rw [HF.out]
          exact if_neg h3
        go_wp2_with fail
        all_goals (go_ret2; exact ⟨by rw [HR.out]; rfl, q, rfl⟩)
end Go.Proofs.Ytlofjhcjjcohfaa
