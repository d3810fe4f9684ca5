/- The walk of BlockCuts. -/
import Derived.Test.YtaiaoiochbpmfaaGreatJn
import Derived.Test.YtaiaoiochbpmfaaGreatSm13
import Derived.Test.YtaiaoiochbpmfaaGreatEncR
namespace Go.Proofs.YtaiaoiochbpmfaaGreat
open Go Go.RowKit Iv Mk
set_option linter.unusedVariables false
set_option linter.unusedSimpArgs false
theorem recNums_of {x : Blk} (h : MadeOk x) : ∀ r ∈ x.recs, RecNums r := fun r hr => ⟨(h.fit r hr).seq, (h.fit r hr).thread, (h.fit r hr).kind, (h.fit r hr).obj, (h.fit r hr).value, (h.fit r hr).site, (h.fit r hr).deps, (h.fit r hr).from_⟩
theorem encode_made {x : Blk} (h : MadeOk x) : (x.recs.length = 0 ∧ encode x = ([], 1)) ∨ (0 < x.recs.length ∧ fits x = 0 ∧ encode x = (blkBytes x, 0)) := by
  rcases Nat.eq_zero_or_pos x.recs.length with h0 | h0
  · exact .inl ⟨h0, by unfold encode; rw [h.empty h0, if_neg (by decide)]⟩
  · exact .inr ⟨h0, h.fits h0, by unfold encode; rw [if_pos (h.fits h0)]⟩
theorem blkBytes_pos (x : Blk) : 10 ≤ (blkBytes x).length := by
  unfold blkBytes blkBody headBytes
  have p : ∀ n : Int, 1 ≤ (putI n).length := fun n => putI_pos n
  have h1 := p x.first
  have h2 := p x.recs.length
  have h3 := p (putRecs (-1) x.recs).length
  have h4 := p (pack (putRecs (-1) x.recs)).length
  simp only [List.length_append, List.length_cons, sum4_len]
  omega
set_option maxRecDepth 100000 in
set_option maxHeartbeats 3200000 in
theorem blockCuts_any (A1 : Option Addr) (n1 c1 : Nat) (xs : Bytes) (A2 : Option Addr) (n2 c2 : Nat) (ys : Bytes) (a2 a3 cut : Int) (w : World) (hL1 : Lies w w.heap.size 1 A1 n1 (xs.map bv)) (hnc1 : n1 ≤ c1) (hcm1 : c1 ≤ maxLen) (ho1 : A1 = none → c1 = 0) (hL2 : Lies w w.heap.size 1 A2 n2 (ys.map bv)) (hnc2 : n2 ≤ c2) (hcm2 : c2 ≤ maxLen) (ho2 : A2 = none → c2 = 0) (hf2 : 0 ≤ a2 ∧ a2 ≤ 255) (hf3 : 0 ≤ a3 ∧ a3 ≤ 255) (hcut : 0 ≤ cut ∧ cut ≤ 65535) :
    Calls Tryz.prog 4 #[.slice A1 n1 c1, .slice A2 n2 c2, .int .u8 a2, .int .u8 a3, .int .u16 cut] w fun e w' => e = .returned (.bool true) ∧ Below w.heap.size w w' := by
  obtain ⟨hc0, hc1⟩ := hcut
  obtain ⟨tn, rfl⟩ : ∃ tn : Nat, a2 = (tn : Int) := ⟨a2.toNat, by omega⟩
  obtain ⟨nn, rfl⟩ : ∃ nn : Nat, a3 = (nn : Int) := ⟨a3.toNat, by omega⟩
  unfold maxLen at hcm1 hcm2
  by_cases hb1 : 200 < n1
  · clear ho1 ho2
    go_enter Tryz.func4, Tryz.ntmps4
    go_wp2_with fail
    go_ret
    exact ⟨rfl, Below.refl _ _⟩
  by_cases hb2 : 100 < n2
  · clear ho1 ho2
    go_enter Tryz.func4, Tryz.ntmps4
    go_wp2_with fail
    go_ret
    exact ⟨rfl, Below.refl _ _⟩
  have CM := Lib.hid (made13_any w A1 n1 c1 w.heap.size xs hL1 hnc1 (by omega) A2 n2 c2 w.heap.size ys hL2 hnc2 (by omega) tn 0 nn (by omega) (by omega) (by omega))
  clear ho1 ho2 hL1 hL2 hf2 hf3
  go_enter Tryz.func4, Tryz.ntmps4
  go_wp2_with fail
  refine CM.out.mono ?_
  rintro e w1 ⟨x, A, c, rfl, hR, hM, hnc, ho, g1⟩
  have CE := Lib.hid (encodeP_any x A x.recs.length c w1.heap.size w1 hR (Nat.le_refl _) (recNums_of hM) (by have := hM.len; omega) w1.heap.size (Nat.le_refl _))
  have HM := Lib.hid hM
  have G1 := Lib.hid g1
  clear hR hM hnc ho g1
  go_wp2_with fail
  refine CE.out.mono ?_
  rintro e w2 ⟨v2, rfl, hown, g2⟩
  have G2 := Lib.hid (grown_then G1.out g2)
  clear g2
  rcases encode_made HM.out with ⟨h0, he⟩ | ⟨h0, hf, he⟩
  · rw [he]
    dsimp only
    clear hown
    go_wp2_with fail
    refine (awake13_any _).mono ?_
    rintro e w3 ⟨rfl, hb⟩
    go_wp2_with fail
    go_ret
    exact ⟨rfl, (belGr (Below.refl _ _) G2.out).trans (hb.mono G2.out.size)⟩
  · rw [he] at hown ⊢
    dsimp only at hown ⊢
    have hl := HM.out.bytes
    rw [he] at hl
    dsimp only at hl
    obtain ⟨A3, c3, hv3, hnc3, hcm3, hl3, hno3⟩ := own_slice hown
    subst hv3
    obtain ⟨P, hP⟩ : ∃ P, P = (blkBytes x).length := ⟨_, rfl⟩
    have hpp := blkBytes_pos x
    rw [← hP] at hl hl3 hnc3 hpp ⊢
    have HP := Lib.hid hP
    unfold maxLen at hcm3
    obtain ⟨K, hK⟩ : ∃ K : Nat, (K : Int) = cut % (P : Int) := ⟨(cut % (P : Int)).toNat, by have := Int.emod_nonneg cut (show (P : Int) ≠ 0 by omega); omega⟩
    have hKP : K < P := by
      have := Int.emod_lt_of_pos cut (show (0 : Int) < (P : Int) by omega)
      omega
    have hkt : cut.tmod (P : Int) = (K : Int) := by rw [Int.tmod_eq_emod_of_nonneg hc0]; exact hK.symm
    have hkk : cut % (P : Int) = (K : Int) := hK.symm
    have hbp : (((P : Nat) : Int) == 0) = false := by rw [beq_eq_false_iff_ne]; omega
    have ewc : IntKind.i64.wrap cut = cut := IntWalk.i64_in _ (by omega)
    have hl4 : Lies w2 w2.heap.size 1 A3 K (((blkBytes x).take K).map bv) := by
      have := hl3.take (m := K) (by omega)
      rwa [Nat.mul_one, ← List.map_take] at this
    have hdc := decode_cut hf HM.out.recOk (k := K) (by rw [← HP.out]; exact hKP)
    have CD := Lib.hid (decodeP_any A3 K c3 w2.heap.size ((blkBytes x).take K) w2 hl4 (Nat.le_refl _) (by omega) (by unfold maxLen; omega) hno3 (by omega))
    rw [hdc] at CD
    clear hown hl3 hl4 hK hP hdc hno3 he hf h0
    go_wp2_with fail
    refine CD.out.mono ?_
    rintro e w3 ⟨A4, n4, c4, rfl, hR4, g3, _⟩
    dsimp only [zeroBlk]
    have hn4 : n4 = 0 := hR4.1.symm
    subst hn4
    have G3 := Lib.hid (grown_then G2.out g3)
    clear hR4 g3
    go_wp2_with fail
    refine (awake13_any _).mono ?_
    rintro e w5 ⟨rfl, hb⟩
    have G4 := grown_then G3.out (World.grownBy_alloc w3 (.cells #[.int .i64 0, .int .i64 0, .slice A4 0 c4] 53) none)
    go_wp2_with fail
    go_ret
    exact ⟨rfl, (belGr (Below.refl _ _) G4).trans (hb.mono G4.size)⟩
end Go.Proofs.YtaiaoiochbpmfaaGreat
