/- The walk of PackRuns. -/
import Derived.Test.YtlcmffbikiamjaaLaw12b
namespace Iv
theorem runItems_ge {x : UInt8} {k : Nat} (h : 3 ≤ k) : runItems x k = UInt8.ofNat (min k 130 + 125) :: 1 :: runItems x (k - min k 130) := by rw [runItems, if_pos h]
theorem runItems_lt {x : UInt8} {k : Nat} (h : k < 3) : runItems x k = if 0 < k then UInt8.ofNat (k - 1) :: List.replicate k x else [] := by rw [runItems, if_neg (by omega)]
theorem runItems_len {x : UInt8} (k : Nat) : (runItems x k).length ≤ 2 * k := by
  induction k using Nat.strongRecOn with
  | _ k ih =>
    by_cases h : 3 ≤ k
    · rw [runItems_ge h]
      have := ih (k - min k 130) (by omega)
      simp only [List.length_cons]
      omega
    · rw [runItems_lt (by omega)]
      split <;> simp <;> omega
theorem runWant_len (x : UInt8) (k : Nat) (h : k ≤ 2000) : (runWant x k).length ≤ 10000 := by
  unfold runWant
  have := runItems_len (x := x) k
  split
  · simp; omega
  · simp; omega
end Iv
namespace Iv
open Go Go.RowKit
theorem ownsRow_lit (w : World) (base : Nat) (e : TypeId) (cur : Array Value) (n : Nat) (hb : base ≤ w.heap.size) (hm : n ≤ maxLen) (hs : cur.size = n) :
    (w.alloc (.cells cur e)).ownsRow base e 1 (.slice (some ⟨w.heap.size, 0, none⟩) n n) n cur.toList :=
  ⟨by simp [hs], .inr ⟨w.heap.size, n, cur, rfl, hb, heap_alloc_new w _, Nat.le_refl _, hm, by simp [hs], by rw [← hs]; exact List.take_of_length_le (by simp)⟩⟩
end Iv
namespace Go.Proofs.Ytlcmffbikiamjaa
open Go Go.RowKit Iv
set_option linter.unusedVariables false

set_option maxRecDepth 100000 in
set_option maxHeartbeats 3200000 in
theorem packRuns_any (x0 cnt : Int) (w : World) (hx : 0 ≤ x0 ∧ x0 ≤ 255) (hcnt : 0 ≤ cnt ∧ cnt ≤ 65535) :
    Calls Try.prog 12 #[.int .u8 x0, .int .u16 cnt] w fun e w' => e = .returned (.bool true) ∧ Below w.heap.size w w' := by
  obtain ⟨x, hxx⟩ : ∃ x : UInt8, (x.toNat : Int) = x0 := ⟨UInt8.ofNat x0.toNat, by rw [ofNat_toNat_lt (by omega)]; omega⟩
  subst hxx
  have hx8 := byte_lt x
  obtain ⟨hc0, hc1⟩ := hcnt
  obtain ⟨N, hN⟩ : ∃ N : Nat, (N : Int) = cnt % 2000 := ⟨(cnt % 2000).toNat, by omega⟩
  have hN2 : N < 2000 := by omega
  have hmod : cnt % 2000 = (N : Int) := hN.symm
  clear hx hN
  obtain ⟨i0, hi, hz0, hz1, hz2⟩ := info_parts info_u8
  have HI := Lib.hid hi
  have HZ0 := Lib.hid hz0
  have HZ1 := Lib.hid hz1
  have HZ2 := Lib.hid hz2
  have hz : (0 : Nat) < 1 := by omega
  clear hi hz0 hz1 hz2
  go_enter Try.func12, Try.ntmps12
  go_wp2_with (at_make; refine wpList_make_full _ rfl (.tmp 14) (.tmp 14) 22 rfl w.heap.size 5 i0 (.int .u8 0) 1 Try.underlying22 HI.out HZ0.out HZ1.out .i64 .i64 _ _ (N + 1) rfl rfl (by omega) (by omega) (by rw [HZ2.out]; omega) (by unfold maxLen; omega) (Nat.le_refl _) ?_; intro w1 hown1 hg1)
  have hl1 := hown1.1
  obtain ⟨ys0, hys0⟩ : ∃ ys, ys = (madeCells (Value.cells (.int .u8 0)) ((N + 1) * 1)).toList := ⟨_, rfl⟩
  rw [← hys0] at hown1 hl1
  have HO1 := Lib.hid hown1
  clear hys0 hown1
  go_loopw [7] (fun iv wr => ∃ (i : Nat) (ys : List Value), iv = .int .i64 (i : Int) ∧ i ≤ N + 1 ∧ wr.ownsRow w.heap.size 5 1 (.slice (some ⟨w.heap.size, 0, none⟩) (N + 1) (N + 1)) (N + 1) ys ∧ ys.take i = List.replicate i (bv x) ∧ w.grownBy wr none) (fun iv _ => N + 1 - (intOf iv).toNat)
  case atStart => exact ⟨0, ys0, rfl, Nat.zero_le _, HO1.out, rfl, hg1⟩
  case round =>
    clear hg1
    obtain ⟨i, ys, rfl, hi, hown, htk, hgr⟩ := hrel
    have hyl : ys.length = N + 1 := by have := hown.1; omega
    by_cases hlt : i < N + 1
    · have hc := hown.cellAt i (by omega)
      have hf := hown.frozenAt i
      obtain ⟨u, hu⟩ : ∃ u, ys[i]? = some u := ⟨_, List.getElem?_eq_getElem (by omega)⟩
      rw [hu] at hc
      clear hu
      obtain ⟨hst, hgs⟩ := hown.stored i (.int .u8 (x.toNat : Int))
      have hgr2 : w.grownBy (wr.setCell ⟨w.heap.size, i, none⟩ (.int .u8 (x.toNat : Int))) none := grownBy_trans hgr hgs (.inr ⟨_, rfl, Nat.le_refl _⟩)
      have htk2 : (ys.set i (.int .u8 (x.toNat : Int))).take (i + 1) = List.replicate (i + 1) (bv x) := by
        rw [List.take_set, List.take_succ_eq_append_getElem (by omega), List.set_append_right _ _ (by simp; omega), htk]
        have : (i - (List.replicate i (bv x)).length) = 0 := by simp
        rw [this, List.replicate_succ']
        rfl
      have HST := Lib.hid hst
      have HTK := Lib.hid htk2
      clear hown htk hst htk2 hgs hyl
      go_wp2_with fail
      go_roundw
      case rel => exact ⟨i + 1, _, by go_num, by omega, HST.out, HTK.out, hgr2⟩
      case measure => simp [intOf]; omega
    · have hyx : ys = (List.replicate (N + 1) x).map bv := by
        have hi2 : i = N + 1 := by omega
        rw [hi2, List.take_of_length_le (by omega)] at htk
        rw [htk, List.map_replicate]
      rw [hyx] at hown
      have HB := Lib.hid hown
      clear hown htk hyl hyx ys
      have W0 := ownsRow_lit wr (w.heap.size + 1) 5 #[.int .u8 0, .int .u8 (x.toNat : Int)] 2 (by have := (HB.out.lt w.heap.size rfl).2; omega) (by unfold maxLen; omega) rfl
      have hwr : w.heap.size < wr.heap.size := (HB.out.lt w.heap.size rfl).2
      have hgr2 : w.grownBy (wr.alloc (.cells #[.int .u8 0, .int .u8 (x.toNat : Int)] 5)) none := grownBy_trans hgr (World.grownBy_alloc wr _ none) (.inl rfl)
      have HB2 := Lib.hid (HB.out.alloc (.cells #[.int .u8 0, .int .u8 (x.toNat : Int)] 5))
      have HW0 := Lib.hid W0
      have rl := runItems_len (x := x) N
      clear W0
      go_wp2_with fail
      go_loopw [5, 8, 9] (fun kv v _ wr => ∃ (k : Nat) (zs : Bytes) (vv : Value), vv = v ∧ kv = .int .i64 (k : Int) ∧ k ≤ N ∧ wr.ownsRow (w.heap.size + 1) 5 1 vv zs.length (zs.map bv) ∧
        wr.ownsRow w.heap.size 5 1 (.slice (some ⟨w.heap.size, 0, none⟩) (N + 1) (N + 1)) (N + 1) ((List.replicate (N + 1) x).map bv) ∧ w.grownBy wr none ∧ zs ++ runItems x k = 0 :: x :: runItems x N ∧ (N < 3 → k = N)) (fun kv _ _ _ => (intOf kv).toNat)
      case atStart => exact ⟨N, [0, x], _, rfl, rfl, Nat.le_refl _, HW0.out, HB2.out, hgr2, rfl, fun _ => rfl⟩
      case round =>
        clear hgr hgr2
        obtain ⟨k, zs, vv, rfl, rfl, hk, hown, hbw, hgr, heq, hk3⟩ := hrel
        have hzl : zs.length ≤ 5000 := by
          have := congrArg List.length heq
          simp only [List.length_append, List.length_cons] at this
          omega
        obtain ⟨Av, cv, hvv, _⟩ := own_slice hown
        subst hvv
        have hown0 : ∀ g, (Value.slice Av zs.length cv).ownBlock = some g → w.heap.size + 1 ≤ g := fun g hg => (hown.lt g hg).1
        have hbwl : w.heap.size + 1 ≤ wr.heap.size := (hbw.lt w.heap.size rfl).2
        have HE := Lib.hid heq
        have HOW := Lib.hid hown
        have HBW := Lib.hid hbw
        have HO0 := Lib.hid hown0
        have HK3 := Lib.hid hk3
        have HAT := Lib.hid (show At w none (Value.slice Av zs.length cv).ownBlock from by
          cases hv : (Value.slice Av zs.length cv).ownBlock with
          | none => exact .inl rfl
          | some g => exact .inr ⟨g, rfl, by have := hown0 g hv; omega⟩)
        clear heq hown hbw hown0 hk3
        by_cases hk3 : 3 ≤ k
        · have HRI := Lib.hid (runItems_ge (x := x) hk3)
          by_cases hk130 : k ≤ 130
          · have HM := Lib.hid (show min k 130 = k by omega)
            go_wp2_with (at_builtin; refine wpList_app _ rfl (.tmp 32) (.tmp 36) _ rfl (w.heap.size + 1) 5 i0 (.int .u8 0) 1 1 Try.underlying22 HI.out HZ0.out HZ1.out HZ2.out rfl hz _ (Value.slice Av zs.length cv).ownBlock zs.length (zs.map bv) rfl (App.own (HOW.out.alloc _)) ⟨wr.heap.size, 0, none⟩ 2 2 [.int .u8 ((k : Int) + 125), .int .u8 1] rfl (by omega) rfl (cell_new2 _ _ _ _) (one2 rfl rfl) (by unfold maxLen; omega) (by omega) (by simp; omega) ?_; intro v3 w3 hown3 hg3 hat3)
            have hg3' := grown_alloc hg3
            have hat3' := hat3.alloc
            have hown3' : w3.ownsRow (w.heap.size + 1) 5 1 v3 (zs ++ [UInt8.ofNat (k + 125), 1]).length ((zs ++ [UInt8.ofNat (k + 125), 1]).map bv) := by
              have e1 : Value.int .u8 ((k : Int) + 125) = bv (UInt8.ofNat (k + 125)) := by
                unfold bv
                rw [ofNat_toNat_lt (by omega)]
                rfl
              rw [e1] at hown3
              rw [List.length_append, List.map_append]
              exact hown3
            have HW3 := Lib.hid hown3'
            have HB3 := Lib.hid (own_keep HBW.out hg3' (fun g hg e => by have h0 : w.heap.size = g := (by simpa [Value.ownBlock] using hg); have h1 := HO0.out g e; omega))
            have hgr3 := grownBy_trans hgr hg3' HAT.out
            clear hown3 hown3' hg3 hat3 hg3' hat3'
            go_roundw
            case rel =>
              refine ⟨0, _, _, rfl, by first | rfl | go_num | simp, by omega, HW3.out, HB3.out, hgr3, ?_, fun h => by omega⟩
              rw [← HE.out, HRI.out, HM.out]
              simp
            case measure => simp [intOf]; omega
          · have HM := Lib.hid (show min k 130 = 130 by omega)
            have p130 : (130 : Int) < (k : Int) := by omega
            clear hk130
            have hk130 : 130 < k := by omega
            go_wp2_with (at_builtin; refine wpList_app _ rfl (.tmp 32) (.tmp 36) _ rfl (w.heap.size + 1) 5 i0 (.int .u8 0) 1 1 Try.underlying22 HI.out HZ0.out HZ1.out HZ2.out rfl hz _ (Value.slice Av zs.length cv).ownBlock zs.length (zs.map bv) rfl (App.own (HOW.out.alloc _)) ⟨wr.heap.size, 0, none⟩ 2 2 [.int .u8 255, .int .u8 1] rfl (by omega) rfl (cell_new2 _ _ _ _) (one2 rfl rfl) (by unfold maxLen; omega) (by omega) (by simp; omega) ?_; intro v3 w3 hown3 hg3 hat3)
            have hg3' := grown_alloc hg3
            have hat3' := hat3.alloc
            have hown3' : w3.ownsRow (w.heap.size + 1) 5 1 v3 (zs ++ [UInt8.ofNat (130 + 125), 1]).length ((zs ++ [UInt8.ofNat (130 + 125), 1]).map bv) := by
              have e1 : Value.int .u8 (255) = bv (UInt8.ofNat (130 + 125)) := by
                unfold bv
                rw [ofNat_toNat_lt (by omega)]
                rfl
              rw [e1] at hown3
              rw [List.length_append, List.map_append]
              exact hown3
            have HW3 := Lib.hid hown3'
            have HB3 := Lib.hid (own_keep HBW.out hg3' (fun g hg e => by have h0 : w.heap.size = g := (by simpa [Value.ownBlock] using hg); have h1 := HO0.out g e; omega))
            have hgr3 := grownBy_trans hgr hg3' HAT.out
            clear hown3 hown3' hg3 hat3 hg3' hat3'
            go_roundw
            case rel =>
              refine ⟨k - 130, _, _, rfl, by first | rfl | go_num | simp, by omega, HW3.out, HB3.out, hgr3, ?_, fun h => by omega⟩
              rw [← HE.out, HRI.out, HM.out]
              simp
            case measure => simp [intOf]; omega
        · have CP := Lib.hid (fun (W : World) (hb : W.ownsRow w.heap.size 5 1 (.slice (some ⟨w.heap.size, 0, none⟩) (N + 1) (N + 1)) (N + 1) ((List.replicate (N + 1) x).map bv)) (hW : w.heap.size ≤ W.heap.size) =>
            packP_any (some ⟨w.heap.size, 0, none⟩) (N + 1) (N + 1) W.heap.size (List.replicate (N + 1) x) W (Lies.ofOwn hb) (Nat.le_refl _) (Nat.le_refl _) (by omega) w.heap.size hW)
          by_cases hn3 : N < 3
          · have hkN := HK3.out hn3
            have HKN := Lib.hid hkN
            clear hkN
            have hwant : UInt8.ofNat N :: List.replicate (N + 1) x = runWant x N := by
              unfold runWant
              rw [if_pos (by omega)]
            have HWT := Lib.hid hwant
            have hbN : Value.int .u8 (N : Int) = bv (UInt8.ofNat N) := by
              unfold bv
              rw [ofNat_toNat_lt (by omega)]
            have HBN := Lib.hid hbN
            have L1 := Lib.hid (ownsRow_lit wr (w.heap.size + 1) 5 #[.int .u8 (N : Int)] 1 (by omega) (by unfold maxLen; omega) rfl)
            have q3 : (N : Int) + 1 ≤ 3 := by omega
            clear hwant hbN
            by_cases hk0 : 0 < k
            all_goals
              go_wp2_with (at_builtin; refine wpList_join _ rfl (.tmp 66) (.tmp 67) _ rfl (w.heap.size + 1) 5 i0 (.int .u8 0) 1 1 Try.underlying22 HI.out HZ0.out HZ1.out HZ2.out rfl hz _ 1 _ rfl L1.out (wr.alloc (.cells #[.int .u8 (N : Int)] 5)).heap.size (some ⟨w.heap.size, 0, none⟩) (N + 1) (N + 1) ((List.replicate (N + 1) x).map bv) rfl (Lies.ofOwn (HBW.out.alloc _)) (fun e => nomatch e) (bv_one _) (by unfold maxLen; omega) (by omega) (by simp; omega) ?_; intro v4 w4 hown4 hg4 hat4)
              have hown4' : w4.ownsRow (w.heap.size + 1) 5 1 v4 (runWant x N).length ((runWant x N).map bv) := by
                rw [← HWT.out]
                simp only [List.length_cons, List.length_replicate, List.map_cons]
                rw [← HBN.out, Nat.add_comm (N + 1) 1]
                exact hown4
              have hg4' := grown_ofNew hg4 (Nat.le_refl _) none
              have HB4 := Lib.hid (own_keep HBW.out hg4' (fun g _ e => nomatch e))
              have hgr4 := grownBy_trans hgr hg4' (.inl rfl)
              obtain ⟨A4, c4, hv4, _⟩ := own_slice hown4'
              subst hv4
              have HW4 := Lib.hid hown4'
              clear hown4 hown4' hg4 hg4' hat4
              refine (CP.out w4 HB4.out (by have := hgr4.size; omega)).mono ?_
              rintro e w5 ⟨v5, rfl, hown5, hg5, hat5⟩
              rw [pack_run] at hown5
              obtain ⟨A5, c5, hv5, _, _, hl5, _⟩ := own_slice hown5
              subst hv5
              have hl6 := Lies.ofOwn (own_keep HW4.out hg5 (fun g _ e => nomatch e))
              have hgr5 := grownBy_trans hgr4 hg5 (.inl rfl)
              obtain ⟨M, hM⟩ : ∃ M, M = (runWant x N).length := ⟨_, rfl⟩
              have hM2 : M ≤ 10000 := by rw [hM]; exact runWant_len x N (by omega)
              rw [← hM] at hl5 hl6 ⊢
              have CS := Lib.hid (same_yes A5 A4 M M c5 c4 (runWant x N) w5 _ _ hl5 hl6 (by omega) (by omega))
              clear hown5 hl5 hl6 hg5 hat5 hM
              go_wp2_with fail
              refine CS.out.mono ?_
              rintro e w6 ⟨rfl, q, rfl⟩
              go_wp2_with fail
              go_ret
              exact ⟨rfl, belDrewN (belGrown (Below.refl _ w) hgr5) q⟩
          · by_cases hk0 : 0 < k
            · have hwant : (zs ++ [UInt8.ofNat (k - 1)]) ++ List.replicate k x = runWant x N := by
                unfold runWant
                rw [if_neg (by omega), ← HE.out, runItems_lt (by omega), if_pos hk0]
                simp
              have HWT := Lib.hid hwant
              have hbk : Value.int .u8 ((k : Int) - 1) = bv (UInt8.ofNat (k - 1)) := by
                unfold bv
                rw [ofNat_toNat_lt (by omega)]
                congr 1
                omega
              have HBK := Lib.hid hbk
              have q3 : ¬ (N : Int) + 1 ≤ 3 := by omega
              clear hwant hbk
              go_wp2_with (first
                | (at_builtin; refine wpList_app _ rfl (.tmp 48) (.tmp 52) _ rfl (w.heap.size + 1) 5 i0 (.int .u8 0) 1 1 Try.underlying22 HI.out HZ0.out HZ1.out HZ2.out rfl hz _ (Value.slice Av zs.length cv).ownBlock zs.length (zs.map bv) rfl (App.own (HOW.out.alloc _)) ⟨wr.heap.size, 0, none⟩ 1 1 [.int .u8 ((k : Int) - 1)] rfl hz rfl (cell_new1 _ _ _) (one1 rfl) (by unfold maxLen; omega) (by omega) (by simp; omega) ?_; intro v3 w3 hown3 hg3 hat3; have hg3' := grown_alloc hg3; have hat3' := hat3.alloc; have hb3 := own_keep HBW.out hg3' (fun g hg e => by have h0 : w.heap.size = g := (by simpa [Value.ownBlock] using hg); have h1 := HO0.out g e; omega))
                | (at_builtin; refine wpList_join _ rfl (.tmp 54) (.tmp 57) _ rfl (w.heap.size + 1) 5 i0 (.int .u8 0) 1 1 Try.underlying22 HI.out HZ0.out HZ1.out HZ2.out rfl hz _ (zs.length + 1) _ rfl hown3 w3.heap.size (some ⟨w.heap.size, 0, none⟩) k (N + 1) ((List.replicate k x).map bv) rfl (by have h0 := (Lies.ofOwn hb3).take (m := k) (by omega); rw [Nat.mul_one, ← List.map_take, List.take_replicate, show min k (N + 1) = k by omega] at h0; exact h0) (fun e => nomatch e) (bv_one _) (by unfold maxLen; omega) (by omega) (by have := hg3'.size; omega) ?_; intro v4 w4 hown4 hg4 hat4))
              have hown4' : w4.ownsRow (w.heap.size + 1) 5 1 v4 (runWant x N).length ((runWant x N).map bv) := by
                rw [← HWT.out]
                simp only [List.length_append, List.length_replicate, List.map_append, List.length_cons, List.length_nil, Nat.zero_add]
                rw [HBK.out] at hown4
                exact hown4
              have hgr3 := grownBy_trans hgr hg3' HAT.out
              have hat3w := HAT.out.trans hat3' hgr.size
              have hgr4 := grownBy_trans hgr3 hg4 hat3w
              have HB4 := Lib.hid (own_keep hb3 hg4 (fun g hg e => by have h0 : w.heap.size = g := (by simpa [Value.ownBlock] using hg); have h1 := (hown3.lt g e).1; omega))
              obtain ⟨A4, c4, hv4, _⟩ := own_slice hown4'
              subst hv4
              have HW4 := Lib.hid hown4'
              clear hown4 hown4' hg4 hat4 hown3 hg3 hg3' hat3 hat3' hb3 hgr3 hat3w
              refine (CP.out w4 HB4.out (by have := hgr4.size; omega)).mono ?_
              rintro e w5 ⟨v5, rfl, hown5, hg5, hat5⟩
              rw [pack_run] at hown5
              obtain ⟨A5, c5, hv5, _, _, hl5, _⟩ := own_slice hown5
              subst hv5
              have hl6 := Lies.ofOwn (own_keep HW4.out hg5 (fun g _ e => nomatch e))
              have hgr5 := grownBy_trans hgr4 hg5 (.inl rfl)
              obtain ⟨M, hM⟩ : ∃ M, M = (runWant x N).length := ⟨_, rfl⟩
              have hM2 : M ≤ 10000 := by rw [hM]; exact runWant_len x N (by omega)
              rw [← hM] at hl5 hl6 ⊢
              have CS := Lib.hid (same_yes A5 A4 M M c5 c4 (runWant x N) w5 _ _ hl5 hl6 (by omega) (by omega))
              clear hown5 hl5 hl6 hg5 hat5 hM
              go_wp2_with fail
              refine CS.out.mono ?_
              rintro e w6 ⟨rfl, q, rfl⟩
              go_wp2_with fail
              go_ret
              exact ⟨rfl, belDrewN (belGrown (Below.refl _ w) hgr5) q⟩
            · have hwant : zs = runWant x N := by
                unfold runWant
                rw [if_neg (by omega), ← HE.out, runItems_lt (by omega), if_neg hk0, List.append_nil]
              subst hwant
              have HOW2 := HOW
              go_wp2_with fail
              refine (CP.out wr HBW.out (by have := hgr.size; omega)).mono ?_
              rintro e w5 ⟨v5, rfl, hown5, hg5, hat5⟩
              rw [pack_run] at hown5
              obtain ⟨A5, c5, hv5, _, _, hl5, _⟩ := own_slice hown5
              subst hv5
              have hl6 := Lies.ofOwn (own_keep HOW.out hg5 (fun g _ e => nomatch e))
              have hgr5 := grownBy_trans hgr hg5 (.inl rfl)
              obtain ⟨M, hM⟩ : ∃ M, M = (runWant x N).length := ⟨_, rfl⟩
              have hM2 : M ≤ 10000 := by rw [hM]; exact runWant_len x N (by omega)
              rw [← hM] at hl5 hl6 ⊢
              have CS := Lib.hid (same_yes A5 Av M M c5 cv (runWant x N) w5 _ _ hl5 hl6 (by omega) (by omega))
              clear hown5 hl5 hl6 hg5 hat5 hM
              go_wp2_with fail
              refine CS.out.mono ?_
              rintro e w6 ⟨rfl, q, rfl⟩
              go_wp2_with fail
              go_ret
              exact ⟨rfl, belDrewN (belGrown (Below.refl _ w) hgr5) q⟩
end Go.Proofs.Ytlcmffbikiamjaa
