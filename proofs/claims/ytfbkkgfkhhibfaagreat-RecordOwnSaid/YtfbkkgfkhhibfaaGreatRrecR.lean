/- The walk of the reference's Unpack (chapter 12): 'unpack'. -/
import Derived.Test.YtfbkkgfkhhibfaaGreatSum
import Derived.Deep.DeepCutAuto
import Derived.Test.YtfbkkgfkhhibfaaGreatRrow
import Derived.Test.YtfbkkgfkhhibfaaGreatPl
import Derived.Test.YtfbkkgfkhhibfaaGreatOpenNum
import Derived.Test.YtfbkkgfkhhibfaaGreatRead
import Derived.Laws.StructEq
import Derived.Laws.Strings
import Derived.Deep.RegionHeld3
import Derived.Laws.Cover2
namespace Go.Proofs.YtfbkkgfkhhibfaaGreat
open Go Go.RowKit Iv
set_option linter.unusedVariables false
set_option maxRecDepth 100000 in
set_option maxHeartbeats 3200000 in
theorem unpackR_any (A : Option Addr) (n c B : Nat) (xs : Bytes) (most : Int) (w : World) (hLie : Lies w B 1 A n (xs.map bv)) (hB : B ≤ w.heap.size) (hnc : n ≤ c) (hn : n ≤ 1000000000) (hmost : inI64 most) (base : Nat) (hbase : base ≤ w.heap.size) :
    Calls Tryz.prog 49 #[.slice A n c, .int .i64 most] w fun e w' => ∃ v', e = .returned (.tuple #[v', .int .i64 (unpack xs most).2]) ∧ w'.ownsRow base 5 1 v' (unpack xs most).1.length ((unpack xs most).1.map bv) ∧ w.grownBy w' none ∧ At w none v'.ownBlock := by
  have HL := Lib.hid hLie.lenB
  obtain ⟨hm1, hm2⟩ := hmost
  obtain ⟨i0, hi, hz0, hz1, hz2⟩ := info_parts info_u8
  have HI := Lib.hid hi
  have HZ0 := Lib.hid hz0
  have HZ1 := Lib.hid hz1
  have HZ2 := Lib.hid hz2
  clear hi hz0 hz1 hz2
  have hz : (0 : Nat) < 1 := by omega
  go_enter Tryz.func49, Tryz.ntmps49
  go_wp2_with fail
  go_loopw [6, 7, 8, 9, 10] (fun v iv _ _ _ wr => ∃ (k : Nat) (ys : Bytes) (vv : Value), vv = v ∧ iv = .int .i64 (k : Int) ∧ k ≤ n ∧ UnAt 5 w base most xs k ys vv wr) (fun _ iv _ _ _ _ => n - (intOf iv).toNat)
  case atStart => exact ⟨0, [], _, rfl, rfl, Nat.zero_le _, UnAt.start _ _ _ _ _⟩
  case round =>
    obtain ⟨k, ys, vv, rfl, rfl, hkn, hU⟩ := hrel
    have hyl : ys.length ≤ 130 * k := hU.len
    have LB := hLie.grown hU.grown hB (fun g hg => nomatch hg)
    obtain ⟨Av, cv, hvv, _⟩ := own_slice hU.own
    subst hvv
    have hm3 : -9223372036854775808 ≤ most - (ys.length : Int) := by
      rcases hU.room with h | h
      · have h0 : ys.length = 0 := by rw [h]; rfl
        omega
      · omega
    have HU := Lib.hid hU
    have hbw : base ≤ wr.heap.size := Nat.le_trans hbase hU.grown.size
    clear hU
    by_cases hlt : k < n
    · obtain ⟨ad, x, hA, _, hx, hcx⟩ := LB.byte hlt
      subst hA
      have hx8 := byte_lt x
      have HX := Lib.hid hx
      clear hx
      by_cases h7 : x.toNat < 128
      · have HF := HU.out.lit HX.out h7
        rw [HL.out] at HF
        by_cases h1 : n - (k + 1) < x.toNat + 1
        · rw [if_pos h1] at HF
          have HFF := Lib.hid HF
          clear HF
          go_wp2_with fail
          go_ret2
          rw [HFF.out]
          exact ⟨_, rfl, World.ownsRow_nil _ _ _ _, HU.out.grown, .inl rfl⟩
        · rw [if_neg h1] at HF
          by_cases h2 : most < (ys.length : Int) + x.toNat + 1
          · rw [if_pos h2] at HF
            have HFF := Lib.hid HF
            clear HF
            go_wp2_with fail
            go_ret2
            rw [HFF.out]
            exact ⟨_, rfl, World.ownsRow_nil _ _ _ _, HU.out.grown, .inl rfl⟩
          · have hcut : Lies wr B 1 (some ⟨ad.block, ad.off + (k + 1), none⟩) (k + x.toNat + 2 - (k + 1)) (((xs.drop (k + 1)).take (x.toNat + 1)).map bv) := by
              have h1 := (LB.drop (k := k + 1) (by omega)).take (m := x.toNat + 1) (by omega)
              simp only [Nat.mul_one] at h1
              rw [← List.map_drop, ← List.map_take] at h1
              rw [show k + x.toNat + 2 - (k + 1) = x.toNat + 1 from by omega]
              rw [show (⟨ad.block, ad.off + (k + 1), none⟩ : Addr) = ad.add (k + 1) from by simp [Addr.add]]
              exact h1
            have HCUT := Lib.hid hcut
            have hnc2 : ¬ c = k + 1 := by omega
            clear HF hcut
            go_wp2_with (at_builtin; refine wpList_join _ rfl (.tmp 37) (.tmp 45) _ rfl base 5 i0 (.int .u8 0) 1 1 Tryz.underlying22 HI.out HZ0.out HZ1.out HZ2.out rfl hz _ ys.length (ys.map bv) rfl HU.out.own B (some ⟨ad.block, ad.off + (k + 1), none⟩) (k + x.toNat + 2 - (k + 1)) (c - (k + 1)) _ rfl HCUT.out (fun e => nomatch e) (bv_one _) (by unfold maxLen; omega) (by omega) hbw ?_; intro v2 w2 hown2 hg2 hat2)
            rw [show k + x.toNat + 2 - (k + 1) = x.toNat + 1 from by omega] at hown2
            have HN := Lib.hid (HU.out.litNext HX.out h7 (by rw [HL.out]; omega) (by omega) hown2 hg2 hat2)
            clear hown2 hg2 hat2
            go_roundw
            case rel => exact ⟨k + x.toNat + 2, _, _, rfl, by go_num, by omega, HN.out⟩
            case measure => simp [intOf]; omega
      · have h7' : 128 ≤ x.toNat := by omega
        by_cases h1 : n ≤ k + 1
        · have HF := Lib.hid (HU.out.one HX.out h7' (by rw [HL.out]; exact h1))
          go_wp2_with fail
          go_ret2
          rw [HF.out]
          exact ⟨_, rfl, World.ownsRow_nil _ _ _ _, HU.out.grown, .inl rfl⟩
        · obtain ⟨ad', d, hA', _, hd, hcd⟩ := LB.byte (show k + 1 < n by omega)
          obtain rfl : ad = ad' := by injection hA'
          have hd8 := byte_lt d
          rw [show ad.add (k + 1) = (⟨ad.block, ad.off + (k + 1), none⟩ : Addr) from by simp [Addr.add]] at hcd
          have HD := Lib.hid hd
          have HF := HU.out.copy HX.out h7' hd
          clear hd hA'
          by_cases h0 : d.toNat = 0 ∨ ys.length < d.toNat
          · rw [if_pos h0] at HF
            have HFF := Lib.hid HF
            clear HF
            by_cases h00 : d.toNat = 0
            · have hbe : (((d.toNat : Nat) : Int) == 0) = true := by rw [beq_iff_eq]; omega
              clear h00 h0
              go_wp2_with fail
              go_ret2
              rw [HFF.out]
              exact ⟨_, rfl, World.ownsRow_nil _ _ _ _, HU.out.grown, .inl rfl⟩
            · have hbe : (((d.toNat : Nat) : Int) == 0) = false := by rw [beq_eq_false_iff_ne]; omega
              have h01 : (ys.length : Int) < (d.toNat : Int) := by omega
              clear h00 h0
              go_wp2_with fail
              go_ret2
              rw [HFF.out]
              exact ⟨_, rfl, World.ownsRow_nil _ _ _ _, HU.out.grown, .inl rfl⟩
          · rw [if_neg h0] at HF
            have hbe : (((d.toNat : Nat) : Int) == 0) = false := by rw [beq_eq_false_iff_ne]; omega
            have h01 : (d.toNat : Int) ≤ (ys.length : Int) := by omega
            have h02 : 1 ≤ d.toNat := by omega
            have H0 := Lib.hid h0
            clear h0
            by_cases h2 : most < (ys.length : Int) + x.toNat - 125
            · rw [if_pos h2] at HF
              have HFF := Lib.hid HF
              clear HF
              go_wp2_with fail
              go_ret2
              rw [HFF.out]
              exact ⟨_, rfl, World.ownsRow_nil _ _ _ _, HU.out.grown, .inl rfl⟩
            · clear HF
              obtain ⟨N, hN⟩ : ∃ N, N = x.toNat - 125 := ⟨_, rfl⟩
              have HNN := Lib.hid hN
              have hN1 : (N : Int) = (x.toNat : Int) - 125 := by omega
              have HN1 := Lib.hid hN1
              have hN2 : N ≤ 130 := by omega
              clear hN hN1
              go_wp2_with fail
              go_loopw [6, 10] (fun v jv wr => ∃ (j : Nat) (zs : Bytes) (v2 : Value), v2 = v ∧ jv = .int .i64 (j : Int) ∧ CpAt 5 w base ys d.toNat N j zs v2 wr) (fun _ jv _ => N - (intOf jv).toNat)
              case atStart => exact ⟨0, ys, _, rfl, rfl, ⟨HU.out.own, HU.out.grown, HU.out.at_, by simp, Nat.zero_le _, rfl⟩⟩
              case round =>
                obtain ⟨j, zs, v2, rfl, rfl, hC⟩ := hrel
                have hjN := hC.le
                have hz1 : zs.length ≤ ys.length + 130 := by have := hC.len; omega
                have hz2 : ys.length ≤ zs.length := by have := hC.len; omega
                have hz3 : (d.toNat : Int) ≤ (zs.length : Int) := by omega
                by_cases hj : j < N
                · obtain ⟨y, hy⟩ := hC.get h02 (by omega)
                  obtain ⟨A2, c2, hv2, _, _, hl2, _⟩ := own_slice hC.own
                  obtain ⟨ad2, y', hA2, _, hy', hcy⟩ := hl2.byte (show zs.length - d.toNat < zs.length by omega)
                  obtain rfl : y = y' := by rw [hy] at hy'; injection hy'
                  subst hv2 hA2
                  have HY := Lib.hid hy
                  have HC := Lib.hid hC
                  have hjx : (j : Int) < (x.toNat : Int) - 125 := by have := HN1.out; omega
                  have hbz : base ≤ wr.heap.size := Nat.le_trans hbase hC.grown.size
                  clear hy hy' hC hl2
                  go_wp2_with (at_builtin; refine wpList_app _ rfl (.tmp 83) (.tmp 91) _ rfl base 5 i0 (.int .u8 0) 1 1 Tryz.underlying22 HI.out HZ0.out HZ1.out HZ2.out rfl hz _ (Value.slice (some ad2) zs.length c2).ownBlock zs.length (zs.map bv) rfl (App.own (HC.out.own.alloc _)) ⟨wr.heap.size, 0, none⟩ 1 1 [.int .u8 (y.toNat : Int)] rfl hz rfl (cell_new1 _ _ _) (one1 rfl) (by unfold maxLen; omega) (by omega) (by simp; omega) ?_; intro v3 w3 hown3 hg3 hat3)
                  have hg3' := grown_alloc hg3
                  have hat3' := hat3.alloc
                  have HCN := Lib.hid (HC.out.next hj HY.out hown3 hg3' hat3')
                  clear hown3 hg3 hat3 hg3' hat3'
                  go_roundw
                  case rel => exact ⟨j + 1, _, _, rfl, by go_num, HCN.out⟩
                  case measure => simp [intOf]; omega
                · have HZ := Lib.hid (hC.done (by omega))
                  have hjx : ¬ (j : Int) < (x.toNat : Int) - 125 := by have := HN1.out; omega
                  have HC := Lib.hid hC
                  clear hC
                  have HU2 := Lib.hid (HU.out.copyNext HX.out h7' HD.out H0.out (by omega) (by rw [HZ.out, HNN.out]) HC.out.own HC.out.grown HC.out.at_)
                  go_wp2_with fail
                  go_roundw
                  case rel => exact ⟨k + 2, _, _, rfl, by go_num, by omega, HU2.out⟩
                  case measure => simp [intOf]; omega
    · have HF := Lib.hid (HU.out.done (by rw [HL.out]; omega))
      go_wp2_with fail
      go_ret2
      rw [HF.out]
      exact ⟨_, rfl, HU.out.own, HU.out.grown, HU.out.at_⟩
end Go.Proofs.YtfbkkgfkhhibfaaGreat

/- The walk of Unpack (chapter 12): 'unpack'. -/
namespace Go.Proofs.YtfbkkgfkhhibfaaGreat
open Go Go.RowKit Iv
set_option linter.unusedVariables false
end Go.Proofs.YtfbkkgfkhhibfaaGreat

/- The walks of the two readers of a payload (chapter 13): both give 'allRecs'. -/
namespace Go.Proofs.YtfbkkgfkhhibfaaGreat
open Go Go.RowKit Iv
set_option linter.unusedVariables false
def finRecs (rs : List Rec) : Option (List Rec × Bytes) → Option (List Rec)
  | some (l, []) => some (rs ++ l)
  | _ => none
def allRecs (thread : Int) (N : Nat) (ps : Bytes) : Option (List Rec) := finRecs [] (getRecs thread N (-1) ps)
theorem fin_step {thread seq : Int} {m k : Nat} {ps : Bytes} {r : Rec} (rs : List Rec) (h : getRec ps thread seq = (r, k, 0)) : finRecs rs (getRecs thread (m + 1) seq ps) = finRecs (rs ++ [r]) (getRecs thread m r.seq (ps.drop k)) := by
  rw [getRecs, h]
  simp only [if_true]
  cases getRecs thread m r.seq (ps.drop k) with
  | none => rfl
  | some p =>
    obtain ⟨l, t⟩ := p
    cases t with
    | nil => simp [finRecs]
    | cons a b => rfl
theorem fin_bad {thread seq : Int} {m : Nat} {ps : Bytes} (rs : List Rec) (h : (getRec ps thread seq).2.2 ≠ 0) : finRecs rs (getRecs thread (m + 1) seq ps) = none := by
  rw [getRecs, if_neg h]
  rfl
theorem fin_end {thread seq : Int} {ps : Bytes} (rs : List Rec) : finRecs rs (getRecs thread 0 seq ps) = if ps.length = 0 then some rs else none := by
  cases ps with
  | nil => simp [getRecs, finRecs]
  | cons a b => simp [getRecs, finRecs]
def RecsOut (w : World) (res : Option (List Rec)) (e : Ending) (w' : World) : Prop :=
  ∃ (A : Option Addr) (n c : Nat) (rs : List Rec) (ok : Bool), e = .returned (.tuple #[.slice A n c, .bool ok]) ∧ RecsNew w' w.heap.size A n rs ∧ w.grownBy w' none ∧ n ≤ c ∧ c ≤ maxLen ∧ (A = none → c = 0) ∧ res = (if ok then some rs else none)
theorem recsOut_bad {w w' : World} {res : Option (List Rec)} (hr : res = none) (hg : w.grownBy w' none) : RecsOut w res (.returned (.tuple #[.slice none 0 0, .bool false])) w' :=
  ⟨none, 0, 0, [], false, rfl, RecsNew.nil _ _ _, hg, Nat.le_refl _, Nat.zero_le _, fun _ => rfl, hr⟩
end Go.Proofs.YtfbkkgfkhhibfaaGreat

/- The walk of Decode (chapter 13): 'decode'. -/
namespace Go.Proofs.YtfbkkgfkhhibfaaGreat
open Go Go.RowKit Iv
set_option linter.unusedVariables false
def DecOut (w : World) (d : Blk × Nat × Int) (e : Ending) (w' : World) : Prop :=
  ∃ (A : Option Addr) (n c : Nat), e = .returned (.tuple #[.agg #[.int .i64 d.1.thread, .int .i64 d.1.first, .slice A n c], .int .i64 (d.2.1 : Int), .int .i64 d.2.2]) ∧
    RecsNew w' w.heap.size A n d.1.recs ∧ w.grownBy w' none ∧ n ≤ c ∧ c ≤ maxLen ∧ (A = none → c = 0)
theorem decOut_bad {w w' : World} {d : Blk × Nat × Int} {er : Int} (hd : d = (zeroBlk, 0, er)) (hg : w.grownBy w' none) : DecOut w d (.returned (.tuple #[.agg #[.int .i64 0, .int .i64 0, .slice none 0 0], .int .i64 0, .int .i64 er])) w' := by
  subst hd
  exact ⟨none, 0, 0, rfl, RecsNew.nil _ _ _, hg, Nat.le_refl _, Nat.zero_le _, fun _ => rfl⟩
theorem stores3 {w W : World} {g : Nat} {T : TypeId} {c0 c1 c2 : Value} (h : Held W g T #[c0, c1, c2]) (hg : w.grownBy W none) (hl : w.heap.size ≤ g) (u0 u1 u2 : Value) :
    Held (((W.setCell ⟨g, 0, none⟩ u0).setCell ⟨g, 1, none⟩ u1).setCell ⟨g, 2, none⟩ u2) g T #[u0, u1, u2] ∧ w.grownBy (((W.setCell ⟨g, 0, none⟩ u0).setCell ⟨g, 1, none⟩ u1).setCell ⟨g, 2, none⟩ u2) none ∧ W.grownBy (((W.setCell ⟨g, 0, none⟩ u0).setCell ⟨g, 1, none⟩ u1).setCell ⟨g, 2, none⟩ u2) (some g) := by
  have h1 : Held (W.setCell ⟨g, 0, none⟩ u0) g T #[u0, c1, c2] := h.store 0 u0
  have h2 : Held ((W.setCell ⟨g, 0, none⟩ u0).setCell ⟨g, 1, none⟩ u1) g T #[u0, u1, c2] := h1.store 1 u1
  have h3 : Held (((W.setCell ⟨g, 0, none⟩ u0).setCell ⟨g, 1, none⟩ u1).setCell ⟨g, 2, none⟩ u2) g T #[u0, u1, u2] := h2.store 2 u2
  have g3 := grown_then (grown_then (grown_store W g 0 u0) (grown_store _ g 1 u1)) (grown_store _ g 2 u2)
  exact ⟨h3, grownBy_trans hg g3 (.inr ⟨g, rfl, hl⟩), g3⟩
def hs (b : Bytes) : Nat → Rd
  | 0 => ⟨2, 0⟩
  | k + 1 => (rdNum b (hs b k)).2
def hn (b : Bytes) (k : Nat) : Int := (rdNum b (hs b k)).1
theorem head_hs (b : Bytes) : getHead b = ⟨(hn b 0, hs b 1), (hn b 1, hs b 2), (hn b 2, hs b 3), (hn b 3, hs b 4)⟩ := rfl
theorem decode_head {b : Bytes} {x t : UInt8} {u : Bytes} (hb : b = x :: t :: u) (hx : x.toNat = 84) (he : (hs b 4).err ≠ 0) : Iv.decode b = (zeroBlk, 0, (hs b 4).err) := by
  subst hb
  unfold Iv.decode decodeBy
  rw [head_hs]
  simp only [hx, ne_eq, not_true_eq_false, if_false]
  rw [if_pos he]
theorem hs_at (b : Bytes) (h2 : 2 ≤ b.length) (k : Nat) : (hs b k).at_ ≤ b.length := by
  induction k with
  | zero => exact h2
  | succ k ih => exact (rdNum_at ih).1
def leftRecs (b : Bytes) (t : UInt8) (n : Nat) (size : Int) (from_ end_ : Nat) : Option (List Rec) :=
  if (unpack ((b.take end_).drop from_) size).2 = 0 ∧ ((unpack ((b.take end_).drop from_) size).1.length : Int) = size then allRecs t.toNat n (unpack ((b.take end_).drop from_) size).1 else none
theorem tailP_none {b : Bytes} {t : UInt8} {first : Int} {n : Nat} {size : Int} {from_ end_ : Nat} (h : leftRecs b t n size from_ end_ = none) : tailP b t first n size from_ end_ = (zeroBlk, 0, 11) := by
  unfold tailP
  unfold leftRecs at h
  dsimp only
  split
  · rename_i hc
    rw [if_pos hc] at h
    unfold allRecs finRecs at h
    split at h
    · cases h
    · rename_i hx
      split
      · rename_i l he
        exact absurd he (hx l)
      · rfl
  · rfl
theorem tailP_some {b : Bytes} {t : UInt8} {first : Int} {n : Nat} {size : Int} {from_ end_ : Nat} {l : List Rec} (h : leftRecs b t n size from_ end_ = some l) :
    tailP b t first n size from_ end_ = (if encode ⟨t.toNat, first, l⟩ = (b.take (end_ + 4), 0) then (⟨t.toNat, first, l⟩, end_ + 4, 0) else (zeroBlk, 0, 11)) ∧ l.length = n ∧ ∀ r ∈ l, RecOk r := by
  unfold leftRecs at h
  split at h
  · rename_i hc
    unfold allRecs finRecs at h
    split at h
    · rename_i l' he
      simp only [List.nil_append, Option.some.injEq] at h
      subst h
      have ho := getRecs_once (t.toNat : Int) ⟨by omega, by have := byte_lt t; omega⟩ n (-1) _ _ _ he
      refine ⟨?_, ho.1, fun r hr => (ho.2.2 r hr).1⟩
      unfold tailP
      dsimp only
      rw [if_pos hc, he]
    · cases h
  · cases h
theorem nums_ok {r : Rec} (h : RecOk r) : RecNums r := ⟨h.seq, h.thread, h.kind, h.obj, h.value, h.site, h.deps, h.from_⟩
end Go.Proofs.YtfbkkgfkhhibfaaGreat

/- The walk of the reference's reader of a payload (chapter 13). -/
namespace Go.Proofs.YtfbkkgfkhhibfaaGreat
open Go Go.RowKit Iv
set_option linter.unusedVariables false
set_option maxRecDepth 100000 in
set_option maxHeartbeats 3200000 in
theorem recordsR_any (A : Option Addr) (n c : Nat) (ps : Bytes) (N : Nat) (thread : Int) (w : World) (h : Lies w w.heap.size 1 A n (ps.map bv)) (hnc : n ≤ c) (ho : A = none → c = 0) (hn : n ≤ 260000000) (hN : N ≤ 1000000) (ht : inI64 thread) :
    Calls Tryz.prog 50 #[.slice A n c, .int .i64 thread, .int .i64 (N : Int)] w (RecsOut w (allRecs thread N ps)) := by
  have HT := Lib.hid ht
  have HL1 := Lib.hid h
  have HO1 := Lib.hid ho
  obtain ⟨i0, hi, hz0, hz1, hz2⟩ := info_parts info_rec
  have HI := Lib.hid hi
  have HZ0 := Lib.hid hz0
  have HZ1 := Lib.hid hz1
  have HZ2 := Lib.hid hz2
  have hz : (0 : Nat) < 8 := by omega
  clear hi hz0 hz1 hz2 h ht ho
  go_enter Tryz.func50, Tryz.ntmps50
  go_wp2_with fail
  go_loopw [0, 8, 9, 10] (fun pv lv sv iv wr => ∃ (k : Nat) (seq : Int) (ps' : Bytes) (Ap : Option Addr) (np cp : Nat) (rs : List Rec) (css : List Value) (vv : Value), vv = lv ∧ iv = .int .i64 (k : Int) ∧ k ≤ N ∧ sv = .int .i64 seq ∧ pv = .slice Ap np cp ∧ np ≤ cp ∧ (Ap = none → cp = 0) ∧ np ≤ 260000000 ∧
      Lies wr w.heap.size 1 Ap np (ps'.map bv) ∧ wr.ownsRow w.heap.size 54 8 vv rs.length css ∧ RowsAt wr w.heap.size vv.ownBlock css rs ∧ rs.length = k ∧ w.grownBy wr none ∧ At w none vv.ownBlock ∧ finRecs rs (getRecs thread (N - k) seq ps') = allRecs thread N ps) (fun _ _ _ iv _ => N - (intOf iv).toNat)
  case atStart => exact ⟨0, -1, ps, A, n, c, [], [], _, rfl, rfl, Nat.zero_le _, rfl, rfl, hnc, HO1.out, by omega, HL1.out, World.ownsRow_nil _ _ _ _, RowsAt.nil _ _ _, rfl, World.grownBy.refl w none, .inl rfl, rfl⟩
  case round =>
    obtain ⟨k, seq, ps', Ap, np, cp, rs, css, vv, rfl, rfl, hk, rfl, rfl, hnp, hop, hnb, hlp, hown, hrow, hrl, hg, hat, hfin⟩ := hrel
    have HFIN := Lib.hid hfin
    have HOP := Lib.hid hop
    have HLP := Lib.hid hlp
    have HRL := Lib.hid hrl
    have HLB := Lib.hid hlp.lenB
    have HG := Lib.hid hg
    clear hfin hop hrl
    by_cases hlt : k < N
    · obtain ⟨r, kk, er, hgr⟩ : ∃ r kk er, getRec ps' thread seq = (r, kk, er) := ⟨_, _, _, rfl⟩
      have CR := Lib.hid (readR_parts Ap np cp w.heap.size ps' thread seq wr HLP.out hg.size hnp HOP.out (by omega) hgr)
      unfold recV at CR
      have HGR := Lib.hid hgr
      have HSUB : Hid (N - k = (N - (k + 1)) + 1) := Lib.hid (by omega)
      by_cases her : er = 0
      · subst her
        have ho := getRec_once HT.out hgr
        have hkk : kk ≤ np := by rw [← HLB.out]; exact ho.2.2.2.2.1
        have HFN := Lib.hid (show finRecs (rs ++ [r]) (getRecs thread (N - (k + 1)) r.seq (ps'.drop kk)) = allRecs thread N ps from by rw [← HFIN.out, HSUB.out, fin_step rs HGR.out])
        obtain ⟨A', hA'⟩ : ∃ A', (if cp = kk then Ap else Ap.map fun x => x.add kk) = A' := ⟨_, rfl⟩
        have hcut : Lies wr w.heap.size 1 A' (np - kk) ((ps'.drop kk).map bv) := by
          have := hlp.dropIf hkk hnp
          rw [Nat.mul_one, ← List.map_drop, hA'] at this
          exact this
        have hA'0 : A' = none → cp - kk = 0 := by
          intro e0
          rw [← hA'] at e0
          split at e0
          · omega
          · simp only [Option.map_eq_none_iff] at e0
            have := HOP.out e0
            omega
        obtain ⟨Av, cv, hvv, hvn, hvm, _, hvo⟩ := own_slice hown
        have hlt0 : ∀ g, vv.ownBlock = some g → g < wr.heap.size := fun g e => (hown.lt g e).2
        have hw1r : w.heap.size ≤ wr.heap.size := hg.size
        have HCUT := Lib.hid hcut
        have HA0 := Lib.hid hA'0
        have HOWN := Lib.hid hown
        have HROW := Lib.hid hrow
        have HLT0 := Lib.hid hlt0
        have HVO := Lib.hid hvo
        have k1 : (0 : Int) ≤ (kk : Int) := by omega
        have k2 : (kk : Int) ≤ (np : Int) := by omega
        have k3 : (kk : Int) ≤ (cp : Int) := by omega
        clear ho hgr hlp hown hrow hcut hA'0 hlt0 hvo
        subst hvv
        go_upto_region 6 with fail
        go_wp2_with fail
        refine CR.out.mono ?_
        rintro e w2 ⟨Ad, cd, Af, cf, rfl, hd2, hf2, hg2⟩
        obtain ⟨W2, hW2⟩ : ∃ W2, W2 = w2.alloc (.cells #[.int .i64 r.seq, .int .i64 r.ev.thread, .int .i64 r.ev.kind, .int .i64 r.ev.obj, .int .i64 r.ev.value, .int .i64 r.ev.site, .slice Ad r.ev.deps.length cd, .slice Af r.ev.from_.length cf] 54) := ⟨_, rfl⟩
        have hg12 : w2.grownBy W2 none := by rw [hW2]; exact World.grownBy_alloc w2 _ none
        have hb2 : Held W2 w2.heap.size 54 (recV r Ad r.ev.deps.length cd Af r.ev.from_.length cf) := by rw [hW2]; exact Held.new _ _ _
        have hgr2 := grownBy_trans hg2 hg12 (.inl rfl)
        have HB2 := Lib.hid hb2
        have HW2 := Lib.hid hW2
        have HOW2 := Lib.hid (own_keep HOWN.out hgr2 (fun _ _ e => nomatch e))
        have HRO2 := Lib.hid (HROW.out.keep hgr2)
        have HOD := Lib.hid (Off.ofOwn hd2 HLT0.out)
        have HLOD := Lib.hid (Lo.ofOwn hd2 hw1r)
        have HLOF := Lib.hid (Lo.ofOwn hf2 hw1r)
        have HOF := Lib.hid (Off.ofOwn hf2 HLT0.out)
        have HLD := Lib.hid (((Lies.ofOwn hd2).grown hg12 (Nat.le_refl _) (fun _ e => nomatch e)).more hg12.size)
        have HLF := Lib.hid (((Lies.ofOwn hf2).grown hg12 (Nat.le_refl _) (fun _ e => nomatch e)).more hg12.size)
        have HGR2 := Lib.hid hgr2
        have hsz : wr.heap.size ≤ w2.heap.size := hg2.size
        have hsz2 : w.heap.size ≤ W2.heap.size := Nat.le_trans hw1r hgr2.size
        have HSZ := Lib.hid hb2.lt
        clear hW2 hb2 hd2 hf2 hg12 hgr2
        go_upto_region 7 with fail
        rw [show w2.alloc (.cells #[.int .i64 r.seq, .int .i64 r.ev.thread, .int .i64 r.ev.kind, .int .i64 r.ev.obj, .int .i64 r.ev.value, .int .i64 r.ev.site, .slice Ad r.ev.deps.length cd, .slice Af r.ev.from_.length cf] 54) = W2 from HW2.out.symm]
        obtain ⟨d0, d1, d2, d3, d4, d5, d6, d7⟩ := cells8 HB2.out
        go_wp2_with (at_builtin; refine wpList_app _ rfl (.tmp 31) (.tmp 33) _ rfl w.heap.size 54 i0 _ 8 96 Tryz.underlying48 HI.out HZ0.out HZ1.out HZ2.out rfl hz _ (Value.slice Av rs.length cv).ownBlock rs.length css rfl (App.own (HOW2.out.alloc _)) ⟨W2.heap.size, 0, none⟩ 1 1 (recV r Ad r.ev.deps.length cd Af r.ev.from_.length cf).toList rfl (by omega) rfl (recV_new W2 _ r Ad _ cd Af _ cf) (recV_one _ _ _ _ _ _ _) (by unfold maxLen; have := HRL.out; omega) (by have := HRL.out; omega) (by simp; omega) ?_; intro v4 w4 hown4 hg4 hat4; obtain ⟨A4, c4, hv4, hvn4, hvm4, _, hvo4⟩ := own_slice hown4; have hd0 : w4.cell? ⟨w2.heap.size, 0, none⟩ = some (.int .i64 r.seq) := (((HB2.out.alloc _).grown hg4 (fun e => by have := HLT0.out _ e.symm; omega)).cell 0); subst hv4)
        have hg14 : wr.grownBy w4 (Value.slice Av rs.length cv).ownBlock := grownBy_trans (grownBy_trans (grown_anyRow HGR2.out _) (World.grownBy_alloc W2 _ _) (.inl rfl)) hg4 (.inl rfl)
        have hat14 : At wr (Value.slice Av rs.length cv).ownBlock (Value.slice A4 (rs.length + 1) c4).ownBlock := (At.refl wr _).trans hat4 (by have := HGR2.out.size; simp; omega)
        have hRO4 := ((RowsAt.snoc (cd := cd) (cf := cf) (HRO2.out.keep (World.grownBy_alloc W2 (.cells (recV r Ad r.ev.deps.length cd Af r.ev.from_.length cf) 54) none)) ((HLD.out.allocAny _).more (World.grownBy_alloc W2 _ none).size) ((HLF.out.allocAny _).more (World.grownBy_alloc W2 _ none).size) HOD.out HOF.out HLOD.out HLOF.out)).grow hg4 hat4
        have HRO4 := Lib.hid hRO4
        have HOW4 := Lib.hid hown4
        have HLP4 := Lib.hid (HCUT.out.grown hg14 hw1r (fun g e => (HOWN.out.lt g e).1))
        have HG4 := Lib.hid (grownBy_trans hg hg14 hat)
        have HAT4 := Lib.hid (hat.trans hat14 hg.size)
        clear hown4 hRO4 hg14 hat14 hg4 hat4
        go_roundw
        case rel => exact ⟨k + 1, r.seq, ps'.drop kk, A', np - kk, cp - kk, rs ++ [r], _, _, rfl, by go_num, by omega, rfl, rfl, by omega, HA0.out, by omega, HLP4.out, by rw [List.length_append]; exact HOW4.out, HRO4.out, by rw [List.length_append, HRL.out]; rfl, HG4.out, HAT4.out, HFN.out⟩
        case measure => simp [intOf]; omega
      · have HNONE := Lib.hid (show allRecs thread N ps = none from by rw [← HFIN.out, HSUB.out, fin_bad rs (by rw [HGR.out]; exact her)])
        have hbe : (er != 0) = true := by rw [bne_iff_ne]; exact her
        clear her hgr hown hrow hlp
        go_wp2_with fail
        refine CR.out.mono ?_
        rintro e w2 ⟨Ad, cd, Af, cf, rfl, hd2, hf2, hg2⟩
        clear hd2 hf2
        go_wp2_with fail
        go_ret2
        exact recsOut_bad HNONE.out (grownBy_trans (grownBy_trans HG.out hg2 (.inl rfl)) (World.grownBy_alloc w2 _ none) (.inl rfl))
    · have hkN : k = N := by omega
      have HKN := Lib.hid hkN
      have HEND := Lib.hid (show allRecs thread N ps = if np = 0 then some rs else none from by rw [← HFIN.out, HKN.out, Nat.sub_self, fin_end, HLB.out])
      have HRR := Lib.hid hrow
      have HOW := Lib.hid hown
      clear hkN hlp hrow
      obtain ⟨A5, c5, hv5, hnc5, hcm5, hl5, ho5⟩ := own_slice hown
      subst hv5
      clear hown hl5
      go_wp2_with fail
      go_ret2
      refine ⟨A5, rs.length, c5, rs, ((np : Int) == 0), rfl, HRR.out.recs HOW.out rfl (Nat.le_refl _), HG.out, hnc5, hcm5, ho5, ?_⟩
      rw [HEND.out]
      by_cases h0 : np = 0 <;> simp [h0]
end Go.Proofs.YtfbkkgfkhhibfaaGreat
