/- The walk of the closure of good (chapter 15): it hands its good blocks to yield. -/
import Derived.Test.YtlofjhcjjcohfaaBrow
import Derived.Test.YtlofjhcjjcohfaaDec
import Derived.Test.YtlofjhcjjcohfaaLaw13d
import Derived.RangeFuncNested
import Derived.RangeFuncBound
import Derived.RangeFuncCalls
import Derived.RangeFuncLeaves
import Derived.Shelf.Abstract
import Derived.Shelf.RegionOpen
import Derived.OwnWalkIn
import Derived.TacticsInMore
import Derived.LoopNIn
import Derived.LoopIn
namespace Go.Proofs.Ytlofjhcjjcohfaa
open Go Go.RowKit Go.Shelf Iv
attribute [local go_sem] Oper.semAt_some
set_option linter.unusedVariables false

/-- What a round keeps for the closure: its two cells and whatever lies below B. -/
structure Kept (B gb gt : Nat) (w w' : World) : Prop where
  size : w.heap.size ≤ w'.heap.size
  b : w'.heap[gb]? = w.heap[gb]?
  t : w'.heap[gt]? = w.heap[gt]?
  low : ∀ k, k < B → w'.heap[k]? = w.heap[k]?
theorem Kept.lies {B gb gt sz n : Nat} {w w' : World} {A : Option Addr} {xs : List Value} (h : Kept B gb gt w w') (hl : Lies w B sz A n xs) : Lies w' B sz A n xs :=
  hl.same fun p hp => World.cell?_of_block (h.low p.block hp)

/-- How long the slice in a cell is. -/
def lenIn (w : World) (g : Nat) : Nat := match w.cell? ⟨g, 0, none⟩ with | some (.slice _ n _) => n | _ => 0
theorem lenIn_eq {w : World} {g n c : Nat} {A : Option Addr} {t : TypeId} (h : Held w g t #[.slice A n c]) : lenIn w g = n := by
  unfold lenIn
  rw [show w.cell? ⟨g, 0, none⟩ = some (.slice A n c) from h.cell 0]

theorem recs_store {w : World} {lo n g : Nat} {A : Option Addr} {rs : List Rec} (h : RecsNew w lo A n rs) (hg : g < lo) (v : Value) : RecsNew (w.setCell ⟨g, 0, none⟩ v) lo A n rs :=
  (((h.off (o := some g) (fun x e => by cases e; exact hg)).grow (o' := some g) (grown_store w g 0 v) (.inl rfl)).new)

set_option maxRecDepth 100000 in
set_option maxHeartbeats 3200000 in
theorem good1_in (n : Nat) (hn : 1 ≤ n) (l gb gt : Nat) (A : Option Addr) (nb c B : Nat) (xs : Bytes) (th : Int) (w : World)
    (h : Lies w B 1 A nb (xs.map bv)) (hB : B ≤ gb) (hne : gb ≠ gt) (hnc : nb ≤ c) (hcm : c ≤ maxLen) (ho : A = none → c = 0) (hn6 : nb ≤ 1000000)
    (hgb : Held w gb 27 #[.slice A nb c]) (hgt : Held w gt 3 #[.int .i64 th])
    (J : List (Blk × Nat) → World → Prop) (hJ : ∀ p W W', J p W → W.grownBy W' (some gb) → J p W') (h0 : J [] w)
    (hY : ∀ pre x k (W0 W : World) (A' : Option Addr) (n' c' : Nat), J pre W0 → W0.grownBy W (some gb) → RecsNew W W0.heap.size A' n' x.recs → n' ≤ c' → c' ≤ maxLen → (A' = none → c' = 0) → pre.length ≤ sizeB pre → sizeB pre + k ≤ nb →
      YieldAt Fence.wide (n - 1) Try.prog l #[.agg #[.int .i64 x.thread, .int .i64 x.first, .slice A' n' c'], .int .i64 (k : Int)] W fun e W' => e = .returned (.bool true) ∧ J (pre ++ [(x, k)]) W' ∧ Kept B gb gt W W') :
    CallsIn Fence.wide n Try.prog 76 #[.func (.yield l) #[] #[], .pointer (some ⟨gb, 0, none⟩), .pointer (some ⟨gt, 0, none⟩)] w fun e w' => (∃ v, e = .returned v) ∧ J (blocksAll th xs 0 (-1)) w' := by
  have HLN := Lib.hid h.lenB
  have HNE := Lib.hid hne
  have HJ := Lib.hid hJ
  have HY := Lib.hid hY
  have hn1 : 1 ≤ n - 1 + 1 := by omega
  unfold maxLen at hcm
  have hst : ∃ (k : Nat) (rc la : Int) (done : List (Blk × Nat)) (Ab : Option Addr) (cb : Nat), Value.int .i64 0 = .int .i64 rc ∧ Value.int .i64 (-1) = .int .i64 la ∧ k ≤ nb ∧ (0 ≤ rc ∧ rc ≤ 1000) ∧ inI64 la ∧ Held w gb 27 #[.slice Ab (nb - k) cb] ∧ Held w gt 3 #[.int .i64 th] ∧ Lies w B 1 Ab (nb - k) ((xs.drop k).map bv) ∧ nb - k ≤ cb ∧ cb ≤ maxLen ∧ (Ab = none → cb = 0) ∧ J done w ∧ done ++ blocksAll th (xs.drop k) rc la = blocksAll th xs 0 (-1) ∧ sizeB done = k ∧ done.length ≤ k :=
    ⟨0, 0, -1, [], A, c, rfl, rfl, Nat.zero_le _, ⟨by omega, by omega⟩, ⟨by omega, by omega⟩, hgb, hgt, h, hnc, by unfold maxLen; omega, ho, h0, rfl, rfl, Nat.le_refl _⟩
  have HST := Lib.hid hst
  clear h ho hJ hY h0 hgb hgt hst hne
  refine callsIn_of_wp Try.func76 rfl trivial ?_ rfl
  simp only [Try.ntmps76, List.size_toArray, List.length_cons, List.length_nil, Nat.reduceAdd, Nat.reduceSub, Array.replicate_succ, Array.replicate_zero, List.push_toArray, List.append_toArray, List.nil_append, List.cons_append]
  gi_wp2_with fail
  gi_loopw [4, 5] (fun cv qv wr => ∃ (k : Nat) (rc la : Int) (done : List (Blk × Nat)) (Ab : Option Addr) (cb : Nat), cv = .int .i64 rc ∧ qv = .int .i64 la ∧ k ≤ nb ∧ (0 ≤ rc ∧ rc ≤ 1000) ∧ inI64 la ∧ Held wr gb 27 #[.slice Ab (nb - k) cb] ∧ Held wr gt 3 #[.int .i64 th] ∧ Lies wr B 1 Ab (nb - k) ((xs.drop k).map bv) ∧ nb - k ≤ cb ∧ cb ≤ maxLen ∧ (Ab = none → cb = 0) ∧ J done wr ∧ done ++ blocksAll th (xs.drop k) rc la = blocksAll th xs 0 (-1) ∧ sizeB done = k ∧ done.length ≤ k) (fun _ _ wr => lenIn wr gb)
  case atStart => exact HST.out
  case round =>
    obtain ⟨k, rc, la, done, Ab, cb, rfl, rfl, hk, ⟨hr0, hr1⟩, hla, hgb, hgt, hl, hnc2, hcm2, ho2, hJd, hall, hsz, hdl⟩ := hrel
    obtain ⟨d, hd⟩ : ∃ d, d = Iv.decode (xs.drop k) := ⟨_, rfl⟩
    have CD := Lib.hid (decodeP_any Ab (nb - k) cb B (xs.drop k) wr hl (by have := hgb.lt; omega) hnc2 hcm2 ho2 (by omega))
    rw [← hd] at CD
    have HD := Lib.hid hd
    have HL := Lib.hid hl
    have HLA := Lib.hid hla
    have HO2 := Lib.hid ho2
    have HGB := Lib.hid hgb
    have HGT := Lib.hid hgt
    have HJD := Lib.hid hJd
    have HALL := Lib.hid hall
    have HSZ := Lib.hid hsz
    have xb : wr.cell? ⟨gb, 0, none⟩ = some (.slice Ab (nb - k) cb) := hgb.cell 0
    unfold maxLen at hcm2
    clear hd hl hla ho2 hgb hgt hJd hall hsz
    gi_wp2_with fail
    refine ⟨trivial, ?_⟩
    refine (callsIn_wide.2 CD.out).mono ?_
    rintro e w2 ⟨A2, n2, c2, rfl, hrec2, hg2, hnc3, hcm3, ho3⟩
    obtain ⟨⟨th2, fi, rs⟩, sz, er⟩ := d
    dsimp only at hrec2 ⊢
    have hww : wr.heap.size ≤ w2.heap.size := hg2.size
    obtain ⟨W2, hW2⟩ : ∃ W2, W2 = w2.alloc (.cells #[.int .i64 th2, .int .i64 fi, .slice A2 n2 c2] 38) := ⟨_, rfl⟩
    have hg12 : w2.grownBy W2 none := by rw [hW2]; exact World.grownBy_alloc w2 _ none
    have hGR2 := grownBy_trans hg2 hg12 (.inl rfl)
    have HREC := Lib.hid (hrec2.keep hg12 (fun _ e => nomatch e))
    have HGR2 := Lib.hid hGR2
    have hgb2 := HGB.out.grown hGR2 (fun e => nomatch e)
    have hgt2 := HGT.out.grown hGR2 (fun e => nomatch e)
    have hlt2 : gb < wr.heap.size := HGB.out.lt
    have hltt : gt < wr.heap.size := HGT.out.lt
    have xt : W2.cell? ⟨gt, 0, none⟩ = some (.int .i64 th) := hgt2.cell 0
    have xb2 : W2.cell? ⟨gb, 0, none⟩ = some (.slice Ab (nb - k) cb) := hgb2.cell 0
    have xf : W2.frozen? ⟨gb, 0, none⟩ = false := hgb2.free 0
    have HGB2 := Lib.hid hgb2
    have HGT2 := Lib.hid hgt2
    have HW2 := Lib.hid hW2
    rw [hW2] at xt xb2 xf
    have hfin : ∀ W', W2.grownBy W' none → blocksAll th (xs.drop k) rc la = [] → (∃ v, Ending.returned (Value.tuple #[]) = .returned v) ∧ J (blocksAll th xs 0 (-1)) W' := by
      intro W' hg' hnil
      have hg3 := grownBy_trans HGR2.out hg' (.inl rfl)
      rw [← HALL.out, hnil, List.append_nil]
      exact ⟨⟨_, rfl⟩, HJ.out _ _ _ HJD.out (grown_anyRow hg3 _)⟩
    have HFIN := Lib.hid hfin
    clear xb hW2 hg2 hg12 hGR2 hgb2 hgt2 hfin hrec2
    by_cases he : er = 0
    · subst he
      by_cases ht : th2 = th
      · subst ht
        by_cases hf : fi = rc
        · subst hf
          obtain ⟨f0, fk, fl, fp⟩ := decode_good HD.out.symm
          obtain ⟨z0, z1, z2, z3, z4, z5, z6⟩ := fits_zero f0
          have hln : rs.length = n2 := HREC.out.1
          dsimp only at z0 z1 z4 z5
          have hdl2 : (xs.drop k).length = nb - k := by rw [List.length_drop, HLN.out]
          obtain ⟨r0, hr0'⟩ : ∃ r0, rs[0]? = some r0 := ⟨rs[0], List.getElem?_eq_getElem z0⟩
          obtain ⟨m, hm⟩ : ∃ m, n2 = m + 1 := ⟨n2 - 1, by omega⟩
          obtain ⟨rl, hrl⟩ : ∃ rl, rs[m]? = some rl := ⟨rs[m], List.getElem?_eq_getElem (by omega)⟩
          obtain ⟨b, o, _, _, _, _, _, _, rfl, q0⟩ := HREC.out.2 0 r0 hr0'
          obtain ⟨b', o', _, _, _, _, _, _, eA, ql⟩ := HREC.out.2 m rl hrl
          injection eA with eA
          injection eA with eA1 eA2
          subst eA1 eA2
          have y0 : W2.cell? ⟨b, o, none⟩ = some (.int .i64 r0.seq) := by have := q0.cells 0 (.int .i64 r0.seq) rfl; simpa using this
          have yl : W2.cell? ⟨b, o + m * 8, none⟩ = some (.int .i64 rl.seq) := by have := ql.cells 0 (.int .i64 rl.seq) rfl; simpa using this
          rw [HW2.out] at y0 yl
          have i0 : (n2 == 0) = false := by simp; omega
          have i1 : (0 : Int) < (n2 : Int) := by omega
          have i4 : ((n2 : Int) == 0) = false := by simp; omega
          obtain ⟨rs', hrs⟩ : ∃ rs', rs = r0 :: rs' := by
            cases rs with
            | nil => simp at hr0'
            | cons a l => simp at hr0'; exact ⟨l, by rw [hr0']⟩
          have HGB' : Hid (goodB th2 fi la (Iv.decode (xs.drop k)) = decide (la < r0.seq)) := Lib.hid (by rw [← HD.out]; unfold goodB; rw [hrs]; simp)
          by_cases hq : r0.seq ≤ la
          · have HNIL := Lib.hid (show blocksAll th2 (xs.drop k) fi la = [] from blocksAll_bad (by rw [HGB'.out]; exact decide_eq_false (by omega)))
            clear hrs fp fk fl f0 hr0' hrl hm hln
            gi_wp2_with fail
            refine bodyPost_ret (results_none rfl _ _ _) rfl ?_
            exact HFIN.out _ (by rw [HW2.out]; exact World.grownBy.refl _ none) HNIL.out
          · have HGOOD := Lib.hid (blocksAll_good (th := th2) (recs := fi) (last := la) (b := xs.drop k) (by rw [HGB'.out]; exact decide_eq_true (by omega)))
            have HLS : Hid (lastSeq (⟨th2, fi, rs⟩ : Blk) la = rl.seq) := Lib.hid (by
              unfold lastSeq
              dsimp only
              rw [List.getLast?_eq_getElem?, show rs.length - 1 = m by omega, hrl])
            have HRLI := Lib.hid ((decode_ok (xs.drop k)).1 rl (by rw [← HD.out]; exact List.mem_of_getElem? hrl)).seq
            have hszn : sz ≤ nb - k := by omega
            have HB00 := Lib.hid (show 0 ≤ fi + (n2 : Int) ∧ fi + (n2 : Int) ≤ 1000 by omega)
            have hsp : 0 < sz := fp
            have hmm : (n2 : Int) - 1 = (m : Int) := by omega
            have hkz : k + sz ≤ nb := by omega
            have hw1 : IntKind.i64.wrap (fi + (n2 : Int)) = fi + (n2 : Int) := IntWalk.i64_in _ (by omega)
            have hwm : IntKind.i64.wrap (m : Int) = (m : Int) := IntWalk.i64_in _ (by omega)
            have i2 : (0 : Int) ≤ (m : Int) := by omega
            have i3 : (m : Int) < (n2 : Int) := by omega
            have j1 : (0 : Int) ≤ (sz : Int) := by omega
            have j2 : (sz : Int) ≤ ((nb - k : Nat) : Int) := by omega
            have j3 : (sz : Int) ≤ (cb : Int) := by omega
            clear hrs fk fl f0 hr0' hrl hm hln
            by_cases hcs : sz = cb
            · subst hcs
              obtain ⟨W3, hW3⟩ : ∃ W3, W3 = W2.setCell ⟨gb, 0, none⟩ (Value.slice Ab 0 0) := ⟨_, rfl⟩
              have hg3 : wr.grownBy W3 (some gb) := by rw [hW3]; exact grownBy_trans (grown_anyRow HGR2.out _) (grown_store W2 gb 0 _) (.inl rfl)
              have hb3 : Held W3 gb 27 #[Value.slice Ab 0 0] := by rw [hW3]; exact HGB2.out.store 0 _
              have ht3 : Held W3 gt 3 #[.int .i64 th2] := by rw [hW3]; exact HGT2.out.far (fun e => HNE.out e.symm) _
              have hr3 : RecsNew W3 wr.heap.size (some ⟨b, o, none⟩) n2 rs := by rw [hW3]; exact recs_store HREC.out hlt2 _
              have hyy := HY.out done ⟨th2, fi, rs⟩ sz wr W3 (some ⟨b, o, none⟩) n2 c2 HJD.out hg3 hr3 hnc3 hcm3 ho3 (by rw [HSZ.out]; exact hdl) (by rw [HSZ.out]; exact hkz)
              obtain ⟨fn, tmps, assign, body, hy, hR⟩ := hyy
              dsimp only at hy
              have hl3 : Lies W3 B 1 (Ab) (nb - k - sz) (((xs.drop k).map bv).drop (sz * 1)) := (by have := HL.out.dropIf (k := sz) hszn hnc2; rw [if_pos rfl] at this; simpa using this : Lies wr B 1 (Ab) (nb - k - sz) (((xs.drop k).map bv).drop (sz * 1))).grown hg3 (by omega) (fun g e => by cases e; exact hB)
              have HB3 := Lib.hid hb3
              have HT3 := Lib.hid ht3
              have HL3 := Lib.hid hl3
              rw [hW3, HW2.out] at hy
              have HW3 := Lib.hid hW3
              have HRR := Lib.hid hR
              clear hW3 hb3 ht3 hl3 hr3 hR hg3
              gi_wp2_with fail
              have hR := HRR.out
              rw [HW3.out, HW2.out] at hR
              refine hR.mono ?_
              rintro e W4 ⟨rfl, hJ4, hK4⟩
              have hK4' : Kept B gb gt W3 W4 := by rw [HW3.out, HW2.out]; exact hK4
              have HJ4 := Lib.hid hJ4
              have HK4 := Lib.hid hK4'
              clear hJ4 hK4 hK4' hy hR
              gi_wp2_with fail
              go_roundw
              case rel => exact ⟨k + sz, fi + (n2 : Int), rl.seq, done ++ [(⟨th2, fi, rs⟩, sz)], Ab, 0, rfl, rfl, hkz, HB00.out, HRLI.out, (HK4.out.b.trans (by rw [show nb - (k + sz) = 0 by omega]; exact HB3.out)), HK4.out.t.trans HT3.out, by
                have := HK4.out.lies HL3.out
                rw [Nat.mul_one, ← List.map_drop, List.drop_drop] at this
                rw [show nb - (k + sz) = nb - k - sz by omega]
                exact this, by omega, by unfold maxLen; omega, fun e => rfl, HJ4.out, by
                rw [← HALL.out, HGOOD.out, ← HD.out, List.append_assoc]
                dsimp only
                rw [HLS.out, List.drop_drop, HREC.out.1]
                rfl, by unfold sizeB at HSZ ⊢; rw [List.map_append, List.sum_append, HSZ.out]; simp, by rw [List.length_append]; simp; omega⟩
              case measure =>
                rw [lenIn_eq (HK4.out.b.trans HB3.out), lenIn_eq HGB.out]
                omega
            · have hcs' : ¬ (cb : Int) = (sz : Int) := by omega
              obtain ⟨W3, hW3⟩ : ∃ W3 : World, W3 = W3 := ⟨w, rfl⟩
              clear hW3 W3
              obtain ⟨W3, hW3⟩ : ∃ W3, W3 = W2.setCell ⟨gb, 0, none⟩ (Value.slice (Ab.map fun x => x.add sz) (nb - k - sz) (cb - sz)) := ⟨_, rfl⟩
              have hg3 : wr.grownBy W3 (some gb) := by rw [hW3]; exact grownBy_trans (grown_anyRow HGR2.out _) (grown_store W2 gb 0 _) (.inl rfl)
              have hb3 : Held W3 gb 27 #[Value.slice (Ab.map fun x => x.add sz) (nb - k - sz) (cb - sz)] := by rw [hW3]; exact HGB2.out.store 0 _
              have ht3 : Held W3 gt 3 #[.int .i64 th2] := by rw [hW3]; exact HGT2.out.far (fun e => HNE.out e.symm) _
              have hr3 : RecsNew W3 wr.heap.size (some ⟨b, o, none⟩) n2 rs := by rw [hW3]; exact recs_store HREC.out hlt2 _
              have hyy := HY.out done ⟨th2, fi, rs⟩ sz wr W3 (some ⟨b, o, none⟩) n2 c2 HJD.out hg3 hr3 hnc3 hcm3 ho3 (by rw [HSZ.out]; exact hdl) (by rw [HSZ.out]; exact hkz)
              obtain ⟨fn, tmps, assign, body, hy, hR⟩ := hyy
              dsimp only at hy
              have hl3 : Lies W3 B 1 (Ab.map fun x => x.add sz) (nb - k - sz) (((xs.drop k).map bv).drop (sz * 1)) := (by have := HL.out.dropIf (k := sz) hszn hnc2; rw [if_neg (fun e => hcs e.symm)] at this; simpa using this : Lies wr B 1 (Ab.map fun x => x.add sz) (nb - k - sz) (((xs.drop k).map bv).drop (sz * 1))).grown hg3 (by omega) (fun g e => by cases e; exact hB)
              have HB3 := Lib.hid hb3
              have HT3 := Lib.hid ht3
              have HL3 := Lib.hid hl3
              rw [hW3, HW2.out] at hy
              have HW3 := Lib.hid hW3
              have HRR := Lib.hid hR
              clear hW3 hb3 ht3 hl3 hr3 hR hg3
              gi_wp2_with fail
              have hR := HRR.out
              rw [HW3.out, HW2.out] at hR
              refine hR.mono ?_
              rintro e W4 ⟨rfl, hJ4, hK4⟩
              have hK4' : Kept B gb gt W3 W4 := by rw [HW3.out, HW2.out]; exact hK4
              have HJ4 := Lib.hid hJ4
              have HK4 := Lib.hid hK4'
              clear hJ4 hK4 hK4' hy hR
              gi_wp2_with fail
              go_roundw
              case rel => exact ⟨k + sz, fi + (n2 : Int), rl.seq, done ++ [(⟨th2, fi, rs⟩, sz)], Ab.map fun x => x.add sz, cb - sz, rfl, rfl, hkz, HB00.out, HRLI.out, (HK4.out.b.trans (by rw [show nb - (k + sz) = nb - k - sz by omega]; exact HB3.out)), HK4.out.t.trans HT3.out, by
                have := HK4.out.lies HL3.out
                rw [Nat.mul_one, ← List.map_drop, List.drop_drop] at this
                rw [show nb - (k + sz) = nb - k - sz by omega]
                exact this, by omega, by unfold maxLen; omega, fun e => by have := HO2.out (by simpa using e); omega, HJ4.out, by
                rw [← HALL.out, HGOOD.out, ← HD.out, List.append_assoc]
                dsimp only
                rw [HLS.out, List.drop_drop, HREC.out.1]
                rfl, by unfold sizeB at HSZ ⊢; rw [List.map_append, List.sum_append, HSZ.out]; simp, by rw [List.length_append]; simp; omega⟩
              case measure =>
                rw [lenIn_eq (HK4.out.b.trans HB3.out), lenIn_eq HGB.out]
                omega
        · have hbf : (fi != rc) = true := by rw [bne_iff_ne]; exact hf
          have HNIL := Lib.hid (show blocksAll th2 (xs.drop k) rc la = [] from blocksAll_bad (by rw [← HD.out]; unfold goodB; simp [hf]))
          clear hf
          gi_wp2_with fail
          refine bodyPost_ret (results_none rfl _ _ _) rfl ?_
          exact HFIN.out _ (by rw [HW2.out]; exact World.grownBy.refl _ none) HNIL.out
      · have hbt : (th2 != th) = true := by rw [bne_iff_ne]; exact ht
        have HNIL := Lib.hid (show blocksAll th (xs.drop k) rc la = [] from blocksAll_bad (by rw [← HD.out]; unfold goodB; simp [ht]))
        clear ht
        gi_wp2_with fail
        refine bodyPost_ret (results_none rfl _ _ _) rfl ?_
        exact HFIN.out _ (by rw [HW2.out]; exact World.grownBy.refl _ none) HNIL.out
    · have HNIL := Lib.hid (show blocksAll th (xs.drop k) rc la = [] from blocksAll_bad (by rw [← HD.out]; unfold goodB; simp [he]))
      have hbe : (er != 0) = true := by rw [bne_iff_ne]; exact he
      clear he
      gi_wp2_with fail
      refine bodyPost_ret (results_none rfl _ _ _) rfl ?_
      exact HFIN.out _ (by rw [HW2.out]; exact World.grownBy.refl _ none) HNIL.out
end Go.Proofs.Ytlofjhcjjcohfaa
