/- The walks of 'same' and BlockReads. -/
import Derived.Test.YtlofjhcjjcohfaaDecR
import Derived.Test.YtlofjhcjjcohfaaAw13
namespace Go.Proofs.Ytlofjhcjjcohfaa
open Go Go.RowKit Iv
set_option linter.unusedVariables false

theorem tailP_ok (b : Bytes) (t : UInt8) (first : Int) (n : Nat) (size : Int) (from_ end_ : Nat) : (∀ r ∈ (tailP b t first n size from_ end_).1.recs, RecOk r) ∧ (tailP b t first n size from_ end_).1.recs.length ≤ n := by
  cases h : leftRecs b t n size from_ end_ with
  | none => rw [tailP_none h]; exact ⟨fun r hr => by simp [zeroBlk] at hr, by simp [zeroBlk]⟩
  | some l =>
    obtain ⟨h1, h2, h3⟩ := tailP_some (first := first) h
    rw [h1]
    split
    · exact ⟨h3, Nat.le_of_eq h2⟩
    · exact ⟨fun r hr => by simp [zeroBlk] at hr, by simp [zeroBlk]⟩
theorem decode_ok (b : Bytes) : (∀ r ∈ (Iv.decode b).1.recs, RecOk r) ∧ (Iv.decode b).1.recs.length ≤ 64 := by
  have hz : (∀ r ∈ zeroBlk.recs, RecOk r) ∧ zeroBlk.recs.length ≤ 64 := ⟨fun r hr => by simp [zeroBlk] at hr, by simp [zeroBlk]⟩
  unfold Iv.decode decodeBy
  split
  · exact hz
  · split
    · exact hz
    · split
      · exact hz
      · split
        · exact hz
        · split
          · exact hz
          · rename_i hb
            split
            · exact hz
            · split
              · exact hz
              · have h1 := headBad_false (by simpa using hb)
                exact ⟨(tailP_ok _ _ _ _ _ _ _).1, Nat.le_trans (tailP_ok _ _ _ _ _ _ _).2 (by omega)⟩

set_option maxRecDepth 100000 in
set_option maxHeartbeats 3200000 in
theorem same13_yes (x : Blk) (A : Option Addr) (n c : Nat) (A' : Option Addr) (n' c' : Nat) (B : Nat) (w : World) (h : Recs w B A n x.recs) (h' : Recs w B A' n' x.recs) (hB : B ≤ w.heap.size) (hr : ∀ r ∈ x.recs, RecOk r) (hn : n ≤ 1000000) :
    Calls Try.prog 26 #[.agg #[.int .i64 x.thread, .int .i64 x.first, .slice A n c], .agg #[.int .i64 x.thread, .int .i64 x.first, .slice A' n' c']] w fun e w' => e = .returned (.bool true) ∧ w.grownBy w' none := by
  have hnn : n' = n := by rw [← h.1, ← h'.1]
  subst hnn
  obtain ⟨W, hW⟩ : ∃ W, W = (w.alloc (.cells #[.int .i64 x.thread, .int .i64 x.first, .slice A n' c] 38)).alloc (.cells #[.int .i64 x.thread, .int .i64 x.first, .slice A' n' c'] 38) := ⟨_, rfl⟩
  have hWg : w.grownBy W none := by rw [hW]; exact grownBy_trans (World.grownBy_alloc w _ none) (World.grownBy_alloc _ _ none) (.inl rfl)
  have hb0 : Held W w.heap.size 38 #[.int .i64 x.thread, .int .i64 x.first, .slice A n' c] := by rw [hW]; exact (Held.new _ _ _).alloc _
  have hb1 : Held W (w.heap.size + 1) 38 #[.int .i64 x.thread, .int .i64 x.first, .slice A' n' c'] := by rw [hW]; exact newAt _ _ (by simp) _ _
  have HW := Lib.hid hW
  have HB0 := Lib.hid hb0
  have HB1 := Lib.hid hb1
  have q0 : (x.thread != x.thread) = false := by simp
  have q1 : (x.first != x.first) = false := by simp
  have q2 : ((n' : Int) != (n' : Int)) = false := by simp
  have HROK := Lib.hid hr
  clear hW hb0 hb1 hr
  go_enter Try.func26, Try.ntmps26
  go_wp2_with fail
  rw [show (w.alloc (.cells #[.int .i64 x.thread, .int .i64 x.first, .slice A n' c] 38)).alloc (.cells #[.int .i64 x.thread, .int .i64 x.first, .slice A' n' c'] 38) = W from HW.out.symm]
  go_loopw [5] (fun iv wr => ∃ k : Nat, iv = .int .i64 (k : Int) ∧ k ≤ n' ∧ W.grownBy wr none) (fun iv _ => n' - (intOf iv).toNat)
  case atStart => exact ⟨0, rfl, Nat.zero_le _, World.grownBy.refl W none⟩
  case round =>
    obtain ⟨k, rfl, hk, hg⟩ := hrel
    have hgw := grownBy_trans hWg hg (.inl rfl)
    have f2 : wr.cell? ⟨w.heap.size, 2, none⟩ = some (.slice A n' c) := (HB0.out.grown hg (fun e => nomatch e)).cell 2
    have f3 : wr.cell? ⟨w.heap.size + 1, 2, none⟩ = some (.slice A' n' c') := (HB1.out.grown hg (fun e => nomatch e)).cell 2
    by_cases hlt : k < n'
    · obtain ⟨b, o, r, Ad, nd, cd, Af, nf, cf, hA, hb, hrk, hH⟩ := (h.grown hgw hB (fun _ e => nomatch e)).at hlt
      obtain ⟨b', o', r', Ad', nd', cd', Af', nf', cf', hA', hb', hrk', hH'⟩ := (h'.grown hgw hB (fun _ e => nomatch e)).at hlt
      have hrr : r' = r := by rw [hrk] at hrk'; exact (Option.some.inj hrk').symm
      subst hrr
      have hRO := HROK.out r' (List.mem_of_getElem? hrk)
      have CE := Lib.hid (sameEvent_yes r'.ev Ad nd cd Af nf cf Ad' nd' cd' Af' nf' cf' wr.drew B hH.ld.drew hH.lf.drew hH'.ld.drew hH'.lf.drew (by have := hRO.ld; omega) (by have := hRO.lf; omega))
      unfold evV at CE
      obtain ⟨c0, c1, c2, c3, c4, c5, c6, c7⟩ := hH.all
      obtain ⟨d0, d1, d2, d3, d4, d5, d6, d7⟩ := hH'.all
      have i0 : (0 : Int) ≤ (k : Int) := by omega
      have i1 : (k : Int) < (n' : Int) := by omega
      have q3 : (r'.seq != r'.seq) = false := by simp
      subst hA hA'
      clear hH hH' hrk hrk' hRO
      go_upto_region 6 with fail
      go_region_held3 (fun w' => w'.cell? ⟨w.heap.size, 2, none⟩ = some (.slice (some ⟨b, o, none⟩) n' c) ∧ w'.cell? ⟨w.heap.size + 1, 2, none⟩ = some (.slice (some ⟨b', o', none⟩) n' c') ∧
          w'.cell? ⟨b, o + k * 8, none⟩ = some (.int .i64 r'.seq) ∧ w'.cell? ⟨b', o' + k * 8, none⟩ = some (.int .i64 r'.seq) ∧
          w'.cell? ⟨b, o + k * 8 + 1, none⟩ = some (.int .i64 r'.ev.thread) ∧ w'.cell? ⟨b, o + k * 8 + 2, none⟩ = some (.int .i64 r'.ev.kind) ∧ w'.cell? ⟨b, o + k * 8 + 3, none⟩ = some (.int .i64 r'.ev.obj) ∧ w'.cell? ⟨b, o + k * 8 + 4, none⟩ = some (.int .i64 r'.ev.value) ∧ w'.cell? ⟨b, o + k * 8 + 5, none⟩ = some (.int .i64 r'.ev.site) ∧ w'.cell? ⟨b, o + k * 8 + 6, none⟩ = some (.slice Ad nd cd) ∧ w'.cell? ⟨b, o + k * 8 + 7, none⟩ = some (.slice Af nf cf) ∧
          w'.cell? ⟨b', o' + k * 8 + 1, none⟩ = some (.int .i64 r'.ev.thread) ∧ w'.cell? ⟨b', o' + k * 8 + 2, none⟩ = some (.int .i64 r'.ev.kind) ∧ w'.cell? ⟨b', o' + k * 8 + 3, none⟩ = some (.int .i64 r'.ev.obj) ∧ w'.cell? ⟨b', o' + k * 8 + 4, none⟩ = some (.int .i64 r'.ev.value) ∧ w'.cell? ⟨b', o' + k * 8 + 5, none⟩ = some (.int .i64 r'.ev.site) ∧ w'.cell? ⟨b', o' + k * 8 + 6, none⟩ = some (.slice Ad' nd' cd') ∧ w'.cell? ⟨b', o' + k * 8 + 7, none⟩ = some (.slice Af' nf' cf'))
        (first | go_keep | (refine ⟨?_, ?_, ?_, ?_, ?_, ?_, ?_, ?_, ?_, ?_, ?_, ?_, ?_, ?_, ?_, ?_, ?_, ?_⟩ <;> exact World.grownBy.cell (w := wr) (by assumption) (by assumption) (by simp)) | fail)
        (first | (go_at_call 13; ((with_reducible refine CE.out.mono ?_); rintro e w2 ⟨rfl, hg2⟩; replace hg2 := grown_drew hg2)) | fail)
      go_wp2_with fail
      go_roundw
      case rel => exact ⟨k + 1, by go_num, by omega, grownBy_trans hg hg2 (.inl rfl)⟩
      case measure => simp [intOf]; omega
    · go_wp2_with fail
      go_ret
      exact ⟨rfl, hgw⟩

set_option maxRecDepth 100000 in
set_option maxHeartbeats 1600000 in
theorem blockReads_any (A : Option Addr) (n c : Nat) (xs : Bytes) (w : World) (h : Lies w w.heap.size 1 A n (xs.map bv)) (hnc : n ≤ c) (hcm : c ≤ maxLen) (ho : A = none → c = 0) :
    Calls Try.prog 7 #[.slice A n c] w fun e w' => e = .returned (.bool true) ∧ Below w.heap.size w w' := by
  have HBEL := Lib.hid (fun w' (hg : w.grownBy w' none) => belGr (Below.refl _ _) hg)
  by_cases h3 : 3000 < n
  · clear ho
    unfold maxLen at hcm
    go_enter Try.func7, Try.ntmps7
    go_wp2_with fail
    go_ret
    exact ⟨rfl, Below.refl _ _⟩
  · have CP := Lib.hid (decodeP_any A n c _ xs w h (Nat.le_refl _) hnc hcm ho (by omega))
    have CR := Lib.hid (fun (w1 : World) (hg : w.grownBy w1 none) => decodeR_any A n c _ xs w1 (h.grown hg (Nat.le_refl _) (fun _ e => nomatch e)) hg.size hnc hcm ho (by omega))
    obtain ⟨hok, hlen⟩ := decode_ok xs
    obtain ⟨x, k, er, hd⟩ : ∃ x k er, Iv.decode xs = (x, k, er) := ⟨_, _, _, rfl⟩
    rw [hd] at CP CR hok hlen
    dsimp only at hok hlen
    have HOK := Lib.hid hok
    have e1 : (er == er) = true := by simp
    have e2 : ((k : Int) == (k : Int)) = true := by simp
    unfold maxLen at hcm
    clear hd ho hok h
    go_enter Try.func7, Try.ntmps7
    go_wp2_with fail
    refine CP.out.mono ?_
    rintro e w1 ⟨A1, n1, c1, rfl, hR1, hg1, hn1, hm1, ho1⟩
    dsimp only at hR1 ⊢
    obtain ⟨W1, hW1⟩ : ∃ W1, W1 = w1.alloc (.cells #[.int .i64 x.thread, .int .i64 x.first, .slice A1 n1 c1] 38) := ⟨_, rfl⟩
    have hgw1 : w1.grownBy W1 none := by rw [hW1]; exact World.grownBy_alloc w1 _ none
    have hb1 : Held W1 w1.heap.size 38 #[.int .i64 x.thread, .int .i64 x.first, .slice A1 n1 c1] := by rw [hW1]; exact Held.new _ _ _
    have HW1 := Lib.hid hW1
    have HB1 := Lib.hid hb1
    have HR1 := Lib.hid (hR1.keep hgw1 (fun _ e => nomatch e))
    have hn1e : n1 ≤ 64 := by rw [← hR1.1]; exact hlen
    have hg01 := grownBy_trans hg1 hgw1 (.inl rfl)
    clear hW1 hb1 hR1
    go_upto_region 4 with fail
    rw [show w1.alloc (.cells #[.int .i64 x.thread, .int .i64 x.first, .slice A1 n1 c1] 38) = W1 from HW1.out.symm]
    go_wp2_with fail
    refine (CR.out W1 hg01).mono ?_
    rintro e w2 ⟨A2, n2, c2, rfl, hR2, hg2, hn2, hm2, ho2⟩
    dsimp only at hR2 ⊢
    obtain ⟨W2, hW2⟩ : ∃ W2, W2 = w2.alloc (.cells #[.int .i64 x.thread, .int .i64 x.first, .slice A2 n2 c2] 38) := ⟨_, rfl⟩
    have hgw2 : w2.grownBy W2 none := by rw [hW2]; exact World.grownBy_alloc w2 _ none
    have hb2 : Held W2 w2.heap.size 38 #[.int .i64 x.thread, .int .i64 x.first, .slice A2 n2 c2] := by rw [hW2]; exact Held.new _ _ _
    have hg12 := grownBy_trans hg2 hgw2 (.inl rfl)
    have hb1' := HB1.out.grown hg12 (fun e => nomatch e)
    have HW2 := Lib.hid hW2
    have hR1' := (HR1.out.keep hg12 (fun _ e => nomatch e)).recs
    have hR2' := (hR2.keep hgw2 (fun _ e => nomatch e)).recs
    have CS := Lib.hid (same13_yes x A1 n1 c1 A2 n2 c2 W2.heap.size W2 hR1' hR2' (Nat.le_refl _) HOK.out (by omega))
    have v0 : W2.cell? ⟨w1.heap.size, 0, none⟩ = some (.int .i64 x.thread) := hb1'.cell 0
    have v1 : W2.cell? ⟨w1.heap.size, 1, none⟩ = some (.int .i64 x.first) := hb1'.cell 1
    have v2 : W2.cell? ⟨w1.heap.size, 2, none⟩ = some (.slice A1 n1 c1) := hb1'.cell 2
    have u0 : W2.cell? ⟨w2.heap.size, 0, none⟩ = some (.int .i64 x.thread) := hb2.cell 0
    have u1 : W2.cell? ⟨w2.heap.size, 1, none⟩ = some (.int .i64 x.first) := hb2.cell 1
    have u2 : W2.cell? ⟨w2.heap.size, 2, none⟩ = some (.slice A2 n2 c2) := hb2.cell 2
    have hg02 := grownBy_trans hg01 hg12 (.inl rfl)
    clear hW2 hb2 hR2 hb1' hR1' hR2'
    go_upto_region 5 with fail
    rw [show w2.alloc (.cells #[.int .i64 x.thread, .int .i64 x.first, .slice A2 n2 c2] 38) = W2 from HW2.out.symm]
    go_wp2_with fail
    refine CS.out.mono ?_
    rintro e w3 ⟨rfl, hg3⟩
    have bel3 := HBEL.out _ (grownBy_trans hg02 hg3 (.inl rfl))
    clear v0 v1 v2 u0 u1 u2
    go_wp2_with fail
    refine (awake13_any _).mono ?_
    rintro e w4 ⟨rfl, hb4⟩
    go_wp2_with fail
    go_ret
    exact ⟨rfl, bel3.trans (hb4.mono bel3.size)⟩
end Go.Proofs.Ytlofjhcjjcohfaa
