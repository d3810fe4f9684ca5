/- The walk of EventSpoilt. -/
import Derived.Test.YtlcmffbikiamjaaLaw11f
import Derived.Test.YtlcmffbikiamjaaSpl
namespace Go.Proofs.Ytlcmffbikiamjaa
open Go Go.RowKit Iv
set_option linter.unusedVariables false

/-- '[]byte(s)': a new row. -/
theorem bytes_of (w : World) (s : ByteArray) : ∃ (cap : Nat) (W : World), (convert 9 22 (.string s)).run Try.prog w = .ok (.slice (some ⟨w.heap.size, 0, none⟩) s.size cap) W ∧
    Lies W (w.heap.size + 1) 1 (some ⟨w.heap.size, 0, none⟩) s.size (s.data.toList.map bv) ∧ w.grownBy W none ∧ s.size ≤ cap ∧ w.heap.size + 1 ≤ W.heap.size := by
  refine ⟨_, _, run_bytes_of_string (P := Try.prog) w 9 22 5 s Try.underlying9 Try.underlying22 Try.underlying5, ?_, ?_, grownCap_ge w s.size 0 _, by simp⟩
  · refine ⟨by rw [List.length_map, Array.length_toList, Nat.mul_one]; rfl, fun _ => ⟨_, rfl, Nat.lt_succ_self _, fun j u hu => ?_⟩⟩
    have hadd : (⟨w.heap.size, 0, none⟩ : Addr).add j = ⟨w.heap.size, j, none⟩ := by unfold Addr.add; split <;> simp_all
    rw [hadd]
    show (w.drew.alloc _).cell? ⟨w.drew.heap.size, j, none⟩ = _
    rw [World.cell?_alloc_mark]
    unfold bytesRow
    have hj : j < s.data.size := by have := (List.getElem?_eq_some_iff.1 hu).1; simpa using this
    rw [Array.getElem?_append_left (by simpa using hj)]
    simpa [bv] using hu
  · exact grown_drew (World.grownBy_alloc w.drew _ none)

/-- 'string(b)' of bytes that lie in memory. -/
theorem string_of (w : World) (a : Addr) (n c B : Nat) (xs : Bytes) (h : Lies w B 1 (some a) n (xs.map bv)) (hn : 0 < n) : (convert 22 9 (.slice (some a) n c)).run Try.prog w = .ok (.string ⟨xs.toArray⟩) w := by
  have hl := h.lenB
  subst hl
  exact run_convert_bytes_back (P := Try.prog) w 22 9 5 a c xs Try.underlying22 Try.underlying5 Try.underlying9 (fun j hj => by
    obtain ⟨ad, e, _, hc⟩ := h.2 hn
    injection e with e
    subst e
    exact hc j _ (by simp [List.getElem?_eq_getElem hj, bv]))

set_option maxRecDepth 100000 in
set_option maxHeartbeats 3200000 in
theorem eventSpoilt_any (r : Rec) (Ad : Option Addr) (nd cd : Nat) (Af : Option Addr) (nf cf : Nat) (seq at_ how c : Int) (w : World) (hr : RecIn w r Ad nd cd Af nf cf) (hs : inI64 seq)
    (ha : 0 ≤ at_ ∧ at_ ≤ 65535) (hh : 0 ≤ how ∧ how ≤ 65535) (hc : 0 ≤ c ∧ c ≤ 255) :
    Calls Try.prog 19 #[.agg (recV r Ad nd cd Af nf cf), .int .i64 seq, .int .u16 at_, .int .u16 how, .int .u8 c] w fun e w' => e = .returned (.bool true) ∧ Below w.heap.size w w' := by
  have HR := Lib.hid hr
  have HS := Lib.hid hs
  have HSP := Lib.hid (fun (s : ByteArray) (W : World) (hs : s.size ≤ 1000000) => spoil_any s at_ how c W hs ha hh hc)
  clear hr hs ha hh hc
  by_cases h4 : 400 < nd ∨ 400 < nf
  · have CL := Lib.hid (fun W => long_yes r Ad nd cd Af nf cf W h4)
    clear h4
    unfold recV at *
    go_enter Try.func19, Try.ntmps19
    go_wp2_with fail
    refine (CL.out _).mono ?_
    rintro e w1 ⟨rfl, hg1⟩
    go_wp2_with fail
    go_ret
    exact ⟨rfl, ((Below.refl _ _).alloc (Nat.le_refl _) _).grown hg1 (by simp) (fun k hk => by cases hk)⟩
  · have hnd : nd ≤ 400 := by omega
    have hnf : nf ≤ 400 := by omega
    have hok := HR.out.ok hnd hnf
    obtain ⟨W, hW⟩ : ∃ W, W = w.alloc (.cells (recV r Ad nd cd Af nf cf) 35) := ⟨_, rfl⟩
    have hb0 : Held W w.heap.size 35 (recV r Ad nd cd Af nf cf) := by rw [hW]; exact Held.new _ _ _
    have hWg : w.grownBy W none := by rw [hW]; exact World.grownBy_alloc w _ none
    have HB0 := Lib.hid hb0
    have HW := Lib.hid hW
    have HOK := Lib.hid hok
    have CL := Lib.hid (long_no r Ad nd cd Af nf cf W hnd hnf)
    have lp := putRec_len hok seq
    have lpp := putRec_pos r seq
    obtain ⟨L, hL⟩ : ∃ L, L = (putRec r seq).length := ⟨_, rfl⟩
    rw [← hL] at lp lpp
    have HL := Lib.hid hL
    clear hW hb0 h4 hok hL
    unfold recV at *
    go_enter Try.func19, Try.ntmps19
    go_wp2_with fail
    rw [show (w.alloc (.cells #[.int .i64 r.seq, .int .i64 r.ev.thread, .int .i64 r.ev.kind, .int .i64 r.ev.obj, .int .i64 r.ev.value, .int .i64 r.ev.site, .slice Ad nd cd, .slice Af nf cf] 35)) = W from HW.out.symm]
    refine CL.out.mono ?_
    rintro e W2 ⟨rfl, hg1⟩
    have hW2 : w.grownBy W2 none := grownBy_trans hWg hg1 (.inl rfl)
    obtain ⟨f0, f1, f2, f3, f4, f5, f6, f7⟩ := cells8 (HB0.out.grown hg1 (fun e => nomatch e))
    have hd2 : Lies W2 w.heap.size 1 Ad nd (r.ev.deps.map iv) := HR.out.ld.grown hW2 (Nat.le_refl _) (fun g hg => by cases hg)
    have hf2 : Lies W2 w.heap.size 1 Af nf (r.ev.from_.map iv) := HR.out.lf.grown hW2 (Nat.le_refl _) (fun g hg => by cases hg)
    have CA := Lib.hid (appendR_any (W0 := W2) none 0 0 0 [] r Ad nd cd Af nf cf seq W2 Lies.nil (fun _ => rfl) (by omega) HOK.out HS.out (World.grownBy.refl W2 none) (hd2.more hW2.size) (hf2.more hW2.size) w.heap.size hW2.size)
    unfold recV at CA
    go_wp2_with fail
    refine CA.out.mono ?_
    rintro e w3 ⟨A3, n3, c3, rfl, hO3⟩
    rw [List.nil_append] at hO3
    have hl3 := hO3.lies
    have hn3 : n3 = L := by rw [hO3.2.1, HL.out]
    have hg3 : w.grownBy w3 none := grownBy_trans hW2 hO3.1.2.1 (.inl rfl)
    have bel3 : Below w.heap.size w w3 := belGr (Below.refl _ w) hg3
    clear hO3 f0 f1 f2 f3 f4 f5 f6 f7 hd2 hf2 hg1 hWg hW2 hg3
    subst hn3
    obtain ⟨ad3, hA3, _, _⟩ := hl3.2 (by omega)
    subst hA3
    have kx := string_of w3 ad3 n3 c3 _ _ hl3 (by omega)
    obtain ⟨s0, hs0⟩ : ∃ s0 : ByteArray, s0 = ⟨(putRec r seq).toArray⟩ := ⟨_, rfl⟩
    rw [← hs0] at kx
    have hs0l : s0.size ≤ 10000 := by
      rw [hs0]
      show (putRec r seq).toArray.size ≤ 10000
      have := HL.out
      simp
      omega
    clear hs0 hl3
    go_wp2_with fail
    refine (HSP.out s0 w3 (by omega)).mono ?_
    rintro e w4 ⟨s, rfl, hsl, hg4⟩
    have bel4 : Below w.heap.size w w4 := belGr bel3 hg4
    obtain ⟨c5, W5, ky, hl5, hg5, hc5, hz5⟩ := bytes_of w4 s
    obtain ⟨xs, hxs⟩ : ∃ xs, xs = s.data.toList := ⟨_, rfl⟩
    rw [← hxs] at hl5
    obtain ⟨n, hn⟩ : ∃ n, n = s.size := ⟨_, rfl⟩
    rw [← hn] at hl5 ky hc5 hsl
    have bel5 : Below w.heap.size w W5 := belGr bel4 hg5
    have hnb : n ≤ 20001 := by omega
    have HL5 := Lib.hid hl5
    have HNX := Lib.hid hl5.lenB
    clear kx hxs hn hl5 hg4 hg5
    obtain ⟨q, k, er, hg⟩ : ∃ q k er, getRec xs 1 seq = (q, k, er) := ⟨_, _, _, rfl⟩
    obtain ⟨s1, s2⟩ := getRec_short (by constructor <;> omega) hg
    have CP := Lib.hid (readP_parts (some ⟨w4.heap.size, 0, none⟩) n c5 _ xs 1 seq W5 HL5.out hz5 hc5 (fun e => nomatch e) (by omega) hg)
    have CR := Lib.hid (fun (W6 : World) (hg6 : W5.grownBy W6 none) => readR_parts (some ⟨w4.heap.size, 0, none⟩) n c5 _ xs 1 seq W6 (HL5.out.grown hg6 hz5 (fun g hg => nomatch hg)) (Nat.le_trans hz5 hg6.size) hc5 (fun e => nomatch e) (by omega) hg)
    have HG := Lib.hid hg
    have b0 : (q.seq != q.seq) = false := by simp
    have b1 : (er != er) = false := by simp
    have b2 : ((k : Int) != (k : Int)) = false := by simp
    clear hg
    go_wp2_with fail
    clear ky
    refine CP.out.mono ?_
    rintro e w6 ⟨Ad1, cd1, Af1, cf1, rfl, hd, hf, hgr⟩
    obtain ⟨W6, hW6⟩ : ∃ W, W = w6.alloc (.cells (recV q Ad1 q.ev.deps.length cd1 Af1 q.ev.from_.length cf1) 35) := ⟨_, rfl⟩
    have B1 : Held W6 w6.heap.size 35 (recV q Ad1 q.ev.deps.length cd1 Af1 q.ev.from_.length cf1) := by rw [hW6]; exact Held.new _ _ _
    have g1 : w6.grownBy W6 none := by rw [hW6]; exact World.grownBy_alloc w6 _ none
    have HW6 := Lib.hid hW6
    have LD := Lib.hid ((Lies.ofOwn hd).grown g1 (Nat.le_refl _) (fun g hg => nomatch hg))
    have LF := Lib.hid ((Lies.ofOwn hf).grown g1 (Nat.le_refl _) (fun g hg => nomatch hg))
    have g56 := grownBy_trans hgr g1 (.inl rfl)
    have bel6 : Below w.heap.size w W6 := belGr bel5 g56
    have HB1 := Lib.hid B1
    have z61 : w6.heap.size ≤ W6.heap.size := g1.size
    clear hW6 hd hf hgr B1 g1
    unfold recV at *
    go_upto_region 5 with fail
    rw [show w6.alloc (.cells #[.int .i64 q.seq, .int .i64 q.ev.thread, .int .i64 q.ev.kind, .int .i64 q.ev.obj, .int .i64 q.ev.value, .int .i64 q.ev.site, .slice Ad1 q.ev.deps.length cd1, .slice Af1 q.ev.from_.length cf1] 35) = W6 from HW6.out.symm]
    go_wp2_with fail
    refine (CR.out W6 g56).mono ?_
    rintro e w7 ⟨Ad2, cd2, Af2, cf2, rfl, hd2, hf2, hgr2⟩
    obtain ⟨W7, hW7⟩ : ∃ W, W = w7.alloc (.cells (recV q Ad2 q.ev.deps.length cd2 Af2 q.ev.from_.length cf2) 35) := ⟨_, rfl⟩
    have g2 : w7.grownBy W7 none := by rw [hW7]; exact World.grownBy_alloc w7 _ none
    have B2 : Held W7 w7.heap.size 35 (recV q Ad2 q.ev.deps.length cd2 Af2 q.ev.from_.length cf2) := by rw [hW7]; exact Held.new _ _ _
    have g12 := grownBy_trans hgr2 g2 (.inl rfl)
    have B1 : Held W7 w6.heap.size 35 (recV q Ad1 q.ev.deps.length cd1 Af1 q.ev.from_.length cf1) := HB1.out.grown g12 (fun e => nomatch e)
    have bel7 : Below w.heap.size w W7 := belGr bel6 g12
    have LD7 := LD.out.grown g12 z61 (fun g hg => nomatch hg)
    have LF7 := LF.out.grown g12 z61 (fun g hg => nomatch hg)
    have z1 : w6.heap.size ≤ W7.heap.size := Nat.le_trans z61 g12.size
    have CE := Lib.hid (sameEvent_yes q.ev Ad1 _ cd1 Af1 _ cf1 Ad2 _ cd2 Af2 _ cf2 W7 W7.heap.size (LD7.more z1) (LF7.more z1)
      (((Lies.ofOwn hd2).grown g2 (Nat.le_refl _) (fun g hg => nomatch hg)).more g2.size) (((Lies.ofOwn hf2).grown g2 (Nat.le_refl _) (fun g hg => nomatch hg)).more g2.size) (by omega) (by omega))
    have HB7 := Lib.hid B1
    have HLD7 := Lib.hid LD7
    have HLF7 := Lib.hid LF7
    have HX7 := Lib.hid (HL5.out.grown (grownBy_trans g56 g12 (.inl rfl)) hz5 (fun g hg => nomatch hg))
    obtain ⟨e0, e1, e2, e3, e4, e5, e6, e7⟩ := cells8 B1
    obtain ⟨f0, f1, f2, f3, f4, f5, f6, f7⟩ := cells8 B2
    have HW7 := Lib.hid hW7
    clear hW7 hd2 hf2 hgr2 B1 B2 g2 LD7 LF7
    unfold recV evV at *
    go_upto_region 6 with fail
    rw [show w7.alloc (.cells #[.int .i64 q.seq, .int .i64 q.ev.thread, .int .i64 q.ev.kind, .int .i64 q.ev.obj, .int .i64 q.ev.value, .int .i64 q.ev.site, .slice Ad2 q.ev.deps.length cd2, .slice Af2 q.ev.from_.length cf2] 35) = W7 from HW7.out.symm]
    go_upto_region 8 with (first | (go_at_call 46; refine CE.out.mono ?_; rintro e w8 ⟨rfl, g8⟩))
    have bel8 : Below w.heap.size w w8 := belGr bel7 g8
    have HB8 := Lib.hid (HB7.out.grown g8 (fun e => nomatch e))
    have LX8 := HX7.out.grown g8 (Nat.le_trans hz5 (grownBy_trans g56 g12 (.inl rfl)).size) (fun g hg => nomatch hg)
    have LD8 := HLD7.out.grown g8 z1 (fun g hg => nomatch hg)
    have LF8 := HLF7.out.grown g8 z1 (fun g hg => nomatch hg)
    have z8 : w6.heap.size ≤ w8.heap.size := Nat.le_trans z1 g8.size
    have z8l := HB8.out.lt
    have z58 : w4.heap.size + 1 ≤ w8.heap.size := Nat.le_trans hz5 (Nat.le_trans (grownBy_trans g56 g12 (.inl rfl)).size g8.size)
    clear e0 e1 e2 e3 e4 e5 e6 e7 f0 f1 f2 f3 f4 f5 f6 f7 g56 g12 z1 z61
    obtain ⟨e0, e1, e2, e3, e4, e5, e6, e7⟩ := cells8 HB8.out
    by_cases he : er = 0
    · subst he
      have ht1 : inI64 1 := by constructor <;> omega
      obtain ⟨o1, o2, o3, o4, o5, o6⟩ := getRec_once ht1 HG.out
      have HOK2 := Lib.hid o1
      have HT := Lib.hid o6
      have hkn : k ≤ n := by rw [← HNX.out]; exact o5
      have hcut : Lies w8 (w4.heap.size + 1) 1 (some ⟨w4.heap.size, 0, none⟩) k ((putRec q seq).map bv) := by
        have := LX8.take (m := k) hkn
        rwa [Nat.mul_one, ← List.map_take, HT.out] at this
      have hpl := putRec_len o1 seq
      have HK3 := Lib.hid o3
      have hkb : k ≤ 8070 := by rw [o3]; exact hpl
      have CA8 := Lib.hid (appendP_any none 0 0 w6.heap.size [] q Ad1 _ cd1 Af1 _ cf1 seq w8.drew Lies.nil (Nat.le_refl _) (by omega) HOK2.out HS.out LD8.drew LF8.drew z8 w.heap.size bel8.size)
      unfold recV at CA8
      have j2 : (k : Int) ≤ (n : Int) := by omega
      have j3 : (k : Int) ≤ (c5 : Int) := by omega
      have j0 : (0 : Int) ≤ (k : Int) := by omega
      clear o1 o2 o3 o5 o6 LD8 LF8 LX8 hpl b1 b2 b0
      go_region_held3 (fun w' => w'.cell? ⟨w6.heap.size, 0, none⟩ = some (.int .i64 q.seq) ∧ w'.cell? ⟨w6.heap.size, 1, none⟩ = some (.int .i64 q.ev.thread) ∧ w'.cell? ⟨w6.heap.size, 2, none⟩ = some (.int .i64 q.ev.kind) ∧ w'.cell? ⟨w6.heap.size, 3, none⟩ = some (.int .i64 q.ev.obj) ∧ w'.cell? ⟨w6.heap.size, 4, none⟩ = some (.int .i64 q.ev.value) ∧ w'.cell? ⟨w6.heap.size, 5, none⟩ = some (.int .i64 q.ev.site) ∧ w'.cell? ⟨w6.heap.size, 6, none⟩ = some (.slice Ad1 q.ev.deps.length cd1) ∧ w'.cell? ⟨w6.heap.size, 7, none⟩ = some (.slice Af1 q.ev.from_.length cf1))
        (first | go_keep | (refine ⟨?_, ?_, ?_, ?_, ?_, ?_, ?_, ?_⟩ <;> exact World.grownBy.cell (w := w8) (by assumption) (by assumption) (by simp)))
        (first
          | (go_at_call 33; ((with_reducible refine CA8.out.mono ?_); rintro e w9 ⟨v9, rfl, hown9, hg9, hat9⟩; replace hg9 := grown_drew hg9; rw [List.nil_append] at hown9; obtain ⟨A9, c9, hv9, _, _, hl9, _⟩ := own_slice hown9; subst hv9))
          | (go_at_call 32; refine (same_any _ _ _ _ _ _ (putRec q seq) (putRec q seq) _ _ hl9 ((hcut.grown hg9 z58 (fun g hg => nomatch hg)).more (Nat.le_trans z58 hg9.size)) (by rw [← HK3.out]; omega) (by omega)).mono ?_; rintro e w10 ⟨rfl, q10, rfl⟩; rw [show decide (putRec q seq = putRec q seq) = true from by simp])
          | (go_at_call 35; refine (awake11_any _).mono ?_; rintro e w11 ⟨rfl, hb11⟩; have hg11 := grownBy_trans hg9 (grown_drewN (grown_below hb11 none)) (At.refl _ _)))
      go_wp2_with fail
      go_ret
      have bel9 := belGr bel8 hg9
      exact ⟨rfl, (belDr bel9 q10).trans (hb11.mono bel9.size)⟩
    · have h911 : er = 9 ∨ er = 11 := by
        obtain ⟨e', he2, hg'⟩ := (getRec_cases xs 1 seq).resolve_left (by rw [HG.out]; exact he)
        rw [HG.out] at hg'
        simp only [Prod.mk.injEq] at hg'
        obtain ⟨_, _, rfl⟩ := hg'
        exact he2
      clear he LD8 LF8 LX8 b1 b2 b0
      rcases h911 with rfl | rfl
      all_goals
        (try refine wp_region_noPanic ?_)
        refine wp_region_held_drew (S := fun _ => True) (by kernel_rfl) trivial (fun hHeld => ?_)
        refine wpAnyH_take (i := 0) (oi := ⟨some 66, _, _, _, _, _⟩) (v := ?_) rfl (by kernel_rfl) (by kernel_rfl) (by kernel_rfl) (fun _ _ _ h => h) (Or.inl ⟨by rfl, ?_⟩) (by assumption) ?_
        rotate_left
        · intro w hSw; go_simp; (try with_reducible rfl)
        try simp only [Act.put, List.setIfInBounds_toArray, List.set_cons_zero, List.set_cons_succ]
        refine wpAnyH_take (i := 1) (oi := ⟨some 67, _, _, _, _, _⟩) (v := ?_) rfl (by kernel_rfl) (by kernel_rfl) (by kernel_rfl) (fun _ _ _ h => h) (Or.inl ⟨by rfl, ?_⟩) (by assumption) ?_
        rotate_left
        · intro w hSw; go_simp; (try with_reducible rfl)
        try simp only [Act.put, List.setIfInBounds_toArray, List.set_cons_zero, List.set_cons_succ]
        refine wpAnyH_take (i := 2) (oi := ⟨some 68, _, _, _, _, _⟩) (v := ?_) rfl (by kernel_rfl) (by kernel_rfl) (by kernel_rfl) (fun _ _ _ h => h) (Or.inl ⟨by rfl, ?_⟩) (by assumption) ?_
        rotate_left
        · intro w hSw; go_simp; (try with_reducible rfl)
        try simp only [Act.put, List.setIfInBounds_toArray, List.set_cons_zero, List.set_cons_succ]
        refine wpAnyH_take (i := 3) (oi := ⟨some 69, _, _, _, _, _⟩) (v := undef) rfl (by kernel_rfl) (by kernel_rfl) (by kernel_rfl) (fun _ _ _ h => h) (Or.inr ⟨by rfl, rfl⟩) (by assumption) ?_
        try simp only [Act.put, List.setIfInBounds_toArray, List.set_cons_zero, List.set_cons_succ]
        refine wpAnyH_take (i := 4) (oi := ⟨some 70, _, _, _, _, _⟩) (v := undef) rfl (by kernel_rfl) (by kernel_rfl) (by kernel_rfl) (fun _ _ _ h => h) (Or.inr ⟨by rfl, rfl⟩) (by assumption) ?_
        try simp only [Act.put, List.setIfInBounds_toArray, List.set_cons_zero, List.set_cons_succ]
        refine wpAnyH_take (i := 5) (oi := ⟨some 71, _, _, _, _, _⟩) (v := undef) rfl (by kernel_rfl) (by kernel_rfl) (by kernel_rfl) (fun _ _ _ h => h) (Or.inr ⟨by rfl, rfl⟩) (by assumption) ?_
        try simp only [Act.put, List.setIfInBounds_toArray, List.set_cons_zero, List.set_cons_succ]
        refine wpAnyH_take (i := 6) (oi := ⟨some 72, _, _, _, _, _⟩) (v := undef) rfl (by kernel_rfl) (by kernel_rfl) (by kernel_rfl) (fun _ _ _ h => h) (Or.inr ⟨by rfl, rfl⟩) (by assumption) ?_
        try simp only [Act.put, List.setIfInBounds_toArray, List.set_cons_zero, List.set_cons_succ]
        refine wpAnyH_take (i := 7) (oi := ⟨some 73, _, _, _, _, _⟩) (v := undef) rfl (by kernel_rfl) (by kernel_rfl) (by kernel_rfl) (fun _ _ _ h => h) (Or.inr ⟨by rfl, rfl⟩) (by assumption) ?_
        try simp only [Act.put, List.setIfInBounds_toArray, List.set_cons_zero, List.set_cons_succ]
        refine wpAnyH_take (i := 8) (oi := ⟨some 74, _, _, _, _, _⟩) (v := undef) rfl (by kernel_rfl) (by kernel_rfl) (by kernel_rfl) (fun _ _ _ h => h) (Or.inr ⟨by rfl, rfl⟩) (by assumption) ?_
        try simp only [Act.put, List.setIfInBounds_toArray, List.set_cons_zero, List.set_cons_succ]
        refine wpAnyH_take (i := 9) (oi := ⟨some 75, _, _, _, _, _⟩) (v := undef) rfl (by kernel_rfl) (by kernel_rfl) (by kernel_rfl) (fun _ _ _ h => h) (Or.inr ⟨by rfl, rfl⟩) (by assumption) ?_
        try simp only [Act.put, List.setIfInBounds_toArray, List.set_cons_zero, List.set_cons_succ]
        refine wpAnyH_take (i := 10) (oi := ⟨some 76, _, _, _, _, _⟩) (v := ?_) rfl (by kernel_rfl) (by kernel_rfl) (by kernel_rfl) (fun _ _ _ h => h) (Or.inl ⟨by rfl, ?_⟩) (by assumption) ?_
        rotate_left
        · intro w hSw; go_simp; (try with_reducible rfl)
        try simp only [Act.put, List.setIfInBounds_toArray, List.set_cons_zero, List.set_cons_succ]
        refine wpAnyH_take (i := 11) (oi := ⟨some 77, _, _, _, _, _⟩) (v := ?_) rfl (by kernel_rfl) (by kernel_rfl) (by kernel_rfl) (fun _ _ _ h => h) (Or.inl ⟨by rfl, ?_⟩) (by assumption) ?_
        rotate_left
        · intro w hSw; go_simp; (try with_reducible rfl)
        try simp only [Act.put, List.setIfInBounds_toArray, List.set_cons_zero, List.set_cons_succ]
        refine wpAnyH_ready (rs := [12]) (by kernel_rfl) (by simp) ?_
        refine AllReadyH.cons (o := ⟨some 78, _, _, _, _, _⟩) rfl (fun K hK => ?_) AllReadyH.nil
        rw [if_pos (by rfl)]
        go_simp
        refine (awake11_any _).mono ?_
        rintro e w11 ⟨rfl, hb11⟩
        go_wp2_with fail
        refine hK.out _ _ trivial (fun hHeld2 => ?_)
        clear hK K
        try simp only [Act.put, List.setIfInBounds_toArray, List.set_cons_zero, List.set_cons_succ]
        refine wpAnyH_take (i := 13) (oi := ⟨some 79, _, _, _, _, _⟩) (v := ?_) rfl (by kernel_rfl) (by kernel_rfl) (by kernel_rfl) (fun _ _ _ h => h) (Or.inl ⟨by rfl, ?_⟩) (by assumption) ?_
        rotate_left
        · intro w hSw; go_simp; (try with_reducible rfl)
        try simp only [Act.put, List.setIfInBounds_toArray, List.set_cons_zero, List.set_cons_succ]
        refine wpAnyH_take (i := 14) (oi := ⟨some 10, _, _, _, _, _⟩) (v := ?_) rfl (by kernel_rfl) (by kernel_rfl) (by kernel_rfl) (fun _ _ _ h => h) (Or.inl ⟨by rfl, ?_⟩) (by assumption) ?_
        rotate_left
        · intro w hSw; go_simp; (try with_reducible rfl)
        try simp only [Act.put, List.setIfInBounds_toArray, List.set_cons_zero, List.set_cons_succ]
        refine wpAnyH_done (by kernel_rfl) ?_ _
        try unfold NoPanic
        try dsimp only
        go_wp2_with fail
        go_ret
        have hbd : Below w.heap.size w w8.drew := ⟨bel8.os, bel8.tape, bel8.output, bel8.size, bel8.block⟩
        exact ⟨rfl, hbd.trans (hb11.mono bel8.size)⟩
end Go.Proofs.Ytlcmffbikiamjaa
