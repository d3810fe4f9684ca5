/- The walk of EventOnce. -/
import Derived.Test.YtlcmffbikiamjaaLaw11f
namespace Go.Proofs.Ytlcmffbikiamjaa
open Go Go.RowKit Iv
set_option linter.unusedVariables false

set_option maxRecDepth 100000 in
set_option maxHeartbeats 3200000 in
theorem eventOnce_any (A : Option Addr) (n c : Nat) (xs : Bytes) (thread seq : Int) (w : World) (h : Lies w w.heap.size 1 A n (xs.map bv)) (hnc : n ≤ c) (hcm : c ≤ maxLen) (ho : A = none → c = 0) (ht : inI64 thread) (hs : inI64 seq) :
    Calls Try.prog 20 #[.slice A n c, .int .i64 thread, .int .i64 seq] w fun e w' => e = .returned (.bool true) ∧ Below w.heap.size w w' := by
  unfold maxLen at hcm
  by_cases h3 : 2000 < n
  · clear ho
    go_enter Try.func20, Try.ntmps20
    go_wp2_with fail
    go_ret
    exact ⟨rfl, Below.refl _ _⟩
  · obtain ⟨r, k, er, hg⟩ : ∃ r k er, getRec xs thread seq = (r, k, er) := ⟨_, _, _, rfl⟩
    have CP := Lib.hid (readP_parts A n c _ xs thread seq w h (Nat.le_refl _) hnc ho (by omega) hg)
    have HL := Lib.hid h.lenB
    by_cases he : er = 0
    · subst he
      obtain ⟨o1, o2, o3, o4, o5, o6⟩ := getRec_once ht hg
      have HOK := Lib.hid o1
      have HK := Lib.hid o3
      have HT := Lib.hid o6
      have HS := Lib.hid hs
      have hkn : k ≤ n := by rw [← HL.out]; exact o5
      have hcut : Lies w w.heap.size 1 A k ((putRec r seq).map bv) := by
        have := h.take (m := k) hkn
        rwa [Nat.mul_one, ← List.map_take, HT.out] at this
      have hpl := putRec_len o1 seq
      have j1 : (1 : Int) ≤ (k : Int) := by omega
      have j2 : (k : Int) ≤ (n : Int) := by omega
      have j3 : (k : Int) ≤ (c : Int) := by omega
      have j0 : (0 : Int) ≤ (k : Int) := by omega
      clear hg ht hs ho o1 o2 o3 o5 o6
      go_enter Try.func20, Try.ntmps20
      go_wp2_with fail
      refine CP.out.mono ?_
      rintro e w1 ⟨Ad, cd, Af, cf, rfl, hd, hf, hgr⟩
      obtain ⟨W1, hW1⟩ : ∃ W, W = w1.alloc (.cells (recV r Ad r.ev.deps.length cd Af r.ev.from_.length cf) 35) := ⟨_, rfl⟩
      have B1 : Held W1 w1.heap.size 35 (recV r Ad r.ev.deps.length cd Af r.ev.from_.length cf) := by rw [hW1]; exact Held.new _ _ _
      have g1 : w1.grownBy W1 none := by rw [hW1]; exact World.grownBy_alloc w1 _ none
      have HW1 := Lib.hid hW1
      have LD := (Lies.ofOwn hd).grown g1 (Nat.le_refl _) (fun g hg => nomatch hg)
      have LF := (Lies.ofOwn hf).grown g1 (Nat.le_refl _) (fun g hg => nomatch hg)
      have bel1 : Below w.heap.size w W1 := belGr (belGr (Below.refl _ w) hgr) g1
      have CA := Lib.hid (appendP_any none 0 0 w1.heap.size [] r Ad _ cd Af _ cf seq W1.drew Lies.nil (Nat.le_refl _) (by omega) HOK.out HS.out LD.drew LF.drew g1.size w.heap.size bel1.size)
      obtain ⟨e0, e1, e2, e3, e4, e5, e6, e7⟩ := cells8 B1
      clear hW1 hd hf hgr B1 LD LF g1
      unfold recV at *
      go_upto_region 6 with fail
      rw [show w1.alloc (.cells #[.int .i64 r.seq, .int .i64 r.ev.thread, .int .i64 r.ev.kind, .int .i64 r.ev.obj, .int .i64 r.ev.value, .int .i64 r.ev.site, .slice Ad r.ev.deps.length cd, .slice Af r.ev.from_.length cf] 35) = W1 from HW1.out.symm]
      go_region_held3 (fun w' => w'.cell? ⟨w1.heap.size, 0, none⟩ = some (.int .i64 r.seq) ∧ w'.cell? ⟨w1.heap.size, 1, none⟩ = some (.int .i64 r.ev.thread) ∧ w'.cell? ⟨w1.heap.size, 2, none⟩ = some (.int .i64 r.ev.kind) ∧ w'.cell? ⟨w1.heap.size, 3, none⟩ = some (.int .i64 r.ev.obj) ∧ w'.cell? ⟨w1.heap.size, 4, none⟩ = some (.int .i64 r.ev.value) ∧ w'.cell? ⟨w1.heap.size, 5, none⟩ = some (.int .i64 r.ev.site) ∧ w'.cell? ⟨w1.heap.size, 6, none⟩ = some (.slice Ad r.ev.deps.length cd) ∧ w'.cell? ⟨w1.heap.size, 7, none⟩ = some (.slice Af r.ev.from_.length cf))
        (first | go_keep | (refine ⟨?_, ?_, ?_, ?_, ?_, ?_, ?_, ?_⟩ <;> exact World.grownBy.cell (w := W1) (by assumption) (by assumption) (by simp)))
        (first
          | (go_at_call 33; ((with_reducible refine CA.out.mono ?_); rintro e w3 ⟨v3, rfl, hown3, hg3, hat3⟩; replace hg3 := grown_drew hg3; rw [List.nil_append] at hown3; obtain ⟨A3, c3, hv3, _, _, hl3, _⟩ := own_slice hown3; subst hv3))
          | (go_at_call 32; refine (same_any _ _ _ _ _ _ (putRec r seq) (putRec r seq) _ _ hl3 ((hcut.below (belGr bel1 hg3)).more (belGr bel1 hg3).size) (by omega) (by omega)).mono ?_; rintro e w4 ⟨rfl, q, rfl⟩))
      go_wp2_with fail
      go_ret
      exact ⟨by simp, belDr (belGr bel1 hg3) q⟩
    · obtain ⟨e', he2, hg'⟩ := (getRec_cases xs thread seq).resolve_left (by rw [hg]; exact he)
      rw [hg] at hg'
      simp only [Prod.mk.injEq] at hg'
      obtain ⟨rfl, rfl, rfl⟩ := hg'
      have hne : (er != 0) = true := by rw [bne_iff_ne]; exact he
      clear hg ht hs ho he he2
      go_enter Try.func20, Try.ntmps20
      go_wp2_with fail
      refine CP.out.mono ?_
      rintro e w1 ⟨Ad, cd, Af, cf, rfl, hd, hf, hgr⟩
      have bel1 : Below w.heap.size w (w1.alloc (.cells (recV zeroRec Ad zeroRec.ev.deps.length cd Af zeroRec.ev.from_.length cf) 35)) := belGr (belGr (Below.refl _ w) hgr) (World.grownBy_alloc w1 _ none)
      have BEL := Lib.hid bel1
      clear hd hf hgr bel1
      unfold recV at *
      go_wp2_with fail
      refine (awake11_any _).mono ?_
      rintro e w4 ⟨rfl, hb4⟩
      go_wp2_with fail
      go_ret
      exact ⟨rfl, BEL.out.trans (hb4.mono BEL.out.size)⟩
end Go.Proofs.Ytlcmffbikiamjaa
