/- The walks of EventTells and of 'long'. -/
import Derived.Test.YtlcmffbikiamjaaAppR
import Derived.Test.YtlcmffbikiamjaaLaw11b
namespace Go.Proofs.Ytlcmffbikiamjaa
open Go Go.RowKit Iv
set_option linter.unusedVariables false

set_option maxRecDepth 100000 in
set_option maxHeartbeats 400000 in
theorem long_no (r : Rec) (Ad : Option Addr) (nd cd : Nat) (Af : Option Addr) (nf cf : Nat) (w : World) (hd : nd ≤ 400) (hf : nf ≤ 400) :
    Calls Try.prog 31 #[.agg (recV r Ad nd cd Af nf cf)] w fun e w' => e = .returned (.bool false) ∧ w.grownBy w' none := by
  have h1 : ¬ (400 : Int) < (nd : Int) := by omega
  have h2 : ¬ (400 : Int) < (nf : Int) := by omega
  unfold recV
  go_enter Try.func31, Try.ntmps31
  go_wp2_with fail
  go_ret
  exact ⟨rfl, World.grownBy_alloc w _ none⟩

set_option maxRecDepth 100000 in
set_option maxHeartbeats 400000 in
theorem long_yes (r : Rec) (Ad : Option Addr) (nd cd : Nat) (Af : Option Addr) (nf cf : Nat) (w : World) (h : 400 < nd ∨ 400 < nf) :
    Calls Try.prog 31 #[.agg (recV r Ad nd cd Af nf cf)] w fun e w' => e = .returned (.bool true) ∧ w.grownBy w' none := by
  unfold recV
  by_cases h1 : 400 < nd
  · clear h
    go_enter Try.func31, Try.ntmps31
    go_wp2_with fail
    go_ret
    exact ⟨rfl, World.grownBy_alloc w _ none⟩
  · have h2 : (400 : Int) < (nf : Int) := by omega
    have h1' : ¬ (400 : Int) < (nd : Int) := by omega
    clear h h1
    go_enter Try.func31, Try.ntmps31
    go_wp2_with fail
    go_ret
    exact ⟨rfl, World.grownBy_alloc w _ none⟩

/-- What a record must be that came in: its numbers fit; its lists lie in memory. -/
structure RecIn (w : World) (r : Rec) (Ad : Option Addr) (nd cd : Nat) (Af : Option Addr) (nf cf : Nat) : Prop where
  seq : inI64 r.seq
  thread : inI64 r.ev.thread
  kind : inI64 r.ev.kind
  obj : inI64 r.ev.obj
  value : inI64 r.ev.value
  site : inI64 r.ev.site
  deps : allI64 r.ev.deps
  from_ : allI64 r.ev.from_
  ld : Lies w w.heap.size 1 Ad nd (r.ev.deps.map iv)
  lf : Lies w w.heap.size 1 Af nf (r.ev.from_.map iv)
  cd : nd ≤ cd ∧ cd ≤ maxLen ∧ (Ad = none → cd = 0)
  cf : nf ≤ cf ∧ cf ≤ maxLen ∧ (Af = none → cf = 0)

theorem RecIn.ok {w : World} {r : Rec} {Ad : Option Addr} {nd cd : Nat} {Af : Option Addr} {nf cf : Nat} (h : RecIn w r Ad nd cd Af nf cf) (hd : nd ≤ 400) (hf : nf ≤ 400) : RecOk r :=
  ⟨h.seq, h.thread, h.kind, h.obj, h.value, h.site, h.deps, h.from_, by rw [h.ld.lenI]; exact hd, by rw [h.lf.lenI]; exact hf⟩

set_option maxRecDepth 100000 in
set_option maxHeartbeats 3200000 in
theorem eventTells_any (A : Option Addr) (n c : Nat) (xs : Bytes) (r : Rec) (Ad : Option Addr) (nd cd : Nat) (Af : Option Addr) (nf cf : Nat) (seq : Int) (w : World)
    (h : Lies w w.heap.size 1 A n (xs.map bv)) (hnc : n ≤ c) (hcm : c ≤ maxLen) (ho : A = none → c = 0) (hr : RecIn w r Ad nd cd Af nf cf) (hs : inI64 seq) :
    Calls Try.prog 6 #[.slice A n c, .agg (recV r Ad nd cd Af nf cf), .int .i64 seq] w fun e w' => e = .returned (.bool true) ∧ Below w.heap.size w w' := by
  unfold maxLen at hcm
  have HR := Lib.hid hr
  have HS := Lib.hid hs
  have HO := Lib.hid ho
  have HXL := Lib.hid h.lenB
  clear hr hs ho
  by_cases h3 : 300 < n
  · unfold recV
    go_enter Try.func6, Try.ntmps6
    go_wp2_with fail
    go_ret
    exact ⟨rfl, (Below.refl _ _).alloc (Nat.le_refl _) _⟩
  · by_cases h4 : 400 < nd ∨ 400 < nf
    · have CL := Lib.hid (fun W => long_yes r Ad nd cd Af nf cf W h4)
      clear h4
      unfold recV at *
      go_enter Try.func6, Try.ntmps6
      go_wp2_with fail
      refine (CL.out _).mono ?_
      rintro e w1 ⟨rfl, hg1⟩
      go_wp2_with fail
      go_ret
      exact ⟨rfl, ((Below.refl _ _).alloc (Nat.le_refl _) _).grown hg1 (by simp) (fun k hk => by cases hk)⟩
    · have hnd : nd ≤ 400 := by omega
      have hnf : nf ≤ 400 := by omega
      have hok := HR.out.ok hnd hnf
      obtain ⟨W, hW⟩ : ∃ W, W = w.alloc (.cells (recV r Ad nd cd Af nf cf) 35) := ⟨_, rfl⟩
      have hb0 : W.heap[w.heap.size]? = some (.cells (recV r Ad nd cd Af nf cf) 35 (0, 0)) := by
        rw [hW]
        exact heap_alloc_new w _
      have hWg : w.grownBy W none := by rw [hW]; exact World.grownBy_alloc w _ none
      have HB0 := Lib.hid hb0
      have HW := Lib.hid hW
      have HOK := Lib.hid hok
      have CL := Lib.hid (long_no r Ad nd cd Af nf cf W hnd hnf)
      have lp := putRec_len hok seq
      clear hW hb0 h4 hok
      unfold recV at *
      go_enter Try.func6, Try.ntmps6
      go_wp2_with fail
      rw [show (w.alloc (.cells #[.int .i64 r.seq, .int .i64 r.ev.thread, .int .i64 r.ev.kind, .int .i64 r.ev.obj, .int .i64 r.ev.value, .int .i64 r.ev.site, .slice Ad nd cd, .slice Af nf cf] 35)) = W from HW.out.symm]
      refine CL.out.mono ?_
      rintro e W2 ⟨rfl, hg1⟩
      have hW2 : w.grownBy W2 none := grownBy_trans hWg hg1 (.inl rfl)
      have f0 : W2.cell? ⟨w.heap.size, 0, none⟩ = some (.int .i64 r.seq) := kept_cells hg1 HB0.out 0
      have f1 : W2.cell? ⟨w.heap.size, 1, none⟩ = some (.int .i64 r.ev.thread) := kept_cells hg1 HB0.out 1
      have f2 : W2.cell? ⟨w.heap.size, 2, none⟩ = some (.int .i64 r.ev.kind) := kept_cells hg1 HB0.out 2
      have f3 : W2.cell? ⟨w.heap.size, 3, none⟩ = some (.int .i64 r.ev.obj) := kept_cells hg1 HB0.out 3
      have f4 : W2.cell? ⟨w.heap.size, 4, none⟩ = some (.int .i64 r.ev.value) := kept_cells hg1 HB0.out 4
      have f5 : W2.cell? ⟨w.heap.size, 5, none⟩ = some (.int .i64 r.ev.site) := kept_cells hg1 HB0.out 5
      have f6 : W2.cell? ⟨w.heap.size, 6, none⟩ = some (.slice Ad nd cd) := kept_cells hg1 HB0.out 6
      have f7 : W2.cell? ⟨w.heap.size, 7, none⟩ = some (.slice Af nf cf) := kept_cells hg1 HB0.out 7
      have hA2 : Lies W2 w.heap.size 1 A n (xs.map bv) := h.grown hW2 (Nat.le_refl _) (fun g hg => by cases hg)
      have hd2 : Lies W2 w.heap.size 1 Ad nd (r.ev.deps.map iv) := HR.out.ld.grown hW2 (Nat.le_refl _) (fun g hg => by cases hg)
      have hf2 : Lies W2 w.heap.size 1 Af nf (r.ev.from_.map iv) := HR.out.lf.grown hW2 (Nat.le_refl _) (fun g hg => by cases hg)
      have CA := Lib.hid (appendP_any A n c w.heap.size xs r Ad nd cd Af nf cf seq W2.drew hA2.drew hnc (by omega) HOK.out HS.out hd2.drew hf2.drew hW2.size w.heap.size hW2.size)
      have CR := Lib.hid (fun w1 (hg : W2.grownBy w1 none) => appendR_any (W0 := w1) A n c w.heap.size xs r Ad nd cd Af nf cf seq w1 (hA2.grown hg hW2.size (fun g hg => by cases hg)) HO.out (by omega) HOK.out HS.out (World.grownBy.refl w1 none) ((hd2.grown hg hW2.size (fun g hg => by cases hg)).more (Nat.le_trans hW2.size hg.size)) ((hf2.grown hg hW2.size (fun g hg => by cases hg)).more (Nat.le_trans hW2.size hg.size)) w.heap.size (Nat.le_trans hW2.size hg.size))
      unfold recV at CA CR
      go_wp2_with fail
      go_region_held3 (fun w' => w'.cell? ⟨w.heap.size, 0, none⟩ = some (.int .i64 r.seq) ∧ w'.cell? ⟨w.heap.size, 1, none⟩ = some (.int .i64 r.ev.thread) ∧ w'.cell? ⟨w.heap.size, 2, none⟩ = some (.int .i64 r.ev.kind) ∧ w'.cell? ⟨w.heap.size, 3, none⟩ = some (.int .i64 r.ev.obj) ∧ w'.cell? ⟨w.heap.size, 4, none⟩ = some (.int .i64 r.ev.value) ∧ w'.cell? ⟨w.heap.size, 5, none⟩ = some (.int .i64 r.ev.site) ∧ w'.cell? ⟨w.heap.size, 6, none⟩ = some (.slice Ad nd cd) ∧ w'.cell? ⟨w.heap.size, 7, none⟩ = some (.slice Af nf cf))
        (first | go_keep | (refine ⟨?_, ?_, ?_, ?_, ?_, ?_, ?_, ?_⟩ <;> exact World.grownBy.cell (w := W2) (by assumption) (by assumption) (by simp)))
        (first
          | (go_at_call 33; ((with_reducible refine CA.out.mono ?_); rintro e w3 ⟨v3, rfl, hown3, hg3, hat3⟩; replace hg3 := grown_drew hg3; obtain ⟨A3, n3, c3, hv3, hO3⟩ := outR_of (W := W2) (base := w.heap.size) ⟨hown3, hg3, hat3.drew⟩; subst hv3))
          | (go_at_call 34; ((with_reducible refine (CR.out _ (by assumption)).mono ?_); rintro e w4 ⟨A4, n4, c4, rfl, hO4⟩; have hg4 := grownBy_trans hg3 hO4.1.2.1 (At.refl _ _)))
          | (go_at_call 32; have l3 := hO3.lies.grown hO4.1.2.1 (Nat.le_refl _) (fun g hg => by cases hg); have k3 := hO3.2.1; have k4 := hO4.2.1; have k5 : (xs ++ putRec r seq).length = n + (putRec r seq).length := (by rw [List.length_append, HXL.out]); (refine (same_any A3 A4 n3 n4 c3 c4 (xs ++ putRec r seq) (xs ++ putRec r seq) w4 w4.heap.size (l3.more hO4.1.2.1.size) hO4.lies (by omega) (by omega)).mono ?_); rintro e w5 ⟨rfl, q, rfl⟩; rw [show decide (xs ++ putRec r seq = xs ++ putRec r seq) = true from by simp]; clear k3 k4 k5)
          | (go_at_call 35; refine (awake11_any _).mono ?_; rintro e w' ⟨rfl, hbl⟩; have hg6 := grownBy_trans hg4 (grown_drewN (grown_below hbl none)) (At.refl _ _)))
      go_wp2_with fail
      go_ret
      have hb4 : Below w.heap.size w w4 := (Below.refl _ w).grown (grownBy_trans hW2 hg4 (At.refl _ _)) (Nat.le_refl _) (fun k hk => by cases hk)
      have hbq : Below w.heap.size w (w4.drewN q) := ⟨hb4.os, hb4.tape, hb4.output, hb4.size, hb4.block⟩
      exact ⟨rfl, hbq.trans (hbl.mono hb4.size)⟩
end Go.Proofs.Ytlcmffbikiamjaa
