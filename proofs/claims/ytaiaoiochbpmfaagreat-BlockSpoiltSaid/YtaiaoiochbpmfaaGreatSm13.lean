/- The sanity check of chapter 13. -/
import Derived.Test.YtaiaoiochbpmfaaGreatEnc
import Derived.Lib.SlBytesConst
import Derived.Test.YtaiaoiochbpmfaaGreatSameY
import Derived.Deep.DeepCutAuto
import Derived.Test.YtaiaoiochbpmfaaGreatRrec
import Derived.Test.YtaiaoiochbpmfaaGreatDec
import Derived.Test.YtaiaoiochbpmfaaGreatEncR
namespace Go.Proofs.YtaiaoiochbpmfaaGreat
open Go Go.RowKit Iv
set_option linter.unusedVariables false
def nineBytes : Bytes := [49, 50, 51, 52, 53, 54, 55, 56, 57]
theorem crc_nine : crc nineBytes = 3421780262 := by decide +kernel
set_option maxRecDepth 100000 in
set_option maxHeartbeats 400000 in
theorem awake13_any (w : World) :
    Calls Tryz.prog 19 #[] w fun e w' => e = .returned (.bool true) ∧ Below w.heap.size w w' := by
  have kc := fun (w : World) (C : Array Value) (n c : Nat) => Lib.run_convert_bytes_const (P := Tryz.prog) w 22 5 C n c Tryz.underlying22 Tryz.underlying5
  go_enter Tryz.func19, Tryz.ntmps19
  go_wp2_with fail
  clear kc
  refine (sumP_any _ _ _ nineBytes _ (w.heap.size + 1) ⟨rfl, fun _ => ⟨_, rfl, by simp, fun j u hu => ?_⟩⟩ (by omega)).mono ?_
  · have hj : (⟨w.heap.size, 0, none⟩ : Addr).add j = ⟨w.heap.size, j, none⟩ := by unfold Addr.add; split <;> simp_all
    rw [hj, World.cell?_alloc_mark]
    simpa [nineBytes, bv] using hu
  rintro e w' ⟨rfl, rfl⟩
  rw [crc_nine]
  go_wp2_with fail
  go_ret
  exact ⟨rfl, (Below.refl _ _).alloc (Nat.le_refl _) _⟩
end Go.Proofs.YtaiaoiochbpmfaaGreat

/- The walk of the reference's Unpack (chapter 12): 'unpack'. -/
namespace Go.Proofs.YtaiaoiochbpmfaaGreat
open Go Go.RowKit Iv
set_option linter.unusedVariables false
end Go.Proofs.YtaiaoiochbpmfaaGreat

/- The walk of the reference's reader of a payload (chapter 13). -/
namespace Go.Proofs.YtaiaoiochbpmfaaGreat
open Go Go.RowKit Iv
set_option linter.unusedVariables false
end Go.Proofs.YtaiaoiochbpmfaaGreat

/- How long an encoding is at most. -/
namespace Go.Proofs.YtaiaoiochbpmfaaGreat
open Go Go.RowKit Iv
end Go.Proofs.YtaiaoiochbpmfaaGreat

/- The walk of the reference's Decode (chapter 13): 'decode' too. -/
namespace Go.Proofs.YtaiaoiochbpmfaaGreat
open Go Go.RowKit Iv
set_option linter.unusedVariables false
end Go.Proofs.YtaiaoiochbpmfaaGreat

/- The walk of 'same'. -/
namespace Go.Proofs.YtaiaoiochbpmfaaGreat
open Go Go.RowKit Iv
set_option linter.unusedVariables false
set_option maxRecDepth 100000 in
set_option maxHeartbeats 3200000 in
theorem same13_yes (x : Blk) (A : Option Addr) (n c : Nat) (A' : Option Addr) (n' c' : Nat) (B : Nat) (w : World) (h : Recs w B A n x.recs) (h' : Recs w B A' n' x.recs) (hB : B ≤ w.heap.size) (hr : ∀ r ∈ x.recs, RecOk r) (hn : n ≤ 1000000) :
    Calls Tryz.prog 23 #[.agg #[.int .i64 x.thread, .int .i64 x.first, .slice A n c], .agg #[.int .i64 x.thread, .int .i64 x.first, .slice A' n' c']] w fun e w' => e = .returned (.bool true) ∧ w.grownBy w' none := by
  have hnn : n' = n := by rw [← h.1, ← h'.1]
  subst hnn
  obtain ⟨W, hW⟩ : ∃ W, W = (w.alloc (.cells #[.int .i64 x.thread, .int .i64 x.first, .slice A n' c] 53)).alloc (.cells #[.int .i64 x.thread, .int .i64 x.first, .slice A' n' c'] 53) := ⟨_, rfl⟩
  have hWg : w.grownBy W none := by rw [hW]; exact grownBy_trans (World.grownBy_alloc w _ none) (World.grownBy_alloc _ _ none) (.inl rfl)
  have hb0 : Held W w.heap.size 53 #[.int .i64 x.thread, .int .i64 x.first, .slice A n' c] := by rw [hW]; exact (Held.new _ _ _).alloc _
  have hb1 : Held W (w.heap.size + 1) 53 #[.int .i64 x.thread, .int .i64 x.first, .slice A' n' c'] := by rw [hW]; exact newAt _ _ (by simp) _ _
  have HW := Lib.hid hW
  have HB0 := Lib.hid hb0
  have HB1 := Lib.hid hb1
  have q0 : (x.thread != x.thread) = false := by simp
  have q1 : (x.first != x.first) = false := by simp
  have q2 : ((n' : Int) != (n' : Int)) = false := by simp
  have HROK := Lib.hid hr
  clear hW hb0 hb1 hr
  go_enter Tryz.func23, Tryz.ntmps23
  go_wp2_with fail
  rw [show (w.alloc (.cells #[.int .i64 x.thread, .int .i64 x.first, .slice A n' c] 53)).alloc (.cells #[.int .i64 x.thread, .int .i64 x.first, .slice A' n' c'] 53) = W from HW.out.symm]
  go_loopw [5] (fun iv wr => ∃ k : Nat, iv = .int .i64 (k : Int) ∧ k ≤ n' ∧ W.grownBy wr none) (fun iv _ => n' - (intOf iv).toNat)
  case atStart => exact ⟨0, rfl, Nat.zero_le _, World.grownBy.refl W none⟩
  case round =>
    obtain ⟨k, rfl, hk, hg⟩ := hrel
    have hgw := grownBy_trans hWg hg (.inl rfl)
    have f2 : wr.cell? ⟨w.heap.size, 2, none⟩ = some (.slice A n' c) := (HB0.out.grown hg (fun e => nomatch e)).cell 2
    have f3 : wr.cell? ⟨w.heap.size + 1, 2, none⟩ = some (.slice A' n' c') := (HB1.out.grown hg (fun e => nomatch e)).cell 2
    by_cases hlt : k < n'
    · obtain ⟨b, o, r, Ad, nd, cd, Af, nf, cf, hA, hb, hrk, hH⟩ := (h.grown hgw hB (fun _ e => nomatch e)).at hlt
      obtain ⟨b', o', r', Ad', nd', cd', Af', nf', cf', hA', hb', hrk', hH'⟩ := (h'.grown hgw hB (fun _ e => nomatch e)).at hlt
      have hrr : r' = r := by rw [hrk] at hrk'; exact (Option.some.inj hrk').symm
      subst hrr
      have hRO := HROK.out r' (List.mem_of_getElem? hrk)
      have CE := Lib.hid (sameEvent_yes r'.ev Ad nd cd Af nf cf Ad' nd' cd' Af' nf' cf' wr.drew B hH.ld.drew hH.lf.drew hH'.ld.drew hH'.lf.drew (by have := hRO.ld; omega) (by have := hRO.lf; omega))
      unfold evV at CE
      obtain ⟨c0, c1, c2, c3, c4, c5, c6, c7⟩ := hH.all
      obtain ⟨d0, d1, d2, d3, d4, d5, d6, d7⟩ := hH'.all
      have i0 : (0 : Int) ≤ (k : Int) := by omega
      have i1 : (k : Int) < (n' : Int) := by omega
      have q3 : (r'.seq != r'.seq) = false := by simp
      subst hA hA'
      clear hH hH' hrk hrk' hRO
      go_upto_region 6 with fail
      go_region_held3 (fun w' => w'.cell? ⟨w.heap.size, 2, none⟩ = some (.slice (some ⟨b, o, none⟩) n' c) ∧ w'.cell? ⟨w.heap.size + 1, 2, none⟩ = some (.slice (some ⟨b', o', none⟩) n' c') ∧
          w'.cell? ⟨b, o + k * 8, none⟩ = some (.int .i64 r'.seq) ∧ w'.cell? ⟨b', o' + k * 8, none⟩ = some (.int .i64 r'.seq) ∧
          w'.cell? ⟨b, o + k * 8 + 1, none⟩ = some (.int .i64 r'.ev.thread) ∧ w'.cell? ⟨b, o + k * 8 + 2, none⟩ = some (.int .i64 r'.ev.kind) ∧ w'.cell? ⟨b, o + k * 8 + 3, none⟩ = some (.int .i64 r'.ev.obj) ∧ w'.cell? ⟨b, o + k * 8 + 4, none⟩ = some (.int .i64 r'.ev.value) ∧ w'.cell? ⟨b, o + k * 8 + 5, none⟩ = some (.int .i64 r'.ev.site) ∧ w'.cell? ⟨b, o + k * 8 + 6, none⟩ = some (.slice Ad nd cd) ∧ w'.cell? ⟨b, o + k * 8 + 7, none⟩ = some (.slice Af nf cf) ∧
          w'.cell? ⟨b', o' + k * 8 + 1, none⟩ = some (.int .i64 r'.ev.thread) ∧ w'.cell? ⟨b', o' + k * 8 + 2, none⟩ = some (.int .i64 r'.ev.kind) ∧ w'.cell? ⟨b', o' + k * 8 + 3, none⟩ = some (.int .i64 r'.ev.obj) ∧ w'.cell? ⟨b', o' + k * 8 + 4, none⟩ = some (.int .i64 r'.ev.value) ∧ w'.cell? ⟨b', o' + k * 8 + 5, none⟩ = some (.int .i64 r'.ev.site) ∧ w'.cell? ⟨b', o' + k * 8 + 6, none⟩ = some (.slice Ad' nd' cd') ∧ w'.cell? ⟨b', o' + k * 8 + 7, none⟩ = some (.slice Af' nf' cf'))
        (first | go_keep | (refine ⟨?_, ?_, ?_, ?_, ?_, ?_, ?_, ?_, ?_, ?_, ?_, ?_, ?_, ?_, ?_, ?_, ?_, ?_⟩ <;> exact World.grownBy.cell (w := wr) (by assumption) (by assumption) (by simp)) | fail)
        (first | (go_at_call 51; ((with_reducible refine CE.out.mono ?_); rintro e w2 ⟨rfl, hg2⟩; replace hg2 := grown_drew hg2)) | fail)
      go_wp2_with fail
      go_roundw
      case rel => exact ⟨k + 1, by go_num, by omega, grownBy_trans hg hg2 (.inl rfl)⟩
      case measure => simp [intOf]; omega
    · go_wp2_with fail
      go_ret
      exact ⟨rfl, hgw⟩
end Go.Proofs.YtaiaoiochbpmfaaGreat
