/- Numbers as the walks spell them: shifts, masks and complements of the unsigned kinds. -/
import Derived.Test.YtaiaoiochbpmfaaGreatSum
import Derived.Test.YtaiaoiochbpmfaaGreatAlc
import Derived.Deep.RegionHeld3
import Derived.Deep.DeepCutAuto
namespace Iv
open Go Go.RowKit
theorem not64 {x : Nat} (h : x < 18446744073709551616) : 18446744073709551615 ^^^ x = 18446744073709551615 - x := by
  refine Nat.eq_of_testBit_eq fun i => ?_
  have e1 : (18446744073709551615 : Nat) = 2 ^ 64 - 1 := by decide
  have e2 : 18446744073709551615 - x = 2 ^ 64 - (x + 1) := by omega
  rw [e2, Nat.testBit_xor, e1, Nat.testBit_two_pow_sub_one, Nat.testBit_two_pow_sub_succ (by omega)]
  by_cases hi : i < 64
  · simp [hi]
  · have : x.testBit i = false := Nat.testBit_lt_two_pow (Nat.lt_of_lt_of_le h (by
      rw [show (18446744073709551616 : Nat) = 2 ^ 64 from by decide]
      exact Nat.pow_le_pow_right (by omega) (by omega)))
    simp [hi, this]
theorem zig_up {m : Int} (h : inI64 m) (h0 : ¬ m < 0) : IntKind.u64.wrap (IntKind.u64.wrap m * 2) = ((zig m : Nat) : Int) := by
  unfold inI64 at h
  unfold zig
  rw [if_neg h0, IntKind.wrap_u64, IntKind.wrap_u64]
  omega
theorem zig_down {m : Int} (h : inI64 m) (h0 : m < 0) : bits .xor .u64 IntKind.u64.max (IntKind.u64.wrap (IntKind.u64.wrap m * 2)) = ((zig m : Nat) : Int) := by
  unfold inI64 at h
  have e : IntKind.u64.wrap (IntKind.u64.wrap m * 2) = (((2 * m + 18446744073709551616).toNat : Nat) : Int) := by
    rw [IntKind.wrap_u64, IntKind.wrap_u64]
    omega
  rw [e]
  have hx := u64_xor_nat 18446744073709551615 ((2 * m + 18446744073709551616).toNat) (by omega) (by omega)
  rw [not64 (by omega)] at hx
  refine Eq.trans ?_ (hx.trans ?_)
  · rfl
  · unfold zig
    rw [if_pos h0]
    omega
theorem or128 (b : Nat) (h : b < 256) : b ||| 128 = b % 128 + 128 := by
  have : ∀ b : Fin 256, b.val ||| 128 = b.val % 128 + 128 := by decide +kernel
  exact this ⟨b, h⟩
theorem byte_or128 (u : Nat) : bits .or .u8 ((u : Int) % 256) 128 = ((u % 128 + 128 : Nat) : Int) := by
  have h := u8_or_nat (u % 256) 128 (by omega) (by omega)
  rw [or128 _ (by omega)] at h
  refine Eq.trans ?_ (h.trans ?_)
  · rfl
  · omega
end Iv

/- The walks of the two writers of an integer (chapter 11): both append 'putI'. -/
namespace Go.Proofs.YtaiaoiochbpmfaaGreat
open Go Go.RowKit Iv
set_option linter.unusedVariables false
set_option maxRecDepth 100000 in
set_option maxHeartbeats 400000 in
theorem putV_any (base : Nat) (v : Value) (o : Option Nat) (xs : Bytes) (m : Int) (w : World) (hApp : App w base 5 1 v o xs.length (xs.map bv)) (hm : inI64 m) (hx : xs.length ≤ 1000000000000) (hbase : base ≤ w.heap.size) :
    Calls Tryz.prog 62 #[v, .int .i64 m] w fun e w' => ∃ v', e = .returned v' ∧ w'.ownsRow base 5 1 v' (xs ++ putI m).length ((xs ++ putI m).map bv) ∧ w.grownBy w' o ∧ At w o v'.ownBlock := by
  obtain ⟨i0, hi, hz0, hz1, hz2⟩ := info_parts info_u8
  have HI := Lib.hid hi
  have HZ0 := Lib.hid hz0
  have HZ1 := Lib.hid hz1
  have HZ2 := Lib.hid hz2
  clear hi hz0 hz1 hz2
  have hzl := zig_lt hm.1 hm.2
  have HQ := Lib.hid (show putI m = vput (zig m) from rfl)
  have hlen := putI_len hm
  have hup : ¬ m < 0 → IntKind.u64.wrap (IntKind.u64.wrap m * 2) = ((zig m : Nat) : Int) := zig_up hm
  have hdn : m < 0 → bits .xor .u64 IntKind.u64.max (IntKind.u64.wrap (IntKind.u64.wrap m * 2)) = ((zig m : Nat) : Int) := zig_down hm
  have HM := Lib.hid hm
  clear hm
  go_enter Tryz.func62, Tryz.ntmps62
  by_cases hneg : m < 0
  all_goals
    first | (have hd := hdn hneg) | (have hd := hup hneg)
    clear hup hdn
    generalize zig m = q0 at *
    go_wp2
    clear hd
    go_loopw [0, 5] (fun b u wr => ∃ (o' : Option Nat) (ys : Bytes) (q : Nat), u = .int .u64 (q : Int) ∧ App wr base 5 1 b o' ys.length (ys.map bv) ∧ ys ++ vput q = xs ++ vput q0 ∧ w.grownBy wr o ∧ At w o o' ∧ base ≤ wr.heap.size)
      (fun _ u _ => (intOf u).toNat)
    case atStart => exact ⟨o, xs, q0, rfl, hApp, rfl, World.grownBy.refl w o, .inl rfl, hbase⟩
    case round =>
      obtain ⟨o', ys, q, rfl, hap, heq, hgr, hat, hbr⟩ := hrel
      have HE := Lib.hid heq
      have hll := congrArg List.length heq
      simp only [List.length_append] at hll
      have hyl : ys.length + 1 ≤ 1000000000100 := by
        have := vput_pos q
        have : putI m = vput q0 := HQ.out
        rw [this] at hlen
        omega
      clear heq hll
      by_cases hq : 128 ≤ q
      · have hor := byte_or128 q
        have HV := Lib.hid (vput_ge hq)
        have hz : (0 : Nat) < 1 := by omega
        go_wp2_with (at_builtin; refine wpList_app _ rfl (.tmp 15) (.tmp 19) _ rfl base 5 i0 (.int .u8 0) 1 1 Tryz.underlying22 HI.out HZ0.out HZ1.out HZ2.out rfl hz _ o' ys.length (ys.map bv) rfl (hap.alloc _) ⟨wr.heap.size, 0, none⟩ 1 1 [.int .u8 ((q : Int) % 128 + 128)] rfl hz rfl (cell_new1 _ _ _) (one1 rfl) (by unfold maxLen; omega) (by omega) (by simp; omega) ?_; intro v' w1 hown1 hg1 hat1)
        have hb : Value.int .u8 ((q : Int) % 128 + 128) = bv (UInt8.ofNat (q % 128 + 128)) := by
          unfold bv
          rw [ofNat_toNat_lt (by omega)]
          rfl
        rw [hb] at hown1
        have hg2 := grown_alloc hg1
        have hat2 := hat1.alloc
        clear hg1 hat1 hor hb
        go_roundw
        case rel =>
          refine ⟨v'.ownBlock, ys ++ [UInt8.ofNat (q % 128 + 128)], q / 128, by go_num, ?_, ?_, grownBy_trans hgr hg2 hat, hat.trans hat2 hgr.size, Nat.le_trans hbr hg2.size⟩
          · rw [List.length_append, List.map_append]
            exact App.own hown1
          · rw [List.append_assoc, ← HE.out, HV.out]
            rfl
        case measure => simp [intOf]; omega
      · have hz : (0 : Nat) < 1 := by omega
        have HV := Lib.hid (vput_lt (show q < 128 by omega))
        go_wp2_with (at_builtin; refine wpList_app _ rfl (.tmp 23) (.tmp 26) _ rfl base 5 i0 (.int .u8 0) 1 1 Tryz.underlying22 HI.out HZ0.out HZ1.out HZ2.out rfl hz _ o' ys.length (ys.map bv) rfl (hap.alloc _) ⟨wr.heap.size, 0, none⟩ 1 1 [.int .u8 (q : Int)] rfl hz rfl (cell_new1 _ _ _) (one1 rfl) (by unfold maxLen; omega) (by omega) (by simp; omega) ?_; intro v' w1 hown1 hg1 hat1)
        have hb : Value.int .u8 (q : Int) = bv (UInt8.ofNat q) := by
          unfold bv
          rw [ofNat_toNat_lt (by omega)]
        rw [hb] at hown1
        have HF : xs ++ putI m = ys ++ [UInt8.ofNat q] := by
          rw [show putI m = vput q0 from HQ.out, ← HE.out, HV.out]
        have hfin : w1.ownsRow base 5 1 v' (xs ++ putI m).length ((xs ++ putI m).map bv) := by
          rw [HF, List.length_append, List.map_append]
          exact hown1
        have HF2 := Lib.hid hfin
        clear hfin HF hb hown1
        go_ret
        exact ⟨v', rfl, HF2.out, grownBy_trans hgr (grown_alloc hg1) hat, hat.trans hat1.alloc hgr.size⟩
set_option maxRecDepth 100000 in
set_option maxHeartbeats 400000 in
theorem putInt_any (A : Option Addr) (n c B : Nat) (xs : Bytes) (m : Int) (w : World) (h : Lies w B 1 A n (xs.map bv)) (hnc : n ≤ c) (hm : inI64 m) (hx : n ≤ 1000000000000) (base : Nat) (hbase : base ≤ w.heap.size) :
    Calls Tryz.prog 39 #[.slice A n c, .int .i64 m] w fun e w' => ∃ v', e = .returned v' ∧ w'.ownsRow base 5 1 v' (xs ++ putI m).length ((xs ++ putI m).map bv) ∧ w.grownBy w' none ∧ At w none v'.ownBlock := by
  have HL := Lib.hid h.lenB
  have hc1 := putV_any base (.slice A n n) none xs m w (by rw [HL.out]; exact App.cut h) hm (by rw [HL.out]; exact hx) hbase
  have HC := Lib.hid hc1
  clear hc1 hm
  have h0 : (0 : Int) ≤ (n : Int) := by omega
  go_enter Tryz.func39, Tryz.ntmps39
  go_wp2_with fail
  refine HC.out.mono ?_
  rintro e w1 ⟨v', rfl, hown, hg, hat⟩
  go_wp2_with fail
  go_ret
  exact ⟨v', rfl, hown, hg, hat⟩
end Go.Proofs.YtaiaoiochbpmfaaGreat

/- The walk of the reference's writer of an integer (chapter 11). -/
namespace Go.Proofs.YtaiaoiochbpmfaaGreat
open Go Go.RowKit Iv
set_option linter.unusedVariables false
end Go.Proofs.YtaiaoiochbpmfaaGreat

/- The walks of the two writers of a record (chapter 11): both append 'putRec'. -/
namespace Go.Proofs.YtaiaoiochbpmfaaGreat
open Go Go.RowKit Iv
set_option linter.unusedVariables false
def recV (r : Rec) (Ad : Option Addr) (nd cd : Nat) (Af : Option Addr) (nf cf : Nat) : Array Value :=
  #[.int .i64 r.seq, .int .i64 r.ev.thread, .int .i64 r.ev.kind, .int .i64 r.ev.obj, .int .i64 r.ev.value, .int .i64 r.ev.site, .slice Ad nd cd, .slice Af nf cf]
theorem kept_cells {W w1 : World} (h : W.grownBy w1 none) {b : Nat} {cs : Array Value} {t : TypeId} (hb : W.heap[b]? = some (.cells cs t (0, 0))) (j : Nat) : w1.cell? ⟨b, j, none⟩ = cs[j]? := by
  have hlt : b < W.heap.size := (Array.getElem?_eq_some_iff.1 hb).1
  have e : w1.heap[b]? = W.heap[b]? := h.block b hlt (fun e => by cases e)
  rw [hb] at e
  exact cell_of_row w1 b j cs t (0, 0) e
def Out (W : World) (base : Nat) (v : Value) (ys : Bytes) (wr : World) : Prop :=
  wr.ownsRow base 5 1 v ys.length (ys.map bv) ∧ W.grownBy wr none ∧ At W none v.ownBlock
theorem Out.step {W w1 w2 : World} {base : Nat} {v v' : Value} {ys zs : Bytes} (h : Out W base v ys w1) (h2 : w2.ownsRow base 5 1 v' zs.length (zs.map bv)) (hg : w1.grownBy w2 v.ownBlock) (ha : At w1 v.ownBlock v'.ownBlock) : Out W base v' zs w2 :=
  ⟨h2, grownBy_trans h.2.1 hg h.2.2, h.2.2.trans ha h.2.1.size⟩
theorem put_out {W w1 : World} {base : Nat} {v : Value} {ys : Bytes} (m : Int) (h : Out W base v ys w1) (hm : inI64 m) (hl : ys.length ≤ 1000000000000) (hb : base ≤ W.heap.size) :
    Calls Tryz.prog 62 #[v, .int .i64 m] w1 fun e w' => ∃ v', e = .returned v' ∧ Out W base v' (ys ++ putI m) w' :=
  (putV_any base v v.ownBlock ys m w1 (App.own h.1) hm hl (Nat.le_trans hb h.2.1.size)).mono fun e w' ⟨v', he, h1, h2, h3⟩ => ⟨v', he, h.step h1 h2 h3⟩
set_option maxRecDepth 100000 in
set_option maxHeartbeats 3200000 in
theorem appendP_any (A : Option Addr) (n c B : Nat) (xs : Bytes) (r : Rec) (Ad : Option Addr) (nd cd : Nat) (Af : Option Addr) (nf cf : Nat) (seq : Int) (w : World)
    (h : Lies w B 1 A n (xs.map bv)) (hnc : n ≤ c) (hn : n ≤ 100000000000) (hr : RecOk r) (hs : inI64 seq)
    (hd : Lies w B 1 Ad nd (r.ev.deps.map iv)) (hf : Lies w B 1 Af nf (r.ev.from_.map iv)) (hB : B ≤ w.heap.size) (base : Nat) (hbase : base ≤ w.heap.size) :
    Calls Tryz.prog 37 #[.slice A n c, .agg (recV r Ad nd cd Af nf cf), .int .i64 seq] w fun e w' => ∃ v', e = .returned v' ∧ w'.ownsRow base 5 1 v' (xs ++ putRec r seq).length ((xs ++ putRec r seq).map bv) ∧ w.grownBy w' none ∧ At w none v'.ownBlock := by
  have HR := Lib.hid hr
  have HXL := Lib.hid h.lenB
  obtain ⟨W, hW⟩ : ∃ W, W = (w.alloc (.cells (recV r Ad nd cd Af nf cf) 71)).alloc (.cells #[.int .i64 r.ev.thread, .int .i64 r.ev.kind, .int .i64 r.ev.obj, .int .i64 r.ev.value, .int .i64 r.ev.site, .slice Ad nd cd, .slice Af nf cf] 69) := ⟨_, rfl⟩
  have hWg : w.grownBy W none := by
    rw [hW]
    exact grownBy_trans (World.grownBy_alloc w _ none) (World.grownBy_alloc _ _ none) (.inl rfl)
  have hb1 : W.heap[w.heap.size + 1]? = some (.cells #[.int .i64 r.ev.thread, .int .i64 r.ev.kind, .int .i64 r.ev.obj, .int .i64 r.ev.value, .int .i64 r.ev.site, .slice Ad nd cd, .slice Af nf cf] 69 (0, 0)) := by
    rw [hW]
    have := heap_alloc_new (w.alloc (.cells (recV r Ad nd cd Af nf cf) 71)) (.cells #[.int .i64 r.ev.thread, .int .i64 r.ev.kind, .int .i64 r.ev.obj, .int .i64 r.ev.value, .int .i64 r.ev.site, .slice Ad nd cd, .slice Af nf cf] 69)
    rwa [World.size_alloc] at this
  have hb0 : W.heap[w.heap.size]? = some (.cells (recV r Ad nd cd Af nf cf) 71 (0, 0)) := by
    rw [hW]
    refine (Below.heap_alloc _ _ _ (by simp)).trans ?_
    exact heap_alloc_new w _
  have c0 : W.cell? ⟨w.heap.size, 0, none⟩ = some (.int .i64 r.seq) := (kept_cells (World.grownBy.refl W none) hb0 0)
  have HW := Lib.hid hW
  have HB1 := Lib.hid hb1
  clear hW hb1 hb0
  have hbW : base ≤ W.heap.size := Nat.le_trans hbase hWg.size
  have hA : Lies W B 1 A n (xs.map bv) := h.grown hWg hB (fun g hg => by cases hg)
  have hdW : Lies W B 1 Ad nd (r.ev.deps.map iv) := hd.grown hWg hB (fun g hg => by cases hg)
  have hfW : Lies W B 1 Af nf (r.ev.from_.map iv) := hf.grown hWg hB (fun g hg => by cases hg)
  have CP0 := putV_any base (.slice A n n) none xs (wrap64 (r.seq - seq)) W.drew (by rw [HXL.out]; exact App.cut (hA.drew)) (wrap64_i64 _) (by rw [HXL.out]; omega) hbW
  rw [← IntWalk.i64_left] at CP0
  have CP := Lib.hid CP0
  clear CP0
  have h0 : (0 : Int) ≤ (n : Int) := by omega
  unfold recV at *
  clear hr
  go_enter Tryz.func37, Tryz.ntmps37
  go_wp2_with fail
  rw [show (w.alloc (.cells #[.int .i64 r.seq, .int .i64 r.ev.thread, .int .i64 r.ev.kind, .int .i64 r.ev.obj, .int .i64 r.ev.value, .int .i64 r.ev.site, .slice Ad nd cd, .slice Af nf cf] 71)).alloc (.cells #[.int .i64 r.ev.thread, .int .i64 r.ev.kind, .int .i64 r.ev.obj, .int .i64 r.ev.value, .int .i64 r.ev.site, .slice Ad nd cd, .slice Af nf cf] 69) = W from HW.out.symm]
  go_region_held3 (fun w' => w'.cell? ⟨w.heap.size, 0, none⟩ = some (.int .i64 r.seq)) (first | go_keep | exact World.grownBy.cell (by assumption) c0 (by simp)) (first
    | (go_at_call 62; ((with_reducible refine CP.out.mono ?_); rintro e w1 ⟨v1, rfl, hown1, hg1, hat1⟩; replace hg1 := grown_drew hg1; replace hat1 := At.drew hat1)))
  rw [IntWalk.i64_left] at hown1
  have lxs : xs.length ≤ 100000000000 := by rw [HXL.out]; exact hn
  have ls := putI_len (wrap64_i64 (r.seq - seq))
  have lk := putI_len HR.out.kind
  have lo := putI_len HR.out.obj
  have lv := putI_len HR.out.value
  have lt := putI_len HR.out.site
  have lp := putRec_len HR.out seq
  obtain ⟨y1, hy1⟩ : ∃ y, y = xs ++ putI (wrap64 (r.seq - seq)) := ⟨_, rfl⟩
  rw [← hy1] at hown1
  have b1 : y1.length ≤ 100000000010 := by rw [hy1, List.length_append]; omega
  have HY1 := Lib.hid hy1
  have hO1 : Out W base v1 y1 w1 := ⟨hown1, hg1, hat1⟩
  clear hown1 hg1 hat1 c0 hy1
  have d1 : w1.cell? ⟨w.heap.size + 1, 1, none⟩ = some (.int .i64 r.ev.kind) := kept_cells hO1.2.1 HB1.out 1
  go_wp2_with fail
  refine (put_out r.ev.kind hO1 HR.out.kind (by omega) hbW).mono ?_
  rintro e w2 ⟨v2, rfl, hO2⟩
  obtain ⟨y2, hy2⟩ : ∃ y, y = y1 ++ putI r.ev.kind := ⟨_, rfl⟩
  rw [← hy2] at hO2
  have b2 : y2.length ≤ 100000000020 := by rw [hy2, List.length_append]; omega
  have HY2 := Lib.hid hy2
  clear hy2 d1 hO1
  have d2 : w2.cell? ⟨w.heap.size + 1, 2, none⟩ = some (.int .i64 r.ev.obj) := kept_cells hO2.2.1 HB1.out 2
  go_wp2_with fail
  refine (put_out r.ev.obj hO2 HR.out.obj (by omega) hbW).mono ?_
  rintro e w3 ⟨v3, rfl, hO3⟩
  obtain ⟨y3, hy3⟩ : ∃ y, y = y2 ++ putI r.ev.obj := ⟨_, rfl⟩
  rw [← hy3] at hO3
  have b3 : y3.length ≤ 100000000030 := by rw [hy3, List.length_append]; omega
  have HY3 := Lib.hid hy3
  clear hy3 d2 hO2
  have d3 : w3.cell? ⟨w.heap.size + 1, 3, none⟩ = some (.int .i64 r.ev.value) := kept_cells hO3.2.1 HB1.out 3
  go_wp2_with fail
  refine (put_out r.ev.value hO3 HR.out.value (by omega) hbW).mono ?_
  rintro e w4 ⟨v4, rfl, hO4⟩
  obtain ⟨y4, hy4⟩ : ∃ y, y = y3 ++ putI r.ev.value := ⟨_, rfl⟩
  rw [← hy4] at hO4
  have b4 : y4.length ≤ 100000000040 := by rw [hy4, List.length_append]; omega
  have HY4 := Lib.hid hy4
  clear hy4 d3 hO3
  have d4 : w4.cell? ⟨w.heap.size + 1, 4, none⟩ = some (.int .i64 r.ev.site) := kept_cells hO4.2.1 HB1.out 4
  go_wp2_with fail
  refine (put_out r.ev.site hO4 HR.out.site (by omega) hbW).mono ?_
  rintro e w5 ⟨v5, rfl, hO5⟩
  obtain ⟨y5, hy5⟩ : ∃ y, y = y4 ++ putI r.ev.site := ⟨_, rfl⟩
  rw [← hy5] at hO5
  have b5 : y5.length ≤ 100000000050 := by rw [hy5, List.length_append]; omega
  have HY5 := Lib.hid hy5
  clear hy5 d4 hO4
  have d5 : w5.cell? ⟨w.heap.size + 1, 5, none⟩ = some (.slice Ad nd cd) := kept_cells hO5.2.1 HB1.out 5
  have d6 : w5.cell? ⟨w.heap.size + 1, 6, none⟩ = some (.slice Af nf cf) := kept_cells hO5.2.1 HB1.out 6
  obtain ⟨full, hfull⟩ : ∃ f, f = xs ++ putRec r seq := ⟨_, rfl⟩
  have hf5 : y5 ++ (putL r.ev.deps ++ putL r.ev.from_) = full := by
    rw [hfull, HY5.out, HY4.out, HY3.out, HY2.out, HY1.out]
    unfold putRec
    simp only [List.append_assoc]
  have bF : full.length ≤ 100000010000 := by rw [hfull, List.length_append]; omega
  have HF := Lib.hid hfull
  have HF5 := Lib.hid hf5
  clear hfull hf5 ls lk lo lv lt lp
  go_wp2_with fail
  clear d5 d6
  go_loopw [0, 47] (fun v i wr => ∃ (kk : Int) (ys : Bytes), i = .int .i64 kk ∧ Out W base v ys wr ∧ ((kk = 0 ∧ ys ++ (putL r.ev.deps ++ putL r.ev.from_) = full) ∨ (kk = 1 ∧ ys ++ putL r.ev.from_ = full) ∨ (kk = 2 ∧ ys = full))) (fun _ i _ => (2 - intOf i).toNat)
  case atStart => exact ⟨0, y5, rfl, hO5, .inl ⟨rfl, HF5.out⟩⟩
  case round =>
    clear hO5
    obtain ⟨kk, ys, rfl, hO, hcs⟩ := hrel
    by_cases h2 : kk = 2
    · subst h2
      have hyf : ys = full := by
        rcases hcs with ⟨h, _⟩ | ⟨h, _⟩ | ⟨_, h⟩
        · exact absurd h (by decide)
        · exact absurd h (by decide)
        · exact h
      clear hcs
      have hO' := hO
      rw [hyf] at hO'
      have HO := Lib.hid hO'
      clear hyf hO'
      go_wp2_with fail
      go_ret
      refine ⟨_, rfl, ?_⟩
      rw [← HF.out]
      exact ⟨HO.out.1, grownBy_trans hWg HO.out.2.1 (.inl rfl), (At.refl w none).trans HO.out.2.2 hWg.size⟩
    · have hix : ∃ (L : List Int) (Al : Option Addr) (nl cl : Nat) (rest : Bytes), Lies W B 1 Al nl (L.map iv) ∧ allI64 L ∧ L.length ≤ 400 ∧
          (∀ w, (Instr.index 143 (.agg #[.slice Ad nd cd, .slice Af nf cf]) (.int .i64 kk)).run Tryz.prog w = .ok (.slice Al nl cl) w) ∧ ys ++ (putL L ++ rest) = full ∧
          ((kk + 1 = 1 ∧ rest = putL r.ev.from_) ∨ (kk + 1 = 2 ∧ rest = [])) := by
        rcases hcs with ⟨rfl, h⟩ | ⟨rfl, h⟩ | ⟨h, _⟩
        · exact ⟨_, Ad, nd, cd, _, hdW, HR.out.deps, HR.out.ld, (fun w => by kernel_rfl), h, .inl ⟨rfl, rfl⟩⟩
        · exact ⟨_, Af, nf, cf, [], hfW, HR.out.from_, HR.out.lf, (fun w => by kernel_rfl), by rw [List.append_nil]; exact h, .inr ⟨rfl, rfl⟩⟩
        · exact absurd h h2
      obtain ⟨L, Al, nl, cl, rest, hLi, hLa, hLl, hidx, hsum, hnext⟩ := hix
      have hk01 : 0 ≤ kk ∧ kk ≤ 1 := by
        rcases hnext with ⟨h, _⟩ | ⟨h, _⟩ <;> omega
      have HS := Lib.hid hsum
      have HN := Lib.hid hnext
      have HLA := Lib.hid hLa
      have hll : L.length = nl := hLi.lenI
      have HLL := Lib.hid hll
      have bn : nl ≤ 400 := by omega
      have bys : ys.length ≤ 100000010000 := by
        have := congrArg List.length hsum
        simp only [List.length_append] at this
        omega
      clear hcs h2 hsum hnext hLa hll
      obtain ⟨hk0, hk1⟩ := hk01
      go_wp2_with fail
      refine (put_out (nl : Int) hO ⟨by omega, by omega⟩ (by omega) hbW).mono ?_
      rintro e w6 ⟨v6, rfl, hO6⟩
      go_wp2_with fail
      have hBW : B ≤ W.heap.size := Nat.le_trans hB hWg.size
      have hst : (ys ++ putI (nl : Int)) ++ (putDeltas 0 (L.drop 0) ++ rest) = full := by
        have := HS.out
        unfold putL at this
        rw [HLL.out] at this
        rw [List.drop_zero, ← this]
        simp only [List.append_assoc]
      have HST := Lib.hid hst
      clear hst hO
      go_loopw [0, 10, 56] (fun v la j wr => ∃ (k : Nat) (last : Int) (zs : Bytes), j = .int .i64 k ∧ k ≤ nl ∧ la = .int .i64 last ∧ Out W base v zs wr ∧ zs ++ (putDeltas last (L.drop k) ++ rest) = full) (fun _ _ j _ => nl - (intOf j).toNat)
      case atStart => exact ⟨0, 0, ys ++ putI (nl : Int), rfl, by omega, rfl, hO6, HST.out⟩
      case round =>
        clear hO6
        obtain ⟨k, last, zs, rfl, hkn, rfl, hOz, hz⟩ := hrel
        have bz : zs.length ≤ 100000010000 := by
          have := congrArg List.length hz
          simp only [List.length_append] at this
          omega
        by_cases hlt : k < nl
        · obtain ⟨ad, x, rfl, hb1, hx, hc⟩ := (hLi.grown hOz.2.1 hBW (fun g hg => by cases hg)).int hlt
          have hdrop : L.drop k = x :: L.drop (k + 1) := by
            obtain ⟨hl, hx'⟩ := List.getElem?_eq_some_iff.1 hx
            rw [List.drop_eq_getElem_cons hl, hx']
          rw [hdrop] at hz
          simp only [putDeltas] at hz
          have HZ := Lib.hid hz
          clear hz hdrop hx
          go_wp2_with fail
          refine (put_out (wrap64 (x - last)) hOz (wrap64_i64 _) (by omega) hbW).mono ?_
          rintro e w7 ⟨v7, rfl, hO7⟩
          go_wp2_with fail
          go_roundw
          case rel => exact ⟨k + 1, x, zs ++ putI (wrap64 (x - last)), by go_num, by omega, rfl, hO7, by rw [← HZ.out]; simp only [List.append_assoc]⟩
          case measure => simp [intOf]; omega
        · have hnil : L.drop k = [] := List.drop_eq_nil_of_le (by have := HLL.out; omega)
          rw [hnil] at hz
          have HZ : Hid (zs ++ rest = full) := by
            simp only [putDeltas, List.nil_append] at hz
            exact hz
          clear hz hnil
          go_wp2_with fail
          go_roundw
          case rel =>
            refine ⟨kk + 1, zs, rfl, hOz, ?_⟩
            have hz := HZ.out
            rcases HN.out with ⟨h, hr⟩ | ⟨h, hr⟩
            · exact .inr (.inl ⟨h, by rw [← hr]; exact hz⟩)
            · exact .inr (.inr ⟨h, by rw [hr, List.append_nil] at hz; exact hz⟩)
          case measure => simp [intOf]; omega
end Go.Proofs.YtaiaoiochbpmfaaGreat
