/- The walks of sumBytes and Encode (chapter 13). -/
import Derived.Test.YtfbkkgfkhhibfaaGreatFits
import Derived.Test.YtfbkkgfkhhibfaaGreatRrow
import Derived.Test.YtfbkkgfkhhibfaaGreatPkP
import Derived.Test.YtfbkkgfkhhibfaaGreatSum
import Derived.Deep.DeepCutAuto
import Derived.ProofKit
import Derived.OpenShut
import Derived.ChangeOld
namespace Go.Proofs.YtfbkkgfkhhibfaaGreat
open Go Go.RowKit Iv
set_option linter.unusedVariables false
theorem bv_ofNat (n : Nat) : bv (UInt8.ofNat n) = .int .u8 ((n : Int) % 256) := by
  unfold bv
  congr 1
theorem sum4_cells (s : Nat) (h : s < 4294967296) : (#[.int .u8 ((s : Int) / 16777216), .int .u8 ((s : Int) / 65536 % 256), .int .u8 ((s : Int) / 256 % 256), .int .u8 ((s : Int) % 256)] : Array Value) = ((sum4 s).map bv).toArray := by
  unfold sum4
  simp only [List.map_cons, List.map_nil, bv_ofNat]
  rw [show ((s / 16777216 : Nat) : Int) % 256 = (s : Int) / 16777216 from by omega, show ((s / 65536 : Nat) : Int) % 256 = (s : Int) / 65536 % 256 from by omega, show ((s / 256 : Nat) : Int) % 256 = (s : Int) / 256 % 256 from by omega]
set_option maxRecDepth 100000 in
set_option maxHeartbeats 800000 in
theorem sumBytes_any (A : Option Addr) (n c B : Nat) (xs : Bytes) (w : World) (h : Lies w B 1 A n (xs.map bv)) (hB : B ≤ w.heap.size) (hn : n ≤ 1000000000) :
    Calls Tryz.prog 82 #[.slice A n c] w fun e w' => e = .returned (.agg ((sum4 (crc xs)).map bv).toArray) ∧ w.grownBy w' none := by
  have CS := Lib.hid (fun (W : World) (hg : w.grownBy W none) => sumP_any A n c xs W B (h.grown hg hB (fun _ e => nomatch e)) (by omega))
  have hlt := crc_lt xs
  obtain ⟨s, hs⟩ : ∃ s, s = crc xs := ⟨_, rfl⟩
  rw [← hs] at CS hlt ⊢
  have HS := Lib.hid hlt
  clear hs
  go_enter Tryz.func82, Tryz.ntmps82
  go_wp2_with fail
  refine (CS.out _ (World.grownBy_alloc w _ none)).mono ?_
  rintro e w1 ⟨rfl, rfl⟩
  go_wp2_with fail
  refine bodyPost_ret (v := .agg #[.int .u8 ((s : Int) / 16777216), .int .u8 ((s : Int) / 65536 % 256), .int .u8 ((s : Int) / 256 % 256), .int .u8 ((s : Int) % 256)]) (by simp [results, Tryz.results82, go_sem]) rfl ⟨?_, World.grownBy_alloc w _ none⟩
  rw [sum4_cells s HS.out]
structure RecNums (r : Rec) : Prop where
  seq : inI64 r.seq
  thread : inI64 r.ev.thread
  kind : inI64 r.ev.kind
  obj : inI64 r.ev.obj
  value : inI64 r.ev.value
  site : inI64 r.ev.site
  deps : allI64 r.ev.deps
  from_ : allI64 r.ev.from_
theorem recOk_of {thread seq : Int} {rs : List Rec} (h : okRecs thread seq rs = true) (hn : ∀ r ∈ rs, RecNums r) : ∀ r ∈ rs, RecOk r := by
  intro r hr
  have h1 := okRecs_thread thread rs seq h r hr
  have h2 := hn r hr
  exact ⟨h2.seq, h2.thread, h2.kind, h2.obj, h2.value, h2.site, h2.deps, h2.from_, h1.2.1, h1.2.2.1⟩
theorem putRecs_drop {rs : List Rec} {k : Nat} {r : Rec} (hr : rs[k]? = some r) (seq : Int) : putRecs seq (rs.drop k) = putRec r seq ++ putRecs r.seq (rs.drop (k + 1)) := by
  obtain ⟨hl, rfl⟩ := List.getElem?_eq_some_iff.1 hr
  rw [List.drop_eq_getElem_cons hl, putRecs]
def putAll : List Int → Bytes
  | [] => []
  | n :: t => putI n ++ putAll t
theorem putAll_four (a b c d : Int) : putAll [a, b, c, d] = putI a ++ (putI b ++ (putI c ++ putI d)) := by simp [putAll]
def EncOut (w : World) (base : Nat) (x : Blk) (e : Ending) (w' : World) : Prop :=
  ∃ v', e = .returned (.tuple #[v', .int .i64 (encode x).2]) ∧ w'.ownsRow base 5 1 v' (encode x).1.length ((encode x).1.map bv) ∧ w.grownBy w' none
theorem encOut_bad {w w' : World} {base : Nat} {x : Blk} {er : Int} (hf : fits x = er) (h0 : er ≠ 0) (hg : w.grownBy w' none) : EncOut w base x (.returned (.tuple #[.slice none 0 0, .int .i64 er])) w' := by
  have : encode x = ([], er) := by unfold encode; rw [hf, if_neg h0]
  refine ⟨.slice none 0 0, by rw [this], ?_, hg⟩
  rw [this]
  exact World.ownsRow_nil _ _ _ _
theorem own_lit (w : World) (base : Nat) (e : TypeId) (xs : List Value) (hb : base ≤ w.heap.size) (hm : xs.length ≤ maxLen) : (w.alloc (.cells xs.toArray e)).ownsRow base e 1 (.slice (some ⟨w.heap.size, 0, none⟩) xs.length xs.length) xs.length xs :=
  ⟨by simp, .inr ⟨w.heap.size, xs.length, xs.toArray, rfl, hb, heap_alloc_new w _, Nat.le_refl _, hm, by simp, by simp⟩⟩
theorem head_cells (t : Int) (h : 0 ≤ t ∧ t < 4) : ([.int .u8 84, .int .u8 t] : List Value) = ([84, UInt8.ofNat (t % 256).toNat] : Bytes).map bv := by
  simp only [List.map_cons, List.map_nil, bv_ofNat]
  rw [show (((t % 256).toNat : Nat) : Int) % 256 = t from by omega]
  rfl
theorem addr0 (g j : Nat) : (⟨g, 0, none⟩ : Addr).add j = ⟨g, j, none⟩ := by unfold Addr.add; split <;> simp_all
theorem lies_held {W : World} {g : Nat} {T : TypeId} {xs : List Value} (h : Held W g T xs.toArray) : Lies W (g + 1) 1 (some ⟨g, 0, none⟩) xs.length xs :=
  ⟨by simp, fun _ => ⟨_, rfl, Nat.lt_succ_self _, fun j u hu => by rw [addr0, h.cell j]; simpa using hu⟩⟩
theorem sum4_parts (c : Nat) : ∃ a b d e : UInt8, sum4 c = [a, b, d, e] := ⟨_, _, _, _, rfl⟩
theorem encode_good {x : Blk} (h : fits x = 0) : encode x = (blkBytes x, 0) := by unfold encode; rw [if_pos h]
set_option maxRecDepth 100000 in
set_option maxHeartbeats 3200000 in
theorem encodeP_good (x : Blk) (A : Option Addr) (n c B : Nat) (w : World) (h : Recs w B A n x.recs) (hB : B ≤ w.heap.size) (hin : ∀ r ∈ x.recs, RecNums r) (hf0 : fits x = 0) (base : Nat) (hbase : base ≤ w.heap.size) :
    Calls Tryz.prog 46 #[.agg #[.int .i64 x.thread, .int .i64 x.first, .slice A n c]] w (EncOut w base x) := by
  have HL := Lib.hid h.1
  obtain ⟨z0, z1, z2, z3, z4, z5, z6⟩ := fits_zero hf0
  have hn64 : n ≤ 64 := by rw [← h.1]; exact z1
  have hnpos : 0 < n := by rw [← h.1]; exact z0
  have hok : okBlk x = true := by
    unfold fits at hf0
    rw [if_neg (by omega)] at hf0
    split at hf0
    · assumption
    · cases hf0
  obtain ⟨W, hW⟩ : ∃ W, W = w.alloc (.cells #[.int .i64 x.thread, .int .i64 x.first, .slice A n c] 50) := ⟨_, rfl⟩
  have hWg : w.grownBy W none := by rw [hW]; exact World.grownBy_alloc w _ none
  have hb0 : Held W w.heap.size 50 #[.int .i64 x.thread, .int .i64 x.first, .slice A n c] := by rw [hW]; exact Held.new _ _ _
  have HW := Lib.hid hW
  have HB0 := Lib.hid hb0
  have HOKS := Lib.hid (recOk_of z6 hin)
  have HIN := Lib.hid hin
  have hpl := putRecs_len x.recs (-1) (recOk_of z6 hin)
  rw [h.1] at hpl
  obtain ⟨P, hP⟩ : ∃ P, P = putRecs (-1) x.recs := ⟨_, rfl⟩
  rw [← hP] at hpl
  have HP := Lib.hid hP
  have CA := Lib.hid (allowed_any x A n c B W (h.grown hWg hB (fun _ e => nomatch e)) (Nat.le_trans hB hWg.size) (by omega))
  rw [hok] at CA
  have HF0 := Lib.hid hf0
  have hbW : base ≤ W.heap.size := Nat.le_trans hbase hWg.size
  clear hW hb0 hok z0 z1 z6 hP hin hf0
  go_enter Tryz.func46, Tryz.ntmps46
  go_wp2_with fail
  rw [show w.alloc (.cells #[.int .i64 x.thread, .int .i64 x.first, .slice A n c] 50) = W from HW.out.symm]
  refine CA.out.mono ?_
  rintro e w1 ⟨rfl, hg1⟩
  have HB1 := Lib.hid (HB0.out.grown hg1 (fun e => nomatch e))
  have f0 : w1.cell? ⟨w.heap.size, 0, none⟩ = some (.int .i64 x.thread) := HB1.out.cell 0
  have f1 : w1.cell? ⟨w.heap.size, 1, none⟩ = some (.int .i64 x.first) := HB1.out.cell 1
  have f2 : w1.cell? ⟨w.heap.size, 2, none⟩ = some (.slice A n c) := HB1.out.cell 2
  go_wp2_with fail
  clear f0 f1 f2
  go_loopw [4, 5, 7, 23] (fun pv sv _ iv wr => ∃ (k : Nat) (seq : Int) (ys : Bytes) (vv : Value), vv = pv ∧ iv = .int .i64 (k : Int) ∧ k ≤ n ∧ sv = .int .i64 seq ∧ inI64 seq ∧ wr.ownsRow base 5 1 vv ys.length (ys.map bv) ∧ W.grownBy wr none ∧ At W none vv.ownBlock ∧ ys ++ putRecs seq (x.recs.drop k) = P) (fun _ _ _ iv _ => n - (intOf iv).toNat)
  case atStart => exact ⟨0, -1, [], _, rfl, rfl, Nat.zero_le _, rfl, ⟨by omega, by omega⟩, World.ownsRow_nil _ _ _ _, hg1, .inl rfl, by rw [HP.out]; rfl⟩
  case round =>
    clear hg1
    obtain ⟨k, seq, ys, vv, rfl, rfl, hk, rfl, hseq, hown, hg, hat, heq⟩ := hrel
    have HE := Lib.hid heq
    have hyl : ys.length ≤ 600000 := by
      have := congrArg List.length heq
      rw [List.length_append] at this
      omega
    have hgw := grownBy_trans hWg hg (.inl rfl)
    have hbr : base ≤ wr.heap.size := Nat.le_trans hbase hgw.size
    clear heq
    by_cases hlt : k < n
    · obtain ⟨b, o, r, Ad, nd, cd, Af, nf, cf, hA, hb, hr, hH⟩ := (h.grown hgw hB (fun _ e => nomatch e)).at hlt
      obtain ⟨c0, c1, c2, c3, c4, c5, c6, c7⟩ := hH.all
      obtain ⟨Ap, cp, hpv, hpc, hpm, hpl2, hpo⟩ := own_slice hown
      subst hpv
      obtain ⟨W2, hW2⟩ : ∃ W2, W2 = wr.alloc (.cells #[.int .i64 r.seq, .int .i64 r.ev.thread, .int .i64 r.ev.kind, .int .i64 r.ev.obj, .int .i64 r.ev.value, .int .i64 r.ev.site, .slice Ad nd cd, .slice Af nf cf] 54) := ⟨_, rfl⟩
      have hg12 : wr.grownBy W2 none := by rw [hW2]; exact World.grownBy_alloc wr _ none
      have hb2 : Held W2 wr.heap.size 54 (recV r Ad nd cd Af nf cf) := by rw [hW2]; exact Held.new _ _ _
      have HB2 := Lib.hid hb2
      have HW2 := Lib.hid hW2
      have hBr : B ≤ wr.heap.size := Nat.le_trans hB hgw.size
      have hrm : r ∈ x.recs := List.mem_of_getElem? hr
      have HRO := Lib.hid (HOKS.out r hrm)
      have CAP := Lib.hid (appendP_any Ap ys.length cp wr.heap.size ys r Ad nd cd Af nf cf seq W2 (hpl2.grown hg12 (Nat.le_refl _) (fun _ e => nomatch e)) hpc (by omega) HRO.out hseq
        ((hH.ld.grown hg12 hBr (fun _ e => nomatch e)).more hBr) ((hH.lf.grown hg12 hBr (fun _ e => nomatch e)).more hBr) hg12.size base (Nat.le_trans hbr hg12.size))
      unfold recV at CAP
      have HPD := Lib.hid (putRecs_drop hr seq)
      have HG12 := Lib.hid hg12
      clear hH hr hW2 hb2 hpl2 hown hg12 hrm
      subst hA
      go_upto_region 10 with fail
      rw [show wr.alloc (.cells #[.int .i64 r.seq, .int .i64 r.ev.thread, .int .i64 r.ev.kind, .int .i64 r.ev.obj, .int .i64 r.ev.value, .int .i64 r.ev.site, .slice Ad nd cd, .slice Af nf cf] 54) = W2 from HW2.out.symm]
      clear c0 c1 c2 c3 c4 c5 c6 c7
      obtain ⟨d0, d1, d2, d3, d4, d5, d6, d7⟩ := cells8 HB2.out
      go_wp2_with fail
      refine CAP.out.mono ?_
      rintro e w3 ⟨v3, rfl, hown3, hg3, hat3⟩
      clear d0 d1 d2 d3 d4 d5 d6 d7
      have d0 : w3.cell? ⟨wr.heap.size, 0, none⟩ = some (.int .i64 r.seq) := (HB2.out.grown hg3 (fun e => nomatch e)).cell 0
      have hg13 := grownBy_trans HG12.out hg3 (.inl rfl)
      have hgn := grownBy_trans hg hg13 (.inl rfl)
      have hatn : At W none v3.ownBlock := (At.refl W none).trans hat3 (Nat.le_trans hg.size HG12.out.size)
      have HO3 := Lib.hid hown3
      clear hown3
      go_wp2_with fail
      go_roundw
      case rel => exact ⟨k + 1, r.seq, ys ++ putRec r seq, _, rfl, by go_num, by omega, rfl, HRO.out.seq, HO3.out, hgn, hatn, by rw [← HE.out, HPD.out, List.append_assoc]⟩
      case measure => simp [intOf]; omega
    · have hyP : ys = P := by
        have e1 := HE.out
        rw [List.drop_eq_nil_of_le (by rw [HL.out]; omega), putRecs, List.append_nil] at e1
        exact e1
      subst hyP
      obtain ⟨Ap, cp, hpv, hpc, hpm, hpl2, hpo⟩ := own_slice hown
      subst hpv
      have CPK := Lib.hid (packP_any Ap ys.length cp wr.heap.size ys wr hpl2 (Nat.le_refl _) hpc (by omega) base hbr)
      obtain ⟨Q, hQ⟩ : ∃ Q, Q = pack ys := ⟨_, rfl⟩
      rw [← hQ] at CPK
      have hql : Q.length ≤ 700000 := by
        have := pack_bounded ys
        rw [hQ]
        omega
      have HQ := Lib.hid hQ
      have HBr := Lib.hid (HB0.out.grown hg (fun e => nomatch e))
      clear hQ hown hpl2
      go_wp2_with fail
      refine CPK.out.mono ?_
      rintro e w2 ⟨v2, rfl, hown2, hg2, hat2⟩
      obtain ⟨A2, c2, hv2, hnc2, hcm2, hl2, ho2⟩ := own_slice hown2
      subst hv2
      have HO2 := Lib.hid hown2
      have HL2 := Lib.hid hl2
      have hbw2 : base ≤ w2.heap.size := Nat.le_trans hbr hg2.size
      have f0 : w2.cell? ⟨w.heap.size, 0, none⟩ = some (.int .i64 x.thread) := (HBr.out.grown hg2 (fun e => nomatch e)).cell 0
      have f1 : w2.cell? ⟨w.heap.size, 1, none⟩ = some (.int .i64 x.first) := (HBr.out.grown hg2 (fun e => nomatch e)).cell 1
      have f2 : w2.cell? ⟨w.heap.size, 2, none⟩ = some (.slice A n c) := (HBr.out.grown hg2 (fun e => nomatch e)).cell 2
      have fz : w.heap.size < w2.heap.size := (HBr.out.grown hg2 (fun e => nomatch e)).lt
      clear hown2 hl2
      go_wp2_with fail
      obtain ⟨Hd, hHd⟩ : ∃ Hd, Hd = headBytes x.thread x.first n ys.length Q.length := ⟨_, rfl⟩
      have hst : ([84, UInt8.ofNat (x.thread % 256).toNat] : Bytes) ++ putAll ([x.first, (n : Int), (ys.length : Int), (Q.length : Int)].drop 0) = Hd := by
        rw [hHd, List.drop_zero, putAll_four]
        rfl
      have hHl : Hd.length ≤ 100 := by
        rw [← hst, List.drop_zero, putAll_four]
        have q1 := putI_len (n := x.first) ⟨by omega, by omega⟩
        have q2 := putI_len (n := (n : Int)) ⟨by omega, by omega⟩
        have q3 := putI_len (n := (ys.length : Int)) ⟨by omega, by omega⟩
        have q4 := putI_len (n := (Q.length : Int)) ⟨by omega, by omega⟩
        simp only [List.length_append, List.length_cons, List.length_nil]
        omega
      have HST := Lib.hid hst
      have HHD := Lib.hid hHd
      have O0 : (w2.alloc (.cells #[.int .u8 84, .int .u8 x.thread] 5)).ownsRow base 5 1 (.slice (some ⟨w2.heap.size, 0, none⟩) 2 2) 2 (([84, UInt8.ofNat (x.thread % 256).toNat] : Bytes).map bv) := by
        rw [← head_cells x.thread ⟨by omega, by omega⟩]
        exact own_lit w2 base 5 [.int .u8 84, .int .u8 x.thread] hbw2 (by unfold maxLen; simp)
      have HO0 := Lib.hid O0
      clear hst hHd O0
      go_loopw [9, 11, 50] (fun bvv _ iv wx => ∃ (k : Nat) (zs : Bytes) (vb : Value), vb = bvv ∧ iv = .int .i64 (k : Int) ∧ k ≤ 4 ∧ wx.ownsRow base 5 1 vb zs.length (zs.map bv) ∧ w2.grownBy wx none ∧ At w2 none vb.ownBlock ∧ zs ++ putAll ([x.first, (n : Int), (ys.length : Int), (Q.length : Int)].drop k) = Hd) (fun _ _ iv _ => 4 - (intOf iv).toNat)
      case atStart => exact ⟨0, [84, UInt8.ofNat (x.thread % 256).toNat], _, rfl, rfl, by omega, HO0.out, World.grownBy_alloc w2 _ none, .inr ⟨_, rfl, Nat.le_refl _⟩, HST.out⟩
      case round =>
        obtain ⟨k2, zs, vb, rfl, rfl, hk4, hob, hgb, hatb, hzs⟩ := hrel
        have HZS := Lib.hid hzs
        have hzl : zs.length ≤ 100 := by
          have := congrArg List.length hzs
          rw [List.length_append] at this
          omega
        have hbx : base ≤ wr.heap.size := Nat.le_trans hbw2 hgb.size
        clear hzs
        by_cases hlt4 : k2 < 4
        · have hix : ∃ m : Int, inI64 m ∧ (∀ w, (Instr.index 202 (.agg #[.int .i64 x.first, .int .i64 (n : Int), .int .i64 (ys.length : Int), .int .i64 (Q.length : Int)]) (.int .i64 (k2 : Int))).run Tryz.prog w = .ok (.int .i64 m) w) ∧
              putAll ([x.first, (n : Int), (ys.length : Int), (Q.length : Int)].drop k2) = putI m ++ putAll ([x.first, (n : Int), (ys.length : Int), (Q.length : Int)].drop (k2 + 1)) := by
            rcases (show k2 = 0 ∨ k2 = 1 ∨ k2 = 2 ∨ k2 = 3 by omega) with rfl | rfl | rfl | rfl
            · exact ⟨x.first, ⟨by omega, by omega⟩, fun w => by kernel_rfl, rfl⟩
            · exact ⟨n, ⟨by omega, by omega⟩, fun w => by kernel_rfl, rfl⟩
            · exact ⟨ys.length, ⟨by omega, by omega⟩, fun w => by kernel_rfl, rfl⟩
            · exact ⟨Q.length, ⟨by omega, by omega⟩, fun w => by kernel_rfl, rfl⟩
          obtain ⟨m, hm, hidx, hpa⟩ := hix
          have HPA := Lib.hid hpa
          obtain ⟨Ab, cb, hvb, hnb, _, hlb, _⟩ := own_slice hob
          subst hvb
          have CPI := Lib.hid (putInt_any Ab zs.length cb wr.heap.size zs m wr hlb hnb hm (by omega) base hbx)
          clear hpa hm hob hlb
          go_wp2_with fail
          refine CPI.out.mono ?_
          rintro e w4 ⟨v4, rfl, hown4, hg4, hat4⟩
          have HO4 := Lib.hid hown4
          have hgn := grownBy_trans hgb hg4 (.inl rfl)
          have hatn : At w2 none v4.ownBlock := (At.refl w2 none).trans hat4 hgb.size
          clear hown4
          go_wp2_with fail
          go_roundw
          case rel => exact ⟨k2 + 1, zs ++ putI m, _, rfl, by go_num, by omega, HO4.out, hgn, hatn, by rw [← HZS.out, HPA.out, List.append_assoc]⟩
          case measure => simp [intOf]; omega
        · have hk44 : k2 = 4 := by omega
          have hzH : zs = Hd := by
            have e1 := HZS.out
            rw [hk44] at e1
            simpa [putAll] using e1
          obtain ⟨i0, hi, hz0, hz1, hz2⟩ := info_parts info_u8
          have HI := Lib.hid hi
          have HZ0 := Lib.hid hz0
          have HZ1 := Lib.hid hz1
          have HZ2 := Lib.hid hz2
          have hz : (0 : Nat) < 1 := by omega
          have HZH := Lib.hid hzH
          have LQ := Lib.hid (HL2.out.grown hgb (Nat.le_refl _) (fun _ e => nomatch e))
          clear hi hz0 hz1 hz2 hk44 hzH
          go_wp2_with (at_builtin; refine wpList_join _ rfl (.tmp 57) (.tmp 58) _ rfl base 5 i0 (.int .u8 0) 1 1 Tryz.underlying22 HI.out HZ0.out HZ1.out HZ2.out rfl hz _ zs.length (zs.map bv) rfl hob w2.heap.size A2 Q.length c2 (Q.map bv) rfl LQ.out ho2 (bv_one _) (by unfold maxLen; omega) (by omega) hbx ?_; intro v5 w5 hown5 hg5 hat5; rw [← List.map_append] at hown5; obtain ⟨A5, c5, hv5, hnc5, hcm5, hl5, ho5⟩ := own_slice hown5; subst hv5)
          have hW2g : w.grownBy w2 none := grownBy_trans (grownBy_trans hWg hg (.inl rfl)) hg2 (.inl rfl)
          have hg25 : w.grownBy w5 none := grownBy_trans hW2g (grownBy_trans hgb hg5 (hatb)) (.inl rfl)
          have HAT5 := Lib.hid ((At.refl w none).trans (hatb.trans hat5 hgb.size) hW2g.size)
          have hbody : zs ++ Q = blkBody x := by
            rw [HZH.out, HHD.out, HQ.out, HP.out]
            unfold blkBody
            rw [HL.out]
          have hbl : (blkBody x).length = zs.length + Q.length := by rw [← hbody, List.length_append]
          rw [hbody] at hown5 hl5
          have HO5 := Lib.hid hown5
          obtain ⟨s1, s2, s3, s4, hs4⟩ := sum4_parts (crc (blkBody x))
          have CSB := Lib.hid (sumBytes_any A5 (zs.length + Q.length) c5 w5.heap.size (blkBody x) w5 hl5 (Nat.le_refl _) (by omega))
          rw [hs4] at CSB
          simp only [List.map_cons, List.map_nil, bv] at CSB
          have HS4 := Lib.hid hs4
          have HBD := Lib.hid hbody
          have HBL := Lib.hid hbl
          have hb5 : base ≤ w5.heap.size := Nat.le_trans hbase hg25.size
          clear hown5 hl5 hs4 hbody hbl hob
          refine CSB.out.mono ?_
          rintro e w6 ⟨rfl, hg6⟩
          have hb6 : base ≤ w6.heap.size := Nat.le_trans hb5 hg6.size
          have LS := Lib.hid (lies_held (T := 203) (xs := ([s1, s2, s3, s4] : Bytes).map bv) (Held.new w6 _ _))
          simp only [List.map_cons, List.map_nil, bv, List.length_cons, List.length_nil] at LS
          have O6 := Lib.hid ((own_keep HO5.out hg6 (fun _ _ e => nomatch e)).alloc (.cells #[.int .u8 (s1.toNat : Int), .int .u8 (s2.toNat : Int), .int .u8 (s3.toNat : Int), .int .u8 (s4.toNat : Int)] 203))
          go_wp2_with (at_builtin; refine wpList_join _ rfl (.tmp 62) (.tmp 63) _ rfl base 5 i0 (.int .u8 0) 1 1 Tryz.underlying22 HI.out HZ0.out HZ1.out HZ2.out rfl hz _ (zs.length + Q.length) ((blkBody x).map bv) rfl O6.out (w6.heap.size + 1) (some ⟨w6.heap.size, 0, none⟩) 4 4 (([s1, s2, s3, s4] : Bytes).map bv) rfl LS.out (fun e => nomatch e) (bv_one _) (by unfold maxLen; omega) (by omega) (by simp; omega) ?_; intro v7 w7 hown7 hg7 hat7; rw [← List.map_append] at hown7)
          go_ret2
          have henc := encode_good HF0.out
          refine ⟨v7, by rw [henc]; rfl, ?_, grownBy_trans (grownBy_trans (grownBy_trans hg25 hg6 (.inl rfl)) (World.grownBy_alloc w6 _ none) (.inl rfl)) hg7 HAT5.out⟩
          rw [henc]
          show w7.ownsRow base 5 1 v7 (blkBytes x).length ((blkBytes x).map bv)
          unfold blkBytes
          rw [HS4.out, List.length_append, HBL.out]
          exact hown7
set_option maxRecDepth 100000 in
set_option maxHeartbeats 3200000 in
theorem encodeP_any (x : Blk) (A : Option Addr) (n c B : Nat) (w : World) (h : Recs w B A n x.recs) (hB : B ≤ w.heap.size) (hin : ∀ r ∈ x.recs, RecNums r) (hn : n ≤ 1000000) (base : Nat) (hbase : base ≤ w.heap.size) :
    Calls Tryz.prog 46 #[.agg #[.int .i64 x.thread, .int .i64 x.first, .slice A n c]] w (EncOut w base x) := by
  have HL := Lib.hid h.1
  obtain ⟨W, hW⟩ : ∃ W, W = w.alloc (.cells #[.int .i64 x.thread, .int .i64 x.first, .slice A n c] 50) := ⟨_, rfl⟩
  have hWg : w.grownBy W none := by rw [hW]; exact World.grownBy_alloc w _ none
  have hb0 : Held W w.heap.size 50 #[.int .i64 x.thread, .int .i64 x.first, .slice A n c] := by rw [hW]; exact Held.new _ _ _
  have HW := Lib.hid hW
  have HB0 := Lib.hid hb0
  clear hW hb0
  by_cases h64 : 64 < n
  · have HF : Hid (fits x = 2) := Lib.hid (by unfold fits; rw [if_pos (by rw [HL.out]; exact h64)])
    go_enter Tryz.func46, Tryz.ntmps46
    go_wp2_with fail
    go_ret2
    exact encOut_bad HF.out (by decide) (World.grownBy_alloc w _ none)
  · have CA := Lib.hid (allowed_any x A n c B W (h.grown hWg hB (fun _ e => nomatch e)) (Nat.le_trans hB hWg.size) hn)
    by_cases hok : okBlk x = true
    · exact encodeP_good x A n c B w h hB hin (by unfold fits; rw [if_neg (by rw [HL.out]; exact h64), if_pos hok]) base hbase
    · have hok' : okBlk x = false := by simpa using hok
      have HF : Hid (fits x = 1) := Lib.hid (by unfold fits; rw [if_neg (by rw [HL.out]; exact h64), hok']; rfl)
      rw [hok'] at CA
      clear hok hok'
      go_enter Tryz.func46, Tryz.ntmps46
      go_wp2_with fail
      rw [show w.alloc (.cells #[.int .i64 x.thread, .int .i64 x.first, .slice A n c] 50) = W from HW.out.symm]
      refine CA.out.mono ?_
      rintro e w1 ⟨rfl, hg1⟩
      go_wp2_with fail
      go_ret2
      exact encOut_bad HF.out (by decide) (grownBy_trans hWg hg1 (.inl rfl))
end Go.Proofs.YtfbkkgfkhhibfaaGreat

/- How long an encoding is at most. -/
namespace Go.Proofs.YtfbkkgfkhhibfaaGreat
open Go Go.RowKit Iv
theorem encode_len {x : Blk} (hin : ∀ r ∈ x.recs, RecNums r) : (encode x).1.length ≤ 1000000000000 := by
  by_cases hf : fits x = 0
  · rw [encode_good hf]
    obtain ⟨z0, z1, z2, z3, z4, z5, z6⟩ := fits_zero hf
    have hpl := putRecs_len x.recs (-1) (recOk_of z6 hin)
    have hq := pack_bounded (putRecs (-1) x.recs)
    have q1 := putI_len (n := x.first) ⟨by omega, by omega⟩
    have q2 := putI_len (n := (x.recs.length : Int)) ⟨by omega, by omega⟩
    have q3 := putI_len (n := ((putRecs (-1) x.recs).length : Int)) ⟨by omega, by omega⟩
    have q4 := putI_len (n := ((pack (putRecs (-1) x.recs)).length : Int)) ⟨by omega, by omega⟩
    unfold blkBytes blkBody headBytes
    simp only [List.length_append, List.length_cons, sum4_len]
    omega
  · unfold encode
    rw [if_neg hf]
    simp
end Go.Proofs.YtfbkkgfkhhibfaaGreat

/- How the arguments of the statements read: from the form's reading to the words of the walks. -/
namespace Iv
open Go Go.RowKit Go.ChangeShapes Go.WideShapes Go.ChangeAt
open Go.ChangeMaps (open_string shut_string)
section
variable {H : Type} {enc : TypeId × Value → H} {P : Program} {W : World} {held : Bool}
theorem fits_u8 {n : Int} (h : (Lit.int .u8 n).wf = true) : 0 ≤ n ∧ n ≤ 255 := by
  simp [Lit.wf, IntKind.min, IntKind.max, IntKind.signed, IntKind.bits] at h
  omega
theorem lies_of_cells {k : IntKind} {a : Addr} {len cap : Nat} {zs : List Int} (hl : len ≤ cap) (hz : zs.length = cap)
    (hc : ∀ i, i < zs.length → W.cell? (a.add i) = some (.int k (zs.getD i 0))) : Lies W W.heap.size 1 (some a) len ((zs.take len).map (Value.int k)) := by
  refine ⟨by simp; omega, fun hn => ⟨a, rfl, ?_, fun j u hu => ?_⟩⟩
  · have := World.block_lt_of_cell? W _ (hc 0 (by omega))
    rwa [addBlock] at this
  · simp only [List.getElem?_map, List.getElem?_take, Option.map_eq_some_iff] at hu
    obtain ⟨z, hz2, rfl⟩ := hu
    split at hz2
    · have hj : j < zs.length := (List.getElem?_eq_some_iff.1 hz2).1
      rw [hc j hj]
      simp [List.getD, hz2]
    · cases hz2
theorem bytes_of_wf (zs : List Int) (h : ∀ n ∈ zs, (Lit.int .u8 n).wf = true) : ∃ xs : Bytes, zs.map (Value.int .u8) = xs.map bv := by
  refine ⟨zs.map fun n => UInt8.ofNat n.toNat, ?_⟩
  rw [List.map_map]
  refine List.map_congr_left fun n hn => ?_
  have := fits_u8 (h n hn)
  show _ = bv _
  unfold bv
  rw [ofNat_toNat_lt (by omega), Int.toNat_of_nonneg this.1]
theorem open_bytes {t e : TypeId} {fuel : Nat} {cs : List Value} {x : DataW H × List MemPlace} (ht : P.underlying t = some (.slice e)) (he : P.underlying e = some (.int .u8)) (hc : P.cellsOf e = 1)
    (h : DataW.trod enc P W 0 (fun _ => true) held fuel t cs = some x) :
    ∃ A n c, ∃ xs : Bytes, cs = [.slice A n c] ∧ Lies W W.heap.size 1 A n (xs.map bv) ∧ n ≤ c ∧ c ≤ maxLen ∧ (A = none → c = 0) := by
  rcases open_ints ht he hc h with ⟨rfl, _⟩ | ⟨a, len, cap, zs, rfl, _, hl, hm, hz, _, hcell, hw⟩
  · exact ⟨none, 0, 0, [], rfl, Lies.nil, Nat.le_refl _, Nat.zero_le _, fun _ => rfl⟩
  · obtain ⟨xs, hx⟩ := bytes_of_wf (zs.take len) (fun n hn => hw n (List.mem_of_mem_take hn))
    refine ⟨some a, len, cap, xs, rfl, ?_, hl, hm, fun e => by cases e⟩
    rw [← hx]
    exact lies_of_cells hl (by simpa using hz) hcell
end
end Iv

/- How a record that came in by value reads. -/
namespace Go.Proofs.YtfbkkgfkhhibfaaGreat
open Go Go.RowKit Go.ChangeShapes Go.WideShapes Go.ChangeAt Iv
set_option linter.unusedVariables false
section
variable {H : Type} {enc : TypeId × Value → H} {W : World} {held : Bool}
end
end Go.Proofs.YtfbkkgfkhhibfaaGreat

/- How a slice of records and a block that came in read. -/
namespace Go.Proofs.YtfbkkgfkhhibfaaGreat
open Go Go.RowKit Go.ChangeShapes Go.WideShapes Go.ChangeAt Iv
set_option linter.unusedVariables false
section
variable {H : Type} {enc : TypeId × Value → H} {W : World} {held : Bool}
end
end Go.Proofs.YtfbkkgfkhhibfaaGreat

/- How the numbers of a plan that came in read. -/
namespace Go.Proofs.YtfbkkgfkhhibfaaGreat
open Go Go.RowKit Go.ChangeShapes Go.WideShapes Go.ChangeAt Iv
set_option linter.unusedVariables false
theorem cells_numbers : Tryz.prog.cellsOf 24 = 4 := by kernel_rfl
theorem cells_u8 : Tryz.prog.cellsOf 5 = 1 := by kernel_rfl
theorem cells_bytes : Tryz.prog.cellsOf 22 = 1 := by kernel_rfl
section
variable {H : Type} {enc : TypeId × Value → H} {W : World} {held : Bool}
set_option maxRecDepth 100000 in
theorem open_numbers {v : Value} {d : DataW H} {p : List MemPlace} {base : Nat} (hv : Value.okWide Tryz.prog W .any base 24 v) (h : DataW.Trod enc Tryz.prog W 0 (fun _ => true) held 24 v d p) :
    ∃ (a b : Int) (A1 : Option Addr) (n1 c1 : Nat) (xs : Bytes) (A2 : Option Addr) (n2 c2 : Nat) (ys : Bytes), v = .agg #[.int .u8 a, .int .u8 b, .slice A1 n1 c1, .slice A2 n2 c2] ∧ (0 ≤ a ∧ a ≤ 255) ∧ (0 ≤ b ∧ b ≤ 255) ∧ (Lies W W.heap.size 1 A1 n1 (xs.map bv) ∧ n1 ≤ c1 ∧ c1 ≤ maxLen ∧ (A1 = none → c1 = 0)) ∧ (Lies W W.heap.size 1 A2 n2 (ys.map bv) ∧ n2 ≤ c2 ∧ c2 ≤ maxLen ∧ (A2 = none → c2 = 0)) := by
  obtain ⟨cs, rfl, hsz⟩ := okWide_struct Tryz.underlying24 hv
  obtain ⟨fuel, hf⟩ := h
  rw [cells_numbers] at hsz
  obtain ⟨xs, n, _, _, _, hxl, hg⟩ := DataW.trod_struct Tryz.underlying24 hf
  obtain ⟨l⟩ := cs
  match l, hsz, xs, hxl with
  | [c0, c1, c2, c3], _, [y0, y1, y2, y3], _ =>
    have g0 := hg 0 _ rfl
    have g1 := hg 1 _ rfl
    have g2 := hg 2 _ rfl
    have g3 := hg 3 _ rfl
    simp only [Value.cells, cells_u8, cells_bytes, List.getElem_toArray, List.getElem_cons_zero, List.getElem_cons_succ, List.drop_zero, List.drop_succ_cons, List.take_succ_cons, List.take_zero, List.getElem?_cons_zero, List.getElem?_cons_succ] at g0 g1 g2 g3
    obtain ⟨a0, e0, _, w0⟩ := DataW.trod_int Tryz.underlying5 g0
    obtain ⟨a1, e1, _, w1⟩ := DataW.trod_int Tryz.underlying5 g1
    obtain ⟨A2, n2, k2, x2, e2, l2, u2, v2, o2⟩ := open_bytes Tryz.underlying22 Tryz.underlying5 cells_u8 g2
    obtain ⟨A3, n3, k3, x3, e3, l3, u3, v3, o3⟩ := open_bytes Tryz.underlying22 Tryz.underlying5 cells_u8 g3
    simp only [List.cons.injEq, and_true] at e0 e1 e2 e3
    subst e0 e1 e2 e3
    exact ⟨a0, a1, A2, n2, k2, x2, A3, n3, k3, x3, rfl, fits_u8 w0, fits_u8 w1, ⟨l2, u2, v2, o2⟩, ⟨l3, u3, v3, o3⟩⟩
end
end Go.Proofs.YtfbkkgfkhhibfaaGreat
