/- The walk of header. -/
import Derived.Test.YtaiaoiochbpmfaaGreatLaw13e
import Derived.Test.YtaiaoiochbpmfaaGreatLaw13f
namespace Iv
def headL (x : Blk) : List Int := [x.first, x.recs.length, (putRecs (-1) x.recs).length, (pack (putRecs (-1) x.recs)).length]
def atL (l : List Int) (k : Nat) : Nat := 2 + ((l.take k).flatMap putI).length
theorem atL_four (x : Blk) : atL (headL x) 4 = headLen x := by
  unfold atL headL headLen
  simp [List.length_append]
theorem head_drop {b rest : Bytes} {t0 t1 : UInt8} {l : List Int} {k : Nat} {n : Int} (hb : b = t0 :: t1 :: (l.flatMap putI ++ rest)) (hk : l[k]? = some n) :
    ∃ more, b.drop (atL l k) = putI n ++ more ∧ atL l (k + 1) = atL l k + (putI n).length ∧ atL l (k + 1) ≤ b.length := by
  have hl := (List.getElem?_eq_some_iff.1 hk).1
  have hs : l = l.take k ++ n :: l.drop (k + 1) := by
    have h1 := List.take_append_drop k l
    rw [List.drop_eq_getElem_cons hl, (List.getElem?_eq_some_iff.1 hk).2] at h1
    exact h1.symm
  have ht : l.take (k + 1) = l.take k ++ [n] := by rw [List.take_add_one, hk]; rfl
  have e1 : atL l (k + 1) = atL l k + (putI n).length := by unfold atL; rw [ht]; simp; omega
  refine ⟨(l.drop (k + 1)).flatMap putI ++ rest, ?_, e1, ?_⟩
  · have e2 : l.flatMap putI = (l.take k).flatMap putI ++ (putI n ++ (l.drop (k + 1)).flatMap putI) := by
      conv => lhs; rw [hs]
      simp
    rw [hb, e2]
    unfold atL
    rw [Nat.add_comm, List.drop_succ_cons, List.drop_succ_cons, List.append_assoc, List.drop_left, List.append_assoc]
  · rw [e1, hb]
    have e2 : l.flatMap putI = (l.take k).flatMap putI ++ (putI n ++ (l.drop (k + 1)).flatMap putI) := by
      conv => lhs; rw [hs]
      simp
    unfold atL
    rw [e2]
    simp only [List.length_cons, List.length_append]
    omega
theorem blk_head (x : Blk) : ∃ rest, blkBytes x = 84 :: UInt8.ofNat (x.thread % 256).toNat :: ((headL x).flatMap putI ++ rest) ∧ (blkBytes x).length = headLen x + (pack (putRecs (-1) x.recs)).length + 4 := by
  refine ⟨pack (putRecs (-1) x.recs) ++ sum4 (crc (blkBody x)), ?_, ?_⟩
  · unfold blkBytes blkBody headBytes headL
    simp [List.append_assoc]
  · unfold blkBytes blkBody headBytes headLen
    simp only [List.length_append, List.length_cons, sum4_len]
    omega
end Iv
namespace Go.Proofs.YtaiaoiochbpmfaaGreat
open Go Go.RowKit Iv Mk
set_option linter.unusedVariables false
set_option linter.unusedSimpArgs false
set_option maxRecDepth 100000 in
set_option maxHeartbeats 3200000 in
theorem header_any (x : Blk) (hM : MadeOk x) (ad : Addr) (P c B : Nat) (w : World) (h : Lies w B 1 (some ad) P ((blkBytes x).map bv)) (hP : P = (blkBytes x).length) (hnc : P ≤ c) (hcm : c ≤ 9223372036854775807) (hp : P ≤ 200000) :
    Calls Tryz.prog 26 #[.slice (some ad) P c] w fun e w' => e = .returned (.int .i64 (headLen x : Int)) ∧ w = w' := by
  obtain ⟨rest, hb, hlen⟩ := blk_head x
  have HB := Lib.hid hb
  have HL := Lib.hid h
  have HPP := Lib.hid hP
  have hall : ∀ n ∈ headL x, inI64 n := by
    intro n hn
    have h1 := hM.f0
    have h2 := hM.f4
    have h3 := hM.len
    have h4 : (putRecs (-1) x.recs).length ≤ 200000 := by
      have := putRecs_len2 x.recs (-1) (fun r hr => ⟨hM.recOk r hr, hM.sh r hr⟩)
      omega
    have h5 := pack_bounded (putRecs (-1) x.recs)
    unfold headL at hn
    simp only [List.mem_cons, List.not_mem_nil, or_false] at hn
    rcases hn with rfl | rfl | rfl | rfl <;> exact ⟨by omega, by omega⟩
  have HA := Lib.hid hall
  clear hb hlen h hP hall
  go_enter Tryz.func26, Tryz.ntmps26
  go_wp2_with fail
  go_loopw [3, 4, 5, 6, 7] (fun v3 v4 _ _ _ wr => ∃ k : Nat, v3 = .int .i64 (atL (headL x) k : Int) ∧ v4 = .int .i64 (k : Int) ∧ k ≤ 4 ∧ w = wr) (fun _ v4 _ _ _ _ => 4 - (intOf v4).toNat)
  case atStart => exact ⟨0, rfl, rfl, by omega, rfl⟩
  case round =>
    obtain ⟨k, rfl, rfl, hk, rfl⟩ := hrel
    by_cases hlt : k < 4
    · obtain ⟨n, hn⟩ : ∃ n, (headL x)[k]? = some n := ⟨_, List.getElem?_eq_getElem (by unfold headL; exact hlt)⟩
      obtain ⟨more, d1, d2, d3⟩ := head_drop HB.out hn
      obtain ⟨a, ha⟩ : ∃ a, a = atL (headL x) k := ⟨_, rfl⟩
      have HD2 := Lib.hid d2
      rw [← HPP.out] at d3
      have hpn := putI_pos n
      have hap : a < P := by omega
      have hac : ¬ c = a := by omega
      rw [← ha] at d1 d2 ⊢
      have hi := HA.out n (List.mem_of_getElem? hn)
      have hgi := getI_putI hi more
      rw [← d1] at hgi
      have hl2 : Lies w B 1 (some (ad.add a)) (P - a) (((blkBytes x).drop a).map bv) := by
        have := HL.out.drop (k := a) (by omega)
        rwa [Nat.mul_one, ← List.map_drop] at this
      have CI := Lib.hid (fun c' => intR_parts (some (ad.add a)) (P - a) c' ((blkBytes x).drop a) w B hl2 (by omega) hgi)
      have HAA := Lib.hid ha
      have hsum : IntKind.i64.wrap ((a : Int) + ((putI n).length : Int)) = (a : Int) + ((putI n).length : Int) := IntWalk.i64_in _ (by omega)
      clear d1 d2 hgi hl2 hn hi ha d3
      go_wp2_with fail
      refine (CI.out _).mono ?_
      rintro e w' ⟨rfl, rfl⟩
      go_wp2_with fail
      go_roundw
      case rel => exact ⟨k + 1, by rw [HD2.out, ← HAA.out]; go_num, by go_num, by omega, trivial⟩
      case measure => simp [intOf]; omega
    · have hk4 : k = 4 := by omega
      subst hk4
      rw [atL_four]
      go_wp2_with fail
      go_ret
      exact ⟨rfl, rfl⟩
end Go.Proofs.YtaiaoiochbpmfaaGreat

/- The walk of BlockDamaged. -/
namespace Go.Proofs.YtaiaoiochbpmfaaGreat
open Go Go.RowKit Iv Mk
set_option linter.unusedVariables false
set_option linter.unusedSimpArgs false
theorem xor_ne {y c : UInt8} (h : c ≠ 0) : y ≠ UInt8.ofNat (y.toNat ^^^ c.toNat) := by
  intro e
  apply h
  have hy := byte_lt y
  have hc := byte_lt c
  have h1 : (UInt8.ofNat (y.toNat ^^^ c.toNat)).toNat = y.toNat ^^^ c.toNat := ofNat_toNat_lt (Nat.xor_lt_two_pow (n := 8) hy hc)
  rw [← e] at h1
  have h2 : c.toNat = 0 := by
    have h3 : y.toNat ^^^ y.toNat = y.toNat ^^^ (y.toNat ^^^ c.toNat) := by rw [← h1]
    rw [Nat.xor_self, ← Nat.xor_assoc, Nat.xor_self, Nat.zero_xor] at h3
    exact h3.symm
  exact u8_eq (by rw [h2]; rfl)
set_option maxRecDepth 100000 in
set_option maxHeartbeats 3200000 in
theorem blockDamaged_any (A1 : Option Addr) (n1 c1 : Nat) (xs : Bytes) (A2 : Option Addr) (n2 c2 : Nat) (ys : Bytes) (a2 a3 at_ a5 : Int) (w : World) (hL1 : Lies w w.heap.size 1 A1 n1 (xs.map bv)) (hnc1 : n1 ≤ c1) (hcm1 : c1 ≤ maxLen) (ho1 : A1 = none → c1 = 0) (hL2 : Lies w w.heap.size 1 A2 n2 (ys.map bv)) (hnc2 : n2 ≤ c2) (hcm2 : c2 ≤ maxLen) (ho2 : A2 = none → c2 = 0) (hf2 : 0 ≤ a2 ∧ a2 ≤ 255) (hf3 : 0 ≤ a3 ∧ a3 ≤ 255) (hat : 0 ≤ at_ ∧ at_ ≤ 65535) (hf5 : 0 ≤ a5 ∧ a5 ≤ 255) :
    Calls Tryz.prog 7 #[.slice A1 n1 c1, .slice A2 n2 c2, .int .u8 a2, .int .u8 a3, .int .u16 at_, .int .u8 a5] w fun e w' => e = .returned (.bool true) ∧ Below w.heap.size w w' := by
  obtain ⟨hc0, hc1⟩ := hat
  obtain ⟨tn, rfl⟩ : ∃ tn : Nat, a2 = (tn : Int) := ⟨a2.toNat, by omega⟩
  obtain ⟨nn, rfl⟩ : ∃ nn : Nat, a3 = (nn : Int) := ⟨a3.toNat, by omega⟩
  obtain ⟨cb, hcb⟩ : ∃ cb : UInt8, (cb.toNat : Int) = a5 := ⟨UInt8.ofNat a5.toNat, by rw [ofNat_toNat_lt (by omega)]; omega⟩
  subst hcb
  unfold maxLen at hcm1 hcm2
  by_cases hb1 : 200 < n1
  · clear ho1 ho2
    go_enter Tryz.func7, Tryz.ntmps7
    go_wp2_with fail
    go_ret
    exact ⟨rfl, Below.refl _ _⟩
  by_cases hb2 : 100 < n2
  · clear ho1 ho2
    go_enter Tryz.func7, Tryz.ntmps7
    go_wp2_with fail
    go_ret
    exact ⟨rfl, Below.refl _ _⟩
  by_cases hz : cb.toNat = 0
  · have hz1 : ((cb.toNat : Int) == 0) = true := by rw [hz]; rfl
    clear ho1 ho2
    go_enter Tryz.func7, Tryz.ntmps7
    go_wp2_with fail
    go_ret
    exact ⟨rfl, Below.refl _ _⟩
  have hz1 : ((cb.toNat : Int) == 0) = false := by rw [beq_eq_false_iff_ne]; omega
  have HNZ := Lib.hid (show cb ≠ 0 from fun e => hz (by rw [e]; rfl))
  have CM := Lib.hid (made13_any w A1 n1 c1 w.heap.size xs hL1 hnc1 (by omega) A2 n2 c2 w.heap.size ys hL2 hnc2 (by omega) tn 0 nn (by omega) (by omega) (by omega))
  clear ho1 ho2 hL1 hL2 hf2 hf3 hf5 hz
  go_enter Tryz.func7, Tryz.ntmps7
  go_wp2_with fail
  refine CM.out.mono ?_
  rintro e w1 ⟨x, A, c, rfl, hR, hM, hnc, ho, g1⟩
  have CE := Lib.hid (encodeP_any x A x.recs.length c w1.heap.size w1 hR (Nat.le_refl _) (recNums_of hM) (by have := hM.len; omega) w1.heap.size (Nat.le_refl _))
  have HM := Lib.hid hM
  have G1 := Lib.hid g1
  clear hR hM hnc ho g1
  go_wp2_with fail
  refine CE.out.mono ?_
  rintro e w2 ⟨v2, rfl, hown, g2⟩
  have G2 := Lib.hid (grown_then G1.out g2)
  clear g2
  rcases encode_made HM.out with ⟨h0, he⟩ | ⟨h0, hf, he⟩
  · rw [he]
    dsimp only
    clear hown
    go_wp2_with fail
    refine (awake13_any _).mono ?_
    rintro e w3 ⟨rfl, hb⟩
    go_wp2_with fail
    go_ret
    exact ⟨rfl, (belGr (Below.refl _ _) G2.out).trans (hb.mono G2.out.size)⟩
  · rw [he] at hown ⊢
    dsimp only at hown ⊢
    have hl := HM.out.bytes
    rw [he] at hl
    dsimp only at hl
    obtain ⟨A3, c3, hv3, hnc3, hcm3, hl3, hno3⟩ := own_slice hown
    subst hv3
    obtain ⟨zs, hzs⟩ : ∃ zs, zs = blkBytes x := ⟨_, rfl⟩
    have hpp := blkBytes_pos x
    obtain ⟨_, _, hlen⟩ := blk_head x
    rw [← hzs] at hl hl3 hnc3 hpp hlen ⊢
    obtain ⟨P, hP⟩ : ∃ P, P = zs.length := ⟨_, rfl⟩
    rw [← hP] at hl hnc3 hpp hlen hl3 ⊢
    have HP := Lib.hid hP
    have HZS := Lib.hid hzs
    have HF := Lib.hid hf
    have HL3 := Lib.hid hl3
    have HN3 := Lib.hid hno3
    unfold maxLen at hcm3
    obtain ⟨hd, hhd⟩ : ∃ hd, hd = headLen x := ⟨_, rfl⟩
    rw [← hhd] at hlen
    have HHD := Lib.hid hhd
    have hdP : hd < P := by omega
    obtain ⟨K, hK⟩ : ∃ K : Nat, (K : Int) = at_ % ((P - hd : Nat) : Int) := ⟨(at_ % ((P - hd : Nat) : Int)).toNat, by have := Int.emod_nonneg at_ (show ((P - hd : Nat) : Int) ≠ 0 by omega); omega⟩
    have hKP : K < P - hd := by
      have := Int.emod_lt_of_pos at_ (show (0 : Int) < ((P - hd : Nat) : Int) by omega)
      omega
    have ewc : IntKind.i64.wrap at_ = at_ := IntWalk.i64_in _ (by omega)
    have ews : IntKind.i64.wrap ((P : Int) - (hd : Int)) = ((P - hd : Nat) : Int) := by rw [IntWalk.i64_in _ (by omega)]; omega
    have hkt : at_.tmod ((P - hd : Nat) : Int) = (K : Int) := by rw [Int.tmod_eq_emod_of_nonneg hc0]; exact hK.symm
    have hbp : (((P - hd : Nat) : Int) == 0) = false := by rw [beq_eq_false_iff_ne]; omega
    have ewk : IntKind.i64.wrap ((hd : Int) + (K : Int)) = ((hd + K : Nat) : Int) := by rw [IntWalk.i64_in _ (by omega)]; omega
    have gal := Lib.hid (World.grownBy_alloc w2 (.cells #[] 5) none)
    have HL6 := Lib.hid (HL3.out.grown gal.out (Nat.le_refl _) (fun _ e => nomatch e))
    clear hown hl3 hno3 hP hzs hf hhd hK h0 he hlen
    go_upto_region 8 with fail
    go_upto_region 9 with (at_builtin; refine list_joinW _ (.tmp 48) (.tmp 49) _ 5 1 1 elok_u8b rfl rfl w2.heap.size _ 0 [] rfl (own_lit w2 w2.heap.size 5 [] (Nat.le_refl _) (by unfold maxLen; decide)) w2.heap.size A3 P c3 (zs.map bv) rfl HL6.out HN3.out (bv_one _) (by omega) gal.out.size ?_; intro A9 c9 w9 hc9 hm9 hown9 hg9 hat9; rw [Nat.zero_add, List.nil_append] at hown9)
    obtain ⟨gg, cg, hvg, hncg, hltg⟩ := hown9.form (by omega)
    injection hvg with j1 j2 j3
    subst j1 j3
    have hg9n : w2.grownBy w9 none := grown_row (base := 0) gal.out hg9 (fun g e => by have e : some w2.heap.size = some g := e; injection e with e; omega)
    have HG9 := Lib.hid (grown_then G2.out hg9n)
    have hl9 := Lies.ofOwn hown9
    have HOW := Lib.hid hown9
    have CH := Lib.hid (header_any x HM.out ⟨gg, 0, none⟩ P c9 w9.heap.size w9 (by rw [← HZS.out]; exact hl9) (by rw [← HZS.out]; exact HP.out) (by omega) (by unfold maxLen at hm9; omega) (by omega))
    rw [← HHD.out] at CH
    clear hl9 hg9 hat9 hown9 hg9n j2
    go_wp2_with fail
    refine CH.out.mono ?_
    rintro e w10 ⟨rfl, rfl⟩
    obtain ⟨k, hk⟩ : ∃ k, k = hd + K := ⟨_, rfl⟩
    have hkP : k < P := by omega
    rw [← hk] at ewk
    have HKH := Lib.hid (show headLen x ≤ k by rw [← HHD.out]; omega)
    obtain ⟨yb, hyb⟩ : ∃ yb, zs[k]? = some yb := ⟨_, List.getElem?_eq_getElem (by rw [← HP.out]; exact hkP)⟩
    have hcd : w9.cell? ⟨gg, k, none⟩ = some (.int .u8 (yb.toNat : Int)) := by
      rw [HOW.out.cellAt k (by omega), List.getElem?_map, hyb]; rfl
    have hfd := HOW.out.frozenAt k
    have HYB := Lib.hid hyb
    have by1 := byte_lt yb
    have by2 := byte_lt cb
    have o1 := u8_xor_nat yb.toNat cb.toNat by1 by2
    have i0 : (0 : Int) ≤ (k : Int) := by omega
    have i1 : (k : Int) < (P : Int) := by omega
    obtain ⟨zb, hzb⟩ : ∃ zb, zb = UInt8.ofNat (yb.toNat ^^^ cb.toNat) := ⟨_, rfl⟩
    have hzn : zb.toNat = yb.toNat ^^^ cb.toNat := by rw [hzb]; exact ofNat_toNat_lt (Nat.xor_lt_two_pow (n := 8) by1 by2)
    have HNE := Lib.hid (show yb ≠ zb by rw [hzb]; exact xor_ne HNZ.out)
    obtain ⟨nb, hnb⟩ : ∃ nb, nb = yb.toNat ^^^ cb.toNat := ⟨_, rfl⟩
    have HZN := Lib.hid (show zb.toNat = nb by rw [hzn, hnb])
    rw [← hnb] at o1
    clear hyb hk hzb hzn hnb
    go_upto_region 14 with fail
    obtain ⟨W13, hW13⟩ : ∃ W13, W13 = w9.setCell ⟨gg, k, none⟩ (.int .u8 (nb : Int)) := ⟨_, rfl⟩
    have hst := (HOW.out.stored k (.int .u8 (nb : Int))).1
    have hgs := grown_store w9 gg k (.int .u8 (nb : Int))
    rw [← hW13] at hst hgs ⊢
    have hkl : k < zs.length := by rw [← HP.out]; exact hkP
    have hset : (zs.map bv).set k (.int .u8 (nb : Int)) = (zs.set k zb).map bv := by
      rw [List.map_set]
      congr 1
      unfold bv
      rw [HZN.out]
    rw [hset] at hst
    have hsplit : zs.set k zb = zs.take k ++ zb :: zs.drop (k + 1) := by rw [List.set_eq_take_append_cons_drop, if_pos hkl]
    have hbl : blkBytes x = zs.take k ++ yb :: zs.drop (k + 1) := by
      rw [← HZS.out]
      have h1 := List.take_append_drop k zs
      rw [List.drop_eq_getElem_cons hkl] at h1
      obtain ⟨_, h2⟩ := List.getElem?_eq_some_iff.1 HYB.out
      rw [h2] at h1
      exact h1.symm
    have hdm := decode_damaged HF.out HM.out.recOk hbl (by rw [List.length_take]; have := HKH.out; omega) HNE.out
    rw [← hsplit] at hdm
    have CD := decodeP_any (some ⟨gg, 0, none⟩) P c9 W13.heap.size (zs.set k zb) W13 (Lies.ofOwn hst) (Nat.le_refl _) (by omega) hm9 (fun e => nomatch e) (by omega)
    rw [hdm] at CD
    have CD := Lib.hid CD
    have HG13 := Lib.hid (show w.grownBy W13 none from grown_row (base := 0) HG9.out hgs (fun g e => by
      injection e with e
      have h1 := (HOW.out.lt gg rfl).1
      have h2 := G2.out.size
      omega))
    clear hst hgs hW13 hset hsplit hbl hdm hcd hfd hkl
    go_wp2_with fail
    refine CD.out.mono ?_
    rintro e w14 ⟨A14, n14, c14, rfl, hR14, g14, _⟩
    dsimp only [zeroBlk]
    have hn14 : n14 = 0 := hR14.1.symm
    subst hn14
    have G14 := Lib.hid (grown_then HG13.out g14)
    clear hR14 g14
    go_wp2_with fail
    refine (awake13_any _).mono ?_
    rintro e w15 ⟨rfl, hb⟩
    have G15 := grown_then G14.out (World.grownBy_alloc w14 (.cells #[.int .i64 0, .int .i64 0, .slice A14 0 c14] 53) none)
    go_wp2_with fail
    go_ret
    exact ⟨rfl, (belGr (Below.refl _ _) G15).trans (hb.mono G15.size)⟩
end Go.Proofs.YtaiaoiochbpmfaaGreat
