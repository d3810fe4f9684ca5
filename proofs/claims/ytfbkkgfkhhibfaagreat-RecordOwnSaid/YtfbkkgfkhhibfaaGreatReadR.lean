/- The walk of the reference's list (chapter 11). -/
import Derived.Test.YtfbkkgfkhhibfaaGreatRead
namespace Go.Proofs.YtfbkkgfkhhibfaaGreat
open Go Go.RowKit Iv
set_option linter.unusedVariables false
set_option maxRecDepth 100000 in
set_option maxHeartbeats 3200000 in
theorem listR_any (g : Nat) (A : Option Addr) (n c B : Nat) (xs : Bytes) (s : Rd) (w : World) (hg : Held w g 128 (rdCells A n c s)) (h : Lies w B 1 A n (xs.map bv)) (hBg : B ≤ g) (hnc : n ≤ c) (ho : A = none → c = 0) (hn : n ≤ 1000000000) (hs : s.at_ ≤ n) (base : Nat) (hbase : base ≤ w.heap.size) :
    Calls Tryz.prog 115 #[.pointer (some ⟨g, 0, none⟩)] w fun e w' => ∃ v', e = .returned v' ∧ w'.ownsRow base 3 1 v' (rdList xs s).1.length ((rdList xs s).1.map iv) ∧ Held w' g 128 (rdCells A n c (rdList xs s).2) ∧ w.grownBy w' (some g) ∧ At w none v'.ownBlock := by
  have hl : xs.length = n := h.lenB
  have CN := Lib.hid (numberR_any g A n c B xs s w hg h hnc ho hn hs)
  obtain ⟨m, s0, hp⟩ : ∃ m s0, rdNum xs s = (m, s0) := ⟨_, _, rfl⟩
  have hmi := rdNum_i64 xs s
  have hat := (rdNum_at (b := xs) (s := s) (by omega)).1
  rw [hp] at hmi hat
  obtain ⟨s1, hs1⟩ : ∃ s1, s1 = rdCheck (rdNum xs s) := ⟨_, rfl⟩
  have hlist : rdList xs s = rdItems xs m.toNat 0 s1 := by
    unfold rdList
    rw [← hs1, hp]
  have hs1' : s1 = if s0.err = 0 ∧ (m < 0 ∨ 400 < m) then ⟨s0.at_, 11⟩ else s0 := by
    rw [hs1, hp]
    rfl
  have hat1 : s1.at_ ≤ n := by
    rw [hs1']
    split
    · exact Nat.le_trans hat (by omega)
    · exact Nat.le_trans hat (by omega)
  have hm400 : s1.err = 0 → 0 ≤ m ∧ m ≤ 400 := by
    intro he
    rw [hs1'] at he
    by_cases hc : s0.err = 0 ∧ (m < 0 ∨ 400 < m)
    · rw [if_pos hc] at he
      exact absurd (show (11 : Int) = 0 from he) (by decide)
    · rw [if_neg hc] at he
      have : ¬ (m < 0 ∨ 400 < m) := fun hh => hc ⟨he, hh⟩
      omega
  rw [hlist]
  have HP := Lib.hid hp
  have HS1 := Lib.hid hs1'
  have HM4 := Lib.hid hm400
  have HMI := Lib.hid hmi
  have HO := Lib.hid ho
  clear hlist hs1 hs1' hm400 hp hmi hat ho
  have hgl := hg.lt
  have HG := Lib.hid hg
  clear hg
  go_enter Tryz.func115, Tryz.ntmps115
  go_wp2_with fail
  refine CN.out.mono ?_
  rintro e w1 ⟨rfl, hh1, hg1⟩
  rw [HP.out] at hh1 ⊢
  go_upto_region 2 with fail
  have f2 : w1.cell? ⟨g, 2, none⟩ = some (.int .i64 s0.err) := hh1.cell 2
  have z2 := hh1.free 2
  obtain ⟨tb, htb⟩ : ∃ tb, tb = decide (s0.err = 0 ∧ (m < 0 ∨ 400 < m)) := ⟨_, rfl⟩
  have HTB := Lib.hid htb
  have HH1 := Lib.hid hh1
  have HG1 := Lib.hid hg1
  clear htb hh1 hg1
  go_cut [21] (fun v21 wx => v21 = .bool tb ∧ wx = w1)
  case first =>
    by_cases he : s0.err = 0
    · have hb : (s0.err == 0) = true := by rw [beq_iff_eq]; exact he
      by_cases h1 : m < 0
      · have HF : Hid (tb = true) := by rw [HTB.out, decide_eq_true_iff]; exact ⟨he, .inl h1⟩
        clear he
        go_wp2_with fail
        go_meet
        exact ⟨by rw [HF.out], rfl⟩
      · by_cases h2 : 400 < m
        · have HF : Hid (tb = true) := by rw [HTB.out, decide_eq_true_iff]; exact ⟨he, .inr h2⟩
          clear he
          go_wp2_with fail
          go_meet
          exact ⟨by rw [HF.out], rfl⟩
        · have HF : Hid (tb = false) := by rw [HTB.out, decide_eq_false_iff_not]; intro hh; omega
          clear he
          go_wp2_with fail
          go_meet
          exact ⟨by rw [HF.out], rfl⟩
    · have hb : (s0.err == 0) = false := by rw [beq_eq_false_iff_ne]; exact he
      have HF : Hid (tb = false) := by rw [HTB.out, decide_eq_false_iff_not]; intro hh; exact he hh.1
      clear he
      go_wp2_with fail
      go_meet
      exact ⟨by rw [HF.out], rfl⟩
  case rest =>
    obtain ⟨rfl, rfl⟩ := hcut
    go_upto_if 21 with fail
    go_cut [3] (fun v3 wx => v3 = .int .i64 m ∧ Held wx g 128 (rdCells A n c s1) ∧ w.grownBy wx (some g))
    case first =>
      cases tb
      · have hs : s1 = s0 := by
          have := HTB.out.symm
          rw [decide_eq_false_iff_not] at this
          rw [HS1.out, if_neg this]
        have HF := Lib.hid hs
        clear hs
        go_wp2_with fail
        go_meet
        exact ⟨rfl, by rw [HF.out]; exact HH1.out, HG1.out⟩
      · have hs : s1 = ⟨s0.at_, 11⟩ := by
          have := HTB.out.symm
          rw [decide_eq_true_iff] at this
          rw [HS1.out, if_pos this]
        have HF := Lib.hid hs
        clear hs
        go_wp2_with fail
        go_meet
        exact ⟨rfl, by rw [HF.out]; exact HH1.out.store 2 (.int .i64 11), grown_then HG1.out (grown_store wc g 2 _)⟩
    case rest =>
      obtain ⟨rfl, hhx, hgx⟩ := hcut
      have hinfo := info_int
      obtain ⟨i0, hi, hz0, hz1, hz2⟩ := info_parts hinfo
      have HI := Lib.hid hi
      have HZ0 := Lib.hid hz0
      have HZ1 := Lib.hid hz1
      have HZ2 := Lib.hid hz2
      clear hi hz0 hz1 hz2 hinfo
      have hz : (0 : Nat) < 1 := by omega
      obtain ⟨N, hN⟩ : ∃ N, N = m.toNat := ⟨_, rfl⟩
      have HN := Lib.hid hN
      clear hN
      go_wp2_with fail
      go_loopw [4, 5, 6] (fun v la i wr => ∃ (k : Nat) (last : Int) (s' : Rd) (L0 : List Int) (vv : Value), vv = v ∧ i = .int .i64 k ∧ la = .int .i64 last ∧ ListAt xs N s1 L0 last s' k ∧ s'.at_ ≤ n ∧ Held wr g 128 (rdCells A n c s') ∧
          wr.ownsRow base 3 1 vv L0.length (L0.map iv) ∧ w.grownBy wr (some g) ∧ At w none vv.ownBlock) (fun _ _ i _ => N - (intOf i).toNat)
      case atStart => exact ⟨0, 0, s1, [], _, rfl, rfl, rfl, ⟨rfl, Nat.zero_le _, fun _ => rfl, fun h => by omega, by simp⟩, hat1, hhx, World.ownsRow_nil _ _ _ _, hgx, .inl rfl⟩
      case round =>
        clear hhx hgx
        obtain ⟨k, last, s', L0, vv, rfl, rfl, rfl, hla, hsa, hh, hown, hgr, hat⟩ := hrel
        have f2 : wr.cell? ⟨g, 2, none⟩ = some (.int .i64 s'.err) := hh.cell 2
        have hkN : k ≤ N := hla.2.1
        have hgw : g < w.heap.size := hgl
        have hBg' : B ≤ w.heap.size := by omega
        have hng : vv.ownBlock ≠ some g := by
          rcases hat with h0 | ⟨b0, h1, h2⟩
          · rw [h0]; exact fun h => nomatch h
          · rw [h1]; intro h; injection h with h; omega
        by_cases hlt : (k : Int) < m
        · by_cases he : s'.err = 0
          · have hN4 : N ≤ 400 := by
              rcases Nat.eq_zero_or_pos k with h0 | h0
              · have h1 := hla.2.2.1 h0
                have := HM4.out (by rw [← h1]; exact he)
                rw [HN.out]
                omega
              · exact hla.2.2.2.1 h0
            have hlen0 : L0.length = k := hla.1
            have CN2 := Lib.hid (numberR_any g A n c B xs s' wr hh (h.grown hgr hBg' (fun g' hg' => by injection hg' with hg'; omega)) hnc HO.out hn hsa)
            have HNX := Lib.hid (listAt_next hla (by have := HN.out; omega) he hN4)
            have hatn := (rdNum_at (b := xs) (s := s') (by omega)).1
            obtain ⟨x, s2, hp2⟩ : ∃ x s2, rdNum xs s' = (x, s2) := ⟨_, _, rfl⟩
            have hxi := rdNum_i64 xs s'
            rw [hp2] at hatn hxi
            have HP2 := Lib.hid hp2
            have HAT := Lib.hid hatn
            have hb : (s'.err == 0) = true := by rw [beq_iff_eq]; exact he
            clear hla he hp2 hatn
            go_wp2_with fail
            refine CN2.out.mono ?_
            rintro e w2 ⟨rfl, hh2, hg2⟩
            rw [HP2.out] at hh2 ⊢
            have hown2 := own_far hown hg2 hng
            rw [hlen0] at hown2
            have HN4 := Lib.hid hN4
            have bk : k + 1 ≤ 400 := by have := HN.out; omega
            clear hown hN4
            go_wp2_with (at_builtin; refine wpList_app _ rfl (.tmp 41) (.tmp 43) _ rfl base 3 i0 (.int .i64 0) 1 8 Tryz.underlying37 HI.out HZ0.out HZ1.out HZ2.out rfl hz _ vv.ownBlock k (L0.map iv) rfl (App.own (hown2.alloc _)) ⟨w2.heap.size, 0, none⟩ 1 1 [.int .i64 (wrap64 (last + x))] rfl hz rfl (cell_new1 _ _ _) (one1 rfl) (by unfold maxLen; omega) (by omega) (by have := hgr.size; have := hg2.size; simp; omega) ?_; intro v' w3 hown3 hg3 hat3)
            have hg3' := grown_alloc hg3
            have hat3' := hat3.alloc
            have hw12 : w.heap.size ≤ w2.heap.size := Nat.le_trans hgr.size hg2.size
            clear hg3 hat3
            go_roundw
            case rel =>
              have hN2 := HNX.out
              rw [HP2.out] at hN2
              refine ⟨k + 1, wrap64 (last + x), s2, L0 ++ [wrap64 (last + x)], v', rfl, by go_num, rfl, hN2, Nat.le_trans HAT.out (Nat.le_of_eq hl), hh2.grown hg3' (fun e => hng e.symm), ?_, grown_side (grown_then hgr hg2) hg3' hat, hat.trans hat3' hw12⟩
              rw [List.length_append, List.map_append, hlen0]
              exact hown3
            case measure => simp [intOf]; have := HN.out; omega
          · have HE := Lib.hid (listAt_end hla (.inr he))
            have hb : (s'.err == 0) = false := by rw [beq_eq_false_iff_ne]; exact he
            have HR := Lib.hid (show w.grownBy wr (some g) from hgr)
            clear hla he
            go_wp2_with fail
            go_ret
            rw [← HN.out, HE.out]
            exact ⟨_, rfl, hown, hh, hgr, hat⟩
        · have HE := Lib.hid (listAt_end hla (.inl (by have := HN.out; omega)))
          clear hla
          go_wp2_with fail
          go_ret
          rw [← HN.out, HE.out]
          exact ⟨_, rfl, hown, hh, hgr, hat⟩
end Go.Proofs.YtfbkkgfkhhibfaaGreat

/- The walk of the reference's Read (chapter 11): getRec. -/
namespace Go.Proofs.YtfbkkgfkhhibfaaGreat
open Go Go.RowKit Iv
set_option linter.unusedVariables false
structure RdX (w : World) (tR : TypeId) (gx : Nat) (A : Option Addr) (n c : Nat) (wk : World) (s : Rd) (cs : Array Value) : Prop where
  res : Held wk w.heap.size 54 #[.int .i64 0, .int .i64 0, .int .i64 0, .int .i64 0, .int .i64 0, .int .i64 0, .slice none 0 0, .slice none 0 0]
  rd : Held wk (w.heap.size + 1) tR (rdCells A n c s)
  rcd : Held wk gx 54 cs
  grown : w.grownBy wk none
  far : w.heap.size + 1 < gx
theorem RdX.next {w : World} {tR : TypeId} {gx : Nat} {A : Option Addr} {n c : Nat} {wk w' : World} {s s' : Rd} {cs : Array Value} (h : RdX w tR gx A n c wk s cs)
    (h1 : Held w' (w.heap.size + 1) tR (rdCells A n c s')) (h2 : wk.grownBy w' (some (w.heap.size + 1))) : RdX w tR gx A n c w' s' cs := by
  have hf := h.far
  refine ⟨h.res.grown h2 (fun e => by injection e with e; omega), h1, h.rcd.grown h2 (fun e => by injection e with e; omega), ?_, hf⟩
  exact grownBy_trans h.grown h2 (.inr ⟨_, rfl, Nat.le_succ _⟩)
theorem RdX.put {w : World} {tR : TypeId} {gx : Nat} {A : Option Addr} {n c : Nat} {wk : World} {s : Rd} {cs : Array Value} (h : RdX w tR gx A n c wk s cs) (i : Nat) (u : Value) :
    RdX w tR gx A n c (wk.setCell ⟨gx, i, none⟩ u) s (cs.setIfInBounds i u) := by
  have hf := h.far
  refine ⟨h.res.far (by simp only []; omega) u, h.rd.far (by simp only []; omega) u, h.rcd.store i u, ?_, hf⟩
  exact grownBy_trans h.grown (grown_store wk _ i u) (.inr ⟨_, rfl, by omega⟩)
set_option maxRecDepth 100000 in
set_option maxHeartbeats 3200000 in
theorem readR_any (A : Option Addr) (n c B : Nat) (xs : Bytes) (thread seq : Int) (w : World) (h : Lies w B 1 A n (xs.map bv)) (hB : B ≤ w.heap.size) (hnc : n ≤ c) (ho : A = none → c = 0) (hn : n ≤ 1000000000) :
    Calls Tryz.prog 84 #[.slice A n c, .int .i64 thread, .int .i64 seq] w fun e w' => ∃ (r : Rec) (vd vf : Value), r = (getRec xs thread seq).1 ∧
      e = .returned (.tuple #[.agg #[.int .i64 r.seq, .int .i64 r.ev.thread, .int .i64 r.ev.kind, .int .i64 r.ev.obj, .int .i64 r.ev.value, .int .i64 r.ev.site, vd, vf], .int .i64 ((getRec xs thread seq).2.1 : Int), .int .i64 (getRec xs thread seq).2.2]) ∧
      w'.ownsRow w.heap.size 3 1 vd r.ev.deps.length (r.ev.deps.map iv) ∧ w'.ownsRow w.heap.size 3 1 vf r.ev.from_.length (r.ev.from_.map iv) ∧ w.grownBy w' none := by
  have hl : xs.length = n := h.lenB
  have H := Lib.hid h
  clear h
  obtain ⟨W, hW⟩ : ∃ W, W = (w.alloc (.cells #[.int .i64 0, .int .i64 0, .int .i64 0, .int .i64 0, .int .i64 0, .int .i64 0, .slice none 0 0, .slice none 0 0] 54)).alloc (.cells (rdCells A n c ⟨0, 0⟩) 128) := ⟨_, rfl⟩
  have HW := Lib.hid hW
  go_enter Tryz.func84, Tryz.ntmps84
  go_wp2_with fail
  have I0 : Held W w.heap.size 54 #[.int .i64 0, .int .i64 0, .int .i64 0, .int .i64 0, .int .i64 0, .int .i64 0, .slice none 0 0, .slice none 0 0] ∧ Held W (w.heap.size + 1) 128 (rdCells A n c ⟨0, 0⟩) ∧ w.grownBy W none := by
    rw [hW]
    refine ⟨(Held.new w _ _).alloc _, newAt (w.alloc _) _ (by simp) _ _, ?_⟩
    exact grownBy_trans (World.grownBy_alloc w _ none) (World.grownBy_alloc _ _ none) (.inl rfl)
  clear hW
  have hs0 : (⟨0, 0⟩ : Rd).at_ ≤ n := Nat.zero_le _
  rw [show (w.alloc (.cells #[.int .i64 0, .int .i64 0, .int .i64 0, .int .i64 0, .int .i64 0, .int .i64 0, .slice none 0 0, .slice none 0 0] 54)).alloc (.cells #[.slice A n c, .int .i64 0, .int .i64 0] 128) = W from HW.out.symm]
  obtain ⟨x0, t0, hp0⟩ : ∃ x t, rdNum xs ⟨0, 0⟩ = (x, t) := ⟨_, _, rfl⟩
  have hs1 : t0.at_ ≤ n := by have := (rdNum_at (b := xs) (s := ⟨0, 0⟩) (Nat.zero_le _)).1; rw [hp0] at this; exact Nat.le_trans this (Nat.le_of_eq hl)
  refine (numberR_any (w.heap.size + 1) A n c B xs ⟨0, 0⟩ W I0.2.1 (H.out.grown I0.2.2 hB (fun _ e => nomatch e)) hnc ho hn hs0).mono ?_
  rintro e w1 ⟨rfl, h1, g1⟩
  rw [hp0] at h1 ⊢
  have r1 := I0.1.grown g1 (fun e => by injection e with e; omega)
  have gr1 := grownBy_trans I0.2.2 g1 (.inr ⟨_, rfl, Nat.le_succ _⟩)
  have hf1 : w.heap.size + 1 < w1.heap.size := h1.lt
  have J1 : RdX w 128 w1.heap.size A n c (w1.alloc (.cells (rcC (wrap64 (seq + x0)) thread 0 0 0 0 (.slice none 0 0) (.slice none 0 0)) 54)) t0 (rcC (wrap64 (seq + x0)) thread 0 0 0 0 (.slice none 0 0) (.slice none 0 0)) :=
    ⟨r1.alloc _, h1.alloc _, Held.new w1 _ _, grownBy_trans gr1 (World.grownBy_alloc w1 _ none) (.inl rfl), hf1⟩
  clear h1 g1 I0 r1 gr1
  go_wp2_with fail
  obtain ⟨x1, t1, hp1⟩ : ∃ x t, rdNum xs t0 = (x, t) := ⟨_, _, rfl⟩
  have hs2 : t1.at_ ≤ n := by have := (rdNum_at (b := xs) (s := t0) (by omega)).1; rw [hp1] at this; exact Nat.le_trans this (Nat.le_of_eq hl)
  refine (numberR_any (w.heap.size + 1) A n c B xs t0 _ J1.rd (H.out.grown J1.grown hB (fun _ e => nomatch e)) hnc ho hn hs1).mono ?_
  rintro e w2 ⟨rfl, h1, g1⟩
  rw [hp1] at h1 ⊢
  have I2 := J1.next h1 g1
  clear h1 g1 J1
  have z0 := I2.rcd.free 2
  have k0 := I2.rcd.cell 2
  go_wp2_with fail
  have J2 : RdX w 128 w1.heap.size A n c _ t1 (rcC (wrap64 (seq + x0)) thread x1 0 0 0 (.slice none 0 0) (.slice none 0 0)) := I2.put 2 (.int .i64 x1)
  clear z0 k0 I2
  obtain ⟨x2, t2, hp2⟩ : ∃ x t, rdNum xs t1 = (x, t) := ⟨_, _, rfl⟩
  have hs3 : t2.at_ ≤ n := by have := (rdNum_at (b := xs) (s := t1) (by omega)).1; rw [hp2] at this; exact Nat.le_trans this (Nat.le_of_eq hl)
  refine (numberR_any (w.heap.size + 1) A n c B xs t1 _ J2.rd (H.out.grown J2.grown hB (fun _ e => nomatch e)) hnc ho hn hs2).mono ?_
  rintro e w3 ⟨rfl, h1, g1⟩
  rw [hp2] at h1 ⊢
  have I3 := J2.next h1 g1
  clear h1 g1 J2
  have z0 := I3.rcd.free 3
  have k0 := I3.rcd.cell 3
  go_wp2_with fail
  have J3 : RdX w 128 w1.heap.size A n c _ t2 (rcC (wrap64 (seq + x0)) thread x1 x2 0 0 (.slice none 0 0) (.slice none 0 0)) := I3.put 3 (.int .i64 x2)
  clear z0 k0 I3
  obtain ⟨x3, t3, hp3⟩ : ∃ x t, rdNum xs t2 = (x, t) := ⟨_, _, rfl⟩
  have hs4 : t3.at_ ≤ n := by have := (rdNum_at (b := xs) (s := t2) (by omega)).1; rw [hp3] at this; exact Nat.le_trans this (Nat.le_of_eq hl)
  refine (numberR_any (w.heap.size + 1) A n c B xs t2 _ J3.rd (H.out.grown J3.grown hB (fun _ e => nomatch e)) hnc ho hn hs3).mono ?_
  rintro e w4 ⟨rfl, h1, g1⟩
  rw [hp3] at h1 ⊢
  have I4 := J3.next h1 g1
  clear h1 g1 J3
  have z0 := I4.rcd.free 4
  have k0 := I4.rcd.cell 4
  go_wp2_with fail
  have J4 : RdX w 128 w1.heap.size A n c _ t3 (rcC (wrap64 (seq + x0)) thread x1 x2 x3 0 (.slice none 0 0) (.slice none 0 0)) := I4.put 4 (.int .i64 x3)
  clear z0 k0 I4
  obtain ⟨x4, t4, hp4⟩ : ∃ x t, rdNum xs t3 = (x, t) := ⟨_, _, rfl⟩
  have hs5 : t4.at_ ≤ n := by have := (rdNum_at (b := xs) (s := t3) (by omega)).1; rw [hp4] at this; exact Nat.le_trans this (Nat.le_of_eq hl)
  refine (numberR_any (w.heap.size + 1) A n c B xs t3 _ J4.rd (H.out.grown J4.grown hB (fun _ e => nomatch e)) hnc ho hn hs4).mono ?_
  rintro e w5 ⟨rfl, h1, g1⟩
  rw [hp4] at h1 ⊢
  have I5 := J4.next h1 g1
  clear h1 g1 J4
  have z0 := I5.rcd.free 5
  have k0 := I5.rcd.cell 5
  go_wp2_with fail
  have J5 : RdX w 128 w1.heap.size A n c _ t4 (rcC (wrap64 (seq + x0)) thread x1 x2 x3 x4 (.slice none 0 0) (.slice none 0 0)) := I5.put 5 (.int .i64 x4)
  clear z0 k0 I5
  have hsz5 : w1.heap.size < w5.heap.size := by have := J5.rcd.lt; simpa using this
  obtain ⟨l5, t5, hp5⟩ : ∃ x t, rdList xs t4 = (x, t) := ⟨_, _, rfl⟩
  have hs6 : t5.at_ ≤ n := by have := rdList_at (b := xs) (s := t4) (by omega); rw [hp5] at this; exact Nat.le_trans this (Nat.le_of_eq hl)
  refine (listR_any (w.heap.size + 1) A n c B xs t4 _ J5.rd (H.out.grown J5.grown hB (fun _ e => nomatch e)) (by omega) hnc ho hn hs5 w.heap.size (by simp; omega)).mono ?_
  rintro e w6 ⟨vd, rfl, hod, h1, g1, hatd⟩
  rw [hp5] at h1 hod
  obtain ⟨Ad, cd, hvd, _, _, _, _⟩ := own_slice hod
  have I6 := J5.next h1 g1
  clear h1 g1 J5
  have hned : vd.ownBlock ≠ some (w.heap.size + 1) ∧ vd.ownBlock ≠ some (w1.heap.size) := by
    rcases hatd with h0 | ⟨b0, h1, h2⟩
    · rw [h0]; exact ⟨fun h => (nomatch h), fun h => (nomatch h)⟩
    · have h2' : w5.heap.size ≤ b0 := by simpa using h2
      rw [h1]; exact ⟨fun h => (by injection h with h; omega), fun h => (by injection h with h; omega)⟩
  have hne0 : vd.ownBlock ≠ some w.heap.size := by
    rcases hatd with h0 | ⟨b0, h1, h2⟩
    · rw [h0]; exact fun h => (nomatch h)
    · have h2' : w5.heap.size ≤ b0 := by simpa using h2
      rw [h1]; exact fun h => (by injection h with h; omega)
  have HNE0 := Lib.hid hne0
  have hod2 := own_far hod (grown_store w6 (w1.heap.size) 6 vd) hned.2
  have J6 : RdX w 128 w1.heap.size A n c _ t5 (rcC (wrap64 (seq + x0)) thread x1 x2 x3 x4 vd (.slice none 0 0)) := I6.put 6 vd
  have HOD := Lib.hid hod2
  have HNED := Lib.hid hned
  clear hod hatd hned hod2 hne0
  subst hvd
  have z0 := I6.rcd.free 6
  have k0 := I6.rcd.cell 6
  go_wp2_with fail
  clear z0 k0
  have hsz6 : w1.heap.size < w6.heap.size := I6.rcd.lt
  clear I6
  obtain ⟨l6, t6, hp6⟩ : ∃ x t, rdList xs t5 = (x, t) := ⟨_, _, rfl⟩
  refine (listR_any (w.heap.size + 1) A n c B xs t5 _ J6.rd (H.out.grown J6.grown hB (fun _ e => nomatch e)) (by omega) hnc ho hn hs6 w.heap.size (by simp; omega)).mono ?_
  rintro e w7 ⟨vf, rfl, hof, h1, g1, hatf⟩
  rw [hp6] at h1 hof
  obtain ⟨Af, cf, hvf, _, _, _, _⟩ := own_slice hof
  have I7 := J6.next h1 g1
  have hod3 := own_far HOD.out g1 HNED.out.1
  clear h1 g1 J6
  have hnef : vf.ownBlock ≠ some w.heap.size ∧ vf.ownBlock ≠ some (w1.heap.size) := by
    rcases hatf with h0 | ⟨b0, h1, h2⟩
    · rw [h0]; exact ⟨fun h => (nomatch h), fun h => (nomatch h)⟩
    · have h2' : w6.heap.size ≤ b0 := by simpa using h2
      rw [h1]; exact ⟨fun h => (by injection h with h; omega), fun h => (by injection h with h; omega)⟩
  have HOF := Lib.hid (own_far hof (grown_store w7 (w1.heap.size) 7 vf) hnef.2)
  have HOD3 := Lib.hid (own_far hod3 (grown_store w7 (w1.heap.size) 7 vf) HNED.out.2)
  have J7 : RdX w 128 w1.heap.size A n c _ t6 (rcC (wrap64 (seq + x0)) thread x1 x2 x3 x4 (.slice Ad l5.length cd) vf) := I7.put 7 vf
  have HNEF := Lib.hid hnef.1
  clear hof hod3 hatf hnef
  subst hvf
  have z0 := I7.rcd.free 7
  have k0 := I7.rcd.cell 7
  have e1 : w7.cell? ⟨w.heap.size + 1, 1, none⟩ = some (.int .i64 (t6.at_ : Int)) := I7.rd.cell 1
  have e2 : w7.cell? ⟨w.heap.size + 1, 2, none⟩ = some (.int .i64 t6.err) := I7.rd.cell 2
  obtain ⟨W8, hW8⟩ : ∃ W8, W8 = w7.setCell ⟨w1.heap.size, 7, none⟩ (.slice Af l6.length cf) := ⟨_, rfl⟩
  have J8 := J7
  rw [← hW8] at J8
  have HOF8 := HOF.out
  have HOD8 := HOD3.out
  rw [← hW8] at HOF8 HOD8
  have HX := Lib.hid (And.intro HOF8 HOD8)
  have HJ8 := Lib.hid J8
  have HW8 := Lib.hid hW8
  have c0 : W8.cell? ⟨w1.heap.size, 0, none⟩ = some (.int .i64 (wrap64 (seq + x0))) := J8.rcd.cell 0
  have c1 : W8.cell? ⟨w1.heap.size, 1, none⟩ = some (.int .i64 thread) := J8.rcd.cell 1
  have c2 : W8.cell? ⟨w1.heap.size, 2, none⟩ = some (.int .i64 x1) := J8.rcd.cell 2
  have c3 : W8.cell? ⟨w1.heap.size, 3, none⟩ = some (.int .i64 x2) := J8.rcd.cell 3
  have c4 : W8.cell? ⟨w1.heap.size, 4, none⟩ = some (.int .i64 x3) := J8.rcd.cell 4
  have c5 : W8.cell? ⟨w1.heap.size, 5, none⟩ = some (.int .i64 x4) := J8.rcd.cell 5
  have c6 : W8.cell? ⟨w1.heap.size, 6, none⟩ = some (.slice Ad l5.length cd) := J8.rcd.cell 6
  have c7 : W8.cell? ⟨w1.heap.size, 7, none⟩ = some (.slice Af l6.length cf) := J8.rcd.cell 7
  have e1' : W8.cell? ⟨w.heap.size + 1, 1, none⟩ = some (.int .i64 (t6.at_ : Int)) := J8.rd.cell 1
  have e2' : W8.cell? ⟨w.heap.size + 1, 2, none⟩ = some (.int .i64 t6.err) := J8.rd.cell 2
  have q0 : W8.cell? ⟨w.heap.size, 0, none⟩ = some (.int .i64 0) := J8.res.cell 0
  have q1 : W8.cell? ⟨w.heap.size, 1, none⟩ = some (.int .i64 0) := J8.res.cell 1
  have q2 : W8.cell? ⟨w.heap.size, 2, none⟩ = some (.int .i64 0) := J8.res.cell 2
  have q3 : W8.cell? ⟨w.heap.size, 3, none⟩ = some (.int .i64 0) := J8.res.cell 3
  have q4 : W8.cell? ⟨w.heap.size, 4, none⟩ = some (.int .i64 0) := J8.res.cell 4
  have q5 : W8.cell? ⟨w.heap.size, 5, none⟩ = some (.int .i64 0) := J8.res.cell 5
  have q6 : W8.cell? ⟨w.heap.size, 6, none⟩ = some (.slice none 0 0) := J8.res.cell 6
  have q7 : W8.cell? ⟨w.heap.size, 7, none⟩ = some (.slice none 0 0) := J8.res.cell 7
  have y0 := J8.res.free 0
  have y1 := J8.res.free 1
  have y2 := J8.res.free 2
  have y3 := J8.res.free 3
  have y4 := J8.res.free 4
  have y5 := J8.res.free 5
  have y6 := J8.res.free 6
  have y7 := J8.res.free 7
  clear J7 J8 HOF HOD3 HOF8 HOD8
  by_cases he : t6.err = 0
  · have hb : (t6.err != 0) = false := by rw [he]; rfl
    clear hW8
    go_wp2_with fail
    rw [show w7.setCell ⟨w1.heap.size, 7, none⟩ (.slice Af l6.length cf) = W8 from HW8.out.symm]
    clear z0 k0 e1 e2
    go_region
    all_goals (go_wp2_with fail)
    all_goals
      obtain ⟨s1, s2, s3⟩ := stores8 HJ8.out.res HJ8.out.grown (Nat.le_refl _) (.int .i64 (wrap64 (seq + x0))) (.int .i64 thread) (.int .i64 x1) (.int .i64 x2) (.int .i64 x3) (.int .i64 x4) (.slice Ad l5.length cd) (.slice Af l6.length cf)
      obtain ⟨W9, hW9⟩ : ∃ W9, W9 = ((((((((W8.setCell ⟨w.heap.size, 0, none⟩ (.int .i64 (wrap64 (seq + x0)))).setCell ⟨w.heap.size, 1, none⟩ (.int .i64 thread)).setCell ⟨w.heap.size, 2, none⟩ (.int .i64 x1)).setCell ⟨w.heap.size, 3, none⟩ (.int .i64 x2)).setCell ⟨w.heap.size, 4, none⟩ (.int .i64 x3)).setCell ⟨w.heap.size, 5, none⟩ (.int .i64 x4)).setCell ⟨w.heap.size, 6, none⟩ (.slice Ad l5.length cd)).setCell ⟨w.heap.size, 7, none⟩ (.slice Af l6.length cf)).drew := ⟨_, rfl⟩
      rw [show ((((((((W8.setCell ⟨w.heap.size, 0, none⟩ (.int .i64 (wrap64 (seq + x0)))).setCell ⟨w.heap.size, 1, none⟩ (.int .i64 thread)).setCell ⟨w.heap.size, 2, none⟩ (.int .i64 x1)).setCell ⟨w.heap.size, 3, none⟩ (.int .i64 x2)).setCell ⟨w.heap.size, 4, none⟩ (.int .i64 x3)).setCell ⟨w.heap.size, 5, none⟩ (.int .i64 x4)).setCell ⟨w.heap.size, 6, none⟩ (.slice Ad l5.length cd)).setCell ⟨w.heap.size, 7, none⟩ (.slice Af l6.length cf)).drew = W9 from hW9.symm]
      have t1 : Held W9 w.heap.size 54 #[(.int .i64 (wrap64 (seq + x0))), (.int .i64 thread), (.int .i64 x1), (.int .i64 x2), (.int .i64 x3), (.int .i64 x4), (.slice Ad l5.length cd), (.slice Af l6.length cf)] := by rw [hW9]; exact s1.drew
      have t2 : w.grownBy W9 none := by rw [hW9]; exact grown_toDrew s2
      have t3 : W8.grownBy W9 (some w.heap.size) := by rw [hW9]; exact grown_toDrew s3
      clear hW9 s1 s2 s3
      have d0 : W9.cell? ⟨w.heap.size, 0, none⟩ = some (.int .i64 (wrap64 (seq + x0))) := t1.cell 0
      have d1 : W9.cell? ⟨w.heap.size, 1, none⟩ = some (.int .i64 thread) := t1.cell 1
      have d2 : W9.cell? ⟨w.heap.size, 2, none⟩ = some (.int .i64 x1) := t1.cell 2
      have d3 : W9.cell? ⟨w.heap.size, 3, none⟩ = some (.int .i64 x2) := t1.cell 3
      have d4 : W9.cell? ⟨w.heap.size, 4, none⟩ = some (.int .i64 x3) := t1.cell 4
      have d5 : W9.cell? ⟨w.heap.size, 5, none⟩ = some (.int .i64 x4) := t1.cell 5
      have d6 : W9.cell? ⟨w.heap.size, 6, none⟩ = some (.slice Ad l5.length cd) := t1.cell 6
      have d7 : W9.cell? ⟨w.heap.size, 7, none⟩ = some (.slice Af l6.length cf) := t1.cell 7
      have HOF9 := own_far HX.out.1 t3 HNEF.out
      have HOD9 := own_far HX.out.2 t3 HNE0.out
      have hg : getRec xs thread seq = (⟨wrap64 (seq + x0), ⟨thread, x1, x2, x3, x4, l5, l6⟩⟩, t6.at_, 0) := by
        unfold getRec rdAll
        simp only [hp0, hp1, hp2, hp3, hp4, hp5, hp6]
        rw [if_pos he]
      refine bodyPost_ret (v := .tuple #[.agg #[.int .i64 (wrap64 (seq + x0)), .int .i64 thread, .int .i64 x1, .int .i64 x2, .int .i64 x3, .int .i64 x4, .slice Ad l5.length cd, .slice Af l6.length cf], .int .i64 (t6.at_ : Int), .int .i64 0]) (by simp [results, Tryz.results84, go_sem, d0, d1, d2, d3, d4, d5, d6, d7]) rfl ⟨_, .slice Ad l5.length cd, .slice Af l6.length cf, rfl, ?_, ?_, ?_, t2⟩
      · rw [hg]
      · rw [hg]; exact HOD9
      · rw [hg]; exact HOF9
  · have hb : (t6.err != 0) = true := by rw [bne_iff_ne]; exact he
    clear hW8
    go_wp2_with fail
    rw [show w7.setCell ⟨w1.heap.size, 7, none⟩ (.slice Af l6.length cf) = W8 from HW8.out.symm]
    clear z0 k0 e1 e2
    go_region
    all_goals (go_wp2_with fail)
    all_goals
      obtain ⟨s1, s2, s3⟩ := stores8 HJ8.out.res HJ8.out.grown (Nat.le_refl _) (.int .i64 0) (.int .i64 0) (.int .i64 0) (.int .i64 0) (.int .i64 0) (.int .i64 0) (.slice none 0 0) (.slice none 0 0)
      obtain ⟨W9, hW9⟩ : ∃ W9, W9 = ((((((((W8.setCell ⟨w.heap.size, 0, none⟩ (.int .i64 0)).setCell ⟨w.heap.size, 1, none⟩ (.int .i64 0)).setCell ⟨w.heap.size, 2, none⟩ (.int .i64 0)).setCell ⟨w.heap.size, 3, none⟩ (.int .i64 0)).setCell ⟨w.heap.size, 4, none⟩ (.int .i64 0)).setCell ⟨w.heap.size, 5, none⟩ (.int .i64 0)).setCell ⟨w.heap.size, 6, none⟩ (.slice none 0 0)).setCell ⟨w.heap.size, 7, none⟩ (.slice none 0 0)).drew := ⟨_, rfl⟩
      rw [show ((((((((W8.setCell ⟨w.heap.size, 0, none⟩ (.int .i64 0)).setCell ⟨w.heap.size, 1, none⟩ (.int .i64 0)).setCell ⟨w.heap.size, 2, none⟩ (.int .i64 0)).setCell ⟨w.heap.size, 3, none⟩ (.int .i64 0)).setCell ⟨w.heap.size, 4, none⟩ (.int .i64 0)).setCell ⟨w.heap.size, 5, none⟩ (.int .i64 0)).setCell ⟨w.heap.size, 6, none⟩ (.slice none 0 0)).setCell ⟨w.heap.size, 7, none⟩ (.slice none 0 0)).drew = W9 from hW9.symm]
      have t1 : Held W9 w.heap.size 54 #[(.int .i64 0), (.int .i64 0), (.int .i64 0), (.int .i64 0), (.int .i64 0), (.int .i64 0), (.slice none 0 0), (.slice none 0 0)] := by rw [hW9]; exact s1.drew
      have t2 : w.grownBy W9 none := by rw [hW9]; exact grown_toDrew s2
      have t3 : W8.grownBy W9 (some w.heap.size) := by rw [hW9]; exact grown_toDrew s3
      clear hW9 s1 s2 s3
      have d0 : W9.cell? ⟨w.heap.size, 0, none⟩ = some (.int .i64 0) := t1.cell 0
      have d1 : W9.cell? ⟨w.heap.size, 1, none⟩ = some (.int .i64 0) := t1.cell 1
      have d2 : W9.cell? ⟨w.heap.size, 2, none⟩ = some (.int .i64 0) := t1.cell 2
      have d3 : W9.cell? ⟨w.heap.size, 3, none⟩ = some (.int .i64 0) := t1.cell 3
      have d4 : W9.cell? ⟨w.heap.size, 4, none⟩ = some (.int .i64 0) := t1.cell 4
      have d5 : W9.cell? ⟨w.heap.size, 5, none⟩ = some (.int .i64 0) := t1.cell 5
      have d6 : W9.cell? ⟨w.heap.size, 6, none⟩ = some (.slice none 0 0) := t1.cell 6
      have d7 : W9.cell? ⟨w.heap.size, 7, none⟩ = some (.slice none 0 0) := t1.cell 7
      have hg : getRec xs thread seq = (zeroRec, 0, t6.err) := by
        unfold getRec rdAll
        simp only [hp0, hp1, hp2, hp3, hp4, hp5, hp6]
        rw [if_neg he]
      refine bodyPost_ret (v := .tuple #[.agg #[.int .i64 0, .int .i64 0, .int .i64 0, .int .i64 0, .int .i64 0, .int .i64 0, .slice none 0 0, .slice none 0 0], .int .i64 0, .int .i64 t6.err]) (by simp [results, Tryz.results84, go_sem, d0, d1, d2, d3, d4, d5, d6, d7]) rfl ⟨_, .slice none 0 0, .slice none 0 0, rfl, ?_, ?_, ?_, t2⟩
      · rw [hg]; rfl
      · rw [hg]; exact World.ownsRow_nil _ _ _ _
      · rw [hg]; exact World.ownsRow_nil _ _ _ _
end Go.Proofs.YtfbkkgfkhhibfaaGreat
