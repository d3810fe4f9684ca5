/- The walks of the readers' lists (chapter 11): each is 'rdList'. -/
import Derived.Test.YtlofjhcjjcohfaaRdr
import Derived.Deep.DeepCutAuto
namespace Go.Proofs.Ytlofjhcjjcohfaa
open Go Go.RowKit Iv
set_option linter.unusedVariables false

theorem rdNum_i64 (b : Bytes) (s : Rd) : inI64 (rdNum b s).1 := by
  by_cases h : (rdNum b s).2.err = 0
  · exact (rdNum_once h).1
  · unfold rdNum at h ⊢
    split
    · split
      · rename_i h1 h2
        rw [if_pos h1, if_pos h2] at h
        exact absurd rfl h
      · exact ⟨by omega, by omega⟩
    · exact ⟨by omega, by omega⟩

/-- What holds at the head of a round of the list's loop. -/
def ListAt (xs : Bytes) (N : Nat) (s1 : Rd) (L0 : List Int) (last : Int) (s' : Rd) (i : Nat) : Prop :=
  L0.length = i ∧ i ≤ N ∧ (i = 0 → s' = s1) ∧ (0 < i → N ≤ 400) ∧ (L0 ++ (rdItems xs (N - i) last s').1, (rdItems xs (N - i) last s').2) = rdItems xs N 0 s1

theorem listAt_next {xs : Bytes} {N : Nat} {s1 : Rd} {L0 : List Int} {last : Int} {s' : Rd} {k : Nat} (h : ListAt xs N s1 L0 last s' k) (hk : k < N) (he : s'.err = 0) (h4 : N ≤ 400) :
    ListAt xs N s1 (L0 ++ [wrap64 (last + (rdNum xs s').1)]) (wrap64 (last + (rdNum xs s').1)) (rdNum xs s').2 (k + 1) := by
  obtain ⟨h1, h2, h3, h5, h6⟩ := h
  refine ⟨by simp [h1], by omega, fun h => by omega, fun _ => h4, ?_⟩
  rw [← h6, show N - k = (N - (k + 1)) + 1 from by omega, rdItems, if_pos he]
  simp only [List.append_assoc, List.cons_append, List.nil_append]
theorem listAt_end {xs : Bytes} {N : Nat} {s1 : Rd} {L0 : List Int} {last : Int} {s' : Rd} {k : Nat} (h : ListAt xs N s1 L0 last s' k) (hk : N ≤ k ∨ s'.err ≠ 0) : rdItems xs N 0 s1 = (L0, s') := by
  obtain ⟨h1, h2, h3, h5, h6⟩ := h
  rw [← h6]
  rcases hk with hk | hk
  · rw [show N - k = 0 from by omega]
    simp [rdItems]
  · rw [rdItems_bad hk]
    simp

/-- Behind a change of block g, a change of a row that lies in no block of the first world. -/
theorem grown_side {a b c : World} {o o' : Option Nat} (h : a.grownBy b o) (h' : b.grownBy c o') (hat : At a none o') : a.grownBy c o := by
  refine ⟨h'.os.trans h.os, h'.tape.trans h.tape, h'.output.trans h.output, Nat.le_trans h.size h'.size, fun k hk hne => ?_⟩
  have h1 := h.block k hk hne
  refine (h'.block k (Nat.lt_of_lt_of_le hk h.size) ?_).trans h1
  rcases hat with rfl | ⟨g, rfl, hg⟩
  · exact fun e => nomatch e
  · intro e
    injection e with e
    omega
theorem own_far {w w' : World} {base e sz n g : Nat} {v : Value} {xs : List Value} (h : w.ownsRow base e sz v n xs) (hg : w.grownBy w' (some g)) (hne : v.ownBlock ≠ some g) : w'.ownsRow base e sz v n xs := by
  refine ⟨h.1, ?_⟩
  rcases h.2 with h2 | ⟨b, cap, cur, rfl, hb, hh, h3⟩
  · exact .inl h2
  · refine .inr ⟨b, cap, cur, rfl, hb, ?_, h3⟩
    refine (hg.block b (Array.getElem?_eq_some_iff.1 hh).1 ?_).trans hh
    intro e
    injection e with e
    exact hne (by rw [e]; rfl)

set_option maxRecDepth 100000 in
set_option maxHeartbeats 3200000 in
theorem listP_any (g : Nat) (A : Option Addr) (n c B : Nat) (xs : Bytes) (s : Rd) (w : World) (hg : Held w g 84 (rdCells A n c s)) (h : Lies w B 1 A n (xs.map bv)) (hBg : B ≤ g) (hnc : n ≤ c) (ho : A = none → c = 0) (hn : n ≤ 1000000000) (hs : s.at_ ≤ n) (base : Nat) (hbase : base ≤ w.heap.size) :
    Calls Try.prog 37 #[.pointer (some ⟨g, 0, none⟩)] w fun e w' => ∃ v', e = .returned v' ∧ w'.ownsRow base 3 1 v' (rdList xs s).1.length ((rdList xs s).1.map iv) ∧ Held w' g 84 (rdCells A n c (rdList xs s).2) ∧ w.grownBy w' (some g) ∧ At w none v'.ownBlock := by
  have hl : xs.length = n := h.lenB
  have CN := Lib.hid (numberP_any g A n c B xs s w hg h hnc ho hn hs)
  obtain ⟨m, s0, hp⟩ : ∃ m s0, rdNum xs s = (m, s0) := ⟨_, _, rfl⟩
  have hmi := rdNum_i64 xs s
  have hat := (rdNum_at (b := xs) (s := s) (by omega)).1
  rw [hp] at hmi hat
  obtain ⟨s1, hs1⟩ : ∃ s1, s1 = rdCheck (rdNum xs s) := ⟨_, rfl⟩
  have hlist : rdList xs s = rdItems xs m.toNat 0 s1 := by
    unfold rdList
    rw [← hs1, hp]
  have hs1' : s1 = if s0.err = 0 ∧ (m < 0 ∨ 400 < m) then ⟨s0.at_, 11⟩ else s0 := by
    rw [hs1, hp]
    rfl
  have hat1 : s1.at_ ≤ n := by
    rw [hs1']
    split
    · exact Nat.le_trans hat (by omega)
    · exact Nat.le_trans hat (by omega)
  have hm400 : s1.err = 0 → 0 ≤ m ∧ m ≤ 400 := by
    intro he
    rw [hs1'] at he
    by_cases hc : s0.err = 0 ∧ (m < 0 ∨ 400 < m)
    · rw [if_pos hc] at he
      exact absurd (show (11 : Int) = 0 from he) (by decide)
    · rw [if_neg hc] at he
      have : ¬ (m < 0 ∨ 400 < m) := fun hh => hc ⟨he, hh⟩
      omega
  rw [hlist]
  have HP := Lib.hid hp
  have HS1 := Lib.hid hs1'
  have HM4 := Lib.hid hm400
  have HMI := Lib.hid hmi
  have HO := Lib.hid ho
  clear hlist hs1 hs1' hm400 hp hmi hat ho
  have hgl := hg.lt
  have HG := Lib.hid hg
  clear hg
  go_enter Try.func37, Try.ntmps37
  go_wp2_with fail
  refine CN.out.mono ?_
  rintro e w1 ⟨rfl, hh1, hg1⟩
  rw [HP.out] at hh1 ⊢
  go_upto_region 2 with fail
  have f2 : w1.cell? ⟨g, 2, none⟩ = some (.int .i64 s0.err) := hh1.cell 2
  have z2 := hh1.free 2
  obtain ⟨tb, htb⟩ : ∃ tb, tb = decide (s0.err = 0 ∧ (m < 0 ∨ 400 < m)) := ⟨_, rfl⟩
  have HTB := Lib.hid htb
  have HH1 := Lib.hid hh1
  have HG1 := Lib.hid hg1
  clear htb hh1 hg1
  go_cut [21] (fun v21 wx => v21 = .bool tb ∧ wx = w1)
  case first =>
    by_cases he : s0.err = 0
    · have hb : (s0.err == 0) = true := by rw [beq_iff_eq]; exact he
      by_cases h1 : m < 0
      · have HF : Hid (tb = true) := by rw [HTB.out, decide_eq_true_iff]; exact ⟨he, .inl h1⟩
        clear he
        go_wp2_with fail
        go_meet
        exact ⟨by rw [HF.out], rfl⟩
      · by_cases h2 : 400 < m
        · have HF : Hid (tb = true) := by rw [HTB.out, decide_eq_true_iff]; exact ⟨he, .inr h2⟩
          clear he
          go_wp2_with fail
          go_meet
          exact ⟨by rw [HF.out], rfl⟩
        · have HF : Hid (tb = false) := by rw [HTB.out, decide_eq_false_iff_not]; intro hh; omega
          clear he
          go_wp2_with fail
          go_meet
          exact ⟨by rw [HF.out], rfl⟩
    · have hb : (s0.err == 0) = false := by rw [beq_eq_false_iff_ne]; exact he
      have HF : Hid (tb = false) := by rw [HTB.out, decide_eq_false_iff_not]; intro hh; exact he hh.1
      clear he
      go_wp2_with fail
      go_meet
      exact ⟨by rw [HF.out], rfl⟩
  case rest =>
    obtain ⟨rfl, rfl⟩ := hcut
    go_upto_if 21 with fail
    go_cut [3] (fun v3 wx => v3 = .int .i64 m ∧ Held wx g 84 (rdCells A n c s1) ∧ w.grownBy wx (some g))
    case first =>
      cases tb
      · have hs : s1 = s0 := by
          have := HTB.out.symm
          rw [decide_eq_false_iff_not] at this
          rw [HS1.out, if_neg this]
        have HF := Lib.hid hs
        clear hs
        go_wp2_with fail
        go_meet
        exact ⟨rfl, by rw [HF.out]; exact HH1.out, HG1.out⟩
      · have hs : s1 = ⟨s0.at_, 11⟩ := by
          have := HTB.out.symm
          rw [decide_eq_true_iff] at this
          rw [HS1.out, if_pos this]
        have HF := Lib.hid hs
        clear hs
        go_wp2_with fail
        go_meet
        exact ⟨rfl, by rw [HF.out]; exact HH1.out.store 2 (.int .i64 11), grown_then HG1.out (grown_store wc g 2 _)⟩
    case rest =>
      obtain ⟨rfl, hhx, hgx⟩ := hcut
      have hinfo := info_int
      obtain ⟨i0, hi, hz0, hz1, hz2⟩ := info_parts hinfo
      have HI := Lib.hid hi
      have HZ0 := Lib.hid hz0
      have HZ1 := Lib.hid hz1
      have HZ2 := Lib.hid hz2
      clear hi hz0 hz1 hz2 hinfo
      have hz : (0 : Nat) < 1 := by omega
      obtain ⟨N, hN⟩ : ∃ N, N = m.toNat := ⟨_, rfl⟩
      have HN := Lib.hid hN
      clear hN
      go_wp2_with fail
      go_loopw [4, 5, 6] (fun v la i wr => ∃ (k : Nat) (last : Int) (s' : Rd) (L0 : List Int) (vv : Value), vv = v ∧ i = .int .i64 k ∧ la = .int .i64 last ∧ ListAt xs N s1 L0 last s' k ∧ s'.at_ ≤ n ∧ Held wr g 84 (rdCells A n c s') ∧
          wr.ownsRow base 3 1 vv L0.length (L0.map iv) ∧ w.grownBy wr (some g) ∧ At w none vv.ownBlock) (fun _ _ i _ => N - (intOf i).toNat)
      case atStart => exact ⟨0, 0, s1, [], _, rfl, rfl, rfl, ⟨rfl, Nat.zero_le _, fun _ => rfl, fun h => by omega, by simp⟩, hat1, hhx, World.ownsRow_nil _ _ _ _, hgx, .inl rfl⟩
      case round =>
        clear hhx hgx
        obtain ⟨k, last, s', L0, vv, rfl, rfl, rfl, hla, hsa, hh, hown, hgr, hat⟩ := hrel
        have f2 : wr.cell? ⟨g, 2, none⟩ = some (.int .i64 s'.err) := hh.cell 2
        have hkN : k ≤ N := hla.2.1
        have hgw : g < w.heap.size := hgl
        have hBg' : B ≤ w.heap.size := by omega
        have hng : vv.ownBlock ≠ some g := by
          rcases hat with h0 | ⟨b0, h1, h2⟩
          · rw [h0]; exact fun h => nomatch h
          · rw [h1]; intro h; injection h with h; omega
        by_cases hlt : (k : Int) < m
        · by_cases he : s'.err = 0
          · have hN4 : N ≤ 400 := by
              rcases Nat.eq_zero_or_pos k with h0 | h0
              · have h1 := hla.2.2.1 h0
                have := HM4.out (by rw [← h1]; exact he)
                rw [HN.out]
                omega
              · exact hla.2.2.2.1 h0
            have hlen0 : L0.length = k := hla.1
            have CN2 := Lib.hid (numberP_any g A n c B xs s' wr hh (h.grown hgr hBg' (fun g' hg' => by injection hg' with hg'; omega)) hnc HO.out hn hsa)
            have HNX := Lib.hid (listAt_next hla (by have := HN.out; omega) he hN4)
            have hatn := (rdNum_at (b := xs) (s := s') (by omega)).1
            obtain ⟨x, s2, hp2⟩ : ∃ x s2, rdNum xs s' = (x, s2) := ⟨_, _, rfl⟩
            have hxi := rdNum_i64 xs s'
            rw [hp2] at hatn hxi
            have HP2 := Lib.hid hp2
            have HAT := Lib.hid hatn
            have hb : (s'.err == 0) = true := by rw [beq_iff_eq]; exact he
            clear hla he hp2 hatn
            go_wp2_with fail
            refine CN2.out.mono ?_
            rintro e w2 ⟨rfl, hh2, hg2⟩
            rw [HP2.out] at hh2 ⊢
            have hown2 := own_far hown hg2 hng
            rw [hlen0] at hown2
            have HN4 := Lib.hid hN4
            have bk : k + 1 ≤ 400 := by have := HN.out; omega
            clear hown hN4
            go_wp2_with (at_builtin; refine wpList_app _ rfl (.tmp 41) (.tmp 43) _ rfl base 3 i0 (.int .i64 0) 1 8 Try.underlying22 HI.out HZ0.out HZ1.out HZ2.out rfl hz _ vv.ownBlock k (L0.map iv) rfl (App.own (hown2.alloc _)) ⟨w2.heap.size, 0, none⟩ 1 1 [.int .i64 (wrap64 (last + x))] rfl hz rfl (cell_new1 _ _ _) (one1 rfl) (by unfold maxLen; omega) (by omega) (by have := hgr.size; have := hg2.size; simp; omega) ?_; intro v' w3 hown3 hg3 hat3)
            have hg3' := grown_alloc hg3
            have hat3' := hat3.alloc
            have hw12 : w.heap.size ≤ w2.heap.size := Nat.le_trans hgr.size hg2.size
            clear hg3 hat3
            go_roundw
            case rel =>
              have hN2 := HNX.out
              rw [HP2.out] at hN2
              refine ⟨k + 1, wrap64 (last + x), s2, L0 ++ [wrap64 (last + x)], v', rfl, by go_num, rfl, hN2, Nat.le_trans HAT.out (Nat.le_of_eq hl), hh2.grown hg3' (fun e => hng e.symm), ?_, grown_side (grown_then hgr hg2) hg3' hat, hat.trans hat3' hw12⟩
              rw [List.length_append, List.map_append, hlen0]
              exact hown3
            case measure => simp [intOf]; have := HN.out; omega
          · have HE := Lib.hid (listAt_end hla (.inr he))
            have hb : (s'.err == 0) = false := by rw [beq_eq_false_iff_ne]; exact he
            have HR := Lib.hid (show w.grownBy wr (some g) from hgr)
            clear hla he
            go_wp2_with fail
            go_ret
            rw [← HN.out, HE.out]
            exact ⟨_, rfl, hown, hh, hgr, hat⟩
        · have HE := Lib.hid (listAt_end hla (.inl (by have := HN.out; omega)))
          clear hla
          go_wp2_with fail
          go_ret
          rw [← HN.out, HE.out]
          exact ⟨_, rfl, hown, hh, hgr, hat⟩
end Go.Proofs.Ytlofjhcjjcohfaa

/- The walk of the reference's list (chapter 11). -/
namespace Go.Proofs.Ytlofjhcjjcohfaa
open Go Go.RowKit Iv
set_option linter.unusedVariables false

set_option maxRecDepth 100000 in
set_option maxHeartbeats 3200000 in
theorem listR_any (g : Nat) (A : Option Addr) (n c B : Nat) (xs : Bytes) (s : Rd) (w : World) (hg : Held w g 116 (rdCells A n c s)) (h : Lies w B 1 A n (xs.map bv)) (hBg : B ≤ g) (hnc : n ≤ c) (ho : A = none → c = 0) (hn : n ≤ 1000000000) (hs : s.at_ ≤ n) (base : Nat) (hbase : base ≤ w.heap.size) :
    Calls Try.prog 85 #[.pointer (some ⟨g, 0, none⟩)] w fun e w' => ∃ v', e = .returned v' ∧ w'.ownsRow base 3 1 v' (rdList xs s).1.length ((rdList xs s).1.map iv) ∧ Held w' g 116 (rdCells A n c (rdList xs s).2) ∧ w.grownBy w' (some g) ∧ At w none v'.ownBlock := by
  have hl : xs.length = n := h.lenB
  have CN := Lib.hid (numberR_any g A n c B xs s w hg h hnc ho hn hs)
  obtain ⟨m, s0, hp⟩ : ∃ m s0, rdNum xs s = (m, s0) := ⟨_, _, rfl⟩
  have hmi := rdNum_i64 xs s
  have hat := (rdNum_at (b := xs) (s := s) (by omega)).1
  rw [hp] at hmi hat
  obtain ⟨s1, hs1⟩ : ∃ s1, s1 = rdCheck (rdNum xs s) := ⟨_, rfl⟩
  have hlist : rdList xs s = rdItems xs m.toNat 0 s1 := by
    unfold rdList
    rw [← hs1, hp]
  have hs1' : s1 = if s0.err = 0 ∧ (m < 0 ∨ 400 < m) then ⟨s0.at_, 11⟩ else s0 := by
    rw [hs1, hp]
    rfl
  have hat1 : s1.at_ ≤ n := by
    rw [hs1']
    split
    · exact Nat.le_trans hat (by omega)
    · exact Nat.le_trans hat (by omega)
  have hm400 : s1.err = 0 → 0 ≤ m ∧ m ≤ 400 := by
    intro he
    rw [hs1'] at he
    by_cases hc : s0.err = 0 ∧ (m < 0 ∨ 400 < m)
    · rw [if_pos hc] at he
      exact absurd (show (11 : Int) = 0 from he) (by decide)
    · rw [if_neg hc] at he
      have : ¬ (m < 0 ∨ 400 < m) := fun hh => hc ⟨he, hh⟩
      omega
  rw [hlist]
  have HP := Lib.hid hp
  have HS1 := Lib.hid hs1'
  have HM4 := Lib.hid hm400
  have HMI := Lib.hid hmi
  have HO := Lib.hid ho
  clear hlist hs1 hs1' hm400 hp hmi hat ho
  have hgl := hg.lt
  have HG := Lib.hid hg
  clear hg
  go_enter Try.func85, Try.ntmps85
  go_wp2_with fail
  refine CN.out.mono ?_
  rintro e w1 ⟨rfl, hh1, hg1⟩
  rw [HP.out] at hh1 ⊢
  go_upto_region 2 with fail
  have f2 : w1.cell? ⟨g, 2, none⟩ = some (.int .i64 s0.err) := hh1.cell 2
  have z2 := hh1.free 2
  obtain ⟨tb, htb⟩ : ∃ tb, tb = decide (s0.err = 0 ∧ (m < 0 ∨ 400 < m)) := ⟨_, rfl⟩
  have HTB := Lib.hid htb
  have HH1 := Lib.hid hh1
  have HG1 := Lib.hid hg1
  clear htb hh1 hg1
  go_cut [21] (fun v21 wx => v21 = .bool tb ∧ wx = w1)
  case first =>
    by_cases he : s0.err = 0
    · have hb : (s0.err == 0) = true := by rw [beq_iff_eq]; exact he
      by_cases h1 : m < 0
      · have HF : Hid (tb = true) := by rw [HTB.out, decide_eq_true_iff]; exact ⟨he, .inl h1⟩
        clear he
        go_wp2_with fail
        go_meet
        exact ⟨by rw [HF.out], rfl⟩
      · by_cases h2 : 400 < m
        · have HF : Hid (tb = true) := by rw [HTB.out, decide_eq_true_iff]; exact ⟨he, .inr h2⟩
          clear he
          go_wp2_with fail
          go_meet
          exact ⟨by rw [HF.out], rfl⟩
        · have HF : Hid (tb = false) := by rw [HTB.out, decide_eq_false_iff_not]; intro hh; omega
          clear he
          go_wp2_with fail
          go_meet
          exact ⟨by rw [HF.out], rfl⟩
    · have hb : (s0.err == 0) = false := by rw [beq_eq_false_iff_ne]; exact he
      have HF : Hid (tb = false) := by rw [HTB.out, decide_eq_false_iff_not]; intro hh; exact he hh.1
      clear he
      go_wp2_with fail
      go_meet
      exact ⟨by rw [HF.out], rfl⟩
  case rest =>
    obtain ⟨rfl, rfl⟩ := hcut
    go_upto_if 21 with fail
    go_cut [3] (fun v3 wx => v3 = .int .i64 m ∧ Held wx g 116 (rdCells A n c s1) ∧ w.grownBy wx (some g))
    case first =>
      cases tb
      · have hs : s1 = s0 := by
          have := HTB.out.symm
          rw [decide_eq_false_iff_not] at this
          rw [HS1.out, if_neg this]
        have HF := Lib.hid hs
        clear hs
        go_wp2_with fail
        go_meet
        exact ⟨rfl, by rw [HF.out]; exact HH1.out, HG1.out⟩
      · have hs : s1 = ⟨s0.at_, 11⟩ := by
          have := HTB.out.symm
          rw [decide_eq_true_iff] at this
          rw [HS1.out, if_pos this]
        have HF := Lib.hid hs
        clear hs
        go_wp2_with fail
        go_meet
        exact ⟨rfl, by rw [HF.out]; exact HH1.out.store 2 (.int .i64 11), grown_then HG1.out (grown_store wc g 2 _)⟩
    case rest =>
      obtain ⟨rfl, hhx, hgx⟩ := hcut
      have hinfo := info_int
      obtain ⟨i0, hi, hz0, hz1, hz2⟩ := info_parts hinfo
      have HI := Lib.hid hi
      have HZ0 := Lib.hid hz0
      have HZ1 := Lib.hid hz1
      have HZ2 := Lib.hid hz2
      clear hi hz0 hz1 hz2 hinfo
      have hz : (0 : Nat) < 1 := by omega
      obtain ⟨N, hN⟩ : ∃ N, N = m.toNat := ⟨_, rfl⟩
      have HN := Lib.hid hN
      clear hN
      go_wp2_with fail
      go_loopw [4, 5, 6] (fun v la i wr => ∃ (k : Nat) (last : Int) (s' : Rd) (L0 : List Int) (vv : Value), vv = v ∧ i = .int .i64 k ∧ la = .int .i64 last ∧ ListAt xs N s1 L0 last s' k ∧ s'.at_ ≤ n ∧ Held wr g 116 (rdCells A n c s') ∧
          wr.ownsRow base 3 1 vv L0.length (L0.map iv) ∧ w.grownBy wr (some g) ∧ At w none vv.ownBlock) (fun _ _ i _ => N - (intOf i).toNat)
      case atStart => exact ⟨0, 0, s1, [], _, rfl, rfl, rfl, ⟨rfl, Nat.zero_le _, fun _ => rfl, fun h => by omega, by simp⟩, hat1, hhx, World.ownsRow_nil _ _ _ _, hgx, .inl rfl⟩
      case round =>
        clear hhx hgx
        obtain ⟨k, last, s', L0, vv, rfl, rfl, rfl, hla, hsa, hh, hown, hgr, hat⟩ := hrel
        have f2 : wr.cell? ⟨g, 2, none⟩ = some (.int .i64 s'.err) := hh.cell 2
        have hkN : k ≤ N := hla.2.1
        have hgw : g < w.heap.size := hgl
        have hBg' : B ≤ w.heap.size := by omega
        have hng : vv.ownBlock ≠ some g := by
          rcases hat with h0 | ⟨b0, h1, h2⟩
          · rw [h0]; exact fun h => nomatch h
          · rw [h1]; intro h; injection h with h; omega
        by_cases hlt : (k : Int) < m
        · by_cases he : s'.err = 0
          · have hN4 : N ≤ 400 := by
              rcases Nat.eq_zero_or_pos k with h0 | h0
              · have h1 := hla.2.2.1 h0
                have := HM4.out (by rw [← h1]; exact he)
                rw [HN.out]
                omega
              · exact hla.2.2.2.1 h0
            have hlen0 : L0.length = k := hla.1
            have CN2 := Lib.hid (numberR_any g A n c B xs s' wr hh (h.grown hgr hBg' (fun g' hg' => by injection hg' with hg'; omega)) hnc HO.out hn hsa)
            have HNX := Lib.hid (listAt_next hla (by have := HN.out; omega) he hN4)
            have hatn := (rdNum_at (b := xs) (s := s') (by omega)).1
            obtain ⟨x, s2, hp2⟩ : ∃ x s2, rdNum xs s' = (x, s2) := ⟨_, _, rfl⟩
            have hxi := rdNum_i64 xs s'
            rw [hp2] at hatn hxi
            have HP2 := Lib.hid hp2
            have HAT := Lib.hid hatn
            have hb : (s'.err == 0) = true := by rw [beq_iff_eq]; exact he
            clear hla he hp2 hatn
            go_wp2_with fail
            refine CN2.out.mono ?_
            rintro e w2 ⟨rfl, hh2, hg2⟩
            rw [HP2.out] at hh2 ⊢
            have hown2 := own_far hown hg2 hng
            rw [hlen0] at hown2
            have HN4 := Lib.hid hN4
            have bk : k + 1 ≤ 400 := by have := HN.out; omega
            clear hown hN4
            go_wp2_with (at_builtin; refine wpList_app _ rfl (.tmp 41) (.tmp 43) _ rfl base 3 i0 (.int .i64 0) 1 8 Try.underlying22 HI.out HZ0.out HZ1.out HZ2.out rfl hz _ vv.ownBlock k (L0.map iv) rfl (App.own (hown2.alloc _)) ⟨w2.heap.size, 0, none⟩ 1 1 [.int .i64 (wrap64 (last + x))] rfl hz rfl (cell_new1 _ _ _) (one1 rfl) (by unfold maxLen; omega) (by omega) (by have := hgr.size; have := hg2.size; simp; omega) ?_; intro v' w3 hown3 hg3 hat3)
            have hg3' := grown_alloc hg3
            have hat3' := hat3.alloc
            have hw12 : w.heap.size ≤ w2.heap.size := Nat.le_trans hgr.size hg2.size
            clear hg3 hat3
            go_roundw
            case rel =>
              have hN2 := HNX.out
              rw [HP2.out] at hN2
              refine ⟨k + 1, wrap64 (last + x), s2, L0 ++ [wrap64 (last + x)], v', rfl, by go_num, rfl, hN2, Nat.le_trans HAT.out (Nat.le_of_eq hl), hh2.grown hg3' (fun e => hng e.symm), ?_, grown_side (grown_then hgr hg2) hg3' hat, hat.trans hat3' hw12⟩
              rw [List.length_append, List.map_append, hlen0]
              exact hown3
            case measure => simp [intOf]; have := HN.out; omega
          · have HE := Lib.hid (listAt_end hla (.inr he))
            have hb : (s'.err == 0) = false := by rw [beq_eq_false_iff_ne]; exact he
            have HR := Lib.hid (show w.grownBy wr (some g) from hgr)
            clear hla he
            go_wp2_with fail
            go_ret
            rw [← HN.out, HE.out]
            exact ⟨_, rfl, hown, hh, hgr, hat⟩
        · have HE := Lib.hid (listAt_end hla (.inl (by have := HN.out; omega)))
          clear hla
          go_wp2_with fail
          go_ret
          rw [← HN.out, HE.out]
          exact ⟨_, rfl, hown, hh, hgr, hat⟩
end Go.Proofs.Ytlofjhcjjcohfaa
