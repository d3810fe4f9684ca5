/- What the readers of an integer give, part by part. -/
import Derived.Test.YtaiaoiochbpmfaaGreatInt
import Derived.Test.YtaiaoiochbpmfaaGreatMm
import Derived.Deep.RegionHeld3
import Derived.Deep.DeepCutAuto
namespace Go.Proofs.YtaiaoiochbpmfaaGreat
open Go Go.RowKit Iv
set_option linter.unusedVariables false
theorem intP_parts (A : Option Addr) (n c : Nat) (xs : Bytes) (w : World) (B : Nat) (h : Lies w B 1 A n (xs.map bv)) (hn : n ≤ 1000000000000) {m : Int} {k : Nat} {er : Int} (hg : getI xs = (m, k, er)) :
    Calls Tryz.prog 42 #[.slice A n c] w fun e w' => e = .returned (.tuple #[.int .i64 m, .int .i64 (k : Int), .int .i64 er]) ∧ w = w' := by
  have := intP_any A n c xs w B h hn
  rw [hg] at this
  exact this
theorem intR_parts (A : Option Addr) (n c : Nat) (xs : Bytes) (w : World) (B : Nat) (h : Lies w B 1 A n (xs.map bv)) (hn : n ≤ 1000000000000) {m : Int} {k : Nat} {er : Int} (hg : getI xs = (m, k, er)) :
    Calls Tryz.prog 56 #[.slice A n c] w fun e w' => e = .returned (.tuple #[.int .i64 m, .int .i64 (k : Int), .int .i64 er]) ∧ w = w' := by
  have := intR_any A n c xs w B h hn
  rw [hg] at this
  exact this
end Go.Proofs.YtaiaoiochbpmfaaGreat

/- The walks of the readers' methods (chapter 11): each is 'rdNum', 'rdList'. -/
namespace Go.Proofs.YtaiaoiochbpmfaaGreat
open Go Go.RowKit Iv
set_option linter.unusedVariables false
theorem rdNum_at {b : Bytes} {s : Rd} (h : s.at_ ≤ b.length) : (rdNum b s).2.at_ ≤ b.length ∧ s.at_ ≤ (rdNum b s).2.at_ := by
  unfold rdNum
  split
  · split
    · rename_i h1
      have := getI_once (l := b.drop s.at_) (n := (getI (b.drop s.at_)).1) (k := (getI (b.drop s.at_)).2.1) (by rw [← h1])
      have h2 := this.2.2.2.1
      rw [List.length_drop] at h2
      dsimp only
      omega
    · exact ⟨h, Nat.le_refl _⟩
  · exact ⟨h, Nat.le_refl _⟩
def rdCells (A : Option Addr) (n c : Nat) (s : Rd) : Array Value := #[.slice A n c, .int .i64 (s.at_ : Int), .int .i64 s.err]
set_option maxRecDepth 100000 in
set_option maxHeartbeats 800000 in
theorem numberP_any (g : Nat) (A : Option Addr) (n c B : Nat) (xs : Bytes) (s : Rd) (w : World) (hg : Held w g 195 (rdCells A n c s)) (h : Lies w B 1 A n (xs.map bv)) (hnc : n ≤ c) (ho : A = none → c = 0) (hn : n ≤ 1000000000) (hs : s.at_ ≤ n) :
    Calls Tryz.prog 86 #[.pointer (some ⟨g, 0, none⟩)] w fun e w' => e = .returned (.int .i64 (rdNum xs s).1) ∧ Held w' g 195 (rdCells A n c (rdNum xs s).2) ∧ w.grownBy w' (some g) := by
  have hl : xs.length = n := h.lenB
  have g0 : w.cell? ⟨g, 0, none⟩ = some (.slice A n c) := hg.cell 0
  have g1 : w.cell? ⟨g, 1, none⟩ = some (.int .i64 (s.at_ : Int)) := hg.cell 1
  have g2 : w.cell? ⟨g, 2, none⟩ = some (.int .i64 s.err) := hg.cell 2
  by_cases he : s.err = 0
  · obtain ⟨a, er⟩ := s
    dsimp only at he hs g0 g1 g2 hg ⊢
    subst he
    have hcut : Lies w B 1 (if c = a then A else A.map fun x => x.add a) (n - a) ((xs.drop a).map bv) := by
      have := h.dropIf hs hnc
      rwa [Nat.mul_one, ← List.map_drop] at this
    obtain ⟨A', hA'⟩ : ∃ A', (if c = a then A else A.map fun x => x.add a) = A' := ⟨_, rfl⟩
    rw [hA'] at hcut
    obtain ⟨m, k, er, hgi⟩ : ∃ m k er, getI (xs.drop a) = (m, k, er) := ⟨_, _, _, rfl⟩
    have CP := Lib.hid (intP_parts A' (n - a) (c - a) (xs.drop a) w.drew B hcut.drew (by omega) hgi)
    have hne : ((0 : Int) != 0) = false := rfl
    have j0 : (0 : Int) ≤ (a : Int) := by omega
    have j1 : (a : Int) ≤ (n : Int) := by omega
    have j2 : (n : Int) ≤ (c : Int) := by omega
    have z0 := hg.free 0
    have z1 := hg.free 1
    have z2 := hg.free 2
    by_cases her : er = 0
    · subst her
      have ho := getI_once hgi
      have hk : k ≤ n - a := by have := ho.2.2.2.1; rw [List.length_drop] at this; omega
      have hrd : rdNum xs ⟨a, 0⟩ = (m, ⟨a + k, 0⟩) := by
        unfold rdNum
        rw [if_pos rfl]
        dsimp only
        rw [hgi, if_pos rfl]
      rw [hrd]
      have HG := Lib.hid hg
      clear hrd hgi ho hl hg hcut h
      go_enter Tryz.func86, Tryz.ntmps86
      go_wp2_with fail
      go_region_held3 (fun w' => w'.cell? ⟨g, 0, none⟩ = some (.slice A n c) ∧ w'.cell? ⟨g, 1, none⟩ = some (.int .i64 (a : Int))) (go_keep) (first
        | (go_at_call 42; ((with_reducible refine CP.out.mono ?_); rintro e w1 ⟨rfl, rfl⟩)))
      go_wp2_with fail
      go_ret
      have hst := (HG.out.store 1 (.int .i64 ((a : Int) + (k : Int)))).drew
      exact ⟨rfl, hst, grown_toDrew (grown_store w g 1 _)⟩
    · obtain ⟨er', her', hg'⟩ := (getI_err (xs.drop a)).resolve_left (by rw [hgi]; exact her)
      rw [hgi] at hg'
      simp only [Prod.mk.injEq] at hg'
      obtain ⟨rfl, rfl, rfl⟩ := hg'
      have hrd : rdNum xs ⟨a, 0⟩ = (0, ⟨a, er⟩) := by
        unfold rdNum
        rw [if_pos rfl]
        dsimp only
        rw [hgi, if_neg her]
      rw [hrd]
      have HG := Lib.hid hg
      have hbe : (er != 0) = true := by rw [bne_iff_ne]; exact her
      clear hrd hgi hl hg hcut h her her'
      go_enter Tryz.func86, Tryz.ntmps86
      go_wp2_with fail
      go_region_held3 (fun w' => w'.cell? ⟨g, 0, none⟩ = some (.slice A n c) ∧ w'.cell? ⟨g, 1, none⟩ = some (.int .i64 (a : Int))) (go_keep) (first
        | (go_at_call 42; ((with_reducible refine CP.out.mono ?_); rintro e w1 ⟨rfl, rfl⟩)))
      go_wp2_with fail
      go_ret
      have hst := (HG.out.store 2 (.int .i64 er)).drew
      exact ⟨rfl, hst, grown_toDrew (grown_store w g 2 _)⟩
  · have hb : (s.err != 0) = true := by rw [bne_iff_ne]; exact he
    have hrd : rdNum xs s = (0, s) := rdNum_bad he
    rw [hrd]
    have HG := Lib.hid hg
    clear hrd he hl hg
    go_enter Tryz.func86, Tryz.ntmps86
    go_wp2_with fail
    go_ret
    exact ⟨rfl, HG.out, World.grownBy.refl w _⟩
end Go.Proofs.YtaiaoiochbpmfaaGreat

/- The walks of the readers' lists (chapter 11): each is 'rdList'. -/
namespace Go.Proofs.YtaiaoiochbpmfaaGreat
open Go Go.RowKit Iv
set_option linter.unusedVariables false
theorem rdNum_i64 (b : Bytes) (s : Rd) : inI64 (rdNum b s).1 := by
  by_cases h : (rdNum b s).2.err = 0
  · exact (rdNum_once h).1
  · unfold rdNum at h ⊢
    split
    · split
      · rename_i h1 h2
        rw [if_pos h1, if_pos h2] at h
        exact absurd rfl h
      · exact ⟨by omega, by omega⟩
    · exact ⟨by omega, by omega⟩
def ListAt (xs : Bytes) (N : Nat) (s1 : Rd) (L0 : List Int) (last : Int) (s' : Rd) (i : Nat) : Prop :=
  L0.length = i ∧ i ≤ N ∧ (i = 0 → s' = s1) ∧ (0 < i → N ≤ 400) ∧ (L0 ++ (rdItems xs (N - i) last s').1, (rdItems xs (N - i) last s').2) = rdItems xs N 0 s1
theorem listAt_next {xs : Bytes} {N : Nat} {s1 : Rd} {L0 : List Int} {last : Int} {s' : Rd} {k : Nat} (h : ListAt xs N s1 L0 last s' k) (hk : k < N) (he : s'.err = 0) (h4 : N ≤ 400) :
    ListAt xs N s1 (L0 ++ [wrap64 (last + (rdNum xs s').1)]) (wrap64 (last + (rdNum xs s').1)) (rdNum xs s').2 (k + 1) := by
  obtain ⟨h1, h2, h3, h5, h6⟩ := h
  refine ⟨by simp [h1], by omega, fun h => by omega, fun _ => h4, ?_⟩
  rw [← h6, show N - k = (N - (k + 1)) + 1 from by omega, rdItems, if_pos he]
  simp only [List.append_assoc, List.cons_append, List.nil_append]
theorem listAt_end {xs : Bytes} {N : Nat} {s1 : Rd} {L0 : List Int} {last : Int} {s' : Rd} {k : Nat} (h : ListAt xs N s1 L0 last s' k) (hk : N ≤ k ∨ s'.err ≠ 0) : rdItems xs N 0 s1 = (L0, s') := by
  obtain ⟨h1, h2, h3, h5, h6⟩ := h
  rw [← h6]
  rcases hk with hk | hk
  · rw [show N - k = 0 from by omega]
    simp [rdItems]
  · rw [rdItems_bad hk]
    simp
theorem grown_side {a b c : World} {o o' : Option Nat} (h : a.grownBy b o) (h' : b.grownBy c o') (hat : At a none o') : a.grownBy c o := by
  refine ⟨h'.os.trans h.os, h'.tape.trans h.tape, h'.output.trans h.output, Nat.le_trans h.size h'.size, fun k hk hne => ?_⟩
  have h1 := h.block k hk hne
  refine (h'.block k (Nat.lt_of_lt_of_le hk h.size) ?_).trans h1
  rcases hat with rfl | ⟨g, rfl, hg⟩
  · exact fun e => nomatch e
  · intro e
    injection e with e
    omega
theorem own_far {w w' : World} {base e sz n g : Nat} {v : Value} {xs : List Value} (h : w.ownsRow base e sz v n xs) (hg : w.grownBy w' (some g)) (hne : v.ownBlock ≠ some g) : w'.ownsRow base e sz v n xs := by
  refine ⟨h.1, ?_⟩
  rcases h.2 with h2 | ⟨b, cap, cur, rfl, hb, hh, h3⟩
  · exact .inl h2
  · refine .inr ⟨b, cap, cur, rfl, hb, ?_, h3⟩
    refine (hg.block b (Array.getElem?_eq_some_iff.1 hh).1 ?_).trans hh
    intro e
    injection e with e
    exact hne (by rw [e]; rfl)
set_option maxRecDepth 100000 in
set_option maxHeartbeats 3200000 in
theorem listP_any (g : Nat) (A : Option Addr) (n c B : Nat) (xs : Bytes) (s : Rd) (w : World) (hg : Held w g 195 (rdCells A n c s)) (h : Lies w B 1 A n (xs.map bv)) (hBg : B ≤ g) (hnc : n ≤ c) (ho : A = none → c = 0) (hn : n ≤ 1000000000) (hs : s.at_ ≤ n) (base : Nat) (hbase : base ≤ w.heap.size) :
    Calls Tryz.prog 87 #[.pointer (some ⟨g, 0, none⟩)] w fun e w' => ∃ v', e = .returned v' ∧ w'.ownsRow base 3 1 v' (rdList xs s).1.length ((rdList xs s).1.map iv) ∧ Held w' g 195 (rdCells A n c (rdList xs s).2) ∧ w.grownBy w' (some g) ∧ At w none v'.ownBlock := by
  have hl : xs.length = n := h.lenB
  have CN := Lib.hid (numberP_any g A n c B xs s w hg h hnc ho hn hs)
  obtain ⟨m, s0, hp⟩ : ∃ m s0, rdNum xs s = (m, s0) := ⟨_, _, rfl⟩
  have hmi := rdNum_i64 xs s
  have hat := (rdNum_at (b := xs) (s := s) (by omega)).1
  rw [hp] at hmi hat
  obtain ⟨s1, hs1⟩ : ∃ s1, s1 = rdCheck (rdNum xs s) := ⟨_, rfl⟩
  have hlist : rdList xs s = rdItems xs m.toNat 0 s1 := by
    unfold rdList
    rw [← hs1, hp]
  have hs1' : s1 = if s0.err = 0 ∧ (m < 0 ∨ 400 < m) then ⟨s0.at_, 11⟩ else s0 := by
    rw [hs1, hp]
    rfl
  have hat1 : s1.at_ ≤ n := by
    rw [hs1']
    split
    · exact Nat.le_trans hat (by omega)
    · exact Nat.le_trans hat (by omega)
  have hm400 : s1.err = 0 → 0 ≤ m ∧ m ≤ 400 := by
    intro he
    rw [hs1'] at he
    by_cases hc : s0.err = 0 ∧ (m < 0 ∨ 400 < m)
    · rw [if_pos hc] at he
      exact absurd (show (11 : Int) = 0 from he) (by decide)
    · rw [if_neg hc] at he
      have : ¬ (m < 0 ∨ 400 < m) := fun hh => hc ⟨he, hh⟩
      omega
  rw [hlist]
  have HP := Lib.hid hp
  have HS1 := Lib.hid hs1'
  have HM4 := Lib.hid hm400
  have HMI := Lib.hid hmi
  have HO := Lib.hid ho
  clear hlist hs1 hs1' hm400 hp hmi hat ho
  have hgl := hg.lt
  have HG := Lib.hid hg
  clear hg
  go_enter Tryz.func87, Tryz.ntmps87
  go_wp2_with fail
  refine CN.out.mono ?_
  rintro e w1 ⟨rfl, hh1, hg1⟩
  rw [HP.out] at hh1 ⊢
  go_upto_region 2 with fail
  have f2 : w1.cell? ⟨g, 2, none⟩ = some (.int .i64 s0.err) := hh1.cell 2
  have z2 := hh1.free 2
  obtain ⟨tb, htb⟩ : ∃ tb, tb = decide (s0.err = 0 ∧ (m < 0 ∨ 400 < m)) := ⟨_, rfl⟩
  have HTB := Lib.hid htb
  have HH1 := Lib.hid hh1
  have HG1 := Lib.hid hg1
  clear htb hh1 hg1
  go_cut [21] (fun v21 wx => v21 = .bool tb ∧ wx = w1)
  case first =>
    by_cases he : s0.err = 0
    · have hb : (s0.err == 0) = true := by rw [beq_iff_eq]; exact he
      by_cases h1 : m < 0
      · have HF : Hid (tb = true) := by rw [HTB.out, decide_eq_true_iff]; exact ⟨he, .inl h1⟩
        clear he
        go_wp2_with fail
        go_meet
        exact ⟨by rw [HF.out], rfl⟩
      · by_cases h2 : 400 < m
        · have HF : Hid (tb = true) := by rw [HTB.out, decide_eq_true_iff]; exact ⟨he, .inr h2⟩
          clear he
          go_wp2_with fail
          go_meet
          exact ⟨by rw [HF.out], rfl⟩
        · have HF : Hid (tb = false) := by rw [HTB.out, decide_eq_false_iff_not]; intro hh; omega
          clear he
          go_wp2_with fail
          go_meet
          exact ⟨by rw [HF.out], rfl⟩
    · have hb : (s0.err == 0) = false := by rw [beq_eq_false_iff_ne]; exact he
      have HF : Hid (tb = false) := by rw [HTB.out, decide_eq_false_iff_not]; intro hh; exact he hh.1
      clear he
      go_wp2_with fail
      go_meet
      exact ⟨by rw [HF.out], rfl⟩
  case rest =>
    obtain ⟨rfl, rfl⟩ := hcut
    go_upto_if 21 with fail
    go_cut [3] (fun v3 wx => v3 = .int .i64 m ∧ Held wx g 195 (rdCells A n c s1) ∧ w.grownBy wx (some g))
    case first =>
      cases tb
      · have hs : s1 = s0 := by
          have := HTB.out.symm
          rw [decide_eq_false_iff_not] at this
          rw [HS1.out, if_neg this]
        have HF := Lib.hid hs
        clear hs
        go_wp2_with fail
        go_meet
        exact ⟨rfl, by rw [HF.out]; exact HH1.out, HG1.out⟩
      · have hs : s1 = ⟨s0.at_, 11⟩ := by
          have := HTB.out.symm
          rw [decide_eq_true_iff] at this
          rw [HS1.out, if_pos this]
        have HF := Lib.hid hs
        clear hs
        go_wp2_with fail
        go_meet
        exact ⟨rfl, by rw [HF.out]; exact HH1.out.store 2 (.int .i64 11), grown_then HG1.out (grown_store wc g 2 _)⟩
    case rest =>
      obtain ⟨rfl, hhx, hgx⟩ := hcut
      have hinfo := info_int
      obtain ⟨i0, hi, hz0, hz1, hz2⟩ := info_parts hinfo
      have HI := Lib.hid hi
      have HZ0 := Lib.hid hz0
      have HZ1 := Lib.hid hz1
      have HZ2 := Lib.hid hz2
      clear hi hz0 hz1 hz2 hinfo
      have hz : (0 : Nat) < 1 := by omega
      obtain ⟨N, hN⟩ : ∃ N, N = m.toNat := ⟨_, rfl⟩
      have HN := Lib.hid hN
      clear hN
      go_wp2_with fail
      go_loopw [4, 5, 6] (fun v la i wr => ∃ (k : Nat) (last : Int) (s' : Rd) (L0 : List Int) (vv : Value), vv = v ∧ i = .int .i64 k ∧ la = .int .i64 last ∧ ListAt xs N s1 L0 last s' k ∧ s'.at_ ≤ n ∧ Held wr g 195 (rdCells A n c s') ∧
          wr.ownsRow base 3 1 vv L0.length (L0.map iv) ∧ w.grownBy wr (some g) ∧ At w none vv.ownBlock) (fun _ _ i _ => N - (intOf i).toNat)
      case atStart => exact ⟨0, 0, s1, [], _, rfl, rfl, rfl, ⟨rfl, Nat.zero_le _, fun _ => rfl, fun h => by omega, by simp⟩, hat1, hhx, World.ownsRow_nil _ _ _ _, hgx, .inl rfl⟩
      case round =>
        clear hhx hgx
        obtain ⟨k, last, s', L0, vv, rfl, rfl, rfl, hla, hsa, hh, hown, hgr, hat⟩ := hrel
        have f2 : wr.cell? ⟨g, 2, none⟩ = some (.int .i64 s'.err) := hh.cell 2
        have hkN : k ≤ N := hla.2.1
        have hgw : g < w.heap.size := hgl
        have hBg' : B ≤ w.heap.size := by omega
        have hng : vv.ownBlock ≠ some g := by
          rcases hat with h0 | ⟨b0, h1, h2⟩
          · rw [h0]; exact fun h => nomatch h
          · rw [h1]; intro h; injection h with h; omega
        by_cases hlt : (k : Int) < m
        · by_cases he : s'.err = 0
          · have hN4 : N ≤ 400 := by
              rcases Nat.eq_zero_or_pos k with h0 | h0
              · have h1 := hla.2.2.1 h0
                have := HM4.out (by rw [← h1]; exact he)
                rw [HN.out]
                omega
              · exact hla.2.2.2.1 h0
            have hlen0 : L0.length = k := hla.1
            have CN2 := Lib.hid (numberP_any g A n c B xs s' wr hh (h.grown hgr hBg' (fun g' hg' => by injection hg' with hg'; omega)) hnc HO.out hn hsa)
            have HNX := Lib.hid (listAt_next hla (by have := HN.out; omega) he hN4)
            have hatn := (rdNum_at (b := xs) (s := s') (by omega)).1
            obtain ⟨x, s2, hp2⟩ : ∃ x s2, rdNum xs s' = (x, s2) := ⟨_, _, rfl⟩
            have hxi := rdNum_i64 xs s'
            rw [hp2] at hatn hxi
            have HP2 := Lib.hid hp2
            have HAT := Lib.hid hatn
            have hb : (s'.err == 0) = true := by rw [beq_iff_eq]; exact he
            clear hla he hp2 hatn
            go_wp2_with fail
            refine CN2.out.mono ?_
            rintro e w2 ⟨rfl, hh2, hg2⟩
            rw [HP2.out] at hh2 ⊢
            have hown2 := own_far hown hg2 hng
            rw [hlen0] at hown2
            have HN4 := Lib.hid hN4
            have bk : k + 1 ≤ 400 := by have := HN.out; omega
            clear hown hN4
            go_wp2_with (at_builtin; refine wpList_app _ rfl (.tmp 41) (.tmp 43) _ rfl base 3 i0 (.int .i64 0) 1 8 Tryz.underlying37 HI.out HZ0.out HZ1.out HZ2.out rfl hz _ vv.ownBlock k (L0.map iv) rfl (App.own (hown2.alloc _)) ⟨w2.heap.size, 0, none⟩ 1 1 [.int .i64 (wrap64 (last + x))] rfl hz rfl (cell_new1 _ _ _) (one1 rfl) (by unfold maxLen; omega) (by omega) (by have := hgr.size; have := hg2.size; simp; omega) ?_; intro v' w3 hown3 hg3 hat3)
            have hg3' := grown_alloc hg3
            have hat3' := hat3.alloc
            have hw12 : w.heap.size ≤ w2.heap.size := Nat.le_trans hgr.size hg2.size
            clear hg3 hat3
            go_roundw
            case rel =>
              have hN2 := HNX.out
              rw [HP2.out] at hN2
              refine ⟨k + 1, wrap64 (last + x), s2, L0 ++ [wrap64 (last + x)], v', rfl, by go_num, rfl, hN2, Nat.le_trans HAT.out (Nat.le_of_eq hl), hh2.grown hg3' (fun e => hng e.symm), ?_, grown_side (grown_then hgr hg2) hg3' hat, hat.trans hat3' hw12⟩
              rw [List.length_append, List.map_append, hlen0]
              exact hown3
            case measure => simp [intOf]; have := HN.out; omega
          · have HE := Lib.hid (listAt_end hla (.inr he))
            have hb : (s'.err == 0) = false := by rw [beq_eq_false_iff_ne]; exact he
            have HR := Lib.hid (show w.grownBy wr (some g) from hgr)
            clear hla he
            go_wp2_with fail
            go_ret
            rw [← HN.out, HE.out]
            exact ⟨_, rfl, hown, hh, hgr, hat⟩
        · have HE := Lib.hid (listAt_end hla (.inl (by have := HN.out; omega)))
          clear hla
          go_wp2_with fail
          go_ret
          rw [← HN.out, HE.out]
          exact ⟨_, rfl, hown, hh, hgr, hat⟩
end Go.Proofs.YtaiaoiochbpmfaaGreat
