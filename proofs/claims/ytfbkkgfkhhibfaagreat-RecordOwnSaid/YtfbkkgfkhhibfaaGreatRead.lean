/- The walks of the two readers of an integer (chapter 11): both are 'getI'. -/
import Derived.Test.YtfbkkgfkhhibfaaGreatPutR
import Derived.Laws.DeepNot64
import Derived.Test.YtfbkkgfkhhibfaaGreatAlc
import Derived.Deep.RegionHeld3
import Derived.Deep.DeepCutAuto
import Derived.Test.YtfbkkgfkhhibfaaGreatAppR
namespace Go.Proofs.YtfbkkgfkhhibfaaGreat
open Go Go.RowKit Iv
set_option linter.unusedVariables false
def three (r : Int × Nat × Int) : Value := .tuple #[.int .i64 r.1, .int .i64 (r.2.1 : Int), .int .i64 r.2.2]
set_option maxRecDepth 100000 in
set_option maxHeartbeats 800000 in
theorem intR_any (A : Option Addr) (n c : Nat) (xs : Bytes) (w : World) (B : Nat) (h : Lies w B 1 A n (xs.map bv)) (hn : n ≤ 1000000000000) :
    Calls Tryz.prog 83 #[.slice A n c] w fun e w' => e = .returned (three (getI xs)) ∧ w = w' := by
  have HL := Lib.hid h.lenB
  go_enter Tryz.func83, Tryz.ntmps83
  go_wp2
  go_loop [5, 6, 7] (fun u i _ => ∃ (k acc : Nat), i = .int .i64 k ∧ k ≤ n ∧ k ≤ 9 ∧ u = .int .u64 acc ∧ acc < 128 ^ k ∧ vget (xs.drop k) k acc = getI xs) (fun _ i _ => n - (intOf i).toNat)
  case atStart => exact ⟨0, 0, rfl, by omega, by omega, rfl, by simp, rfl⟩
  case round =>
    obtain ⟨k, acc, rfl, hkn, hk9, rfl, hacc, hv⟩ := hrel
    by_cases hlt : k < n
    · obtain ⟨ad, x, rfl, hb1, hx, hc⟩ := h.byte hlt
      have bx := byte_lt x
      have hdrop : xs.drop k = x :: xs.drop (k + 1) := by
        obtain ⟨hl, hx'⟩ := List.getElem?_eq_some_iff.1 hx
        rw [List.drop_eq_getElem_cons hl, hx']
      rw [hdrop] at hv
      simp only [vget] at hv
      clear hx hdrop
      have hand : bits .and .u8 (x.toNat : Int) 127 = ((x.toNat % 128 : Nat) : Int) := by
        have := u8_and_nat x.toNat 127 bx (by omega)
        rw [nat_mask7] at this
        exact this
      by_cases ha : k = 9 ∧ 1 < x.toNat
      · rw [if_pos ha] at hv
        obtain ⟨ha1, ha2⟩ := ha
        have HV := Lib.hid hv
        have ha3 : (1 : Int) < (x.toNat : Int) := by omega
        have ha4 : ((k : Int) == 9) = true := by rw [beq_iff_eq]; omega
        clear hv hacc ha1
        go_wp2_with fail
        go_ret3
        exact ⟨by rw [← HV.out]; rfl, rfl⟩
      · rw [if_neg ha] at hv
        obtain ⟨horx, hlo⟩ := or_step (x := x.toNat) hacc hk9 (by omega)
        by_cases hb : 128 ≤ x.toNat
        · rw [if_pos hb] at hv
          have HV := Lib.hid hv
          have hk8 : k < 9 := by omega
          have hnx : acc + x.toNat % 128 * 128 ^ k < 128 ^ (k + 1) := by
            have h1 : x.toNat % 128 * 128 ^ k ≤ 127 * 128 ^ k := Nat.mul_le_mul_right _ (by omega)
            rw [Nat.pow_succ]
            omega
          have HN := Lib.hid hnx
          clear hv hnx
          generalize acc + x.toNat % 128 * 128 ^ k = acc' at *
          have hk9' : ((k : Int) == 9) = false := by rw [beq_eq_false_iff_ne]; omega
          go_wp2_with fail
          go_round
          case rel => exact ⟨k + 1, acc', by go_num, by omega, by omega, rfl, HN.out, HV.out⟩
          case measure => simp [intOf]; omega
        · rw [if_neg hb] at hv
          have hlx : x.toNat % 128 = x.toNat := by omega
          rw [hlx] at hlo
          have hor : bits .or .u64 (acc : Int) (IntKind.u64.wrap ((x.toNat : Int) % 128 * 2 ^ (7 * k))) = ((acc + x.toNat * 128 ^ k : Nat) : Int) := by
            rw [hlx] at horx
            exact horx
          clear horx
          have hk9g : ((k : Int) == 9) = true → ¬ (1 : Int) < (x.toNat : Int) := by
            intro h
            rw [beq_iff_eq] at h
            omega
          have hltx : ¬ (128 : Int) ≤ (x.toNat : Int) := by omega
          by_cases hc0 : x.toNat = 0 ∧ 0 < k
          · rw [if_pos hc0] at hv
            have HV := Lib.hid hv
            have z1 : ((x.toNat : Int) == 0) = true := by rw [beq_iff_eq]; omega
            have z2 : (0 : Int) < (k : Int) := by omega
            generalize acc + x.toNat * 128 ^ k = acc' at *
            clear hv hc0
            cases hk9' : ((k : Int) == 9)
            · clear hk9g
              go_wp2_with fail
              go_ret3
              exact ⟨by rw [← HV.out]; rfl, rfl⟩
            · have hx1 := hk9g hk9'
              clear hk9g
              go_wp2_with fail
              go_ret3
              exact ⟨by rw [← HV.out]; rfl, rfl⟩
          · rw [if_neg hc0] at hv
            have HV := Lib.hid hv
            clear hv hlx
            generalize acc + x.toNat * 128 ^ k = acc' at *
            have hnot : bits .xor .i64 (-1) ((acc' : Int) / 2) = -1 - ((acc' : Int) / 2) := i64_not (acc' / 2) (by omega)
            have hand1 : bits .and .u64 (acc' : Int) 1 = ((acc' % 2 : Nat) : Int) := by
              have := u64_and_nat acc' 1 hlo (by omega)
              rw [nat_mask1] at this
              exact this
            have z1 : (((x.toNat : Int) == 0) = false) ∨ (((x.toNat : Int) == 0) = true ∧ ¬ (0 : Int) < (k : Int) ∧ x.toNat = 0) := by
              by_cases h : x.toNat = 0
              · exact .inr ⟨by rw [beq_iff_eq]; omega, by omega, h⟩
              · exact .inl (by rw [beq_eq_false_iff_ne]; omega)
            have hodd : (((acc' : Int) % 2 == 1) = true ∧ zag acc' = -1 - ((acc' / 2 : Nat) : Int)) ∨ (((acc' : Int) % 2 == 1) = false ∧ zag acc' = ((acc' / 2 : Nat) : Int)) := by
              unfold zag
              rcases Nat.mod_two_eq_zero_or_one acc' with h | h
              · exact .inr ⟨by rw [beq_eq_false_iff_ne]; omega, by rw [if_neg (by omega)]⟩
              · exact .inl ⟨by rw [beq_iff_eq]; omega, by rw [if_pos h]; omega⟩
            have hk9b : (((k : Int) == 9) = true ∧ ¬ (1 : Int) < (x.toNat : Int)) ∨ ((k : Int) == 9) = false := by
              cases h : ((k : Int) == 9)
              · exact .inr rfl
              · exact .inl ⟨rfl, hk9g h⟩
            clear hk9g hc0
            rcases z1 with z1 | ⟨z1, z2, z3⟩
            all_goals
              rcases hk9b with ⟨k1, k2⟩ | k1
              all_goals
                rcases hodd with ⟨o1, o2⟩ | ⟨o1, o2⟩
                all_goals
                  have HO := Lib.hid o2
                  clear o2
                  try clear z3
                  go_wp2_with fail
                  all_goals
                    go_ret3
                    exact ⟨by rw [← HV.out]; show Ending.returned (.tuple #[.int .i64 _, _, _]) = .returned (.tuple #[.int .i64 (zag acc'), _, _]); rw [HO.out]; rfl, rfl⟩
    · obtain rfl : k = n := by omega
      have HV := Lib.hid hv
      have hnil : xs.drop k = [] := List.drop_eq_nil_of_le (by have := HL.out; omega)
      have HN := Lib.hid hnil
      clear hv hnil
      go_wp2_with fail
      go_ret3
      exact ⟨by rw [← HV.out, HN.out]; rfl, rfl⟩
end Go.Proofs.YtfbkkgfkhhibfaaGreat

/- What the readers of an integer give, part by part. -/
namespace Go.Proofs.YtfbkkgfkhhibfaaGreat
open Go Go.RowKit Iv
set_option linter.unusedVariables false
theorem intR_parts (A : Option Addr) (n c : Nat) (xs : Bytes) (w : World) (B : Nat) (h : Lies w B 1 A n (xs.map bv)) (hn : n ≤ 1000000000000) {m : Int} {k : Nat} {er : Int} (hg : getI xs = (m, k, er)) :
    Calls Tryz.prog 83 #[.slice A n c] w fun e w' => e = .returned (.tuple #[.int .i64 m, .int .i64 (k : Int), .int .i64 er]) ∧ w = w' := by
  have := intR_any A n c xs w B h hn
  rw [hg] at this
  exact this
end Go.Proofs.YtfbkkgfkhhibfaaGreat

/- The walks of the readers' methods (chapter 11): each is 'rdNum', 'rdList'. -/
namespace Go.Proofs.YtfbkkgfkhhibfaaGreat
open Go Go.RowKit Iv
set_option linter.unusedVariables false
theorem rdNum_at {b : Bytes} {s : Rd} (h : s.at_ ≤ b.length) : (rdNum b s).2.at_ ≤ b.length ∧ s.at_ ≤ (rdNum b s).2.at_ := by
  unfold rdNum
  split
  · split
    · rename_i h1
      have := getI_once (l := b.drop s.at_) (n := (getI (b.drop s.at_)).1) (k := (getI (b.drop s.at_)).2.1) (by rw [← h1])
      have h2 := this.2.2.2.1
      rw [List.length_drop] at h2
      dsimp only
      omega
    · exact ⟨h, Nat.le_refl _⟩
  · exact ⟨h, Nat.le_refl _⟩
def rdCells (A : Option Addr) (n c : Nat) (s : Rd) : Array Value := #[.slice A n c, .int .i64 (s.at_ : Int), .int .i64 s.err]
set_option maxRecDepth 100000 in
set_option maxHeartbeats 800000 in
theorem numberR_any (g : Nat) (A : Option Addr) (n c B : Nat) (xs : Bytes) (s : Rd) (w : World) (hg : Held w g 128 (rdCells A n c s)) (h : Lies w B 1 A n (xs.map bv)) (hnc : n ≤ c) (ho : A = none → c = 0) (hn : n ≤ 1000000000) (hs : s.at_ ≤ n) :
    Calls Tryz.prog 47 #[.pointer (some ⟨g, 0, none⟩)] w fun e w' => e = .returned (.int .i64 (rdNum xs s).1) ∧ Held w' g 128 (rdCells A n c (rdNum xs s).2) ∧ w.grownBy w' (some g) := by
  have hl : xs.length = n := h.lenB
  have g0 : w.cell? ⟨g, 0, none⟩ = some (.slice A n c) := hg.cell 0
  have g1 : w.cell? ⟨g, 1, none⟩ = some (.int .i64 (s.at_ : Int)) := hg.cell 1
  have g2 : w.cell? ⟨g, 2, none⟩ = some (.int .i64 s.err) := hg.cell 2
  by_cases he : s.err = 0
  · obtain ⟨a, er⟩ := s
    dsimp only at he hs g0 g1 g2 hg ⊢
    subst he
    have hcut : Lies w B 1 (if c = a then A else A.map fun x => x.add a) (n - a) ((xs.drop a).map bv) := by
      have := h.dropIf hs hnc
      rwa [Nat.mul_one, ← List.map_drop] at this
    obtain ⟨A', hA'⟩ : ∃ A', (if c = a then A else A.map fun x => x.add a) = A' := ⟨_, rfl⟩
    rw [hA'] at hcut
    obtain ⟨m, k, er, hgi⟩ : ∃ m k er, getI (xs.drop a) = (m, k, er) := ⟨_, _, _, rfl⟩
    have CP := Lib.hid (intR_parts A' (n - a) (c - a) (xs.drop a) w.drew B hcut.drew (by omega) hgi)
    have hne : ((0 : Int) != 0) = false := rfl
    have j0 : (0 : Int) ≤ (a : Int) := by omega
    have j1 : (a : Int) ≤ (n : Int) := by omega
    have j2 : (n : Int) ≤ (c : Int) := by omega
    have z0 := hg.free 0
    have z1 := hg.free 1
    have z2 := hg.free 2
    by_cases her : er = 0
    · subst her
      have ho := getI_once hgi
      have hk : k ≤ n - a := by have := ho.2.2.2.1; rw [List.length_drop] at this; omega
      have hrd : rdNum xs ⟨a, 0⟩ = (m, ⟨a + k, 0⟩) := by
        unfold rdNum
        rw [if_pos rfl]
        dsimp only
        rw [hgi, if_pos rfl]
      rw [hrd]
      have HG := Lib.hid hg
      clear hrd hgi ho hl hg hcut h
      go_enter Tryz.func47, Tryz.ntmps47
      go_wp2_with fail
      go_region_held3 (fun w' => w'.cell? ⟨g, 0, none⟩ = some (.slice A n c) ∧ w'.cell? ⟨g, 1, none⟩ = some (.int .i64 (a : Int))) (go_keep) (first
        | (go_at_call 83; ((with_reducible refine CP.out.mono ?_); rintro e w1 ⟨rfl, rfl⟩)))
      go_wp2_with fail
      go_ret
      have hst := (HG.out.store 1 (.int .i64 ((a : Int) + (k : Int)))).drew
      exact ⟨rfl, hst, grown_toDrew (grown_store w g 1 _)⟩
    · obtain ⟨er', her', hg'⟩ := (getI_err (xs.drop a)).resolve_left (by rw [hgi]; exact her)
      rw [hgi] at hg'
      simp only [Prod.mk.injEq] at hg'
      obtain ⟨rfl, rfl, rfl⟩ := hg'
      have hrd : rdNum xs ⟨a, 0⟩ = (0, ⟨a, er⟩) := by
        unfold rdNum
        rw [if_pos rfl]
        dsimp only
        rw [hgi, if_neg her]
      rw [hrd]
      have HG := Lib.hid hg
      have hbe : (er != 0) = true := by rw [bne_iff_ne]; exact her
      clear hrd hgi hl hg hcut h her her'
      go_enter Tryz.func47, Tryz.ntmps47
      go_wp2_with fail
      go_region_held3 (fun w' => w'.cell? ⟨g, 0, none⟩ = some (.slice A n c) ∧ w'.cell? ⟨g, 1, none⟩ = some (.int .i64 (a : Int))) (go_keep) (first
        | (go_at_call 83; ((with_reducible refine CP.out.mono ?_); rintro e w1 ⟨rfl, rfl⟩)))
      go_wp2_with fail
      go_ret
      have hst := (HG.out.store 2 (.int .i64 er)).drew
      exact ⟨rfl, hst, grown_toDrew (grown_store w g 2 _)⟩
  · have hb : (s.err != 0) = true := by rw [bne_iff_ne]; exact he
    have hrd : rdNum xs s = (0, s) := rdNum_bad he
    rw [hrd]
    have HG := Lib.hid hg
    clear hrd he hl hg
    go_enter Tryz.func47, Tryz.ntmps47
    go_wp2_with fail
    go_ret
    exact ⟨rfl, HG.out, World.grownBy.refl w _⟩
end Go.Proofs.YtfbkkgfkhhibfaaGreat

/- The walks of the readers' lists (chapter 11): each is 'rdList'. -/
namespace Go.Proofs.YtfbkkgfkhhibfaaGreat
open Go Go.RowKit Iv
set_option linter.unusedVariables false
theorem rdNum_i64 (b : Bytes) (s : Rd) : inI64 (rdNum b s).1 := by
  by_cases h : (rdNum b s).2.err = 0
  · exact (rdNum_once h).1
  · unfold rdNum at h ⊢
    split
    · split
      · rename_i h1 h2
        rw [if_pos h1, if_pos h2] at h
        exact absurd rfl h
      · exact ⟨by omega, by omega⟩
    · exact ⟨by omega, by omega⟩
def ListAt (xs : Bytes) (N : Nat) (s1 : Rd) (L0 : List Int) (last : Int) (s' : Rd) (i : Nat) : Prop :=
  L0.length = i ∧ i ≤ N ∧ (i = 0 → s' = s1) ∧ (0 < i → N ≤ 400) ∧ (L0 ++ (rdItems xs (N - i) last s').1, (rdItems xs (N - i) last s').2) = rdItems xs N 0 s1
theorem listAt_next {xs : Bytes} {N : Nat} {s1 : Rd} {L0 : List Int} {last : Int} {s' : Rd} {k : Nat} (h : ListAt xs N s1 L0 last s' k) (hk : k < N) (he : s'.err = 0) (h4 : N ≤ 400) :
    ListAt xs N s1 (L0 ++ [wrap64 (last + (rdNum xs s').1)]) (wrap64 (last + (rdNum xs s').1)) (rdNum xs s').2 (k + 1) := by
  obtain ⟨h1, h2, h3, h5, h6⟩ := h
  refine ⟨by simp [h1], by omega, fun h => by omega, fun _ => h4, ?_⟩
  rw [← h6, show N - k = (N - (k + 1)) + 1 from by omega, rdItems, if_pos he]
  simp only [List.append_assoc, List.cons_append, List.nil_append]
theorem listAt_end {xs : Bytes} {N : Nat} {s1 : Rd} {L0 : List Int} {last : Int} {s' : Rd} {k : Nat} (h : ListAt xs N s1 L0 last s' k) (hk : N ≤ k ∨ s'.err ≠ 0) : rdItems xs N 0 s1 = (L0, s') := by
  obtain ⟨h1, h2, h3, h5, h6⟩ := h
  rw [← h6]
  rcases hk with hk | hk
  · rw [show N - k = 0 from by omega]
    simp [rdItems]
  · rw [rdItems_bad hk]
    simp
theorem grown_side {a b c : World} {o o' : Option Nat} (h : a.grownBy b o) (h' : b.grownBy c o') (hat : At a none o') : a.grownBy c o := by
  refine ⟨h'.os.trans h.os, h'.tape.trans h.tape, h'.output.trans h.output, Nat.le_trans h.size h'.size, fun k hk hne => ?_⟩
  have h1 := h.block k hk hne
  refine (h'.block k (Nat.lt_of_lt_of_le hk h.size) ?_).trans h1
  rcases hat with rfl | ⟨g, rfl, hg⟩
  · exact fun e => nomatch e
  · intro e
    injection e with e
    omega
theorem own_far {w w' : World} {base e sz n g : Nat} {v : Value} {xs : List Value} (h : w.ownsRow base e sz v n xs) (hg : w.grownBy w' (some g)) (hne : v.ownBlock ≠ some g) : w'.ownsRow base e sz v n xs := by
  refine ⟨h.1, ?_⟩
  rcases h.2 with h2 | ⟨b, cap, cur, rfl, hb, hh, h3⟩
  · exact .inl h2
  · refine .inr ⟨b, cap, cur, rfl, hb, ?_, h3⟩
    refine (hg.block b (Array.getElem?_eq_some_iff.1 hh).1 ?_).trans hh
    intro e
    injection e with e
    exact hne (by rw [e]; rfl)
end Go.Proofs.YtfbkkgfkhhibfaaGreat

/- The walk of Read (chapter 11): getRec. -/
namespace Go.Proofs.YtfbkkgfkhhibfaaGreat
open Go Go.RowKit Iv
set_option linter.unusedVariables false
structure RdInv (w : World) (tR : TypeId) (A : Option Addr) (n c : Nat) (wk : World) (s : Rd) (cs : Array Value) : Prop where
  res : Held wk w.heap.size 54 #[.int .i64 0, .int .i64 0, .int .i64 0, .int .i64 0, .int .i64 0, .int .i64 0, .slice none 0 0, .slice none 0 0]
  rd : Held wk (w.heap.size + 1) tR (rdCells A n c s)
  rcd : Held wk (w.heap.size + 1 + 1) 54 cs
  grown : w.grownBy wk none
def rcC (a b c d e f : Int) (v u : Value) : Array Value := #[.int .i64 a, .int .i64 b, .int .i64 c, .int .i64 d, .int .i64 e, .int .i64 f, v, u]
theorem newAt (w : World) (N : Nat) (hN : w.heap.size = N) (t : TypeId) (cs : Array Value) : Held (w.alloc (.cells cs t)) N t cs := hN ▸ Held.new w t cs
theorem RdInv.next {w : World} {tR : TypeId} {A : Option Addr} {n c : Nat} {wk w' : World} {s s' : Rd} {cs : Array Value} (h : RdInv w tR A n c wk s cs)
    (h1 : Held w' (w.heap.size + 1) tR (rdCells A n c s')) (h2 : wk.grownBy w' (some (w.heap.size + 1))) : RdInv w tR A n c w' s' cs := by
  refine ⟨h.res.grown h2 (fun e => by injection e with e; omega), h1, h.rcd.grown h2 (fun e => by injection e with e; omega), ?_⟩
  exact grownBy_trans h.grown h2 (.inr ⟨_, rfl, Nat.le_succ _⟩)
theorem RdInv.put {w : World} {tR : TypeId} {A : Option Addr} {n c : Nat} {wk : World} {s : Rd} {cs : Array Value} (h : RdInv w tR A n c wk s cs) (i : Nat) (u : Value) :
    RdInv w tR A n c (wk.setCell ⟨w.heap.size + 1 + 1, i, none⟩ u) s (cs.setIfInBounds i u) := by
  refine ⟨h.res.far (by simp only []; omega) u, h.rd.far (by simp only []; omega) u, h.rcd.store i u, ?_⟩
  exact grownBy_trans h.grown (grown_store wk _ i u) (.inr ⟨_, rfl, by omega⟩)
theorem stores8 {w W : World} {g : Nat} {T : TypeId} {c0 c1 c2 c3 c4 c5 c6 c7 : Value} (h : Held W g T #[c0, c1, c2, c3, c4, c5, c6, c7]) (hg : w.grownBy W none) (hl : w.heap.size ≤ g) (u0 u1 u2 u3 u4 u5 u6 u7 : Value) :
    Held (((((((((W.setCell ⟨g, 0, none⟩ u0).setCell ⟨g, 1, none⟩ u1).setCell ⟨g, 2, none⟩ u2).setCell ⟨g, 3, none⟩ u3).setCell ⟨g, 4, none⟩ u4).setCell ⟨g, 5, none⟩ u5).setCell ⟨g, 6, none⟩ u6).setCell ⟨g, 7, none⟩ u7)) g T #[u0, u1, u2, u3, u4, u5, u6, u7] ∧ w.grownBy (((((((((W.setCell ⟨g, 0, none⟩ u0).setCell ⟨g, 1, none⟩ u1).setCell ⟨g, 2, none⟩ u2).setCell ⟨g, 3, none⟩ u3).setCell ⟨g, 4, none⟩ u4).setCell ⟨g, 5, none⟩ u5).setCell ⟨g, 6, none⟩ u6).setCell ⟨g, 7, none⟩ u7)) none ∧ W.grownBy (((((((((W.setCell ⟨g, 0, none⟩ u0).setCell ⟨g, 1, none⟩ u1).setCell ⟨g, 2, none⟩ u2).setCell ⟨g, 3, none⟩ u3).setCell ⟨g, 4, none⟩ u4).setCell ⟨g, 5, none⟩ u5).setCell ⟨g, 6, none⟩ u6).setCell ⟨g, 7, none⟩ u7)) (some g) := by
  have h1 : Held (W.setCell ⟨g, 0, none⟩ u0) g T #[u0, c1, c2, c3, c4, c5, c6, c7] := h.store 0 u0
  have h2 : Held ((W.setCell ⟨g, 0, none⟩ u0).setCell ⟨g, 1, none⟩ u1) g T #[u0, u1, c2, c3, c4, c5, c6, c7] := h1.store 1 u1
  have h3 : Held (((W.setCell ⟨g, 0, none⟩ u0).setCell ⟨g, 1, none⟩ u1).setCell ⟨g, 2, none⟩ u2) g T #[u0, u1, u2, c3, c4, c5, c6, c7] := h2.store 2 u2
  have h4 : Held ((((W.setCell ⟨g, 0, none⟩ u0).setCell ⟨g, 1, none⟩ u1).setCell ⟨g, 2, none⟩ u2).setCell ⟨g, 3, none⟩ u3) g T #[u0, u1, u2, u3, c4, c5, c6, c7] := h3.store 3 u3
  have h5 : Held (((((W.setCell ⟨g, 0, none⟩ u0).setCell ⟨g, 1, none⟩ u1).setCell ⟨g, 2, none⟩ u2).setCell ⟨g, 3, none⟩ u3).setCell ⟨g, 4, none⟩ u4) g T #[u0, u1, u2, u3, u4, c5, c6, c7] := h4.store 4 u4
  have h6 : Held ((((((W.setCell ⟨g, 0, none⟩ u0).setCell ⟨g, 1, none⟩ u1).setCell ⟨g, 2, none⟩ u2).setCell ⟨g, 3, none⟩ u3).setCell ⟨g, 4, none⟩ u4).setCell ⟨g, 5, none⟩ u5) g T #[u0, u1, u2, u3, u4, u5, c6, c7] := h5.store 5 u5
  have h7 : Held (((((((W.setCell ⟨g, 0, none⟩ u0).setCell ⟨g, 1, none⟩ u1).setCell ⟨g, 2, none⟩ u2).setCell ⟨g, 3, none⟩ u3).setCell ⟨g, 4, none⟩ u4).setCell ⟨g, 5, none⟩ u5).setCell ⟨g, 6, none⟩ u6) g T #[u0, u1, u2, u3, u4, u5, u6, c7] := h6.store 6 u6
  have h8 : Held ((((((((W.setCell ⟨g, 0, none⟩ u0).setCell ⟨g, 1, none⟩ u1).setCell ⟨g, 2, none⟩ u2).setCell ⟨g, 3, none⟩ u3).setCell ⟨g, 4, none⟩ u4).setCell ⟨g, 5, none⟩ u5).setCell ⟨g, 6, none⟩ u6).setCell ⟨g, 7, none⟩ u7) g T #[u0, u1, u2, u3, u4, u5, u6, u7] := h7.store 7 u7
  refine ⟨h8, ?_, ?_⟩
  · exact grownBy_trans (grownBy_trans (grownBy_trans (grownBy_trans (grownBy_trans (grownBy_trans (grownBy_trans (grownBy_trans (hg) (grown_store _ g 0 _) (.inr ⟨g, rfl, hl⟩)) (grown_store _ g 1 _) (.inr ⟨g, rfl, hl⟩)) (grown_store _ g 2 _) (.inr ⟨g, rfl, hl⟩)) (grown_store _ g 3 _) (.inr ⟨g, rfl, hl⟩)) (grown_store _ g 4 _) (.inr ⟨g, rfl, hl⟩)) (grown_store _ g 5 _) (.inr ⟨g, rfl, hl⟩)) (grown_store _ g 6 _) (.inr ⟨g, rfl, hl⟩)) (grown_store _ g 7 _) (.inr ⟨g, rfl, hl⟩)
  · exact grown_then (grown_then (grown_then (grown_then (grown_then (grown_then (grown_then (grown_store W g 0 _) (grown_store _ g 1 _)) (grown_store _ g 2 _)) (grown_store _ g 3 _)) (grown_store _ g 4 _)) (grown_store _ g 5 _)) (grown_store _ g 6 _)) (grown_store _ g 7 _)
theorem rdItems_at (b : Bytes) (n : Nat) : ∀ (last : Int) (s : Rd), s.at_ ≤ b.length → (rdItems b n last s).2.at_ ≤ b.length := by
  induction n with
  | zero => intro last s h; exact h
  | succ n ih =>
    intro last s h
    rw [rdItems]
    split
    · exact ih _ _ (rdNum_at h).1
    · exact h
theorem rdList_at {b : Bytes} {s : Rd} (h : s.at_ ≤ b.length) : (rdList b s).2.at_ ≤ b.length := by
  unfold rdList
  refine rdItems_at b _ _ _ ?_
  unfold rdCheck
  split
  · exact (rdNum_at h).1
  · exact (rdNum_at h).1
end Go.Proofs.YtfbkkgfkhhibfaaGreat
