/- The walks of SameEvents at two equal lists, of sameLoss at two equal losses, of large (chapter 15). -/
import Derived.Test.YtlofjhcjjcohfaaTrw
import Derived.Deep.RegionHeld3
import Derived.Deep.DeepCutAuto
import Derived.Test.YtlofjhcjjcohfaaSww
namespace Go.Proofs.Ytlofjhcjjcohfaa
open Go Go.RowKit Iv
set_option linter.unusedVariables false

theorem evs_of {w : World} {base lo B n c : Nat} {A : Option Addr} {css : List Value} {E : List Ev} (hown : w.ownsRow base 24 7 (.slice A n c) n css) (h : EvsB w lo B css E) (hB : B ≤ w.heap.size) (hn : E.length = n) : Evs w w.heap.size A n E := by
  refine ⟨hn, fun k e he => ?_⟩
  have hk : k < n := by have := (List.getElem?_eq_some_iff.1 he).1; omega
  obtain ⟨Ad, nd, cd, Af, nf, cf, q⟩ := h.2 k e he
  obtain ⟨g, c', hv, hmc, hlt⟩ := hown.form (by omega)
  injection hv with hA _ _
  subst hA
  have hc := hown.cells (g := g) rfl
  have l1 := q.ld.lenI
  have l2 := q.lf.lenI
  refine ⟨g, 0, Ad, cd, Af, cf, rfl, hlt, fun j u hu => ?_, ?_, ?_⟩
  · have := hc (k * 7 + j) u (q.cells j u (by unfold evV; rw [← l1, ← l2]; exact hu))
    rw [show (⟨g, 0, none⟩ : Addr).add (k * 7 + j) = ⟨g, 0 + k * 7 + j, none⟩ by unfold Addr.add; split <;> simp_all] at this
    exact this
  · rw [l1]; exact q.ld.more hB
  · rw [l2]; exact q.lf.more hB

set_option maxRecDepth 100000 in
set_option maxHeartbeats 1600000 in
theorem sameEvents_yes (E : List Ev) (A A' : Option Addr) (n c c' B : Nat) (w : World) (h : Evs w B A n E) (h' : Evs w B A' n E) (hB : B ≤ w.heap.size) (hn : n ≤ 1000000000) (hl : ∀ e ∈ E, e.deps.length ≤ 1000000000000 ∧ e.from_.length ≤ 1000000000000) :
    Calls Try.prog 67 #[.slice A n c, .slice A' n c'] w fun e w' => e = .returned (.bool true) ∧ w.grownBy w' none := by
  have HH := Lib.hid h
  have HH' := Lib.hid h'
  have HL := Lib.hid hl
  have q0 : ((n : Int) != (n : Int)) = false := by simp
  clear h h' hl
  go_enter Try.func67, Try.ntmps67
  go_wp2_with fail
  go_loopw [5] (fun iv wr => ∃ k : Nat, iv = .int .i64 (k : Int) ∧ k ≤ n ∧ w.grownBy wr none) (fun iv _ => n - (intOf iv).toNat)
  case atStart => exact ⟨0, rfl, Nat.zero_le _, World.grownBy.refl w none⟩
  case round =>
    obtain ⟨k, rfl, hk, hg⟩ := hrel
    by_cases hlt : k < n
    · obtain ⟨b, o, e, Ad, cd, Af, cf, hA, hb, he, c0, c1, c2, c3, c4, c5, c6, hld, hlf⟩ := (HH.out.grown hg hB (fun _ e => nomatch e)).at hlt
      obtain ⟨b', o', e', Ad', cd', Af', cf', hA', hb', he', d0, d1, d2, d3, d4, d5, d6, hld', hlf'⟩ := (HH'.out.grown hg hB (fun _ e => nomatch e)).at hlt
      have hee : e' = e := by rw [he] at he'; exact (Option.some.inj he').symm
      subst hee
      have hln := HL.out e' (List.mem_of_getElem? he)
      have CE := Lib.hid (sameEvent_yes e' Ad _ cd Af _ cf Ad' _ cd' Af' _ cf' wr.drew B hld.drew hlf.drew hld'.drew hlf'.drew hln.1 hln.2)
      unfold evV at CE
      have i0 : (0 : Int) ≤ (k : Int) := by omega
      have i1 : (k : Int) < (n : Int) := by omega
      subst hA hA'
      clear hld hlf hld' hlf' he he' hln
      go_upto_region 6 with fail
      go_region_held3 (fun w' => w'.cell? ⟨b, o + k * 7, none⟩ = some (.int .i64 e'.thread) ∧ w'.cell? ⟨b, o + k * 7 + 1, none⟩ = some (.int .i64 e'.kind) ∧ w'.cell? ⟨b, o + k * 7 + 2, none⟩ = some (.int .i64 e'.obj) ∧ w'.cell? ⟨b, o + k * 7 + 3, none⟩ = some (.int .i64 e'.value) ∧ w'.cell? ⟨b, o + k * 7 + 4, none⟩ = some (.int .i64 e'.site) ∧ w'.cell? ⟨b, o + k * 7 + 5, none⟩ = some (.slice Ad e'.deps.length cd) ∧ w'.cell? ⟨b, o + k * 7 + 6, none⟩ = some (.slice Af e'.from_.length cf) ∧
          w'.cell? ⟨b', o' + k * 7, none⟩ = some (.int .i64 e'.thread) ∧ w'.cell? ⟨b', o' + k * 7 + 1, none⟩ = some (.int .i64 e'.kind) ∧ w'.cell? ⟨b', o' + k * 7 + 2, none⟩ = some (.int .i64 e'.obj) ∧ w'.cell? ⟨b', o' + k * 7 + 3, none⟩ = some (.int .i64 e'.value) ∧ w'.cell? ⟨b', o' + k * 7 + 4, none⟩ = some (.int .i64 e'.site) ∧ w'.cell? ⟨b', o' + k * 7 + 5, none⟩ = some (.slice Ad' e'.deps.length cd') ∧ w'.cell? ⟨b', o' + k * 7 + 6, none⟩ = some (.slice Af' e'.from_.length cf'))
        (first | go_keep | (refine ⟨?_, ?_, ?_, ?_, ?_, ?_, ?_, ?_, ?_, ?_, ?_, ?_, ?_, ?_⟩ <;> exact World.grownBy.cell (w := wr) (by assumption) (by assumption) (by simp)) | fail)
        (first | (go_at_call 13; ((with_reducible refine CE.out.mono ?_); rintro e w2 ⟨rfl, hg2⟩; replace hg2 := grown_drew hg2)) | fail)
      go_wp2_with fail
      go_roundw
      case rel => exact ⟨k + 1, by go_num, by omega, grownBy_trans hg hg2 (.inl rfl)⟩
      case measure => simp [intOf]; omega
    · go_wp2_with fail
      go_ret
      exact ⟨rfl, hg⟩

set_option maxRecDepth 100000 in
set_option maxHeartbeats 1600000 in
theorem sameLoss_yes (A A' : Option Addr) (n c c' : Nat) (x : Int) (ls : List Int) (w : World) (B B' : Nat) (h : Lies w B 1 A n (ls.map iv)) (h' : Lies w B' 1 A' n (ls.map iv)) (hB : B ≤ w.heap.size) (hB' : B' ≤ w.heap.size) (hn : n ≤ 1000000) :
    Calls Try.prog 34 #[.agg #[.slice A n c, .int .i64 x], .agg #[.slice A' n c', .int .i64 x]] w fun e w' => e = .returned (.bool true) ∧ w.grownBy w' none := by
  have q0 : (x == x) = true := by simp
  obtain ⟨W, hW⟩ : ∃ W, W = (w.alloc (.cells #[.slice A n c, .int .i64 x] 75)).alloc (.cells #[.slice A' n c', .int .i64 x] 75) := ⟨_, rfl⟩
  have hg : w.grownBy W none := by rw [hW]; exact grownBy_trans (World.grownBy_alloc _ _ none) (World.grownBy_alloc _ _ none) (.inl rfl)
  have CS := Lib.hid (sameInts_yes A A' n n c c' ls W B B' (h.grown hg hB (fun _ e => nomatch e)) (h'.grown hg hB' (fun _ e => nomatch e)) (by omega) (by omega))
  rw [hW] at CS
  have HW := Lib.hid hW
  have HG := Lib.hid hg
  clear h h' hW hg
  go_enter Try.func34, Try.ntmps34
  go_wp2_with fail
  refine CS.out.mono ?_
  rintro e w2 ⟨rfl, q, rfl⟩
  go_wp2_with fail
  go_ret
  exact ⟨rfl, by rw [← HW.out]; exact grown_toDrewN HG.out q⟩

set_option maxRecDepth 100000 in
set_option maxHeartbeats 1600000 in
theorem large15_any (A : Option Addr) (n c B : Nat) (fs : List Bytes) (w : World) (h : FIn w B A n fs) (hn : n ≤ maxLen) :
    Calls Try.prog 30 #[.slice A n c] w fun e w' => ∃ b, e = .returned (.bool b) ∧ w' = w ∧ (b = false → n ≤ 10 ∧ ∀ f ∈ fs, f.length ≤ 3000) := by
  have HH := Lib.hid h
  unfold maxLen at hn
  clear h
  go_enter Try.func30, Try.ntmps30
  go_wp2_with fail
  go_loopw [3] (fun iv wr => ∃ k : Nat, iv = .int .i64 (k : Int) ∧ k ≤ n ∧ Hid (wr = w) ∧ Hid (∀ f ∈ fs.take k, f.length ≤ 3000)) (fun iv _ => n - (intOf iv).toNat)
  case atStart => exact ⟨0, rfl, Nat.zero_le _, Lib.hid rfl, Lib.hid (fun f hf => by simp at hf)⟩
  case round =>
    obtain ⟨k, rfl, hk, HW, HA⟩ := hrel
    by_cases hlt : k < n
    · have hkl : k < fs.length := by rw [HH.out.1]; exact hlt
      obtain ⟨b, o, Ai, ni, ci, hA, hb, hc, hl, hnc, hcm, _⟩ := HH.out.2 k fs[k] (List.getElem?_eq_getElem hkl)
      have hni := hl.lenB
      rw [← HW.out] at hc
      have i0 : (0 : Int) ≤ (k : Int) := by omega
      have i1 : (k : Int) < (n : Int) := by omega
      have HNI := Lib.hid hni
      subst hA
      clear hl hni
      by_cases h3 : 3000 < ni
      · have i2 : (3000 : Int) < (ni : Int) := by omega
        go_wp2_with fail
        go_ret
        exact ⟨true, rfl, HW.out, fun h => by cases h⟩
      · have i2 : ¬ (3000 : Int) < (ni : Int) := by omega
        go_wp2_with fail
        go_roundw
        case rel => exact ⟨k + 1, by go_num, by omega, HW, Lib.hid (fun f hf => by
          rw [List.take_add_one, List.getElem?_eq_getElem hkl] at hf
          rcases List.mem_append.1 hf with hf | hf
          · exact HA.out f hf
          · simp at hf; rw [hf, HNI.out]; omega)⟩
        case measure => simp [intOf]; omega
    · obtain rfl : k = n := by omega
      have HA2 : Hid (∀ f ∈ fs, f.length ≤ 3000) := Lib.hid (by have := HA.out; rwa [← HH.out.1, List.take_length] at this)
      by_cases h10 : 10 < k
      · have i2 : (10 : Int) < (k : Int) := by omega
        go_wp2_with fail
        go_ret
        exact ⟨true, rfl, HW.out, fun h => by cases h⟩
      · have i2 : ¬ (10 : Int) < (k : Int) := by omega
        go_wp2_with fail
        go_ret
        exact .inl ⟨rfl, HW.out, by omega, HA2.out⟩
end Go.Proofs.Ytlofjhcjjcohfaa

/- SameTrace (reference, chapter 9): yes at two traces with the same elements. -/
namespace Go.Proofs.Ytlofjhcjjcohfaa
open Go Go.RowKit Iv
set_option linter.unusedVariables false

set_option maxRecDepth 100000 in
set_option maxHeartbeats 3200000 in
theorem sameTrace_yes (w : World) (B : Nat) (A0 A0' : Option Addr) (n0 c0 c0' : Nat) (X0 : List Value) (A1 A1' : Option Addr) (n1 c1 c1' : Nat) (X1 : List Value) (A2 A2' : Option Addr) (n2 c2 c2' : Nat) (X2 : List Value) (A3 A3' : Option Addr) (n3 c3 c3' : Nat) (X3 : List Value) (A4 A4' : Option Addr) (n4 c4 c4' : Nat) (X4 : List Value) (A5 A5' : Option Addr) (n5 c5 c5' : Nat) (X5 : List Value) (h0 : Two w B 5 A0 A0' n0 X0) (h1 : Two w B 2 A1 A1' n1 X1) (h2 : Two w B 2 A2 A2' n2 X2) (h3 : Two w B 1 A3 A3' n3 X3) (h4 : Two w B 1 A4 A4' n4 X4) (h5 : Two w B 3 A5 A5' n5 X5) (s0 : ∀ k, k < n0 → AtCell X0 k) (s1 : ∀ k, k < n1 → AtLock X1 k) (s2 : ∀ k, k < n2 → AtCond X2 k) (s3 : ∀ k, k < n3 → AtStr X3 k) (s4 : ∀ k, k < n4 → AtStr X4 k) (s5 : ∀ k, k < n5 → AtSite X5 k) (hB : B ≤ w.heap.size) (m0 : n0 ≤ 9000000000000000) (m1 : n1 ≤ 9000000000000000) (m2 : n2 ≤ 9000000000000000) (m3 : n3 ≤ 9000000000000000) (m4 : n4 ≤ 9000000000000000) (m5 : n5 ≤ 9000000000000000) (E : List Ev) (AE AE' : Option Addr) (nE cE cE' : Nat) (hE : Evs w B AE nE E) (hE' : Evs w B AE' nE E) (hnE : nE ≤ 1000000000) (hl : ∀ e ∈ E, e.deps.length ≤ 1000000000000 ∧ e.from_.length ≤ 1000000000000) :
    Calls Try.prog 33 #[.agg #[.slice A0 n0 c0, .slice A1 n1 c1, .slice A2 n2 c2, .slice A3 n3 c3, .slice A4 n4 c4, .slice A5 n5 c5, .slice AE nE cE], .agg #[.slice A0' n0 c0', .slice A1' n1 c1', .slice A2' n2 c2', .slice A3' n3 c3', .slice A4' n4 c4', .slice A5' n5 c5', .slice AE' nE cE']] w fun e w' => e = .returned (.bool true) ∧ w.grownBy w' none := by
  obtain ⟨W, hW⟩ : ∃ W, W = (w.alloc (.cells #[.slice A0 n0 c0, .slice A1 n1 c1, .slice A2 n2 c2, .slice A3 n3 c3, .slice A4 n4 c4, .slice A5 n5 c5, .slice AE nE cE] 73)).alloc (.cells #[.slice A0' n0 c0', .slice A1' n1 c1', .slice A2' n2 c2', .slice A3' n3 c3', .slice A4' n4 c4', .slice A5' n5 c5', .slice AE' nE cE'] 73) := ⟨_, rfl⟩
  have hg : w.grownBy W none := by
    rw [hW]; exact grownBy_trans (World.grownBy_alloc w _ none) (World.grownBy_alloc _ _ none) (.inl rfl)
  have hb0 : Held W w.heap.size 73 #[.slice A0 n0 c0, .slice A1 n1 c1, .slice A2 n2 c2, .slice A3 n3 c3, .slice A4 n4 c4, .slice A5 n5 c5, .slice AE nE cE] := by rw [hW]; exact (Held.new w _ _).alloc _
  have hb1 : Held W (w.heap.size + 1) 73 #[.slice A0' n0 c0', .slice A1' n1 c1', .slice A2' n2 c2', .slice A3' n3 c3', .slice A4' n4 c4', .slice A5' n5 c5', .slice AE' nE cE'] := by
    rw [hW]
    have := Held.new (w.alloc (.cells #[.slice A0 n0 c0, .slice A1 n1 c1, .slice A2 n2 c2, .slice A3 n3 c3, .slice A4 n4 c4, .slice A5 n5 c5, .slice AE nE cE] 73)) 73 #[.slice A0' n0 c0', .slice A1' n1 c1', .slice A2' n2 c2', .slice A3' n3 c3', .slice A4' n4 c4', .slice A5' n5 c5', .slice AE' nE cE']
    rwa [World.size_alloc] at this
  have HB0 := Lib.hid hb0
  have HB1 := Lib.hid hb1
  have HG := Lib.hid hg
  have CW := Lib.hid (sameWorld_yes W B A0 A0' n0 c0 c0' X0 A1 A1' n1 c1 c1' X1 A2 A2' n2 c2 c2' X2 A3 A3' n3 c3 c3' X3 A4 A4' n4 c4 c4' X4 A5 A5' n5 c5 c5' X5 (h0.grown hg hB) (h1.grown hg hB) (h2.grown hg hB) (h3.grown hg hB) (h4.grown hg hB) (h5.grown hg hB) s0 s1 s2 s3 s4 s5 (Nat.le_trans hB hg.size) m0 m1 m2 m3 m4 m5)
  have CE := Lib.hid (fun (W2 : World) (g : W.grownBy W2 none) => sameEvents_yes E AE AE' nE cE cE' B W2 (hE.grown (grownBy_trans hg g (.inl rfl)) hB (fun _ e => nomatch e)) (hE'.grown (grownBy_trans hg g (.inl rfl)) hB (fun _ e => nomatch e)) (Nat.le_trans hB (grownBy_trans hg g (.inl rfl)).size) hnE hl)
  have HW := Lib.hid hW
  clear hW hb0 hb1 hg hE hE' hl h0 h1 h2 h3 h4 h5 s0 s1 s2 s3 s4 s5
  go_enter Try.func33, Try.ntmps33
  go_wp2_with fail
  rw [show (w.alloc (.cells #[.slice A0 n0 c0, .slice A1 n1 c1, .slice A2 n2 c2, .slice A3 n3 c3, .slice A4 n4 c4, .slice A5 n5 c5, .slice AE nE cE] 73)).alloc (.cells #[.slice A0' n0 c0', .slice A1' n1 c1', .slice A2' n2 c2', .slice A3' n3 c3', .slice A4' n4 c4', .slice A5' n5 c5', .slice AE' nE cE'] 73) = W from HW.out.symm]
  refine CW.out.mono ?_
  rintro e w2 ⟨rfl, hg2⟩
  have d0 : w2.cell? ⟨w.heap.size, 6, none⟩ = some (.slice AE nE cE) := (HB0.out.grown hg2 (fun e => nomatch e)).cell 6
  have d1 : w2.cell? ⟨w.heap.size + 1, 6, none⟩ = some (.slice AE' nE cE') := (HB1.out.grown hg2 (fun e => nomatch e)).cell 6
  go_wp2_with fail
  refine (CE.out _ hg2).mono ?_
  rintro e w3 ⟨rfl, hg3⟩
  go_wp2_with fail
  go_ret
  exact ⟨rfl, grownBy_trans HG.out (grownBy_trans hg2 hg3 (.inl rfl)) (.inl rfl)⟩
end Go.Proofs.Ytlofjhcjjcohfaa
