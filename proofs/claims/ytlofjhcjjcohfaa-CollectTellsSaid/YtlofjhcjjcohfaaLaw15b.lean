/- The walk of CollectTells (chapter 15). -/
import Derived.Test.YtlofjhcjjcohfaaCpc
import Derived.Test.YtlofjhcjjcohfaaSwt
import Derived.Test.YtlofjhcjjcohfaaTrR
import Derived.Test.YtlofjhcjjcohfaaLaw15a
import Derived.Test.YtlofjhcjjcohfaaPtr3
namespace Go.Proofs.Ytlofjhcjjcohfaa
open Go Go.RowKit Iv
set_option linter.unusedVariables false

/-- Two blocks are laid. -/
theorem two_alloc {w W : World} {a b : Array Value} {s t : TypeId} (h : W = (w.alloc (.cells a s)).alloc (.cells b t)) : w.grownBy W none ∧ Held W w.heap.size s a ∧ Held W (w.heap.size + 1) t b := by
  subst h
  have e : (w.alloc (.cells a s)).heap.size = w.heap.size + 1 := by simp
  exact ⟨grownBy_trans (World.grownBy_alloc _ _ none) (World.grownBy_alloc _ _ none) (.inl rfl), (Held.new w s a).alloc _, by rw [← e]; exact Held.new _ _ _⟩
theorem two_of {w w2 W : World} {B lo B1 sz bytes n c : Nat} {A : Option Addr} {u : Sl} {X : List Value} (h : Cp1 w2 lo B1 sz u n X) (g : w2.grownBy W none) (hb : B1 ≤ w2.heap.size) (hi : In1 w B sz bytes A n c X) (gw : w.grownBy W none) (hB : B ≤ w.heap.size) (ha : 0 < n → ∃ b o, A = some ⟨b, o, none⟩) : Two W W.heap.size sz u.A A n X :=
  ⟨(h.2.1.grown g hb (fun _ e => nomatch e)).more (Nat.le_trans hb g.size), (hi.lies.grown gw hB (fun _ e => nomatch e)).more (Nat.le_trans hB gw.size), h.2.2.2, ha⟩
theorem Evs.more6 {w : World} {B B' n : Nat} {A : Option Addr} {l : List Ev} (h : Evs w B A n l) (hB : B ≤ B') : Evs w B' A n l :=
  ⟨h.1, fun k e he => by
    obtain ⟨b, o, Ad, cd, Af, cf, q1, hb, q2, q3, q4⟩ := h.2 k e he
    exact ⟨b, o, Ad, cd, Af, cf, q1, Nat.lt_of_lt_of_le hb hB, q2, q3.more hB, q4.more hB⟩⟩
theorem tr_bounds (fs : List Bytes) (k : Nat) (hk : k ≤ 10) (h : ∀ f ∈ fs, f.length ≤ 3000) : (trAll (recsTo fs k)).length ≤ 1000000000 := by
  have h1 := trAll_len (recsTo fs k)
  have h2 := recsTo_len fs k h
  omega
theorem tr_lists (fs : List Bytes) (k : Nat) : ∀ e ∈ trAll (recsTo fs k), e.deps.length ≤ 1000000000000 ∧ e.from_.length ≤ 1000000000000 := fun e he => by
  have := trAll_short fs k e he
  omega

set_option maxRecDepth 100000 in
set_option maxHeartbeats 3200000 in
theorem collectTells_any (w : World) (B : Nat) (A0 : Option Addr) (n0 c0 : Nat) (X0 : List Value) (A1 : Option Addr) (n1 c1 : Nat) (X1 : List Value) (A2 : Option Addr) (n2 c2 : Nat) (X2 : List Value) (A3 : Option Addr) (n3 c3 : Nat) (X3 : List Value) (A4 : Option Addr) (n4 c4 : Nat) (X4 : List Value) (A5 : Option Addr) (n5 c5 : Nat) (X5 : List Value) (h0 : In1 w B 5 48 A0 n0 c0 X0) (h1 : In1 w B 2 24 A1 n1 c1 X1) (h2 : In1 w B 2 24 A2 n2 c2 X2) (h3 : In1 w B 1 16 A3 n3 c3 X3) (h4 : In1 w B 1 16 A4 n4 c4 X4) (h5 : In1 w B 3 24 A5 n5 c5 X5) (s0 : ∀ k, k < n0 → AtCell X0 k) (s1 : ∀ k, k < n1 → AtLock X1 k) (s2 : ∀ k, k < n2 → AtCond X2 k) (s3 : ∀ k, k < n3 → AtStr X3 k) (s4 : ∀ k, k < n4 → AtStr X4 k) (s5 : ∀ k, k < n5 → AtSite X5 k) (a0 : 0 < n0 → ∃ b o, A0 = some ⟨b, o, none⟩) (a1 : 0 < n1 → ∃ b o, A1 = some ⟨b, o, none⟩) (a2 : 0 < n2 → ∃ b o, A2 = some ⟨b, o, none⟩) (a3 : 0 < n3 → ∃ b o, A3 = some ⟨b, o, none⟩) (a4 : 0 < n4 → ∃ b o, A4 = some ⟨b, o, none⟩) (a5 : 0 < n5 → ∃ b o, A5 = some ⟨b, o, none⟩) (hB : B ≤ w.heap.size) (m0 : n0 ≤ 9000000000000000) (m1 : n1 ≤ 9000000000000000) (m2 : n2 ≤ 9000000000000000) (m3 : n3 ≤ 9000000000000000) (m4 : n4 ≤ 9000000000000000) (m5 : n5 ≤ 9000000000000000) (AF : Option Addr) (nF cF : Nat) (fs : List Bytes) (hF : FIn w B AF nF fs) (hnF : nF ≤ maxLen) :
    Calls Try.prog 9 #[.agg #[.slice A0 n0 c0, .slice A1 n1 c1, .slice A2 n2 c2, .slice A3 n3 c3, .slice A4 n4 c4, .slice A5 n5 c5], .slice AF nF cF] w fun e w' => e = .returned (.bool true) ∧ w.grownBy w' none := by
  obtain ⟨W, hW⟩ : ∃ W, W = w.alloc (.cells #[.slice A0 n0 c0, .slice A1 n1 c1, .slice A2 n2 c2, .slice A3 n3 c3, .slice A4 n4 c4, .slice A5 n5 c5] 70) := ⟨_, rfl⟩
  have hg : w.grownBy W none := by rw [hW]; exact World.grownBy_alloc w _ none
  have hb0 : Held W w.heap.size 70 #[.slice A0 n0 c0, .slice A1 n1 c1, .slice A2 n2 c2, .slice A3 n3 c3, .slice A4 n4 c4, .slice A5 n5 c5] := by rw [hW]; exact Held.new w _ _
  have CL := Lib.hid (large15_any AF nF cF B fs W (hF.grown hg hB (fun _ e => nomatch e)) hnF)
  have HB0 := Lib.hid hb0
  have HG := Lib.hid hg
  have HF := Lib.hid (hF.grown hg hB (fun _ e => nomatch e))
  have HCM := Lib.hid (CpW.made W B A0 n0 c0 X0 A1 n1 c1 X1 A2 n2 c2 X2 A3 n3 c3 X3 A4 n4 c4 X4 A5 n5 c5 X5 (h0.grown hg hB) (h1.grown hg hB) (h2.grown hg hB) (h3.grown hg hB) (h4.grown hg hB) (h5.grown hg hB) (Nat.le_trans hB hg.size))
  have HT : Hid (∀ (w2 W6 : World) (lo B1 : Nat) (u0 u1 u2 u3 u4 u5 : Sl), CpW n0 X0 n1 X1 n2 X2 n3 X3 n4 X4 n5 X5 w2 lo B1 [u0, u1, u2, u3, u4, u5] → B1 ≤ w2.heap.size → w2.grownBy W6 none → w.grownBy W6 none →
      Two W6 W6.heap.size 5 u0.A A0 n0 X0 ∧ Two W6 W6.heap.size 2 u1.A A1 n1 X1 ∧ Two W6 W6.heap.size 2 u2.A A2 n2 X2 ∧ Two W6 W6.heap.size 1 u3.A A3 n3 X3 ∧ Two W6 W6.heap.size 1 u4.A A4 n4 X4 ∧ Two W6 W6.heap.size 3 u5.A A5 n5 X5) := Lib.hid (by
    rintro w2 W6 lo B1 u0 u1 u2 u3 u4 u5 ⟨v0, v1, v2, v3, v4, v5, hu, p0, p1, p2, p3, p4, p5⟩ hb g gw
    simp only [List.cons.injEq, and_true] at hu
    obtain ⟨rfl, rfl, rfl, rfl, rfl, rfl⟩ := hu
    exact ⟨two_of p0 g hb h0 gw hB a0, two_of p1 g hb h1 gw hB a1, two_of p2 g hb h2 gw hB a2, two_of p3 g hb h3 gw hB a3, two_of p4 g hb h4 gw hB a4, two_of p5 g hb h5 gw hB a5⟩)
  have HN : Hid (∀ (w2 : World) (lo B1 : Nat) (u0 u1 u2 u3 u4 u5 : Sl), CpW n0 X0 n1 X1 n2 X2 n3 X3 n4 X4 n5 X5 w2 lo B1 [u0, u1, u2, u3, u4, u5] → u0.n = n0 ∧ u1.n = n1 ∧ u2.n = n2 ∧ u3.n = n3 ∧ u4.n = n4 ∧ u5.n = n5) := Lib.hid (by
    rintro w2 lo B1 u0 u1 u2 u3 u4 u5 ⟨v0, v1, v2, v3, v4, v5, hu, p0, p1, p2, p3, p4, p5⟩
    simp only [List.cons.injEq, and_true] at hu
    obtain ⟨rfl, rfl, rfl, rfl, rfl, rfl⟩ := hu
    exact ⟨p0.1, p1.1, p2.1, p3.1, p4.1, p5.1⟩)
  have HSW := Lib.hid (fun (W6 : World) (D0 D1 D2 D3 D4 D5 : Option Addr) (k0 k1 k2 k3 k4 k5 : Nat) (E : List Ev) (AE AE' : Option Addr) (nE cE cE' : Nat) (g : Two W6 W6.heap.size 5 D0 A0 n0 X0 ∧ Two W6 W6.heap.size 2 D1 A1 n1 X1 ∧ Two W6 W6.heap.size 2 D2 A2 n2 X2 ∧ Two W6 W6.heap.size 1 D3 A3 n3 X3 ∧ Two W6 W6.heap.size 1 D4 A4 n4 X4 ∧ Two W6 W6.heap.size 3 D5 A5 n5 X5) hE hE' hnE hl => sameTrace_yes W6 W6.heap.size D0 A0 n0 k0 c0 X0 D1 A1 n1 k1 c1 X1 D2 A2 n2 k2 c2 X2 D3 A3 n3 k3 c3 X3 D4 A4 n4 k4 c4 X4 D5 A5 n5 k5 c5 X5 g.1 g.2.1 g.2.2.1 g.2.2.2.1 g.2.2.2.2.1 g.2.2.2.2.2 s0 s1 s2 s3 s4 s5 (Nat.le_refl _) m0 m1 m2 m3 m4 m5 E AE AE' nE cE cE' hE hE' hnE hl)
  have HW := Lib.hid hW
  have e0 : W.cell? ⟨w.heap.size, 0, none⟩ = some (.slice A0 n0 c0) := hb0.cell 0
  have e1 : W.cell? ⟨w.heap.size, 1, none⟩ = some (.slice A1 n1 c1) := hb0.cell 1
  have e2 : W.cell? ⟨w.heap.size, 2, none⟩ = some (.slice A2 n2 c2) := hb0.cell 2
  have e3 : W.cell? ⟨w.heap.size, 3, none⟩ = some (.slice A3 n3 c3) := hb0.cell 3
  have e4 : W.cell? ⟨w.heap.size, 4, none⟩ = some (.slice A4 n4 c4) := hb0.cell 4
  have e5 : W.cell? ⟨w.heap.size, 5, none⟩ = some (.slice A5 n5 c5) := hb0.cell 5
  clear hW hb0 hg hF h0 h1 h2 h3 h4 h5 s0 s1 s2 s3 s4 s5 a0 a1 a2 a3 a4 a5 m0 m1 m2 m3 m5
  go_enter Try.func9, Try.ntmps9
  go_wp2_with fail
  rw [show w.alloc (.cells #[.slice A0 n0 c0, .slice A1 n1 c1, .slice A2 n2 c2, .slice A3 n3 c3, .slice A4 n4 c4, .slice A5 n5 c5] 70) = W from HW.out.symm]
  refine CL.out.mono ?_
  rintro e w1 ⟨b, rfl, rfl, hb⟩
  cases b with
  | true =>
    go_wp2_with fail
    go_ret
    exact ⟨rfl, HG.out⟩
  | false =>
    obtain ⟨hn10, hlen⟩ := hb rfl
    by_cases h10 : 10 < n4
    · have i10 : (10 : Int) < (n4 : Int) := by omega
      go_wp2_with fail
      go_ret
      exact ⟨rfl, HG.out⟩
    · have i10 : ¬ (10 : Int) < (n4 : Int) := by omega
      go_wp2_with fail
      refine (traceP_any _ _ _ _ _ A4 n4 c4 AF nF cF B fs _ HF.out (Nat.le_trans hB HG.out.size) (by omega) hlen (by omega) ⟨rfl, rfl, rfl, rfl, rfl⟩ (CpW n0 X0 n1 X1 n2 X2 n3 X3 n4 X4 n5 X5) CpW.keep HCM.out).mono ?_
      rintro e w2 ⟨⟨D0, q0, k0⟩, ⟨D1, q1, k1⟩, ⟨D2, q2, k2⟩, ⟨D3, q3, k3⟩, ⟨D4, q4, k4⟩, ⟨D5, q5, k5⟩, AE, cE, AB, cB, rfl, ⟨lo, B1, hcp, hb1⟩, ⟨base, lo2, B2, css, hown, hev, hb2⟩, hls, hg2⟩
      obtain ⟨rfl, rfl, rfl, rfl, rfl, rfl⟩ := HN.out _ _ _ _ _ _ _ _ _ hcp
      have HE := Lib.hid (evs_of hown hev hb2 rfl)
      have HLS := Lib.hid hls
      have HCP := Lib.hid hcp
      have HG2 := Lib.hid hg2
      have HB1 := Lib.hid hb1
      have HLEN := Lib.hid hlen
      clear hown hev hls hcp hb1 hb2 hlen hb
      obtain ⟨W4, hW4⟩ : ∃ W4, W4 = (w2.alloc (.cells #[.slice D0 q0 k0, .slice D1 q1 k1, .slice D2 q2 k2, .slice D3 q3 k3, .slice D4 q4 k4, .slice D5 q5 k5, .slice AE (trAll (recsTo fs q4)).length cE] 73)).alloc (.cells #[.slice AB (lostTo fs q4).length cB, .int .i64 (((recsTo fs q4).length : Int) - ((trAll (recsTo fs q4)).length : Int))] 75) := ⟨_, rfl⟩
      obtain ⟨g4, dT, dL⟩ := two_alloc hW4
      have d0 := (HB0.out.grown HG2.out (fun e => nomatch e)).grown g4 (fun e => nomatch e)
      have HG4 := Lib.hid g4
      have HDT := Lib.hid dT
      have HDL := Lib.hid dL
      have HW4 := Lib.hid hW4
      have HG14 := Lib.hid (grownBy_trans HG2.out g4 (.inl rfl))
      have f0 : W4.cell? ⟨w.heap.size, 0, none⟩ = some (.slice A0 q0 c0) := d0.cell 0
      have f1 : W4.cell? ⟨w.heap.size, 1, none⟩ = some (.slice A1 q1 c1) := d0.cell 1
      have f2 : W4.cell? ⟨w.heap.size, 2, none⟩ = some (.slice A2 q2 c2) := d0.cell 2
      have f3 : W4.cell? ⟨w.heap.size, 3, none⟩ = some (.slice A3 q3 c3) := d0.cell 3
      have f4 : W4.cell? ⟨w.heap.size, 4, none⟩ = some (.slice A4 q4 c4) := d0.cell 4
      have f5 : W4.cell? ⟨w.heap.size, 5, none⟩ = some (.slice A5 q5 c5) := d0.cell 5
      clear hW4 g4 dT dL hg2 d0 e0 e1 e2 e3 e4 e5
      go_upto_region 4 with fail
      rw [show (w2.alloc (.cells #[.slice D0 q0 k0, .slice D1 q1 k1, .slice D2 q2 k2, .slice D3 q3 k3, .slice D4 q4 k4, .slice D5 q5 k5, .slice AE (trAll (recsTo fs q4)).length cE] 73)).alloc (.cells #[.slice AB (lostTo fs q4).length cB, .int .i64 (((recsTo fs q4).length : Int) - ((trAll (recsTo fs q4)).length : Int))] 75) = W4 from HW4.out.symm]
      go_wp2_with fail
      refine (traceR_any ⟨A0, q0, c0⟩ ⟨A1, q1, c1⟩ ⟨A2, q2, c2⟩ ⟨A3, q3, c3⟩ ⟨A4, q4, c4⟩ ⟨A5, q5, c5⟩ AF nF cF B fs W4 (HF.out.grown HG14.out (Nat.le_trans hB HG.out.size) (fun _ e => nomatch e)) (Nat.le_trans hB (Nat.le_trans HG.out.size HG14.out.size)) (by show q4 ≤ 10; omega) HLEN.out (by omega)).mono ?_
      rintro e w5 ⟨u0, u1, u2, u3, u4, u5, AE2, cE2, AB2, cB2, rfl, ⟨lo', B1', hcp', hb1'⟩, ⟨base', lo2', B2', css', hown', hev', hb2'⟩, hls', hg5⟩
      simp only [List.cons.injEq, and_true] at hcp'
      obtain ⟨rfl, rfl, rfl, rfl, rfl, rfl⟩ := hcp'
      have HE2 := Lib.hid (evs_of hown' hev' hb2' rfl)
      have HLS2 := Lib.hid hls'
      have HG5 := Lib.hid hg5
      clear hown' hev' hls' hb1' hb2' f0 f1 f2 f3 f4 f5
      dsimp only at HE2 HLS2 ⊢
      obtain ⟨W6, hW6⟩ : ∃ W6, W6 = (w5.alloc (.cells #[.slice A0 q0 c0, .slice A1 q1 c1, .slice A2 q2 c2, .slice A3 q3 c3, .slice A4 q4 c4, .slice A5 q5 c5, .slice AE2 (trAll (recsTo fs q4)).length cE2] 73)).alloc (.cells #[.slice AB2 (lostTo fs q4).length cB2, .int .i64 (((recsTo fs q4).length : Int) - ((trAll (recsTo fs q4)).length : Int))] 75) := ⟨_, rfl⟩
      obtain ⟨g6, dT2, dL2⟩ := two_alloc hW6
      have g46 := grownBy_trans HG5.out g6 (.inl rfl)
      have r0 := HDT.out.grown g46 (fun e => nomatch e)
      have r1 := HDL.out.grown g46 (fun e => nomatch e)
      have HW6 := Lib.hid hW6
      have HR1 := Lib.hid r1
      have HT2 := Lib.hid dT2
      have HL2 := Lib.hid dL2
      have GE := Lib.hid (HE.out.grown (grownBy_trans HG4.out g46 (.inl rfl)) (Nat.le_refl _) (fun _ e => nomatch e))
      have GE2 := Lib.hid (HE2.out.grown g6 (Nat.le_refl _) (fun _ e => nomatch e))
      have GL := Lib.hid (HLS.out.grown (grownBy_trans HG4.out g46 (.inl rfl)) (Nat.le_refl _) (fun _ e => nomatch e))
      have GL2 := Lib.hid (HLS2.out.grown g6 (Nat.le_refl _) (fun _ e => nomatch e))
      have S26 := Lib.hid (Nat.le_trans HG4.out.size g46.size)
      have S56 := Lib.hid g6.size
      have GG := Lib.hid (grownBy_trans (grownBy_trans HG.out HG14.out (.inl rfl)) g46 (.inl rfl))
      have TT := Lib.hid (HT.out w2 W6 lo B1 _ _ _ _ _ _ HCP.out HB1.out (grownBy_trans HG4.out g46 (.inl rfl)) GG.out)
      have CSW := Lib.hid (HSW.out W6 D0 D1 D2 D3 D4 D5 k0 k1 k2 k3 k4 k5 (trAll (recsTo fs q4)) AE AE2 _ cE cE2 TT.out (GE.out.more6 S26.out) (GE2.out.more6 S56.out) (tr_bounds fs q4 (by omega) HLEN.out) (tr_lists fs q4))
      have ra0 : W6.cell? ⟨w2.heap.size, 0, none⟩ = some (.slice D0 q0 k0) := r0.cell 0
      have ra1 : W6.cell? ⟨w2.heap.size, 1, none⟩ = some (.slice D1 q1 k1) := r0.cell 1
      have ra2 : W6.cell? ⟨w2.heap.size, 2, none⟩ = some (.slice D2 q2 k2) := r0.cell 2
      have ra3 : W6.cell? ⟨w2.heap.size, 3, none⟩ = some (.slice D3 q3 k3) := r0.cell 3
      have ra4 : W6.cell? ⟨w2.heap.size, 4, none⟩ = some (.slice D4 q4 k4) := r0.cell 4
      have ra5 : W6.cell? ⟨w2.heap.size, 5, none⟩ = some (.slice D5 q5 k5) := r0.cell 5
      have ra6 : W6.cell? ⟨w2.heap.size, 6, none⟩ = some (.slice AE (trAll (recsTo fs q4)).length cE) := r0.cell 6
      have rb0 : W6.cell? ⟨w5.heap.size, 0, none⟩ = some (.slice A0 q0 c0) := dT2.cell 0
      have rb1 : W6.cell? ⟨w5.heap.size, 1, none⟩ = some (.slice A1 q1 c1) := dT2.cell 1
      have rb2 : W6.cell? ⟨w5.heap.size, 2, none⟩ = some (.slice A2 q2 c2) := dT2.cell 2
      have rb3 : W6.cell? ⟨w5.heap.size, 3, none⟩ = some (.slice A3 q3 c3) := dT2.cell 3
      have rb4 : W6.cell? ⟨w5.heap.size, 4, none⟩ = some (.slice A4 q4 c4) := dT2.cell 4
      have rb5 : W6.cell? ⟨w5.heap.size, 5, none⟩ = some (.slice A5 q5 c5) := dT2.cell 5
      have rb6 : W6.cell? ⟨w5.heap.size, 6, none⟩ = some (.slice AE2 (trAll (recsTo fs q4)).length cE2) := dT2.cell 6
      clear hW6 g6 dT2 dL2 g46 r0 r1
      go_upto_region 5 with fail
      rw [show (w5.alloc (.cells #[.slice A0 q0 c0, .slice A1 q1 c1, .slice A2 q2 c2, .slice A3 q3 c3, .slice A4 q4 c4, .slice A5 q5 c5, .slice AE2 (trAll (recsTo fs q4)).length cE2] 73)).alloc (.cells #[.slice AB2 (lostTo fs q4).length cB2, .int .i64 (((recsTo fs q4).length : Int) - ((trAll (recsTo fs q4)).length : Int))] 75) = W6 from HW6.out.symm]
      go_wp2_with fail
      refine CSW.out.mono ?_
      rintro e w7 ⟨rfl, g7⟩
      have c0 : w7.cell? ⟨w2.heap.size + 1, 0, none⟩ = some (.slice AB (lostTo fs q4).length cB) := (HR1.out.grown g7 (fun e => nomatch e)).cell 0
      have c1 : w7.cell? ⟨w2.heap.size + 1, 1, none⟩ = some (.int .i64 (((recsTo fs q4).length : Int) - ((trAll (recsTo fs q4)).length : Int))) := (HR1.out.grown g7 (fun e => nomatch e)).cell 1
      have c2 : w7.cell? ⟨w5.heap.size + 1, 0, none⟩ = some (.slice AB2 (lostTo fs q4).length cB2) := (HL2.out.grown g7 (fun e => nomatch e)).cell 0
      have c3 : w7.cell? ⟨w5.heap.size + 1, 1, none⟩ = some (.int .i64 (((recsTo fs q4).length : Int) - ((trAll (recsTo fs q4)).length : Int))) := (HL2.out.grown g7 (fun e => nomatch e)).cell 1
      go_wp2_with fail
      refine (sameLoss_yes AB AB2 _ cB cB2 _ (lostTo fs q4) w7 _ _ (GL.out.grown g7 S26.out (fun _ e => nomatch e)) (GL2.out.grown g7 S56.out (fun _ e => nomatch e)) (Nat.le_trans S26.out g7.size) (Nat.le_trans S56.out g7.size) (by rw [lostTo_len]; omega)).mono ?_
      rintro e w8 ⟨rfl, g8⟩
      go_wp2_with fail
      refine (awake15_any _).mono ?_
      rintro e w9 ⟨rfl, g9⟩
      go_wp2_with fail
      go_ret
      exact ⟨rfl, grownBy_trans GG.out (grownBy_trans g7 (grownBy_trans g8 g9 (.inl rfl)) (.inl rfl)) (.inl rfl)⟩

theorem collectTellsArgs (A0 : Option Addr) (n0 c0 : Nat) (X0 : List Value) (A1 : Option Addr) (n1 c1 : Nat) (X1 : List Value) (A2 : Option Addr) (n2 c2 : Nat) (X2 : List Value) (A3 : Option Addr) (n3 c3 : Nat) (X3 : List Value) (A4 : Option Addr) (n4 c4 : Nat) (X4 : List Value) (A5 : Option Addr) (n5 c5 : Nat) (X5 : List Value) (AF : Option Addr) (nF cF : Nat) (fs : List Bytes) (w : World) (hin : (In1 w w.heap.size 5 48 A0 n0 c0 X0 ∧ In1 w w.heap.size 2 24 A1 n1 c1 X1 ∧ In1 w w.heap.size 2 24 A2 n2 c2 X2 ∧ In1 w w.heap.size 1 16 A3 n3 c3 X3 ∧ In1 w w.heap.size 1 16 A4 n4 c4 X4 ∧ In1 w w.heap.size 3 24 A5 n5 c5 X5)) (ha : ((0 < n0 → ∃ b o, A0 = some ⟨b, o, none⟩) ∧ (0 < n1 → ∃ b o, A1 = some ⟨b, o, none⟩) ∧ (0 < n2 → ∃ b o, A2 = some ⟨b, o, none⟩) ∧ (0 < n3 → ∃ b o, A3 = some ⟨b, o, none⟩) ∧ (0 < n4 → ∃ b o, A4 = some ⟨b, o, none⟩) ∧ (0 < n5 → ∃ b o, A5 = some ⟨b, o, none⟩))) (hs : ((∀ k, k < n0 → AtCell X0 k) ∧ (∀ k, k < n1 → AtLock X1 k) ∧ (∀ k, k < n2 → AtCond X2 k) ∧ (∀ k, k < n3 → AtStr X3 k) ∧ (∀ k, k < n4 → AtStr X4 k) ∧ (∀ k, k < n5 → AtSite X5 k))) (hF : FIn w w.heap.size AF nF fs) (hnF : nF ≤ maxLen) :
    Calls Try.prog 9 #[.agg #[.slice A0 n0 c0, .slice A1 n1 c1, .slice A2 n2 c2, .slice A3 n3 c3, .slice A4 n4 c4, .slice A5 n5 c5], .slice AF nF cF] w fun e w' => e = .returned (.bool true) ∧ Below w.heap.size w w' := by
  obtain ⟨h0, h1, h2, h3, h4, h5⟩ := hin
  obtain ⟨a0, a1, a2, a3, a4, a5⟩ := ha
  obtain ⟨s0, s1, s2, s3, s4, s5⟩ := hs
  have m0 : n0 ≤ 9000000000000000 := by have := h0.bytes_; omega
  have m1 : n1 ≤ 9000000000000000 := by have := h1.bytes_; omega
  have m2 : n2 ≤ 9000000000000000 := by have := h2.bytes_; omega
  have m3 : n3 ≤ 9000000000000000 := by have := h3.bytes_; omega
  have m4 : n4 ≤ 9000000000000000 := by have := h4.bytes_; omega
  have m5 : n5 ≤ 9000000000000000 := by have := h5.bytes_; omega
  refine (collectTells_any w w.heap.size A0 n0 c0 X0 A1 n1 c1 X1 A2 n2 c2 X2 A3 n3 c3 X3 A4 n4 c4 X4 A5 n5 c5 X5 h0 h1 h2 h3 h4 h5 s0 s1 s2 s3 s4 s5 a0 a1 a2 a3 a4 a5 (Nat.le_refl _) m0 m1 m2 m3 m4 m5 AF nF cF fs hF hnF).mono ?_
  rintro e w' ⟨rfl, hg⟩
  exact ⟨rfl, belGr (Below.refl _ _) hg⟩
end Go.Proofs.Ytlofjhcjjcohfaa
