/- The walk of EventRoundTrip. -/
import Derived.Test.YtlofjhcjjcohfaaRdP
import Derived.Test.YtlofjhcjjcohfaaLong
import Derived.Test.YtlofjhcjjcohfaaPkw
import Derived.Deep.DeepCutAuto
namespace Go.Proofs.Ytlofjhcjjcohfaa
open Go Go.RowKit Iv
set_option linter.unusedVariables false

theorem cellsZ {W : World} {g : Nat} {T : TypeId} (h : Held W g T #[.int .i64 0, .int .i64 0, .int .i64 0, .int .i64 0, .int .i64 0, .int .i64 0, .slice none 0 0, .slice none 0 0]) :
    W.cell? ⟨g, 0, none⟩ = some (.int .i64 0) ∧ W.cell? ⟨g, 1, none⟩ = some (.int .i64 0) ∧ W.cell? ⟨g, 2, none⟩ = some (.int .i64 0) ∧ W.cell? ⟨g, 3, none⟩ = some (.int .i64 0) ∧
    W.cell? ⟨g, 4, none⟩ = some (.int .i64 0) ∧ W.cell? ⟨g, 5, none⟩ = some (.int .i64 0) ∧ W.cell? ⟨g, 6, none⟩ = some (.slice none 0 0) ∧ W.cell? ⟨g, 7, none⟩ = some (.slice none 0 0) :=
  ⟨h.cell 0, h.cell 1, h.cell 2, h.cell 3, h.cell 4, h.cell 5, h.cell 6, h.cell 7⟩
theorem at_ne {X : World} {N gq : Nat} {o : Option Nat} (h : At X (some N) o) (h1 : gq ≠ N) (h2 : gq < X.heap.size) : o ≠ some gq := by
  rcases h with rfl | ⟨g, rfl, hg⟩
  · intro e; injection e with e; exact h1 e.symm
  · intro e; injection e with e; omega
theorem At.ofHead {w w4 X : World} {N : Nat} {o : Option Nat} (h : At X (some N) o) (hN : w.heap.size ≤ N) (hX : w.heap.size ≤ X.heap.size) : At w none o := by
  rcases h with rfl | ⟨g, rfl, hg⟩
  · exact .inr ⟨N, rfl, hN⟩
  · exact .inr ⟨g, rfl, by omega⟩

theorem empty_at (w : World) (N : Nat) (hN : w.heap.size = N) (base : Nat) (e : TypeId) (sz : Nat) (hb : base ≤ w.heap.size) : (w.alloc (.cells #[] e)).ownsRow base e sz (.slice (some ⟨N, 0, none⟩) 0 0) 0 [] := hN ▸ ownsRow_empty w base e sz hb
theorem grownAl {a b : World} (h : a.grownBy b none) (o : Obj) : a.grownBy (b.alloc o) none := grownBy_trans h (World.grownBy_alloc _ _ none) (.inl rfl)
theorem rs_of {w3 W : World} {p : Addr} {v : Value} (f1 : w3.cell? p = some v) (h : w3.grownBy W none) : W.cell? p = some v ∧ w3.grownBy W none := ⟨World.grownBy.cell h f1 (by simp), h⟩

/-- What stands behind the statement that reads the record back. -/
def CutR (w3 : World) (r : Rec) (v10 : Value) (wx : World) : Prop :=
  w3.grownBy wx none ∧ ∃ (gq : Nat) (Ad1 : Option Addr) (cd1 : Nat) (Af1 : Option Addr) (cf1 : Nat), v10 = .pointer (some ⟨gq, 0, none⟩) ∧ w3.heap.size ≤ gq ∧
    Held wx gq 26 (recV r Ad1 r.ev.deps.length cd1 Af1 r.ev.from_.length cf1) ∧ Lies wx wx.heap.size 1 Ad1 r.ev.deps.length (r.ev.deps.map iv) ∧ Lies wx wx.heap.size 1 Af1 r.ev.from_.length (r.ev.from_.map iv)
theorem cutR_new {w3 w6 : World} {r : Rec} {b : Nat} {Ad1 : Option Addr} {cd1 : Nat} {Af1 : Option Addr} {cf1 : Nat} (hG6 : w3.grownBy w6 none)
    (hd : w6.ownsRow b 3 1 (.slice Ad1 r.ev.deps.length cd1) r.ev.deps.length (r.ev.deps.map iv)) (hf : w6.ownsRow b 3 1 (.slice Af1 r.ev.from_.length cf1) r.ev.from_.length (r.ev.from_.map iv)) :
    CutR w3 r (.pointer (some ⟨w6.heap.size, 0, none⟩)) (w6.alloc (.cells #[.int .i64 r.seq, .int .i64 r.ev.thread, .int .i64 r.ev.kind, .int .i64 r.ev.obj, .int .i64 r.ev.value, .int .i64 r.ev.site, .slice Ad1 r.ev.deps.length cd1, .slice Af1 r.ev.from_.length cf1] 26)) :=
  ⟨grownAl hG6 _, _, _, _, _, _, rfl, hG6.size, Held.new _ _ _, ((Lies.ofOwn hd).allocAny _).more (World.grownBy_alloc w6 _ none).size, ((Lies.ofOwn hf).allocAny _).more (World.grownBy_alloc w6 _ none).size⟩
theorem cutR_store {w3 w6 : World} {r : Rec} {b gq : Nat} {Ad1 : Option Addr} {cd1 : Nat} {Af1 : Option Addr} {cf1 : Nat} {c0 c1 c2 c3 c4 c5 c6 c7 : Value} (HQ : Held w6 gq 26 #[c0, c1, c2, c3, c4, c5, c6, c7]) (hG6 : w3.grownBy w6 none) (hq : w3.heap.size ≤ gq) (hb : gq < b)
    (hd : w6.ownsRow b 3 1 (.slice Ad1 r.ev.deps.length cd1) r.ev.deps.length (r.ev.deps.map iv)) (hf : w6.ownsRow b 3 1 (.slice Af1 r.ev.from_.length cf1) r.ev.from_.length (r.ev.from_.map iv)) :
    CutR w3 r (.pointer (some ⟨gq, 0, none⟩)) (((((((((w6.setCell ⟨gq, 0, none⟩ (.int .i64 r.seq)).setCell ⟨gq, 1, none⟩ (.int .i64 r.ev.thread)).setCell ⟨gq, 2, none⟩ (.int .i64 r.ev.kind)).setCell ⟨gq, 3, none⟩ (.int .i64 r.ev.obj)).setCell ⟨gq, 4, none⟩ (.int .i64 r.ev.value)).setCell ⟨gq, 5, none⟩ (.int .i64 r.ev.site)).setCell ⟨gq, 6, none⟩ (.slice Ad1 r.ev.deps.length cd1)).setCell ⟨gq, 7, none⟩ (.slice Af1 r.ev.from_.length cf1))) := by
  obtain ⟨s1, s2, s3⟩ := stores8 HQ hG6 hq (.int .i64 r.seq) (.int .i64 r.ev.thread) (.int .i64 r.ev.kind) (.int .i64 r.ev.obj) (.int .i64 r.ev.value) (.int .i64 r.ev.site) (.slice Ad1 r.ev.deps.length cd1) (.slice Af1 r.ev.from_.length cf1)
  exact ⟨s2, gq, Ad1, cd1, Af1, cf1, rfl, hq, s1, Lies.ofOwn (own_keep hd s3 (fun g hg e => by have := (hd.lt g hg).1; injection e with e; omega)), Lies.ofOwn (own_keep hf s3 (fun g hg e => by have := (hf.lt g hg).1; injection e with e; omega))⟩

set_option maxRecDepth 100000 in
set_option maxHeartbeats 3200000 in
theorem eventRoundTrip_any (r : Rec) (Ad : Option Addr) (nd cd : Nat) (Af : Option Addr) (nf cf : Nat) (seq : Int) (A : Option Addr) (n c : Nat) (xs : Bytes) (cut : Int) (w : World) (hr : RecIn w r Ad nd cd Af nf cf) (hs : inI64 seq)
    (h : Lies w w.heap.size 1 A n (xs.map bv)) (hnc : n ≤ c) (hcm : c ≤ maxLen) (ho : A = none → c = 0) (hcut : 0 ≤ cut ∧ cut ≤ 65535) :
    Calls Try.prog 3 #[.agg (recV r Ad nd cd Af nf cf), .int .i64 seq, .slice A n c, .int .u16 cut] w fun e w' => e = .returned (.bool true) ∧ Below w.heap.size w w' := by
  unfold maxLen at hcm
  obtain ⟨hc0, hc1⟩ := hcut
  have HR := Lib.hid hr
  have HS := Lib.hid hs
  have HO := Lib.hid ho
  have HXL := Lib.hid h.lenB
  clear hr hs ho
  by_cases h4 : 400 < nd ∨ 400 < nf
  · have CL := Lib.hid (fun W => long_yes r Ad nd cd Af nf cf W h4)
    clear h4
    unfold recV at *
    go_enter Try.func3, Try.ntmps3
    go_wp2_with fail
    refine (CL.out _).mono ?_
    rintro e w1 ⟨rfl, hg1⟩
    go_wp2_with fail
    go_ret
    exact ⟨rfl, ((Below.refl _ _).alloc (Nat.le_refl _) _).grown hg1 (by simp) (fun k hk => by cases hk)⟩
  · have hnd : nd ≤ 400 := by omega
    have hnf : nf ≤ 400 := by omega
    by_cases h3 : 300 < n
    · have CL := Lib.hid (fun W => long_no r Ad nd cd Af nf cf W hnd hnf)
      clear h4
      unfold recV at *
      go_enter Try.func3, Try.ntmps3
      go_wp2_with fail
      refine (CL.out _).mono ?_
      rintro e w1 ⟨rfl, hg1⟩
      go_wp2_with fail
      go_ret
      exact ⟨rfl, ((Below.refl _ _).alloc (Nat.le_refl _) _).grown hg1 (by simp) (fun k hk => by cases hk)⟩
    · have hok := HR.out.ok hnd hnf
      obtain ⟨W, hW⟩ : ∃ W, W = w.alloc (.cells (recV r Ad nd cd Af nf cf) 26) := ⟨_, rfl⟩
      have hb0 : Held W w.heap.size 26 (recV r Ad nd cd Af nf cf) := by rw [hW]; exact Held.new _ _ _
      have hWg : w.grownBy W none := by rw [hW]; exact World.grownBy_alloc w _ none
      have HB0 := Lib.hid hb0
      have HW := Lib.hid hW
      have HOK := Lib.hid hok
      have CL := Lib.hid (long_no r Ad nd cd Af nf cf W hnd hnf)
      have lp := putRec_len hok seq
      have lpp := putRec_pos r seq
      obtain ⟨L, hL⟩ : ∃ L, L = (putRec r seq).length := ⟨_, rfl⟩
      rw [← hL] at lp lpp
      have HL := Lib.hid hL
      have hbl : ((L : Int) == 0) = false := by rw [beq_eq_false_iff_ne]; omega
      have hll : ((L : Int) != (L : Int)) = false := by simp
      have hss : (r.seq != r.seq) = false := by simp
      obtain ⟨K, hK⟩ : ∃ K : Nat, (K : Int) = cut % (L : Int) := ⟨(cut % (L : Int)).toNat, by have := Int.emod_nonneg cut (show (L : Int) ≠ 0 by omega); omega⟩
      have hKL : K < L := by
        have := Int.emod_lt_of_pos cut (show (0 : Int) < (L : Int) by omega)
        omega
      have hkk : cut % (L : Int) = (K : Int) := hK.symm
      obtain ⟨i0, hi, hz0, hz1, hz2⟩ := info_parts info_u8
      have HI := Lib.hid hi
      have HZ0 := Lib.hid hz0
      have HZ1 := Lib.hid hz1
      have HZ2 := Lib.hid hz2
      have hz : (0 : Nat) < 1 := by omega
      clear hi hz0 hz1 hz2 hL hK
      clear hW hb0 h4 hok
      unfold recV at *
      go_enter Try.func3, Try.ntmps3
      go_wp2_with fail
      rw [show (w.alloc (.cells #[.int .i64 r.seq, .int .i64 r.ev.thread, .int .i64 r.ev.kind, .int .i64 r.ev.obj, .int .i64 r.ev.value, .int .i64 r.ev.site, .slice Ad nd cd, .slice Af nf cf] 26)) = W from HW.out.symm]
      refine CL.out.mono ?_
      rintro e W2 ⟨rfl, hg1⟩
      have hW2 : w.grownBy W2 none := grownBy_trans hWg hg1 (.inl rfl)
      obtain ⟨f0, f1, f2, f3, f4, f5, f6, f7⟩ := cells8 (HB0.out.grown hg1 (fun e => nomatch e))
      have hA2 : Lies W2 w.heap.size 1 A n (xs.map bv) := h.grown hW2 (Nat.le_refl _) (fun g hg => by cases hg)
      have hd2 : Lies W2 w.heap.size 1 Ad nd (r.ev.deps.map iv) := HR.out.ld.grown hW2 (Nat.le_refl _) (fun g hg => by cases hg)
      have hf2 : Lies W2 w.heap.size 1 Af nf (r.ev.from_.map iv) := HR.out.lf.grown hW2 (Nat.le_refl _) (fun g hg => by cases hg)
      have CA := Lib.hid (appendP_any none 0 0 w.heap.size [] r Ad nd cd Af nf cf seq W2 Lies.nil (Nat.le_refl _) (by omega) HOK.out HS.out hd2 hf2 hW2.size w.heap.size hW2.size)
      unfold recV at CA
      go_wp2_with fail
      refine CA.out.mono ?_
      rintro e w3 ⟨v3, rfl, hown3, hg3, hat3⟩
      rw [List.nil_append, ← HL.out] at hown3
      obtain ⟨A3, c3, hv3, hnc3, hcm3, hl3, ho3⟩ := own_slice hown3
      subst hv3
      unfold maxLen at hcm3
      have HL3 := Lib.hid hl3
      have HO3 := Lib.hid ho3
      have hW3 : w.grownBy w3 none := grownBy_trans hW2 hg3 (.inl rfl)
      clear f0 f1 f2 f3 f4 f5 f6 f7
      have B3 := Lib.hid ((HB0.out.grown hg1 (fun e => nomatch e)).grown hg3 (fun e => nomatch e))
      obtain ⟨f0, f1, f2, f3, f4, f5, f6, f7⟩ := cells8 B3.out
      clear hown3 hg3 hat3 hl3 ho3 hg1 hd2 hf2 hA2
      go_upto_region 6 with fail
      have HGP : Hid (getRec (putRec r seq ++ xs) r.ev.thread seq = (r, L, 0)) := Lib.hid (by rw [getRec_put HOK.out seq xs, ← HL.out])
      have bw3 : w.heap.size ≤ w3.heap.size := hW3.size
      have A3x := Lib.hid (fun (W : World) (hg : w3.grownBy W none) => HL3.out.grown hg (Nat.le_refl _) (fun g hg => nomatch hg))
      have AMx := Lib.hid (fun (W : World) (hg : w3.grownBy W none) => h.grown (grownBy_trans hW3 hg (.inl rfl)) (Nat.le_refl _) (fun g hg => nomatch hg))
      have CRD := Lib.hid (fun (W : World) (A6 : Option Addr) (n6 c6 B : Nat) (hl : Lies W B 1 A6 n6 ((putRec r seq ++ xs).map bv)) (hB : B ≤ W.heap.size) (hnc : n6 ≤ c6) (ho : A6 = none → c6 = 0) (hn : n6 ≤ 1000000000) =>
        readP_parts A6 n6 c6 B (putRec r seq ++ xs) r.ev.thread seq W hl hB hnc ho hn HGP.out)
      unfold recV at CRD
      go_cut [10, 11, 12] (fun v10 v11 v12 wx => v11 = .int .i64 (L : Int) ∧ v12 = .int .i64 0 ∧ CutR w3 r v10 wx)
      case first =>
        go_region_held3 (fun w' => w'.cell? ⟨w.heap.size, 1, none⟩ = some (.int .i64 r.ev.thread) ∧ w3.grownBy w' none)
          ((with_reducible (refine rs_of f1 ?_; first
            | assumption
            | (apply grown_toDrew; apply World.grownBy.refl; done)
            | (apply grown_toDrew; apply World.grownBy_alloc; done)
            | (apply grown_toDrew; apply grownAl; apply World.grownBy_alloc; done)
            | (apply grownAl; assumption)
            | exact (stores8 HQ6 hG6 HQL _ _ _ _ _ _ _ _).2.1
            | fail)))
          (first
            | ((refine step_join (o := ⟨some 32, _, _, _, _, _⟩) _ (by rfl) (.tmp 30) (.tmp 31) _ (by rfl) w.heap.size 5 i0 (.int .u8 0) 1 1 Try.underlying27 HI.out HZ0.out HZ1.out HZ2.out (by rfl) hz _ 0 [] (by rfl) (by first | exact (ownsRow_empty w3 _ _ _ (by first | omega | (simp; done) | (simp; omega))).drew | exact ((ownsRow_empty w3 _ _ _ (by first | omega | (simp; done) | (simp; omega))).alloc _).drew | exact World.ownsRow.drew (empty_at (w3.alloc _) (w3.heap.size + 1) (World.size_alloc _ _) _ _ _ (Nat.le_trans bw3 (World.grownBy_alloc w3 _ none).size))) w3.heap.size A3 L c3 ((putRec r seq).map bv) (by rfl) (A3x.out _ (by first | exact grown_toDrew (World.grownBy_alloc w3 _ none) | exact grown_toDrew (grownBy_trans (World.grownBy_alloc w3 _ none) (World.grownBy_alloc _ _ none) (.inl rfl)))) HO3.out (bv_one _) (by unfold maxLen; omega) (by omega) (by first | omega | (simp; done) | (simp; omega)) ?_; intro v4 w4 hown4 hg4 hat4; rw [Nat.zero_add, List.nil_append] at hown4; have hG4 : w3.grownBy w4 none := grownBy_trans (by first | exact grown_toDrew (World.grownBy_alloc w3 _ none) | exact grown_toDrew (grownBy_trans (World.grownBy_alloc w3 _ none) (World.grownBy_alloc _ _ none) (.inl rfl))) hg4 (.inr ⟨_, rfl, (by first | omega | (simp; done) | (simp; omega))⟩); have hb4 : w.heap.size ≤ w4.heap.size := Nat.le_trans bw3 hG4.size; have hat4' : At w3 none v4.ownBlock := At.ofHead (w4 := w4) hat4 (by first | omega | (simp; done) | (simp; omega)) (by first | omega | (simp; done) | (simp; omega)); (first | (have HQ : Held w4 w3.heap.size 26 #[.int .i64 0, .int .i64 0, .int .i64 0, .int .i64 0, .int .i64 0, .int .i64 0, .slice none 0 0, .slice none 0 0] := (((Held.new w3 _ _).alloc _).drew).grown hg4 (fun e => by have e2 : w3.heap.size = w3.heap.size + 1 := Option.some.inj e; omega); have HQL := Nat.le_refl w3.heap.size; have HNQ := at_ne (gq := w3.heap.size) hat4 (by first | omega | (simp; done) | (simp; omega)) (by first | omega | (simp; done) | (simp; omega))) | (have HQ : Held w4 (w3.heap.size + 1) 26 #[.int .i64 0, .int .i64 0, .int .i64 0, .int .i64 0, .int .i64 0, .int .i64 0, .slice none 0 0, .slice none 0 0] := ((newAt (w3.alloc _) _ (by simp) _ _).drew).grown hg4 (fun e => by have e2 : w3.heap.size + 1 = w3.heap.size := Option.some.inj e; omega); have HQL := Nat.le_succ w3.heap.size; have HNQ := at_ne (gq := w3.heap.size + 1) hat4 (by first | omega | (simp; done) | (simp; omega)) (by first | omega | (simp; done) | (simp; omega))) | skip); obtain ⟨A4, c4, hv4, _⟩ := own_slice hown4; subst hv4))
            | ((refine step_join (o := ⟨some 34, _, _, _, _, _⟩) _ (by rfl) (.tmp 32) (.tmp 33) _ (by rfl) w.heap.size 5 i0 (.int .u8 0) 1 1 Try.underlying27 HI.out HZ0.out HZ1.out HZ2.out (by rfl) hz _ L ((putRec r seq).map bv) (by rfl) (by first | exact hown4 | exact hown4.alloc _) w.heap.size A n c (xs.map bv) (by rfl) (AMx.out _ (by first | exact hG4 | exact grownBy_trans hG4 (World.grownBy_alloc _ _ none) (.inl rfl))) HO.out (bv_one _) (by unfold maxLen; omega) (by omega) (by first | omega | (simp; done) | (simp; omega)) ?_; intro v5 w5 hown5 hg5 hat5; have hG5 : w3.grownBy w5 none := grownBy_trans (by first | exact hG4 | exact grownBy_trans hG4 (World.grownBy_alloc _ _ none) (.inl rfl)) hg5 hat4'; rw [← List.map_append] at hown5; (first | (have HQ5 := HQ.grown hg5 (fun e => HNQ e.symm)) | (have HQ5 : Held w5 w4.heap.size 26 #[.int .i64 0, .int .i64 0, .int .i64 0, .int .i64 0, .int .i64 0, .int .i64 0, .slice none 0 0, .slice none 0 0] := (Held.new w4 _ _).grown hg5 (fun e => by have := (hown4.lt _ e.symm).2; omega); have HQL := hG4.size) | skip); obtain ⟨A5, c5, hv5, hnc5, hcm5, hl5, ho5⟩ := own_slice hown5; subst hv5))
            | (go_at_call 12; refine (CRD.out _ A5 (L + n) c5 w5.heap.size (by first | exact hl5 | exact hl5.allocAny _) (by first | omega | (simp; done) | (simp; omega)) hnc5 ho5 (by omega)).mono ?_; rintro e w6 ⟨Ad1, cd1, Af1, cf1, rfl, hd6, hf6, hg6⟩; have hG6 : w3.grownBy w6 none := grownBy_trans (by first | exact hG5 | exact grownBy_trans hG5 (World.grownBy_alloc _ _ none) (.inl rfl)) hg6 (.inl rfl); (first | (have HQ6 := HQ5.grown hg6 (fun e => nomatch e); have HLT := HQ5.lt) | (have HQ6 : Held w6 w5.heap.size 26 #[.int .i64 0, .int .i64 0, .int .i64 0, .int .i64 0, .int .i64 0, .int .i64 0, .slice none 0 0, .slice none 0 0] := (Held.new w5 _ _).grown hg6 (fun e => nomatch e); have HQL := hG5.size; have HLT : w5.heap.size < (w5.alloc (.cells #[.int .i64 0, .int .i64 0, .int .i64 0, .int .i64 0, .int .i64 0, .int .i64 0, .slice none 0 0, .slice none 0 0] 26)).heap.size := by simp) | skip); (first | (obtain ⟨q0, q1, q2, q3, q4, q5, q6, q7⟩ := cellsZ HQ6; have y0 := HQ6.free 0; have y1 := HQ6.free 1; have y2 := HQ6.free 2; have y3 := HQ6.free 3; have y4 := HQ6.free 4; have y5 := HQ6.free 5; have y6 := HQ6.free 6; have y7 := HQ6.free 7) | skip))
            | fail)
        all_goals
          go_wp2_with fail
          go_meet
          refine ⟨rfl, rfl, ?_⟩
          with_reducible (first | (apply cutR_new hG6 hd6 hf6; done) | (apply cutR_store HQ6 hG6 HQL HLT hd6 hf6; done))
      case rest =>
        obtain ⟨rfl, rfl, hGx, gq, Ad1, cd1, Af1, cf1, rfl, hq, hHq, hLd, hLf⟩ := hcut
        have hWc : w.grownBy wc none := grownBy_trans hW3 hGx (.inl rfl)
        have HBR := Lib.hid (B3.out.grown hGx (fun e => nomatch e))
        clear f0 f1 f2 f3 f4 f5 f6 f7
        obtain ⟨e0, e1, e2, e3, e4, e5, e6, e7⟩ := cells8 hHq
        obtain ⟨f0, f1, f2, f3, f4, f5, f6, f7⟩ := cells8 HBR.out
        have hdl := HOK.out.ld
        have hfl := HOK.out.lf
        have CE := Lib.hid (sameEvent_yes r.ev Ad1 _ cd1 Af1 _ cf1 Ad nd cd Af nf cf wc wc.heap.size hLd hLf ((HR.out.ld.grown hWc (Nat.le_refl _) (fun g hg => nomatch hg)).more hWc.size) ((HR.out.lf.grown hWc (Nat.le_refl _) (fun g hg => nomatch hg)).more hWc.size) (by omega) (by omega))
        have LK := Lib.hid (fun (W : World) (hg : w3.grownBy W none) => ((A3x.out W hg).take (m := K) (by omega)))
        have HGC := Lib.hid (getRec_cut HOK.out r.ev.thread seq (k := K) (by rw [← HL.out]; exact hKL))
        have hKc : K ≤ c3 := by omega
        have CR2 := Lib.hid (fun (W : World) (hg : w3.grownBy W none) => readP_parts A3 K c3 w3.heap.size ((putRec r seq).take K) r.ev.thread seq W (by have := LK.out W hg; rwa [Nat.mul_one, ← List.map_take] at this) hg.size hKc HO3.out (by omega) HGC.out)
        have HHQ := Lib.hid hHq
        clear hHq hLd hLf hdl hfl
        unfold recV evV at *
        go_upto_region 9 with (first | (go_at_call 13; refine CE.out.mono ?_; rintro e w8 ⟨rfl, g8⟩))
        have hG8 : w3.grownBy w8 none := grownBy_trans hGx g8 (.inl rfl)
        have bel8 : Below w.heap.size w w8 := belGr (belGr (Below.refl _ _) hWc) g8
        have b1 : w8.cell? ⟨w.heap.size, 1, none⟩ = some (.int .i64 r.ev.thread) := World.grownBy.cell g8 f1 (by simp)
        clear e0 e1 e2 e3 e4 e5 e6 e7 f0 f1 f2 f3 f4 f5 f6 f7
        have hkt : cut.tmod (L : Int) = (K : Int) := by rw [Int.tmod_eq_emod_of_nonneg hc0]; exact hkk
        have hL0 : ¬ L = 0 := by omega
        have hwc : IntKind.i64.wrap cut = cut := IntWalk.i64_in _ (by omega)
        have hwk : IntKind.i64.wrap (K : Int) = (K : Int) := IntWalk.i64_in _ (by omega)
        have j0 : (0 : Int) ≤ (K : Int) := by omega
        have j1 : (K : Int) ≤ (c3 : Int) := by omega
        have j2 : (K : Int) ≤ (L : Int) := by omega
        go_region_held3 (fun w' => w'.cell? ⟨w.heap.size, 1, none⟩ = some (.int .i64 r.ev.thread) ∧ w8.grownBy w' none)
          ((with_reducible (refine rs_of b1 ?_; first
            | assumption
            | (apply grown_toDrew; apply World.grownBy.refl; done)
            | (apply grown_toDrew; apply World.grownBy_alloc; done)
            | (apply grownAl; assumption)
            | exact (stores8 HQ9 hG9 (Nat.le_refl _) _ _ _ _ _ _ _ _).2.1
            | fail)))
          (first
            | (go_at_call 12; refine (CR2.out _ (by first | exact grown_toDrew hG8 | exact grown_toDrew (grownAl hG8 _))).mono ?_; rintro e w9 ⟨Ad2, cd2, Af2, cf2, rfl, hd9, hf9, hg9⟩; have hG9 : w8.grownBy w9 none := grownBy_trans (by first | exact grown_toDrew (World.grownBy.refl w8 none) | exact grown_toDrew (World.grownBy_alloc w8 _ none)) hg9 (.inl rfl); (first | (have HQ9 : Held w9 w8.heap.size 26 #[.int .i64 0, .int .i64 0, .int .i64 0, .int .i64 0, .int .i64 0, .int .i64 0, .slice none 0 0, .slice none 0 0] := ((Held.new w8 _ _).drew).grown hg9 (fun e => nomatch e); obtain ⟨q0, q1, q2, q3, q4, q5, q6, q7⟩ := cellsZ HQ9; have y0 := HQ9.free 0; have y1 := HQ9.free 1; have y2 := HQ9.free 2; have y3 := HQ9.free 3; have y4 := HQ9.free 4; have y5 := HQ9.free 5; have y6 := HQ9.free 6; have y7 := HQ9.free 7) | skip))
            | fail)
        all_goals
          go_wp2_with fail
          go_ret
          refine ⟨rfl, ?_⟩
          with_reducible (first | (apply belGr bel8; apply grownAl hG9; done) | (apply belGr bel8; exact (stores8 HQ9 hG9 (Nat.le_refl _) _ _ _ _ _ _ _ _).2.1))
end Go.Proofs.Ytlofjhcjjcohfaa
