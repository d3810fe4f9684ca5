/- The walk of Read (chapter 11): getRec. -/
import Derived.Test.YtaiaoiochbpmfaaGreatRdl
import Derived.Test.YtaiaoiochbpmfaaGreatAppR
namespace Go.Proofs.YtaiaoiochbpmfaaGreat
open Go Go.RowKit Iv
set_option linter.unusedVariables false
structure RdInv (w : World) (tR : TypeId) (A : Option Addr) (n c : Nat) (wk : World) (s : Rd) (cs : Array Value) : Prop where
  res : Held wk w.heap.size 71 #[.int .i64 0, .int .i64 0, .int .i64 0, .int .i64 0, .int .i64 0, .int .i64 0, .slice none 0 0, .slice none 0 0]
  rd : Held wk (w.heap.size + 1) tR (rdCells A n c s)
  rcd : Held wk (w.heap.size + 1 + 1) 71 cs
  grown : w.grownBy wk none
def rcC (a b c d e f : Int) (v u : Value) : Array Value := #[.int .i64 a, .int .i64 b, .int .i64 c, .int .i64 d, .int .i64 e, .int .i64 f, v, u]
theorem newAt (w : World) (N : Nat) (hN : w.heap.size = N) (t : TypeId) (cs : Array Value) : Held (w.alloc (.cells cs t)) N t cs := hN ▸ Held.new w t cs
theorem RdInv.next {w : World} {tR : TypeId} {A : Option Addr} {n c : Nat} {wk w' : World} {s s' : Rd} {cs : Array Value} (h : RdInv w tR A n c wk s cs)
    (h1 : Held w' (w.heap.size + 1) tR (rdCells A n c s')) (h2 : wk.grownBy w' (some (w.heap.size + 1))) : RdInv w tR A n c w' s' cs := by
  refine ⟨h.res.grown h2 (fun e => by injection e with e; omega), h1, h.rcd.grown h2 (fun e => by injection e with e; omega), ?_⟩
  exact grownBy_trans h.grown h2 (.inr ⟨_, rfl, Nat.le_succ _⟩)
theorem RdInv.put {w : World} {tR : TypeId} {A : Option Addr} {n c : Nat} {wk : World} {s : Rd} {cs : Array Value} (h : RdInv w tR A n c wk s cs) (i : Nat) (u : Value) :
    RdInv w tR A n c (wk.setCell ⟨w.heap.size + 1 + 1, i, none⟩ u) s (cs.setIfInBounds i u) := by
  refine ⟨h.res.far (by simp only []; omega) u, h.rd.far (by simp only []; omega) u, h.rcd.store i u, ?_⟩
  exact grownBy_trans h.grown (grown_store wk _ i u) (.inr ⟨_, rfl, by omega⟩)
theorem stores8 {w W : World} {g : Nat} {T : TypeId} {c0 c1 c2 c3 c4 c5 c6 c7 : Value} (h : Held W g T #[c0, c1, c2, c3, c4, c5, c6, c7]) (hg : w.grownBy W none) (hl : w.heap.size ≤ g) (u0 u1 u2 u3 u4 u5 u6 u7 : Value) :
    Held (((((((((W.setCell ⟨g, 0, none⟩ u0).setCell ⟨g, 1, none⟩ u1).setCell ⟨g, 2, none⟩ u2).setCell ⟨g, 3, none⟩ u3).setCell ⟨g, 4, none⟩ u4).setCell ⟨g, 5, none⟩ u5).setCell ⟨g, 6, none⟩ u6).setCell ⟨g, 7, none⟩ u7)) g T #[u0, u1, u2, u3, u4, u5, u6, u7] ∧ w.grownBy (((((((((W.setCell ⟨g, 0, none⟩ u0).setCell ⟨g, 1, none⟩ u1).setCell ⟨g, 2, none⟩ u2).setCell ⟨g, 3, none⟩ u3).setCell ⟨g, 4, none⟩ u4).setCell ⟨g, 5, none⟩ u5).setCell ⟨g, 6, none⟩ u6).setCell ⟨g, 7, none⟩ u7)) none ∧ W.grownBy (((((((((W.setCell ⟨g, 0, none⟩ u0).setCell ⟨g, 1, none⟩ u1).setCell ⟨g, 2, none⟩ u2).setCell ⟨g, 3, none⟩ u3).setCell ⟨g, 4, none⟩ u4).setCell ⟨g, 5, none⟩ u5).setCell ⟨g, 6, none⟩ u6).setCell ⟨g, 7, none⟩ u7)) (some g) := by
  have h1 : Held (W.setCell ⟨g, 0, none⟩ u0) g T #[u0, c1, c2, c3, c4, c5, c6, c7] := h.store 0 u0
  have h2 : Held ((W.setCell ⟨g, 0, none⟩ u0).setCell ⟨g, 1, none⟩ u1) g T #[u0, u1, c2, c3, c4, c5, c6, c7] := h1.store 1 u1
  have h3 : Held (((W.setCell ⟨g, 0, none⟩ u0).setCell ⟨g, 1, none⟩ u1).setCell ⟨g, 2, none⟩ u2) g T #[u0, u1, u2, c3, c4, c5, c6, c7] := h2.store 2 u2
  have h4 : Held ((((W.setCell ⟨g, 0, none⟩ u0).setCell ⟨g, 1, none⟩ u1).setCell ⟨g, 2, none⟩ u2).setCell ⟨g, 3, none⟩ u3) g T #[u0, u1, u2, u3, c4, c5, c6, c7] := h3.store 3 u3
  have h5 : Held (((((W.setCell ⟨g, 0, none⟩ u0).setCell ⟨g, 1, none⟩ u1).setCell ⟨g, 2, none⟩ u2).setCell ⟨g, 3, none⟩ u3).setCell ⟨g, 4, none⟩ u4) g T #[u0, u1, u2, u3, u4, c5, c6, c7] := h4.store 4 u4
  have h6 : Held ((((((W.setCell ⟨g, 0, none⟩ u0).setCell ⟨g, 1, none⟩ u1).setCell ⟨g, 2, none⟩ u2).setCell ⟨g, 3, none⟩ u3).setCell ⟨g, 4, none⟩ u4).setCell ⟨g, 5, none⟩ u5) g T #[u0, u1, u2, u3, u4, u5, c6, c7] := h5.store 5 u5
  have h7 : Held (((((((W.setCell ⟨g, 0, none⟩ u0).setCell ⟨g, 1, none⟩ u1).setCell ⟨g, 2, none⟩ u2).setCell ⟨g, 3, none⟩ u3).setCell ⟨g, 4, none⟩ u4).setCell ⟨g, 5, none⟩ u5).setCell ⟨g, 6, none⟩ u6) g T #[u0, u1, u2, u3, u4, u5, u6, c7] := h6.store 6 u6
  have h8 : Held ((((((((W.setCell ⟨g, 0, none⟩ u0).setCell ⟨g, 1, none⟩ u1).setCell ⟨g, 2, none⟩ u2).setCell ⟨g, 3, none⟩ u3).setCell ⟨g, 4, none⟩ u4).setCell ⟨g, 5, none⟩ u5).setCell ⟨g, 6, none⟩ u6).setCell ⟨g, 7, none⟩ u7) g T #[u0, u1, u2, u3, u4, u5, u6, u7] := h7.store 7 u7
  refine ⟨h8, ?_, ?_⟩
  · exact grownBy_trans (grownBy_trans (grownBy_trans (grownBy_trans (grownBy_trans (grownBy_trans (grownBy_trans (grownBy_trans (hg) (grown_store _ g 0 _) (.inr ⟨g, rfl, hl⟩)) (grown_store _ g 1 _) (.inr ⟨g, rfl, hl⟩)) (grown_store _ g 2 _) (.inr ⟨g, rfl, hl⟩)) (grown_store _ g 3 _) (.inr ⟨g, rfl, hl⟩)) (grown_store _ g 4 _) (.inr ⟨g, rfl, hl⟩)) (grown_store _ g 5 _) (.inr ⟨g, rfl, hl⟩)) (grown_store _ g 6 _) (.inr ⟨g, rfl, hl⟩)) (grown_store _ g 7 _) (.inr ⟨g, rfl, hl⟩)
  · exact grown_then (grown_then (grown_then (grown_then (grown_then (grown_then (grown_then (grown_store W g 0 _) (grown_store _ g 1 _)) (grown_store _ g 2 _)) (grown_store _ g 3 _)) (grown_store _ g 4 _)) (grown_store _ g 5 _)) (grown_store _ g 6 _)) (grown_store _ g 7 _)
theorem rdItems_at (b : Bytes) (n : Nat) : ∀ (last : Int) (s : Rd), s.at_ ≤ b.length → (rdItems b n last s).2.at_ ≤ b.length := by
  induction n with
  | zero => intro last s h; exact h
  | succ n ih =>
    intro last s h
    rw [rdItems]
    split
    · exact ih _ _ (rdNum_at h).1
    · exact h
theorem rdList_at {b : Bytes} {s : Rd} (h : s.at_ ≤ b.length) : (rdList b s).2.at_ ≤ b.length := by
  unfold rdList
  refine rdItems_at b _ _ _ ?_
  unfold rdCheck
  split
  · exact (rdNum_at h).1
  · exact (rdNum_at h).1
set_option maxRecDepth 100000 in
set_option maxHeartbeats 3200000 in
theorem readP_any (A : Option Addr) (n c B : Nat) (xs : Bytes) (thread seq : Int) (w : World) (h : Lies w B 1 A n (xs.map bv)) (hB : B ≤ w.heap.size) (hnc : n ≤ c) (ho : A = none → c = 0) (hn : n ≤ 1000000000) :
    Calls Tryz.prog 66 #[.slice A n c, .int .i64 thread, .int .i64 seq] w fun e w' => ∃ (r : Rec) (vd vf : Value), r = (getRec xs thread seq).1 ∧
      e = .returned (.tuple #[.agg #[.int .i64 r.seq, .int .i64 r.ev.thread, .int .i64 r.ev.kind, .int .i64 r.ev.obj, .int .i64 r.ev.value, .int .i64 r.ev.site, vd, vf], .int .i64 ((getRec xs thread seq).2.1 : Int), .int .i64 (getRec xs thread seq).2.2]) ∧
      w'.ownsRow w.heap.size 3 1 vd r.ev.deps.length (r.ev.deps.map iv) ∧ w'.ownsRow w.heap.size 3 1 vf r.ev.from_.length (r.ev.from_.map iv) ∧ w.grownBy w' none := by
  have hl : xs.length = n := h.lenB
  have H := Lib.hid h
  clear h
  obtain ⟨W, hW⟩ : ∃ W, W = ((w.alloc (.cells #[.int .i64 0, .int .i64 0, .int .i64 0, .int .i64 0, .int .i64 0, .int .i64 0, .slice none 0 0, .slice none 0 0] 71)).alloc (.cells (rdCells A n c ⟨0, 0⟩) 195)).alloc (.cells #[.int .i64 0, .int .i64 0, .int .i64 0, .int .i64 0, .int .i64 0, .int .i64 0, .slice none 0 0, .slice none 0 0] 71) := ⟨_, rfl⟩
  have HW := Lib.hid hW
  go_enter Tryz.func66, Tryz.ntmps66
  go_wp2_with fail
  have I0 : RdInv w 195 A n c W ⟨0, 0⟩ #[.int .i64 0, .int .i64 0, .int .i64 0, .int .i64 0, .int .i64 0, .int .i64 0, .slice none 0 0, .slice none 0 0] := by
    rw [hW]
    refine ⟨((Held.new w _ _).alloc _).alloc _, ?_, ?_, ?_⟩
    · exact (newAt (w.alloc _) _ (by simp) _ _).alloc _
    · exact newAt ((w.alloc _).alloc _) _ (by simp) _ _
    · exact grownBy_trans (grownBy_trans (World.grownBy_alloc w _ none) (World.grownBy_alloc _ _ none) (.inl rfl)) (World.grownBy_alloc _ _ none) (.inl rfl)
  clear hW
  have hs0 : (⟨0, 0⟩ : Rd).at_ ≤ n := Nat.zero_le _
  rw [show ((w.alloc (.cells #[.int .i64 0, .int .i64 0, .int .i64 0, .int .i64 0, .int .i64 0, .int .i64 0, .slice none 0 0, .slice none 0 0] 71)).alloc (.cells #[.slice A n c, .int .i64 0, .int .i64 0] 195)).alloc (.cells #[.int .i64 0, .int .i64 0, .int .i64 0, .int .i64 0, .int .i64 0, .int .i64 0, .slice none 0 0, .slice none 0 0] 71) = W from HW.out.symm]
  obtain ⟨x0, t0, hp0⟩ : ∃ x t, rdNum xs ⟨0, 0⟩ = (x, t) := ⟨_, _, rfl⟩
  have hs1 : t0.at_ ≤ n := by have := (rdNum_at (b := xs) (s := ⟨0, 0⟩) (Nat.zero_le _)).1; rw [hp0] at this; exact Nat.le_trans this (Nat.le_of_eq hl)
  refine (numberP_any (w.heap.size + 1) A n c B xs ⟨0, 0⟩ W I0.rd (H.out.grown I0.grown hB (fun _ e => nomatch e)) hnc ho hn hs0).mono ?_
  rintro e w1 ⟨rfl, h1, g1⟩
  rw [hp0] at h1 ⊢
  have I1 := I0.next h1 g1
  clear h1 g1 I0
  have z0 := I1.rcd.free 0
  have z1 := I1.rcd.free 1
  have k0 := I1.rcd.cell 0
  have k1 := I1.rcd.cell 1
  go_wp2_with fail
  have J1 : RdInv w 195 A n c _ t0 (rcC (wrap64 (seq + x0)) thread 0 0 0 0 (.slice none 0 0) (.slice none 0 0)) := (I1.put 0 (.int .i64 (wrap64 (seq + x0)))).put 1 (.int .i64 thread)
  clear z0 z1 k0 k1 I1
  obtain ⟨x1, t1, hp1⟩ : ∃ x t, rdNum xs t0 = (x, t) := ⟨_, _, rfl⟩
  have hs2 : t1.at_ ≤ n := by have := (rdNum_at (b := xs) (s := t0) (by omega)).1; rw [hp1] at this; exact Nat.le_trans this (Nat.le_of_eq hl)
  refine (numberP_any (w.heap.size + 1) A n c B xs t0 _ J1.rd (H.out.grown J1.grown hB (fun _ e => nomatch e)) hnc ho hn hs1).mono ?_
  rintro e w2 ⟨rfl, h1, g1⟩
  rw [hp1] at h1 ⊢
  have I2 := J1.next h1 g1
  clear h1 g1 J1
  have z0 := I2.rcd.free 2
  have k0 := I2.rcd.cell 2
  go_wp2_with fail
  have J2 : RdInv w 195 A n c _ t1 (rcC (wrap64 (seq + x0)) thread x1 0 0 0 (.slice none 0 0) (.slice none 0 0)) := I2.put 2 (.int .i64 x1)
  clear z0 k0 I2
  obtain ⟨x2, t2, hp2⟩ : ∃ x t, rdNum xs t1 = (x, t) := ⟨_, _, rfl⟩
  have hs3 : t2.at_ ≤ n := by have := (rdNum_at (b := xs) (s := t1) (by omega)).1; rw [hp2] at this; exact Nat.le_trans this (Nat.le_of_eq hl)
  refine (numberP_any (w.heap.size + 1) A n c B xs t1 _ J2.rd (H.out.grown J2.grown hB (fun _ e => nomatch e)) hnc ho hn hs2).mono ?_
  rintro e w3 ⟨rfl, h1, g1⟩
  rw [hp2] at h1 ⊢
  have I3 := J2.next h1 g1
  clear h1 g1 J2
  have z0 := I3.rcd.free 3
  have k0 := I3.rcd.cell 3
  go_wp2_with fail
  have J3 : RdInv w 195 A n c _ t2 (rcC (wrap64 (seq + x0)) thread x1 x2 0 0 (.slice none 0 0) (.slice none 0 0)) := I3.put 3 (.int .i64 x2)
  clear z0 k0 I3
  obtain ⟨x3, t3, hp3⟩ : ∃ x t, rdNum xs t2 = (x, t) := ⟨_, _, rfl⟩
  have hs4 : t3.at_ ≤ n := by have := (rdNum_at (b := xs) (s := t2) (by omega)).1; rw [hp3] at this; exact Nat.le_trans this (Nat.le_of_eq hl)
  refine (numberP_any (w.heap.size + 1) A n c B xs t2 _ J3.rd (H.out.grown J3.grown hB (fun _ e => nomatch e)) hnc ho hn hs3).mono ?_
  rintro e w4 ⟨rfl, h1, g1⟩
  rw [hp3] at h1 ⊢
  have I4 := J3.next h1 g1
  clear h1 g1 J3
  have z0 := I4.rcd.free 4
  have k0 := I4.rcd.cell 4
  go_wp2_with fail
  have J4 : RdInv w 195 A n c _ t3 (rcC (wrap64 (seq + x0)) thread x1 x2 x3 0 (.slice none 0 0) (.slice none 0 0)) := I4.put 4 (.int .i64 x3)
  clear z0 k0 I4
  obtain ⟨x4, t4, hp4⟩ : ∃ x t, rdNum xs t3 = (x, t) := ⟨_, _, rfl⟩
  have hs5 : t4.at_ ≤ n := by have := (rdNum_at (b := xs) (s := t3) (by omega)).1; rw [hp4] at this; exact Nat.le_trans this (Nat.le_of_eq hl)
  refine (numberP_any (w.heap.size + 1) A n c B xs t3 _ J4.rd (H.out.grown J4.grown hB (fun _ e => nomatch e)) hnc ho hn hs4).mono ?_
  rintro e w5 ⟨rfl, h1, g1⟩
  rw [hp4] at h1 ⊢
  have I5 := J4.next h1 g1
  clear h1 g1 J4
  have z0 := I5.rcd.free 5
  have k0 := I5.rcd.cell 5
  go_wp2_with fail
  have J5 : RdInv w 195 A n c _ t4 (rcC (wrap64 (seq + x0)) thread x1 x2 x3 x4 (.slice none 0 0) (.slice none 0 0)) := I5.put 5 (.int .i64 x4)
  clear z0 k0 I5
  have hsz5 : w.heap.size + 1 + 1 < w5.heap.size := by have := J5.rcd.lt; simpa using this
  obtain ⟨l5, t5, hp5⟩ : ∃ x t, rdList xs t4 = (x, t) := ⟨_, _, rfl⟩
  have hs6 : t5.at_ ≤ n := by have := rdList_at (b := xs) (s := t4) (by omega); rw [hp5] at this; exact Nat.le_trans this (Nat.le_of_eq hl)
  refine (listP_any (w.heap.size + 1) A n c B xs t4 _ J5.rd (H.out.grown J5.grown hB (fun _ e => nomatch e)) (by omega) hnc ho hn hs5 w.heap.size (by simp; omega)).mono ?_
  rintro e w6 ⟨vd, rfl, hod, h1, g1, hatd⟩
  rw [hp5] at h1 hod
  obtain ⟨Ad, cd, hvd, _, _, _, _⟩ := own_slice hod
  have I6 := J5.next h1 g1
  clear h1 g1 J5
  have hned : vd.ownBlock ≠ some (w.heap.size + 1) ∧ vd.ownBlock ≠ some (w.heap.size + 1 + 1) := by
    rcases hatd with h0 | ⟨b0, h1, h2⟩
    · rw [h0]; exact ⟨fun h => (nomatch h), fun h => (nomatch h)⟩
    · have h2' : w5.heap.size ≤ b0 := by simpa using h2
      rw [h1]; exact ⟨fun h => (by injection h with h; omega), fun h => (by injection h with h; omega)⟩
  have hne0 : vd.ownBlock ≠ some w.heap.size := by
    rcases hatd with h0 | ⟨b0, h1, h2⟩
    · rw [h0]; exact fun h => (nomatch h)
    · have h2' : w5.heap.size ≤ b0 := by simpa using h2
      rw [h1]; exact fun h => (by injection h with h; omega)
  have HNE0 := Lib.hid hne0
  have hod2 := own_far hod (grown_store w6 (w.heap.size + 1 + 1) 6 vd) hned.2
  have J6 : RdInv w 195 A n c _ t5 (rcC (wrap64 (seq + x0)) thread x1 x2 x3 x4 vd (.slice none 0 0)) := I6.put 6 vd
  have HOD := Lib.hid hod2
  have HNED := Lib.hid hned
  clear hod hatd hned hod2 hne0
  subst hvd
  have z0 := I6.rcd.free 6
  have k0 := I6.rcd.cell 6
  go_wp2_with fail
  clear z0 k0
  have hsz6 : w.heap.size + 1 + 1 < w6.heap.size := I6.rcd.lt
  clear I6
  obtain ⟨l6, t6, hp6⟩ : ∃ x t, rdList xs t5 = (x, t) := ⟨_, _, rfl⟩
  refine (listP_any (w.heap.size + 1) A n c B xs t5 _ J6.rd (H.out.grown J6.grown hB (fun _ e => nomatch e)) (by omega) hnc ho hn hs6 w.heap.size (by simp; omega)).mono ?_
  rintro e w7 ⟨vf, rfl, hof, h1, g1, hatf⟩
  rw [hp6] at h1 hof
  obtain ⟨Af, cf, hvf, _, _, _, _⟩ := own_slice hof
  have I7 := J6.next h1 g1
  have hod3 := own_far HOD.out g1 HNED.out.1
  clear h1 g1 J6
  have hnef : vf.ownBlock ≠ some w.heap.size ∧ vf.ownBlock ≠ some (w.heap.size + 1 + 1) := by
    rcases hatf with h0 | ⟨b0, h1, h2⟩
    · rw [h0]; exact ⟨fun h => (nomatch h), fun h => (nomatch h)⟩
    · have h2' : w6.heap.size ≤ b0 := by simpa using h2
      rw [h1]; exact ⟨fun h => (by injection h with h; omega), fun h => (by injection h with h; omega)⟩
  have HOF := Lib.hid (own_far hof (grown_store w7 (w.heap.size + 1 + 1) 7 vf) hnef.2)
  have HOD3 := Lib.hid (own_far hod3 (grown_store w7 (w.heap.size + 1 + 1) 7 vf) HNED.out.2)
  have J7 : RdInv w 195 A n c _ t6 (rcC (wrap64 (seq + x0)) thread x1 x2 x3 x4 (.slice Ad l5.length cd) vf) := I7.put 7 vf
  have HNEF := Lib.hid hnef.1
  clear hof hod3 hatf hnef
  subst hvf
  have z0 := I7.rcd.free 7
  have k0 := I7.rcd.cell 7
  have e1 : w7.cell? ⟨w.heap.size + 1, 1, none⟩ = some (.int .i64 (t6.at_ : Int)) := I7.rd.cell 1
  have e2 : w7.cell? ⟨w.heap.size + 1, 2, none⟩ = some (.int .i64 t6.err) := I7.rd.cell 2
  obtain ⟨W8, hW8⟩ : ∃ W8, W8 = w7.setCell ⟨w.heap.size + 1 + 1, 7, none⟩ (.slice Af l6.length cf) := ⟨_, rfl⟩
  have J8 := J7
  rw [← hW8] at J8
  have HOF8 := HOF.out
  have HOD8 := HOD3.out
  rw [← hW8] at HOF8 HOD8
  have HX := Lib.hid (And.intro HOF8 HOD8)
  have HJ8 := Lib.hid J8
  have HW8 := Lib.hid hW8
  have c0 : W8.cell? ⟨w.heap.size + 1 + 1, 0, none⟩ = some (.int .i64 (wrap64 (seq + x0))) := J8.rcd.cell 0
  have c1 : W8.cell? ⟨w.heap.size + 1 + 1, 1, none⟩ = some (.int .i64 thread) := J8.rcd.cell 1
  have c2 : W8.cell? ⟨w.heap.size + 1 + 1, 2, none⟩ = some (.int .i64 x1) := J8.rcd.cell 2
  have c3 : W8.cell? ⟨w.heap.size + 1 + 1, 3, none⟩ = some (.int .i64 x2) := J8.rcd.cell 3
  have c4 : W8.cell? ⟨w.heap.size + 1 + 1, 4, none⟩ = some (.int .i64 x3) := J8.rcd.cell 4
  have c5 : W8.cell? ⟨w.heap.size + 1 + 1, 5, none⟩ = some (.int .i64 x4) := J8.rcd.cell 5
  have c6 : W8.cell? ⟨w.heap.size + 1 + 1, 6, none⟩ = some (.slice Ad l5.length cd) := J8.rcd.cell 6
  have c7 : W8.cell? ⟨w.heap.size + 1 + 1, 7, none⟩ = some (.slice Af l6.length cf) := J8.rcd.cell 7
  have e1' : W8.cell? ⟨w.heap.size + 1, 1, none⟩ = some (.int .i64 (t6.at_ : Int)) := J8.rd.cell 1
  have e2' : W8.cell? ⟨w.heap.size + 1, 2, none⟩ = some (.int .i64 t6.err) := J8.rd.cell 2
  have q0 : W8.cell? ⟨w.heap.size, 0, none⟩ = some (.int .i64 0) := J8.res.cell 0
  have q1 : W8.cell? ⟨w.heap.size, 1, none⟩ = some (.int .i64 0) := J8.res.cell 1
  have q2 : W8.cell? ⟨w.heap.size, 2, none⟩ = some (.int .i64 0) := J8.res.cell 2
  have q3 : W8.cell? ⟨w.heap.size, 3, none⟩ = some (.int .i64 0) := J8.res.cell 3
  have q4 : W8.cell? ⟨w.heap.size, 4, none⟩ = some (.int .i64 0) := J8.res.cell 4
  have q5 : W8.cell? ⟨w.heap.size, 5, none⟩ = some (.int .i64 0) := J8.res.cell 5
  have q6 : W8.cell? ⟨w.heap.size, 6, none⟩ = some (.slice none 0 0) := J8.res.cell 6
  have q7 : W8.cell? ⟨w.heap.size, 7, none⟩ = some (.slice none 0 0) := J8.res.cell 7
  have y0 := J8.res.free 0
  have y1 := J8.res.free 1
  have y2 := J8.res.free 2
  have y3 := J8.res.free 3
  have y4 := J8.res.free 4
  have y5 := J8.res.free 5
  have y6 := J8.res.free 6
  have y7 := J8.res.free 7
  clear J7 J8 HOF HOD3 HOF8 HOD8
  by_cases he : t6.err = 0
  · have hb : (t6.err != 0) = false := by rw [he]; rfl
    clear hW8
    go_wp2_with fail
    rw [show w7.setCell ⟨w.heap.size + 1 + 1, 7, none⟩ (.slice Af l6.length cf) = W8 from HW8.out.symm]
    clear z0 k0 e1 e2
    go_region
    all_goals (go_wp2_with fail)
    all_goals
      obtain ⟨s1, s2, s3⟩ := stores8 HJ8.out.res HJ8.out.grown (Nat.le_refl _) (.int .i64 (wrap64 (seq + x0))) (.int .i64 thread) (.int .i64 x1) (.int .i64 x2) (.int .i64 x3) (.int .i64 x4) (.slice Ad l5.length cd) (.slice Af l6.length cf)
      obtain ⟨W9, hW9⟩ : ∃ W9, W9 = ((((((((W8.setCell ⟨w.heap.size, 0, none⟩ (.int .i64 (wrap64 (seq + x0)))).setCell ⟨w.heap.size, 1, none⟩ (.int .i64 thread)).setCell ⟨w.heap.size, 2, none⟩ (.int .i64 x1)).setCell ⟨w.heap.size, 3, none⟩ (.int .i64 x2)).setCell ⟨w.heap.size, 4, none⟩ (.int .i64 x3)).setCell ⟨w.heap.size, 5, none⟩ (.int .i64 x4)).setCell ⟨w.heap.size, 6, none⟩ (.slice Ad l5.length cd)).setCell ⟨w.heap.size, 7, none⟩ (.slice Af l6.length cf)).drew := ⟨_, rfl⟩
      rw [show ((((((((W8.setCell ⟨w.heap.size, 0, none⟩ (.int .i64 (wrap64 (seq + x0)))).setCell ⟨w.heap.size, 1, none⟩ (.int .i64 thread)).setCell ⟨w.heap.size, 2, none⟩ (.int .i64 x1)).setCell ⟨w.heap.size, 3, none⟩ (.int .i64 x2)).setCell ⟨w.heap.size, 4, none⟩ (.int .i64 x3)).setCell ⟨w.heap.size, 5, none⟩ (.int .i64 x4)).setCell ⟨w.heap.size, 6, none⟩ (.slice Ad l5.length cd)).setCell ⟨w.heap.size, 7, none⟩ (.slice Af l6.length cf)).drew = W9 from hW9.symm]
      have t1 : Held W9 w.heap.size 71 #[(.int .i64 (wrap64 (seq + x0))), (.int .i64 thread), (.int .i64 x1), (.int .i64 x2), (.int .i64 x3), (.int .i64 x4), (.slice Ad l5.length cd), (.slice Af l6.length cf)] := by rw [hW9]; exact s1.drew
      have t2 : w.grownBy W9 none := by rw [hW9]; exact grown_toDrew s2
      have t3 : W8.grownBy W9 (some w.heap.size) := by rw [hW9]; exact grown_toDrew s3
      clear hW9 s1 s2 s3
      have d0 : W9.cell? ⟨w.heap.size, 0, none⟩ = some (.int .i64 (wrap64 (seq + x0))) := t1.cell 0
      have d1 : W9.cell? ⟨w.heap.size, 1, none⟩ = some (.int .i64 thread) := t1.cell 1
      have d2 : W9.cell? ⟨w.heap.size, 2, none⟩ = some (.int .i64 x1) := t1.cell 2
      have d3 : W9.cell? ⟨w.heap.size, 3, none⟩ = some (.int .i64 x2) := t1.cell 3
      have d4 : W9.cell? ⟨w.heap.size, 4, none⟩ = some (.int .i64 x3) := t1.cell 4
      have d5 : W9.cell? ⟨w.heap.size, 5, none⟩ = some (.int .i64 x4) := t1.cell 5
      have d6 : W9.cell? ⟨w.heap.size, 6, none⟩ = some (.slice Ad l5.length cd) := t1.cell 6
      have d7 : W9.cell? ⟨w.heap.size, 7, none⟩ = some (.slice Af l6.length cf) := t1.cell 7
      have HOF9 := own_far HX.out.1 t3 HNEF.out
      have HOD9 := own_far HX.out.2 t3 HNE0.out
      have hg : getRec xs thread seq = (⟨wrap64 (seq + x0), ⟨thread, x1, x2, x3, x4, l5, l6⟩⟩, t6.at_, 0) := by
        unfold getRec rdAll
        simp only [hp0, hp1, hp2, hp3, hp4, hp5, hp6]
        rw [if_pos he]
      refine bodyPost_ret (v := .tuple #[.agg #[.int .i64 (wrap64 (seq + x0)), .int .i64 thread, .int .i64 x1, .int .i64 x2, .int .i64 x3, .int .i64 x4, .slice Ad l5.length cd, .slice Af l6.length cf], .int .i64 (t6.at_ : Int), .int .i64 0]) (by simp [results, Tryz.results66, go_sem, d0, d1, d2, d3, d4, d5, d6, d7]) rfl ⟨_, .slice Ad l5.length cd, .slice Af l6.length cf, rfl, ?_, ?_, ?_, t2⟩
      · rw [hg]
      · rw [hg]; exact HOD9
      · rw [hg]; exact HOF9
  · have hb : (t6.err != 0) = true := by rw [bne_iff_ne]; exact he
    clear hW8
    go_wp2_with fail
    rw [show w7.setCell ⟨w.heap.size + 1 + 1, 7, none⟩ (.slice Af l6.length cf) = W8 from HW8.out.symm]
    clear z0 k0 e1 e2
    go_region
    all_goals (go_wp2_with fail)
    all_goals
      obtain ⟨s1, s2, s3⟩ := stores8 HJ8.out.res HJ8.out.grown (Nat.le_refl _) (.int .i64 0) (.int .i64 0) (.int .i64 0) (.int .i64 0) (.int .i64 0) (.int .i64 0) (.slice none 0 0) (.slice none 0 0)
      obtain ⟨W9, hW9⟩ : ∃ W9, W9 = ((((((((W8.setCell ⟨w.heap.size, 0, none⟩ (.int .i64 0)).setCell ⟨w.heap.size, 1, none⟩ (.int .i64 0)).setCell ⟨w.heap.size, 2, none⟩ (.int .i64 0)).setCell ⟨w.heap.size, 3, none⟩ (.int .i64 0)).setCell ⟨w.heap.size, 4, none⟩ (.int .i64 0)).setCell ⟨w.heap.size, 5, none⟩ (.int .i64 0)).setCell ⟨w.heap.size, 6, none⟩ (.slice none 0 0)).setCell ⟨w.heap.size, 7, none⟩ (.slice none 0 0)).drew := ⟨_, rfl⟩
      rw [show ((((((((W8.setCell ⟨w.heap.size, 0, none⟩ (.int .i64 0)).setCell ⟨w.heap.size, 1, none⟩ (.int .i64 0)).setCell ⟨w.heap.size, 2, none⟩ (.int .i64 0)).setCell ⟨w.heap.size, 3, none⟩ (.int .i64 0)).setCell ⟨w.heap.size, 4, none⟩ (.int .i64 0)).setCell ⟨w.heap.size, 5, none⟩ (.int .i64 0)).setCell ⟨w.heap.size, 6, none⟩ (.slice none 0 0)).setCell ⟨w.heap.size, 7, none⟩ (.slice none 0 0)).drew = W9 from hW9.symm]
      have t1 : Held W9 w.heap.size 71 #[(.int .i64 0), (.int .i64 0), (.int .i64 0), (.int .i64 0), (.int .i64 0), (.int .i64 0), (.slice none 0 0), (.slice none 0 0)] := by rw [hW9]; exact s1.drew
      have t2 : w.grownBy W9 none := by rw [hW9]; exact grown_toDrew s2
      have t3 : W8.grownBy W9 (some w.heap.size) := by rw [hW9]; exact grown_toDrew s3
      clear hW9 s1 s2 s3
      have d0 : W9.cell? ⟨w.heap.size, 0, none⟩ = some (.int .i64 0) := t1.cell 0
      have d1 : W9.cell? ⟨w.heap.size, 1, none⟩ = some (.int .i64 0) := t1.cell 1
      have d2 : W9.cell? ⟨w.heap.size, 2, none⟩ = some (.int .i64 0) := t1.cell 2
      have d3 : W9.cell? ⟨w.heap.size, 3, none⟩ = some (.int .i64 0) := t1.cell 3
      have d4 : W9.cell? ⟨w.heap.size, 4, none⟩ = some (.int .i64 0) := t1.cell 4
      have d5 : W9.cell? ⟨w.heap.size, 5, none⟩ = some (.int .i64 0) := t1.cell 5
      have d6 : W9.cell? ⟨w.heap.size, 6, none⟩ = some (.slice none 0 0) := t1.cell 6
      have d7 : W9.cell? ⟨w.heap.size, 7, none⟩ = some (.slice none 0 0) := t1.cell 7
      have hg : getRec xs thread seq = (zeroRec, 0, t6.err) := by
        unfold getRec rdAll
        simp only [hp0, hp1, hp2, hp3, hp4, hp5, hp6]
        rw [if_neg he]
      refine bodyPost_ret (v := .tuple #[.agg #[.int .i64 0, .int .i64 0, .int .i64 0, .int .i64 0, .int .i64 0, .int .i64 0, .slice none 0 0, .slice none 0 0], .int .i64 0, .int .i64 t6.err]) (by simp [results, Tryz.results66, go_sem, d0, d1, d2, d3, d4, d5, d6, d7]) rfl ⟨_, .slice none 0 0, .slice none 0 0, rfl, ?_, ?_, ?_, t2⟩
      · rw [hg]; rfl
      · rw [hg]; exact World.ownsRow_nil _ _ _ _
      · rw [hg]; exact World.ownsRow_nil _ _ _ _
end Go.Proofs.YtaiaoiochbpmfaaGreat
