/- The functions that Trace needs: what names mean. -/
import Derived.Test.YtfbkkgfkhhibfaaGreatFg
namespace AM
open Go Go.Proofs Mk
set_option linter.unusedVariables false
set_option linter.unusedSimpArgs false
set_option maxRecDepth 20000
set_option maxHeartbeats 4000000
theorem atFrom_bd (s : ByteArray) : ∀ (l : List ByteArray) (i : Nat), atFrom s i l = -1 ∨ (i ≤ atFrom s i l ∧ atFrom s i l < i + l.length)
  | [], i => .inl rfl
  | x :: r, i => by
    simp only [atFrom, List.length_cons]
    split
    · omega
    · have := atFrom_bd s r (i + 1)
      have e : ((i + 1 : Nat) : Int) = (i : Int) + 1 := rfl
      rw [e] at this
      omega
theorem atI_bd (l : List ByteArray) (s : ByteArray) : -1 ≤ atI l s ∧ atI l s < l.length := by
  have := atFrom_bd s l 0
  unfold atI
  simp only [Int.natCast_zero] at this
  omega
@[go_sem] def thRow (p : List Sm × Nat) : List PV := thR (thName p.2) loNames (smL p.1)
@[go_sem] def pgR (bs : List (List Sm)) : List PV := [.sl dclR, .sl (bs.zipIdx.map thRow)]
theorem thNames_eq (bs : List (List Sm)) : bs.zipIdx.map (fun p => thName p.2) = thNames bs.length := by
  rw [thNames, List.range_eq_range', ← List.zipIdx_map_snd 0 bs, List.map_map]
  rfl
theorem threadAt_ok (l : List (List Sm × Nat)) (s : ByteArray) (hl : l.length ≤ 1000) : FnEq Tryz.prog 141 [.pv (.sl (l.map thRow)), .pv (strP s)] (.pv (intP (atI (l.map fun p => thName p.2) s))) := by
  refine wf Tryz.func141 (fun _ => []) (h := fun R hR => ?_)
  refine wb ?_ <;> intros
  refine wl (fun i : Nat => [(0, .pv (.sl (l.map thRow))), (1, .pv (strP s)), (5, .pv (intP i))]) (fun _ => []) (fun i => i ≤ l.length ∧ atI (l.map fun p => thName p.2) s = atFrom s i ((l.map fun p => thName p.2).drop i)) (fun i => l.length - i) 0 ⟨Nat.zero_le _, rfl⟩ (vm []) (fun i ⟨hi, ha⟩ => ?_)
  refine wb (A2.mk ?_ ?_) <;> intros
  · have h2 : i < l.length := by omega
    refine row_map (x := l[i]) (Int.natCast_nonneg _) (by simp [h2]) rfl ?_
    refine wb (A2.mk ?_ ?_) <;> intros
    · rw [at_hit (i := i) (by simpa using h2) (by simpa using ‹thName l[i].snd = s›) ha] at hR
      exact wr hR
    · exact sr_mark ⟨i + 1, ⟨h2, at_miss (i := i) (by simpa using h2) (by simpa using ‹_›) ha⟩, by omega, vm []⟩
  · rw [at_end (i := i) (by simp; omega) ha] at hR
    exact wr hR
theorem kindOf_ok (bs : List (List Sm)) (hb : bs.length ≤ 4) (t : Nat) (ht : t < bs.length) (s : ByteArray) : FnEq Tryz.prog 178 [rw_ (pgR bs), .pv (intP t), .pv (strP s)] (.pv (intP (kindF bs.length s))) := by
  unfold kindF
  have h2 := atI_bd dNames s
  have h9 : dNames.length = 9 := rfl
  rw [h9] at h2
  generalize hl : atI loNames s = lo
  generalize hd : atI dNames s = di at h2
  generalize ht' : atI (thNames bs.length) s = ti
  refine wf Tryz.func178 (fun _ => []) (h := fun R hR => ?_)
  refine wb ?_ <;> intros
  refine row_map (x := (bs[t], t)) (by omega) (by simp [ht]) rfl ?_
  refine wb ?_ <;> intros
  refine wE (at_ok loNames s (by decide)) ?_
  rw [hl]
  refine wb (A2.mk ?_ ?_) <;> intros
  · rw [if_pos ‹_›] at hR
    exact wr hR
  rw [if_neg (show ¬ 0 ≤ lo by omega)] at hR
  refine wE (declAt_ok dL s (by decide)) ?_
  rw [show atI (dL.map DR.name) s = di from hd]
  refine wb (A2.mk ?_ ?_) <;> intros
  · rw [if_neg (show ¬ 0 ≤ di by omega)] at hR
    refine wE (threadAt_ok bs.zipIdx s (by simp; omega)) ?_
    rw [thNames_eq, ht']
    refine wb (A2.mk ?_ ?_) <;> intros
    · exact wr hR
    · exact wr hR
  rw [if_pos (show 0 ≤ di by omega)] at hR
  clear hl ht' h9
  obtain rfl | rfl | rfl | rfl | rfl | rfl | rfl | rfl | rfl : di = 0 ∨ di = 1 ∨ di = 2 ∨ di = 3 ∨ di = 4 ∨ di = 5 ∨ di = 6 ∨ di = 7 ∨ di = 8 := by omega
  all_goals
    repeat refine row_get (by omega) rfl rfl (wb ?_)
    exact wr hR
theorem want_ok (bs : List (List Sm)) (hb : bs.length ≤ 4) (t : Nat) (ht : t < bs.length) (s : ByteArray) (a b : Int) : FnEq Tryz.prog 169 [rw_ (pgR bs), .pv (intP t), .pv (strP s), .pv (intP a), .pv (intP b)] (.pv (intP (wantF bs.length s a b))) := by
  unfold wantF
  refine wf Tryz.func169 (fun _ => []) (h := fun R hR => ?_)
  refine wb ?_ <;> intros
  refine wE (kindOf_ok bs hb t ht s) ?_
  refine wb (A2.mk ?_ (A2.mk ?_ (A2.mk ?_ ?_))) <;> intros
  all_goals exact wr hR
def ndsL (x : Ex) : AV := .tup [.pv (intP (1 + x.kids.length)), .pv (intP (if x.kids = [] then 1 else 2))]
attribute [local go_sem] lfR
theorem nodes_ok (x : Ex) : FnEq Tryz.prog 179 [rw_ (exE x).r] (ndsL x) := by
  have leaf : ∀ l : Lf, FnEq Tryz.prog 179 [rw_ (lfR l)] (.tup [.pv (intP 1), .pv (intP 1)]) := fun l => by
    simp only [lfR, lfE]
    refine wf Tryz.func179 (fun _ => []) (h := fun R hR => ?_)
    refine wb ?_ <;> intros
    refine w1 ?_
    refine wb ?_ <;> intros
    exact wr hR
  cases x with
  | leaf l =>
    have := leaf l
    cases l <;> exact this
  | idx l =>
    simp only [exE, Ex.op, Ex.n, Ex.name, Ex.kids, ndsL]
    refine wf Tryz.func179 (fun _ => []) (h := fun R hR => ?_)
    refine wb ?_ <;> intros
    refine w2 ?_
    refine wb ?_ <;> intros
    refine row_get (by omega) rfl rfl ?_
    refine wb ?_ <;> intros
    refine wE (leaf l) ?_
    refine wb ?_ <;> intros
    exact wr hR
  | bin k l r =>
    simp only [exE, Ex.op, Ex.n, Ex.name, Ex.kids, ndsL]
    refine wf Tryz.func179 (fun _ => []) (h := fun R hR => ?_)
    refine wb ?_ <;> intros
    refine w3 ?_
    refine wb ?_ <;> intros
    refine row_get (by omega) rfl rfl ?_
    refine wb ?_ <;> intros
    refine wE (leaf l) ?_
    refine wb ?_ <;> intros
    refine row_get (by omega) rfl rfl ?_
    refine wb ?_ <;> intros
    refine wE (leaf r) ?_
    refine wb ?_ <;> intros
    exact wr hR
theorem want_lo (n : Nat) (k : Nm) : wantF n k.str 8 1 = 0 := by
  have h : kindF n k.str = 8 ∨ kindF n k.str = 1 := by
    cases k
    · exact .inl rfl
    · exact .inl rfl
    · exact .inr rfl
    · exact .inr rfl
    · exact .inr rfl
  unfold wantF
  rcases h with h | h <;> rw [h] <;> rfl
theorem want_q (n : Nat) : wantF n ⟨#[113]⟩ 2 2 = 0 := rfl
theorem names4_ok (bs : List (List Sm)) (hb : bs.length ≤ 4) (t : Nat) (ht : t < bs.length) (x : Ex) : FnEq Tryz.prog 180 [rw_ (pgR bs), .pv (intP t), rw_ (exE x).r] (.pv (intP 0)) := by
  have leaf : ∀ l : Lf, FnEq Tryz.prog 180 [rw_ (pgR bs), .pv (intP t), rw_ (lfR l)] (.pv (intP 0)) := fun l => by
    cases l with
    | num n =>
      simp only [lfR, lfE, Lf.op, Lf.n, Lf.name]
      refine wf Tryz.func180 (fun _ => [(0, 3), (0, 5), (0, 6)]) (h := fun R hR => ?_)
      refine wb ?_ <;> intros
      refine w1 ?_
      refine wb ?_ <;> intros
      exact wr hR
    | var k =>
      simp only [lfR, lfE, Lf.op, Lf.n, Lf.name]
      refine wf Tryz.func180 (fun _ => [(0, 3), (0, 5), (0, 6)]) (h := fun R hR => ?_)
      refine wb ?_ <;> intros
      refine wE (want_ok bs hb t ht k.str 8 1) ?_
      rw [want_lo]
      refine wb ?_ <;> intros
      refine w1 ?_
      refine wb ?_ <;> intros
      exact wr hR
  cases x with
  | leaf l =>
    have := leaf l
    cases l <;> exact this
  | idx l =>
    simp only [exE, Ex.op, Ex.n, Ex.name, Ex.kids]
    refine wf Tryz.func180 (fun _ => [(0, 3), (0, 5), (0, 6)]) (h := fun R hR => ?_)
    refine wb ?_ <;> intros
    refine wE (want_ok bs hb t ht ⟨#[113]⟩ 2 2) ?_
    rw [want_q]
    refine wb ?_ <;> intros
    refine w2 ?_
    refine wb ?_ <;> intros
    refine row_get (by omega) rfl rfl ?_
    refine wb ?_ <;> intros
    refine wE (leaf l) ?_
    refine wb ?_ <;> intros
    exact wr hR
  | bin k l r =>
    have hk : binOp k ≠ 2 ∧ binOp k ≠ 3 := by revert k; decide
    simp only [exE, Ex.op, Ex.n, Ex.name, Ex.kids]
    generalize binOp k = op at hk
    refine wf Tryz.func180 (fun _ => [(0, 3), (0, 5), (0, 6)]) (h := fun R hR => ?_)
    refine wb ?_ <;> intros
    refine w3 ?_
    refine wb ?_ <;> intros
    refine row_get (by omega) rfl rfl ?_
    refine wb ?_ <;> intros
    refine wE (leaf l) ?_
    refine wb ?_ <;> intros
    refine row_get (by omega) rfl rfl ?_
    refine wb ?_ <;> intros
    refine wE (leaf r) ?_
    refine wb ?_ <;> intros
    exact wr hR
theorem expr4_ok (bs : List (List Sm)) (hb : bs.length ≤ 4) (t : Nat) (ht : t < bs.length) (x : Ex) : FnEq Tryz.prog 170 [rw_ (pgR bs), .pv (intP t), rw_ (exE x).r] (.pv (intP 0)) := by
  have hk : x.kids.length ≤ 2 := by cases x <;> simp [Ex.kids]
  refine wf Tryz.func170 (fun _ => []) (h := fun R hR => ?_)
  refine wb ?_ <;> intros
  refine wE (shapedEx x) ?_
  refine wb ?_ <;> intros
  refine wE (nodes_ok x) ?_
  unfold ndsL
  refine wb ?_ <;> intros
  all_goals first | (exfalso; split at * <;> omega) | skip
  refine wE (names4_ok bs hb t ht x) ?_
  refine wb ?_ <;> intros
  exact wr hR
end AM

/- The functions that Trace needs: the check of declarations and of threads. -/
namespace AM
open Go Go.Proofs Mk
set_option linter.unusedVariables false
set_option linter.unusedSimpArgs false
set_option maxRecDepth 20000
set_option maxHeartbeats 4000000
theorem shDecl (d : DR) (hd : d ∈ dL) : FnEq Tryz.prog 138 [rw_ d.r] (.pv (boolP true)) := by
  simp only [dL, List.mem_cons, List.not_mem_nil, or_false] at hd
  obtain rfl | rfl | rfl | rfl | rfl | rfl | rfl | rfl | rfl := hd
  all_goals
    refine wf Tryz.func138 (fun _ => []) (h := fun R hR => ?_)
    refine wb ?_ <;> intros
    refine wE (isName_ok _ ?_) ?_
    decide +kernel
    refine wb ?_ <;> intros
    first
    | exact wr hR
    | refine wE (isName_ok _ ?_) ?_
      decide +kernel
      refine wb ?_ <;> intros
      exact wr hR
theorem lo_name (s : ByteArray) (h : s ∈ loNames) : nameB s = true := by
  simp only [loNames, List.mem_cons, List.not_mem_nil, or_false] at h
  rcases h with rfl | rfl <;> decide +kernel
theorem th_name (k : Nat) : nameB (thName k) = true := by
  obtain h | h | h | h := thName_eq k <;> (rw [h]; decide +kernel)
theorem shaped_ok (bs : List (List Sm)) (h0 : 0 < bs.length) (hb : bs.length ≤ 4) (hs : ∀ b ∈ bs, ShL b) : FnEq Tryz.prog 102 [rw_ (pgR bs)] (.pv (boolP true)) := by
  have h9 : dL.length = 9 := rfl
  have h2 : loNames.length = 2 := rfl
  refine wf Tryz.func102 (fun _ => []) (h := fun R hR => ?_)
  refine wb ?_ <;> intros
  refine wl (fun i : Nat => [(1, .ptr 0 0), (3, .pv (intP i))]) (fun _ => [some (.box ((pgR bs).map .pv))]) (fun i => i ≤ 9) (fun i => 9 - i) 0 (Nat.zero_le _) (vm [0]) (fun i hi => ?_)
  refine wb (A2.mk ?_ ?_) <;> intros
  · refine row_pick dL DR.r (by omega) (fun d hd => ?_)
    refine wb ?_ <;> intros
    refine wE (shDecl d hd) ?_
    refine wb ?_ <;> intros
    exact sr_mark ⟨i + 1, by omega, by omega, vm [0]⟩
  refine wl (fun i : Nat => [(1, .ptr 0 0), (4, .pv (intP i))]) (fun _ => [some (.box ((pgR bs).map .pv))]) (fun i => i ≤ bs.length) (fun i => bs.length - i) 0 (Nat.zero_le _) (vm [0]) (fun i hi => ?_)
  refine wb (A2.mk ?_ ?_) <;> intros
  · refine row_pick bs.zipIdx thRow (by simp; omega) (fun p hp => ?_)
    obtain ⟨b, k⟩ := p
    have hbb : b ∈ bs := (List.mem_zipIdx' hp).2 ▸ List.getElem_mem _
    refine wb ?_ <;> intros
    refine wl (fun j : Nat => [(1, .ptr 0 0), (4, .pv (intP i)), (5, .ptr 1 0), (6, .pv (intP j))]) (fun _ => [some (.box ((pgR bs).map .pv)), some (.box ((thRow (b, k)).map .pv))]) (fun i => i ≤ 2) (fun i => 2 - i) 0 (Nat.zero_le _) (vm [0, 81]) (fun j hj => ?_)
    refine wb (A2.mk ?_ ?_) <;> intros
    · refine row_pick loNames (fun s => [strP s]) (by omega) (fun s hs' => ?_)
      refine wb ?_ <;> intros
      refine wE (isName_ok s (lo_name s hs')) ?_
      refine wb ?_ <;> intros
      exact sr_mark ⟨j + 1, by omega, by omega, vm [0, 1]⟩
    refine wE (isName_ok _ (th_name k)) ?_
    refine wb ?_ <;> intros
    refine wE (hs b hbb) ?_
    refine wb ?_ <;> intros
    exact sr_mark ⟨i + 1, by omega, by omega, vm [0]⟩
  exact wr hR
theorem declAt_v (l : List DR) (s : ByteArray) (r : Int) (hl : l.length ≤ 1000) (h : atI (l.map DR.name) s = r) : FnEq Tryz.prog 140 [.pv (.sl (l.map DR.r)), .pv (strP s)] (.pv (intP r)) := h ▸ declAt_ok l s hl
theorem decls4_ok : FnEq Tryz.prog 103 [.pv (.sl dclR)] (.tup [.pv (intP 0), .pv (intP 0)]) := by
  refine wf Tryz.func103 (fun i => if i = 6 then [(2, 4)] else if i = 23 then [(2, 4)] else []) (h := fun R hR => ?_)
  refine wb ?_ <;> intros
  refine wn 10 ?_
  refine wb ?_
  refine row_get (by omega) rfl rfl (wb ?_)
  refine wE (declAt_v (dL.take 0) dL[0].name (-1) (by decide) rfl) (wb ?_)
  refine wb ?_
  refine row_get (by omega) rfl rfl (wb ?_)
  refine wE (declAt_v (dL.take 1) dL[1].name (-1) (by decide) rfl) (wb ?_)
  refine wb ?_
  refine row_get (by omega) rfl rfl (wb ?_)
  refine wE (declAt_v (dL.take 2) dL[2].name (-1) (by decide) rfl) (wb ?_)
  refine wb ?_
  refine row_get (by omega) rfl rfl (wb ?_)
  refine wE (declAt_v (dL.take 3) dL[3].name (-1) (by decide) rfl) (wb ?_)
  refine wb ?_
  refine row_get (by omega) rfl rfl (wb ?_)
  refine wE (declAt_v (dL.take 4) dL[4].name (-1) (by decide) rfl) (wb ?_)
  refine wb ?_
  refine row_get (by omega) rfl rfl (wb ?_)
  refine wE (declAt_v (dL.take 5) dL[5].name (-1) (by decide) rfl) (wb ?_)
  refine wb ?_
  refine row_get (by omega) rfl rfl (wb ?_)
  refine wE (declAt_v (dL.take 6) dL[6].name (-1) (by decide) rfl) (wb ?_)
  refine wb ?_
  refine row_get (by omega) rfl rfl (wb ?_)
  refine wE (declAt_v (dL.take 7) dL[7].name (-1) (by decide) rfl) (wb ?_)
  refine wE (declAt_v (dL.take 7) ⟨#[109]⟩ 4 (by decide) rfl) (wb ?_)
  refine row_get (by omega) rfl rfl (wb ?_)
  refine wb ?_
  refine row_get (by omega) rfl rfl (wb ?_)
  refine wE (declAt_v (dL.take 8) dL[8].name (-1) (by decide) rfl) (wb ?_)
  exact wr hR
end AM

/- The functions that Trace needs: the check of threads, how many statements. -/
namespace AM
open Go Go.Proofs Mk
set_option linter.unusedVariables false
set_option linter.unusedSimpArgs false
set_option maxRecDepth 20000
set_option maxHeartbeats 4000000
theorem th_decl (k : Nat) : atI (dL.map DR.name) (thName k) = -1 := by
  obtain h | h | h | h := thName_eq k <;> (rw [h]; rfl)
theorem thNames_take (bs : List (List Sm)) (i : Nat) (hi : i ≤ bs.length) : (bs.zipIdx.take i).map (fun p => thName p.2) = thNames i := by
  rw [List.map_take, thNames_eq, thNames, ← List.map_take, List.take_range, Nat.min_eq_left hi, thNames]
theorem threadAt_v (l : List (List Sm × Nat)) (s : ByteArray) (r : Int) (hl : l.length ≤ 1000) (h : atI (l.map fun p => thName p.2) s = r) : FnEq Tryz.prog 141 [.pv (.sl (l.map thRow)), .pv (strP s)] (.pv (intP r)) := h ▸ threadAt_ok l s hl
theorem at_v (l : List ByteArray) (s : ByteArray) (r : Int) (hl : l.length ≤ 1000000) (h : atI l s = r) : FnEq Tryz.prog 94 [.pv (.sl (strR l)), .pv (strP s)] (.pv (intP r)) := h ▸ at_ok l s hl
theorem th_new (i : Nat) (hi : i < 4) : atI (thNames i) (thName i) = -1 := by
  match i, hi with
  | 0, _ => rfl
  | 1, _ => rfl
  | 2, _ => rfl
  | 3, _ => rfl
theorem th_lo (n : Nat) (hn : n ≤ 4) (s : ByteArray) (hs : s ∈ loNames) : atI (thNames n) s = -1 := by
  simp only [loNames, List.mem_cons, List.not_mem_nil, or_false] at hs
  match n, hn with
  | 0, _ => rfl
  | 1, _ => rcases hs with rfl | rfl <;> rfl
  | 2, _ => rcases hs with rfl | rfl <;> rfl
  | 3, _ => rcases hs with rfl | rfl <;> rfl
  | 4, _ => rcases hs with rfl | rfl <;> rfl
@[go_sem] theorem lo_len : loNames.length = 2 := rfl
theorem threads4_ok (bs : List (List Sm)) (hb : bs.length ≤ 4) : FnEq Tryz.prog 104 [rw_ (pgR bs)] (.tup [.pv (intP 0), .pv (intP 0)]) := by
  refine wf Tryz.func104 (fun _ => [(1, 3), (8, 12), (10, 12)]) (h := fun R hR => ?_)
  refine wb ?_ <;> intros
  refine wl (fun i : Nat => [(1, .ptr 0 0), (4, .pv (intP i))]) (fun _ => [some (.box ((pgR bs).map .pv))]) (fun i => i ≤ bs.length) (fun i => bs.length - i) 0 (Nat.zero_le _) (vm [0]) (fun i hi => ?_)
  refine wb (A2.mk ?_ ?_) <;> intros
  · refine row_map (x := (bs[i], i)) (by omega) (by simp <;> omega) rfl ?_
    refine wb ?_ <;> intros
    refine wE (declAt_v dL (thName i) (-1) (by decide) (th_decl i)) ?_
    refine wb ?_ <;> intros
    rw [← List.map_take]
    refine wE (threadAt_v (bs.zipIdx.take i) (thName i) (-1) (by simp; omega) (by rw [thNames_take bs i hi, th_new i (by omega)])) ?_
    refine wb ?_ <;> intros
    exact sr_mark ⟨i + 1, by omega, by omega, vm [0]⟩
  refine wl (fun i : Nat => [(1, .ptr 0 0), (6, .pv (intP i))]) (fun _ => [some (.box ((pgR bs).map .pv))]) (fun i => i ≤ bs.length) (fun i => bs.length - i) 0 (Nat.zero_le _) (vm [0]) (fun i hi => ?_)
  refine wb (A2.mk ?_ ?_) <;> intros
  · refine row_map (x := (bs[i], i)) (by omega) (by simp <;> omega) rfl ?_
    refine wb ?_ <;> intros
    refine wl (fun j : Nat => [(1, .ptr 0 0), (6, .pv (intP i)), (7, .ptr 1 0), (8, .pv (intP j))]) (fun _ => [some (.box ((pgR bs).map .pv)), some (.box ((thRow (bs[i], i)).map .pv))]) (fun i => i ≤ 2) (fun i => 2 - i) 0 (Nat.zero_le _) (vm [0, 81]) (fun j hj => ?_)
    refine wb (A2.mk ?_ ?_) <;> intros
    · have hj2 : j < loNames.length := by rw [lo_len]; omega
      refine row_map (x := loNames[j]) (by omega) (by simp [hj2]) rfl ?_
      refine wb ?_ <;> intros
      refine wE (declAt_v dL loNames[j] (-1) (by decide) (by rcases (show j = 0 ∨ j = 1 by omega) with rfl | rfl <;> rfl)) ?_
      refine wb ?_ <;> intros
      refine wE (threadAt_v bs.zipIdx loNames[j] (-1) (by simp; omega) (by rw [thNames_eq, th_lo _ hb _ (List.getElem_mem hj2)])) ?_
      refine wb ?_ <;> intros
      rw [← List.map_take]
      refine wE (at_v (loNames.take j) loNames[j] (-1) (by simp [lo_len]; omega) (by rcases (show j = 0 ∨ j = 1 by omega) with rfl | rfl <;> rfl)) ?_
      refine wb ?_ <;> intros
      exact sr_mark ⟨j + 1, by omega, by omega, vm [0, 1]⟩
    exact sr_mark ⟨i + 1, by omega, by omega, vm [0]⟩
  exact wr hR
theorem count_ok : ∀ (m : Nat) (l : List Sm), cntL l ≤ m → m ≤ 100000 → FnEq Tryz.prog 105 [.pv (smL l)] (.pv (intP (cntL l)))
  | m, l, h, hm => by
    have hl := cntL_eq l
    have ih : ∀ l', cntL l' < m → FnEq Tryz.prog 105 [.pv (smL l')] (.pv (intP (cntL l'))) := fun l' h' => count_ok (cntL l') l' (Nat.le_refl _) (by omega)
    refine wf Tryz.func105 (fun _ => [(3, 10), (5, 10), (6, 10), (3, 12), (5, 12), (6, 12)]) (h := fun R hR => ?_)
    refine wb ?_ <;> intros
    refine wl (fun i : Nat => [(0, .pv (smL l)), (3, .pv (intP ((l.length + sumB (l.take i) : Nat)))), (4, .pv (intP i))]) (fun _ => []) (fun i => i ≤ l.length) (fun i => l.length - i) 0 (Nat.zero_le _) (vm []) (fun i hi => ?_)
    have hle := sumB_le l i
    refine wb (A2.mk ?_ ?_) <;> intros
    · have h2 : i < l.length := by omega
      have he := sumB_take l i l[i] (by simp [h2])
      have hle2 := sumB_le l (i + 1)
      refine row_map (x := l[i]) (by omega) (by simp [h2]) (smR_len _) ?_
      rw [smR_eq]
      refine wb ?_ <;> intros
      refine wE (ih l[i].body (by omega)) ?_
      refine wb ?_ <;> intros
      refine row_map (x := l[i]) (by omega) (by simp [h2]) (smR_len _) ?_
      rw [smR_eq]
      refine wb ?_ <;> intros
      refine wE (ih l[i].els (by omega)) ?_
      refine wb ?_ <;> intros
      exact sr_mark ⟨i + 1, by omega, by omega, vm []⟩
    · have hz : cntL l = l.length + sumB (l.take i) := by rw [List.take_of_length_le (by omega)]; exact hl
      rw [hz] at hR
      exact wr hR
end AM

/- The functions that Trace needs: what is around a statement; its own error. -/
namespace AM
open Go Go.Proofs Mk
set_option linter.unusedVariables false
set_option linter.unusedSimpArgs false
set_option maxRecDepth 20000
set_option maxHeartbeats 4000000
@[go_sem] def wbox (bs : List (List Sm)) (t : Nat) (a b c : Nat) (ar : List Sm) (sp st : List ByteArray) : Obj := .box [.pv (.sl dclR), .pv (.sl (bs.zipIdx.map thRow)), .pv (intP t), .own a ar.length, .own b sp.length, .own c st.length]
abbrev rowS (l : List ByteArray) : Obj := .row 9 1 (strR l)
@[go_sem] def wOs (bs : List (List Sm)) (t : Nat) (ar : List Sm) (sp st : List ByteArray) : List Obj := [wbox bs t 1 2 3 ar sp st, smO ar, rowS sp, rowS st]
@[go_sem] def wOg (bs : List (List Sm)) (t : Nat) (ar : List Sm) (sp st : List ByteArray) : List (Option Obj) := [some (wbox bs t 4 5 6 ar sp st), none, none, none, some (smO ar), some (rowS sp), some (rowS st)]
def ins1 (a b : Int) (s : ByteArray) (x : Sm) : Bool := (decide (x.op = a) || decide (x.op = b)) && (decide (s = ⟨#[]⟩) || decide (x.name = s))
theorem insF_eq (ar : List Sm) (a b : Int) (s : ByteArray) : insF ar a b s = ar.any (ins1 a b s) := rfl
@[go_sem] theorem bytes_dec {a b : ByteArray} : (a.toList == b.toList) = decide (a = b) := bytes_ext
theorem inside_ok (bs : List (List Sm)) (t : Nat) (ar : List Sm) (sp st : List ByteArray) (a b : Int) (s : ByteArray) (ha : ar.length ≤ 100) : ACall Tryz.prog 167 [.ptr 0 0, .pv (intP a), .pv (intP b), .pv (strP s)] (wOs bs t ar sp st) (fun v g => v = .pv (boolP (insF ar a b s)) ∧ g = (wOs bs t ar sp st).map some) := by
  rw [insF_eq]
  refine wz Tryz.func167 (fun _ => []) (h := fun R hR => ?_)
  refine wb ?_ <;> intros
  refine wl (fun i : Nat => [(0, .ptr 0 0), (1, .pv (intP a)), (2, .pv (intP b)), (3, .pv (strP s)), (9, .pv (intP i))]) (fun _ => (wOs bs t ar sp st).map some) (fun i => i ≤ ar.length ∧ ar.any (ins1 a b s) = (ar.drop i).any (ins1 a b s)) (fun i => ar.length - i) 0 ⟨Nat.zero_le _, rfl⟩ (vm [0, 1, 2, 3]) (fun i ⟨hi, hd⟩ => ?_)
  refine wb (A2.mk ?_ ?_) <;> intros
  · have h2 : i < ar.length := by omega
    rw [List.drop_eq_getElem_cons h2, List.any_cons] at hd
    generalize hx : ar[i] = x at hd
    refine ld_get (x := smR x) (by rw [List.getElem?_map, List.getElem?_eq_getElem h2, hx, Option.map_some]) (by rw [smR_eq]; rfl) ?_
    cases e : ins1 a b s x
    all_goals
      rw [e] at hd
      simp only [Bool.true_or, Bool.false_or] at hd
      simp only [ins1, Bool.and_eq_false_iff, Bool.or_eq_false_iff, Bool.and_eq_true, Bool.or_eq_true, decide_eq_true_eq, decide_eq_false_iff_not] at e
      (first | (refine wb (A2.mk ?_ (A2.mk ?_ (A2.mk ?_ (A2.mk ?_ (A2.mk ?_ ?_))))) <;> intros) | (refine wb (A2.mk ?_ (A2.mk ?_ (A2.mk ?_ (A2.mk ?_ (A2.mk ?_ (A2.mk ?_ ?_)))))) <;> intros))
    all_goals first
      | (exfalso; grind)
      | (refine wo hR (.pv (boolP true)) ((wOs bs t ar sp st).map some) [0, 1, 2, 3] [] ⟨by rw [hd], rfl⟩)
      | exact sr_mark ⟨i + 1, ⟨h2, hd⟩, by omega, vm [0, 1, 2, 3]⟩
  · refine wo hR (.pv (boolP false)) ((wOs bs t ar sp st).map some) [0, 1, 2, 3] [] ⟨?_, rfl⟩
    rw [hd, List.drop_eq_nil_of_le (by omega)]
    rfl
end AM
