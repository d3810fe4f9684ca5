/- Trace of interleavemade, in words of the memory. -/
import Derived.Test.YtaiaoiochbpmfaaGreatJn
import Derived.Test.YtaiaoiochbpmfaaGreatPln
import Derived.Test.YtaiaoiochbpmfaaGreatLaw14s
import Derived.Test.YtaiaoiochbpmfaaGreatRrow
import Derived.Test.YtaiaoiochbpmfaaGreatFlR
import Derived.Test.YtaiaoiochbpmfaaGreatAlc
namespace AM
open Go Go.Proofs Go.Proofs.YtaiaoiochbpmfaaGreat Go.RowKit Mk Iv
set_option linter.unusedVariables false
set_option linter.unusedSimpArgs false
theorem sl_rep {Ψ : Psi} {els : List (List PV)} {v : Value} (h : Rep Ψ (.sl els) v) : ∃ A c, v = .slice A els.length c := by
  cases h with
  | nil => exact ⟨_, _, rfl⟩
  | sl f hn hnc hk hf hr => exact ⟨_, _, by rw [hn]⟩
theorem evs_rep {fr : Fr} {Ψ : Psi} {loc : Loc} {σ : Sto} {w : World} (hok : Ok fr Ψ loc σ w) {es : List EvA} {v : Value} (h : Rep Ψ (.sl (es.map EvA.r)) v) : ∃ A c, v = .slice A es.length c ∧ Evs w w.heap.size A es.length (es.map EvA.ev) := by
  generalize he : es.map EvA.r = els at h
  cases h with
  | nil =>
    have : es = [] := List.map_eq_nil_iff.1 he
    subst this
    exact ⟨_, _, rfl, rfl, fun k e hk => by simp at hk⟩
  | @sl _ b o c n k f hn hnc hk hf hr =>
    subst he
    rw [List.length_map] at hn
    subst hn
    refine ⟨_, _, rfl, by simp, fun i e hi => ?_⟩
    rw [List.getElem?_map] at hi
    cases hx : es[i]? with
    | none => rw [hx] at hi; simp at hi
    | some x =>
      rw [hx] at hi
      simp only [Option.map_some, Option.some.injEq] at hi
      subst hi
      have hk7 : k = 7 := (hk _ (List.mem_map_of_mem (List.mem_of_getElem? hx))).symm
      subst hk7
      have hc : ∀ j p, (EvA.r x)[j]? = some p → w.cell? ⟨b, o + i * 7 + j, none⟩ = some (f i j) ∧ Rep Ψ p (f i j) := fun j p hp => by
        have h1 : cellOf (es.map EvA.r) i j = some p := by simp only [cellOf, List.getElem?_map, hx, Option.map_some, Option.bind_some]; exact hp
        have h2 := hok.fz _ _ _ (hf i j _ h1)
        exact ⟨by rw [Nat.add_assoc]; exact h2, hr i j _ h1⟩
      have hs : ∀ j v, (EvA.r x)[j]? = some (.sc v) → w.cell? ⟨b, o + i * 7 + j, none⟩ = some v := fun j v hq => by
        obtain ⟨h1, h2⟩ := hc j _ hq
        rw [h1, (rep_sc (loc := loc) (.pv h2)).1]
      obtain ⟨h5, r5⟩ := hc 5 _ rfl
      obtain ⟨h6, r6⟩ := hc 6 _ rfl
      obtain ⟨Ad, cd, e5, ld⟩ := lies_nums hok r5
      obtain ⟨Af, cf, e6, lf⟩ := lies_nums hok r6
      rw [e5] at h5
      rw [e6] at h6
      refine ⟨b, o, Ad, cd, Af, cf, rfl, World.block_lt_of_cell? w _ h5, fun j u hu => ?_, by simpa [EvA.ev] using ld, by simpa [EvA.ev] using lf⟩
      match j, hu with
      | 0, hu => injection hu with hu; subst hu; exact hs 0 _ rfl
      | 1, hu => injection hu with hu; subst hu; exact hs 1 _ rfl
      | 2, hu => injection hu with hu; subst hu; exact hs 2 _ rfl
      | 3, hu => injection hu with hu; subst hu; exact hs 3 _ rfl
      | 4, hu => injection hu with hu; subst hu; exact hs 4 _ rfl
      | 5, hu => injection hu with hu; subst hu; simpa [EvA.ev] using h5
      | 6, hu => injection hu with hu; subst hu; simpa [EvA.ev] using h6
      | j + 7, hu => simp at hu
end AM
namespace Go.Proofs.YtaiaoiochbpmfaaGreat
open Go Go.RowKit Iv AM
set_option linter.unusedVariables false
set_option linter.unusedSimpArgs false
structure TrN (w : World) (m n : Nat) (A : Option Addr) (l : List Ev) : Prop where
  n1 : 1 ≤ n
  n4 : n ≤ 4
  len : l.length ≤ m
  evs : Evs w w.heap.size A l.length l
  ok : ∀ (k : Nat) e, l[k]? = some e → EvOk n k e
def TrcN (w : World) (m : Nat) (e : Ending) (w' : World) : Prop := ∃ (a0 a1 a2 a3 a4 a5 A : Option Addr) (c0 c1 c2 c3 c4 c5 c n k : Nat) (l : List Ev), e = .returned (.agg #[.slice a0 5 c0, .slice a1 3 c1, .slice a2 1 c2, .slice a3 1 c3, .slice a4 n c4, .slice a5 k c5, .slice A l.length c]) ∧ TrN w' m n A l ∧ w.grownBy w' none
theorem traceN_any (w : World) (A1 : Option Addr) (n1 c1 B1 : Nat) (xs : Bytes) (hx : Lies w B1 1 A1 n1 (xs.map bv)) (hc1 : n1 ≤ c1) (hn1 : n1 ≤ 1000) (A2 : Option Addr) (m c2 B2 : Nat) (ys : Bytes) (hy : Lies w B2 1 A2 m (ys.map bv)) (hc2 : m ≤ c2) (hm : m ≤ 1000) :
    Calls Tryz.prog 11 #[.slice A1 n1 c1, .slice A2 m c2] w fun e w' => TrcN w m e w' := by
  have l1 : xs.length = n1 := by have := hx.1; rw [List.length_map] at this; omega
  have l2 : ys.length = m := by have := hy.1; rw [List.length_map] at this; omega
  refine (join (trace_ok xs ys (by omega) (by omega)).2.2 w _ ⟨rfl, fun j v hv => ?_⟩).mono ?_
  · match j, hv with
    | 0, hv => injection hv with hv; subst hv; exact ⟨_, rfl, .pv (rep_bytes hx hc1)⟩
    | 1, hv => injection hv with hv; subst hv; exact ⟨_, rfl, .pv (rep_bytes hy hc2)⟩
  rintro e w' ⟨r, v, g, Ψ, loc, rfl, ⟨-, -, n, ss, es, rfl, h1, h4, _, _, hl, hev⟩, hv, hok⟩
  cases hv with
  | @agg _ us f hs hx hr =>
    have hp : ∀ j els, ((trR n ss es).map AV.pv)[j]? = some (.pv (.sl els)) → ∃ A c, f j = .slice A els.length c := fun j els h => by
      have := hr j _ h
      cases this with
      | pv h => exact sl_rep h
    obtain ⟨a0, c0, e0⟩ := hp 0 _ rfl
    obtain ⟨a1, c1, e1⟩ := hp 1 _ rfl
    obtain ⟨a2, c2, e2⟩ := hp 2 _ rfl
    obtain ⟨a3, c3, e3⟩ := hp 3 _ rfl
    obtain ⟨a4, c4, e4⟩ := hp 4 _ rfl
    obtain ⟨a5, c5, e5⟩ := hp 5 _ rfl
    obtain ⟨A, c, e6, hE⟩ : ∃ A c, f 6 = .slice A es.length c ∧ Evs w' w'.heap.size A es.length (es.map EvA.ev) := by
      have := hr 6 _ rfl
      cases this with
      | pv h => exact evs_rep hok h
    have hus : us = #[.slice a0 5 c0, .slice a1 3 c1, .slice a2 1 c2, .slice a3 1 c3, .slice a4 n c4, .slice a5 ss.length c5, .slice A es.length c] := by
      refine Array.ext (by rw [hs]; rfl) (fun j h1 h2 => ?_)
      have h3 : j < 7 := h2
      have q := hx j h3
      rw [Array.getElem?_eq_getElem h1] at q
      injection q with q
      rw [q]
      obtain rfl | rfl | rfl | rfl | rfl | rfl | rfl : j = 0 ∨ j = 1 ∨ j = 2 ∨ j = 3 ∨ j = 4 ∨ j = 5 ∨ j = 6 := by omega
      · exact e0
      · exact e1
      · exact e2
      · exact e3
      · rw [e4, List.length_map, Mk.thNames_len]; rfl
      · rw [e5, List.length_map]; rfl
      · exact e6
    subst hus
    have hlm : (es.map EvA.ev).length = es.length := List.length_map _
    refine ⟨a0, a1, a2, a3, a4, a5, A, c0, c1, c2, c3, c4, c5, c, n, ss.length, es.map EvA.ev, by rw [hlm], ⟨h1, h4, by rw [hlm]; omega, by rw [hlm]; exact hE, fun k e hk => ?_⟩, ok_grown hok⟩
    rw [List.getElem?_map] at hk
    cases hp : es[k]? with
    | none => rw [hp] at hk; simp at hk
    | some x =>
      rw [hp] at hk
      simp only [Option.map_some, Option.some.injEq] at hk
      subst hk
      exact evG_ok (hev k x hp)
end Go.Proofs.YtaiaoiochbpmfaaGreat

/- The plan of law 14, by the abstract machine. -/
namespace AM
open Go Go.Proofs Go.Proofs.YtaiaoiochbpmfaaGreat Mk Iv
set_option linter.unusedVariables false
set_option linter.unusedSimpArgs false
set_option maxRecDepth 20000
set_option maxHeartbeats 8000000
@[go_sem] theorem tysP : lay Tryz.prog 39 = some (true, 4) ∧
  lay Tryz.prog 24 = some (true, 4) ∧
  lay Tryz.prog 91 = some (true, 2) ∧
  lay Tryz.prog 36 = some (false, 1) ∧
  elemT Tryz.prog 36 = some (91, 2, 16) ∧
  fldT Tryz.prog 39 0 = some 0 ∧
  fldT Tryz.prog 39 1 = some 1 ∧
  fldT Tryz.prog 39 2 = some 2 ∧
  fldT Tryz.prog 39 3 = some 3 ∧
  fldT Tryz.prog 24 0 = some 0 ∧
  fldT Tryz.prog 24 1 = some 1 ∧
  fldT Tryz.prog 24 2 = some 2 ∧
  fldT Tryz.prog 24 3 = some 3 ∧
  zeroT Tryz.prog 39 = some [.pv (intP 0), .emp, .pv (intP 0), .emp] ∧
  zeroT Tryz.prog 91 = some [.pv (intP 0), .pv (intP 0)] ∧
  placesT Tryz.prog 39 = some [(0, 1), (1, 1), (2, 1), (3, 1)] ∧
  placesT Tryz.prog 91 = some [(0, 1), (1, 1)] := by and_intros <;> kernel_rfl
structure PlnG (n : Nat) (p : Pln) : Prop where
  c1 : 1 ≤ p.cap
  c8 : p.cap ≤ 8
  s0 : 0 ≤ p.stop
  s1 : p.stop ≤ 255
  fl : p.flushes.length ≤ 20
  fk : ∀ f ∈ p.flushes, 0 ≤ f.1 ∧ f.1 ≤ 255 ∧ 0 ≤ f.2 ∧ f.2 < n
  cl : p.cuts.length ≤ n
  ck : ∀ k ∈ p.cuts, 0 ≤ k ∧ k ≤ 255
@[go_sem] def plR (p : Pln) : List PV := [intP p.cap, .sl (p.flushes.map chR), intP p.stop, .sl (inL p.cuts)]
def us12 : Nat → List (Nat × Nat) := fun i => if i = 5 then [(1, 3), (1, 5), (1, 6), (1, 10), (3, 10), (5, 10), (6, 10), (1, 12), (3, 12), (5, 12), (6, 12), (1, 13), (3, 13), (5, 13), (6, 13)] else if i = 9 then [(1, 3), (1, 5), (1, 6)] else []
attribute [local go_sem] List.set_cons_zero List.set_cons_succ List.map_append List.length_append List.map_cons List.map_nil List.length_singleton
theorem plan14_ok (n : Nat) (h1 : 1 ≤ n) (h4 : n ≤ 4) (cap stop : Nat) (hc : cap < 256) (hs : stop < 256) (xs ys : List UInt8) (hx : xs.length ≤ 9223372036854775807) (hy : ys.length ≤ 9223372036854775807) : FnOk Tryz.prog 12 [rw_ [.sc (.int .u8 cap), .sc (.int .u8 stop), u8L xs, u8L ys], .pv (intP n)] (fun r => ∃ p, PlnG n p ∧ r = rw_ (plR p)) := by
  refine wf Tryz.func12 us12 (h := fun R hR => ?_)
  refine wb ?_ <;> intros
  have hC8 : IntKind.i64.wrap ((cap : Int).tmod 8 + 1) = ((cap % 8 + 1 : Nat) : Int) := by
    show IntKind.i64.wrap (((cap % 8 : Nat) : Int) + 1) = _
    rw [IntWalk.i64_in _ (by omega)]
    omega
  generalize IntKind.i64.wrap ((cap : Int).tmod 8 + 1) = c0 at hC8
  refine sr_ghost 88 1 91 2 rfl rfl ?_
  refine wl (fun u : List (Int × Int) => [(1, .pv (intP n)), (2, .ptr 0 0), (4, .ptr 1 0), (5, .ptr 2 0), (6, .pv (intP u.length))]) (fun u => [some (.box [.pv (.sc (.int .u8 cap)), .pv (.sc (.int .u8 stop)), .pv (u8L xs), .pv (u8L ys)]), some (.box [.pv (intP 0), .emp, .pv (intP 0), .emp]), some (.box [.pv (intP c0), .own 3 u.length, .pv (intP stop), .emp]), some (.row 91 2 (u.map chR))]) (fun u => u.length ≤ xs.length ∧ u.length ≤ 20 ∧ ∀ f ∈ u, 0 ≤ f.1 ∧ f.1 ≤ 255 ∧ 0 ≤ f.2 ∧ f.2 < n) (fun u => xs.length - u.length) [] ⟨Nat.zero_le _, Nat.zero_le _, fun f h => nomatch h⟩ (vm [0, 8, 88, 112]) (fun u ⟨hu, hu20, hf⟩ => ?_)
  refine wb (A2.mk ?_ (A2.mk ?_ ?_)) <;> intros
  · have h2 : u.length < xs.length := by omega
    have hg := List.getElem?_eq_getElem h2
    generalize xs[u.length] = x at hg
    have hx8 := x.toNat_lt
    have hxr : (xs.map fun x => [PV.sc (.int .u8 x.toNat)])[u.length]? = some [.sc (.int .u8 x.toNat)] := by rw [List.getElem?_map, hg]; rfl
    refine row_get (by omega) hxr rfl ?_
    refine wb ?_ <;> intros
    refine row_get (by omega) hxr rfl ?_
    refine wb ?_ <;> intros
    have hd : IntKind.i64.wrap ((x.toNat : Int).tdiv 4) = ((x.toNat / 4 : Nat) : Int) := by
      show IntKind.i64.wrap ((x.toNat / 4 : Nat) : Int) = _
      exact IntWalk.i64_in _ (by omega)
    have hm : x.toNat % n < n := Nat.mod_lt _ (by omega)
    refine sr_mark ⟨u ++ [(IntKind.i64.wrap ((x.toNat : Int).tdiv 4), ((x.toNat % n : Nat) : Int))], ⟨by rw [List.length_append]; simp only [List.length_singleton]; omega, by rw [List.length_append]; simp only [List.length_singleton]; omega, fun f hm' => ?_⟩, by rw [List.length_append]; simp only [List.length_singleton]; omega, by clear hd; exact vm [0, 1, 2, 228]⟩
    rcases List.mem_append.1 hm' with hm' | hm'
    · exact hf f hm'
    · rw [List.mem_singleton.1 hm']
      dsimp only
      rw [hd]
      omega
  all_goals
    refine sr_ghost 2 3 3 1 rfl rfl ?_
    refine wl (fun v : List Int => [(1, .pv (intP n)), (2, .ptr 0 0), (4, .ptr 1 0), (5, .ptr 2 0), (7, .pv (intP v.length))]) (fun v => [some (.box [.pv (.sc (.int .u8 cap)), .pv (.sc (.int .u8 stop)), .pv (u8L xs), .pv (u8L ys)]), some (.box [.pv (intP 0), .emp, .pv (intP 0), .emp]), some (.box [.pv (intP c0), .own 3 u.length, .pv (intP stop), .own 4 v.length]), some (.row 91 2 (u.map chR)), some (.row 3 1 (inL v))]) (fun v => v.length ≤ ys.length ∧ v.length ≤ n ∧ ∀ k ∈ v, 0 ≤ k ∧ k ≤ 255) (fun v => ys.length - v.length) [] ⟨Nat.zero_le _, Nat.zero_le _, fun f h => nomatch h⟩ (vm [0, 1, 2, 3, 84]) (fun v ⟨hv, hvn, hk⟩ => ?_)
    refine wb (A2.mk ?_ (A2.mk ?_ ?_)) <;> intros
    · have h2 : v.length < ys.length := by omega
      have hg := List.getElem?_eq_getElem h2
      generalize ys[v.length] = x at hg
      have hx8 := x.toNat_lt
      have hxr : (ys.map fun x => [PV.sc (.int .u8 x.toNat)])[v.length]? = some [.sc (.int .u8 x.toNat)] := by rw [List.getElem?_map, hg]; rfl
      refine row_get (by omega) hxr rfl ?_
      refine wb ?_ <;> intros
      refine sr_mark ⟨v ++ [(x.toNat : Int)], ⟨by rw [List.length_append]; simp only [List.length_singleton]; omega, by rw [List.length_append]; simp only [List.length_singleton]; omega, fun f hm' => ?_⟩, by rw [List.length_append]; simp only [List.length_singleton]; omega, vm [0, 1, 2, 3, 157]⟩
      rcases List.mem_append.1 hm' with hm' | hm'
      · exact hk f hm'
      · rw [List.mem_singleton.1 hm']
        omega
    all_goals exact wt hR (rw_ (plR ⟨c0, u, stop, v⟩)) [(3, none), (4, none)] ⟨⟨c0, u, stop, v⟩, ⟨by show 1 ≤ c0; omega, by show c0 ≤ 8; omega, by show (0 : Int) ≤ stop; omega, by show (stop : Int) ≤ 255; omega, hu20, hf, hvn, hk⟩, rfl⟩
end AM

/- The plan of law 14, in words of the memory. -/
namespace AM
open Go Go.Proofs Go.Proofs.YtaiaoiochbpmfaaGreat Go.RowKit Mk Iv
set_option linter.unusedVariables false
set_option linter.unusedSimpArgs false
theorem lies_ints2 {fr : Fr} {Ψ : Psi} {loc : Loc} {σ : Sto} {w : World} (hok : Ok fr Ψ loc σ w) {l : List Int} {v : Value} (h : Rep Ψ (.sl (inL l)) v) : ∃ A c, v = .slice A l.length c ∧ Lies w w.heap.size 1 A l.length (l.map Iv.iv) := by
  generalize he : inL l = els at h
  cases h with
  | nil =>
    have : l = [] := List.map_eq_nil_iff.1 he
    subst this
    exact ⟨_, _, rfl, ⟨rfl, fun h => absurd h (Nat.lt_irrefl 0)⟩⟩
  | @sl _ b o c n k f hn hnc hk hf hr =>
    subst he
    rw [List.length_map] at hn
    subst hn
    refine ⟨_, _, rfl, by simp, fun h0 => ?_⟩
    have hk1 : k = 1 := (hk _ (List.mem_map_of_mem (List.getElem_mem h0))).symm
    subst hk1
    have hc : ∀ i (hi : i < l.length), w.cell? ⟨b, o + i, none⟩ = some (Iv.iv l[i]) := fun i hi => by
      have h1 : cellOf (inL l) i 0 = some (intP l[i]) := by simp [cellOf, hi]
      have h2 := hok.fz _ _ _ (hf i 0 _ h1)
      rw [Nat.mul_one, Nat.add_zero] at h2
      rw [h2, (rep_sc (loc := loc) (.pv (hr i 0 _ h1))).1]
      rfl
    refine ⟨⟨b, o, none⟩, rfl, World.block_lt_of_cell? w _ (hc 0 h0), fun j u hu => ?_⟩
    rw [List.getElem?_map] at hu
    cases hx : l[j]? with
    | none => rw [hx] at hu; simp at hu
    | some x =>
      obtain ⟨hj, rfl⟩ := List.getElem?_eq_some_iff.1 hx
      rw [hx] at hu
      simp only [Option.map_some, Option.some.injEq] at hu
      subst hu
      have := hc j hj
      rw [← this]
      congr 1
      unfold Addr.add
      split
      · simp_all
      · rfl
theorem fls_rep {fr : Fr} {Ψ : Psi} {loc : Loc} {σ : Sto} {w : World} (hok : Ok fr Ψ loc σ w) {l : List (Int × Int)} {v : Value} (h : Rep Ψ (.sl (l.map chR)) v) : ∃ A c, v = .slice A l.length c ∧ Fls w w.heap.size A l.length l := by
  generalize he : l.map chR = els at h
  cases h with
  | nil =>
    have : l = [] := List.map_eq_nil_iff.1 he
    subst this
    exact ⟨_, _, rfl, rfl, fun k f hk => by simp at hk⟩
  | @sl _ b o c n k f hn hnc hk hf hr =>
    subst he
    rw [List.length_map] at hn
    subst hn
    refine ⟨_, _, rfl, rfl, fun i x hx => ?_⟩
    have hk2 : k = 2 := (hk _ (List.mem_map_of_mem (List.mem_of_getElem? hx))).symm
    subst hk2
    have hs : ∀ j v, (chR x)[j]? = some (.sc v) → w.cell? ⟨b, o + i * 2 + j, none⟩ = some v := fun j v hq => by
      have h1 : cellOf (l.map chR) i j = some (.sc v) := by simp only [cellOf, List.getElem?_map, hx, Option.map_some, Option.bind_some]; exact hq
      rw [Nat.add_assoc, hok.fz _ _ _ (hf i j _ h1), (rep_sc (loc := loc) (.pv (hr i j _ h1))).1]
    have h0 := hs 0 _ rfl
    exact ⟨b, o, rfl, World.block_lt_of_cell? w _ h0, h0, hs 1 _ rfl⟩
end AM
namespace Go.Proofs.YtaiaoiochbpmfaaGreat
open Go Go.RowKit Iv AM
set_option linter.unusedVariables false
set_option linter.unusedSimpArgs false
theorem plan14_any (w : World) (n cap stop : Nat) (h1 : 1 ≤ n) (h4 : n ≤ 4) (hc : cap < 256) (hs : stop < 256) (A1 : Option Addr) (n1 c1 B1 : Nat) (xs : Bytes) (hx : Lies w B1 1 A1 n1 (xs.map bv)) (hc1 : n1 ≤ c1) (hm1 : c1 ≤ maxLen) (A2 : Option Addr) (n2 c2 B2 : Nat) (ys : Bytes) (hy : Lies w B2 1 A2 n2 (ys.map bv)) (hc2 : n2 ≤ c2) (hm2 : c2 ≤ maxLen) :
    Calls Tryz.prog 12 #[.agg #[.int .u8 (cap : Int), .int .u8 (stop : Int), .slice A1 n1 c1, .slice A2 n2 c2], .int .i64 (n : Int)] w fun e w' =>
      ∃ (p : Pln) (Af : Option Addr) (cf : Nat) (Ac : Option Addr) (cc : Nat), e = .returned (.agg (planV p Af p.flushes.length cf Ac p.cuts.length cc)) ∧ PlnG n p ∧ Fls w' w'.heap.size Af p.flushes.length p.flushes ∧ Lies w' w'.heap.size 1 Ac p.cuts.length (p.cuts.map iv) ∧ w.grownBy w' none := by
  have l1 : xs.length = n1 := by have := hx.1; rw [List.length_map] at this; omega
  have l2 : ys.length = n2 := by have := hy.1; rw [List.length_map] at this; omega
  unfold maxLen at hm1 hm2
  refine (join (plan14_ok n h1 h4 cap stop hc hs xs ys (by omega) (by omega)).2.2 w _ ⟨rfl, fun j v hv => ?_⟩).mono ?_
  · match j, hv with
    | 0, hv =>
      injection hv with hv
      subst hv
      refine ⟨_, rfl, .agg (fun j => (#[.int .u8 (cap : Int), .int .u8 (stop : Int), .slice A1 n1 c1, .slice A2 n2 c2] : Array Value).getD j undef) rfl (fun j hj => ?_) (fun j u hu => ?_)⟩
      · have h4 : j < 4 := hj
        obtain rfl | rfl | rfl | rfl : j = 0 ∨ j = 1 ∨ j = 2 ∨ j = 3 := by omega
        all_goals rfl
      · match j, hu with
        | 0, hu => injection hu with hu; subst hu; exact .pv (.sc rfl)
        | 1, hu => injection hu with hu; subst hu; exact .pv (.sc rfl)
        | 2, hu => injection hu with hu; subst hu; exact .pv (rep_bytes hx hc1)
        | 3, hu => injection hu with hu; subst hu; exact .pv (rep_bytes hy hc2)
    | 1, hv => injection hv with hv; subst hv; exact ⟨_, rfl, .pv (.sc rfl)⟩
  rintro e w' ⟨r, v, g, Ψ, loc, rfl, ⟨-, -, p, hp, rfl⟩, hv, hok⟩
  cases hv with
  | @agg _ us f hz hx' hr =>
    have e0 := (rep_sc (hr 0 _ rfl)).1
    have e2 := (rep_sc (hr 2 _ rfl)).1
    obtain ⟨Af, cf, e1, hF⟩ : ∃ A c, f 1 = .slice A p.flushes.length c ∧ Fls w' w'.heap.size A p.flushes.length p.flushes := by
      have := hr 1 _ rfl
      cases this with
      | pv h => exact fls_rep hok h
    obtain ⟨Ac, cc, e3, hC⟩ : ∃ A c, f 3 = .slice A p.cuts.length c ∧ Lies w' w'.heap.size 1 A p.cuts.length (p.cuts.map iv) := by
      have := hr 3 _ rfl
      cases this with
      | pv h => exact lies_ints2 hok h
    have hus : us = planV p Af p.flushes.length cf Ac p.cuts.length cc := by
      refine Array.ext (by rw [hz]; rfl) (fun j h1 h2 => ?_)
      have h3 : j < 4 := h2
      have q := hx' j h3
      rw [Array.getElem?_eq_getElem h1] at q
      injection q with q
      rw [q]
      obtain rfl | rfl | rfl | rfl : j = 0 ∨ j = 1 ∨ j = 2 ∨ j = 3 := by omega
      · exact e0
      · exact e1
      · exact e2
      · exact e3
    subst hus
    exact ⟨p, Af, cf, Ac, cc, rfl, hp, hF, hC, ok_grown hok⟩
end Go.Proofs.YtaiaoiochbpmfaaGreat

/- The walk of RecordMade. -/
namespace Go.Proofs.YtaiaoiochbpmfaaGreat
open Go Go.RowKit Iv
set_option linter.unusedVariables false
set_option linter.unusedSimpArgs false
theorem made_good {l : List Ev} {n : Nat} {p : Pln} (h1 : 1 ≤ n) (h4 : n ≤ 4) (hp : AM.PlnG n p) (hl : l.length ≤ 100) (he : ∀ (k : Nat) e, l[k]? = some e → EvOk n k e) : filesErr l n p = 0 := by
  have hpl : planOk n p = true := by
    have h1 := hp.c1
    have h2 := hp.c8
    have h3 := hp.s0
    have h5 := hp.cl
    unfold planOk planHead
    simp only [Bool.and_eq_true, decide_eq_true_eq, List.all_eq_true]
    refine ⟨⟨⟨⟨⟨⟨⟨by omega, by omega⟩, by omega⟩, by omega⟩, by omega⟩, fun f hf => ?_⟩, fun k hk => (hp.ck k hk).1⟩, by omega⟩
    have := hp.fk f hf
    unfold flushOk
    simp only [Bool.and_eq_true, decide_eq_true_eq]
    omega
  unfold filesErr
  rw [if_pos hpl, if_neg (by omega), if_pos]
  rw [List.all_eq_true]
  intro e hm
  obtain ⟨k, hk⟩ := List.mem_iff_getElem?.1 hm
  have h := he k e hk
  have hkl := (List.getElem?_eq_some_iff.1 hk).1
  have := h.th0
  have := h.thn
  have := h.dp.1
  have := h.fr.1
  unfold evOk
  simp only [Bool.and_eq_true, decide_eq_true_eq]
  omega
theorem made_fit {l : List Ev} {n : Nat} (h4 : n ≤ 4) (hl : l.length ≤ 100) (he : ∀ (k : Nat) e, l[k]? = some e → EvOk n k e) : ∀ e ∈ l, RecFit ⟨0, e⟩ := by
  intro e hm
  obtain ⟨k, hk⟩ := List.mem_iff_getElem?.1 hm
  have hkl := (List.getElem?_eq_some_iff.1 hk).1
  obtain ⟨h, _, _⟩ := (he k e hk).fit h4 (by omega)
  exact ⟨⟨by show (-9223372036854775808 : Int) ≤ 0; decide, by show (0 : Int) ≤ 9223372036854775807; decide⟩, h.thread, h.kind, h.obj, h.value, h.site, h.deps, h.from_⟩
set_option maxRecDepth 100000 in
set_option maxHeartbeats 3200000 in
theorem recordMade_any (A1 : Option Addr) (n1 c1 : Nat) (xs : Bytes) (A2 : Option Addr) (n2 c2 : Nat) (ys : Bytes) (a3 a4 : Int) (A3 : Option Addr) (n3 c3 : Nat) (fs : Bytes) (A4 : Option Addr) (n4 c4 : Nat) (us : Bytes) (w : World) (hL1 : Lies w w.heap.size 1 A1 n1 (xs.map bv)) (hnc1 : n1 ≤ c1) (hcm1 : c1 ≤ maxLen) (ho1 : A1 = none → c1 = 0) (hL2 : Lies w w.heap.size 1 A2 n2 (ys.map bv)) (hnc2 : n2 ≤ c2) (hcm2 : c2 ≤ maxLen) (ho2 : A2 = none → c2 = 0) (hf3 : 0 ≤ a3 ∧ a3 ≤ 255) (hf4 : 0 ≤ a4 ∧ a4 ≤ 255) (hL3 : Lies w w.heap.size 1 A3 n3 (fs.map bv)) (hnc3 : n3 ≤ c3) (hcm3 : c3 ≤ maxLen) (hL4 : Lies w w.heap.size 1 A4 n4 (us.map bv)) (hnc4 : n4 ≤ c4) (hcm4 : c4 ≤ maxLen) :
    Calls Tryz.prog 3 #[.slice A1 n1 c1, .slice A2 n2 c2, .agg #[.int .u8 a3, .int .u8 a4, .slice A3 n3 c3, .slice A4 n4 c4]] w fun e w' => e = .returned (.bool true) ∧ Below w.heap.size w w' := by
  clear ho1 ho2
  obtain ⟨cap, rfl⟩ : ∃ cap : Nat, a3 = (cap : Int) := ⟨a3.toNat, by omega⟩
  obtain ⟨stop, rfl⟩ : ∃ stop : Nat, a4 = (stop : Int) := ⟨a4.toNat, by omega⟩
  obtain ⟨W, hW⟩ : ∃ W, W = w.alloc (.cells #[.int .u8 (cap : Int), .int .u8 (stop : Int), .slice A3 n3 c3, .slice A4 n4 c4] 24) := ⟨_, rfl⟩
  have hWg : w.grownBy W none := by rw [hW]; exact World.grownBy_alloc w _ none
  have hb0 : Held W w.heap.size 24 #[.int .u8 (cap : Int), .int .u8 (stop : Int), .slice A3 n3 c3, .slice A4 n4 c4] := by rw [hW]; exact Held.new _ _ _
  have HW := Lib.hid hW
  have HB0 := Lib.hid hb0
  have HWG := Lib.hid hWg
  have HBEL := Lib.hid (fun (W' : World) (hg : w.grownBy W' none) => belGr (Below.refl w.heap.size w) hg)
  by_cases hb1 : 200 < n1
  · clear hL1 hL2 hL3 hL4 hcm1 hcm2 hcm3 hcm4 hnc1 hnc2 hnc3 hnc4 hb0 hWg hW
    go_enter Tryz.func3, Tryz.ntmps3
    go_upto_region 1 with fail
    rw [show w.alloc _ = W from HW.out.symm]
    go_wp2_with fail
    go_ret
    exact ⟨rfl, HBEL.out _ HWG.out⟩
  by_cases hb2 : 100 < n2
  · clear hL1 hL2 hL3 hL4 hcm1 hcm2 hcm3 hcm4 hnc1 hnc2 hnc3 hnc4 hb0 hWg hW
    go_enter Tryz.func3, Tryz.ntmps3
    go_upto_region 1 with fail
    rw [show w.alloc _ = W from HW.out.symm]
    go_wp2_with fail
    go_ret
    exact ⟨rfl, HBEL.out _ HWG.out⟩
  have CT := Lib.hid (traceN_any W A1 n1 c1 w.heap.size xs (hL1.grown hWg (Nat.le_refl _) (fun _ e => nomatch e)) hnc1 (by omega) A2 n2 c2 w.heap.size ys (hL2.grown hWg (Nat.le_refl _) (fun _ e => nomatch e)) hnc2 (by omega))
  have CN := Lib.hid (fun (W' : World) (hg : w.grownBy W' none) (n : Nat) (h1 : 1 ≤ n) (h4 : n ≤ 4) => plan14_any W' n cap stop h1 h4 (by omega) (by omega) A3 n3 c3 w.heap.size fs (hL3.grown hg (Nat.le_refl _) (fun _ e => nomatch e)) hnc3 hcm3 A4 n4 c4 w.heap.size us (hL4.grown hg (Nat.le_refl _) (fun _ e => nomatch e)) hnc4 hcm4)
  have hn2 : n2 ≤ 100 := by omega
  have HN2 := Lib.hid hn2
  clear hL1 hL2 hL3 hL4 hcm1 hcm2 hcm3 hcm4 hnc1 hnc2 hnc3 hnc4 hb0 hWg hW hf3 hf4
  go_enter Tryz.func3, Tryz.ntmps3
  go_upto_region 1 with fail
  rw [show w.alloc _ = W from HW.out.symm]
  go_wp2_with fail
  refine CT.out.mono ?_
  rintro e wt ⟨a0, a1, a2, a3, a4, a5, A, c0, c1', c2', c3', c4', c5, c, n, k, l, rfl, htr, gt⟩
  have HTR := Lib.hid htr
  have GT := Lib.hid (grown_then HWG.out gt)
  obtain ⟨W5, hW5⟩ : ∃ W5, W5 = wt.alloc (.cells #[.slice a0 5 c0, .slice a1 3 c1', .slice a2 1 c2', .slice a3 1 c3', .slice a4 n c4', .slice a5 k c5, .slice A l.length c] 34) := ⟨_, rfl⟩
  have hb5 : Held W5 wt.heap.size 34 #[.slice a0 5 c0, .slice a1 3 c1', .slice a2 1 c2', .slice a3 1 c3', .slice a4 n c4', .slice a5 k c5, .slice A l.length c] := by rw [hW5]; exact Held.new _ _ _
  have hg5 : wt.grownBy W5 none := by rw [hW5]; exact World.grownBy_alloc wt _ none
  have HW5 := Lib.hid hW5
  have HB5 := Lib.hid hb5
  have G5 := Lib.hid hg5
  have GA := Lib.hid (grown_then gt hg5)
  clear hW5 hb5 hg5 gt htr
  go_upto_region 4 with fail
  rw [show wt.alloc _ = W5 from HW5.out.symm]
  have hN5 := HB0.out.grown GA.out (fun e => nomatch e)
  have f0 := hN5.cell 0
  have f1 := hN5.cell 1
  have f2 := hN5.cell 2
  have f3 := hN5.cell 3
  have t4 := HB5.out.cell 4
  have t6 := HB5.out.cell 6
  clear hN5
  go_wp2_with fail
  refine (CN.out W5 (grown_then GT.out G5.out) n HTR.out.n1 HTR.out.n4).mono ?_
  rintro e wp ⟨p, Af, cf, Ac, cc, rfl, hp, hF, hC, gp⟩
  clear f0 f1 f2 f3
  unfold planV
  obtain ⟨W6, hW6⟩ : ∃ W6, W6 = wp.alloc (.cells #[.int .i64 p.cap, .slice Af p.flushes.length cf, .int .i64 p.stop, .slice Ac p.cuts.length cc] 39) := ⟨_, rfl⟩
  have hb6 : Held W6 wp.heap.size 39 #[.int .i64 p.cap, .slice Af p.flushes.length cf, .int .i64 p.stop, .slice Ac p.cuts.length cc] := by rw [hW6]; exact Held.new _ _ _
  have hg6 : wp.grownBy W6 none := by rw [hW6]; exact World.grownBy_alloc wp _ none
  have HW6 := Lib.hid hW6
  have gW6 := grown_then gp hg6
  have hE : Evs wt wt.heap.size A l.length l := HTR.out.evs
  have hl100 : l.length ≤ 100 := Nat.le_trans HTR.out.len HN2.out
  have hnum := made_fit HTR.out.n4 hl100 HTR.out.ok
  have her := made_good HTR.out.n1 HTR.out.n4 hp hl100 HTR.out.ok
  have hi64 : inI64 p.stop ∧ allI64 p.cuts := by
    have h1 := hp.s0
    have h2 := hp.s1
    refine ⟨⟨by omega, by omega⟩, fun q hq => ?_⟩
    have := hp.ck q hq
    exact ⟨by omega, by omega⟩
  have g56 := grown_then G5.out gW6
  have hz6 : wp.heap.size ≤ W6.heap.size := hg6.size
  have hzt : wt.heap.size ≤ wp.heap.size := (grown_then G5.out gp).size
  have hEp : ∀ W' : World, W6.grownBy W' none → Evs W' wp.heap.size A l.length l := fun W' hg => by
    have := hE.grown (grown_then g56 hg) (Nat.le_refl _) (fun _ e => nomatch e)
    exact ⟨this.1, fun k e hk => by
      obtain ⟨b, o, Ad, cd, Af, cf, q1, q2, q3, q4, q5⟩ := this.2 k e hk
      exact ⟨b, o, Ad, cd, Af, cf, q1, by omega, q3, q4.more hzt, q5.more hzt⟩⟩
  have CP := Lib.hid (fun (W' : World) (hg : W6.grownBy W' none) => filesP_any l A l.length c n p Af p.flushes.length cf Ac p.cuts.length cc wp.heap.size W' (hEp W' hg) (hF.grown (grown_then hg6 hg) (Nat.le_refl _) (fun _ e => nomatch e)) (hC.grown (grown_then hg6 hg) (Nat.le_refl _) (fun _ e => nomatch e)) (Nat.le_trans hz6 hg.size) (by have := hp.fl; omega) (by have := hp.cl; have := HTR.out.n4; omega) (by omega) hnum hi64)
  have CR := Lib.hid (fun (W' : World) (hg : W6.grownBy W' none) => filesR_any l A l.length c n p Af p.flushes.length cf Ac p.cuts.length cc wp.heap.size W' (hEp W' hg) (hF.grown (grown_then hg6 hg) (Nat.le_refl _) (fun _ e => nomatch e)) (hC.grown (grown_then hg6 hg) (Nat.le_refl _) (fun _ e => nomatch e)) (Nat.le_trans hz6 hg.size) (by have := hp.fl; omega) (by have := hp.cl; have := HTR.out.n4; omega) (by omega) hnum hi64)
  have FT := Lib.hid (fun (W' : World) (hg : W6.grownBy W' none) => HB5.out.grown (grown_then gW6 hg) (fun e => nomatch e))
  have FP := Lib.hid (fun (W' : World) (hg : W6.grownBy W' none) => hb6.grown hg (fun e => nomatch e))
  have G6 := Lib.hid (grown_then (grown_then GT.out G5.out) gW6)
  have HNUM := Lib.hid hnum
  have HER := Lib.hid her
  clear hW6 hb6 hg6 gW6 hE hnum her hi64 g56 hz6 hzt hEp hp hF hC gp t4 t6 hl100
  go_upto_region 5 with fail
  rw [show wp.alloc _ = W6 from HW6.out.symm]
  have hT := FT.out W6 (World.grownBy.refl W6 none)
  have hP := FP.out W6 (World.grownBy.refl W6 none)
  have f0 := hP.cell 0
  have f1 := hP.cell 1
  have f2 := hP.cell 2
  have f3 := hP.cell 3
  have t4 := hT.cell 4
  have t6 := hT.cell 6
  clear hT hP
  go_wp2_with fail
  refine (CP.out W6 (World.grownBy.refl W6 none)).mono ?_
  rintro e w2 ⟨v2, rfl, hg2, hbad2, hgood2⟩
  rw [HER.out] at hbad2 hgood2 ⊢
  clear f0 f1 f2 f3 t4 t6
  have hT := FT.out w2 hg2
  have hP := FP.out w2 hg2
  have f0 := hP.cell 0
  have f1 := hP.cell 1
  have f2 := hP.cell 2
  have f3 := hP.cell 3
  have t4 := hT.cell 4
  have t6 := hT.cell 6
  have HD2 := Lib.hid hgood2
  have HG2 := Lib.hid hg2
  clear hT hP hbad2 hgood2 hg2
  go_wp2_with fail
  clear f0 f1 f2 f3 t4 t6
  refine (CR.out w2 HG2.out).mono ?_
  rintro e w3 ⟨v3, rfl, hg3, hbad3, hgood3⟩
  rw [HER.out] at hbad3 hgood3 ⊢
  have HG3 := Lib.hid hg3
  have HG03 := Lib.hid (grown_then G6.out (grown_then HG2.out hg3))
  obtain ⟨t2, g2, vf2, ht2, rfl, hF2⟩ := HD2.out trivial
  obtain ⟨t3, g3, vf3, ht3, rfl, hF3⟩ := hgood3 rfl
  obtain rfl : t3 = t2 := by omega
  obtain ⟨tt, c, htt, hpg⟩ := planGood HER.out
  obtain rfl : tt = t3 := by omega
  have CS := Lib.hid (same14_yes tt g2 g3 _ _ (filesOf l p) vf2 vf3 w3 (hF2.keep HG3.out) hF3 (by have := hpg.thr4; omega) (fun k hk => by have := hpg.fileLen HNUM.out k hk; omega))
  clear hg3 hbad3 hgood3 hF2 hF3 hpg htt ht2 ht3
  go_wp2_with (first | (go_at_call 15; refine CS.out.mono ?_; rintro e w4 ⟨rfl, q, rfl⟩) | (go_at_call 16; refine (awake14_any _).mono ?_; rintro e w5 ⟨rfl, hg5⟩) | fail)
  go_ret
  exact ⟨rfl, HBEL.out _ (grown_then (grown_toDrewN HG03.out q) hg5)⟩
end Go.Proofs.YtaiaoiochbpmfaaGreat
