/- Trace of interleavemade, in words of the memory. -/
import Derived.Test.YtfbkkgfkhhibfaaGreatJw
import Derived.Test.YtfbkkgfkhhibfaaGreatTrd
import Derived.Test.YtfbkkgfkhhibfaaGreatPln
namespace AM
open Go Go.Proofs Go.Proofs.YtfbkkgfkhhibfaaGreat Go.RowKit Mk Iv
set_option linter.unusedVariables false
set_option linter.unusedSimpArgs false
theorem sl_form {Ψ : Psi} {els : List (List PV)} {v : Value} (h : Rep Ψ (.sl els) v) : ∃ A c, v = .slice A els.length c ∧ els.length ≤ c := by
  cases h with
  | nil => exact ⟨_, _, rfl, Nat.zero_le _⟩
  | sl f hn hnc hk hf hr => exact ⟨_, _, by rw [hn], by omega⟩
theorem evs_rep0 {Ψ : Psi} {Bd : Nat} {w : World} (hok : FzIn Ψ Bd w) {es : List EvA} {v : Value} (h : Rep Ψ (.sl (es.map EvA.r)) v) : ∃ A c, v = .slice A es.length c ∧ Evs w Bd A es.length (es.map EvA.ev) := by
  generalize he : es.map EvA.r = els at h
  cases h with
  | nil =>
    have : es = [] := List.map_eq_nil_iff.1 he
    subst this
    exact ⟨_, _, rfl, rfl, fun k e hk => by simp at hk⟩
  | @sl _ b o c n k f hn hnc hk hf hr =>
    subst he
    rw [List.length_map] at hn
    subst hn
    refine ⟨_, _, rfl, by simp, fun i e hi => ?_⟩
    rw [List.getElem?_map] at hi
    cases hx : es[i]? with
    | none => rw [hx] at hi; simp at hi
    | some x =>
      rw [hx] at hi
      simp only [Option.map_some, Option.some.injEq] at hi
      subst hi
      have hk7 : k = 7 := (hk _ (List.mem_map_of_mem (List.mem_of_getElem? hx))).symm
      subst hk7
      have hc : ∀ j p, (EvA.r x)[j]? = some p → (b < Bd ∧ w.cell? ⟨b, o + i * 7 + j, none⟩ = some (f i j)) ∧ Rep Ψ p (f i j) := fun j p hp => by
        have h1 : cellOf (es.map EvA.r) i j = some p := by simp only [cellOf, List.getElem?_map, hx, Option.map_some, Option.bind_some]; exact hp
        have h2 := hok _ _ _ (hf i j _ h1)
        exact ⟨by rw [Nat.add_assoc]; exact h2, hr i j _ h1⟩
      have hs : ∀ j v, (EvA.r x)[j]? = some (.sc v) → w.cell? ⟨b, o + i * 7 + j, none⟩ = some v := fun j v hq => by
        obtain ⟨⟨_, h1⟩, h2⟩ := hc j _ hq
        rw [h1, (rep_sc (loc := fun _ => none) (.pv h2)).1]
      obtain ⟨⟨hlt, h5⟩, r5⟩ := hc 5 _ rfl
      obtain ⟨⟨_, h6⟩, r6⟩ := hc 6 _ rfl
      obtain ⟨Ad, cd, e5, ld⟩ := lies_nums hok r5
      obtain ⟨Af, cf, e6, lf⟩ := lies_nums hok r6
      rw [e5] at h5
      rw [e6] at h6
      refine ⟨b, o, Ad, cd, Af, cf, rfl, hlt, fun j u hu => ?_, by simpa [EvA.ev] using ld, by simpa [EvA.ev] using lf⟩
      match j, hu with
      | 0, hu => injection hu with hu; subst hu; exact hs 0 _ rfl
      | 1, hu => injection hu with hu; subst hu; exact hs 1 _ rfl
      | 2, hu => injection hu with hu; subst hu; exact hs 2 _ rfl
      | 3, hu => injection hu with hu; subst hu; exact hs 3 _ rfl
      | 4, hu => injection hu with hu; subst hu; exact hs 4 _ rfl
      | 5, hu => injection hu with hu; subst hu; simpa [EvA.ev] using h5
      | 6, hu => injection hu with hu; subst hu; simpa [EvA.ev] using h6
      | j + 7, hu => simp at hu
theorem evs_rep {Ψ : Psi} {es : List EvA} {v : Value} (h : Rep Ψ (.sl (es.map EvA.r)) v) : ∃ A c, v = .slice A es.length c ∧ es.length ≤ c ∧ ∀ Bd w, FzIn Ψ Bd w → Evs w Bd A es.length (es.map EvA.ev) := by
  obtain ⟨A, c, e, hc⟩ := sl_form h
  rw [List.length_map] at e hc
  refine ⟨A, c, e, hc, fun Bd w hf => ?_⟩
  obtain ⟨A', c', e', h'⟩ := evs_rep0 hf h
  rw [e] at e'
  injection e' with e1 e2 e3
  subst e1
  exact h'
theorem at_cell (l : List CeR) : ∀ k, k < l.length → AtCell (vals (l.map CeR.r)) k := fun k hk => by
  have h1 : (l.map CeR.r)[k]? = some (CeR.r l[k]) := by rw [List.getElem?_map, List.getElem?_eq_getElem hk]; rfl
  have hk5 : ∀ r ∈ l.map CeR.r, r.length = 5 := fun r hr => by obtain ⟨x, _, rfl⟩ := List.mem_map.1 hr; rfl
  exact ⟨_, _, _, _, _, vals_at hk5 h1 (j := 0) rfl, vals_at hk5 h1 (j := 1) rfl, vals_at hk5 h1 (j := 2) rfl, vals_at hk5 h1 (j := 3) rfl, vals_at hk5 h1 (j := 4) rfl⟩
theorem at_lock (l : List (ByteArray × Bool)) : ∀ k, k < l.length → AtLock (vals (l.map lkR)) k := fun k hk => by
  have h1 : (l.map lkR)[k]? = some (lkR l[k]) := by rw [List.getElem?_map, List.getElem?_eq_getElem hk]; rfl
  have hk5 : ∀ r ∈ l.map lkR, r.length = 2 := fun r hr => by obtain ⟨x, _, rfl⟩ := List.mem_map.1 hr; rfl
  exact ⟨_, _, vals_at hk5 h1 (j := 0) rfl, vals_at hk5 h1 (j := 1) rfl⟩
theorem at_cond (l : List (ByteArray × Int)) : ∀ k, k < l.length → AtCond (vals (l.map cdR)) k := fun k hk => by
  have h1 : (l.map cdR)[k]? = some (cdR l[k]) := by rw [List.getElem?_map, List.getElem?_eq_getElem hk]; rfl
  have hk5 : ∀ r ∈ l.map cdR, r.length = 2 := fun r hr => by obtain ⟨x, _, rfl⟩ := List.mem_map.1 hr; rfl
  exact ⟨_, _, vals_at hk5 h1 (j := 0) rfl, vals_at hk5 h1 (j := 1) rfl⟩
theorem at_str (l : List ByteArray) : ∀ k, k < l.length → AtStr (vals (strR l)) k := fun k hk => by
  have h1 : (strR l)[k]? = some [strP l[k]] := by unfold strR; rw [List.getElem?_map, List.getElem?_eq_getElem hk]; rfl
  have hk5 : ∀ r ∈ strR l, r.length = 1 := fun r hr => by unfold strR at hr; obtain ⟨x, _, rfl⟩ := List.mem_map.1 hr; rfl
  exact ⟨_, vals_at hk5 h1 (j := 0) rfl⟩
theorem at_site (l : List (Nat × Nat)) : ∀ k, k < l.length → AtSite (vals (l.map siR)) k := fun k hk => by
  have h1 : (l.map siR)[k]? = some (siR l[k]) := by rw [List.getElem?_map, List.getElem?_eq_getElem hk]; rfl
  have hk5 : ∀ r ∈ l.map siR, r.length = 3 := fun r hr => by obtain ⟨x, _, rfl⟩ := List.mem_map.1 hr; rfl
  exact ⟨_, _, _, vals_at hk5 h1 (j := 0) rfl, vals_at hk5 h1 (j := 1) rfl, vals_at hk5 h1 (j := 2) rfl⟩
theorem in1_map {α : Type} {Ψ : Psi} {loc : Loc} (l : List α) (R : α → List PV) {x : Value} (k bytes : Nat) (hk : ∀ a, (R a).length = k) (hk0 : 0 < k) (hsc : ∀ a, ∀ p ∈ R a, ∃ x : Value, p = .sc x ∧ x.oneCell' = true) (hn : l.length ≤ 1000) (hb : bytes ≤ 48) (h : RepA Ψ loc (.pv (.sl (l.map R))) x) {Bd0 : Nat} {w0 : World} (h0 : FzIn Ψ Bd0 w0) :
    ∃ A c, x = .slice A l.length c ∧ (∀ Bd w, FzIn Ψ Bd w → In1 w Bd k bytes A l.length c (vals (l.map R))) ∧ (0 < l.length → ∃ b o, A = some ⟨b, o, none⟩) := by
  cases h with
  | pv h =>
    have key := fun (Bd : Nat) (w : World) (hok : FzIn Ψ Bd w) => in1_rows hok (bytes := bytes) (k := k) (fun r hr => by obtain ⟨a, _, rfl⟩ := List.mem_map.1 hr; exact hk a) hk0 (fun r hr => by obtain ⟨a, _, rfl⟩ := List.mem_map.1 hr; exact hsc a) (by rw [List.length_map]; exact hn) hb h
    simp only [List.length_map] at key
    obtain ⟨A, c, e, _, ha⟩ := key Bd0 w0 h0
    refine ⟨A, c, e, fun Bd w hok => ?_, ha⟩
    obtain ⟨A', c', e', h', _⟩ := key Bd w hok
    rw [e] at e'
    injection e' with e1 e2 e3
    subst e1 e3
    exact h'
end AM
namespace Go.Proofs.YtfbkkgfkhhibfaaGreat
open Go Go.RowKit Iv AM
set_option linter.unusedVariables false
set_option linter.unusedSimpArgs false
theorem traceN_any (w : World) (B : Nat) (A1 : Option Addr) (n1 c1 : Nat) (xs : Bytes) (hx : Lies w B 1 A1 n1 (xs.map bv)) (hc1 : n1 ≤ c1) (hn1 : n1 ≤ 1000) (ho1 : A1 = none → c1 = 0) (A2 : Option Addr) (m c2 : Nat) (ys : Bytes) (hy : Lies w B 1 A2 m (ys.map bv)) (hc2 : m ≤ c2) (hm : m ≤ 1000) (ho2 : A2 = none → c2 = 0) :
    Calls Tryz.prog 9 #[.slice A1 n1 c1, .slice A2 m c2] w fun e w' => TrcN w B m e w' := by
  have l1 : xs.length = n1 := by have := hx.1; rw [List.length_map] at this; omega
  have l2 : ys.length = m := by have := hy.1; rw [List.length_map] at this; omega
  refine (join (trace_ok xs ys (by omega) (by omega)).2.2 w B _ ⟨rfl, fun j v hv => ?_⟩).mono ?_
  · match j, hv with
    | 0, hv => injection hv with hv; subst hv; exact ⟨_, rfl, .pv (rep_bytes hx hc1 ho1)⟩
    | 1, hv => injection hv with hv; subst hv; exact ⟨_, rfl, .pv (rep_bytes hy hc2 ho2)⟩
  rintro e w' ⟨r, v, g, Ψ, loc, rfl, ⟨-, -, n, ss, es, rfl, h1, h4, h60, _, hl, hev⟩, hv, hok⟩
  cases hv with
  | @agg _ us f hs hx hr =>
    obtain ⟨a0, c0, e0, i0, b0⟩ := in1_map ceL CeR.r 5 48 (fun _ => rfl) (by omega) (fun a p hp => by simp only [CeR.r, List.mem_cons, List.not_mem_nil, or_false] at hp; rcases hp with rfl | rfl | rfl | rfl | rfl <;> exact ⟨_, rfl, rfl⟩) (by decide) (by omega) (hr 0 _ rfl) hok.fzIn
    obtain ⟨a1, c1, e1, i1, b1⟩ := in1_map lkL lkR 2 24 (fun _ => rfl) (by omega) (fun a p hp => by simp only [lkR, List.mem_cons, List.not_mem_nil, or_false] at hp; rcases hp with rfl | rfl <;> exact ⟨_, rfl, rfl⟩) (by decide) (by omega) (hr 1 _ rfl) hok.fzIn
    obtain ⟨a2, c2, e2, i2, b2⟩ := in1_map cdL cdR 2 24 (fun _ => rfl) (by omega) (fun a p hp => by simp only [cdR, List.mem_cons, List.not_mem_nil, or_false] at hp; rcases hp with rfl | rfl <;> exact ⟨_, rfl, rfl⟩) (by decide) (by omega) (hr 2 _ rfl) hok.fzIn
    obtain ⟨a3, c3, e3, i3, b3⟩ := in1_map fuL (fun s => [strP s]) 1 16 (fun _ => rfl) (by omega) (fun a p hp => by simp only [List.mem_cons, List.not_mem_nil, or_false] at hp; subst hp; exact ⟨_, rfl, rfl⟩) (by decide) (by omega) (hr 3 _ rfl) hok.fzIn
    obtain ⟨a4, c4, e4, i4, b4⟩ := in1_map (Mk.thNames n) (fun s => [strP s]) 1 16 (fun _ => rfl) (by omega) (fun a p hp => by simp only [List.mem_cons, List.not_mem_nil, or_false] at hp; subst hp; exact ⟨_, rfl, rfl⟩) (by rw [Mk.thNames_len]; omega) (by omega) (hr 4 _ rfl) hok.fzIn
    obtain ⟨a5, c5, e5, i5, b5⟩ := in1_map ss siR 3 24 (fun _ => rfl) (by omega) (fun a p hp => by simp only [siR, List.mem_cons, List.not_mem_nil, or_false] at hp; rcases hp with rfl | rfl | rfl <;> exact ⟨_, rfl, rfl⟩) (by omega) (by omega) (hr 5 _ rfl) hok.fzIn
    have w0 := at_cell ceL
    have w1 := at_lock lkL
    have w2 := at_cond cdL
    have w3 := at_str fuL
    have w4 := at_str (Mk.thNames n)
    have w5 := at_site ss
    rw [Mk.thNames_len] at e4 i4 b4 w4
    obtain ⟨A, c, e6, hlc, hE⟩ : ∃ A c, f 6 = .slice A es.length c ∧ es.length ≤ c ∧ ∀ Bd w, FzIn Ψ Bd w → Evs w Bd A es.length (es.map EvA.ev) := by
      have := hr 6 _ rfl
      cases this with
      | pv h => exact evs_rep h
    have hus : us = #[.slice a0 ceL.length c0, .slice a1 lkL.length c1, .slice a2 cdL.length c2, .slice a3 fuL.length c3, .slice a4 n c4, .slice a5 ss.length c5, .slice A es.length c] := by
      refine Array.ext (by rw [hs]; rfl) (fun j h1 h2 => ?_)
      have h3 : j < 7 := h2
      have q := hx j h3
      rw [Array.getElem?_eq_getElem h1] at q
      injection q with q
      rw [q]
      obtain rfl | rfl | rfl | rfl | rfl | rfl | rfl : j = 0 ∨ j = 1 ∨ j = 2 ∨ j = 3 ∨ j = 4 ∨ j = 5 ∨ j = 6 := by omega
      · exact e0
      · exact e1
      · exact e2
      · exact e3
      · exact e4
      · exact e5
      · exact e6
    subst hus
    have WI := fun (Bd : Nat) (w : World) (hf : FzIn Ψ Bd w) => (⟨i0 Bd w hf, i1 Bd w hf, i2 Bd w hf, i3 Bd w hf, i4 Bd w hf, i5 Bd w hf, w0, w1, w2, w3, w4, w5, b0, b1, b2, b3, b4, b5⟩ : WIn w Bd _ _ _ _ _ _ _ _ _ _ _ _ _ _ _ _ _ _ _ _ _ _ _ _)
    have hlm : (es.map EvA.ev).length = es.length := List.length_map _
    refine ⟨a0, _, c0, _, a1, _, c1, _, a2, _, c2, _, a3, _, c3, _, a4, n, c4, _, a5, _, c5, _, A, c, es.map EvA.ev, by rw [hlm], by rw [hlm]; exact hlc, ⟨h1, h4, by rw [hlm]; omega, by rw [hlm]; exact hE _ _ hok.fzIn, fun k e hk => ?_⟩, WI _ _ hok.fzIn, fun W g hW hg1 hg2 => ⟨by rw [hlm]; exact hE _ _ (ok_apart hok hW hg1 hg2), WI _ _ (ok_apart hok hW hg1 hg2)⟩, ok_grown hok⟩
    rw [List.getElem?_map] at hk
    cases hp : es[k]? with
    | none => rw [hp] at hk; simp at hk
    | some x =>
      rw [hp] at hk
      simp only [Option.map_some, Option.some.injEq] at hk
      subst hk
      exact evG_ok (hev k x hp)
theorem traceC : TraceC := traceN_any
end Go.Proofs.YtfbkkgfkhhibfaaGreat

/- The plan of law 14, by the abstract machine. -/
namespace AM
open Go Go.Proofs Go.Proofs.YtfbkkgfkhhibfaaGreat Mk Iv
set_option linter.unusedVariables false
set_option linter.unusedSimpArgs false
set_option maxRecDepth 20000
set_option maxHeartbeats 8000000
@[go_sem] theorem tysP : lay Tryz.prog 39 = some (true, 4) ∧
  lay Tryz.prog 24 = some (true, 4) ∧
  lay Tryz.prog 68 = some (true, 2) ∧
  lay Tryz.prog 36 = some (false, 1) ∧
  elemT Tryz.prog 36 = some (68, 2, 16) ∧
  fldT Tryz.prog 39 0 = some 0 ∧
  fldT Tryz.prog 39 1 = some 1 ∧
  fldT Tryz.prog 39 2 = some 2 ∧
  fldT Tryz.prog 39 3 = some 3 ∧
  fldT Tryz.prog 24 0 = some 0 ∧
  fldT Tryz.prog 24 1 = some 1 ∧
  fldT Tryz.prog 24 2 = some 2 ∧
  fldT Tryz.prog 24 3 = some 3 ∧
  zeroT Tryz.prog 39 = some [.pv (intP 0), .emp, .pv (intP 0), .emp] ∧
  zeroT Tryz.prog 68 = some [.pv (intP 0), .pv (intP 0)] ∧
  placesT Tryz.prog 39 = some [(0, 1), (1, 1), (2, 1), (3, 1)] ∧
  placesT Tryz.prog 68 = some [(0, 1), (1, 1)] := by and_intros <;> kernel_rfl
@[go_sem] def plR (p : Pln) : List PV := [intP p.cap, .sl (p.flushes.map chR), intP p.stop, .sl (inL p.cuts)]
def us12 : Nat → List (Nat × Nat) := fun i => if i = 5 then [(1, 3), (1, 5), (1, 6), (1, 10), (3, 10), (5, 10), (6, 10), (1, 12), (3, 12), (5, 12), (6, 12), (1, 13), (3, 13), (5, 13), (6, 13)] else if i = 9 then [(1, 3), (1, 5), (1, 6)] else []
attribute [local go_sem] List.set_cons_zero List.set_cons_succ List.map_append List.length_append List.map_cons List.map_nil List.length_singleton
theorem plan14_ok (n : Nat) (h1 : 1 ≤ n) (h4 : n ≤ 4) (cap stop : Nat) (hc : cap < 256) (hs : stop < 256) (xs ys : List UInt8) (hx : xs.length ≤ 9223372036854775807) (hy : ys.length ≤ 9223372036854775807) : FnOk Tryz.prog 10 [rw_ [.sc (.int .u8 cap), .sc (.int .u8 stop), u8L xs, u8L ys], .pv (intP n)] (fun r => ∃ p, PlnG n p ∧ r = rw_ (plR p)) := by
  refine wf Tryz.func10 us12 (h := fun R hR => ?_)
  refine wb ?_ <;> intros
  have hC8 : IntKind.i64.wrap ((cap : Int).tmod 8 + 1) = ((cap % 8 + 1 : Nat) : Int) := by
    show IntKind.i64.wrap (((cap % 8 : Nat) : Int) + 1) = _
    rw [IntWalk.i64_in _ (by omega)]
    omega
  generalize IntKind.i64.wrap ((cap : Int).tmod 8 + 1) = c0 at hC8
  refine sr_ghost 88 1 68 2 rfl rfl ?_
  refine wl (fun u : List (Int × Int) => [(1, .pv (intP n)), (2, .ptr 0 0), (4, .ptr 1 0), (5, .ptr 2 0), (6, .pv (intP u.length))]) (fun u => [some (.box [.pv (.sc (.int .u8 cap)), .pv (.sc (.int .u8 stop)), .pv (u8L xs), .pv (u8L ys)]), some (.box [.pv (intP 0), .emp, .pv (intP 0), .emp]), some (.box [.pv (intP c0), .own 3 u.length, .pv (intP stop), .emp]), some (.row 68 2 (u.map chR))]) (fun u => u.length ≤ xs.length ∧ u.length ≤ 20 ∧ ∀ f ∈ u, 0 ≤ f.1 ∧ f.1 ≤ 255 ∧ 0 ≤ f.2 ∧ f.2 < n) (fun u => xs.length - u.length) [] ⟨Nat.zero_le _, Nat.zero_le _, fun f h => nomatch h⟩ (vm [0, 8, 88, 112]) (fun u ⟨hu, hu20, hf⟩ => ?_)
  refine wb (A2.mk ?_ (A2.mk ?_ ?_)) <;> intros
  · have h2 : u.length < xs.length := by omega
    have hg := List.getElem?_eq_getElem h2
    generalize xs[u.length] = x at hg
    have hx8 := x.toNat_lt
    have hxr : (xs.map fun x => [PV.sc (.int .u8 x.toNat)])[u.length]? = some [.sc (.int .u8 x.toNat)] := by rw [List.getElem?_map, hg]; rfl
    refine row_get (by omega) hxr rfl ?_
    refine wb ?_ <;> intros
    refine row_get (by omega) hxr rfl ?_
    refine wb ?_ <;> intros
    have hd : IntKind.i64.wrap ((x.toNat : Int).tdiv 4) = ((x.toNat / 4 : Nat) : Int) := by
      show IntKind.i64.wrap ((x.toNat / 4 : Nat) : Int) = _
      exact IntWalk.i64_in _ (by omega)
    have hm : x.toNat % n < n := Nat.mod_lt _ (by omega)
    refine sr_mark ⟨u ++ [(IntKind.i64.wrap ((x.toNat : Int).tdiv 4), ((x.toNat % n : Nat) : Int))], ⟨by rw [List.length_append]; simp only [List.length_singleton]; omega, by rw [List.length_append]; simp only [List.length_singleton]; omega, fun f hm' => ?_⟩, by rw [List.length_append]; simp only [List.length_singleton]; omega, by clear hd; exact vm [0, 1, 2, 228]⟩
    rcases List.mem_append.1 hm' with hm' | hm'
    · exact hf f hm'
    · rw [List.mem_singleton.1 hm']
      dsimp only
      rw [hd]
      omega
  all_goals
    refine sr_ghost 2 3 3 1 rfl rfl ?_
    refine wl (fun v : List Int => [(1, .pv (intP n)), (2, .ptr 0 0), (4, .ptr 1 0), (5, .ptr 2 0), (7, .pv (intP v.length))]) (fun v => [some (.box [.pv (.sc (.int .u8 cap)), .pv (.sc (.int .u8 stop)), .pv (u8L xs), .pv (u8L ys)]), some (.box [.pv (intP 0), .emp, .pv (intP 0), .emp]), some (.box [.pv (intP c0), .own 3 u.length, .pv (intP stop), .own 4 v.length]), some (.row 68 2 (u.map chR)), some (.row 3 1 (inL v))]) (fun v => v.length ≤ ys.length ∧ v.length ≤ n ∧ ∀ k ∈ v, 0 ≤ k ∧ k ≤ 255) (fun v => ys.length - v.length) [] ⟨Nat.zero_le _, Nat.zero_le _, fun f h => nomatch h⟩ (vm [0, 1, 2, 3, 84]) (fun v ⟨hv, hvn, hk⟩ => ?_)
    refine wb (A2.mk ?_ (A2.mk ?_ ?_)) <;> intros
    · have h2 : v.length < ys.length := by omega
      have hg := List.getElem?_eq_getElem h2
      generalize ys[v.length] = x at hg
      have hx8 := x.toNat_lt
      have hxr : (ys.map fun x => [PV.sc (.int .u8 x.toNat)])[v.length]? = some [.sc (.int .u8 x.toNat)] := by rw [List.getElem?_map, hg]; rfl
      refine row_get (by omega) hxr rfl ?_
      refine wb ?_ <;> intros
      refine sr_mark ⟨v ++ [(x.toNat : Int)], ⟨by rw [List.length_append]; simp only [List.length_singleton]; omega, by rw [List.length_append]; simp only [List.length_singleton]; omega, fun f hm' => ?_⟩, by rw [List.length_append]; simp only [List.length_singleton]; omega, vm [0, 1, 2, 3, 157]⟩
      rcases List.mem_append.1 hm' with hm' | hm'
      · exact hk f hm'
      · rw [List.mem_singleton.1 hm']
        omega
    all_goals exact wt hR (rw_ (plR ⟨c0, u, stop, v⟩)) [(3, none), (4, none)] ⟨⟨c0, u, stop, v⟩, ⟨by show 1 ≤ c0; omega, by show c0 ≤ 8; omega, by show (0 : Int) ≤ stop; omega, by show (stop : Int) ≤ 255; omega, hu20, hf, hvn, hk⟩, rfl⟩
end AM

/- The plan of law 14, in words of the memory. -/
namespace AM
open Go Go.Proofs Go.Proofs.YtfbkkgfkhhibfaaGreat Go.RowKit Mk Iv
set_option linter.unusedVariables false
set_option linter.unusedSimpArgs false
theorem lies_ints2 {fr : Fr} {Ψ : Psi} {loc : Loc} {σ : Sto} {w : World} (hok : Ok fr Ψ loc σ w) {l : List Int} {v : Value} (h : Rep Ψ (.sl (inL l)) v) : ∃ A c, v = .slice A l.length c ∧ Lies w w.heap.size 1 A l.length (l.map Iv.iv) := by
  generalize he : inL l = els at h
  cases h with
  | nil =>
    have : l = [] := List.map_eq_nil_iff.1 he
    subst this
    exact ⟨_, _, rfl, ⟨rfl, fun h => absurd h (Nat.lt_irrefl 0)⟩⟩
  | @sl _ b o c n k f hn hnc hk hf hr =>
    subst he
    rw [List.length_map] at hn
    subst hn
    refine ⟨_, _, rfl, by simp, fun h0 => ?_⟩
    have hk1 : k = 1 := (hk _ (List.mem_map_of_mem (List.getElem_mem h0))).symm
    subst hk1
    have hc : ∀ i (hi : i < l.length), w.cell? ⟨b, o + i, none⟩ = some (Iv.iv l[i]) := fun i hi => by
      have h1 : cellOf (inL l) i 0 = some (intP l[i]) := by simp [cellOf, hi]
      have h2 := hok.fz _ _ _ (hf i 0 _ h1)
      rw [Nat.mul_one, Nat.add_zero] at h2
      rw [h2, (rep_sc (loc := loc) (.pv (hr i 0 _ h1))).1]
      rfl
    refine ⟨⟨b, o, none⟩, rfl, World.block_lt_of_cell? w _ (hc 0 h0), fun j u hu => ?_⟩
    rw [List.getElem?_map] at hu
    cases hx : l[j]? with
    | none => rw [hx] at hu; simp at hu
    | some x =>
      obtain ⟨hj, rfl⟩ := List.getElem?_eq_some_iff.1 hx
      rw [hx] at hu
      simp only [Option.map_some, Option.some.injEq] at hu
      subst hu
      have := hc j hj
      rw [← this]
      congr 1
      unfold Addr.add
      split
      · simp_all
      · rfl
theorem fls_rep {fr : Fr} {Ψ : Psi} {loc : Loc} {σ : Sto} {w : World} (hok : Ok fr Ψ loc σ w) {l : List (Int × Int)} {v : Value} (h : Rep Ψ (.sl (l.map chR)) v) : ∃ A c, v = .slice A l.length c ∧ Fls w w.heap.size A l.length l := by
  generalize he : l.map chR = els at h
  cases h with
  | nil =>
    have : l = [] := List.map_eq_nil_iff.1 he
    subst this
    exact ⟨_, _, rfl, rfl, fun k f hk => by simp at hk⟩
  | @sl _ b o c n k f hn hnc hk hf hr =>
    subst he
    rw [List.length_map] at hn
    subst hn
    refine ⟨_, _, rfl, rfl, fun i x hx => ?_⟩
    have hk2 : k = 2 := (hk _ (List.mem_map_of_mem (List.mem_of_getElem? hx))).symm
    subst hk2
    have hs : ∀ j v, (chR x)[j]? = some (.sc v) → w.cell? ⟨b, o + i * 2 + j, none⟩ = some v := fun j v hq => by
      have h1 : cellOf (l.map chR) i j = some (.sc v) := by simp only [cellOf, List.getElem?_map, hx, Option.map_some, Option.bind_some]; exact hq
      rw [Nat.add_assoc, hok.fz _ _ _ (hf i j _ h1), (rep_sc (loc := loc) (.pv (hr i j _ h1))).1]
    have h0 := hs 0 _ rfl
    exact ⟨b, o, rfl, World.block_lt_of_cell? w _ h0, h0, hs 1 _ rfl⟩
end AM
namespace Go.Proofs.YtfbkkgfkhhibfaaGreat
open Go Go.RowKit Iv AM
set_option linter.unusedVariables false
set_option linter.unusedSimpArgs false
theorem plan14_any (w : World) (n cap stop : Nat) (h1 : 1 ≤ n) (h4 : n ≤ 4) (hc : cap < 256) (hs : stop < 256) (A1 : Option Addr) (n1 c1 B1 : Nat) (xs : Bytes) (hx : Lies w B1 1 A1 n1 (xs.map bv)) (hc1 : n1 ≤ c1) (hm1 : c1 ≤ maxLen) (ho1 : A1 = none → c1 = 0) (A2 : Option Addr) (n2 c2 B2 : Nat) (ys : Bytes) (hy : Lies w B2 1 A2 n2 (ys.map bv)) (hc2 : n2 ≤ c2) (hm2 : c2 ≤ maxLen) (ho2 : A2 = none → c2 = 0) :
    Calls Tryz.prog 10 #[.agg #[.int .u8 (cap : Int), .int .u8 (stop : Int), .slice A1 n1 c1, .slice A2 n2 c2], .int .i64 (n : Int)] w fun e w' =>
      ∃ (p : Pln) (Af : Option Addr) (cf : Nat) (Ac : Option Addr) (cc : Nat), e = .returned (.agg (planV p Af p.flushes.length cf Ac p.cuts.length cc)) ∧ PlnG n p ∧ Fls w' w'.heap.size Af p.flushes.length p.flushes ∧ Lies w' w'.heap.size 1 Ac p.cuts.length (p.cuts.map iv) ∧ w.grownBy w' none := by
  have l1 : xs.length = n1 := by have := hx.1; rw [List.length_map] at this; omega
  have l2 : ys.length = n2 := by have := hy.1; rw [List.length_map] at this; omega
  unfold maxLen at hm1 hm2
  refine (join (plan14_ok n h1 h4 cap stop hc hs xs ys (by omega) (by omega)).2.2 w (max B1 B2) _ ⟨rfl, fun j v hv => ?_⟩).mono ?_
  · match j, hv with
    | 0, hv =>
      injection hv with hv
      subst hv
      refine ⟨_, rfl, .agg (fun j => (#[.int .u8 (cap : Int), .int .u8 (stop : Int), .slice A1 n1 c1, .slice A2 n2 c2] : Array Value).getD j undef) rfl (fun j hj => ?_) (fun j u hu => ?_)⟩
      · have h4 : j < 4 := hj
        obtain rfl | rfl | rfl | rfl : j = 0 ∨ j = 1 ∨ j = 2 ∨ j = 3 := by omega
        all_goals rfl
      · match j, hu with
        | 0, hu => injection hu with hu; subst hu; exact .pv (.sc rfl)
        | 1, hu => injection hu with hu; subst hu; exact .pv (.sc rfl)
        | 2, hu => injection hu with hu; subst hu; exact .pv (rep_bytes (hx.more (Nat.le_max_left B1 B2)) hc1 ho1)
        | 3, hu => injection hu with hu; subst hu; exact .pv (rep_bytes (hy.more (Nat.le_max_right B1 B2)) hc2 ho2)
    | 1, hv => injection hv with hv; subst hv; exact ⟨_, rfl, .pv (.sc rfl)⟩
  rintro e w' ⟨r, v, g, Ψ, loc, rfl, ⟨-, -, p, hp, rfl⟩, hv, hok⟩
  cases hv with
  | @agg _ us f hz hx' hr =>
    have e0 := (rep_sc (hr 0 _ rfl)).1
    have e2 := (rep_sc (hr 2 _ rfl)).1
    obtain ⟨Af, cf, e1, hF⟩ : ∃ A c, f 1 = .slice A p.flushes.length c ∧ Fls w' w'.heap.size A p.flushes.length p.flushes := by
      have := hr 1 _ rfl
      cases this with
      | pv h => exact fls_rep hok h
    obtain ⟨Ac, cc, e3, hC⟩ : ∃ A c, f 3 = .slice A p.cuts.length c ∧ Lies w' w'.heap.size 1 A p.cuts.length (p.cuts.map iv) := by
      have := hr 3 _ rfl
      cases this with
      | pv h => exact lies_ints2 hok h
    have hus : us = planV p Af p.flushes.length cf Ac p.cuts.length cc := by
      refine Array.ext (by rw [hz]; rfl) (fun j h1 h2 => ?_)
      have h3 : j < 4 := h2
      have q := hx' j h3
      rw [Array.getElem?_eq_getElem h1] at q
      injection q with q
      rw [q]
      obtain rfl | rfl | rfl | rfl : j = 0 ∨ j = 1 ∨ j = 2 ∨ j = 3 := by omega
      · exact e0
      · exact e1
      · exact e2
      · exact e3
    subst hus
    exact ⟨p, Af, cf, Ac, cc, rfl, hp, hF, hC, ok_grown hok⟩
theorem planC : PlanC := plan14_any
end Go.Proofs.YtfbkkgfkhhibfaaGreat
