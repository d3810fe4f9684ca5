/- The stable sort of records by their numbers: the family's walks at this program. -/
import Derived.Test.YtlofjhcjjcohfaaStb
import Derived.Test.YtlofjhcjjcohfaaPtr3
import Derived.Test.YtlofjhcjjcohfaaBrow
import Derived.Sort.OwnSorted
namespace Go.Proofs.Ytlofjhcjjcohfaa
open Go Go.Shelf Go.RowKit Go.Lib Go.Sort Iv
set_option linter.unusedVariables false

theorem sortLays : SortLays Try.prog 8 where
  mixed := by kernel_rfl
  f62 := Try.func62
  f77 := Try.func77
  f86 := Try.func86
  f87 := Try.func87
  f88 := Try.func88
  f89 := Try.func89
  t0 := Try.underlying0
  a0 := fun w => by kernel_rfl
  z0 := fun w => by kernel_rfl
  v0 := fun w => by kernel_rfl
  t3 := Try.underlying3
  a3 := fun w => by kernel_rfl
  z3 := fun w => by kernel_rfl
  v3 := fun w => by kernel_rfl
  t4 := Try.underlying4
  a4 := fun w => by kernel_rfl
  z4 := fun w => by kernel_rfl
  v4 := fun w => by kernel_rfl
  t36 := Try.underlying36
  a36 := fun w => by kernel_rfl
  z36 := fun w => by kernel_rfl
  v36 := fun w => by kernel_rfl
  t124 := Try.underlying124
  a124 := fun w => by kernel_rfl
  z124 := fun w => by kernel_rfl
  v124 := fun w => by kernel_rfl
  t96 := Try.underlying96
  a96 := fun w => by kernel_rfl
  z96 := fun w => by kernel_rfl
  v96 := fun w => by kernel_rfl
  aE := fun w => by kernel_rfl
  zE := fun w => by kernel_rfl

/-- A record with the addresses of its lists. -/
structure RC where
  r : Rec
  Ad : Option Addr
  nd : Nat
  cd : Nat
  Af : Option Addr
  nf : Nat
  cf : Nat
instance : Inhabited RC := ⟨⟨⟨0, ⟨0, 0, 0, 0, 0, [], []⟩⟩, none, 0, 0, none, 0, 0⟩⟩
def encR (x : RC) : List Value := (recV x.r x.Ad x.nd x.cd x.Af x.nf x.cf).toList
def cmpR (x y : RC) : Int := if x.r.seq < y.r.seq then -1 else if y.r.seq < x.r.seq then 1 else 0
theorem encR_len (x : RC) : (encR x).length = 8 := rfl
theorem encR_one (x : RC) : ∀ v ∈ encR x, v.oneCell' = true := by
  intro v hv
  simp only [encR, recV, List.mem_cons, List.not_mem_nil, or_false] at hv
  rcases hv with h | h | h | h | h | h | h | h <;> rw [h] <;> rfl
theorem ltR (x y : RC) : ltOf cmpR x y = decide (x.r.seq < y.r.seq) := by
  unfold ltOf cmpR
  apply decide_eq_decide.2
  split
  · omega
  · split <;> omega
theorem swoR : SWO (ltOf cmpR) where
  irrefl := fun x => by rw [ltR]; simp
  trans := fun x y z h1 h2 => by rw [ltR] at h1 h2 ⊢; simp at h1 h2 ⊢; omega
  ntrans := fun x y z h1 h2 => by rw [ltR] at h1 h2 ⊢; simp at h1 h2 ⊢; omega

set_option maxRecDepth 100000 in
set_option maxHeartbeats 800000 in
theorem cmpR_any (x y : RC) (w : World) : Calls Try.prog 63 #[.agg (encR x).toArray, .agg (encR y).toArray] w fun e w' => e = .returned (.int .i64 (cmpR x y)) ∧ ∃ os, w' = grow w os := by
  unfold encR recV
  go_enter Try.func63, Try.ntmps63
  have e1 : (x.r.seq != x.r.seq) = false := by simp
  have e2 : (y.r.seq != y.r.seq) = false := by simp
  unfold cmpR
  by_cases h1 : x.r.seq < y.r.seq
  · go_wp2
    go_ret
    exact ⟨rfl, _, by rw [alloc_eq_grow, alloc_eq_grow, grow_grow]⟩
  · by_cases h2 : y.r.seq < x.r.seq
    · go_wp2
      go_ret
      exact ⟨rfl, _, by rw [alloc_eq_grow, alloc_eq_grow, grow_grow]⟩
    · go_wp2
      go_ret
      exact ⟨rfl, _, by rw [alloc_eq_grow, alloc_eq_grow, grow_grow]⟩
theorem cmpLays (blk off size : Nat) (w : World) : CmpLays Try.prog 63 #[] encR 8 cmpR blk off size w := fun m os dk hs x y =>
  (cmpR_any x y _).mono fun e w' ⟨he, os', hw⟩ => ⟨he, 0, os', hw⟩

theorem listOf {α : Type} {P : Nat → α → Prop} (n : Nat) (h : ∀ i, i < n → ∃ r, P i r) : ∃ rs : List α, rs.length = n ∧ ∀ k r, rs[k]? = some r → P k r := by
  induction n with
  | zero => exact ⟨[], rfl, fun k r hr => by simp at hr⟩
  | succ n ih =>
    obtain ⟨rs, hl, hp⟩ := ih fun i hi => h i (by omega)
    obtain ⟨r, hr⟩ := h n (by omega)
    refine ⟨rs ++ [r], by simp [hl], fun k q hq => ?_⟩
    by_cases hk : k < n
    · rw [List.getElem?_append_left (by omega)] at hq
      exact hp k q hq
    · have hkl : k < n + 1 := by have := (List.getElem?_eq_some_iff.1 hq).1; simp [hl] at this; omega
      have hkn : k = n := by omega
      subst hkn
      rw [List.getElem?_append_right (by omega), hl, Nat.sub_self] at hq
      simp at hq
      rw [← hq]
      exact hr

theorem heap_sortK {w : World} {g n : Nat} {os : Array Obj} {cur F : Array Value} {e : TypeId} {fr : Nat × Nat} (hb : w.heap[g]? = some (.cells cur e fr)) :
    (grow (putRow id (Sort.ahead w n) g 0 F) os).heap[g]? = some (.cells (putCells id 0 F cur) e fr) := by
  have hg : g < w.heap.size := (Array.getElem?_eq_some_iff.1 hb).1
  rw [heap_grow_old _ _ (by simpa using hg)]
  simp [putRow, mapBlock, Sort.ahead, Array.getElem?_modify, hb, onCells]
theorem grownBy_sortK {w : World} {g n : Nat} {os : Array Obj} (F : Array Value) : w.grownBy (grow (putRow id (Sort.ahead w n) g 0 F) os) (some g) := by
  refine ⟨rfl, rfl, rfl, by simp, fun k hk hne => ?_⟩
  rw [heap_grow_old _ _ (by simpa using hk)]
  have : g ≠ k := fun e => hne (by rw [e])
  simp [putRow, mapBlock, Sort.ahead, Array.getElem?_modify, this]
theorem take_putK (cur F : Array Value) (h : F.size ≤ cur.size) : (putCells id 0 F cur).toList.take F.size = F.toList := by
  apply List.ext_getElem?
  intro j
  by_cases hj : j < F.size
  · rw [List.getElem?_take_of_lt hj, Array.getElem?_toList]
    simp [putCells, hj, show j < cur.size by omega]
  · rw [List.getElem?_take_eq_none (by omega), List.getElem?_eq_none (by simp; omega)]
theorem flat_get (d : Array RC) (k j : Nat) (hk : k < d.size) (hj : j < 8) : (flatK encR 8 d).toList[k * 8 + j]? = (encR d[k]!)[j]? := by
  have h1 : k * 8 + j < d.size * 8 := by omega
  have h2 := get_flatK encR 8 d (k * 8 + j) h1
  rw [show (k * 8 + j) / 8 = k by omega, show (k * 8 + j) % 8 = j by omega] at h2
  have hs : k * 8 + j < (flatK encR 8 d).size := by rw [size_flatK]; exact h1
  have hj' : j < (encR d[k]!).length := by rw [encR_len]; exact hj
  rw [Array.getElem?_toList, Array.getElem?_eq_getElem hs, List.getElem?_eq_getElem hj', ← getElem!_pos (flatK encR 8 d) (k * 8 + j) hs, h2, getElem!_pos (encR d[k]!) j hj']

set_option maxRecDepth 100000 in
set_option maxHeartbeats 1600000 in
theorem insNil_any (w : World) : Calls Try.prog 86 #[.slice none 0 0, .int .i64 0, .int .i64 0, .func (.func 63) #[] #[]] w fun e w' => e = .returned (.tuple #[]) ∧ w' = w := by
  go_enter Try.func86, Try.ntmps86
  go_wp2
  go_loopw [8] (fun a wr => a = .int .i64 1 ∧ Hid (wr = w)) (fun _ _ => 0)
  case atStart => exact ⟨rfl, Lib.hid rfl⟩
  case round =>
    obtain ⟨rfl, H1⟩ := hrel
    go_wp2
    go_end0
    exact ⟨rfl, H1.out⟩
set_option maxRecDepth 100000 in
set_option maxHeartbeats 1600000 in
theorem stableNil_any (w : World) : Calls Try.prog 77 #[.slice none 0 0, .int .i64 0, .func (.func 63) #[] #[]] w fun e w' => e = .returned (.tuple #[]) ∧ w' = w := by
  go_enter Try.func77, Try.ntmps77
  go_wp2_with fail
  go_loopw [7, 8] (fun a b wr => a = .int .i64 0 ∧ b = .int .i64 20 ∧ Hid (wr = w)) (fun _ _ _ => 0)
  case atStart => exact ⟨rfl, rfl, Lib.hid rfl⟩
  case round =>
    obtain ⟨rfl, rfl, H1⟩ := hrel
    go_wp2_with fail
    refine (insNil_any _).mono ?_
    rintro e w2 ⟨rfl, rfl⟩
    go_wp2_with fail
    go_loopw [6] (fun a wr => a = .int .i64 20 ∧ Hid (wr = w)) (fun _ _ => 0)
    case atStart => exact ⟨rfl, H1⟩
    case round =>
      clear H1
      obtain ⟨rfl, H1⟩ := hrel
      go_wp2_with fail
      go_end0
      exact ⟨rfl, H1.out⟩
set_option maxRecDepth 100000 in
set_option maxHeartbeats 1600000 in
theorem sortNil_any (w : World) : Calls Try.prog 62 #[.slice none 0 0, .func (.func 63) #[] #[]] w fun e w' => e = .returned (.tuple #[]) ∧ w' = w := by
  go_enter Try.func62, Try.ntmps62
  go_wp2_with fail
  refine (stableNil_any _).mono ?_
  rintro e w2 ⟨rfl, rfl⟩
  go_wp2_with fail
  go_end0
  exact ⟨rfl, rfl⟩

/-- The records of a row are sorted by their numbers. -/
theorem sortRecs_any {base lo n : Nat} {v : Value} {css : List Value} {rs : List Rec} (w : World) (hown : w.ownsRow base 26 8 v n css) (hrow : RowsAt w lo v.ownBlock css rs) (hn : rs.length = n) (hsz : n < 1000000000) :
    Calls Try.prog 62 #[v, .func (.func 63) #[] #[]] w fun e w' => e = .returned (.tuple #[]) ∧
      ∃ rs' css', rs'.Perm rs ∧ Asc rs' ∧ w'.ownsRow base 26 8 v n css' ∧ RowsAt w' lo v.ownBlock css' rs' ∧ w.grownBy w' v.ownBlock := by
  rcases hown.2 with ⟨hnil, h0⟩ | ⟨g, cap, cur, rfl, hbase, hb, h1, h2, h3, h4⟩
  · subst hnil h0
    refine (sortNil_any w).mono ?_
    rintro e w' ⟨rfl, rfl⟩
    obtain rfl : rs = [] := List.length_eq_zero_iff.1 hn
    obtain rfl : css = [] := by have := hown.1; simpa using this
    exact ⟨rfl, [], [], List.Perm.refl _, fun i j x y _ hx => by simp at hx, World.ownsRow_nil _ _ _ _, RowsAt.nil _ _ _, World.grownBy.refl _ _⟩
  · subst hn
    obtain ⟨ds, hdl, hds⟩ := listOf (α := RC) (P := fun k x => (rs[k]? = some x.r) ∧ RowRec w lo (some g) css k x.r x.Ad x.nd x.cd x.Af x.nf x.cf) rs.length (fun k hk => by
      obtain ⟨Ad, nd, cd, Af, nf, cf, q⟩ := hrow.2 k rs[k] (List.getElem?_eq_getElem hk)
      exact ⟨⟨rs[k], Ad, nd, cd, Af, nf, cf⟩, List.getElem?_eq_getElem hk, q⟩)
    have hmap : ds.map (·.r) = rs := by
      apply List.ext_getElem?
      intro k
      rw [List.getElem?_map]
      by_cases hk : k < rs.length
      · have hk2 : k < ds.length := by omega
        rw [List.getElem?_eq_getElem hk2]
        exact (hds k _ (List.getElem?_eq_getElem hk2)).1.symm
      · rw [List.getElem?_eq_none (by omega), List.getElem?_eq_none (by omega)]
        rfl
    obtain ⟨d, hd⟩ : ∃ d : Array RC, d = ds.toArray := ⟨_, rfl⟩
    have hdsz : d.size = rs.length := by rw [hd]; simp [hdl]
    have hdk : ∀ k, k < d.size → ds[k]? = some d[k]! := fun k hk => by
      have : k < ds.length := by omega
      rw [List.getElem?_eq_getElem this, getElem!_pos d k hk]
      simp [hd]
    have hcss : css.length = rs.length * 8 := hown.1
    have hF : (flatK encR 8 d).toList = css := by
      apply List.ext_getElem?
      intro t
      by_cases ht : t < rs.length * 8
      · have h8 : t / 8 * 8 + t % 8 = t := by omega
        have hk : t / 8 < d.size := by omega
        have := flat_get d (t / 8) (t % 8) hk (by omega)
        rw [h8] at this
        rw [this]
        have q := (hds (t / 8) _ (hdk _ hk)).2
        have hj : t % 8 < (encR d[t / 8]!).length := by rw [encR_len]; omega
        rw [List.getElem?_eq_getElem hj]
        have := q.cells (t % 8) (encR d[t / 8]!)[t % 8] (by
          have : (encR d[t / 8]!)[t % 8]? = some (encR d[t / 8]!)[t % 8] := List.getElem?_eq_getElem hj
          unfold encR at this
          rwa [Array.getElem?_toList] at this)
        rw [h8] at this
        exact this.symm
      · rw [List.getElem?_eq_none (by simp; omega), List.getElem?_eq_none (by omega)]
    have hH : HoldsK encR 8 w g 0 d := by
      intro j hj
      rw [size_flatK] at hj
      have hs : j < (flatK encR 8 d).size := by rw [size_flatK]; exact hj
      refine ⟨?_, by simp [World.frozen?, hb]⟩
      have hc := hown.cellAt j (by omega)
      rw [Nat.zero_add, hc, ← hF, Array.getElem?_toList, Array.getElem?_eq_getElem hs, getElem!_pos (flatK encR 8 d) j hs]
      rfl
    have hglt : g < w.heap.size := (Array.getElem?_eq_some_iff.1 hb).1
    have C := sortStable_any (P := Try.prog) sortLays encR cmpR swoR 63 #[] g 0 cap d w (enters_of Try.func63 (by kernel_rfl) rfl) (cmpLays g 0 d.size w) ⟨encR_len, encR_one, hH, hglt⟩ (by omega)
    rw [hdsz] at C
    refine C.mono ?_
    rintro e w' ⟨rfl, d', hsz', hperm, hsort, nn, os, rfl⟩
    have hgr : w.grownBy (sortWorldK encR 8 w g 0 nn d' os) (some g) := by unfold sortWorldK putRowK; exact grownBy_sortK _
    have hds' : d'.size = rs.length := by omega
    have hpl : d'.toList.Perm d.toList := by
      have := hperm.2.2
      rw [← hdsz] at this
      have e1 : d'.extract 0 d.size = d' := by rw [← hperm.1]; simp
      have e2 : d.extract 0 d.size = d := by simp
      rwa [e1, e2] at this
    refine ⟨rfl, d'.toList.map (·.r), (flatK encR 8 d').toList, ?_, ?_, ⟨by simp [hds'], .inr ⟨g, cap, putCells id 0 (flatK encR 8 d') cur, rfl, hbase, ?_, h1, h2, ?_, ?_⟩⟩, ⟨by simp, ?_⟩, hgr⟩
    · have := hpl.map (·.r)
      rw [hd] at this
      simp only at this
      rwa [hmap] at this
    · intro i j x y hij hx hy
      rw [List.getElem?_map] at hx hy
      obtain ⟨a, ha, rfl⟩ := Option.map_eq_some_iff.1 hx
      obtain ⟨b, hb', rfl⟩ := Option.map_eq_some_iff.1 hy
      rw [Array.getElem?_toList] at ha hb'
      obtain ⟨hi, rfl⟩ := Array.getElem?_eq_some_iff.1 ha
      obtain ⟨hj, rfl⟩ := Array.getElem?_eq_some_iff.1 hb'
      have := hsort i j (Nat.zero_le _) hij (by omega)
      rw [ltR, getElem!_pos d' i hi, getElem!_pos d' j hj] at this
      simp at this
      exact this
    · exact heap_sortK hb
    · simp [putCells, h3]
    · have : rs.length * 8 = (flatK encR 8 d').size := by rw [size_flatK, hds']
      rw [this]
      exact take_putK cur _ (by rw [size_flatK, hds', h3]; omega)
    · intro k r hr
      rw [List.getElem?_map] at hr
      obtain ⟨a, ha, rfl⟩ := Option.map_eq_some_iff.1 hr
      have hmem : a ∈ ds := by
        have := hpl.mem_iff.1 (List.mem_of_getElem? ha)
        rw [hd] at this
        simpa using this
      obtain ⟨i, hi, hia⟩ := List.mem_iff_getElem.1 hmem
      have q := (hds i a (by rw [← hia]; exact List.getElem?_eq_getElem hi)).2
      rw [Array.getElem?_toList] at ha
      obtain ⟨hk, hka⟩ := Array.getElem?_eq_some_iff.1 ha
      have q' := q.grow hgr (.inl rfl)
      refine ⟨a.Ad, a.nd, a.cd, a.Af, a.nf, a.cf, fun j u hu => ?_, q'.ld, q'.lf, q'.od, q'.of_, q'.lod, q'.lof⟩
      have hj8 : j < 8 := by have := (Array.getElem?_eq_some_iff.1 hu).1; simpa [recV] using this
      rw [flat_get d' k j hk hj8, getElem!_pos d' k hk, hka]
      unfold encR
      rw [Array.getElem?_toList]
      exact hu
end Go.Proofs.Ytlofjhcjjcohfaa
