/- The walk of collect.Blocks (chapter 15): the range over the closure of good. -/
import Derived.Test.YtlofjhcjjcohfaaBlP
import Derived.Test.YtlofjhcjjcohfaaBlR
namespace Iv
open Go Go.RowKit
variable {F : Fence} {N : Nat} {P : Program}
/-- append of a list of cells, in a fenced walk. -/
theorem wpListIn_app (w : World) {ops : Array Oper} {rest : List Oper} {o : Oper} {a : Act} {Q : Exit → Act → World → Prop} (hg : o.guard = none) (s x : Operand) (t : TypeId)
    (hop : o.op = Op.call { callee := Callee.builtin Builtin.append, args := #[s, x], argTypes := #[t, t] })
    (base : Nat) (e : TypeId) (i : TypeInfo) (z : Value) (size bytes : Nat) (ht : P.underlying t = some (.slice e)) (hi : P.info? e = some i) (hz : i.zero = some z)
    (hsize : i.size = size) (hby : i.bytes = bytes) (hzs : z.cells.size = size) (hsz : 0 < size)
    (v : Value) (ow : Option Nat) (n : Nat) (xs : List Value) (hs : a.eval s = v) (h : App w base e size v ow n xs)
    (ad : Addr) (m c : Nat) (news : List Value) (hx : a.eval x = .slice (some ad) m c) (hm : 0 < m) (hn : news.length = m * size) (hc : ∀ j u, news[j]? = some u → w.cell? (ad.add j) = some u) (h1 : ∀ u ∈ news, u.oneCell' = true)
    (h63 : n + m ≤ maxLen) (hbytes : (n + m) * bytes ≤ 140737488355328) (hbase : base ≤ w.heap.size)
    (hK : ∀ v' w', w'.ownsRow base e size v' (n + m) (xs ++ news) → w.grownBy w' ow → At w ow v'.ownBlock → wpListIn F N P ops Q rest (a.put o.dst v') w') :
    wpListIn F N P ops Q (o :: rest) a w := by
  refine wpListIn_plain hg fun K hK' => ?_
  obtain ⟨v', w', hrun, r1, r2, r3⟩ := run_app (P := P) w base t o.type e i z size bytes ht hi hz hsize hby hzs hsz v ow n xs h ad m c news hm hn hc h1 h63 hbytes hbase
  unfold Oper.wpIn
  refine ⟨?_, ?_⟩
  · simp [Oper.about, hop, resolve, Target.leads, Sem.run_pure]
  · rw [Oper.semAt_plain F _ _ (by rw [hop]; intro c hc'; cases hc')]
    simp [execOp, hop, resolve, invoke, builtin, hs, hx, hrun, Result.andThen]
    exact hK' _ _ (hK v' w' r1 r2 r3)
end Iv
namespace Go.Proofs.Ytlofjhcjjcohfaa
open Go Go.RowKit Go.Shelf Iv
attribute [local go_sem] Oper.semAt_some
set_option linter.unusedVariables false

set_option maxHeartbeats 800000 in
theorem good_any (v u : Value) (w : World) (hv : v.oneCell' = true) (hu : u.oneCell' = true) : Calls Try.prog 61 #[v, u] w fun e w' => e = .returned (.func (.func 76) #[] #[.pointer (some ⟨w.heap.size, 0, none⟩), .pointer (some ⟨w.heap.size + 1, 0, none⟩)]) ∧ w' = (w.alloc (.cells #[v] 27)).alloc (.cells #[u] 3) := by
  go_enter Try.func61, Try.ntmps61
  go_wp2
  go_ret
  exact ⟨rfl, rfl⟩

theorem own_base {w : World} {base b2 e sz n : Nat} {v : Value} {xs : List Value} (h : w.ownsRow base e sz v n xs) (hb : b2 ≤ base) : w.ownsRow b2 e sz v n xs :=
  ⟨h.1, h.2.imp id fun ⟨g, cap, cur, e1, e2, r⟩ => ⟨g, cap, cur, e1, Nat.le_trans hb e2, r⟩⟩
theorem BlksAt.lower {w : World} {lo lo' : Nat} {o : Option Nat} {css : List Value} {xs : List Blk} (h : BlksAt w lo o css xs) (hl : lo' ≤ lo) : BlksAt w lo' o css xs :=
  ⟨h.1, fun k x hx => by
    obtain ⟨A, n, c, q1, q2, q3⟩ := h.2 k x hx
    exact ⟨A, n, c, q1, q2.lower hl, q3⟩⟩

/-- What holds between two rounds. -/
structure BlJ (w : World) (lb sb D : Nat) (R : Loop) (pre : List (Blk × Nat)) (v : Value) (css : List Value) (W : World) : Prop where
  l : Held W lb 60 #[v]
  s : Held W sb 3 #[.int .i64 (sizeB pre : Int)]
  d : W.heap[D]? = some (.deferred (some []))
  r : W.heap[D + 1]? = some (.loop R)
  own : W.ownsRow (D + 2) 38 3 v pre.length css
  blks : BlksAt W (D + 2) v.ownBlock css (pre.map (·.1))
  grown : w.grownBy W none
  o0 : w.heap.size ≤ lb
  o1 : lb < sb
  o2 : sb < D
variable {w : World} {lb sb D : Nat} {R : Loop} {pre : List (Blk × Nat)} {v : Value} {css : List Value} {W W' : World}
theorem BlJ.keep (h : BlJ w lb sb D R pre v css W) {row : Option Nat} (hg : W.grownBy W' row) (hr : ∀ g, row = some g → sb < g ∧ g < D) : BlJ w lb sb D R pre v css W' :=
  ⟨h.l.grown hg (fun e => by have := hr _ e.symm; have := h.o1; omega), h.s.grown hg (fun e => by have := hr _ e.symm; omega),
   (hg.block _ (Array.getElem?_eq_some_iff.1 h.d).1 (fun e => by have := hr _ e.symm; omega)).trans h.d,
   (hg.block _ (Array.getElem?_eq_some_iff.1 h.r).1 (fun e => by have := hr _ e.symm; omega)).trans h.r,
   own_keep h.own hg (fun g e1 e2 => by have := hr _ e2; have := (h.own.lt g e1).1; omega),
   h.blks.keep hg (fun g e => by have := hr _ e; omega),
   grownBy_trans h.grown hg (by
     cases row with
     | none => exact .inl rfl
     | some g => exact .inr ⟨g, rfl, by have := hr _ rfl; have := h.o0; have := h.o1; omega⟩), h.o0, h.o1, h.o2⟩
/-- One round: the block is appended, the size grows. -/
theorem BlJ.round (h : BlJ w lb sb D R pre v css W) {R2 : Loop} {x : Blk} {k : Nat} {A : Option Addr} {n c : Nat} {W3 W4 : World} {v' : Value} {ob : Obj}
    (hrec : RecsOff W (D + 2) v.ownBlock A n x.recs) (hnc : n ≤ c) (hcm : c ≤ maxLen) (ho : A = none → c = 0)
    (h3 : W3 = ((W.alloc ob).putObj (D + 1) (.loop R2)).alloc (.cells (blkV x A n c) 38))
    (hown : W4.ownsRow (D + 2) 38 3 v' (pre.length + 1) (css ++ (blkV x A n c).toList)) (hg4 : W3.grownBy W4 v.ownBlock) (hat : At W3 v.ownBlock v'.ownBlock) :
    BlJ w lb sb D R (pre ++ [(x, k)]) v' (css ++ (blkV x A n c).toList) (((W4.setCell ⟨lb, 0, none⟩ v').setCell ⟨sb, 0, none⟩ (.int .i64 (sizeB (pre ++ [(x, k)]) : Int))).putObj (D + 1) (.loop R)) ∧
    ∀ g, g < D + 1 → g ≠ lb → g ≠ sb → (((W4.setCell ⟨lb, 0, none⟩ v').setCell ⟨sb, 0, none⟩ (.int .i64 (sizeB (pre ++ [(x, k)]) : Int))).putObj (D + 1) (.loop R)).heap[g]? = W.heap[g]? := by
  have hDs : D + 1 < W.heap.size := (Array.getElem?_eq_some_iff.1 h.r).1
  have o0 := h.o0
  have o1 := h.o1
  have o2 := h.o2
  have g1 : W.grownBy (W.alloc ob) none := World.grownBy_alloc W _ none
  have g2 := grownBy_putObj' (W.alloc ob) (D + 1) (.loop R2)
  have g3 : ((W.alloc ob).putObj (D + 1) (.loop R2)).grownBy W3 none := by rw [h3]; exact World.grownBy_alloc _ _ none
  have gW3 : W.grownBy W3 (some (D + 1)) := grownBy_trans (grownBy_trans (grown_anyRow g1 _) g2 (.inl rfl)) (grown_anyRow g3 _) (.inl rfl)
  have hrow : ∀ g, v.ownBlock = some g → D + 2 ≤ g := fun g e => (h.own.lt g e).1
  have hrow' : ∀ g, v'.ownBlock = some g → D + 2 ≤ g ∧ g < W4.heap.size := fun g e => hown.lt g e
  have hn1 : ∀ g, g < D + 2 → some g ≠ v.ownBlock := fun g hg e => by have := hrow g e.symm; omega
  have hn1' : ∀ g, g < D + 2 → some g ≠ v'.ownBlock := fun g hg e => by have := hrow' g e.symm; omega
  obtain ⟨W5, h5⟩ : ∃ W5, W5 = W4.setCell ⟨lb, 0, none⟩ v' := ⟨_, rfl⟩
  obtain ⟨W6, h6⟩ : ∃ W6, W6 = W5.setCell ⟨sb, 0, none⟩ (.int .i64 (sizeB (pre ++ [(x, k)]) : Int)) := ⟨_, rfl⟩
  obtain ⟨W7, h7⟩ : ∃ W7, W7 = W6.putObj (D + 1) (.loop R) := ⟨_, rfl⟩
  have g5 : W4.grownBy W5 (some lb) := by rw [h5]; exact grown_store W4 lb 0 _
  have g6 : W5.grownBy W6 (some sb) := by rw [h6]; exact grown_store W5 sb 0 _
  have g7 : W6.grownBy W7 (some (D + 1)) := by rw [h7]; exact grownBy_putObj' W6 _ _
  have s4 : W.heap.size ≤ W4.heap.size := Nat.le_trans gW3.size hg4.size
  have s6 : W.heap.size ≤ W6.heap.size := Nat.le_trans (Nat.le_trans s4 g5.size) g6.size
  have keep : ∀ g, g < W.heap.size → g ≠ lb → g ≠ sb → g ≠ D + 1 → some g ≠ v.ownBlock → W7.heap[g]? = W.heap[g]? := fun g a1 a2 a3 a4 a5 =>
    (g7.block g (by omega) (fun e => a4 (by cases e; rfl))).trans ((g6.block g (Nat.lt_of_lt_of_le a1 (Nat.le_trans s4 g5.size)) (fun e => a3 (by cases e; rfl))).trans ((g5.block g (by omega) (fun e => a2 (by cases e; rfl))).trans ((hg4.block g (Nat.lt_of_lt_of_le a1 gW3.size) a5).trans (gW3.block g a1 (fun e => a4 (by cases e; rfl))))))
  rw [← h5, ← h6, ← h7]
  refine ⟨⟨?_, ?_, (keep D (by omega) (by omega) (by omega) (by omega) (hn1 D (by omega))).trans h.d, ?_, ?_, ?_, ?_, o0, o1, o2⟩, fun g a1 a2 a3 => keep g (by omega) a2 a3 (by omega) (hn1 g (by omega))⟩
  · have a4 : Held W4 lb 60 #[v] := (h.l.grown gW3 (fun e => by cases e; omega)).grown hg4 (hn1 lb (by omega))
    have a5 : Held W5 lb 60 #[v'] := by rw [h5]; exact a4.store 0 v'
    exact (a5.grown g6 (fun e => by cases e; omega)).grown g7 (fun e => by cases e; omega)
  · have a4 : Held W4 sb 3 #[.int .i64 (sizeB pre : Int)] := (h.s.grown gW3 (fun e => by cases e; omega)).grown hg4 (hn1 sb (by omega))
    have a6 : Held W6 sb 3 #[.int .i64 (sizeB (pre ++ [(x, k)]) : Int)] := by rw [h6]; exact (a4.grown g5 (fun e => by cases e; omega)).store 0 _
    exact a6.grown g7 (fun e => by cases e; omega)
  · rw [h7]
    exact World.putObj_heap_same (by omega)
  · rw [List.length_append]
    refine own_keep (own_keep (own_keep hown g5 (fun g e1 e2 => ?_)) g6 (fun g e1 e2 => ?_)) g7 (fun g e1 e2 => ?_)
    · cases e2; exact hn1' lb (by omega) e1.symm
    · cases e2; exact hn1' sb (by omega) e1.symm
    · cases e2; exact hn1' (D + 1) (by omega) e1.symm
  · rw [List.map_append]
    have b3 : BlksAt W3 (D + 2) v.ownBlock css (pre.map (·.1)) := h.blks.keep gW3 (fun g e => by cases e; omega)
    have b4 := (b3.snoc (x := x) (hrec.keep gW3 (fun g e => by cases e; omega)) hnc hcm ho).grow hg4 hat
    exact ((b4.keep g5 (fun g e => by cases e; omega)).keep g6 (fun g e => by cases e; omega)).keep g7 (fun g e => by cases e; omega)
  · have q3 := grownBy_trans h.grown gW3 (.inr ⟨_, rfl, by omega⟩)
    have q4 : w.grownBy W4 none := gr_row2 q3 hg4 (fun g e => by have := hrow g e; omega)
    exact grownBy_trans (grownBy_trans (grownBy_trans q4 g5 (.inr ⟨_, rfl, o0⟩)) g6 (.inr ⟨_, rfl, by omega⟩)) g7 (.inr ⟨_, rfl, by omega⟩)

section
variable {F : Fence} {N : Nat} {P : Program}
/-- A range over a function, by what its one call does; the loop's record lies in block w.heap.size + 1. -/
theorem wpIn_rangeFunc_call {g : Operand} {ps : Array Tmp} {assign body : Code} {Q : Exit → Act → World → Prop} {a : Act} {w : World} (hro : F.round = none) (h1 : 1 ≤ N) {gf : Nat} {lb : Array Value}
    (hg : a.eval g = .func (.func gf) #[] lb) (hFg : F.fn gf) (eg : ∀ args w, (callFunc gf args).run P w = .ok (.enter gf args) w) (I : World → Prop)
    (hcall : ∀ (fn : FuncId), F.fn fn → ∀ (rec : LoopState → Option Code → Loop), (∀ st pe, rec st pe = { state := st, pending := pe, fn, tmps := a.tmps, params := ps, assign, body, defers := w.heap.size }) →
      CallsIn F (N - 1) P gf (#[.func (.yield (w.heap.size + 1)) #[] #[]] ++ lb) ((w.alloc (.deferred (some []))).alloc (.loop (rec .ready none))) fun e W => (∃ v, e = .returned v) ∧ W.heap[w.heap.size + 1]? = some (.loop (rec .ready none)) ∧ I W)
    (hdone : ∀ (r r' : Loop) (W : World), I W → W.heap[w.heap.size + 1]? = some (.loop r) → Q .normal { a with defers := { target := .collected w.heap.size, args := #[] } :: a.defers } (W.putObj (w.heap.size + 1) (.loop r'))) :
    (Code.rangeFunc g ps assign body).wpIn F N P Q a w := by
  refine wpIn_rangeFunc ?_
  intro fn hfn
  rw [hro]
  obtain ⟨rec, hrec⟩ : ∃ rec : LoopState → Option Code → Loop, rec = fun st pe => { state := st, pending := pe, fn, tmps := a.tmps, params := ps, assign, body, defers := w.heap.size } := ⟨_, rfl⟩
  obtain ⟨W1, hW1⟩ : ∃ W1, (w.alloc (.deferred (some []))).alloc (.loop (rec .ready none)) = W1 := ⟨_, rfl⟩
  refine ⟨w.heap.size + 1, [{ target := .collected w.heap.size, args := #[] }], W1, { target := .fn (.func gf) lb, args := #[.func (.yield (w.heap.size + 1)) #[] #[]] }, W1, gf,
    #[.func (.yield (w.heap.size + 1)) #[] #[]] ++ lb, W1, ?_, ?_, ?_, ?_, fun _ => h1, ?_⟩
  · rw [← hW1, hrec]; exact run_enterLoop_outer _ _ _ _ _
  · simp only [resolve, hg]
    simp [go_sem]
  · intro f' hf'; simp [Target.leads] at hf'; subst hf'; exact hFg
  · simp [invoke, go_sem, eg]
  · rw [← hW1]
    refine (hcall fn hfn rec (fun st pe => by rw [hrec])).mono ?_
    rintro e W2 ⟨⟨v, rfl⟩, hl, hi⟩
    exact ⟨none, _, by have := run_endLoop (P := P) hl (by rw [hrec]; simp); rw [hrec] at this; exact this, hdone _ _ _ hi hl⟩
/-- A round. -/
theorem yieldAt_round {l m : Nat} {args : Array Value} {W : World} {R : Ending → World → Prop} {fn : FuncId} (hfn : F.fn fn) {tmps : Array Value} {ps : Array Tmp} {assign body : Code} {D : Nat} {rec : LoopState → Option Code → Loop}
    (hrec : ∀ st pe, rec st pe = { state := st, pending := pe, fn, tmps, params := ps, assign, body, defers := D }) (hl : W.heap[l]? = some (.loop (rec .ready none))) (hs : args.size = ps.size)
    (h : assign.wpIn (F.inRound l) m P (Exit.then (fun a₁ w₁ => w₁.heap[l]? = some (.loop (rec .ready none)) ∧ body.wpIn (F.inRound l) m P (roundPost P l R) a₁ (w₁.putObj l (.loop (rec .busy none)))) (fun _ _ _ => False)) { tmps := (ps.zip args).foldl (fun t (p, v) => t.setIfInBounds p v) tmps, defers := [] } W) :
    YieldAt F m P l args W R := by
  have hy := run_yield (P := P) (args := args) hl (by rw [hrec]; exact hs)
  rw [hrec] at hy
  refine ⟨fn, _, assign, body, hy, roundIn_of_wpIn hfn (wpIn_mono h ?_)⟩
  intro e a' w' hq
  cases e with
  | normal =>
    obtain ⟨hl', hb⟩ := hq
    refine ⟨_, run_beginRound hl' (by rw [hrec]), ?_⟩
    have : ({ rec .ready none with state := .busy } : Loop) = rec .busy none := by rw [hrec, hrec]
    rw [this]
    exact hb
  | exit id => exact hq
  | goto t => exact hq
  | ret => exact hq
  | panic ch => exact hq
  | outgrown => exact hq
end

set_option maxRecDepth 100000 in
set_option maxHeartbeats 3200000 in
theorem blocksP_any (A : Option Addr) (n c B : Nat) (xs : Bytes) (th : Int) (w : World) (h : Lies w B 1 A n (xs.map bv)) (hB : B ≤ w.heap.size) (hnc : n ≤ c) (hcm : c ≤ maxLen) (ho : A = none → c = 0) (hn6 : n ≤ 1000000) :
    Calls Try.prog 27 #[.slice A n c, .int .i64 th] w (BlksOut (blocksAll th xs 0 (-1)) w) := by
  have HL := Lib.hid h
  have HLN := Lib.hid h.lenB
  have HO := Lib.hid ho
  clear h ho
  refine (callsIn_wide (n := 3)).1 ?_
  refine callsIn_of_wp_marks Try.func27 rfl trivial ?_ rfl
  simp only [Try.ntmps27, List.size_toArray, List.length_cons, List.length_nil, Nat.reduceAdd, Nat.reduceSub, Array.replicate_succ, Array.replicate_zero, List.push_toArray, List.append_toArray, List.nil_append, List.cons_append]
  gi_wp2_with fail
  refine ⟨trivial, ?_⟩
  refine (callsIn_wide.2 (good_any _ _ _ rfl rfl)).mono ?_
  rintro e w1 ⟨rfl, rfl⟩
  gi_wp2_with fail
  obtain ⟨W0, hW0⟩ : ∃ W0, W0 = ((((w.alloc (.cells #[.slice none 0 0] 60)).alloc (.cells #[.int .i64 0] 3)).alloc (.cells #[.slice A n c] 27)).alloc (.cells #[.int .i64 th] 3)) := ⟨_, rfl⟩
  obtain ⟨lb, hlb⟩ : ∃ lb, lb = w.heap.size := ⟨_, rfl⟩
  obtain ⟨sb, hsb⟩ : ∃ sb, sb = w.heap.size + 1 := ⟨_, rfl⟩
  obtain ⟨gb, hgb⟩ : ∃ gb, gb = w.heap.size + 1 + 1 := ⟨_, rfl⟩
  obtain ⟨gt, hgt⟩ : ∃ gt, gt = w.heap.size + 1 + 1 + 1 := ⟨_, rfl⟩
  rw [← hW0, ← hgt, ← hgb, ← hsb, ← hlb]
  have hD : W0.heap.size = w.heap.size + 4 := by rw [hW0]; simp
  have q0 : Held W0 lb 60 #[.slice none 0 0] := by
    rw [hW0, hlb]; exact ((((Held.new w _ _).alloc _).alloc _).alloc _)
  have q1 : Held W0 sb 3 #[.int .i64 0] := by
    rw [hW0, hsb]
    have := (((Held.new (w.alloc (.cells #[.slice none 0 0] 60)) 3 #[.int .i64 0]).alloc (.cells #[.slice A n c] 27)).alloc (.cells #[.int .i64 th] 3))
    rwa [World.size_alloc] at this
  have q2 : Held W0 gb 27 #[.slice A n c] := by
    rw [hW0, hgb]
    have := ((Held.new ((w.alloc (.cells #[.slice none 0 0] 60)).alloc (.cells #[.int .i64 0] 3)) 27 #[.slice A n c]).alloc (.cells #[.int .i64 th] 3))
    rwa [World.size_alloc, World.size_alloc] at this
  have q3 : Held W0 gt 3 #[.int .i64 th] := by
    rw [hW0, hgt]
    have := (Held.new (((w.alloc (.cells #[.slice none 0 0] 60)).alloc (.cells #[.int .i64 0] 3)).alloc (.cells #[.slice A n c] 27)) 3 #[.int .i64 th])
    rwa [World.size_alloc, World.size_alloc, World.size_alloc] at this
  have hg0 : w.grownBy W0 none := by
    rw [hW0]
    exact grownBy_trans (grownBy_trans (grownBy_trans (World.grownBy_alloc w _ none) (World.grownBy_alloc _ _ none) (.inl rfl)) (World.grownBy_alloc _ _ none) (.inl rfl)) (World.grownBy_alloc _ _ none) (.inl rfl)
  have o1 : lb < sb ∧ sb < gb ∧ gb < gt ∧ gt < W0.heap.size ∧ w.heap.size ≤ lb ∧ B ≤ lb := by omega
  have HL0 := Lib.hid (HL.out.grown hg0 hB (fun _ e => nomatch e))
  obtain ⟨o1, o2, o3, o4, o5, o6⟩ := o1
  obtain ⟨D, hDD⟩ : ∃ D, D = W0.heap.size := ⟨_, rfl⟩
  have HQ := Lib.hid (And.intro q0 (And.intro q1 (And.intro q2 (And.intro q3 hg0))))
  clear hW0 hlb hsb hgb hgt hD q0 q1 q2 q3 hg0
  refine wpIn_rangeFunc_call rfl (by omega) (gf := 76) (lb := #[.pointer (some ⟨gb, 0, none⟩), .pointer (some ⟨gt, 0, none⟩)]) rfl trivial (enters_of Try.func76 (by kernel_rfl) rfl)
    (fun W => ∃ v css R, BlJ w lb sb W0.heap.size R (blocksAll th xs 0 (-1)) v css W) ?call ?done
  case call =>
    intro fn hfn rec hrec
    obtain ⟨q0, q1, q2, q3, hg0⟩ := HQ.out
    obtain ⟨W1, hW1⟩ : ∃ W1, (W0.alloc (.deferred (some []))).alloc (.loop (rec .ready none)) = W1 := ⟨_, rfl⟩
    have hg1 : W0.grownBy W1 none := by rw [← hW1]; exact grownBy_trans (World.grownBy_alloc W0 _ none) (World.grownBy_alloc _ _ none) (.inl rfl)
    have hL1 : W1.heap[W0.heap.size + 1]? = some (.loop (rec .ready none)) := by
      rw [← hW1]; have := World.alloc_heap_new (W0.alloc (.deferred (some []))) (.loop (rec .ready none)); rwa [World.size_alloc] at this
    have hK1 : W1.heap[W0.heap.size]? = some (.deferred (some [])) := by
      rw [← hW1]; exact (Below.heap_alloc _ _ _ (by simp)).trans (World.alloc_heap_new W0 _)
    rw [hW1]
    refine (good1_in (3 - 1) (by omega) (W0.heap.size + 1) gb gt A n c B xs th W1 (HL0.out.grown hg1 (by omega) (fun _ e => nomatch e)) (by omega) (by omega) hnc hcm HO.out hn6 (q2.grown hg1 (fun e => nomatch e)) (q3.grown hg1 (fun e => nomatch e))
      (fun pre W => ∃ v css, BlJ w lb sb W0.heap.size (rec .ready none) pre v css W) ?_ ?_ ?_).mono ?_
    · rintro p W W' ⟨v, css, hJ⟩ hg
      exact ⟨v, css, hJ.keep hg (fun g e => by cases e; exact ⟨o2, by omega⟩)⟩
    · exact ⟨.slice none 0 0, [], q0.grown hg1 (fun e => nomatch e), q1.grown hg1 (fun e => nomatch e), hK1, hL1, World.ownsRow_nil _ _ _ _, BlksAt.nil _ _ _, grownBy_trans hg0 hg1 (.inl rfl), o5, o1, by omega⟩
    · rintro pre x k Wp W A' n' c' ⟨v, css, hJ⟩ hg hr hnc' hcm' ho' hpl hpk
      have hJW := hJ.keep hg (fun g e => by cases e; exact ⟨o2, by omega⟩)
      have hoff : RecsOff W (W0.heap.size + 2) v.ownBlock A' n' x.recs := (hr.off (fun g e => (hJ.own.lt g e).2)).lower (by have := (Array.getElem?_eq_some_iff.1 hJ.r).1; omega)
      refine yieldAt_round hfn hrec hJW.r rfl ?_
      have HJW := Lib.hid hJW
      have HREC := Lib.hid hrec
      have HOFF := Lib.hid hoff
      clear hJ hg hr hoff hrec hJW
      gi_wp2_with fail
      have hJ := HJW.out
      have hDs : W0.heap.size + 1 < W.heap.size := (Array.getElem?_eq_some_iff.1 hJ.r).1
      refine ⟨(Below.heap_alloc _ _ _ hDs).trans hJ.r, ?_⟩
      obtain ⟨W2, hW2⟩ : ∃ W2, W2 = ((W.alloc (.cells #[.int .i64 x.thread, .int .i64 x.first, .slice A' n' c'] 38)).putObj (W0.heap.size + 1) (.loop (rec .busy none))) := ⟨_, rfl⟩
      rw [← hW2]
      have s2 : W2.heap.size = W.heap.size + 1 := by rw [hW2]; simp
      have gW2 : W.grownBy W2 (some (W0.heap.size + 1)) := by rw [hW2]; exact grownBy_trans (grown_anyRow (World.grownBy_alloc W _ none) _) (grownBy_putObj' _ _ _) (.inl rfl)
      have hxb : Held W2 W.heap.size 38 #[.int .i64 x.thread, .int .i64 x.first, .slice A' n' c'] := by rw [hW2]; exact (Held.new W _ _).grown (grownBy_putObj' _ _ _) (fun e => by injection e with e; omega)
      have hlb2 := hJ.l.grown gW2 (fun e => by cases e; omega)
      have hsb2 := hJ.s.grown gW2 (fun e => by cases e; omega)
      have hown2 : W2.ownsRow (W0.heap.size + 2) 38 3 v pre.length css := own_keep hJ.own gW2 (fun g e1 e2 => by injection e2 with e2; have := (hJ.own.lt _ e1).1; omega)
      obtain ⟨Av, cv, hvv, hvn, hvm, _, hvo⟩ := own_slice hJ.own
      have x0 : W2.cell? ⟨W.heap.size, 0, none⟩ = some (.int .i64 x.thread) := hxb.cell 0
      have x1 : W2.cell? ⟨W.heap.size, 1, none⟩ = some (.int .i64 x.first) := hxb.cell 1
      have x2 : W2.cell? ⟨W.heap.size, 2, none⟩ = some (.slice A' n' c') := hxb.cell 2
      have y0 : W2.cell? ⟨lb, 0, none⟩ = some v := hlb2.cell 0
      have hLB := Lib.hid hlb2
      have hSB := Lib.hid hsb2
      have HOWN2 := Lib.hid hown2
      have HW2 := Lib.hid hW2
      have hpn : pre.length ≤ n := by omega
      have hlbs : ∀ g, v.ownBlock = some g → g ≠ lb ∧ g ≠ sb := fun g e => by have := (hJ.own.lt g e).1; omega
      have HLBS := Lib.hid hlbs
      have hlb3 : lb < W2.heap.size := by omega
      have hsb3 : sb < W2.heap.size := by omega
      have hlo : W0.heap.size + 2 ≤ W2.heap.size := by omega
      have hlsn : ¬ lb = sb := by omega
      have hslt : (sizeB pre : Int) + (k : Int) ≤ 1000000 := by omega
      have hwr : IntKind.i64.wrap ((sizeB pre : Int) + (k : Int)) = (sizeB pre : Int) + (k : Int) := IntWalk.i64_in _ (by omega)
      obtain ⟨j0, hi, hz0, hz1, hz2⟩ := info_parts info_blk
      have HI := Lib.hid hi
      have HZ0 := Lib.hid hz0
      have HZ1 := Lib.hid hz1
      have HZ2 := Lib.hid hz2
      have HS2 := Lib.hid s2
      clear hW2 hxb hlb2 hsb2 hown2 hvo hi hz0 hz1 hz2 hJ gW2 hlbs s2
      subst hvv
      gi_wp2_with (gi_at_builtin; refine wpListIn_app _ rfl (.tmp 15) (.tmp 17) _ rfl (W0.heap.size + 2) 38 j0 _ 3 40 Try.underlying60 HI.out HZ0.out HZ1.out HZ2.out rfl (by omega) _ (Value.slice Av pre.length cv).ownBlock pre.length css rfl (App.own (HOWN2.out.alloc _)) ⟨W2.heap.size, 0, none⟩ 1 1 (blkV x A' n' c').toList rfl (by omega) rfl (blk_new W2 x A' n' c') (blkV_one _ _ _ _) (by unfold maxLen; omega) (by omega) (by simp; omega) ?_; intro v4 w4 hown4 hg4 hat4; obtain ⟨A4, c4, hv4, hvn4, hvm4, _, hvo4⟩ := own_slice hown4; have hl4 : w4.cell? ⟨lb, 0, none⟩ = some (.slice Av pre.length cv) := (((hLB.out.alloc _).grown hg4 (fun e => (HLBS.out _ e.symm).1 rfl)).cell 0); have hf4 : w4.frozen? ⟨lb, 0, none⟩ = false := (((hLB.out.alloc _).grown hg4 (fun e => (HLBS.out _ e.symm).1 rfl)).free 0); have hs4 : w4.cell? ⟨sb, 0, none⟩ = some (.int .i64 (sizeB pre : Int)) := (((hSB.out.alloc _).grown hg4 (fun e => (HLBS.out _ e.symm).2 rfl)).cell 0); have hsf4 : w4.frozen? ⟨sb, 0, none⟩ = false := (((hSB.out.alloc _).grown hg4 (fun e => (HLBS.out _ e.symm).2 rfl)).free 0); have HO4 := Lib.hid hown4; have HG4 := Lib.hid hg4; have HA4 := Lib.hid hat4; clear hown4 hg4 hat4; subst hv4)
      have hszE : ((sizeB (pre ++ [(x, k)]) : Nat) : Int) = (sizeB pre : Int) + (k : Int) := by unfold sizeB; rw [List.map_append, List.sum_append]; simp
      have key := HJW.out.round (k := k) (R2 := rec .busy none) HOFF.out hnc' hcm' ho' (by rw [HW2.out]; rfl) HO4.out HG4.out HA4.out
      rw [hszE] at key
      have hbusy : ((w4.setCell ⟨lb, 0, none⟩ (.slice A4 (pre.length + 1) c4)).setCell ⟨sb, 0, none⟩ (.int .i64 ((sizeB pre : Int) + (k : Int)))).heap[W0.heap.size + 1]? = some (.loop (rec .busy none)) := by
        refine (Below.heap_setCell _ _ _ _ (by show W0.heap.size + 1 ≠ sb; omega)).trans ((Below.heap_setCell _ _ _ _ (by show W0.heap.size + 1 ≠ lb; omega)).trans ((HG4.out.block _ (by rw [World.size_alloc, HS2.out]; omega) (fun e => by have := (HOWN2.out.lt _ e.symm).1; omega)).trans ((Below.heap_alloc _ _ _ (by rw [HS2.out]; omega)).trans ?_)))
        rw [HW2.out]
        exact World.putObj_heap_same (by simp; omega)
      have hend := run_endRound (P := Try.prog) none hbusy
      have hrd : ({ rec .busy none with state := .ready, pending := none } : Loop) = rec .ready none := by rw [HREC.out, HREC.out]
      simp only [Option.isNone_none, if_true] at hend
      rw [hrd] at hend
      refine ⟨_, _, hend, rfl, ⟨_, _, key.1⟩, ⟨?_, key.2 gb (by omega) (by omega) (by omega), key.2 gt (by omega) (by omega) (by omega), fun g hg => key.2 g (by omega) (by omega) (by omega)⟩⟩
      have := HG4.out.size
      simp at this ⊢
      have := HS2.out
      omega
    · rintro e W ⟨⟨v, rfl⟩, v', css, hJ⟩
      exact ⟨⟨v, rfl⟩, hJ.r, v', css, _, hJ⟩
  case done =>
    rintro r r' W ⟨v, css, R, hJ⟩ hl
    have gP := grownBy_putObj' W (W0.heap.size + 1) (.loop r')
    have hlb' := hJ.l.grown gP (fun e => by cases e; omega)
    have hsb' := hJ.s.grown gP (fun e => by cases e; omega)
    have hd' : (W.putObj (W0.heap.size + 1) (.loop r')).heap[W0.heap.size]? = some (.deferred (some [])) := (gP.block _ (Array.getElem?_eq_some_iff.1 hJ.d).1 (fun e => by injection e with e; omega)).trans hJ.d
    have hown' := own_keep hJ.own gP (fun g e1 e2 => by injection e2 with e2; have := (hJ.own.lt _ e1).1; omega)
    have hblk' := hJ.blks.keep gP (fun g e => by injection e with e; omega)
    have hgr' := grownBy_trans hJ.grown gP (.inr ⟨_, rfl, by omega⟩)
    obtain ⟨Av, cv, hvv, hvn, hvm, _, hvo⟩ := own_slice hJ.own
    obtain ⟨W9, hW9⟩ : ∃ W9, W9 = W.putObj (W0.heap.size + 1) (.loop r') := ⟨_, rfl⟩
    rw [← hW9] at hlb' hsb' hd' hown' hblk' hgr' ⊢
    have y0 : W9.cell? ⟨lb, 0, none⟩ = some v := hlb'.cell 0
    have y1 : W9.cell? ⟨sb, 0, none⟩ = some (.int .i64 (sizeB (blocksAll th xs 0 (-1)) : Int)) := hsb'.cell 0
    have HD' := Lib.hid hd'
    have HO' := Lib.hid hown'
    have HB' := Lib.hid hblk'
    have HR' := Lib.hid hgr'
    clear hW9 hJ gP hlb' hsb' hd' hown' hblk' hgr' hvo hl
    subst hvv
    gi_wp2_with fail
    refine wpIn_wide.2 ?_
    go_region
    all_goals (try gi_wp2_with fail)
    all_goals (refine ⟨by simp, .inl ⟨_, _, rfl, run_takeDeferred HD'.out, ?_⟩⟩)
    all_goals (refine ⟨_, results_tmp2 rfl _ _ _, ?_⟩)
    have gP2 : W9.grownBy (W9.drew.putObj W0.heap.size (.deferred none)) (some W0.heap.size) := by
      have := grownBy_putObj' W9.drew W0.heap.size (.deferred none)
      exact grown_then (grown_toDrew (World.grownBy.refl W9 _)) this
    exact ⟨_, css, rfl, own_base (own_keep HO'.out gP2 (fun g e1 e2 => by injection e2 with e2; have := (HO'.out.lt _ e1).1; omega)) (by omega), (HB'.out.keep gP2 (fun g e => by injection e with e; omega)).lower (by omega), grownBy_trans HR'.out gP2 (.inr ⟨_, rfl, by omega⟩)⟩
end Go.Proofs.Ytlofjhcjjcohfaa
