/- Words for a row of blocks that the call's own appends made (chapter 15): three cells each; their records lie off the row. -/
import Derived.Test.YtfbkkgfkhhibfaaGreatRrow
import Derived.Test.YtfbkkgfkhhibfaaGreatPl
namespace Go.Proofs.YtfbkkgfkhhibfaaGreat
open Go Go.RowKit Iv
set_option linter.unusedVariables false
def RecsOff (w : World) (lo : Nat) (o : Option Nat) (A : Option Addr) (n : Nat) (rs : List Rec) : Prop :=
  rs.length = n ∧ ∀ k r, rs[k]? = some r → ∃ (b f : Nat) (Ad : Option Addr) (nd cd : Nat) (Af : Option Addr) (nf cf : Nat), A = some ⟨b, f, none⟩ ∧ some b ≠ o ∧ RecN w lo b (f + k * 8) r Ad nd cd Af nf cf ∧ Off o Ad nd ∧ Off o Af nf
theorem RecsNew.off {w : World} {lo n : Nat} {A : Option Addr} {rs : List Rec} {o : Option Nat} (h : RecsNew w lo A n rs) (ho : ∀ g, o = some g → g < lo) : RecsOff w lo o A n rs :=
  ⟨h.1, fun k r hr => by
    obtain ⟨b, f, Ad, nd, cd, Af, nf, cf, e, q⟩ := h.2 k r hr
    exact ⟨b, f, Ad, nd, cd, Af, nf, cf, e, fun e2 => by have := ho b e2.symm; have := q.lob; omega, q, q.lod.off ho, q.lof.off ho⟩⟩
theorem RecsOff.new {w : World} {lo n : Nat} {A : Option Addr} {rs : List Rec} {o : Option Nat} (h : RecsOff w lo o A n rs) : RecsNew w lo A n rs :=
  ⟨h.1, fun k r hr => by
    obtain ⟨b, f, Ad, nd, cd, Af, nf, cf, e, _, q, _⟩ := h.2 k r hr
    exact ⟨b, f, Ad, nd, cd, Af, nf, cf, e, q⟩⟩
theorem RecsOff.grow {w w' : World} {lo n : Nat} {A : Option Addr} {rs : List Rec} {o o' : Option Nat} (h : RecsOff w lo o A n rs) (hg : w.grownBy w' o) (hat : At w o o') : RecsOff w' lo o' A n rs :=
  ⟨h.1, fun k r hr => by
    obtain ⟨b, f, Ad, nd, cd, Af, nf, cf, e, hb, q, o1, o2⟩ := h.2 k r hr
    refine ⟨b, f, Ad, nd, cd, Af, nf, cf, e, ?_, ⟨q.lob, Nat.lt_of_lt_of_le q.hib hg.size, fun j u hu => ?_, (q.ld.grownOff o1 hg (Nat.le_refl _)).more hg.size, (q.lf.grownOff o2 hg (Nat.le_refl _)).more hg.size, q.lod, q.lof⟩, o1.at_ q.ld (Nat.le_refl _) hat, o2.at_ q.lf (Nat.le_refl _) hat⟩
    · rcases hat with rfl | ⟨g, rfl, hge⟩
      · exact hb
      · intro e2
        injection e2 with e2
        have := q.hib
        omega
    · exact Eq.trans (World.cell?_of_block (hg.block b q.hib hb)) (q.cells j u hu)⟩
theorem RecsOff.keep {w w' : World} {lo n : Nat} {A : Option Addr} {rs : List Rec} {o row : Option Nat} (h : RecsOff w lo o A n rs) (hg : w.grownBy w' row) (hr : ∀ g, row = some g → g < lo) : RecsOff w' lo o A n rs :=
  ⟨h.1, fun k r hk => by
    obtain ⟨b, f, Ad, nd, cd, Af, nf, cf, e, hb, q, o1, o2⟩ := h.2 k r hk
    have hn := (h.new.keep hg hr).2 k r hk
    refine ⟨b, f, Ad, nd, cd, Af, nf, cf, e, hb, ⟨q.lob, Nat.lt_of_lt_of_le q.hib hg.size, fun j u hu => ?_, (q.ld.grownOff (q.lod.off hr) hg (Nat.le_refl _)).more hg.size, (q.lf.grownOff (q.lof.off hr) hg (Nat.le_refl _)).more hg.size, q.lod, q.lof⟩, o1, o2⟩
    refine Eq.trans (World.cell?_of_block (hg.block b q.hib (fun e2 => ?_))) (q.cells j u hu)
    have h1 := hr _ e2.symm
    have h2 := q.lob
    omega⟩
theorem RecsOff.lower {w : World} {lo lo' n : Nat} {A : Option Addr} {rs : List Rec} {o : Option Nat} (h : RecsOff w lo o A n rs) (hl : lo' ≤ lo) : RecsOff w lo' o A n rs :=
  ⟨h.1, fun k r hr => by
    obtain ⟨b, f, Ad, nd, cd, Af, nf, cf, e, hb, q, o1, o2⟩ := h.2 k r hr
    exact ⟨b, f, Ad, nd, cd, Af, nf, cf, e, hb, ⟨Nat.le_trans hl q.lob, q.hib, q.cells, q.ld, q.lf, q.lod.lower hl, q.lof.lower hl⟩, o1, o2⟩⟩
def blkV (x : Blk) (A : Option Addr) (n c : Nat) : Array Value := #[.int .i64 x.thread, .int .i64 x.first, .slice A n c]
def BlksAt (w : World) (lo : Nat) (o : Option Nat) (css : List Value) (xs : List Blk) : Prop :=
  css.length = xs.length * 3 ∧ ∀ k x, xs[k]? = some x → ∃ (A : Option Addr) (n c : Nat), (∀ j u, (blkV x A n c)[j]? = some u → css[k * 3 + j]? = some u) ∧ RecsOff w lo o A n x.recs ∧ n ≤ c ∧ c ≤ maxLen ∧ (A = none → c = 0)
theorem BlksAt.nil (w : World) (lo : Nat) (o : Option Nat) : BlksAt w lo o [] [] := ⟨rfl, fun k x hx => by simp at hx⟩
theorem BlksAt.grow {w w' : World} {lo : Nat} {o o' : Option Nat} {css : List Value} {xs : List Blk} (h : BlksAt w lo o css xs) (hg : w.grownBy w' o) (hat : At w o o') : BlksAt w' lo o' css xs :=
  ⟨h.1, fun k x hx => by
    obtain ⟨A, n, c, q1, q2, q3⟩ := h.2 k x hx
    exact ⟨A, n, c, q1, q2.grow hg hat, q3⟩⟩
theorem BlksAt.keep {w w' : World} {lo : Nat} {o row : Option Nat} {css : List Value} {xs : List Blk} (h : BlksAt w lo o css xs) (hg : w.grownBy w' row) (hr : ∀ g, row = some g → g < lo) : BlksAt w' lo o css xs :=
  ⟨h.1, fun k x hx => by
    obtain ⟨A, n, c, q1, q2, q3⟩ := h.2 k x hx
    exact ⟨A, n, c, q1, q2.keep hg hr, q3⟩⟩
theorem BlksAt.snoc {w : World} {lo : Nat} {o : Option Nat} {css : List Value} {xs : List Blk} (h : BlksAt w lo o css xs) {x : Blk} {A : Option Addr} {n c : Nat} (hr : RecsOff w lo o A n x.recs) (hnc : n ≤ c) (hcm : c ≤ maxLen) (ho : A = none → c = 0) : BlksAt w lo o (css ++ (blkV x A n c).toList) (xs ++ [x]) := by
  refine ⟨by rw [List.length_append, h.1, List.length_append]; unfold blkV; simp [Nat.add_mul], fun k y hy => ?_⟩
  by_cases hk : k < xs.length
  · rw [List.getElem?_append_left hk] at hy
    obtain ⟨A', n', c', z1, z2⟩ := h.2 k y hy
    refine ⟨A', n', c', fun j u hu => ?_, z2⟩
    have := z1 j u hu
    rw [List.getElem?_append_left (List.getElem?_eq_some_iff.1 this).1]
    exact this
  · have hkl : k < xs.length + 1 := by have := (List.getElem?_eq_some_iff.1 hy).1; simpa using this
    have hkn : k = xs.length := by omega
    subst hkn
    rw [List.getElem?_append_right (Nat.le_refl _), Nat.sub_self] at hy
    simp only [List.getElem?_cons_zero, Option.some.injEq] at hy
    subst hy
    refine ⟨A, n, c, fun j u hu => ?_, hr, hnc, hcm, ho⟩
    rw [List.getElem?_append_right (by rw [h.1]; omega), h.1, Nat.add_sub_cancel_left]
    simpa using hu
theorem blkV_one (x : Blk) (A : Option Addr) (n c : Nat) : ∀ u ∈ (blkV x A n c).toList, u.oneCell' = true := by
  intro u hu
  simp only [blkV, List.mem_cons, List.not_mem_nil, or_false] at hu
  rcases hu with h | h | h <;> rw [h] <;> rfl
theorem info_blk : (Tryz.prog.info? 50).map (fun i => (i.zero, i.size, i.bytes)) = some (some (.agg #[.int .i64 0, .int .i64 0, .slice none 0 0]), 3, 40) := by kernel_rfl
theorem blk_lies (w : World) (x : Blk) (A : Option Addr) (n c : Nat) :
    Lies (w.alloc (.cells (blkV x A n c) 50)) (w.alloc (.cells (blkV x A n c) 50)).heap.size 3 (some ⟨w.heap.size, 0, none⟩) 1 (blkV x A n c).toList := by
  obtain ⟨A', c', hv, _, _, hl, _⟩ := own_slice (World.ownsRow_lit (base := w.heap.size) (e := 50) (size := 3) w (blkV x A n c) 1 (Nat.le_refl _) (by unfold maxLen; omega) rfl)
  injection hv with hA
  subst hA
  exact hl
def BlksOut (l : List (Blk × Nat)) (w : World) (e : Ending) (w' : World) : Prop :=
  ∃ v css, e = .returned (.tuple #[v, .int .i64 (sizeB l : Int)]) ∧ w'.ownsRow w.heap.size 50 3 v l.length css ∧ BlksAt w' w.heap.size v.ownBlock css (l.map (·.1)) ∧ w.grownBy w' none
end Go.Proofs.YtfbkkgfkhhibfaaGreat

/- The plain law of the collected trace (chapter 15): the events whose numbers follow each other from 0 on, each of which occurs once. No program in sight. -/
namespace Iv
def Asc (s : List Rec) : Prop := ∀ (i j : Nat) (x y : Rec), i < j → s[i]? = some x → s[j]? = some y → x.seq ≤ y.seq
end Iv

/- The records of all files and what is lost of each (chapter 15). No program in sight. -/
namespace Iv
end Iv

/- Words for the walks of the two Traces (chapter 15): rows of events; blocks between two marks of the heap; files that came in. -/
namespace Go.Proofs.YtfbkkgfkhhibfaaGreat
open Go Go.RowKit Iv
set_option linter.unusedVariables false
def Rng (lo B : Nat) (row : Option Nat) : Prop := ∀ g, row = some g → g < lo ∨ B ≤ g
theorem Rng.none (lo B : Nat) : Rng lo B none := fun g e => nomatch e
structure RecB (w : World) (lo B b o : Nat) (r : Rec) (Ad : Option Addr) (nd cd : Nat) (Af : Option Addr) (nf cf : Nat) : Prop where
  lob : lo ≤ b
  hib : b < B
  cells : ∀ j u, (recV r Ad nd cd Af nf cf)[j]? = some u → w.cell? ⟨b, o + j, none⟩ = some u
  ld : Lies w B 1 Ad nd (r.ev.deps.map iv)
  lf : Lies w B 1 Af nf (r.ev.from_.map iv)
  lod : Lo lo Ad nd
  lof : Lo lo Af nf
theorem lies_keepB {w w' : World} {lo B sz n : Nat} {A : Option Addr} {xs : List Value} {row : Option Nat} (h : Lies w B sz A n xs) (hl : Lo lo A n) (hg : w.grownBy w' row) (hB : B ≤ w.heap.size) (hr : Rng lo B row) : Lies w' B sz A n xs := by
  refine ⟨h.1, fun hn => ?_⟩
  obtain ⟨ad, e, hb, hc⟩ := h.2 hn
  refine ⟨ad, e, hb, fun j u hu => ?_⟩
  refine Eq.trans (World.cell?_of_block (hg.block (ad.add j).block (by rw [addBlock]; omega) ?_)) (hc j u hu)
  rw [addBlock]
  intro e2
  have h1 := hl hn ad e
  have h2 := hr _ e2.symm
  omega
theorem RecB.keep {w w' : World} {lo B b o : Nat} {r : Rec} {Ad : Option Addr} {nd cd : Nat} {Af : Option Addr} {nf cf : Nat} {row : Option Nat} (h : RecB w lo B b o r Ad nd cd Af nf cf) (hg : w.grownBy w' row) (hB : B ≤ w.heap.size) (hr : Rng lo B row) : RecB w' lo B b o r Ad nd cd Af nf cf :=
  ⟨h.lob, h.hib, fun j u hu => Eq.trans (World.cell?_of_block (hg.block b (by have := h.hib; omega) (fun e => by have h1 := hr b e.symm; have h2 := h.lob; have h3 := h.hib; omega))) (h.cells j u hu), lies_keepB h.ld h.lod hg hB hr, lies_keepB h.lf h.lof hg hB hr, h.lod, h.lof⟩
structure EvB (w : World) (lo B : Nat) (css : List Value) (k : Nat) (r : Ev) (Ad : Option Addr) (nd cd : Nat) (Af : Option Addr) (nf cf : Nat) : Prop where
  cells : ∀ j u, (evV r Ad nd cd Af nf cf)[j]? = some u → css[k * 7 + j]? = some u
  ld : Lies w B 1 Ad nd (r.deps.map iv)
  lf : Lies w B 1 Af nf (r.from_.map iv)
  lod : Lo lo Ad nd
  lof : Lo lo Af nf
def EvsB (w : World) (lo B : Nat) (css : List Value) (rs : List Ev) : Prop :=
  css.length = rs.length * 7 ∧ ∀ k r, rs[k]? = some r → ∃ (Ad : Option Addr) (nd cd : Nat) (Af : Option Addr) (nf cf : Nat), EvB w lo B css k r Ad nd cd Af nf cf
theorem EvsB.nil (w : World) (lo B : Nat) : EvsB w lo B [] [] := ⟨rfl, fun k r hr => by simp at hr⟩
theorem EvsB.keep {w w' : World} {lo B : Nat} {css : List Value} {rs : List Ev} {row : Option Nat} (h : EvsB w lo B css rs) (hg : w.grownBy w' row) (hB : B ≤ w.heap.size) (hr : Rng lo B row) : EvsB w' lo B css rs :=
  ⟨h.1, fun k r hk => by
    obtain ⟨Ad, nd, cd, Af, nf, cf, q⟩ := h.2 k r hk
    exact ⟨Ad, nd, cd, Af, nf, cf, q.cells, lies_keepB q.ld q.lod hg hB hr, lies_keepB q.lf q.lof hg hB hr, q.lod, q.lof⟩⟩
theorem EvsB.snoc {w : World} {lo B : Nat} {css : List Value} {rs : List Ev} (h : EvsB w lo B css rs) {r : Ev} {Ad : Option Addr} {nd cd : Nat} {Af : Option Addr} {nf cf : Nat}
    (h1 : Lies w B 1 Ad nd (r.deps.map iv)) (h2 : Lies w B 1 Af nf (r.from_.map iv)) (h3 : Lo lo Ad nd) (h4 : Lo lo Af nf) : EvsB w lo B (css ++ (evV r Ad nd cd Af nf cf).toList) (rs ++ [r]) := by
  refine ⟨by rw [List.length_append, h.1, List.length_append]; unfold evV; simp [Nat.add_mul], fun k q hq => ?_⟩
  by_cases hk : k < rs.length
  · rw [List.getElem?_append_left hk] at hq
    obtain ⟨Ad', nd', cd', Af', nf', cf', z⟩ := h.2 k q hq
    refine ⟨Ad', nd', cd', Af', nf', cf', fun j u hu => ?_, z.ld, z.lf, z.lod, z.lof⟩
    have := z.cells j u hu
    rw [List.getElem?_append_left (List.getElem?_eq_some_iff.1 this).1]
    exact this
  · have hkl : k < rs.length + 1 := by have := (List.getElem?_eq_some_iff.1 hq).1; simpa using this
    have hkn : k = rs.length := by omega
    subst hkn
    rw [List.getElem?_append_right (Nat.le_refl _), Nat.sub_self] at hq
    simp only [List.getElem?_cons_zero, Option.some.injEq] at hq
    subst hq
    refine ⟨Ad, nd, cd, Af, nf, cf, fun j u hu => ?_, h1, h2, h3, h4⟩
    rw [List.getElem?_append_right (by rw [h.1]; omega), h.1, Nat.add_sub_cancel_left]
    simpa using hu
def RecsB (w : World) (lo B : Nat) (A : Option Addr) (n : Nat) (rs : List Rec) : Prop :=
  rs.length = n ∧ ∀ k r, rs[k]? = some r → ∃ (b o : Nat) (Ad : Option Addr) (nd cd : Nat) (Af : Option Addr) (nf cf : Nat), A = some ⟨b, o, none⟩ ∧ RecB w lo B b (o + k * 8) r Ad nd cd Af nf cf
def BlksB (w : World) (lo B : Nat) (css : List Value) (xs : List Blk) : Prop :=
  css.length = xs.length * 3 ∧ ∀ k x, xs[k]? = some x → ∃ (A : Option Addr) (n c : Nat), (∀ j u, (blkV x A n c)[j]? = some u → css[k * 3 + j]? = some u) ∧ RecsB w lo B A n x.recs ∧ n ≤ c ∧ c ≤ maxLen ∧ (A = none → c = 0)
theorem BlksAt.toB {w : World} {lo : Nat} {o : Option Nat} {css : List Value} {xs : List Blk} (h : BlksAt w lo o css xs) : BlksB w lo w.heap.size css xs :=
  ⟨h.1, fun k x hx => by
    obtain ⟨A, n, c, q1, q2, q3⟩ := h.2 k x hx
    refine ⟨A, n, c, q1, ⟨q2.1, fun i r hr => ?_⟩, q3⟩
    obtain ⟨b, f, Ad, nd, cd, Af, nf, cf, e, hb, q, o1, o2⟩ := q2.2 i r hr
    exact ⟨b, f, Ad, nd, cd, Af, nf, cf, e, q.lob, q.hib, q.cells, q.ld, q.lf, q.lod, q.lof⟩⟩
theorem RecsB.keep {w w' : World} {lo B n : Nat} {A : Option Addr} {rs : List Rec} {row : Option Nat} (h : RecsB w lo B A n rs) (hg : w.grownBy w' row) (hB : B ≤ w.heap.size) (hr : Rng lo B row) : RecsB w' lo B A n rs :=
  ⟨h.1, fun i r hi => by
    obtain ⟨b, f, Ad, nd, cd, Af, nf, cf, e, q⟩ := h.2 i r hi
    exact ⟨b, f, Ad, nd, cd, Af, nf, cf, e, q.keep hg hB hr⟩⟩
theorem BlksB.keep {w w' : World} {lo B : Nat} {css : List Value} {xs : List Blk} {row : Option Nat} (h : BlksB w lo B css xs) (hg : w.grownBy w' row) (hB : B ≤ w.heap.size) (hr : Rng lo B row) : BlksB w' lo B css xs :=
  ⟨h.1, fun k x hx => by
    obtain ⟨A, n, c, q1, q2, q3⟩ := h.2 k x hx
    exact ⟨A, n, c, q1, q2.keep hg hB hr, q3⟩⟩
def FIn (w : World) (B : Nat) (A : Option Addr) (n : Nat) (fs : List Bytes) : Prop :=
  fs.length = n ∧ ∀ k f, fs[k]? = some f → ∃ (b o : Nat) (Ai : Option Addr) (ni ci : Nat), A = some ⟨b, o, none⟩ ∧ b < B ∧ w.cell? ⟨b, o + k, none⟩ = some (.slice Ai ni ci) ∧ Lies w B 1 Ai ni (f.map bv) ∧ ni ≤ ci ∧ ci ≤ maxLen ∧ (Ai = none → ci = 0)
theorem FIn.grown {w w' : World} {B n : Nat} {A : Option Addr} {fs : List Bytes} {row : Option Nat} (h : FIn w B A n fs) (hg : w.grownBy w' row) (hB : B ≤ w.heap.size) (hr : ∀ g, row = some g → B ≤ g) : FIn w' B A n fs :=
  ⟨h.1, fun k f hf => by
    obtain ⟨b, o, Ai, ni, ci, e, hb, hc, hl, q⟩ := h.2 k f hf
    exact ⟨b, o, Ai, ni, ci, e, hb, Eq.trans (World.cell?_of_block (hg.block b (by omega) (fun e2 => by have := hr b e2.symm; omega))) hc, hl.grown hg hB hr, q⟩⟩
end Go.Proofs.YtfbkkgfkhhibfaaGreat

/- Plain laws of record (chapter 14): files grow, are cut, and hold the blocks of their thread. No program in sight. -/
namespace Iv
set_option linter.unusedVariables false
theorem filesOf_nocut {l : List Ev} {p : Pln} (hc : p.cuts = []) (t : Nat) : filesOf l p t = (recorded l p (lastN l p)).file t := by
  unfold filesOf
  rw [hc, List.length_nil, cutSt_zero]
def evsT (l : List Ev) (t : Int) : Nat → List Rec
  | 0 => []
  | n + 1 => evsT l t n ++ (match l[n]? with | some e => if e.thread = t then [⟨n, e⟩] else [] | none => [])
theorem evsT_succ (l : List Ev) (t : Int) (n : Nat) : evsT l t (n + 1) = evsT l t n ++ (match l[n]? with | some e => if e.thread = t then [⟨n, e⟩] else [] | none => []) := rfl
theorem evsT_mem {l : List Ev} {t : Int} : ∀ {n : Nat} {r : Rec}, r ∈ evsT l t n → ∃ k : Nat, k < n ∧ r.seq = k ∧ l[k]? = some r.ev ∧ r.ev.thread = t := by
  intro n
  induction n with
  | zero => intro r h; simp [evsT] at h
  | succ n ih =>
    intro r h
    rw [evsT_succ] at h
    rcases List.mem_append.1 h with h | h
    · obtain ⟨k, h1, h2⟩ := ih h
      exact ⟨k, by omega, h2⟩
    · cases he : l[n]? with
      | none => rw [he] at h; simp at h
      | some e =>
        rw [he] at h
        dsimp only at h
        split at h
        · rename_i ht
          simp only [List.mem_singleton] at h
          subst h
          exact ⟨n, by omega, rfl, he, ht⟩
        · simp at h
theorem evsT_asc (l : List Ev) (t : Int) : ∀ n, (evsT l t n).Pairwise (fun a b => a.seq < b.seq) := by
  intro n
  induction n with
  | zero => simp [evsT]
  | succ n ih =>
    rw [evsT_succ, List.pairwise_append]
    refine ⟨ih, ?_, fun a ha b hb => ?_⟩
    · cases he : l[n]? with
      | none => simp
      | some e => dsimp only; split <;> simp
    · obtain ⟨k, hk, h2, _⟩ := evsT_mem ha
      have hb2 : b.seq = n := by
        cases he : l[n]? with
        | none => rw [he] at hb; simp at hb
        | some e =>
          rw [he] at hb
          dsimp only at hb
          split at hb
          · simp only [List.mem_singleton] at hb; subst hb; rfl
          · simp at hb
      omega
def Chain (t : Int) : Int → Int → List Blk → Prop
  | _, _, [] => True
  | rc, la, b :: bs => (fits b = 0 ∧ b.thread = t ∧ b.first = rc ∧ (∀ r ∈ b.recs, RecOk r) ∧ ∀ r ∈ b.recs, la < r.seq) ∧ Chain t (rc + b.recs.length) (lastSeq b la) bs
def lastAll (la : Int) : List Blk → Int
  | [] => la
  | b :: bs => lastAll (lastSeq b la) bs
def recsB (bs : List Blk) : List Rec := bs.flatMap (·.recs)
def bytesB (bs : List Blk) : Bytes := bs.flatMap blkBytes
theorem lastSeq_lt {b : Blk} {la m : Int} (h : la < m) (hb : ∀ q ∈ b.recs, q.seq < m) : lastSeq b la < m := by
  unfold lastSeq
  split
  · rename_i r hr
    exact hb r (List.mem_of_getLast? hr)
  · exact h
theorem lastAll_lt {m : Int} : ∀ {bs : List Blk} {la : Int}, la < m → (∀ q ∈ recsB bs, q.seq < m) → lastAll la bs < m
  | [], la, h, _ => h
  | b :: bs, la, h, hb => lastAll_lt (bs := bs) (lastSeq_lt h (fun q hq => hb q (by unfold recsB; rw [List.flatMap_cons]; exact List.mem_append_left _ hq))) (fun q hq => hb q (by unfold recsB; rw [List.flatMap_cons]; exact List.mem_append_right _ hq))
theorem Chain.snoc {t : Int} {b : Blk} (hf : fits b = 0) (ht : b.thread = t) (hr : ∀ r ∈ b.recs, RecOk r) : ∀ {bs : List Blk} {rc la : Int}, Chain t rc la bs → b.first = rc + (recsB bs).length → (∀ r ∈ b.recs, lastAll la bs < r.seq) → Chain t rc la (bs ++ [b])
  | [], rc, la, _, h1, h2 => ⟨⟨hf, ht, by simpa [recsB] using h1, hr, h2⟩, trivial⟩
  | x :: bs, rc, la, h, h1, h2 => ⟨h.1, Chain.snoc hf ht hr h.2 (by rw [h1]; unfold recsB; rw [List.flatMap_cons, List.length_append]; omega) h2⟩
theorem decode_nil : (Iv.decode []).2.2 ≠ 0 := by decide +kernel
theorem blocks_nil2 (th rc la : Int) : blocksAll th [] rc la = [] := by
  apply blocksAll_bad
  unfold goodB
  simp [decode_nil]
theorem blocks_chain {t : Int} (rest : Bytes) : ∀ {bs : List Blk} {rc la : Int}, Chain t rc la bs → blocksAll t (bytesB bs ++ rest) rc la = bs.map (fun b => (b, (blkBytes b).length)) ++ blocksAll t rest (rc + (recsB bs).length) (lastAll la bs) := by
  intro bs
  induction bs with
  | nil => intro rc la h; simp [bytesB, recsB, lastAll]
  | cons b bs ih =>
    intro rc la h
    obtain ⟨⟨h1, h2, h3, h4, h5⟩, h6⟩ := h
    have hd := decode_encode h1 h4 (bytesB bs ++ rest)
    have hbb : bytesB (b :: bs) ++ rest = blkBytes b ++ (bytesB bs ++ rest) := by unfold bytesB; rw [List.flatMap_cons, List.append_assoc]
    have hlen : (recsB (b :: bs)).length = b.recs.length + (recsB bs).length := by unfold recsB; rw [List.flatMap_cons, List.length_append]
    rw [hbb, blocksAll_good (by
      rw [hd]
      unfold goodB
      have h0 := (fits_zero h1).1
      cases hq : b.recs with
      | nil => rw [hq] at h0; simp at h0
      | cons r rs =>
        have := h5 r (by rw [hq]; exact List.mem_cons_self ..)
        simp [h2, h3, this]), hd]
    dsimp only
    rw [List.drop_left, ih h6, List.map_cons, List.cons_append, hlen]
    congr 3
    omega
theorem blocks_file {t : Int} {bs : List Blk} (h : Chain t 0 (-1) bs) : blocksAll t (bytesB bs) 0 (-1) = bs.map (fun b => (b, (blkBytes b).length)) := by
  have := blocks_chain [] h
  rw [List.append_nil, blocks_nil2, List.append_nil] at this
  exact this
theorem sizeB_map (bs : List Blk) : sizeB (bs.map (fun b => (b, (blkBytes b).length))) = (bytesB bs).length := by
  induction bs with
  | nil => rfl
  | cons b bs ih =>
    unfold sizeB bytesB at *
    simp only [List.map_cons, List.sum_cons, List.flatMap_cons, List.length_append, ih]
structure FB (l : List Ev) (m n : Nat) (t : Nat) (b : List Rec) (f : Int) (x : Bytes) (bs : List Blk) : Prop where
  ch : Chain t 0 (-1) bs
  by_ : x = bytesB bs
  rs : recsB bs ++ b = evsT l t n
  fst : f = (recsB bs).length
  len : ∀ y ∈ bs, y.recs.length ≤ m
def FBs (l : List Ev) (m n thr : Nat) (s : St) : Prop := ∀ t, t < thr → ∃ bs, FB l m n t (s.buf t) (s.first t) (s.file t) bs
theorem FBs.none (l : List Ev) (m thr : Nat) : FBs l m 0 thr St.none := fun t _ => ⟨[], trivial, rfl, rfl, rfl, fun y hy => by simp at hy⟩
theorem recsB_snoc (bs : List Blk) (b : Blk) : recsB (bs ++ [b]) = recsB bs ++ b.recs := by unfold recsB; simp
theorem bytesB_snoc (bs : List Blk) (b : Blk) : bytesB (bs ++ [b]) = bytesB bs ++ blkBytes b := by unfold bytesB; simp
theorem FBs.write {l : List Ev} {m c n thr : Nat} {s : St} (h : FBs l m n thr s) (g : Good c n thr s) (hc : c ≤ 64) (hm : c ≤ m) (hn : n ≤ 400) (hthr : thr ≤ 4) (t : Nat) (ht : t < thr) : FBs l m n thr (s.write t) := by
  unfold St.write
  split
  · exact h
  · rename_i h0
    intro k hk
    by_cases hkt : k = t
    · subst hkt
      simp only [upd_same]
      obtain ⟨bs, q⟩ := h k hk
      have gt := g k hk
      have hf := gt.fits (by omega) hc hn (by omega)
      have he : (encode (blkOf s k)).1 = blkBytes (blkOf s k) := by
        unfold encode
        have : fits (blkOf s k) = 0 := hf
        rw [if_pos this]
      have hpw := evsT_asc l k n
      rw [← q.rs, List.pairwise_append] at hpw
      refine ⟨bs ++ [blkOf s k], q.ch.snoc hf rfl (recOk_fit gt.ok gt.fit) (by rw [Int.zero_add]; exact q.fst) (fun r hr => ?_), ?_, ?_, ?_, fun y hy => ?_⟩
      · refine lastAll_lt ?_ (fun q' hq => hpw.2.2 q' hq r hr)
        exact (okRecs_thread k _ _ gt.ok r hr).2.2.2
      · rw [bytesB_snoc, he, q.by_]
      · rw [recsB_snoc, List.append_nil]
        exact q.rs
      · rw [recsB_snoc, List.length_append, q.fst]
        show _ = (((recsB bs).length + (s.buf k).length : Nat) : Int)
        omega
      · rcases List.mem_append.1 hy with hy | hy
        · exact q.len y hy
        · simp only [List.mem_singleton] at hy
          subst hy
          have := gt.len
          show (s.buf k).length ≤ m
          omega
    · simp only [upd_other _ _ hkt]
      exact h k hk
theorem FBs.flush {l : List Ev} {m c n thr : Nat} (hc : c ≤ 64) (hm : c ≤ m) (hn : n ≤ 400) (hthr : thr ≤ 4) (fs : List (Int × Int)) : ∀ {s : St}, FBs l m n thr s → Good c n thr s → (∀ f ∈ fs, 0 ≤ f.2 ∧ f.2 < thr) → FBs l m n thr (s.flush n fs) := by
  induction fs with
  | nil => intro s h _ _; exact h
  | cons f fs ih =>
    intro s h g hf
    have h1 := hf f (List.mem_cons_self ..)
    unfold St.flush
    split
    · exact ih (h.write g hc hm hn hthr _ (by omega)) (g.write hc hn hthr _ (by omega)) (fun g hg => hf g (List.mem_cons_of_mem _ hg))
    · exact ih h g (fun g hg => hf g (List.mem_cons_of_mem _ hg))
theorem FBs.push {l : List Ev} {m n thr : Nat} {s : St} (h : FBs l m n thr s) {e : Ev} (hl : l[n]? = some e) (he : 0 ≤ e.thread) : FBs l m (n + 1) thr (s.push e.thread.toNat ⟨n, e⟩) := by
  intro t ht
  obtain ⟨bs, q⟩ := h t ht
  unfold St.push
  by_cases hk : t = e.thread.toNat
  · subst hk
    simp only [upd_same]
    refine ⟨bs, q.ch, q.by_, ?_, q.fst, q.len⟩
    rw [← List.append_assoc, q.rs]
    rw [evsT_succ, hl]
    dsimp only
    rw [if_pos (by omega)]
  · simp only [upd_other _ _ hk]
    refine ⟨bs, q.ch, q.by_, ?_, q.fst, q.len⟩
    rw [q.rs]
    rw [evsT_succ, hl]
    dsimp only
    rw [if_neg (by omega), List.append_nil]
theorem FBs.add {l : List Ev} {c n thr : Nat} {s : St} (h : FBs l (c + 1) n thr s) (g : Good c n thr s) {e : Ev} (hl : l[n]? = some e) (hc : c + 1 ≤ 64) (hn : n + 1 ≤ 400) (hthr : thr ≤ 4) (he : 0 ≤ e.thread) (ht : e.thread < thr) (hd : e.deps.length ≤ 400) (hf : e.from_.length ≤ 400) (hr : RecFit ⟨n, e⟩) : FBs l (c + 1) (n + 1) thr (s.add ((c + 1 : Nat) : Int) n e) := by
  have hp := h.push hl he
  unfold St.add
  split
  · exact hp.write (g.pushed he hd hf hr) hc (Nat.le_refl _) hn hthr _ (by omega)
  · exact hp
theorem PlanGood.files {l : List Ev} {thr : Nat} {p : Pln} {c : Nat} (h : PlanGood l thr p c) (hn : ∀ e ∈ l, RecFit ⟨0, e⟩) : ∀ n, n ≤ l.length → FBs l (c + 1) n thr (Iv.recorded l p n) := by
  intro n
  induction n with
  | zero => intro _; exact (FBs.none l (c + 1) thr).flush (c := c) (by have := h.c64; omega) (by omega) (by omega) h.thr4 _ (Good.none c thr) (fun f hf => (h.fl f hf).2)
  | succ n ih =>
    intro hl
    have h1 := ih (by omega)
    have g1 := h.recorded hn n (by omega)
    have hk : l[n]? = some l[n] := List.getElem?_eq_getElem hl
    rw [rec_next hk]
    have hm : l[n] ∈ l := List.getElem_mem hl
    obtain ⟨e1, e2, e3, e4⟩ := h.ev _ hm
    have h4 := h.len
    have h64 := h.c64
    have hfit : RecFit ⟨(n : Int), l[n]⟩ := (hn _ hm).seqOf ⟨by omega, by omega⟩
    have a1 := h1.add g1 hk h.c64 (by omega) h.thr4 e1 e2 e3 e4 hfit
    have a2 := g1.add (e := l[n]) h.c64 (by omega) h.thr4 e1 e2 e3 e4 hfit
    rw [← h.cap] at a1 a2
    exact a1.flush (c := c) (by omega) (by omega) (by omega) h.thr4 _ a2 (fun f hf => (h.fl f hf).2)
def OwnL (l : List Ev) (t : Int) : Nat → List Rec → Prop
  | _, [] => True
  | a, r :: R => (∃ q : Nat, r.seq = q ∧ a ≤ q ∧ (∀ i, a ≤ i → i < q → ∃ e, l[i]? = some e ∧ e.thread ≠ t) ∧ l[q]? = some r.ev ∧ r.ev.thread = t) ∧ OwnL l t (r.seq.toNat + 1) R
def endL : Nat → List Rec → Nat
  | a, [] => a
  | _, r :: R => endL (r.seq.toNat + 1) R
theorem ownL_app {l : List Ev} {t : Int} : ∀ {A B : List Rec} {a : Nat}, OwnL l t a (A ++ B) ↔ OwnL l t a A ∧ OwnL l t (endL a A) B
  | [], B, a => by simp [OwnL, endL]
  | r :: A, B, a => by
    have := ownL_app (l := l) (t := t) (A := A) (B := B) (a := r.seq.toNat + 1)
    simp only [List.cons_append, OwnL, endL, this]
    exact ⟨fun ⟨h1, h2, h3⟩ => ⟨⟨h1, h2⟩, h3⟩, fun ⟨⟨h1, h2⟩, h3⟩ => ⟨h1, h2, h3⟩⟩
theorem endL_app : ∀ (A B : List Rec) (a : Nat), endL a (A ++ B) = endL (endL a A) B
  | [], B, a => rfl
  | r :: A, B, a => endL_app A B _
theorem evsT_own {l : List Ev} {t : Int} : ∀ n, n ≤ l.length → OwnL l t 0 (evsT l t n) ∧ endL 0 (evsT l t n) ≤ n ∧ (∀ i, endL 0 (evsT l t n) ≤ i → i < n → ∃ e, l[i]? = some e ∧ e.thread ≠ t) := by
  intro n
  induction n with
  | zero => intro _; exact ⟨trivial, Nat.le_refl _, fun i _ h => by omega⟩
  | succ n ih =>
    intro hl
    obtain ⟨h1, h2, h3⟩ := ih (by omega)
    have hk : l[n]? = some l[n] := List.getElem?_eq_getElem hl
    rw [evsT_succ, hk]
    dsimp only
    by_cases ht : l[n].thread = t
    · rw [if_pos ht]
      refine ⟨ownL_app.2 ⟨h1, ⟨n, rfl, h2, h3, hk, ht⟩, trivial⟩, ?_, ?_⟩
      · rw [endL_app]
        show ((n : Int)).toNat + 1 ≤ n + 1
        omega
      · rw [endL_app]
        intro i hi hi2
        have : ((n : Int)).toNat + 1 ≤ i := hi
        omega
    · rw [if_neg ht, List.append_nil]
      refine ⟨h1, by omega, fun i hi hi2 => ?_⟩
      by_cases hin : i < n
      · exact h3 i hi hin
      · rw [show i = n by omega]
        exact ⟨_, hk, ht⟩
theorem PlanGood.own {l : List Ev} {thr : Nat} {p : Pln} {c : Nat} (h : PlanGood l thr p c) (hn : ∀ e ∈ l, RecFit ⟨0, e⟩) (hc : p.cuts = []) (t : Nat) (ht : t < thr) :
    ∃ bs : List Blk, blocksAll t (filesOf l p t) 0 (-1) = bs.map (fun b => (b, (blkBytes b).length)) ∧ sizeB (bs.map (fun b => (b, (blkBytes b).length))) = (filesOf l p t).length ∧ (∀ y ∈ bs, y.recs.length ≤ c + 1) ∧ OwnL l t 0 (recsB bs) := by
  have hN : lastN l p ≤ l.length := by unfold lastN; omega
  obtain ⟨bs, q⟩ := h.files hn _ hN t ht
  rw [filesOf_nocut hc]
  refine ⟨bs, by rw [q.by_]; exact blocks_file q.ch, by rw [sizeB_map, q.by_], q.len, ?_⟩
  have h1 := (evsT_own (l := l) (t := t) _ hN).1
  rw [← q.rs] at h1
  exact (ownL_app.1 h1).1
end Iv
