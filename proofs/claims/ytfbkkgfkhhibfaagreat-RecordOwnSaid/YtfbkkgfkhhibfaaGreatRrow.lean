/- What a record must be that came in. -/
import Derived.Test.YtfbkkgfkhhibfaaGreatAppR
import Derived.Test.YtfbkkgfkhhibfaaGreatAlc
import Derived.Test.YtfbkkgfkhhibfaaGreatPl
import Derived.Deep.DeepCutAuto
import Derived.Test.YtfbkkgfkhhibfaaGreatSum
import Derived.Deep.RegionHeld3
import Derived.Test.YtfbkkgfkhhibfaaGreatReadR
namespace Go.Proofs.YtfbkkgfkhhibfaaGreat
open Go Go.RowKit Iv
set_option linter.unusedVariables false
structure RecIn (w : World) (r : Rec) (Ad : Option Addr) (nd cd : Nat) (Af : Option Addr) (nf cf : Nat) : Prop where
  seq : inI64 r.seq
  thread : inI64 r.ev.thread
  kind : inI64 r.ev.kind
  obj : inI64 r.ev.obj
  value : inI64 r.ev.value
  site : inI64 r.ev.site
  deps : allI64 r.ev.deps
  from_ : allI64 r.ev.from_
  ld : Lies w w.heap.size 1 Ad nd (r.ev.deps.map iv)
  lf : Lies w w.heap.size 1 Af nf (r.ev.from_.map iv)
  cd : nd ≤ cd ∧ cd ≤ maxLen ∧ (Ad = none → cd = 0)
  cf : nf ≤ cf ∧ cf ≤ maxLen ∧ (Af = none → cf = 0)
theorem RecIn.ok {w : World} {r : Rec} {Ad : Option Addr} {nd cd : Nat} {Af : Option Addr} {nf cf : Nat} (h : RecIn w r Ad nd cd Af nf cf) (hd : nd ≤ 400) (hf : nf ≤ 400) : RecOk r :=
  ⟨h.seq, h.thread, h.kind, h.obj, h.value, h.site, h.deps, h.from_, by rw [h.ld.lenI]; exact hd, by rw [h.lf.lenI]; exact hf⟩
end Go.Proofs.YtfbkkgfkhhibfaaGreat

/- Words for a slice of records in memory, and for a block. -/
namespace Go.Proofs.YtfbkkgfkhhibfaaGreat
open Go Go.RowKit Iv
set_option linter.unusedVariables false
structure RecHere (w : World) (B b o : Nat) (r : Rec) (Ad : Option Addr) (nd cd : Nat) (Af : Option Addr) (nf cf : Nat) : Prop where
  cells : ∀ j u, (recV r Ad nd cd Af nf cf)[j]? = some u → w.cell? ⟨b, o + j, none⟩ = some u
  ld : Lies w B 1 Ad nd (r.ev.deps.map iv)
  lf : Lies w B 1 Af nf (r.ev.from_.map iv)
def Recs (w : World) (B : Nat) (A : Option Addr) (n : Nat) (rs : List Rec) : Prop :=
  rs.length = n ∧ ∀ k r, rs[k]? = some r → ∃ (b o : Nat) (Ad : Option Addr) (nd cd : Nat) (Af : Option Addr) (nf cf : Nat), A = some ⟨b, o, none⟩ ∧ b < B ∧ RecHere w B b (o + k * 8) r Ad nd cd Af nf cf
section
variable {w w' : World} {B B' n : Nat} {A : Option Addr} {rs : List Rec}
theorem RecHere.same {b o : Nat} {r : Rec} {Ad : Option Addr} {nd cd : Nat} {Af : Option Addr} {nf cf : Nat} (h : RecHere w B b o r Ad nd cd Af nf cf) (hb : b < B) (hk : ∀ p : Addr, p.block < B → w'.cell? p = w.cell? p) : RecHere w' B b o r Ad nd cd Af nf cf :=
  ⟨fun j u hu => (hk _ hb).trans (h.cells j u hu), h.ld.same hk, h.lf.same hk⟩
theorem Recs.same (h : Recs w B A n rs) (hk : ∀ p : Addr, p.block < B → w'.cell? p = w.cell? p) : Recs w' B A n rs :=
  ⟨h.1, fun k r hr => by
    obtain ⟨b, o, Ad, nd, cd, Af, nf, cf, e, hb, h2⟩ := h.2 k r hr
    exact ⟨b, o, Ad, nd, cd, Af, nf, cf, e, hb, h2.same hb hk⟩⟩
theorem Recs.more (h : Recs w B A n rs) (hB : B ≤ B') : Recs w B' A n rs :=
  ⟨h.1, fun k r hr => by
    obtain ⟨b, o, Ad, nd, cd, Af, nf, cf, e, hb, h2⟩ := h.2 k r hr
    exact ⟨b, o, Ad, nd, cd, Af, nf, cf, e, by omega, h2.cells, h2.ld.more hB, h2.lf.more hB⟩⟩
theorem Recs.below (h : Recs w B A n rs) (hb : Below B w w') : Recs w' B A n rs := h.same fun _ hp => hb.cell hp
theorem Recs.drew (h : Recs w B A n rs) : Recs w.drew B A n rs := h.same fun _ _ => rfl
theorem Recs.drewN (h : Recs w B A n rs) (q : Nat) : Recs (w.drewN q) B A n rs := h.same fun _ _ => rfl
theorem Recs.alloc (h : Recs w B A n rs) (hB : B ≤ w.heap.size) (o : Obj) : Recs (w.alloc o) B A n rs := h.same fun p hp => World.cell?_alloc_lt w o p (by omega)
theorem Recs.grown (h : Recs w B A n rs) {row : Option Nat} (hg : w.grownBy w' row) (hB : B ≤ w.heap.size) (hr : ∀ g, row = some g → B ≤ g) : Recs w' B A n rs :=
  h.same fun p hp => World.cell?_of_block (hg.block p.block (by omega) (fun e => by have := hr _ e.symm; omega))
theorem RecHere.grown {b o : Nat} {r : Rec} {Ad : Option Addr} {nd cd : Nat} {Af : Option Addr} {nf cf : Nat} (h : RecHere w B b o r Ad nd cd Af nf cf) (hb : b < B) {row : Option Nat} (hg : w.grownBy w' row) (hB : B ≤ w.heap.size) (hr : ∀ g, row = some g → B ≤ g) : RecHere w' B b o r Ad nd cd Af nf cf :=
  h.same hb fun p hp => World.cell?_of_block (hg.block p.block (by omega) (fun e => by have := hr _ e.symm; omega))
theorem Recs.nil : Recs w B A 0 [] := ⟨rfl, fun k r hr => by simp at hr⟩
theorem Recs.at {k : Nat} (h : Recs w B A n rs) (hk : k < n) : ∃ (b o : Nat) (r : Rec) (Ad : Option Addr) (nd cd : Nat) (Af : Option Addr) (nf cf : Nat), A = some ⟨b, o, none⟩ ∧ b < B ∧ rs[k]? = some r ∧ RecHere w B b (o + k * 8) r Ad nd cd Af nf cf := by
  have hl : k < rs.length := by rw [h.1]; exact hk
  obtain ⟨b, o, Ad, nd, cd, Af, nf, cf, e, hb, h2⟩ := h.2 k rs[k] (List.getElem?_eq_getElem hl)
  exact ⟨b, o, rs[k], Ad, nd, cd, Af, nf, cf, e, hb, List.getElem?_eq_getElem hl, h2⟩
end
theorem RecHere.all {w : World} {B b o : Nat} {r : Rec} {Ad : Option Addr} {nd cd : Nat} {Af : Option Addr} {nf cf : Nat} (h : RecHere w B b o r Ad nd cd Af nf cf) :
    w.cell? ⟨b, o, none⟩ = some (.int .i64 r.seq) ∧ w.cell? ⟨b, o + 1, none⟩ = some (.int .i64 r.ev.thread) ∧ w.cell? ⟨b, o + 2, none⟩ = some (.int .i64 r.ev.kind) ∧ w.cell? ⟨b, o + 3, none⟩ = some (.int .i64 r.ev.obj) ∧
    w.cell? ⟨b, o + 4, none⟩ = some (.int .i64 r.ev.value) ∧ w.cell? ⟨b, o + 5, none⟩ = some (.int .i64 r.ev.site) ∧ w.cell? ⟨b, o + 6, none⟩ = some (.slice Ad nd cd) ∧ w.cell? ⟨b, o + 7, none⟩ = some (.slice Af nf cf) :=
  ⟨h.cells 0 (.int .i64 r.seq) rfl, h.cells 1 _ rfl, h.cells 2 _ rfl, h.cells 3 _ rfl, h.cells 4 _ rfl, h.cells 5 _ rfl, h.cells 6 _ rfl, h.cells 7 _ rfl⟩
end Go.Proofs.YtfbkkgfkhhibfaaGreat

/- Words for the block that is made of a trace (chapter 13). -/
namespace Iv
set_option linter.unusedVariables false
structure MadeOk (x : Blk) : Prop where
  t0 : 0 ≤ x.thread
  t4 : x.thread < 4
  f0 : 0 ≤ x.first
  f4 : x.first ≤ 400
  len : x.recs.length ≤ 64
  ok : okRecs x.thread (-1) x.recs = true
  fit : ∀ r ∈ x.recs, RecFit r
  sh : ∀ r ∈ x.recs, r.ev.deps.length ≤ 100 ∧ r.ev.from_.length ≤ 100
theorem MadeOk.fits {x : Blk} (h : MadeOk x) (h0 : 0 < x.recs.length) : fits x = 0 := by
  have h1 := h.t0
  have h2 := h.t4
  have h3 := h.f0
  have h4 := h.f4
  have h5 := h.len
  unfold Iv.fits okBlk
  rw [if_neg (by omega), if_pos]
  rw [h.ok]
  simp only [Bool.and_true, Bool.and_eq_true, decide_eq_true_eq]
  omega
theorem MadeOk.recOk {x : Blk} (h : MadeOk x) : ∀ r ∈ x.recs, RecOk r := recOk_fit h.ok h.fit
theorem putL_len2 (l : List Int) (h : l.length ≤ 100) : (putL l).length ≤ 1010 := by
  unfold putL
  have := putDeltas_len l 0
  have := putI_len (n := (l.length : Int)) ⟨by omega, by omega⟩
  simp only [List.length_append]
  omega
theorem putRecs_len2 (l : List Rec) : ∀ seq, (∀ r ∈ l, RecOk r ∧ r.ev.deps.length ≤ 100 ∧ r.ev.from_.length ≤ 100) → (putRecs seq l).length ≤ 2070 * l.length := by
  induction l with
  | nil => intro seq _; simp [putRecs]
  | cons r t ih =>
    intro seq h
    obtain ⟨h0, h1, h2⟩ := h r (by simp)
    have h3 := ih r.seq fun q hq => h q (by simp [hq])
    have := putI_len (wrap64_i64 (r.seq - seq))
    have := putI_len h0.kind
    have := putI_len h0.obj
    have := putI_len h0.value
    have := putI_len h0.site
    have := putL_len2 _ h1
    have := putL_len2 _ h2
    simp only [putRecs, putRec, List.length_append, List.length_cons]
    omega
theorem MadeOk.bytes {x : Blk} (h : MadeOk x) : (encode x).1.length ≤ 200000 := by
  unfold encode
  split
  · rename_i hf
    have hl := h.len
    obtain ⟨z0, z1, z2, z3, z4, z5, z6⟩ := fits_zero hf
    have hpl := putRecs_len2 x.recs (-1) (fun r hr => ⟨h.recOk r hr, h.sh r hr⟩)
    have hq := pack_bounded (putRecs (-1) x.recs)
    have q1 := putI_len (n := x.first) ⟨by omega, by omega⟩
    have q2 := putI_len (n := (x.recs.length : Int)) ⟨by omega, by omega⟩
    have q3 := putI_len (n := ((putRecs (-1) x.recs).length : Int)) ⟨by omega, by omega⟩
    have q4 := putI_len (n := ((pack (putRecs (-1) x.recs)).length : Int)) ⟨by omega, by omega⟩
    show (blkBytes x).length ≤ _
    unfold blkBytes blkBody headBytes
    simp only [List.length_append, List.length_cons, sum4_len]
    omega
  · simp
structure EvOk (n : Nat) (k : Int) (e : Ev) : Prop where
  th0 : 0 ≤ e.thread
  thn : e.thread < n
  kd1 : 1 ≤ e.kind
  kd23 : e.kind ≤ 23
  obj : inI64 e.obj
  val : inI64 e.value
  s0 : -1 ≤ e.site
  s1 : e.site ≤ 60
  dp : (e.deps.length : Int) ≤ k ∧ ∀ x ∈ e.deps, 0 ≤ x ∧ x < k
  fr : (e.from_.length : Int) ≤ k ∧ ∀ x ∈ e.from_, 0 ≤ x ∧ x < k
theorem EvOk.fit {n : Nat} {k : Nat} {e : Ev} (h : EvOk n k e) (hn : n ≤ 4) (hk : k ≤ 400) : RecFit ⟨(k : Int), e⟩ ∧ e.deps.length ≤ 400 ∧ e.from_.length ≤ 400 := by
  have h1 := h.th0
  have h2 := h.thn
  have h3 := h.kd1
  have h4 := h.kd23
  have h5 := h.s0
  have h6 := h.s1
  have l1 := h.dp.1
  have l2 := h.fr.1
  refine ⟨⟨⟨by show (-9223372036854775808 : Int) ≤ (k : Int); omega, by show (k : Int) ≤ 9223372036854775807; omega⟩, ⟨by show (-9223372036854775808 : Int) ≤ e.thread; omega, by show e.thread ≤ 9223372036854775807; omega⟩, ⟨by show (-9223372036854775808 : Int) ≤ e.kind; omega, by show e.kind ≤ 9223372036854775807; omega⟩, h.obj, h.val, ⟨by show (-9223372036854775808 : Int) ≤ e.site; omega, by show e.site ≤ 9223372036854775807; omega⟩, fun x hx => ?_, fun x hx => ?_⟩, by omega, by omega⟩
  · have := h.dp.2 x hx
    exact ⟨by omega, by omega⟩
  · have := h.fr.2 x hx
    exact ⟨by omega, by omega⟩
structure MdP (th : Int) (i : Nat) (rs : List Rec) : Prop where
  ok : okRecs th (-1) rs = true
  below : ∀ r ∈ rs, r.seq < i
  fit : ∀ r ∈ rs, RecFit r
  sh : ∀ r ∈ rs, r.ev.deps.length ≤ 100 ∧ r.ev.from_.length ≤ 100
theorem MdP.nil (th : Int) : MdP th 0 [] := ⟨rfl, fun r h => by simp at h, fun r h => by simp at h, fun r h => by simp at h⟩
theorem MdP.later {th : Int} {i : Nat} {rs : List Rec} (h : MdP th i rs) : MdP th (i + 1) rs := ⟨h.ok, fun r hr => by have := h.below r hr; omega, h.fit, h.sh⟩
theorem MdP.snoc {th : Int} {i n : Nat} {rs : List Rec} {e : Ev} (h : MdP th i rs) (he : EvOk n i e) (hn : n ≤ 4) (hi : i ≤ 100) (ht : e.thread = th) : MdP th (i + 1) (rs ++ [⟨(i : Int), e⟩]) := by
  obtain ⟨h1, h2, h3⟩ := he.fit hn (by omega)
  have l1 := he.dp.1
  have l2 := he.fr.1
  refine ⟨okRecs_snoc rs h.ok (fun q hq => h.below q hq) (by show (-1 : Int) < (i : Int); omega) ht h2 h3, fun r hr => ?_, fun r hr => ?_, fun r hr => ?_⟩
  · rcases List.mem_append.1 hr with hr | hr
    · have := h.below r hr; omega
    · simp only [List.mem_singleton] at hr
      subst hr
      show (i : Int) < ((i + 1 : Nat) : Int)
      omega
  · rcases List.mem_append.1 hr with hr | hr
    · exact h.fit r hr
    · simp only [List.mem_singleton] at hr
      subst hr
      exact h1
  · rcases List.mem_append.1 hr with hr | hr
    · exact h.sh r hr
    · simp only [List.mem_singleton] at hr
      subst hr
      exact ⟨by show e.deps.length ≤ 100; omega, by show e.from_.length ≤ 100; omega⟩
end Iv
namespace Go.Proofs.YtfbkkgfkhhibfaaGreat
open Go Go.RowKit Iv
set_option linter.unusedVariables false
end Go.Proofs.YtfbkkgfkhhibfaaGreat

/- The walks of allowed and of Fits (chapter 13). -/
namespace Go.Proofs.YtfbkkgfkhhibfaaGreat
open Go Go.RowKit Iv
set_option linter.unusedVariables false
def headOk (x : Blk) : Bool := decide (0 < x.recs.length) && decide (0 ≤ x.thread) && decide (x.thread < 4) && decide (0 ≤ x.first) && decide (x.first ≤ 400)
theorem okBlk_head (x : Blk) : okBlk x = (headOk x && okRecs x.thread (-1) x.recs) := rfl
theorem okRecs_step (thread seq : Int) (recs : List Rec) (k : Nat) (r : Rec) (hr : recs[k]? = some r) :
    okRecs thread seq (recs.drop k) = (decide (r.ev.thread = thread) && decide (seq < r.seq) && decide (r.ev.deps.length ≤ 400) && decide (r.ev.from_.length ≤ 400) && okRecs thread r.seq (recs.drop (k + 1))) := by
  obtain ⟨hl, rfl⟩ := List.getElem?_eq_some_iff.1 hr
  rw [List.drop_eq_getElem_cons hl, okRecs]
set_option maxRecDepth 100000 in
set_option maxHeartbeats 3200000 in
theorem allowed_any (x : Blk) (A : Option Addr) (n c B : Nat) (w : World) (h : Recs w B A n x.recs) (hB : B ≤ w.heap.size) (hn : n ≤ 1000000) :
    Calls Tryz.prog 78 #[.agg #[.int .i64 x.thread, .int .i64 x.first, .slice A n c]] w fun e w' => e = .returned (.bool (okBlk x)) ∧ w.grownBy w' none := by
  obtain ⟨thread, first, recs⟩ := x
  dsimp only at h ⊢
  have HL := Lib.hid h.1
  by_cases hh : n = 0 ∨ thread < 0 ∨ 4 ≤ thread ∨ first < 0 ∨ 400 < first
  · have HF : Hid (okBlk ⟨thread, first, recs⟩ = false) := by
      have := HL.out
      rw [okBlk_head]
      have : headOk ⟨thread, first, recs⟩ = false := by
        unfold headOk
        simp only [Bool.and_eq_false_iff, decide_eq_false_iff_not]
        omega
      rw [this]
      exact Lib.hid rfl
    by_cases a0 : n = 0
    · have b0 : ((n : Int) == 0) = true := by rw [beq_iff_eq]; omega
      clear hh a0
      go_enter Tryz.func78, Tryz.ntmps78
      go_wp2_with fail
      go_ret
      exact ⟨ret_bool HF.out.symm, World.grownBy_alloc w _ none⟩
    · have b0 : ((n : Int) == 0) = false := by rw [beq_eq_false_iff_ne]; omega
      have n0 : 0 < n := by omega
      clear a0
      by_cases a1 : thread < 0
      · clear hh
        go_enter Tryz.func78, Tryz.ntmps78
        go_wp2_with fail
        go_ret
        exact ⟨ret_bool HF.out.symm, World.grownBy_alloc w _ none⟩
      · by_cases a2 : (4 : Int) ≤ thread
        · clear hh
          go_enter Tryz.func78, Tryz.ntmps78
          go_wp2_with fail
          go_ret
          exact ⟨ret_bool HF.out.symm, World.grownBy_alloc w _ none⟩
        · by_cases a3 : first < 0
          · clear hh
            go_enter Tryz.func78, Tryz.ntmps78
            go_wp2_with fail
            go_ret
            exact ⟨ret_bool HF.out.symm, World.grownBy_alloc w _ none⟩
          · have a4 : (400 : Int) < first := by omega
            clear hh
            go_enter Tryz.func78, Tryz.ntmps78
            go_wp2_with fail
            go_ret
            exact ⟨ret_bool HF.out.symm, World.grownBy_alloc w _ none⟩
  · have b0 : ((n : Int) == 0) = false := by rw [beq_eq_false_iff_ne]; omega
    have b1 : ¬ thread < 0 := by omega
    have b2 : ¬ (4 : Int) ≤ thread := by omega
    have b3 : ¬ first < 0 := by omega
    have b4 : ¬ (400 : Int) < first := by omega
    have HX : Hid (okBlk ⟨thread, first, recs⟩ = okRecs thread (-1) recs) := by
      have hl := HL.out
      rw [okBlk_head]
      have : headOk ⟨thread, first, recs⟩ = true := by
        unfold headOk
        simp only [Bool.and_eq_true, decide_eq_true_eq]
        omega
      rw [this]
      exact Lib.hid rfl
    clear hh
    obtain ⟨W, hW⟩ : ∃ W, W = w.alloc (.cells #[.int .i64 thread, .int .i64 first, .slice A n c] 50) := ⟨_, rfl⟩
    have hWg : w.grownBy W none := by rw [hW]; exact World.grownBy_alloc w _ none
    have hb0 : Held W w.heap.size 50 #[.int .i64 thread, .int .i64 first, .slice A n c] := by rw [hW]; exact Held.new _ _ _
    have HW := Lib.hid hW
    clear hW
    go_enter Tryz.func78, Tryz.ntmps78
    go_wp2_with fail
    rw [show w.alloc (.cells #[.int .i64 thread, .int .i64 first, .slice A n c] 50) = W from HW.out.symm]
    go_loopw [3, 5, 33] (fun sv _ iv wr => ∃ (k : Nat) (seq : Int), iv = .int .i64 (k : Int) ∧ k ≤ n ∧ sv = .int .i64 seq ∧ W.grownBy wr none ∧ okRecs thread seq (recs.drop k) = okRecs thread (-1) recs) (fun _ _ iv _ => n - (intOf iv).toNat)
    case atStart => exact ⟨0, -1, rfl, Nat.zero_le _, rfl, World.grownBy.refl W none, rfl⟩
    case round =>
      obtain ⟨k, seq, rfl, hk, rfl, hg, ho⟩ := hrel
      have HO := Lib.hid ho
      clear ho
      have hgw := grownBy_trans hWg hg (.inl rfl)
      by_cases hlt : k < n
      · obtain ⟨b, o, r, Ad, nd, cd, Af, nf, cf, hA, hb, hr, hH⟩ := (h.grown hgw hB (fun _ e => nomatch e)).at hlt
        have k0 : wr.cell? ⟨w.heap.size, 0, none⟩ = some (.int .i64 thread) := (hb0.grown hg (fun e => nomatch e)).cell 0
        have kz : w.heap.size < wr.heap.size := (hb0.grown hg (fun e => nomatch e)).lt
        obtain ⟨c0, c1, c2, c3, c4, c5, c6, c7⟩ := hH.all
        subst hA
        have HS := Lib.hid (okRecs_step thread seq recs k r hr)
        have l1 := hH.ld.lenI
        have l2 := hH.lf.lenI
        have L1 := Lib.hid l1
        have L2 := Lib.hid l2
        have HG1 := Lib.hid (grownBy_trans hgw (World.grownBy_alloc wr (.cells #[.int .i64 r.seq, .int .i64 r.ev.thread, .int .i64 r.ev.kind, .int .i64 r.ev.obj, .int .i64 r.ev.value, .int .i64 r.ev.site, .slice Ad nd cd, .slice Af nf cf] 54) none) (.inl rfl))
        have HG2 := Lib.hid (grownBy_trans hg (World.grownBy_alloc wr (.cells #[.int .i64 r.seq, .int .i64 r.ev.thread, .int .i64 r.ev.kind, .int .i64 r.ev.obj, .int .i64 r.ev.value, .int .i64 r.ev.site, .slice Ad nd cd, .slice Af nf cf] 54) none) (.inl rfl))
        clear hr hH l1 l2 hg
        by_cases h0 : r.ev.thread ≠ thread ∨ r.seq ≤ seq ∨ 400 < nd ∨ 400 < nf
        · have HF : Hid (okBlk ⟨thread, first, recs⟩ = false) := by
            have e1 := L1.out
            have e2 := L2.out
            have : okRecs thread seq (recs.drop k) = false := by
              rw [HS.out]
              have : (decide (r.ev.thread = thread) && decide (seq < r.seq) && decide (r.ev.deps.length ≤ 400) && decide (r.ev.from_.length ≤ 400)) = false := by
                simp only [Bool.and_eq_false_iff, decide_eq_false_iff_not]
                omega
              rw [this]
              rfl
            rw [HX.out, ← HO.out, this]
            exact Lib.hid rfl
          by_cases a0 : r.ev.thread = thread
          · have g0 : (r.ev.thread != thread) = false := by rw [bne_eq_false_iff_eq]; exact a0
            have A0 := Lib.hid a0
            by_cases a1 : r.seq ≤ seq
            · clear h0 a0
              go_wp2_with fail
              go_ret
              exact ⟨ret_bool HF.out.symm, HG1.out⟩
            · by_cases a2 : (400 : Int) < (nd : Int)
              · clear h0 a0
                go_wp2_with fail
                go_ret
                exact ⟨ret_bool HF.out.symm, HG1.out⟩
              · have a3 : (400 : Int) < (nf : Int) := by omega
                clear h0 a0
                go_wp2_with fail
                go_ret
                exact ⟨ret_bool HF.out.symm, HG1.out⟩
          · have g0 : (r.ev.thread != thread) = true := by rw [bne_iff_ne]; exact a0
            clear h0 a0
            go_wp2_with fail
            go_ret
            exact ⟨ret_bool HF.out.symm, HG1.out⟩
        · have g0 : (r.ev.thread != thread) = false := by rw [bne_eq_false_iff_eq]; omega
          have g1 : ¬ r.seq ≤ seq := by omega
          have g2 : ¬ (400 : Int) < (nd : Int) := by omega
          have g3 : ¬ (400 : Int) < (nf : Int) := by omega
          have HN : Hid (okRecs thread r.seq (recs.drop (k + 1)) = okRecs thread (-1) recs) := by
            have e1 := L1.out
            have e2 := L2.out
            have : (decide (r.ev.thread = thread) && decide (seq < r.seq) && decide (r.ev.deps.length ≤ 400) && decide (r.ev.from_.length ≤ 400)) = true := by
              simp only [Bool.and_eq_true, decide_eq_true_eq]
              omega
            have e3 := HS.out
            rw [this, Bool.true_and, HO.out] at e3
            exact Lib.hid e3.symm
          clear h0
          go_wp2_with fail
          go_roundw
          case rel => exact ⟨k + 1, r.seq, by go_num, by omega, rfl, HG2.out, HN.out⟩
          case measure => simp [intOf]; omega
      · have HF : Hid (okBlk ⟨thread, first, recs⟩ = true) := by
          have e1 := HO.out
          rw [List.drop_eq_nil_of_le (by rw [HL.out]; omega)] at e1
          rw [HX.out, ← e1]
          exact Lib.hid rfl
        go_wp2_with fail
        go_ret
        exact ⟨ret_bool HF.out.symm, hgw⟩
end Go.Proofs.YtfbkkgfkhhibfaaGreat

/- The walk of SameInts and of SameEvent: they tell whether two lists of numbers, two events are one. -/
namespace Go.Proofs.YtfbkkgfkhhibfaaGreat
open Go Go.RowKit Iv
set_option linter.unusedVariables false
def evV (e : Ev) (Ad : Option Addr) (nd cd : Nat) (Af : Option Addr) (nf cf : Nat) : Array Value :=
  #[.int .i64 e.thread, .int .i64 e.kind, .int .i64 e.obj, .int .i64 e.value, .int .i64 e.site, .slice Ad nd cd, .slice Af nf cf]
end Go.Proofs.YtfbkkgfkhhibfaaGreat

/- What Read gives, part by part. -/
namespace Go.Proofs.YtfbkkgfkhhibfaaGreat
open Go Go.RowKit Iv
set_option linter.unusedVariables false
theorem belGr {w w1 w2 : World} (h : Below w.heap.size w w1) (hg : w1.grownBy w2 none) : Below w.heap.size w w2 := h.grown hg h.size (fun k hk => by cases hk)
theorem readR_parts (A : Option Addr) (n c B : Nat) (xs : Bytes) (thread seq : Int) (w : World) (h : Lies w B 1 A n (xs.map bv)) (hB : B ≤ w.heap.size) (hnc : n ≤ c) (ho : A = none → c = 0) (hn : n ≤ 1000000000) {r : Rec} {k : Nat} {er : Int} (hg : getRec xs thread seq = (r, k, er)) :
    Calls Tryz.prog 84 #[.slice A n c, .int .i64 thread, .int .i64 seq] w fun e w' => ∃ (Ad : Option Addr) (cd : Nat) (Af : Option Addr) (cf : Nat),
      e = .returned (.tuple #[.agg (recV r Ad r.ev.deps.length cd Af r.ev.from_.length cf), .int .i64 (k : Int), .int .i64 er]) ∧
      w'.ownsRow w.heap.size 3 1 (.slice Ad r.ev.deps.length cd) r.ev.deps.length (r.ev.deps.map iv) ∧ w'.ownsRow w.heap.size 3 1 (.slice Af r.ev.from_.length cf) r.ev.from_.length (r.ev.from_.map iv) ∧ w.grownBy w' none := by
  refine (readR_any A n c B xs thread seq w h hB hnc ho hn).mono ?_
  rintro e w' ⟨r', vd, vf, hr, he, hd, hf, hgr⟩
  rw [hg] at hr he
  subst hr
  obtain ⟨Ad, cd, hvd, _⟩ := own_slice hd
  obtain ⟨Af, cf, hvf, _⟩ := own_slice hf
  subst hvd hvf
  exact ⟨Ad, cd, Af, cf, he, hd, hf, hgr⟩
theorem cells8 {W : World} {g : Nat} {T : TypeId} {r : Rec} {Ad : Option Addr} {nd cd : Nat} {Af : Option Addr} {nf cf : Nat} (h : Held W g T (recV r Ad nd cd Af nf cf)) :
    W.cell? ⟨g, 0, none⟩ = some (.int .i64 r.seq) ∧ W.cell? ⟨g, 1, none⟩ = some (.int .i64 r.ev.thread) ∧ W.cell? ⟨g, 2, none⟩ = some (.int .i64 r.ev.kind) ∧ W.cell? ⟨g, 3, none⟩ = some (.int .i64 r.ev.obj) ∧
    W.cell? ⟨g, 4, none⟩ = some (.int .i64 r.ev.value) ∧ W.cell? ⟨g, 5, none⟩ = some (.int .i64 r.ev.site) ∧ W.cell? ⟨g, 6, none⟩ = some (.slice Ad nd cd) ∧ W.cell? ⟨g, 7, none⟩ = some (.slice Af nf cf) :=
  ⟨h.cell 0, h.cell 1, h.cell 2, h.cell 3, h.cell 4, h.cell 5, h.cell 6, h.cell 7⟩
end Go.Proofs.YtfbkkgfkhhibfaaGreat

/- Words for a slice of events that came in. -/
namespace Go.Proofs.YtfbkkgfkhhibfaaGreat
open Go Go.RowKit Iv
set_option linter.unusedVariables false
def Evs (w : World) (B : Nat) (A : Option Addr) (n : Nat) (l : List Ev) : Prop :=
  l.length = n ∧ ∀ k e, l[k]? = some e → ∃ (b o : Nat) (Ad : Option Addr) (cd : Nat) (Af : Option Addr) (cf : Nat), A = some ⟨b, o, none⟩ ∧ b < B ∧
    (∀ j u, (#[.int .i64 e.thread, .int .i64 e.kind, .int .i64 e.obj, .int .i64 e.value, .int .i64 e.site, .slice Ad e.deps.length cd, .slice Af e.from_.length cf] : Array Value)[j]? = some u → w.cell? ⟨b, o + k * 7 + j, none⟩ = some u) ∧ Lies w B 1 Ad e.deps.length (e.deps.map iv) ∧ Lies w B 1 Af e.from_.length (e.from_.map iv)
theorem Evs.grown {w w' : World} {B n : Nat} {A : Option Addr} {l : List Ev} {row : Option Nat} (h : Evs w B A n l) (hg : w.grownBy w' row) (hB : B ≤ w.heap.size) (hr : ∀ g, row = some g → B ≤ g) : Evs w' B A n l :=
  ⟨h.1, fun k e he => by
    obtain ⟨b, o, Ad, cd, Af, cf, q1, hb, q2, q3, q4⟩ := h.2 k e he
    have hk : ∀ j, w'.cell? ⟨b, j, none⟩ = w.cell? ⟨b, j, none⟩ := fun j => World.cell?_of_block (hg.block b (by omega) (fun e => by have := hr _ e.symm; omega))
    exact ⟨b, o, Ad, cd, Af, cf, q1, hb, fun j u hu => by rw [hk]; exact q2 j u hu, q3.grown hg hB hr, q4.grown hg hB hr⟩⟩
theorem Evs.at {w : World} {B n k : Nat} {A : Option Addr} {l : List Ev} (h : Evs w B A n l) (hk : k < n) :
    ∃ (b o : Nat) (e : Ev) (Ad : Option Addr) (cd : Nat) (Af : Option Addr) (cf : Nat), A = some ⟨b, o, none⟩ ∧ b < B ∧ l[k]? = some e ∧
      w.cell? ⟨b, o + k * 7, none⟩ = some (.int .i64 e.thread) ∧ w.cell? ⟨b, o + k * 7 + 1, none⟩ = some (.int .i64 e.kind) ∧ w.cell? ⟨b, o + k * 7 + 2, none⟩ = some (.int .i64 e.obj) ∧ w.cell? ⟨b, o + k * 7 + 3, none⟩ = some (.int .i64 e.value) ∧
      w.cell? ⟨b, o + k * 7 + 4, none⟩ = some (.int .i64 e.site) ∧ w.cell? ⟨b, o + k * 7 + 5, none⟩ = some (.slice Ad e.deps.length cd) ∧ w.cell? ⟨b, o + k * 7 + 6, none⟩ = some (.slice Af e.from_.length cf) ∧
      Lies w B 1 Ad e.deps.length (e.deps.map iv) ∧ Lies w B 1 Af e.from_.length (e.from_.map iv) := by
  have hl : k < l.length := by rw [h.1]; exact hk
  obtain ⟨b, o, Ad, cd, Af, cf, q1, hb, q2, q3, q4⟩ := h.2 k l[k] (List.getElem?_eq_getElem hl)
  exact ⟨b, o, l[k], Ad, cd, Af, cf, q1, hb, List.getElem?_eq_getElem hl, q2 0 _ rfl, q2 1 _ rfl, q2 2 _ rfl, q2 3 _ rfl, q2 4 _ rfl, q2 5 _ rfl, q2 6 _ rfl, q3, q4⟩
end Go.Proofs.YtfbkkgfkhhibfaaGreat

/- Words for a row of records that the call's own appends made (chapter 13). -/
namespace Iv
open Go Go.RowKit
theorem grown_anyRow {a b : World} (h : a.grownBy b none) (o : Option Nat) : a.grownBy b o := ⟨h.os, h.tape, h.output, h.size, fun k hk _ => h.block k hk (fun e => nomatch e)⟩
def Off (o : Option Nat) (A : Option Addr) (n : Nat) : Prop := 0 < n → ∀ ad, A = some ad → some ad.block ≠ o
theorem Off.ofOwn {w : World} {base e sz n c : Nat} {A : Option Addr} {xs : List Value} {o : Option Nat} (h : w.ownsRow base e sz (.slice A n c) n xs) (ho : ∀ g, o = some g → g < base) : Off o A n := by
  rintro _ ad rfl hb
  have := (h.lt ad.block rfl).1
  have := ho _ hb.symm
  omega
theorem Lies.grownOff {w w' : World} {B sz n : Nat} {A : Option Addr} {xs : List Value} {row : Option Nat} (h : Lies w B sz A n xs) (ho : Off row A n) (hg : w.grownBy w' row) (hB : B ≤ w.heap.size) : Lies w' B sz A n xs := by
  refine ⟨h.1, fun hn => ?_⟩
  obtain ⟨ad, e, hb, hc⟩ := h.2 hn
  refine ⟨ad, e, hb, fun j u hu => ?_⟩
  refine Eq.trans (World.cell?_of_block (hg.block (ad.add j).block ?_ ?_)) (hc j u hu)
  · rw [addBlock]; omega
  · rw [addBlock]; exact ho hn ad e
theorem Off.at_ {w : World} {B sz n : Nat} {A : Option Addr} {xs : List Value} {o o' : Option Nat} (ho : Off o A n) (h : Lies w B sz A n xs) (hB : B ≤ w.heap.size) (hat : At w o o') : Off o' A n := by
  intro hn ad e hb
  rcases hat with rfl | ⟨g, rfl, hge⟩
  · exact ho hn ad e hb
  · obtain ⟨ad', e', hb', _⟩ := h.2 hn
    rw [e] at e'
    injection e' with e'
    subst e'
    injection hb with hb
    omega
def Lo (lo : Nat) (A : Option Addr) (n : Nat) : Prop := 0 < n → ∀ ad, A = some ad → lo ≤ ad.block
theorem Lo.ofOwn {w : World} {base e sz n c lo : Nat} {A : Option Addr} {xs : List Value} (h : w.ownsRow base e sz (.slice A n c) n xs) (hl : lo ≤ base) : Lo lo A n := by
  rintro _ ad rfl
  have := (h.lt ad.block rfl).1
  omega
theorem Lo.lower {lo lo' : Nat} {A : Option Addr} {n : Nat} (h : Lo lo A n) (hl : lo' ≤ lo) : Lo lo' A n := fun hn ad e => by have := h hn ad e; omega
theorem Lo.off {lo : Nat} {A : Option Addr} {n : Nat} {row : Option Nat} (h : Lo lo A n) (hr : ∀ g, row = some g → g < lo) : Off row A n := fun hn ad e hb => by
  have h1 := h hn ad e
  have h2 := hr _ hb.symm
  omega
end Iv
namespace Go.Proofs.YtfbkkgfkhhibfaaGreat
open Go Go.RowKit Iv
set_option linter.unusedVariables false
theorem info_rec : (Tryz.prog.info? 54).map (fun i => (i.zero, i.size, i.bytes)) = some (some (.agg #[.int .i64 0, .int .i64 0, .int .i64 0, .int .i64 0, .int .i64 0, .int .i64 0, .slice none 0 0, .slice none 0 0]), 8, 96) := by kernel_rfl
structure RowRec (w : World) (lo : Nat) (o : Option Nat) (css : List Value) (k : Nat) (r : Rec) (Ad : Option Addr) (nd cd : Nat) (Af : Option Addr) (nf cf : Nat) : Prop where
  cells : ∀ j u, (recV r Ad nd cd Af nf cf)[j]? = some u → css[k * 8 + j]? = some u
  ld : Lies w w.heap.size 1 Ad nd (r.ev.deps.map iv)
  lf : Lies w w.heap.size 1 Af nf (r.ev.from_.map iv)
  od : Off o Ad nd
  of_ : Off o Af nf
  lod : Lo lo Ad nd
  lof : Lo lo Af nf
def RowsAt (w : World) (lo : Nat) (o : Option Nat) (css : List Value) (rs : List Rec) : Prop :=
  css.length = rs.length * 8 ∧ ∀ k r, rs[k]? = some r → ∃ (Ad : Option Addr) (nd cd : Nat) (Af : Option Addr) (nf cf : Nat), RowRec w lo o css k r Ad nd cd Af nf cf
theorem RowsAt.nil (w : World) (lo : Nat) (o : Option Nat) : RowsAt w lo o [] [] := ⟨rfl, fun k r hr => by simp at hr⟩
theorem RowRec.grow {w w' : World} {lo : Nat} {o o' : Option Nat} {css : List Value} {k : Nat} {r : Rec} {Ad : Option Addr} {nd cd : Nat} {Af : Option Addr} {nf cf : Nat} (h : RowRec w lo o css k r Ad nd cd Af nf cf) (hg : w.grownBy w' o) (hat : At w o o') : RowRec w' lo o' css k r Ad nd cd Af nf cf :=
  ⟨h.cells, (h.ld.grownOff h.od hg (Nat.le_refl _)).more hg.size, (h.lf.grownOff h.of_ hg (Nat.le_refl _)).more hg.size, h.od.at_ h.ld (Nat.le_refl _) hat, h.of_.at_ h.lf (Nat.le_refl _) hat, h.lod, h.lof⟩
theorem RowsAt.grow {w w' : World} {lo : Nat} {o o' : Option Nat} {css : List Value} {rs : List Rec} (h : RowsAt w lo o css rs) (hg : w.grownBy w' o) (hat : At w o o') : RowsAt w' lo o' css rs :=
  ⟨h.1, fun k r hr => by
    obtain ⟨Ad, nd, cd, Af, nf, cf, q⟩ := h.2 k r hr
    exact ⟨Ad, nd, cd, Af, nf, cf, q.grow hg hat⟩⟩
theorem RowsAt.keep {w w' : World} {lo : Nat} {o : Option Nat} {css : List Value} {rs : List Rec} (h : RowsAt w lo o css rs) (hg : w.grownBy w' none) : RowsAt w' lo o css rs :=
  ⟨h.1, fun k r hr => by
    obtain ⟨Ad, nd, cd, Af, nf, cf, q⟩ := h.2 k r hr
    exact ⟨Ad, nd, cd, Af, nf, cf, q.cells, (q.ld.grown hg (Nat.le_refl _) (fun _ e => nomatch e)).more hg.size, (q.lf.grown hg (Nat.le_refl _) (fun _ e => nomatch e)).more hg.size, q.od, q.of_, q.lod, q.lof⟩⟩
theorem RowsAt.snoc {w : World} {lo : Nat} {o : Option Nat} {css : List Value} {rs : List Rec} (h : RowsAt w lo o css rs) {r : Rec} {Ad : Option Addr} {nd cd : Nat} {Af : Option Addr} {nf cf : Nat}
    (h1 : Lies w w.heap.size 1 Ad nd (r.ev.deps.map iv)) (h2 : Lies w w.heap.size 1 Af nf (r.ev.from_.map iv)) (h3 : Off o Ad nd) (h4 : Off o Af nf) (h5 : Lo lo Ad nd) (h6 : Lo lo Af nf) : RowsAt w lo o (css ++ (recV r Ad nd cd Af nf cf).toList) (rs ++ [r]) := by
  refine ⟨by rw [List.length_append, h.1, List.length_append]; unfold recV; simp [Nat.add_mul], fun k q hq => ?_⟩
  by_cases hk : k < rs.length
  · rw [List.getElem?_append_left hk] at hq
    obtain ⟨Ad', nd', cd', Af', nf', cf', z⟩ := h.2 k q hq
    refine ⟨Ad', nd', cd', Af', nf', cf', fun j u hu => ?_, z.ld, z.lf, z.od, z.of_, z.lod, z.lof⟩
    have := z.cells j u hu
    rw [List.getElem?_append_left (List.getElem?_eq_some_iff.1 this).1]
    exact this
  · have hkl : k < rs.length + 1 := by have := (List.getElem?_eq_some_iff.1 hq).1; simpa using this
    have hkn : k = rs.length := by omega
    subst hkn
    rw [List.getElem?_append_right (Nat.le_refl _), Nat.sub_self] at hq
    simp only [List.getElem?_cons_zero, Option.some.injEq] at hq
    subst hq
    refine ⟨Ad, nd, cd, Af, nf, cf, fun j u hu => ?_, h1, h2, h3, h4, h5, h6⟩
    rw [List.getElem?_append_right (by rw [h.1]; omega), h.1, Nat.add_sub_cancel_left]
    simpa using hu
structure RecN (w : World) (lo b o : Nat) (r : Rec) (Ad : Option Addr) (nd cd : Nat) (Af : Option Addr) (nf cf : Nat) : Prop where
  lob : lo ≤ b
  hib : b < w.heap.size
  cells : ∀ j u, (recV r Ad nd cd Af nf cf)[j]? = some u → w.cell? ⟨b, o + j, none⟩ = some u
  ld : Lies w w.heap.size 1 Ad nd (r.ev.deps.map iv)
  lf : Lies w w.heap.size 1 Af nf (r.ev.from_.map iv)
  lod : Lo lo Ad nd
  lof : Lo lo Af nf
def RecsNew (w : World) (lo : Nat) (A : Option Addr) (n : Nat) (rs : List Rec) : Prop :=
  rs.length = n ∧ ∀ k r, rs[k]? = some r → ∃ (b o : Nat) (Ad : Option Addr) (nd cd : Nat) (Af : Option Addr) (nf cf : Nat), A = some ⟨b, o, none⟩ ∧ RecN w lo b (o + k * 8) r Ad nd cd Af nf cf
theorem RecsNew.nil (w : World) (lo : Nat) (A : Option Addr) : RecsNew w lo A 0 [] := ⟨rfl, fun k r hr => by simp at hr⟩
theorem RecsNew.recs {w : World} {lo n : Nat} {A : Option Addr} {rs : List Rec} (h : RecsNew w lo A n rs) : Recs w w.heap.size A n rs :=
  ⟨h.1, fun k r hr => by
    obtain ⟨b, o, Ad, nd, cd, Af, nf, cf, e, q⟩ := h.2 k r hr
    exact ⟨b, o, Ad, nd, cd, Af, nf, cf, e, q.hib, q.cells, q.ld, q.lf⟩⟩
theorem RecsNew.lower {w : World} {lo lo' n : Nat} {A : Option Addr} {rs : List Rec} (h : RecsNew w lo A n rs) (hl : lo' ≤ lo) : RecsNew w lo' A n rs :=
  ⟨h.1, fun k r hr => by
    obtain ⟨b, o, Ad, nd, cd, Af, nf, cf, e, q⟩ := h.2 k r hr
    exact ⟨b, o, Ad, nd, cd, Af, nf, cf, e, Nat.le_trans hl q.lob, q.hib, q.cells, q.ld, q.lf, q.lod.lower hl, q.lof.lower hl⟩⟩
theorem RecsNew.keep {w w' : World} {lo n : Nat} {A : Option Addr} {rs : List Rec} {row : Option Nat} (h : RecsNew w lo A n rs) (hg : w.grownBy w' row) (hr : ∀ g, row = some g → g < lo) : RecsNew w' lo A n rs :=
  ⟨h.1, fun k r hk => by
    obtain ⟨b, o, Ad, nd, cd, Af, nf, cf, e, q⟩ := h.2 k r hk
    refine ⟨b, o, Ad, nd, cd, Af, nf, cf, e, q.lob, Nat.lt_of_lt_of_le q.hib hg.size, fun j u hu => ?_, (q.ld.grownOff (q.lod.off hr) hg (Nat.le_refl _)).more hg.size, (q.lf.grownOff (q.lof.off hr) hg (Nat.le_refl _)).more hg.size, q.lod, q.lof⟩
    refine Eq.trans (World.cell?_of_block (hg.block b q.hib (fun e => ?_))) (q.cells j u hu)
    have h1 := hr _ e.symm
    have h2 := q.lob
    omega⟩
theorem RowsAt.recs {w : World} {lo base e c n : Nat} {A : Option Addr} {css : List Value} {rs : List Rec} (h : RowsAt w lo (Value.slice A n c).ownBlock css rs) (ho : w.ownsRow base e 8 (.slice A n c) n css) (hn : n = rs.length) (hlo : lo ≤ base) : RecsNew w lo A n rs := by
  refine ⟨hn.symm, fun k r hr => ?_⟩
  have hk : k < n := by rw [hn]; exact (List.getElem?_eq_some_iff.1 hr).1
  obtain ⟨g, cap, hv, hbg, hlt⟩ := ho.form (by omega)
  have hgb := (ho.lt g (by rw [hv]; rfl)).1
  injection hv with hA
  subst hA
  obtain ⟨Ad, nd, cd, Af, nf, cf, q⟩ := h.2 k r hr
  refine ⟨g, 0, Ad, nd, cd, Af, nf, cf, rfl, Nat.le_trans hlo hgb, hlt, fun j u hu => ?_, q.ld, q.lf, q.lod, q.lof⟩
  have := ho.cells (g := g) rfl (k * 8 + j) u (q.cells j u hu)
  rw [Nat.zero_add]
  have e0 : (⟨g, 0, none⟩ : Addr).add (k * 8 + j) = ⟨g, k * 8 + j, none⟩ := by unfold Addr.add; split <;> simp_all
  rwa [e0] at this
theorem recV_one (r : Rec) (Ad : Option Addr) (nd cd : Nat) (Af : Option Addr) (nf cf : Nat) : ∀ u ∈ (recV r Ad nd cd Af nf cf).toList, u.oneCell' = true := by
  intro u hu
  unfold recV at hu
  simp only [List.mem_cons, List.not_mem_nil, or_false] at hu
  rcases hu with rfl | rfl | rfl | rfl | rfl | rfl | rfl | rfl <;> rfl
theorem recV_new (W : World) (t : TypeId) (r : Rec) (Ad : Option Addr) (nd cd : Nat) (Af : Option Addr) (nf cf : Nat) : ∀ j u, (recV r Ad nd cd Af nf cf).toList[j]? = some u → (W.alloc (.cells (recV r Ad nd cd Af nf cf) t)).cell? ((⟨W.heap.size, 0, none⟩ : Addr).add j) = some u := by
  intro j u hu
  have e0 : (⟨W.heap.size, 0, none⟩ : Addr).add j = ⟨W.heap.size, j, none⟩ := by unfold Addr.add; split <;> simp_all
  rw [e0, (Held.new W t _).cell j]
  simpa using hu
end Go.Proofs.YtfbkkgfkhhibfaaGreat
