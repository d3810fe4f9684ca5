/- The law of Blocks (chapter 15): the program's Blocks and the reference's. -/
import Derived.Test.YtlofjhcjjcohfaaBlC
import Derived.Test.YtlofjhcjjcohfaaBlR
import Derived.Test.YtlofjhcjjcohfaaLaw13d
namespace Iv
/-- A block of a file: decoded, in bounds. -/
theorem blocksOf_mem (th : Int) (f : Nat) : ∀ (b : Bytes) (rc la : Int) (x : Blk) (k : Nat), (x, k) ∈ blocksOf th f b rc la → ∃ b' : Bytes, b'.length ≤ b.length ∧ Iv.decode b' = (x, k, 0) := by
  induction f with
  | zero => intro b rc la x k h; simp [blocksOf] at h
  | succ f ih =>
    intro b rc la x k h
    unfold blocksOf at h
    split at h
    · rename_i hg
      obtain ⟨e0, h1, h2, _⟩ := goodB_ok hg
      rcases List.mem_cons.1 h with h | h
      · refine ⟨b, Nat.le_refl _, ?_⟩
        injection h with hx hk
        rw [hx, hk, ← e0]
      · obtain ⟨b', hb, hd⟩ := ih _ _ _ x k h
        exact ⟨b', by rw [List.length_drop] at hb; omega, hd⟩
    · simp at h
theorem blocksAll_mem {th rc la : Int} {b : Bytes} {x : Blk} {k : Nat} (h : (x, k) ∈ blocksAll th b rc la) : ∃ b' : Bytes, b'.length ≤ b.length ∧ Iv.decode b' = (x, k, 0) := blocksOf_mem th _ b rc la x k h
theorem blocksOf_len (th : Int) (f : Nat) : ∀ (b : Bytes) (rc la : Int), (blocksOf th f b rc la).length ≤ b.length := by
  induction f with
  | zero => intro b rc la; simp [blocksOf]
  | succ f ih =>
    intro b rc la
    unfold blocksOf
    split
    · rename_i hg
      obtain ⟨e0, h1, h2, _⟩ := goodB_ok hg
      have := ih (b.drop (Iv.decode b).2.1) (rc + (Iv.decode b).1.recs.length) (lastSeq (Iv.decode b).1 la)
      rw [List.length_drop] at this
      rw [List.length_cons]
      omega
    · simp
theorem blocksAll_len (th rc la : Int) (b : Bytes) : (blocksAll th b rc la).length ≤ b.length := blocksOf_len th _ b rc la
theorem decode_enc {b : Bytes} {x : Blk} {k : Nat} (h : Iv.decode b = (x, k, 0)) : (encode x).1.length ≤ b.length ∧ x.recs.length ≤ 64 := by
  obtain ⟨f0, hy, hk, _⟩ := decode_good h
  refine ⟨?_, ?_⟩
  · unfold encode
    rw [if_pos f0]
    show (blkBytes x).length ≤ _
    rw [← hy, List.length_take]
    omega
  · exact (fits_zero f0).2.1
/-- One block with one event. -/
def awBlk : Blk := ⟨0, 0, [⟨0, ⟨0, 1, 0, 0, 0, [], []⟩⟩]⟩
theorem aw15 : (encode awBlk).2 = 0 ∧ (encode awBlk).1.length ≤ 100 ∧ (blocksAll 0 (encode awBlk).1 0 (-1)).length = 1 ∧ sizeB (blocksAll 0 (encode awBlk).1 0 (-1)) = (encode awBlk).1.length := by decide +kernel
end Iv
namespace Go.Proofs.Ytlofjhcjjcohfaa
open Go Go.RowKit Iv
set_option linter.unusedVariables false

theorem blks_get {w : World} {base lo m k : Nat} {o : Option Nat} {v : Value} {css : List Value} {xs : List Blk} (hown : w.ownsRow base 38 3 v m css) (h : BlksAt w lo o css xs) (hm : xs.length = m) (hk : k < m) :
    ∃ (g c : Nat) (x : Blk) (A : Option Addr) (n cc : Nat), v = .slice (some ⟨g, 0, none⟩) m c ∧ m ≤ c ∧ xs[k]? = some x ∧ w.cell? ⟨g, k * 3, none⟩ = some (.int .i64 x.thread) ∧ w.cell? ⟨g, k * 3 + 1, none⟩ = some (.int .i64 x.first) ∧ w.cell? ⟨g, k * 3 + 2, none⟩ = some (.slice A n cc) ∧ RecsOff w lo o A n x.recs ∧ n ≤ cc ∧ cc ≤ maxLen ∧ (A = none → cc = 0) := by
  obtain ⟨g, c, hv, hmc, hlt⟩ := hown.form (by omega)
  subst hv
  obtain ⟨A, n, cc, h1, h2, h3⟩ := h.2 k (xs[k]'(by omega)) (List.getElem?_eq_getElem (by omega))
  have hc := hown.cells (g := g) rfl
  have cell : ∀ j u, (blkV (xs[k]'(by omega)) A n cc)[j]? = some u → w.cell? ⟨g, k * 3 + j, none⟩ = some u := fun j u hu => by
    have := hc (k * 3 + j) u (h1 j u hu)
    rw [show (⟨g, 0, none⟩ : Addr).add (k * 3 + j) = ⟨g, k * 3 + j, none⟩ by unfold Addr.add; split <;> simp_all] at this
    exact this
  exact ⟨g, c, _, A, n, cc, rfl, by obtain ⟨_, _, hv2, hnm, _⟩ := own_slice hown; injection hv2 with _ _ e3; omega, List.getElem?_eq_getElem (by omega), cell 0 _ rfl, cell 1 _ rfl, cell 2 _ rfl, h2, h3⟩

theorem rn_of {r : Rec} (h : RecOk r) : RecNums r := ⟨h.seq, h.thread, h.kind, h.obj, h.value, h.site, h.deps, h.from_⟩

set_option maxRecDepth 100000 in
set_option maxHeartbeats 1600000 in
theorem awake15_any (w : World) : Calls Try.prog 29 #[] w fun e w' => e = .returned (.bool true) ∧ w.grownBy w' none := by
  obtain ⟨a1, a2, a3, a4⟩ := aw15
  obtain ⟨W, hW⟩ : ∃ W, W = w.alloc (.cells #[.int .i64 0, .int .i64 0, .int .i64 1, .int .i64 0, .int .i64 0, .int .i64 0, .slice none 0 0, .slice none 0 0] 26) := ⟨_, rfl⟩
  have hg : w.grownBy W none := by rw [hW]; exact World.grownBy_alloc w _ none
  have hh : Held W w.heap.size 26 #[.int .i64 0, .int .i64 0, .int .i64 1, .int .i64 0, .int .i64 0, .int .i64 0, .slice none 0 0, .slice none 0 0] := by rw [hW]; exact Held.new _ _ _
  have hs : W.heap.size = w.heap.size + 1 := by rw [hW]; simp
  have hrec : Recs W W.heap.size (some ⟨w.heap.size, 0, none⟩) 1 awBlk.recs := by
    refine ⟨rfl, fun k r hr => ?_⟩
    obtain rfl : k = 0 := by
      have := (List.getElem?_eq_some_iff.1 hr).1
      simp [awBlk] at this
      exact this
    have : r = ⟨0, ⟨0, 1, 0, 0, 0, [], []⟩⟩ := by simp [awBlk] at hr; exact hr.symm
    subst this
    refine ⟨w.heap.size, 0, none, 0, 0, none, 0, 0, rfl, by omega, fun j u hu => ?_, Lies.nil, Lies.nil⟩
    have := hh.cell j
    simp only [Nat.zero_mul, Nat.zero_add]
    rw [this]
    exact hu
  have CE := Lib.hid (encodeR_any awBlk (some ⟨w.heap.size, 0, none⟩) 1 1 W.heap.size W hrec (Nat.le_refl _) (fun r hr => by
    have : r = ⟨0, ⟨0, 1, 0, 0, 0, [], []⟩⟩ := by simp [awBlk] at hr; exact hr
    subst this
    have z : ∀ m : Int, 0 ≤ m → m ≤ 1 → inI64 m := fun m h1 h2 => ⟨by omega, by omega⟩
    exact ⟨z _ (by decide) (by decide), z _ (by decide) (by decide), z _ (by decide) (by decide), z _ (by decide) (by decide), z _ (by decide) (by decide), z _ (by decide) (by decide), fun m hm => by simp at hm, fun m hm => by simp at hm⟩) W.heap.size (Nat.le_refl _))
  have HW := Lib.hid hW
  have HA := Lib.hid (And.intro a3 a4)
  clear hW hh hs hrec a1 a3 a4
  go_enter Try.func29, Try.ntmps29
  go_wp2_with fail
  rw [show w.alloc (.cells #[.int .i64 0, .int .i64 0, .int .i64 1, .int .i64 0, .int .i64 0, .int .i64 0, .slice none 0 0, .slice none 0 0] 26) = W from HW.out.symm]
  refine CE.out.mono ?_
  rintro e w1 ⟨v1, rfl, hown1, hg1⟩
  obtain ⟨A1, c1, hv1, hn1, hm1, hl1, ho1⟩ := own_slice hown1
  have CB := Lib.hid (blocksP_any A1 _ c1 _ (encode awBlk).1 0 w1 hl1 (Nat.le_refl _) hn1 hm1 ho1 (by omega))
  clear hl1 ho1 hown1
  subst hv1
  go_wp2_with fail
  refine CB.out.mono ?_
  rintro e w2 ⟨v2, css, rfl, hown2, hb2, hg2⟩
  obtain ⟨A2, c2, hv2, hn2, hm2, hl2, ho2⟩ := own_slice hown2
  clear hl2 ho2 hown2 hb2
  subst hv2
  rw [HA.out.1, HA.out.2]
  have hxx : (((encode awBlk).1.length : Int) == ((encode awBlk).1.length : Int)) = true := by simp
  go_wp2_with fail
  go_ret
  exact ⟨rfl, grownBy_trans (grownBy_trans hg hg1 (.inl rfl)) hg2 (.inl rfl)⟩

set_option maxRecDepth 100000 in
set_option maxHeartbeats 3200000 in
theorem collectBlocks_any (A : Option Addr) (n c : Nat) (xs : Bytes) (th : Int) (w : World) (h : Lies w w.heap.size 1 A n (xs.map bv)) (hnc : n ≤ c) (hcm : c ≤ maxLen) (ho : A = none → c = 0) (hth : inI64 th) :
    Calls Try.prog 8 #[.slice A n c, .int .i64 th] w fun e w' => e = .returned (.bool true) ∧ Below w.heap.size w w' := by
  by_cases h3 : 3000 < n
  · clear ho
    unfold maxLen at hcm
    have z : (3000 : Int) < (n : Int) := by omega
    go_enter Try.func8, Try.ntmps8
    go_wp2_with fail
    go_ret
    exact ⟨rfl, Below.refl _ _⟩
  · have CP := Lib.hid (blocksP_any A n c _ xs th w h (Nat.le_refl _) hnc hcm ho (by omega))
    have CR := Lib.hid (fun (w1 : World) (hg : w.grownBy w1 none) => blocksR_any A n c _ xs th w1 (h.grown hg (Nat.le_refl _) (fun _ e => nomatch e)) hg.size hnc hcm ho (by omega))
    have hxl : xs.length = n := h.lenB
    obtain ⟨L, hL⟩ : ∃ L, L = blocksAll th xs 0 (-1) := ⟨_, rfl⟩
    have hll : L.length ≤ n := by rw [hL, ← hxl]; exact blocksAll_len _ _ _ _
    have hmem : ∀ x k, (x, k) ∈ L → (encode x).1.length ≤ 3000 ∧ ∀ r ∈ x.recs, RecNums r := fun x k hx => by
      rw [hL] at hx
      obtain ⟨b', hb', hd⟩ := blocksAll_mem hx
      refine ⟨by have := (decode_enc hd).1; omega, fun r hr => rn_of ((decode_ok b').1 r (by rw [hd]; exact hr))⟩
    rw [← hL] at CP CR
    have HMEM := Lib.hid hmem
    have zn : ¬ (3000 : Int) < (n : Int) := by omega
    unfold maxLen at hcm
    clear ho h hL hmem hxl
    go_enter Try.func8, Try.ntmps8
    go_wp2_with fail
    refine CP.out.mono ?_
    rintro e w1 ⟨v1, css1, rfl, hown1, hb1, hg1⟩
    go_wp2_with fail
    refine (CR.out w1 hg1).mono ?_
    rintro e w2 ⟨v2, css2, rfl, hown2, hb2, hg2⟩
    have hown1' := own_keep hown1 hg2 (fun _ _ e => nomatch e)
    have hb1' := hb1.keep hg2 (fun _ e => nomatch e)
    have HO1 := Lib.hid hown1'
    have HO2 := Lib.hid hown2
    have HB1 := Lib.hid hb1'
    have HB2 := Lib.hid hb2
    obtain ⟨A1, c1, hv1, _, _, _, _⟩ := own_slice hown1
    obtain ⟨A2, c2, hv2, _, _, _, _⟩ := own_slice hown2
    have hg02 := grownBy_trans hg1 hg2 (.inl rfl)
    have e1 : ((L.length : Int) != (L.length : Int)) = false := by simp
    have e2 : ((sizeB L : Int) != (sizeB L : Int)) = false := by simp
    clear hown1 hown1' hown2 hb1 hb1' hb2
    subst hv1 hv2
    go_wp2_with fail
    go_loopw [9] (fun iv wr => ∃ k : Nat, iv = .int .i64 (k : Int) ∧ k ≤ L.length ∧ w2.grownBy wr none) (fun iv _ => L.length - (intOf iv).toNat)
    case atStart => exact ⟨0, rfl, Nat.zero_le _, World.grownBy.refl w2 none⟩
    case round =>
      obtain ⟨k, rfl, hk, hg⟩ := hrel
      by_cases hlt : k < L.length
      · obtain ⟨g1, d1, x, B1, m1, e1', hv1, hmc1, hx1, a0, a1, a2, ar, _, _, _⟩ := blks_get (own_keep HO1.out hg (fun _ _ e => nomatch e)) (HB1.out.keep hg (fun _ e => nomatch e)) (by rw [List.length_map]) hlt
        obtain ⟨g2, d2, x', B2, m2, e2', hv2, hmc2, hx2, b0, b1, b2, br, _, _, _⟩ := blks_get (own_keep HO2.out hg (fun _ _ e => nomatch e)) (HB2.out.keep hg (fun _ e => nomatch e)) (by rw [List.length_map]) hlt
        obtain rfl : x' = x := by rw [hx1] at hx2; exact (Option.some.inj hx2).symm
        injection hv1 with hv11 _ hv13
        injection hv2 with hv21 _ hv23
        subst hv11 hv13 hv21 hv23
        have hxm : ∃ kk, (x', kk) ∈ L := by
          have := List.mem_of_getElem? hx1
          obtain ⟨p, hp, he⟩ := List.mem_map.1 this
          exact ⟨p.2, by rw [← he]; exact hp⟩
        obtain ⟨kk, hxk⟩ := hxm
        obtain ⟨hel, hrn⟩ := HMEM.out x' kk hxk
        have hr1 := ar.new.recs
        have hr2 := br.new.recs
        have CE1 := Lib.hid (encodeR_any x' B1 m1 e1' wr.heap.size wr hr1 (Nat.le_refl _) hrn wr.heap.size (Nat.le_refl _))
        have CE2 := Lib.hid (fun (W : World) (hgw : wr.grownBy W none) => encodeR_any x' B2 m2 e2' wr.heap.size W (hr2.grown hgw (Nat.le_refl _) (fun _ e => nomatch e)) hgw.size hrn W.heap.size (Nat.le_refl _))
        have b0' := Lib.hid b0
        have b1' := Lib.hid b1
        have b2' := Lib.hid b2
        have i0 : (0 : Int) ≤ (k : Int) := by omega
        have i1 : (k : Int) < (L.length : Int) := by omega
        clear hx1 hx2 ar br hr1 hr2 hrn b0 b1 b2
        go_wp2_with fail
        refine CE1.out.mono ?_
        rintro e w3 ⟨v3, rfl, hown3, hg3⟩
        have b0 : w3.cell? ⟨g2, k * 3, none⟩ = some (.int .i64 x'.thread) := hg3.cell b0'.out (fun e => nomatch e)
        have b1 : w3.cell? ⟨g2, k * 3 + 1, none⟩ = some (.int .i64 x'.first) := hg3.cell b1'.out (fun e => nomatch e)
        have b2 : w3.cell? ⟨g2, k * 3 + 2, none⟩ = some (.slice B2 m2 e2') := hg3.cell b2'.out (fun e => nomatch e)
        have HO3 := Lib.hid hown3
        clear hown3 a0 a1 a2
        go_wp2_with fail
        refine (CE2.out w3 hg3).mono ?_
        rintro e w4 ⟨v4, rfl, hown4, hg4⟩
        obtain ⟨A3, c3, hv3, hn3, hm3, hl3, ho3⟩ := own_slice (own_keep HO3.out hg4 (fun _ _ e => nomatch e))
        obtain ⟨A4, c4, hv4, hn4, hm4, hl4, ho4⟩ := own_slice hown4
        have CS := Lib.hid (same_yes A3 A4 _ _ c3 c4 (encode x').1 w4 _ _ hl3 hl4 (by omega) (by omega))
        have hg5 := grownBy_trans (grownBy_trans hg hg3 (.inl rfl)) hg4 (.inl rfl)
        clear hown4 hl3 hl4 b0 b1 b2
        subst hv3 hv4
        go_wp2_with fail
        refine CS.out.mono ?_
        rintro e w5 ⟨rfl, q, rfl⟩
        go_wp2_with fail
        go_roundw
        case rel => exact ⟨k + 1, by go_num, by omega, grown_toDrewN hg5 q⟩
        case measure => simp [intOf]; omega
      · go_wp2_with fail
        refine (awake15_any _).mono ?_
        rintro e w9 ⟨rfl, hg9⟩
        go_wp2_with fail
        go_ret
        exact ⟨rfl, belGr (Below.refl _ _) (grownBy_trans (grownBy_trans hg02 hg (.inl rfl)) hg9 (.inl rfl))⟩
end Go.Proofs.Ytlofjhcjjcohfaa
