/- What the readers of an integer give, part by part. -/
import Derived.Test.YtlofjhcjjcohfaaInt
import Derived.Test.YtlofjhcjjcohfaaMm
import Derived.Deep.RegionHeld3
namespace Go.Proofs.Ytlofjhcjjcohfaa
open Go Go.RowKit Iv
set_option linter.unusedVariables false

/-- What a reader gives, part by part. -/
theorem intP_parts (A : Option Addr) (n c : Nat) (xs : Bytes) (w : World) (B : Nat) (h : Lies w B 1 A n (xs.map bv)) (hn : n ≤ 1000000000000) {m : Int} {k : Nat} {er : Int} (hg : getI xs = (m, k, er)) :
    Calls Try.prog 54 #[.slice A n c] w fun e w' => e = .returned (.tuple #[.int .i64 m, .int .i64 (k : Int), .int .i64 er]) ∧ w = w' := by
  have := intP_any A n c xs w B h hn
  rw [hg] at this
  exact this
theorem intR_parts (A : Option Addr) (n c : Nat) (xs : Bytes) (w : World) (B : Nat) (h : Lies w B 1 A n (xs.map bv)) (hn : n ≤ 1000000000000) {m : Int} {k : Nat} {er : Int} (hg : getI xs = (m, k, er)) :
    Calls Try.prog 74 #[.slice A n c] w fun e w' => e = .returned (.tuple #[.int .i64 m, .int .i64 (k : Int), .int .i64 er]) ∧ w = w' := by
  have := intR_any A n c xs w B h hn
  rw [hg] at this
  exact this

end Go.Proofs.Ytlofjhcjjcohfaa

/- The walks of the readers' methods (chapter 11): each is 'rdNum', 'rdList'. -/
namespace Go.Proofs.Ytlofjhcjjcohfaa
open Go Go.RowKit Iv
set_option linter.unusedVariables false

theorem rdNum_at {b : Bytes} {s : Rd} (h : s.at_ ≤ b.length) : (rdNum b s).2.at_ ≤ b.length ∧ s.at_ ≤ (rdNum b s).2.at_ := by
  unfold rdNum
  split
  · split
    · rename_i h1
      have := getI_once (l := b.drop s.at_) (n := (getI (b.drop s.at_)).1) (k := (getI (b.drop s.at_)).2.1) (by rw [← h1])
      have h2 := this.2.2.2.1
      rw [List.length_drop] at h2
      dsimp only
      omega
    · exact ⟨h, Nat.le_refl _⟩
  · exact ⟨h, Nat.le_refl _⟩

/-- The reader's cells. -/
def rdCells (A : Option Addr) (n c : Nat) (s : Rd) : Array Value := #[.slice A n c, .int .i64 (s.at_ : Int), .int .i64 s.err]

set_option maxRecDepth 100000 in
set_option maxHeartbeats 800000 in
theorem numberP_any (g : Nat) (A : Option Addr) (n c B : Nat) (xs : Bytes) (s : Rd) (w : World) (hg : Held w g 84 (rdCells A n c s)) (h : Lies w B 1 A n (xs.map bv)) (hnc : n ≤ c) (ho : A = none → c = 0) (hn : n ≤ 1000000000) (hs : s.at_ ≤ n) :
    Calls Try.prog 36 #[.pointer (some ⟨g, 0, none⟩)] w fun e w' => e = .returned (.int .i64 (rdNum xs s).1) ∧ Held w' g 84 (rdCells A n c (rdNum xs s).2) ∧ w.grownBy w' (some g) := by
  have hl : xs.length = n := h.lenB
  have g0 : w.cell? ⟨g, 0, none⟩ = some (.slice A n c) := hg.cell 0
  have g1 : w.cell? ⟨g, 1, none⟩ = some (.int .i64 (s.at_ : Int)) := hg.cell 1
  have g2 : w.cell? ⟨g, 2, none⟩ = some (.int .i64 s.err) := hg.cell 2
  by_cases he : s.err = 0
  · obtain ⟨a, er⟩ := s
    dsimp only at he hs g0 g1 g2 hg ⊢
    subst he
    have hcut : Lies w B 1 (if c = a then A else A.map fun x => x.add a) (n - a) ((xs.drop a).map bv) := by
      have := h.dropIf hs hnc
      rwa [Nat.mul_one, ← List.map_drop] at this
    obtain ⟨A', hA'⟩ : ∃ A', (if c = a then A else A.map fun x => x.add a) = A' := ⟨_, rfl⟩
    rw [hA'] at hcut
    obtain ⟨m, k, er, hgi⟩ : ∃ m k er, getI (xs.drop a) = (m, k, er) := ⟨_, _, _, rfl⟩
    have CP := Lib.hid (intP_parts A' (n - a) (c - a) (xs.drop a) w.drew B hcut.drew (by omega) hgi)
    have hne : ((0 : Int) != 0) = false := rfl
    have j0 : (0 : Int) ≤ (a : Int) := by omega
    have j1 : (a : Int) ≤ (n : Int) := by omega
    have j2 : (n : Int) ≤ (c : Int) := by omega
    have z0 := hg.free 0
    have z1 := hg.free 1
    have z2 := hg.free 2
    by_cases her : er = 0
    · subst her
      have ho := getI_once hgi
      have hk : k ≤ n - a := by have := ho.2.2.2.1; rw [List.length_drop] at this; omega
      have hrd : rdNum xs ⟨a, 0⟩ = (m, ⟨a + k, 0⟩) := by
        unfold rdNum
        rw [if_pos rfl]
        dsimp only
        rw [hgi, if_pos rfl]
      rw [hrd]
      have HG := Lib.hid hg
      clear hrd hgi ho hl hg hcut h
      go_enter Try.func36, Try.ntmps36
      go_wp2_with fail
      go_region_held3 (fun w' => w'.cell? ⟨g, 0, none⟩ = some (.slice A n c) ∧ w'.cell? ⟨g, 1, none⟩ = some (.int .i64 (a : Int))) (go_keep) (first
        | (go_at_call 54; ((with_reducible refine CP.out.mono ?_); rintro e w1 ⟨rfl, rfl⟩)))
      go_wp2_with fail
      go_ret
      have hst := (HG.out.store 1 (.int .i64 ((a : Int) + (k : Int)))).drew
      exact ⟨rfl, hst, grown_toDrew (grown_store w g 1 _)⟩
    · obtain ⟨er', her', hg'⟩ := (getI_err (xs.drop a)).resolve_left (by rw [hgi]; exact her)
      rw [hgi] at hg'
      simp only [Prod.mk.injEq] at hg'
      obtain ⟨rfl, rfl, rfl⟩ := hg'
      have hrd : rdNum xs ⟨a, 0⟩ = (0, ⟨a, er⟩) := by
        unfold rdNum
        rw [if_pos rfl]
        dsimp only
        rw [hgi, if_neg her]
      rw [hrd]
      have HG := Lib.hid hg
      have hbe : (er != 0) = true := by rw [bne_iff_ne]; exact her
      clear hrd hgi hl hg hcut h her her'
      go_enter Try.func36, Try.ntmps36
      go_wp2_with fail
      go_region_held3 (fun w' => w'.cell? ⟨g, 0, none⟩ = some (.slice A n c) ∧ w'.cell? ⟨g, 1, none⟩ = some (.int .i64 (a : Int))) (go_keep) (first
        | (go_at_call 54; ((with_reducible refine CP.out.mono ?_); rintro e w1 ⟨rfl, rfl⟩)))
      go_wp2_with fail
      go_ret
      have hst := (HG.out.store 2 (.int .i64 er)).drew
      exact ⟨rfl, hst, grown_toDrew (grown_store w g 2 _)⟩
  · have hb : (s.err != 0) = true := by rw [bne_iff_ne]; exact he
    have hrd : rdNum xs s = (0, s) := rdNum_bad he
    rw [hrd]
    have HG := Lib.hid hg
    clear hrd he hl hg
    go_enter Try.func36, Try.ntmps36
    go_wp2_with fail
    go_ret
    exact ⟨rfl, HG.out, World.grownBy.refl w _⟩

set_option maxRecDepth 100000 in
set_option maxHeartbeats 800000 in
theorem numberR_any (g : Nat) (A : Option Addr) (n c B : Nat) (xs : Bytes) (s : Rd) (w : World) (hg : Held w g 116 (rdCells A n c s)) (h : Lies w B 1 A n (xs.map bv)) (hnc : n ≤ c) (ho : A = none → c = 0) (hn : n ≤ 1000000000) (hs : s.at_ ≤ n) :
    Calls Try.prog 58 #[.pointer (some ⟨g, 0, none⟩)] w fun e w' => e = .returned (.int .i64 (rdNum xs s).1) ∧ Held w' g 116 (rdCells A n c (rdNum xs s).2) ∧ w.grownBy w' (some g) := by
  have hl : xs.length = n := h.lenB
  have g0 : w.cell? ⟨g, 0, none⟩ = some (.slice A n c) := hg.cell 0
  have g1 : w.cell? ⟨g, 1, none⟩ = some (.int .i64 (s.at_ : Int)) := hg.cell 1
  have g2 : w.cell? ⟨g, 2, none⟩ = some (.int .i64 s.err) := hg.cell 2
  by_cases he : s.err = 0
  · obtain ⟨a, er⟩ := s
    dsimp only at he hs g0 g1 g2 hg ⊢
    subst he
    have hcut : Lies w B 1 (if c = a then A else A.map fun x => x.add a) (n - a) ((xs.drop a).map bv) := by
      have := h.dropIf hs hnc
      rwa [Nat.mul_one, ← List.map_drop] at this
    obtain ⟨A', hA'⟩ : ∃ A', (if c = a then A else A.map fun x => x.add a) = A' := ⟨_, rfl⟩
    rw [hA'] at hcut
    obtain ⟨m, k, er, hgi⟩ : ∃ m k er, getI (xs.drop a) = (m, k, er) := ⟨_, _, _, rfl⟩
    have CP := Lib.hid (intR_parts A' (n - a) (c - a) (xs.drop a) w.drew B hcut.drew (by omega) hgi)
    have hne : ((0 : Int) != 0) = false := rfl
    have j0 : (0 : Int) ≤ (a : Int) := by omega
    have j1 : (a : Int) ≤ (n : Int) := by omega
    have j2 : (n : Int) ≤ (c : Int) := by omega
    have z0 := hg.free 0
    have z1 := hg.free 1
    have z2 := hg.free 2
    by_cases her : er = 0
    · subst her
      have ho := getI_once hgi
      have hk : k ≤ n - a := by have := ho.2.2.2.1; rw [List.length_drop] at this; omega
      have hrd : rdNum xs ⟨a, 0⟩ = (m, ⟨a + k, 0⟩) := by
        unfold rdNum
        rw [if_pos rfl]
        dsimp only
        rw [hgi, if_pos rfl]
      rw [hrd]
      have HG := Lib.hid hg
      clear hrd hgi ho hl hg hcut h
      go_enter Try.func58, Try.ntmps58
      go_wp2_with fail
      go_region_held3 (fun w' => w'.cell? ⟨g, 0, none⟩ = some (.slice A n c) ∧ w'.cell? ⟨g, 1, none⟩ = some (.int .i64 (a : Int))) (go_keep) (first
        | (go_at_call 74; ((with_reducible refine CP.out.mono ?_); rintro e w1 ⟨rfl, rfl⟩)))
      go_wp2_with fail
      go_ret
      have hst := (HG.out.store 1 (.int .i64 ((a : Int) + (k : Int)))).drew
      exact ⟨rfl, hst, grown_toDrew (grown_store w g 1 _)⟩
    · obtain ⟨er', her', hg'⟩ := (getI_err (xs.drop a)).resolve_left (by rw [hgi]; exact her)
      rw [hgi] at hg'
      simp only [Prod.mk.injEq] at hg'
      obtain ⟨rfl, rfl, rfl⟩ := hg'
      have hrd : rdNum xs ⟨a, 0⟩ = (0, ⟨a, er⟩) := by
        unfold rdNum
        rw [if_pos rfl]
        dsimp only
        rw [hgi, if_neg her]
      rw [hrd]
      have HG := Lib.hid hg
      have hbe : (er != 0) = true := by rw [bne_iff_ne]; exact her
      clear hrd hgi hl hg hcut h her her'
      go_enter Try.func58, Try.ntmps58
      go_wp2_with fail
      go_region_held3 (fun w' => w'.cell? ⟨g, 0, none⟩ = some (.slice A n c) ∧ w'.cell? ⟨g, 1, none⟩ = some (.int .i64 (a : Int))) (go_keep) (first
        | (go_at_call 74; ((with_reducible refine CP.out.mono ?_); rintro e w1 ⟨rfl, rfl⟩)))
      go_wp2_with fail
      go_ret
      have hst := (HG.out.store 2 (.int .i64 er)).drew
      exact ⟨rfl, hst, grown_toDrew (grown_store w g 2 _)⟩
  · have hb : (s.err != 0) = true := by rw [bne_iff_ne]; exact he
    have hrd : rdNum xs s = (0, s) := rdNum_bad he
    rw [hrd]
    have HG := Lib.hid hg
    clear hrd he hl hg
    go_enter Try.func58, Try.ntmps58
    go_wp2_with fail
    go_ret
    exact ⟨rfl, HG.out, World.grownBy.refl w _⟩
end Go.Proofs.Ytlofjhcjjcohfaa
