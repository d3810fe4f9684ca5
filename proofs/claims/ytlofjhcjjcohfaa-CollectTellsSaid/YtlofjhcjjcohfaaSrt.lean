/- The walks of the family of slices.SortStableFunc, over any program that bears these bodies; elements of k cells. -/
import Derived.Test.YtlofjhcjjcohfaaProg
import Derived.Test.YtlofjhcjjcohfaaPsym
import Derived.Shelf.SlSortCmp.KitK
import Derived.Sort.WalkA
import Derived.Deep.LoopGhost
import Derived.Lib.Hide
namespace Go.Proofs.Ytlofjhcjjcohfaa
open Go Go.Shelf Go.RowKit Go.Lib Go.Sort Iv
set_option linter.unusedVariables false

structure SortLays (P : Program) (k : Nat) : Prop where
  mixed : P.follows .mixedOrders = true
  f62 : P.funcs[62]? = some Try.f62
  f77 : P.funcs[77]? = some Try.f77
  f86 : P.funcs[86]? = some Try.f86
  f87 : P.funcs[87]? = some Try.f87
  f88 : P.funcs[88]? = some Try.f88
  f89 : P.funcs[89]? = some Try.f89
  t0 : P.underlying 0 = some (TypeDesc.tuple #[])
  a0 : ∀ w, (isAgg 0).run P w = .ok false w
  z0 : ∀ w, (Go.sizeOf 0).run P w = .ok 1 w
  v0 : ∀ w, (zeroValue 0).run P w = .ok (Value.tuple #[]) w
  t3 : P.underlying 3 = some (TypeDesc.int IntKind.i64)
  a3 : ∀ w, (isAgg 3).run P w = .ok false w
  z3 : ∀ w, (Go.sizeOf 3).run P w = .ok 1 w
  v3 : ∀ w, (zeroValue 3).run P w = .ok (Value.int IntKind.i64 0) w
  t4 : P.underlying 4 = some (TypeDesc.bool)
  a4 : ∀ w, (isAgg 4).run P w = .ok false w
  z4 : ∀ w, (Go.sizeOf 4).run P w = .ok 1 w
  v4 : ∀ w, (zeroValue 4).run P w = .ok (Value.bool false) w
  t36 : P.underlying 36 = some (TypeDesc.slice 26)
  a36 : ∀ w, (isAgg 36).run P w = .ok false w
  z36 : ∀ w, (Go.sizeOf 36).run P w = .ok 1 w
  v36 : ∀ w, (zeroValue 36).run P w = .ok (Value.slice none 0 0) w
  t124 : P.underlying 124 = some (TypeDesc.func #[26, 26] #[3] false)
  a124 : ∀ w, (isAgg 124).run P w = .ok false w
  z124 : ∀ w, (Go.sizeOf 124).run P w = .ok 1 w
  v124 : ∀ w, (zeroValue 124).run P w = .ok (Value.nilFunc) w
  t96 : P.underlying 96 = some (TypeDesc.int IntKind.u64)
  a96 : ∀ w, (isAgg 96).run P w = .ok false w
  z96 : ∀ w, (Go.sizeOf 96).run P w = .ok 1 w
  v96 : ∀ w, (zeroValue 96).run P w = .ok (Value.int IntKind.u64 0) w
  aE : ∀ w, (isAgg 26).run P w = .ok true w
  zE : ∀ w, (Go.sizeOf 26).run P w = .ok k w

variable {P : Program} {α : Type} [Inhabited α]

set_option maxHeartbeats 4000000 in
set_option maxRecDepth 1000000 in
theorem swapRange_any {k : Nat} (L : SortLays P k) (enc : α → List Value) (g : Nat) (cb : Array Value) (blk off cap a b n : Nat) (d0 d : Array α) (w0 w : World)
    (R : RowK enc k w0 blk off d0) (hs : d.size = d0.size) (S : SWK enc k w0 blk off d w) (hab : a + n ≤ b) (hb : b + n ≤ d0.size) (hsz : d0.size < 1000000000) :
    Calls P 89 #[.slice (some ⟨blk, off, none⟩) d0.size cap, .int .i64 a, .int .i64 b, .int .i64 n, .func (.func g) #[] cb] w fun e w' => e = .returned (.tuple #[]) ∧ SWK enc k w0 blk off (swapR d a b n) w' := by
  have mixed := L.mixed; have t0 := L.t0; have a0 := L.a0; have z0 := L.z0; have v0 := L.v0; have t3 := L.t3; have a3 := L.a3; have z3 := L.z3; have v3 := L.v3; have t4 := L.t4; have a4 := L.a4; have z4 := L.z4; have v4 := L.v4; have t36 := L.t36; have a36 := L.a36; have z36 := L.z36; have v36 := L.v36; have t124 := L.t124; have a124 := L.a124; have z124 := L.z124; have v124 := L.v124; have t96 := L.t96; have a96 := L.a96; have z96 := L.z96; have v96 := L.v96; have aE := L.aE; have zE := L.zE; have u36 := run_underlying L.t36
  have S0 : Aside (SWK enc k w0 blk off d w) := S
  clear S
  go_enter L.f89, Try.ntmps89
  go_wp2
  go_loopg [10] n (fun kx s10 wr => ∃ (i : Nat), s10 = .int .i64 (i : Int) ∧ i ≤ n ∧ n - i ≤ kx ∧ Aside (SWK enc k w0 blk off (swapR d a b i) wr))
  case atStart => exact ⟨0, rfl, Nat.zero_le _, by omega, S0⟩
  case round =>
    clear S0
    obtain ⟨i, rfl, hin, hkx, S1⟩ := hrel
    by_cases hlt : i < n
    · have hz : (i : Int) < (n : Int) := by omega
      have hds : (swapR d a b i).size = d0.size := by rw [swapR_size]; exact hs
      generalize hdk : swapR d a b i = dk at hds S1
      have HDK := Lib.hid hdk
      clear hdk
      have q1 : (0 : Int) ≤ (a : Int) + (i : Int) := by omega
      have q2 : (a : Int) + (i : Int) < (d0.size : Int) := by omega
      have q3 : (0 : Int) ≤ (b : Int) + (i : Int) := by omega
      have q4 : (b : Int) + (i : Int) < (d0.size : Int) := by omega
      have q5 : ((a : Int) + (i : Int)).toNat = a + i := by omega
      have q6 : ((b : Int) + (i : Int)).toNat = b + i := by omega
      have q7 : IntKind.i64.wrap ((a : Int) + (i : Int)) = (a : Int) + (i : Int) := by rw [IntKind.wrap_i64]; omega
      have q8 : IntKind.i64.wrap ((b : Int) + (i : Int)) = (b : Int) + (i : Int) := by rw [IntKind.wrap_i64]; omega
      have ea1 : ((a + i : Nat) : Int).toNat = a + i := by omega
      have ec1 : ((b + i : Nat) : Int).toNat = b + i := by omega
      have S_1 : Aside (SWK enc k w0 blk off (swp dk (a + i) (b + i)) ((wr.drew.setCells blk (off + (a + i) * k) (enc dk[b + i]!)).setCells blk (off + (b + i) * k) (enc dk[a + i]!))) := S1.out.swapped R (a + i) (b + i) (by omega) (by omega)
      have l1a := S1.out.ld1 R (by omega) P (a + i) (by omega)
      have l1b := S1.out.ld1 R (by omega) P (b + i) (by omega)
      have s1a := S1.out.st1 R (by omega) P (a + i) (by omega) dk[b + i]!
      have s1b := S1.out.st2 R (by omega) P (a + i) (b + i) (by omega) (by omega) dk[b + i]! dk[a + i]!
      have n1a : (enc dk[a + i]!).length = k := R.hk _
      have n1b : (enc dk[b + i]!).length = k := R.hk _
      generalize enc dk[a + i]! = cI1 at S_1 l1a s1b n1a
      generalize enc dk[b + i]! = cJ1 at S_1 l1b s1a s1b n1b
      clear S1
      go_wp2_with fail
      go_big_region_o
      clear l1a l1b s1a s1b
      generalize (wr.drew.setCells blk (off + (a + i) * k) cJ1).setCells blk (off + (b + i) * k) cI1 = w2 at S_1 ⊢
      go_wp2
      go_roundg (n - (i + 1))
      case measure => omega
      case rel => exact ⟨i + 1, by go_num, hlt, Nat.le_refl _, by unfold swapR; rw [HDK.out]; exact S_1⟩
    · obtain rfl : i = n := by omega
      have hz : ¬ (i : Int) < (i : Int) := by omega
      go_wp2
      go_end0
      exact ⟨rfl, S1.out⟩

set_option maxHeartbeats 4000000 in
set_option maxRecDepth 1000000 in
theorem rotate_any {k : Nat} (L : SortLays P k) (enc : α → List Value) (g : Nat) (cb : Array Value) (blk off cap a m b : Nat) (d0 d : Array α) (w0 w : World)
    (R : RowK enc k w0 blk off d0) (hs : d.size = d0.size) (S : SWK enc k w0 blk off d w) (ham : a < m) (hmb : m < b) (hb : b ≤ d0.size) (hsz : d0.size < 1000000000) :
    Calls P 88 #[.slice (some ⟨blk, off, none⟩) d0.size cap, .int .i64 a, .int .i64 m, .int .i64 b, .func (.func g) #[] cb] w fun e w' => e = .returned (.tuple #[]) ∧ ∃ d', d'.size = d0.size ∧ PermIn a b d d' ∧ (∀ t, d'[t]! = rotAt d a m b t) ∧ SWK enc k w0 blk off d' w' := by
  have mixed := L.mixed; have t0 := L.t0; have a0 := L.a0; have z0 := L.z0; have v0 := L.v0; have t3 := L.t3; have a3 := L.a3; have z3 := L.z3; have v3 := L.v3; have t4 := L.t4; have a4 := L.a4; have z4 := L.z4; have v4 := L.v4; have t36 := L.t36; have a36 := L.a36; have z36 := L.z36; have v36 := L.v36; have t124 := L.t124; have a124 := L.a124; have z124 := L.z124; have v124 := L.v124; have t96 := L.t96; have a96 := L.a96; have z96 := L.z96; have v96 := L.v96; have aE := L.aE; have zE := L.zE; have u36 := run_underlying L.t36
  have e89 : ∀ args w, (callFunc 89 args).run P w = .ok (.enter 89 args) w := enters_of L.f89 (by kernel_rfl) rfl
  have S0 : Aside (SWK enc k w0 blk off d w) := S
  have CS := Lib.hid (fun (a' b' n' : Nat) (d' : Array α) (W : World) (h1 : d'.size = d0.size) (h2 : SWK enc k w0 blk off d' W) (h3 : a' + n' ≤ b') (h4 : b' + n' ≤ d0.size) => swapRange_any L enc g cb blk off cap a' b' n' d0 d' w0 W R h1 h2 h3 h4 hsz)
  clear S
  have i1 : IntKind.i64.wrap ((m : Int) - (a : Int)) = ((m - a : Nat) : Int) := by rw [IntKind.wrap_i64]; omega
  have i2 : IntKind.i64.wrap ((b : Int) - (m : Int)) = ((b - m : Nat) : Int) := by rw [IntKind.wrap_i64]; omega
  go_enter L.f88, Try.ntmps88
  go_wp2_with fail
  go_loopg [10, 11] (b - a) (fun kx s10 s11 wr => ∃ (i j : Nat) (dk : Array α), s10 = .int .i64 (i : Int) ∧ s11 = .int .i64 (j : Int) ∧ 0 < i ∧ 0 < j ∧ i ≤ m - a ∧ j ≤ b - m ∧ i + j ≤ kx ∧ dk.size = d0.size ∧ Aside (SWK enc k w0 blk off dk wr) ∧ Aside (PermIn a b d dk) ∧ Aside (∀ t, rotAt dk (m - i) m (m + j) t = rotAt d a m b t))
  case atStart => exact ⟨m - a, b - m, d, by first | rfl | (congr 1; omega), by first | rfl | (congr 1; omega), by omega, by omega, Nat.le_refl _, Nat.le_refl _, by omega, hs, S0, permIn_refl d a b, fun t => by rw [show m - (m - a) = a by omega, show m + (b - m) = b by omega]⟩
  case round =>
    clear S0 i1 i2
    obtain ⟨i, j, dk, rfl, rfl, hi, hj, him, hjm, hkx, hds, S1, P1, E1⟩ := hrel
    have j1 : IntKind.i64.wrap ((m : Int) - (i : Int)) = (m : Int) - (i : Int) := by rw [IntKind.wrap_i64]; omega
    rcases Nat.lt_trichotomy i j with hij | hij | hij
    · have n1 : ¬ (i : Int) = (j : Int) := by omega
      have n2 : ¬ (j : Int) < (i : Int) := by omega
      have n3 : ((i : Int) != (j : Int)) = true := by simp; omega
      have j2 : IntKind.i64.wrap ((m : Int) + (j : Int)) = (m : Int) + (j : Int) := by rw [IntKind.wrap_i64]; omega
      have j3 : IntKind.i64.wrap ((m : Int) + (j : Int) - (i : Int)) = (m : Int) + (j : Int) - (i : Int) := by rw [IntKind.wrap_i64]; omega
      have j4 : IntKind.i64.wrap ((j : Int) - (i : Int)) = (j : Int) - (i : Int) := by rw [IntKind.wrap_i64]; omega
      have C := CS.out (m - i) (m + j - i) i dk wr hds S1.out (by omega) (by omega)
      rw [show ((m - i : Nat) : Int) = (m : Int) - (i : Int) by omega, show ((m + j - i : Nat) : Int) = (m : Int) + (j : Int) - (i : Int) by omega] at C
      have C := Lib.hid C
      go_wp2_with (go_at_call 89; refine C.out.mono ?_; rintro e w2 ⟨rfl, S2⟩; replace S2 : Aside _ := S2)
      go_roundg (i + (j - i))
      case measure => omega
      case rel => exact ⟨i, j - i, _, rfl, by first | rfl | (congr 1; omega), hi, by omega, him, by omega, Nat.le_refl _, by rw [swapR_size]; exact hds, S2, permIn_trans _ _ _ _ _ P1.out (swapR_perm dk a b _ _ _ (by omega) (by omega) (by omega) (by omega)), fun t => by
        have := rot_step2 dk (m - i) m (m + j) (by omega) (by omega) (by omega) (by omega) t
        rw [show m - (m - i) = i by omega] at this
        rw [show m + (j - i) = m + j - i by omega, this]
        exact E1.out t⟩
    · subst hij
      have C := CS.out (m - i) m i dk wr hds S1.out (by omega) (by omega)
      rw [show ((m - i : Nat) : Int) = (m : Int) - (i : Int) by omega] at C
      have C := Lib.hid C
      go_wp2_with (go_at_call 89; refine C.out.mono ?_; rintro e w2 ⟨rfl, S2⟩; replace S2 : Aside _ := S2)
      go_end0
      exact ⟨rfl, _, by rw [swapR_size]; exact hds, permIn_trans _ _ _ _ _ P1.out (swapR_perm dk a b _ _ _ (by omega) (by omega) (by omega) (by omega)), fun t => by
        have := rot_last dk (m - i) m (m + i) (by omega) (by omega) (by omega) (by omega) t
        rw [show m - (m - i) = i by omega] at this
        rw [this]
        exact E1.out t, S2.out⟩
    · have n1 : ¬ (i : Int) = (j : Int) := by omega
      have n2 : (j : Int) < (i : Int) := by omega
      have n3 : ((i : Int) != (j : Int)) = true := by simp; omega
      have j4 : IntKind.i64.wrap ((i : Int) - (j : Int)) = (i : Int) - (j : Int) := by rw [IntKind.wrap_i64]; omega
      have C := CS.out (m - i) m j dk wr hds S1.out (by omega) (by omega)
      rw [show ((m - i : Nat) : Int) = (m : Int) - (i : Int) by omega] at C
      have C := Lib.hid C
      go_wp2_with (go_at_call 89; refine C.out.mono ?_; rintro e w2 ⟨rfl, S2⟩; replace S2 : Aside _ := S2)
      go_roundg ((i - j) + j)
      case measure => omega
      case rel => exact ⟨i - j, j, _, by first | rfl | (congr 1; omega), rfl, by omega, hj, by omega, hjm, Nat.le_refl _, by rw [swapR_size]; exact hds, S2, permIn_trans _ _ _ _ _ P1.out (swapR_perm dk a b _ _ _ (by omega) (by omega) (by omega) (by omega)), fun t => by
        have := rot_step1 dk (m - i) m (m + j) (by omega) (by omega) (by omega) (by omega) t
        rw [show m + j - m = j by omega] at this
        rw [show m - (i - j) = m - i + j by omega, this]
        exact E1.out t⟩

set_option maxHeartbeats 4000000 in
set_option maxRecDepth 1000000 in
theorem insertion_any {k : Nat} (L : SortLays P k) (enc : α → List Value) (cf : α → α → Int) (g : Nat) (cb : Array Value) (blk off cap a b : Nat) (d0 d : Array α) (w0 w : World)
    (eg : ∀ args w, (callFunc g args).run P w = .ok (.enter g args) w) (hcmp : CmpLays P g cb enc k cf blk off d0.size w0)
    (R : RowK enc k w0 blk off d0) (hs : d.size = d0.size) (S : SWK enc k w0 blk off d w) (hab : a ≤ b) (hb : b ≤ d0.size) (hsz : d0.size < 1000000000) :
    Calls P 86 #[.slice (some ⟨blk, off, none⟩) d0.size cap, .int .i64 a, .int .i64 b, .func (.func g) #[] cb] w fun e w' => e = .returned (.tuple #[]) ∧ SWK enc k w0 blk off (Sort.insertionSort (ltOf cf) d a b) w' := by
  have mixed := L.mixed; have t0 := L.t0; have a0 := L.a0; have z0 := L.z0; have v0 := L.v0; have t3 := L.t3; have a3 := L.a3; have z3 := L.z3; have v3 := L.v3; have t4 := L.t4; have a4 := L.a4; have z4 := L.z4; have v4 := L.v4; have t36 := L.t36; have a36 := L.a36; have z36 := L.z36; have v36 := L.v36; have t124 := L.t124; have a124 := L.a124; have z124 := L.z124; have v124 := L.v124; have t96 := L.t96; have a96 := L.a96; have z96 := L.z96; have v96 := L.v96; have aE := L.aE; have zE := L.zE; have u36 := run_underlying L.t36
  have HC : Aside _ := hcmp
  have S0 : Aside (SWK enc k w0 blk off d w) := S
  clear S hcmp
  have i1 : IntKind.i64.wrap ((a : Int) + 1) = (a : Int) + 1 := by rw [IntKind.wrap_i64]; omega
  go_enter L.f86, Try.ntmps86
  go_wp2
  go_loopg [8] (b - a) (fun g1 vi wr => ∃ (i : Nat) (dk : Array α), vi = .int .i64 i ∧ a < i ∧ i ≤ b + 1 ∧ b + 1 - i ≤ g1 + 1 ∧ dk.size = d0.size ∧ Aside (SWK enc k w0 blk off dk wr) ∧ Hid (insOuter (ltOf cf) a b i dk = insOuter (ltOf cf) a b (a + 1) d))
  case atStart => exact ⟨a + 1, d, by go_num, by omega, by omega, by omega, hs, S0, rfl⟩
  case round =>
    clear S0 i1
    obtain ⟨i, dk, rfl, hai, hib, hg1, hsk, S1, HO⟩ := hrel
    by_cases hlt : i < b
    · have hltz : (i : Int) < (b : Int) := by omega
      have i2 : IntKind.i64.wrap ((i : Int) + 1) = (i : Int) + 1 := by rw [IntKind.wrap_i64]; omega
      go_wp2
      go_loopg [9] i (fun g2 vj wr2 => ∃ (j : Nat) (dj : Array α), vj = .int .i64 j ∧ a ≤ j ∧ j ≤ i ∧ j ≤ g2 ∧ dj.size = d0.size ∧ Aside (SWK enc k w0 blk off dj wr2) ∧ Hid (insInner (ltOf cf) a j dj = insInner (ltOf cf) a i dk))
      case atStart => exact ⟨i, dk, rfl, by omega, Nat.le_refl _, Nat.le_refl _, hsk, S1, rfl⟩
      case round =>
        clear S1
        obtain ⟨j, dj, rfl, haj, hji, hg2, hsj, S2, HI⟩ := hrel
        have out : (j ≤ a ∨ ltOf cf dj[j]! dj[j - 1]! = false) → Hid (insOuter (ltOf cf) a b (i + 1) dj = insOuter (ltOf cf) a b (a + 1) d) := fun hs => by
          show _ = _
          rw [← HO.out, insOuter_go _ _ _ _ _ hlt, ← HI.out, insInner_stop _ _ _ _ hs]
        have OUT : Aside _ := out
        clear out
        by_cases hja : a < j
        · have hjaz : (a : Int) < (j : Int) := by omega
          obtain ⟨jp, rfl⟩ : ∃ jp, j = jp + 1 := ⟨j - 1, by omega⟩
          obtain ⟨xj, hxj⟩ : ∃ x, dj[jp + 1]! = x := ⟨_, rfl⟩
          obtain ⟨xp, hxp⟩ : ∃ x, dj[jp]! = x := ⟨_, rfl⟩
          have hwp : IntKind.i64.wrap (jp : Int) = (jp : Int) := by rw [IntKind.wrap_i64]; omega
          have jz : (jp : Int) + 1 < (d0.size : Int) := by omega
          have jz1 : (jp : Int) < (d0.size : Int) := by omega
          have hjaz' : (a : Int) < (jp : Int) + 1 := by omega
          have p0 : (0 : Int) ≤ (jp : Int) + 1 := by omega
          have e0 : ((jp : Int) + 1).toNat = jp + 1 := by omega
          have l1a := S2.out.ld R (by omega) P (jp + 1) (by omega)
          have l1b := S2.out.ld R (by omega) P jp (by omega)
          have hc1 := S2.out.cmp HC.out (by omega) xj xp
          rw [hxj] at l1a
          rw [hxp] at l1b
          by_cases hlv : cf xj xp < 0
          · go_wp2_with fail
            go_quiet_grown (first | (go_at_fn g; refine Calls.grown_of (hc1 _ _)))
            go_wp2_with fail
            have S3 : Aside (SWK enc k w0 blk off dj (grow (wr.drewN nq) osq)) := S2.out.grown nq osq
            clear l1a l1b hc1 S2
            generalize grow (wr.drewN nq) osq = w2 at S3 ⊢
            have S_1 : Aside (SWK enc k w0 blk off (swp dj (jp + 1) jp) ((w2.drew.setCells blk (off + (jp + 1) * k) (enc dj[jp]!)).setCells blk (off + jp * k) (enc dj[jp + 1]!))) := S3.out.swapped R (jp + 1) jp (by omega) (by omega)
            have l2a := S3.out.ld1 R (by omega) P (jp + 1) (by omega)
            have l2b := S3.out.ld1 R (by omega) P jp (by omega)
            have s2a := S3.out.st1 R (by omega) P (jp + 1) (by omega) dj[jp]!
            have s2b := S3.out.st2 R (by omega) P (jp + 1) jp (by omega) (by omega) dj[jp]! dj[jp + 1]!
            have n2a : (enc dj[jp + 1]!).length = k := R.hk _
            have n2b : (enc dj[jp]!).length = k := R.hk _
            have HXJ := Lib.hid hxj
            have HXP := Lib.hid hxp
            clear hxj hxp
            generalize enc dj[jp + 1]! = cI at S_1 l2a s2b n2a
            generalize enc dj[jp]! = cJ at S_1 l2b s2a s2b n2b
            clear S3
            go_big_region_o
            all_goals go_wp2
            go_roundg jp
            case measure => omega
            case rel =>
              refine ⟨jp, swp dj (jp + 1) jp, by first | rfl | go_num | (congr 1; omega), by omega, by omega, Nat.le_refl _, by rw [size_swp]; exact hsj, S_1, (show Hid _ from ?_)⟩
              show _ = _
              have := insInner_go (ltOf cf) a (jp + 1) dj hja (by simp only [Nat.add_sub_cancel]; rw [HXJ.out, HXP.out]; exact decide_eq_true hlv)
              simp only [Nat.add_sub_cancel] at this
              rw [← HI.out, this]
          · go_wp2_with fail
            go_quiet_grown (first | (go_at_fn g; refine Calls.grown_of (hc1 _ _)))
            have S3 : Aside (SWK enc k w0 blk off dj (grow (wr.drewN nq) osq)) := S2.out.grown nq osq
            clear l1a l1b hc1 S2
            generalize grow (wr.drewN nq) osq = w2 at S3 ⊢
            go_wp2
            go_roundg (b - (i + 1))
            case measure => omega
            case rel => exact ⟨i + 1, dj, by go_num, by omega, by omega, by omega, hsj, S3, OUT.out (Or.inr (by simp only [Nat.add_sub_cancel]; rw [hxj, hxp]; exact decide_eq_false (by omega)))⟩
        · have hjaz : decide ((j : Int) > (a : Int)) = false := decide_eq_false (by omega)
          have hjaz' : ¬ (a : Int) < (j : Int) := by omega
          go_wp2_with fail
          go_big_region_o
          all_goals go_wp2
          go_roundg (b - (i + 1))
          case measure => omega
          case rel => exact ⟨i + 1, dj, by go_num, by omega, by omega, by omega, hsj, S2.out.drew, OUT.out (Or.inl (by omega))⟩
    · have hltz : ¬ (i : Int) < (b : Int) := by omega
      go_wp2
      go_end0
      exact ⟨rfl, by unfold Sort.insertionSort; rw [← HO.out, insOuter_stop _ _ _ _ _ hlt]; exact S1.out⟩
end Go.Proofs.Ytlofjhcjjcohfaa
