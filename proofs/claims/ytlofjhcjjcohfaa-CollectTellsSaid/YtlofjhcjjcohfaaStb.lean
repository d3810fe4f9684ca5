/- The walk of stable and SortStableFunc, over any program that bears these bodies. -/
import Derived.Test.YtlofjhcjjcohfaaSym
namespace Iv
open Go.Sort
variable {α : Type} [Inhabited α]
def RunsA (lt : α → α → Bool) (s a n : Nat) (d : Array α) : Prop := ∀ x, s ∣ x → x < a → SortedIn lt x (min (x + s) n) d
def RunsB (lt : α → α → Bool) (s a n : Nat) (d : Array α) : Prop := ∀ x, s ∣ x → a ≤ x → x < n → SortedIn lt x (min (x + s) n) d
variable {lt : α → α → Bool} {d d' : Array α}
theorem sorted_keep {x y : Nat} (h : SortedIn lt x y d) (hk : ∀ t, x ≤ t → t < y → d'[t]! = d[t]!) : SortedIn lt x y d' := fun i j h1 h2 h3 => by
  rw [hk i h1 (by omega), hk j (by omega) h3]
  exact h i j h1 h2 h3
theorem dvd_gap {s x a : Nat} (h1 : s ∣ x) (h2 : s ∣ a) (h : x < a) : x + s ≤ a := by
  have := Nat.le_of_dvd (by omega) (Nat.dvd_sub h2 h1)
  omega
theorem runsA_step {s a n : Nat} (hs : s ∣ a) (hn : a + s ≤ n) (h : RunsA lt s a n d) (hp : PermIn a (a + s) d d') (hr : SortedIn lt a (a + s) d') : RunsA lt s (a + s) n d' := fun x h1 h2 => by
  by_cases c : x < a
  · have := dvd_gap h1 hs c
    exact sorted_keep (h x h1 c) fun t t1 t2 => hp.2.1 t (.inl (by omega))
  · have : x = a := by
      by_cases c2 : a < x
      · have := dvd_gap hs h1 c2; omega
      · omega
    subst this
    rw [show min (x + s) n = x + s by omega]
    exact hr
theorem runsA_last {s a n : Nat} (hs : s ∣ a) (hn : a ≤ n) (hn2 : n < a + s) (h : RunsA lt s a n d) (hp : PermIn a n d d') (hr : SortedIn lt a n d') : RunsB lt s 0 n d' := fun x h1 _ h2 => by
  by_cases c : x < a
  · have := dvd_gap h1 hs c
    exact sorted_keep (h x h1 c) fun t t1 t2 => hp.2.1 t (.inl (by omega))
  · have : x = a := by
      by_cases c2 : a < x
      · have := dvd_gap hs h1 c2; omega
      · omega
    subst this
    rw [show min (x + s) n = n by omega]
    exact hr
theorem runsB_step {s a e n : Nat} (h : RunsB lt s a n d) (hae : a ≤ e) (hp : PermIn a e d d') : RunsB lt s e n d' := fun x h1 h2 h3 =>
  sorted_keep (h x h1 (by omega) h3) fun t t1 t2 => hp.2.1 t (.inr (by omega))
theorem dvd_two {s a : Nat} (h : 2 * s ∣ a) : s ∣ a := Nat.dvd_trans (Nat.dvd_mul_left s 2) h
theorem runsB_l {s a n : Nat} (h : RunsB lt s a n d) (hs : 2 * s ∣ a) (hn : a + s ≤ n) (h0 : 0 < s) : SortedIn lt a (a + s) d := by
  have := h a (dvd_two hs) (Nat.le_refl _) (by omega)
  rwa [show min (a + s) n = a + s by omega] at this
theorem runsB_r {s a n : Nat} (h : RunsB lt s a n d) (hs : 2 * s ∣ a) (hn : a + s < n) : SortedIn lt (a + s) (min (a + s + s) n) d :=
  h (a + s) ((Nat.dvd_add_right (dvd_two hs)).2 (Nat.dvd_refl s)) (by omega) hn
end Iv
namespace Go.Proofs.Ytlofjhcjjcohfaa
open Go Go.Shelf Go.RowKit Go.Lib Go.Sort Iv
set_option linter.unusedVariables false
variable {P : Program} {α : Type} [Inhabited α]

set_option maxHeartbeats 8000000 in
set_option maxRecDepth 1000000 in
theorem stable_any {k : Nat} (L : SortLays P k) (enc : α → List Value) (cf : α → α → Int) (hO : SWO (ltOf cf)) (g : Nat) (cb : Array Value) (blk off cap n : Nat) (d0 d : Array α) (w0 w : World)
    (eg : ∀ args w, (callFunc g args).run P w = .ok (.enter g args) w) (hcmp : CmpLays P g cb enc k cf blk off d0.size w0)
    (R : RowK enc k w0 blk off d0) (hs : d.size = d0.size) (S : SWK enc k w0 blk off d w) (hn : n = d0.size) (hsz : d0.size < 1000000000) :
    Calls P 77 #[.slice (some ⟨blk, off, none⟩) d0.size cap, .int .i64 n, .func (.func g) #[] cb] w fun e w' => e = .returned (.tuple #[]) ∧ ∃ d', d'.size = d0.size ∧ PermIn 0 n d d' ∧ SortedIn (ltOf cf) 0 n d' ∧ SWK enc k w0 blk off d' w' := by
  have mixed := L.mixed; have t0 := L.t0; have a0 := L.a0; have z0 := L.z0; have v0 := L.v0; have t3 := L.t3; have a3 := L.a3; have z3 := L.z3; have v3 := L.v3; have t4 := L.t4; have a4 := L.a4; have z4 := L.z4; have v4 := L.v4; have t36 := L.t36; have a36 := L.a36; have z36 := L.z36; have v36 := L.v36; have t124 := L.t124; have a124 := L.a124; have z124 := L.z124; have v124 := L.v124; have t96 := L.t96; have a96 := L.a96; have z96 := L.z96; have v96 := L.v96; have aE := L.aE; have zE := L.zE; have u36 := run_underlying L.t36
  have e86 : ∀ args w, (callFunc 86 args).run P w = .ok (.enter 86 args) w := enters_of L.f86 (by kernel_rfl) rfl
  have e87 : ∀ args w, (callFunc 87 args).run P w = .ok (.enter 87 args) w := enters_of L.f87 (by kernel_rfl) rfl
  have S0 : Aside (SWK enc k w0 blk off d w) := S
  have CI := Lib.hid (fun (a b : Nat) (d' : Array α) (W : World) (h1 : d'.size = d0.size) (h2 : SWK enc k w0 blk off d' W) (h3 : a ≤ b) (h4 : b ≤ d0.size) => (insertion_any L enc cf g cb blk off cap a b d0 d' w0 W eg hcmp R h1 h2 h3 h4 hsz).mono fun e w' h => (show e = .returned (.tuple #[]) ∧ ∃ d'', d''.size = d0.size ∧ PermIn a b d' d'' ∧ SortedIn (ltOf cf) a b d'' ∧ SWK enc k w0 blk off d'' w' from
    ⟨h.1, _, ((insertionSort_holds hO d' a b h3 (by omega)).1.1).trans h1, (insertionSort_holds hO d' a b h3 (by omega)).1, (insertionSort_holds hO d' a b h3 (by omega)).2, h.2⟩))
  have CM := Lib.hid (fun (a m b : Nat) (d' : Array α) (W : World) (h1 : d'.size = d0.size) (h2 : SWK enc k w0 blk off d' W) => symMerge_any L enc cf hO g cb blk off cap d0 w0 eg hcmp R hsz (b - a) a m b d' W (Nat.le_refl _) h1 h2)
  have HN := Lib.hid hn
  have hn2 : n ≤ d0.size := by omega
  have hn3 : n < 1000000000 := by omega
  clear S hcmp hn
  go_enter L.f77, Try.ntmps77
  go_wp2_with fail
  go_loopg [7, 8] (n) (fun kx s7 s8 wr => ∃ (a : Nat) (dk : Array α), s7 = .int .i64 (a : Int) ∧ s8 = .int .i64 ((a : Int) + 20) ∧ a ≤ n ∧ n - a ≤ kx ∧ dk.size = d0.size ∧ Aside (20 ∣ a) ∧ Aside (SWK enc k w0 blk off dk wr) ∧ Aside (PermIn 0 n d dk) ∧ Aside (RunsA (ltOf cf) 20 a n dk))
  case atStart => exact ⟨0, d, rfl, rfl, Nat.zero_le _, by omega, hs, ⟨0, rfl⟩, S0, permIn_refl d 0 n, fun x _ h => by omega⟩
  case round =>
    clear S0
    obtain ⟨a, dk, rfl, rfl, han, hkx, hdk, DV, S1, P1, R1⟩ := hrel
    by_cases hlt : a + 20 ≤ n
    · have z1 : (a : Int) + 20 ≤ (n : Int) := by omega
      have q1 : IntKind.i64.wrap ((a : Int) + 20 + 20) = (a : Int) + 20 + 20 := by rw [IntKind.wrap_i64]; omega
      have C := CI.out a (a + 20) dk wr hdk S1.out (by omega) (by omega)
      rw [show ((a + 20 : Nat) : Int) = (a : Int) + 20 by omega] at C
      have C := Lib.hid C
      go_wp2_with (go_at_call 86; refine C.out.mono ?_; rintro e2 w2 ⟨rfl, d2, hd2, hp2, hs2, S2⟩; replace S2 : Aside _ := S2; replace hp2 := Lib.hid hp2; replace hs2 := Lib.hid hs2)
      go_roundg (n - (a + 20))
      case measure => omega
      case rel => exact ⟨a + 20, d2, by go_num, by first | rfl | go_num | (congr 1; omega), hlt, Nat.le_refl _, hd2, (Nat.dvd_add_right DV.out).2 (Nat.dvd_refl 20), S2, permIn_trans _ _ _ _ _ P1.out (permIn_mono dk d2 a (a + 20) 0 n (Nat.zero_le _) hlt (by omega) hp2.out), runsA_step DV.out hlt R1.out hp2.out hs2.out⟩
    · have z1 : ¬ (a : Int) + 20 ≤ (n : Int) := by omega
      have C := Lib.hid (CI.out a n dk wr hdk S1.out han hn2)
      go_wp2_with (go_at_call 86; refine C.out.mono ?_; rintro e2 w2 ⟨rfl, d2, hd2, hp2, hs2, S2⟩; replace S2 : Aside _ := S2; replace hp2 := Lib.hid hp2; replace hs2 := Lib.hid hs2)
      have P2 : Aside (PermIn 0 n d d2) := permIn_trans _ _ _ _ _ P1.out (permIn_mono dk d2 a n 0 n (Nat.zero_le _) (Nat.le_refl _) (by omega) hp2.out)
      have R2 : Aside (RunsB (ltOf cf) 20 0 n d2) := runsA_last DV.out han (by omega) R1.out hp2.out hs2.out
      clear C S1 P1 R1 hp2 hs2
      go_loopg [6] n (fun kx s6 wr => ∃ (s : Nat) (dk : Array α), s6 = .int .i64 (s : Int) ∧ 20 ≤ s ∧ s ≤ 2000000000 ∧ n - s ≤ kx ∧ dk.size = d0.size ∧ Aside (SWK enc k w0 blk off dk wr) ∧ Aside (PermIn 0 n d dk) ∧ Aside (RunsB (ltOf cf) s 0 n dk))
      case atStart => exact ⟨20, d2, rfl, Nat.le_refl _, by omega, by omega, hd2, S2, P2, R2⟩
      case round =>
        clear S2 P2 R2
        obtain ⟨s, d3, rfl, hs20, hs2, hkx2, hd3, S3, P3, R3⟩ := hrel
        by_cases hlt2 : s < n
        · have z2 : (s : Int) < (n : Int) := by omega
          have q1 : IntKind.i64.wrap (2 * (s : Int)) = 2 * (s : Int) := by rw [IntKind.wrap_i64]; omega
          have q2 : IntKind.i64.wrap ((s : Int) * 2) = (s : Int) * 2 := by rw [IntKind.wrap_i64]; omega
          go_wp2_with fail
          go_loopg [7, 8] n (fun kx s7 s8 wr => ∃ (a : Nat) (dk : Array α), s7 = .int .i64 (a : Int) ∧ s8 = .int .i64 ((a : Int) + 2 * (s : Int)) ∧ a ≤ n ∧ n - a ≤ kx ∧ dk.size = d0.size ∧ Aside (2 * s ∣ a) ∧ Aside (SWK enc k w0 blk off dk wr) ∧ Aside (PermIn 0 n d dk) ∧ Aside (RunsA (ltOf cf) (2 * s) a n dk) ∧ Aside (RunsB (ltOf cf) s a n dk))
          case atStart => exact ⟨0, d3, rfl, by first | rfl | go_num | (congr 1; omega), Nat.zero_le _, by omega, hd3, ⟨0, rfl⟩, S3, P3, fun x _ h => by omega, R3⟩
          case round =>
            clear S3 P3 R3
            obtain ⟨a, d4, rfl, rfl, han2, hkx3, hd4, DV2, S4, P4, A4, B4⟩ := hrel
            have q3 : IntKind.i64.wrap ((a : Int) + (s : Int)) = (a : Int) + (s : Int) := by rw [IntKind.wrap_i64]; omega
            by_cases hlt3 : a + 2 * s ≤ n
            · have z3 : (a : Int) + 2 * (s : Int) ≤ (n : Int) := by omega
              have q4 : IntKind.i64.wrap ((a : Int) + 2 * (s : Int) + 2 * (s : Int)) = (a : Int) + 2 * (s : Int) + 2 * (s : Int) := by rw [IntKind.wrap_i64]; omega
              have C := CM.out a (a + s) (a + 2 * s) d4 wr hd4 S4.out (by omega) (by omega) (by omega) (runsB_l B4.out DV2.out (by omega) (by omega)) (by have := runsB_r B4.out DV2.out (by omega); rwa [show min (a + s + s) n = a + 2 * s by omega] at this)
              rw [show ((a + s : Nat) : Int) = (a : Int) + (s : Int) by omega, show ((a + 2 * s : Nat) : Int) = (a : Int) + 2 * (s : Int) by omega] at C
              have C := Lib.hid C
              go_wp2_with (go_at_call 87; refine C.out.mono ?_; rintro e2 w5 ⟨rfl, d5, hd5, hp5, hs5, S5⟩; replace S5 : Aside _ := S5; replace hp5 := Lib.hid hp5; replace hs5 := Lib.hid hs5)
              go_roundg (n - (a + 2 * s))
              case measure => omega
              case rel => exact ⟨a + 2 * s, d5, by first | rfl | go_num | (congr 1; omega), by first | rfl | go_num | (congr 1; omega), hlt3, Nat.le_refl _, hd5, (Nat.dvd_add_right DV2.out).2 (Nat.dvd_refl _), S5, permIn_trans _ _ _ _ _ P4.out (permIn_mono d4 d5 a (a + 2 * s) 0 n (Nat.zero_le _) hlt3 (by omega) hp5.out), runsA_step DV2.out hlt3 A4.out hp5.out hs5.out, runsB_step B4.out (by omega) hp5.out⟩
            · have z3 : ¬ (a : Int) + 2 * (s : Int) ≤ (n : Int) := by omega
              by_cases hlt4 : a + s < n
              · have z4 : (a : Int) + (s : Int) < (n : Int) := by omega
                have C := CM.out a (a + s) n d4 wr hd4 S4.out (by omega) hlt4 hn2 (runsB_l B4.out DV2.out (by omega) (by omega)) (by have := runsB_r B4.out DV2.out hlt4; rwa [show min (a + s + s) n = n by omega] at this)
                rw [show ((a + s : Nat) : Int) = (a : Int) + (s : Int) by omega] at C
                have C := Lib.hid C
                go_wp2_with (go_at_call 87; refine C.out.mono ?_; rintro e2 w5 ⟨rfl, d5, hd5, hp5, hs5, S5⟩; replace S5 : Aside _ := S5; replace hp5 := Lib.hid hp5; replace hs5 := Lib.hid hs5)
                go_roundg (n - 2 * s)
                case measure => omega
                case rel => exact ⟨2 * s, d5, by first | rfl | go_num | (congr 1; omega), by omega, by omega, Nat.le_refl _, hd5, S5, permIn_trans _ _ _ _ _ P4.out (permIn_mono d4 d5 a n 0 n (Nat.zero_le _) (Nat.le_refl _) (by omega) hp5.out), runsA_last DV2.out han2 (by omega) A4.out hp5.out hs5.out⟩
              · have z4 : ¬ (a : Int) + (s : Int) < (n : Int) := by omega
                go_wp2_with fail
                go_roundg (n - 2 * s)
                case measure => omega
                case rel => exact ⟨2 * s, d4, by first | rfl | go_num | (congr 1; omega), by omega, by omega, Nat.le_refl _, hd4, S4, P4, runsA_last DV2.out han2 (by omega) A4.out (permIn_refl d4 a n) (by
                  by_cases c : a < n
                  · have := B4.out a (dvd_two DV2.out) (Nat.le_refl _) c
                    rwa [show min (a + s) n = n by omega] at this
                  · intro i j h1 h2 h3; omega)⟩
        · have z2 : ¬ (s : Int) < (n : Int) := by omega
          go_wp2_with fail
          go_end0
          exact ⟨rfl, d3, hd3, P3.out, by
            by_cases c : 0 < n
            · have := R3.out 0 ⟨0, rfl⟩ (Nat.le_refl _) c
              rwa [show min (0 + s) n = n by omega] at this
            · intro i j h1 h2 h3; omega, S3.out⟩

set_option maxHeartbeats 4000000 in
set_option maxRecDepth 1000000 in
theorem sortStable_any {k : Nat} (L : SortLays P k) (enc : α → List Value) (cf : α → α → Int) (hO : SWO (ltOf cf)) (g : Nat) (cb : Array Value) (blk off cap : Nat) (d : Array α) (w : World)
    (eg : ∀ args w, (callFunc g args).run P w = .ok (.enter g args) w) (hcmp : CmpLays P g cb enc k cf blk off d.size w) (R : RowK enc k w blk off d) (hsz : d.size < 1000000000) :
    Calls P 62 #[.slice (some ⟨blk, off, none⟩) d.size cap, .func (.func g) #[] cb] w fun e w' => e = .returned (.tuple #[]) ∧ ∃ d', d'.size = d.size ∧ PermIn 0 d.size d d' ∧ SortedIn (ltOf cf) 0 d.size d' ∧ SWK enc k w blk off d' w' := by
  have mixed := L.mixed; have t0 := L.t0; have a0 := L.a0; have z0 := L.z0; have v0 := L.v0; have t3 := L.t3; have a3 := L.a3; have z3 := L.z3; have v3 := L.v3; have t4 := L.t4; have a4 := L.a4; have z4 := L.z4; have v4 := L.v4; have t36 := L.t36; have a36 := L.a36; have z36 := L.z36; have v36 := L.v36; have t124 := L.t124; have a124 := L.a124; have z124 := L.z124; have v124 := L.v124; have t96 := L.t96; have a96 := L.a96; have z96 := L.z96; have v96 := L.v96; have aE := L.aE; have zE := L.zE; have u36 := run_underlying L.t36
  have e77 : ∀ args w, (callFunc 77 args).run P w = .ok (.enter 77 args) w := enters_of L.f77 (by kernel_rfl) rfl
  have C := Lib.hid (stable_any L enc cf hO g cb blk off cap d.size d d w w eg hcmp R rfl (SWK.start R.hH) rfl hsz)
  clear hcmp
  go_enter L.f62, Try.ntmps62
  go_wp2_with (go_at_call 77; refine C.out.mono ?_; rintro e2 w5 ⟨rfl, H⟩; replace H := Lib.hid H)
  go_end0
  exact ⟨rfl, H.out⟩
end Go.Proofs.Ytlofjhcjjcohfaa
