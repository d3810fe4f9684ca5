/- The walk of BlockLinear. -/
import Derived.Test.YtlcmffbikiamjaaLaw13a
import Derived.Test.YtlcmffbikiamjaaBit
import Derived.StillTailTactics
import Derived.Deep.RegionWith
import Derived.Deep.DeepCutAuto
namespace Go.Proofs.Ytlcmffbikiamjaa
open Go Go.RowKit Iv
set_option linter.unusedVariables false

/-- The first k bytes of d are the exclusive ors. -/
def Ored (x1 x2 x3 d : Bytes) (k : Nat) : Prop := ∀ j, j < k → ∀ x y z u : UInt8, x1[j]? = some x → x2[j]? = some y → x3[j]? = some z → d[j]? = some u → u.toNat = x.toNat ^^^ y.toNat ^^^ z.toNat

theorem ored_next {x1 x2 x3 d : Bytes} {k : Nat} {x y z v : UInt8} (h : Ored x1 x2 x3 d k) (hx : x1[k]? = some x) (hy : x2[k]? = some y) (hz : x3[k]? = some z)
    (hv : v.toNat = x.toNat ^^^ y.toNat ^^^ z.toNat) : Ored x1 x2 x3 (d.set k v) (k + 1) := by
  intro j hj x' y' z' u' h1 h2 h3 h4
  by_cases hjk : j = k
  · subst hjk
    rw [hx] at h1; rw [hy] at h2; rw [hz] at h3
    injection h1 with h1; injection h2 with h2; injection h3 with h3
    subst h1 h2 h3
    rw [List.getElem?_set_self'] at h4
    cases hd : d[j]? with
    | none => rw [hd] at h4; simp at h4
    | some o => rw [hd] at h4; simp at h4; rw [← h4]; exact hv
  · rw [List.getElem?_set_ne (fun e => hjk e.symm)] at h4
    exact h j (by omega) x' y' z' u' h1 h2 h3 h4

set_option maxRecDepth 100000 in
set_option maxHeartbeats 1600000 in
theorem blockLinear_any (A1 : Option Addr) (n1 c1 : Nat) (x1 : Bytes) (A2 : Option Addr) (n2 c2 : Nat) (x2 : Bytes) (A3 : Option Addr) (n3 c3 : Nat) (x3 : Bytes) (w : World)
    (h1 : Lies w w.heap.size 1 A1 n1 (x1.map bv)) (hnc1 : n1 ≤ c1) (hcm1 : c1 ≤ maxLen) (_ho1 : A1 = none → c1 = 0)
    (h2 : Lies w w.heap.size 1 A2 n2 (x2.map bv)) (hnc2 : n2 ≤ c2) (hcm2 : c2 ≤ maxLen) (_ho2 : A2 = none → c2 = 0)
    (h3 : Lies w w.heap.size 1 A3 n3 (x3.map bv)) (hnc3 : n3 ≤ c3) (hcm3 : c3 ≤ maxLen) (_ho3 : A3 = none → c3 = 0) :
    Calls Try.prog 5 #[.slice A1 n1 c1, .slice A2 n2 c2, .slice A3 n3 c3] w fun e w' => e = .returned (.bool true) ∧ Below w.heap.size w w' := by
  unfold maxLen at hcm1 hcm2 hcm3
  clear _ho1 _ho2 _ho3
  have hB := info_u8
  obtain ⟨i0, hi, hz0, hz1, hz2⟩ := info_parts hB
  have HI := Lib.hid hi
  have HZ0 := Lib.hid hz0
  have HZ1 := Lib.hid hz1
  have HZ2 := Lib.hid hz2
  clear hB hi hz0 hz1 hz2
  go_enter Try.func5, Try.ntmps5
  go_upto_region 1 with fail
  go_cut [7] (fun s7 wx => ∃ n : Nat, s7 = .int .i64 (n : Int) ∧ n ≤ n1 ∧ n ≤ n2 ∧ n ≤ n3 ∧ wx = w)
  case first =>
    go_wp2_with fail
    all_goals
      go_meet
      first
        | exact ⟨n1, rfl, by omega, by omega, by omega, rfl⟩
        | exact ⟨n2, rfl, by omega, by omega, by omega, rfl⟩
        | exact ⟨n3, rfl, by omega, by omega, by omega, rfl⟩
  case rest =>
    obtain ⟨n, rfl, hn1, hn2, hn3, rfl⟩ := hcut
    by_cases hbig : 1000 < n
    · go_wp2_with fail
      go_ret
      exact ⟨rfl, Below.refl _ _⟩
    · go_wp2_with (refine wpList_make_full _ rfl (.tmp 20) (.tmp 20) _ rfl wc.heap.size 5 i0 (.int .u8 0) 1 Try.underlying22 HI.out HZ0.out HZ1.out .i64 .i64 n n n rfl rfl rfl rfl (by rw [HZ2.out]; omega) (by unfold maxLen; omega) (Nat.le_refl _) ?_; intro w1 hown hg)
      have hown0 : w1.ownsRow wc.heap.size 5 1 (.slice (some ⟨wc.heap.size, 0, none⟩) n n) n ((List.replicate n (0 : UInt8)).map bv) := by
        rw [Nat.mul_one] at hown
        have e := toList_madeCells_one (.int .u8 0) n
        have e2 : (List.replicate n (0 : UInt8)).map bv = List.replicate n (.int .u8 0) := by rw [List.map_replicate]; rfl
        rw [e2, ← e]
        exact hown
      have hbel : Below wc.heap.size wc w1 := (Below.refl _ _).grown hg (Nat.le_refl _) (fun k hk => by cases hk)
      have hlt0 : n = 0 ∨ wc.heap.size < w1.heap.size := by
        rcases Nat.eq_zero_or_pos n with h0 | h0
        · exact .inl h0
        · exact .inr (hown0.lt wc.heap.size rfl).2
      clear hown hg HI HZ0 HZ1 HZ2
      go_loopw [9] (fun i wr => ∃ (k : Nat) (ds : Bytes), i = .int .i64 k ∧ k ≤ n ∧ ds.length = n ∧ wr.ownsRow wc.heap.size 5 1 (.slice (some ⟨wc.heap.size, 0, none⟩) n n) n (ds.map bv) ∧ Ored x1 x2 x3 ds k ∧ Below wc.heap.size wc wr) (fun i _ => n - (intOf i).toNat)
      case atStart => exact ⟨0, List.replicate n 0, rfl, by omega, by simp, hown0, fun j hj => by omega, hbel⟩
      case round =>
        clear hown0 hbel
        obtain ⟨k, ds, rfl, hk, hdl, hown, hor, hbel⟩ := hrel
        have HD := Lib.hid hdl
        clear hdl
        by_cases hlt : k < n
        · obtain ⟨ad1, x, rfl, hb1, hx1, hcl1⟩ := (h1.below hbel).byte (show k < n1 by omega)
          obtain ⟨ad2, y, rfl, hb2, hx2, hcl2⟩ := (h2.below hbel).byte (show k < n2 by omega)
          obtain ⟨ad3, z, rfl, hb3, hx3, hcl3⟩ := (h3.below hbel).byte (show k < n3 by omega)
          obtain ⟨u, hu⟩ : ∃ u, ds[k]? = some u := ⟨_, List.getElem?_eq_getElem (by rw [HD.out]; exact hlt)⟩
          have hcd : wr.cell? ⟨wc.heap.size, k, none⟩ = some (.int .u8 (u.toNat : Int)) := by
            rw [hown.cellAt k (by omega), List.getElem?_map, hu]; rfl
          have hfd := hown.frozenAt k
          have HX1 := Lib.hid hx1
          have HX2 := Lib.hid hx2
          have HX3 := Lib.hid hx3
          clear hx1 hx2 hx3 hu
          have bx := byte_lt x
          have by' := byte_lt y
          have bz := byte_lt z
          have hxy : x.toNat ^^^ y.toNat < 256 := Nat.xor_lt_two_pow (n := 8) bx by'
          have hxyz : x.toNat ^^^ y.toNat ^^^ z.toNat < 256 := Nat.xor_lt_two_pow (n := 8) hxy bz
          have o1 := u8_xor_nat x.toNat y.toNat bx by'
          have o2 := u8_xor_nat (x.toNat ^^^ y.toNat) z.toNat hxy bz
          have i0 : (0 : Int) ≤ (k : Int) := by omega
          have i1 : (k : Int) < (n1 : Int) := by omega
          have i2 : (k : Int) < (n2 : Int) := by omega
          have i3 : (k : Int) < (n3 : Int) := by omega
          have i4 : (k : Int) < (n : Int) := by omega
          go_wp2_with fail
          go_region
          go_wp2_with fail
          have hv : (UInt8.ofNat (x.toNat ^^^ y.toNat ^^^ z.toNat)).toNat = x.toNat ^^^ y.toNat ^^^ z.toNat := ofNat_toNat_lt hxyz
          have hs := (hown.stored k (bv (UInt8.ofNat (x.toNat ^^^ y.toNat ^^^ z.toNat)))).1
          rw [← List.map_set] at hs
          unfold bv at hs
          rw [hv] at hs
          go_roundw
          case rel =>
            refine ⟨k + 1, ds.set k (UInt8.ofNat (x.toNat ^^^ y.toNat ^^^ z.toNat)), by go_num, by omega, by simp [HD.out], hs.drew, ored_next hor HX1.out HX2.out HX3.out hv, ?_⟩
            exact (hbel.setCell (Nat.le_refl _) _).drew
          case measure => simp [intOf]; omega
        · obtain rfl : n = k := by omega
          have hD : Lies wr wr.heap.size 1 (some ⟨wc.heap.size, 0, none⟩) n (ds.map bv) := Lies.ofOwn hown
          have hA1 : Lies wr wc.heap.size 1 A1 n ((x1.take n).map bv) := by
            have := (h1.below hbel).take hn1
            rwa [Nat.mul_one, ← List.map_take] at this
          have hA2 : Lies wr wc.heap.size 1 A2 n ((x2.take n).map bv) := by
            have := (h2.below hbel).take hn2
            rwa [Nat.mul_one, ← List.map_take] at this
          have hA3 : Lies wr wc.heap.size 1 A3 n ((x3.take n).map bv) := by
            have := (h3.below hbel).take hn3
            rwa [Nat.mul_one, ← List.map_take] at this
          have l1 : x1.length = n1 := h1.lenB
          have l2 : x2.length = n2 := h2.lenB
          have l3 : x3.length = n3 := h3.lenB
          have hx : crc ds = crc (x1.take n) ^^^ crc (x2.take n) ^^^ crc (x3.take n) := by
            refine crc_xor (by simp; omega) (by simp; omega) (by rw [HD.out]; simp; omega) fun j x y z u g1 g2 g3 g4 => ?_
            have hj : j < n := by
              have := (List.getElem?_eq_some_iff.1 g4).1
              rw [HD.out] at this
              exact this
            rw [List.getElem?_take, if_pos hj] at g1 g2 g3
            exact hor j hj x y z u g1 g2 g3 g4
          have b0 := crc_lt (x1.take n)
          have b1 := crc_lt (x2.take n)
          have b2 := crc_lt (x3.take n)
          have hb01 := xor_lt32 b0 b1
          have o1 := u32_xor_nat _ _ b0 b1
          have o2 := u32_xor_nat _ _ hb01 b2
          have CD := Lib.hid (sumP_any (some ⟨wc.heap.size, 0, none⟩) n n ds wr.drew _ hD (by omega))
          have C1 := Lib.hid (sumP_any A1 n c1 (x1.take n) wr.drew _ hA1 (by omega))
          have C2 := Lib.hid (sumP_any A2 n c2 (x2.take n) wr.drew _ hA2 (by omega))
          have C3 := Lib.hid (sumP_any A3 n c3 (x3.take n) wr.drew _ hA3 (by omega))
          have hbe : (((crc ds : Nat) : Int) == ((crc (x1.take n) ^^^ crc (x2.take n) ^^^ crc (x3.take n) : Nat) : Int)) = true := by rw [hx]; simp
          clear hx l1 l2 l3 hD hA1 hA2 hA3 h1 h2 h3
          have i0 : (0 : Int) ≤ (n : Int) := by omega
          have i1 : (n : Int) ≤ (c1 : Int) := by omega
          have i2 : (n : Int) ≤ (c2 : Int) := by omega
          have i3 : (n : Int) ≤ (c3 : Int) := by omega
          go_wp2_with fail
          go_region_with (first
            | (go_at_call_of 28 (Value.slice (some (⟨wc.heap.size, 0, none⟩ : Addr)) n n); refine CD.out.mono ?_; rintro e w' ⟨rfl, rfl⟩)
            | (go_at_call_of 28 (Value.slice A1 n c1); refine C1.out.mono ?_; rintro e w' ⟨rfl, rfl⟩)
            | (go_at_call_of 28 (Value.slice A2 n c2); refine C2.out.mono ?_; rintro e w' ⟨rfl, rfl⟩)
            | (go_at_call_of 28 (Value.slice A3 n c3); refine C3.out.mono ?_; rintro e w' ⟨rfl, rfl⟩)
            | (go_at_call 30; refine (awake13_any _).mono ?_; rintro e w' ⟨rfl, hbl⟩))
          go_wp2_with fail
          go_ret
          exact ⟨rfl, hbel.drew.trans (hbl.mono hbel.drew.size)⟩
end Go.Proofs.Ytlcmffbikiamjaa
