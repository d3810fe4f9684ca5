/- Words for BlockSpoilt: the reference reads a block, a block is spoilt, the walk. -/
import Derived.Test.YtaiaoiochbpmfaaGreatMm
import Derived.Test.YtaiaoiochbpmfaaGreatPl
import Derived.Test.YtaiaoiochbpmfaaGreatSameY
import Derived.Test.YtaiaoiochbpmfaaGreatTg
import Derived.Test.YtaiaoiochbpmfaaGreatTh
import Derived.Test.YtaiaoiochbpmfaaGreatInt
import Derived.Test.YtaiaoiochbpmfaaGreatAppR
import Derived.Test.YtaiaoiochbpmfaaGreatAllow
import Derived.Test.YtaiaoiochbpmfaaGreatFits
import Derived.Test.YtaiaoiochbpmfaaGreatRdl
import Derived.Test.YtaiaoiochbpmfaaGreatRead
import Derived.Test.YtaiaoiochbpmfaaGreatRrow
import Derived.Test.YtaiaoiochbpmfaaGreatPkP
import Derived.Test.YtaiaoiochbpmfaaGreatEnc
import Derived.Test.YtaiaoiochbpmfaaGreatRrec
import Derived.Test.YtaiaoiochbpmfaaGreatDec
import Derived.Test.YtaiaoiochbpmfaaGreatEncR
import Derived.Test.YtaiaoiochbpmfaaGreatSm13
import Derived.Test.YtaiaoiochbpmfaaGreatAlc
import Derived.Test.YtaiaoiochbpmfaaGreatApd
import Derived.RowKit
import Derived.Deep.RegionHeld3
import Derived.Deep.DeepCutAuto
import Derived.Laws.IdiomStrings
import Derived.ArgAppend
namespace Iv
end Iv
namespace Iv
end Iv
namespace Iv
section
variable {most : Int} {out : Bytes}
end
theorem unp_room {most : Int} (n : Nat) : ∀ (l out o : Bytes), l.length = n → unp most l out = (o, 0) → o = out ∨ (o.length : Int) ≤ most := by
  induction n using Nat.strongRecOn with
  | _ n ih =>
    intro l out o hn h
    match l with
    | [] =>
      rw [unp_nil] at h
      simp only [Prod.mk.injEq, and_true] at h
      exact .inl h.symm
    | x :: t =>
      by_cases hx : x.toNat < 128
      · rw [unp_lit hx] at h
        by_cases h1 : t.length < x.toNat + 1
        · rw [if_pos h1] at h; simp at h
        · rw [if_neg h1] at h
          by_cases h2 : most < (out.length : Int) + x.toNat + 1
          · rw [if_pos h2] at h; simp at h
          · rw [if_neg h2] at h
            rcases ih _ (by rw [← hn]; simp; omega) _ _ _ rfl h with h3 | h3
            · refine .inr ?_
              rw [h3, List.length_append, List.length_take]
              omega
            · exact .inr h3
      · match t with
        | [] => rw [unp_one (by omega)] at h; simp at h
        | d :: u =>
          rw [unp_copy (by omega)] at h
          by_cases h1 : d.toNat = 0 ∨ out.length < d.toNat
          · rw [if_pos h1] at h; simp at h
          · rw [if_neg h1] at h
            by_cases h2 : most < (out.length : Int) + x.toNat - 125
            · rw [if_pos h2] at h; simp at h
            · rw [if_neg h2] at h
              rcases ih _ (by rw [← hn]; simp; omega) _ _ _ rfl h with h3 | h3
              · refine .inr ?_
                rw [h3, copyOut_len]
                omega
              · exact .inr h3
theorem unpack_room {l o : Bytes} {most : Int} (h : unpack l most = (o, 0)) : o.length = 0 ∨ (o.length : Int) ≤ most := by
  rcases unp_room _ l [] o rfl h with h1 | h1
  · exact .inl (by rw [h1]; rfl)
  · exact .inr h1
end Iv
namespace Iv
open Go.RowKit (wrap64)
end Iv
namespace Iv
open Go.RowKit (wrap64)
def tailR (b : Bytes) (t : UInt8) (first : Int) (n : Nat) (size : Int) (from_ end_ : Nat) : Blk × Nat × Int :=
  let p := unpack ((b.take end_).drop from_) size
  if p.2 = 0 then
    match getRecs t.toNat n (-1) p.1 with
    | some (l, []) => if encode ⟨t.toNat, first, l⟩ = (b.take (end_ + 4), 0) then (⟨t.toNat, first, l⟩, end_ + 4, 0) else (zeroBlk, 0, 11)
    | _ => (zeroBlk, 0, 11)
  else (zeroBlk, 0, 11)
def decodeR (b : Bytes) : Blk × Nat × Int := decodeBy tailR b
theorem headBad_false {t : UInt8} {h : Head} (hh : headBad t h = false) : t.toNat < 4 ∧ 0 ≤ h.first.1 ∧ h.first.1 ≤ 400 ∧ 1 ≤ h.n.1 ∧ h.n.1 ≤ 64 ∧ 0 ≤ h.size.1 ∧ h.size.1 ≤ 1048576 ∧ 0 ≤ h.packed.1 ∧ h.packed.1 ≤ 1048576 := by
  unfold headBad at hh
  simp only [Bool.or_eq_false_iff, decide_eq_false_iff_not] at hh
  omega
theorem head_of_encode {b : Bytes} {x : Blk} {k : Nat} (hf : inI64 x.first) (hn : x.recs.length ≤ 64) (hs : (putRecs (-1) x.recs).length ≤ 4611686018427387904) (hk : b.take k = blkBytes x) :
    (getHead b).size.1 = (putRecs (-1) x.recs).length := by
  have hp := pack_bounded (putRecs (-1) x.recs)
  have hb : b = 84 :: UInt8.ofNat (x.thread % 256).toNat :: (putI x.first ++ (putI x.recs.length ++ (putI (putRecs (-1) x.recs).length ++ putI (pack (putRecs (-1) x.recs)).length))) ++
      (pack (putRecs (-1) x.recs) ++ (sum4 (crc (blkBody x)) ++ b.drop k)) := by
    conv => lhs; rw [← List.take_append_drop k b, hk]
    unfold blkBytes blkBody headBytes
    simp only [List.append_assoc, List.cons_append]
  exact (getHead_put hf ⟨by omega, by omega⟩ ⟨by omega, by omega⟩ ⟨by omega, by omega⟩ hb).2.2.1
theorem tails_same {b : Bytes} {t : UInt8} {first : Int} {n : Nat} {from_ end_ : Nat} (hf : inI64 first) (hsz : (getHead b).size.1 ≤ 1048576) :
    tailP b t first n (getHead b).size.1 from_ end_ = tailR b t first n (getHead b).size.1 from_ end_ := by
  unfold tailP tailR
  dsimp only
  generalize hp : unpack ((b.take end_).drop from_) (getHead b).size.1 = p
  by_cases h0 : p.2 = 0
  · by_cases hl : (p.1.length : Int) = (getHead b).size.1
    · rw [if_pos ⟨h0, hl⟩, if_pos h0]
      rfl
    · rw [if_neg (fun h => hl h.2), if_pos h0]
      cases hg : getRecs t.toNat n (-1) p.1 with
      | none => rfl
      | some q =>
        obtain ⟨l, u⟩ := q
        cases u with
        | cons => rfl
        | nil =>
          dsimp only
          split
          · rename_i he
            obtain ⟨hfit, hy⟩ := encode_ok he
            have ht := byte_lt t
            obtain ⟨g1, g2, _⟩ := getRecs_once t.toNat ⟨by omega, by omega⟩ n _ _ _ _ hg
            have h64 : l.length ≤ 64 := by
              unfold fits at hfit
              by_cases hh : 64 < l.length
              · rw [if_pos (show 64 < (⟨t.toNat, first, l⟩ : Blk).recs.length from hh)] at hfit; simp at hfit
              · omega
            have hpl : p.1 = putRecs (-1) l := by simpa using g2
            have hbig : (putRecs (-1) l).length ≤ 4611686018427387904 := by
              have := unpack_room (l := (b.take end_).drop from_) (o := p.1) (most := (getHead b).size.1) (by rw [hp, ← h0])
              rw [← hpl]
              omega
            have := head_of_encode (b := b) (x := ⟨t.toNat, first, l⟩) (k := end_ + 4) hf h64 hbig hy
            exact absurd (by rw [hpl]; exact this.symm) hl
          · rfl
  · rw [if_neg (fun h => h0 h.1), if_neg h0]
theorem decode_same (b : Bytes) : decode b = decodeR b := by
  unfold decode decodeR decodeBy
  match b with
  | [] => rfl
  | x :: u =>
    dsimp only
    split
    · rfl
    · match u with
      | [] => rfl
      | t :: v =>
        dsimp only
        split
        · rfl
        · split
          · rfl
          · rename_i he hb
            have hbad := headBad_false (by simpa using hb)
            split
            · rfl
            · split
              · rfl
              · exact tails_same ⟨by omega, by omega⟩ (by omega)
end Iv
namespace Iv
end Iv
namespace Iv
open Go.RowKit (wrap64)
end Iv
namespace Iv
open Go.RowKit (wrap64)
end Iv
namespace Iv
end Iv
namespace Iv
end Iv
namespace Iv
end Iv
namespace Go.Proofs.YtaiaoiochbpmfaaGreat
open Go Go.RowKit Iv
set_option linter.unusedVariables false
set_option maxRecDepth 100000 in
set_option maxHeartbeats 800000 in
theorem numberR_any (g : Nat) (A : Option Addr) (n c B : Nat) (xs : Bytes) (s : Rd) (w : World) (hg : Held w g 125 (rdCells A n c s)) (h : Lies w B 1 A n (xs.map bv)) (hnc : n ≤ c) (ho : A = none → c = 0) (hn : n ≤ 1000000000) (hs : s.at_ ≤ n) :
    Calls Tryz.prog 53 #[.pointer (some ⟨g, 0, none⟩)] w fun e w' => e = .returned (.int .i64 (rdNum xs s).1) ∧ Held w' g 125 (rdCells A n c (rdNum xs s).2) ∧ w.grownBy w' (some g) := by
  have hl : xs.length = n := h.lenB
  have g0 : w.cell? ⟨g, 0, none⟩ = some (.slice A n c) := hg.cell 0
  have g1 : w.cell? ⟨g, 1, none⟩ = some (.int .i64 (s.at_ : Int)) := hg.cell 1
  have g2 : w.cell? ⟨g, 2, none⟩ = some (.int .i64 s.err) := hg.cell 2
  by_cases he : s.err = 0
  · obtain ⟨a, er⟩ := s
    dsimp only at he hs g0 g1 g2 hg ⊢
    subst he
    have hcut : Lies w B 1 (if c = a then A else A.map fun x => x.add a) (n - a) ((xs.drop a).map bv) := by
      have := h.dropIf hs hnc
      rwa [Nat.mul_one, ← List.map_drop] at this
    obtain ⟨A', hA'⟩ : ∃ A', (if c = a then A else A.map fun x => x.add a) = A' := ⟨_, rfl⟩
    rw [hA'] at hcut
    obtain ⟨m, k, er, hgi⟩ : ∃ m k er, getI (xs.drop a) = (m, k, er) := ⟨_, _, _, rfl⟩
    have CP := Lib.hid (intR_parts A' (n - a) (c - a) (xs.drop a) w.drew B hcut.drew (by omega) hgi)
    have hne : ((0 : Int) != 0) = false := rfl
    have j0 : (0 : Int) ≤ (a : Int) := by omega
    have j1 : (a : Int) ≤ (n : Int) := by omega
    have j2 : (n : Int) ≤ (c : Int) := by omega
    have z0 := hg.free 0
    have z1 := hg.free 1
    have z2 := hg.free 2
    by_cases her : er = 0
    · subst her
      have ho := getI_once hgi
      have hk : k ≤ n - a := by have := ho.2.2.2.1; rw [List.length_drop] at this; omega
      have hrd : rdNum xs ⟨a, 0⟩ = (m, ⟨a + k, 0⟩) := by
        unfold rdNum
        rw [if_pos rfl]
        dsimp only
        rw [hgi, if_pos rfl]
      rw [hrd]
      have HG := Lib.hid hg
      clear hrd hgi ho hl hg hcut h
      go_enter Tryz.func53, Tryz.ntmps53
      go_wp2_with fail
      go_region_held3 (fun w' => w'.cell? ⟨g, 0, none⟩ = some (.slice A n c) ∧ w'.cell? ⟨g, 1, none⟩ = some (.int .i64 (a : Int))) (go_keep) (first
        | (go_at_call 56; ((with_reducible refine CP.out.mono ?_); rintro e w1 ⟨rfl, rfl⟩)))
      go_wp2_with fail
      go_ret
      have hst := (HG.out.store 1 (.int .i64 ((a : Int) + (k : Int)))).drew
      exact ⟨rfl, hst, grown_toDrew (grown_store w g 1 _)⟩
    · obtain ⟨er', her', hg'⟩ := (getI_err (xs.drop a)).resolve_left (by rw [hgi]; exact her)
      rw [hgi] at hg'
      simp only [Prod.mk.injEq] at hg'
      obtain ⟨rfl, rfl, rfl⟩ := hg'
      have hrd : rdNum xs ⟨a, 0⟩ = (0, ⟨a, er⟩) := by
        unfold rdNum
        rw [if_pos rfl]
        dsimp only
        rw [hgi, if_neg her]
      rw [hrd]
      have HG := Lib.hid hg
      have hbe : (er != 0) = true := by rw [bne_iff_ne]; exact her
      clear hrd hgi hl hg hcut h her her'
      go_enter Tryz.func53, Tryz.ntmps53
      go_wp2_with fail
      go_region_held3 (fun w' => w'.cell? ⟨g, 0, none⟩ = some (.slice A n c) ∧ w'.cell? ⟨g, 1, none⟩ = some (.int .i64 (a : Int))) (go_keep) (first
        | (go_at_call 56; ((with_reducible refine CP.out.mono ?_); rintro e w1 ⟨rfl, rfl⟩)))
      go_wp2_with fail
      go_ret
      have hst := (HG.out.store 2 (.int .i64 er)).drew
      exact ⟨rfl, hst, grown_toDrew (grown_store w g 2 _)⟩
  · have hb : (s.err != 0) = true := by rw [bne_iff_ne]; exact he
    have hrd : rdNum xs s = (0, s) := rdNum_bad he
    rw [hrd]
    have HG := Lib.hid hg
    clear hrd he hl hg
    go_enter Tryz.func53, Tryz.ntmps53
    go_wp2_with fail
    go_ret
    exact ⟨rfl, HG.out, World.grownBy.refl w _⟩
end Go.Proofs.YtaiaoiochbpmfaaGreat
namespace Go.Proofs.YtaiaoiochbpmfaaGreat
open Go Go.RowKit Iv
set_option linter.unusedVariables false
set_option maxRecDepth 100000 in
set_option maxHeartbeats 3200000 in
theorem listR_any (g : Nat) (A : Option Addr) (n c B : Nat) (xs : Bytes) (s : Rd) (w : World) (hg : Held w g 125 (rdCells A n c s)) (h : Lies w B 1 A n (xs.map bv)) (hBg : B ≤ g) (hnc : n ≤ c) (ho : A = none → c = 0) (hn : n ≤ 1000000000) (hs : s.at_ ≤ n) (base : Nat) (hbase : base ≤ w.heap.size) :
    Calls Tryz.prog 89 #[.pointer (some ⟨g, 0, none⟩)] w fun e w' => ∃ v', e = .returned v' ∧ w'.ownsRow base 3 1 v' (rdList xs s).1.length ((rdList xs s).1.map iv) ∧ Held w' g 125 (rdCells A n c (rdList xs s).2) ∧ w.grownBy w' (some g) ∧ At w none v'.ownBlock := by
  have hl : xs.length = n := h.lenB
  have CN := Lib.hid (numberR_any g A n c B xs s w hg h hnc ho hn hs)
  obtain ⟨m, s0, hp⟩ : ∃ m s0, rdNum xs s = (m, s0) := ⟨_, _, rfl⟩
  have hmi := rdNum_i64 xs s
  have hat := (rdNum_at (b := xs) (s := s) (by omega)).1
  rw [hp] at hmi hat
  obtain ⟨s1, hs1⟩ : ∃ s1, s1 = rdCheck (rdNum xs s) := ⟨_, rfl⟩
  have hlist : rdList xs s = rdItems xs m.toNat 0 s1 := by
    unfold rdList
    rw [← hs1, hp]
  have hs1' : s1 = if s0.err = 0 ∧ (m < 0 ∨ 400 < m) then ⟨s0.at_, 11⟩ else s0 := by
    rw [hs1, hp]
    rfl
  have hat1 : s1.at_ ≤ n := by
    rw [hs1']
    split
    · exact Nat.le_trans hat (by omega)
    · exact Nat.le_trans hat (by omega)
  have hm400 : s1.err = 0 → 0 ≤ m ∧ m ≤ 400 := by
    intro he
    rw [hs1'] at he
    by_cases hc : s0.err = 0 ∧ (m < 0 ∨ 400 < m)
    · rw [if_pos hc] at he
      exact absurd (show (11 : Int) = 0 from he) (by decide)
    · rw [if_neg hc] at he
      have : ¬ (m < 0 ∨ 400 < m) := fun hh => hc ⟨he, hh⟩
      omega
  rw [hlist]
  have HP := Lib.hid hp
  have HS1 := Lib.hid hs1'
  have HM4 := Lib.hid hm400
  have HMI := Lib.hid hmi
  have HO := Lib.hid ho
  clear hlist hs1 hs1' hm400 hp hmi hat ho
  have hgl := hg.lt
  have HG := Lib.hid hg
  clear hg
  go_enter Tryz.func89, Tryz.ntmps89
  go_wp2_with fail
  refine CN.out.mono ?_
  rintro e w1 ⟨rfl, hh1, hg1⟩
  rw [HP.out] at hh1 ⊢
  go_upto_region 2 with fail
  have f2 : w1.cell? ⟨g, 2, none⟩ = some (.int .i64 s0.err) := hh1.cell 2
  have z2 := hh1.free 2
  obtain ⟨tb, htb⟩ : ∃ tb, tb = decide (s0.err = 0 ∧ (m < 0 ∨ 400 < m)) := ⟨_, rfl⟩
  have HTB := Lib.hid htb
  have HH1 := Lib.hid hh1
  have HG1 := Lib.hid hg1
  clear htb hh1 hg1
  go_cut [21] (fun v21 wx => v21 = .bool tb ∧ wx = w1)
  case first =>
    by_cases he : s0.err = 0
    · have hb : (s0.err == 0) = true := by rw [beq_iff_eq]; exact he
      by_cases h1 : m < 0
      · have HF : Hid (tb = true) := by rw [HTB.out, decide_eq_true_iff]; exact ⟨he, .inl h1⟩
        clear he
        go_wp2_with fail
        go_meet
        exact ⟨by rw [HF.out], rfl⟩
      · by_cases h2 : 400 < m
        · have HF : Hid (tb = true) := by rw [HTB.out, decide_eq_true_iff]; exact ⟨he, .inr h2⟩
          clear he
          go_wp2_with fail
          go_meet
          exact ⟨by rw [HF.out], rfl⟩
        · have HF : Hid (tb = false) := by rw [HTB.out, decide_eq_false_iff_not]; intro hh; omega
          clear he
          go_wp2_with fail
          go_meet
          exact ⟨by rw [HF.out], rfl⟩
    · have hb : (s0.err == 0) = false := by rw [beq_eq_false_iff_ne]; exact he
      have HF : Hid (tb = false) := by rw [HTB.out, decide_eq_false_iff_not]; intro hh; exact he hh.1
      clear he
      go_wp2_with fail
      go_meet
      exact ⟨by rw [HF.out], rfl⟩
  case rest =>
    obtain ⟨rfl, rfl⟩ := hcut
    go_upto_if 21 with fail
    go_cut [3] (fun v3 wx => v3 = .int .i64 m ∧ Held wx g 125 (rdCells A n c s1) ∧ w.grownBy wx (some g))
    case first =>
      cases tb
      · have hs : s1 = s0 := by
          have := HTB.out.symm
          rw [decide_eq_false_iff_not] at this
          rw [HS1.out, if_neg this]
        have HF := Lib.hid hs
        clear hs
        go_wp2_with fail
        go_meet
        exact ⟨rfl, by rw [HF.out]; exact HH1.out, HG1.out⟩
      · have hs : s1 = ⟨s0.at_, 11⟩ := by
          have := HTB.out.symm
          rw [decide_eq_true_iff] at this
          rw [HS1.out, if_pos this]
        have HF := Lib.hid hs
        clear hs
        go_wp2_with fail
        go_meet
        exact ⟨rfl, by rw [HF.out]; exact HH1.out.store 2 (.int .i64 11), grown_then HG1.out (grown_store wc g 2 _)⟩
    case rest =>
      obtain ⟨rfl, hhx, hgx⟩ := hcut
      have hinfo := info_int
      obtain ⟨i0, hi, hz0, hz1, hz2⟩ := info_parts hinfo
      have HI := Lib.hid hi
      have HZ0 := Lib.hid hz0
      have HZ1 := Lib.hid hz1
      have HZ2 := Lib.hid hz2
      clear hi hz0 hz1 hz2 hinfo
      have hz : (0 : Nat) < 1 := by omega
      obtain ⟨N, hN⟩ : ∃ N, N = m.toNat := ⟨_, rfl⟩
      have HN := Lib.hid hN
      clear hN
      go_wp2_with fail
      go_loopw [4, 5, 6] (fun v la i wr => ∃ (k : Nat) (last : Int) (s' : Rd) (L0 : List Int) (vv : Value), vv = v ∧ i = .int .i64 k ∧ la = .int .i64 last ∧ ListAt xs N s1 L0 last s' k ∧ s'.at_ ≤ n ∧ Held wr g 125 (rdCells A n c s') ∧
          wr.ownsRow base 3 1 vv L0.length (L0.map iv) ∧ w.grownBy wr (some g) ∧ At w none vv.ownBlock) (fun _ _ i _ => N - (intOf i).toNat)
      case atStart => exact ⟨0, 0, s1, [], _, rfl, rfl, rfl, ⟨rfl, Nat.zero_le _, fun _ => rfl, fun h => by omega, by simp⟩, hat1, hhx, World.ownsRow_nil _ _ _ _, hgx, .inl rfl⟩
      case round =>
        clear hhx hgx
        obtain ⟨k, last, s', L0, vv, rfl, rfl, rfl, hla, hsa, hh, hown, hgr, hat⟩ := hrel
        have f2 : wr.cell? ⟨g, 2, none⟩ = some (.int .i64 s'.err) := hh.cell 2
        have hkN : k ≤ N := hla.2.1
        have hgw : g < w.heap.size := hgl
        have hBg' : B ≤ w.heap.size := by omega
        have hng : vv.ownBlock ≠ some g := by
          rcases hat with h0 | ⟨b0, h1, h2⟩
          · rw [h0]; exact fun h => nomatch h
          · rw [h1]; intro h; injection h with h; omega
        by_cases hlt : (k : Int) < m
        · by_cases he : s'.err = 0
          · have hN4 : N ≤ 400 := by
              rcases Nat.eq_zero_or_pos k with h0 | h0
              · have h1 := hla.2.2.1 h0
                have := HM4.out (by rw [← h1]; exact he)
                rw [HN.out]
                omega
              · exact hla.2.2.2.1 h0
            have hlen0 : L0.length = k := hla.1
            have CN2 := Lib.hid (numberR_any g A n c B xs s' wr hh (h.grown hgr hBg' (fun g' hg' => by injection hg' with hg'; omega)) hnc HO.out hn hsa)
            have HNX := Lib.hid (listAt_next hla (by have := HN.out; omega) he hN4)
            have hatn := (rdNum_at (b := xs) (s := s') (by omega)).1
            obtain ⟨x, s2, hp2⟩ : ∃ x s2, rdNum xs s' = (x, s2) := ⟨_, _, rfl⟩
            have hxi := rdNum_i64 xs s'
            rw [hp2] at hatn hxi
            have HP2 := Lib.hid hp2
            have HAT := Lib.hid hatn
            have hb : (s'.err == 0) = true := by rw [beq_iff_eq]; exact he
            clear hla he hp2 hatn
            go_wp2_with fail
            refine CN2.out.mono ?_
            rintro e w2 ⟨rfl, hh2, hg2⟩
            rw [HP2.out] at hh2 ⊢
            have hown2 := own_far hown hg2 hng
            rw [hlen0] at hown2
            have HN4 := Lib.hid hN4
            have bk : k + 1 ≤ 400 := by have := HN.out; omega
            clear hown hN4
            go_wp2_with (at_builtin; refine wpList_app _ rfl (.tmp 41) (.tmp 43) _ rfl base 3 i0 (.int .i64 0) 1 8 Tryz.underlying37 HI.out HZ0.out HZ1.out HZ2.out rfl hz _ vv.ownBlock k (L0.map iv) rfl (App.own (hown2.alloc _)) ⟨w2.heap.size, 0, none⟩ 1 1 [.int .i64 (wrap64 (last + x))] rfl hz rfl (cell_new1 _ _ _) (one1 rfl) (by unfold maxLen; omega) (by omega) (by have := hgr.size; have := hg2.size; simp; omega) ?_; intro v' w3 hown3 hg3 hat3)
            have hg3' := grown_alloc hg3
            have hat3' := hat3.alloc
            have hw12 : w.heap.size ≤ w2.heap.size := Nat.le_trans hgr.size hg2.size
            clear hg3 hat3
            go_roundw
            case rel =>
              have hN2 := HNX.out
              rw [HP2.out] at hN2
              refine ⟨k + 1, wrap64 (last + x), s2, L0 ++ [wrap64 (last + x)], v', rfl, by go_num, rfl, hN2, Nat.le_trans HAT.out (Nat.le_of_eq hl), hh2.grown hg3' (fun e => hng e.symm), ?_, grown_side (grown_then hgr hg2) hg3' hat, hat.trans hat3' hw12⟩
              rw [List.length_append, List.map_append, hlen0]
              exact hown3
            case measure => simp [intOf]; have := HN.out; omega
          · have HE := Lib.hid (listAt_end hla (.inr he))
            have hb : (s'.err == 0) = false := by rw [beq_eq_false_iff_ne]; exact he
            have HR := Lib.hid (show w.grownBy wr (some g) from hgr)
            clear hla he
            go_wp2_with fail
            go_ret
            rw [← HN.out, HE.out]
            exact ⟨_, rfl, hown, hh, hgr, hat⟩
        · have HE := Lib.hid (listAt_end hla (.inl (by have := HN.out; omega)))
          clear hla
          go_wp2_with fail
          go_ret
          rw [← HN.out, HE.out]
          exact ⟨_, rfl, hown, hh, hgr, hat⟩
end Go.Proofs.YtaiaoiochbpmfaaGreat
namespace Go.Proofs.YtaiaoiochbpmfaaGreat
open Go Go.RowKit Iv
set_option linter.unusedVariables false
set_option maxRecDepth 100000 in
set_option maxHeartbeats 3200000 in
theorem readR_any (A : Option Addr) (n c B : Nat) (xs : Bytes) (thread seq : Int) (w : World) (h : Lies w B 1 A n (xs.map bv)) (hB : B ≤ w.heap.size) (hnc : n ≤ c) (ho : A = none → c = 0) (hn : n ≤ 1000000000) :
    Calls Tryz.prog 71 #[.slice A n c, .int .i64 thread, .int .i64 seq] w fun e w' => ∃ (r : Rec) (vd vf : Value), r = (getRec xs thread seq).1 ∧
      e = .returned (.tuple #[.agg #[.int .i64 r.seq, .int .i64 r.ev.thread, .int .i64 r.ev.kind, .int .i64 r.ev.obj, .int .i64 r.ev.value, .int .i64 r.ev.site, vd, vf], .int .i64 ((getRec xs thread seq).2.1 : Int), .int .i64 (getRec xs thread seq).2.2]) ∧
      w'.ownsRow w.heap.size 3 1 vd r.ev.deps.length (r.ev.deps.map iv) ∧ w'.ownsRow w.heap.size 3 1 vf r.ev.from_.length (r.ev.from_.map iv) ∧ w.grownBy w' none := by
  have hl : xs.length = n := h.lenB
  have H := Lib.hid h
  clear h
  obtain ⟨W, hW⟩ : ∃ W, W = (w.alloc (.cells #[.int .i64 0, .int .i64 0, .int .i64 0, .int .i64 0, .int .i64 0, .int .i64 0, .slice none 0 0, .slice none 0 0] 71)).alloc (.cells (rdCells A n c ⟨0, 0⟩) 125) := ⟨_, rfl⟩
  have HW := Lib.hid hW
  go_enter Tryz.func71, Tryz.ntmps71
  go_wp2_with fail
  have I0 : Held W w.heap.size 71 #[.int .i64 0, .int .i64 0, .int .i64 0, .int .i64 0, .int .i64 0, .int .i64 0, .slice none 0 0, .slice none 0 0] ∧ Held W (w.heap.size + 1) 125 (rdCells A n c ⟨0, 0⟩) ∧ w.grownBy W none := by
    rw [hW]
    refine ⟨(Held.new w _ _).alloc _, newAt (w.alloc _) _ (by simp) _ _, ?_⟩
    exact grownBy_trans (World.grownBy_alloc w _ none) (World.grownBy_alloc _ _ none) (.inl rfl)
  clear hW
  have hs0 : (⟨0, 0⟩ : Rd).at_ ≤ n := Nat.zero_le _
  rw [show (w.alloc (.cells #[.int .i64 0, .int .i64 0, .int .i64 0, .int .i64 0, .int .i64 0, .int .i64 0, .slice none 0 0, .slice none 0 0] 71)).alloc (.cells #[.slice A n c, .int .i64 0, .int .i64 0] 125) = W from HW.out.symm]
  obtain ⟨x0, t0, hp0⟩ : ∃ x t, rdNum xs ⟨0, 0⟩ = (x, t) := ⟨_, _, rfl⟩
  have hs1 : t0.at_ ≤ n := by have := (rdNum_at (b := xs) (s := ⟨0, 0⟩) (Nat.zero_le _)).1; rw [hp0] at this; exact Nat.le_trans this (Nat.le_of_eq hl)
  refine (numberR_any (w.heap.size + 1) A n c B xs ⟨0, 0⟩ W I0.2.1 (H.out.grown I0.2.2 hB (fun _ e => nomatch e)) hnc ho hn hs0).mono ?_
  rintro e w1 ⟨rfl, h1, g1⟩
  rw [hp0] at h1 ⊢
  have r1 := I0.1.grown g1 (fun e => by injection e with e; omega)
  have gr1 := grownBy_trans I0.2.2 g1 (.inr ⟨_, rfl, Nat.le_succ _⟩)
  have hf1 : w.heap.size + 1 < w1.heap.size := h1.lt
  have J1 : RdX w 125 w1.heap.size A n c (w1.alloc (.cells (rcC (wrap64 (seq + x0)) thread 0 0 0 0 (.slice none 0 0) (.slice none 0 0)) 71)) t0 (rcC (wrap64 (seq + x0)) thread 0 0 0 0 (.slice none 0 0) (.slice none 0 0)) :=
    ⟨r1.alloc _, h1.alloc _, Held.new w1 _ _, grownBy_trans gr1 (World.grownBy_alloc w1 _ none) (.inl rfl), hf1⟩
  clear h1 g1 I0 r1 gr1
  go_wp2_with fail
  obtain ⟨x1, t1, hp1⟩ : ∃ x t, rdNum xs t0 = (x, t) := ⟨_, _, rfl⟩
  have hs2 : t1.at_ ≤ n := by have := (rdNum_at (b := xs) (s := t0) (by omega)).1; rw [hp1] at this; exact Nat.le_trans this (Nat.le_of_eq hl)
  refine (numberR_any (w.heap.size + 1) A n c B xs t0 _ J1.rd (H.out.grown J1.grown hB (fun _ e => nomatch e)) hnc ho hn hs1).mono ?_
  rintro e w2 ⟨rfl, h1, g1⟩
  rw [hp1] at h1 ⊢
  have I2 := J1.next h1 g1
  clear h1 g1 J1
  have z0 := I2.rcd.free 2
  have k0 := I2.rcd.cell 2
  go_wp2_with fail
  have J2 : RdX w 125 w1.heap.size A n c _ t1 (rcC (wrap64 (seq + x0)) thread x1 0 0 0 (.slice none 0 0) (.slice none 0 0)) := I2.put 2 (.int .i64 x1)
  clear z0 k0 I2
  obtain ⟨x2, t2, hp2⟩ : ∃ x t, rdNum xs t1 = (x, t) := ⟨_, _, rfl⟩
  have hs3 : t2.at_ ≤ n := by have := (rdNum_at (b := xs) (s := t1) (by omega)).1; rw [hp2] at this; exact Nat.le_trans this (Nat.le_of_eq hl)
  refine (numberR_any (w.heap.size + 1) A n c B xs t1 _ J2.rd (H.out.grown J2.grown hB (fun _ e => nomatch e)) hnc ho hn hs2).mono ?_
  rintro e w3 ⟨rfl, h1, g1⟩
  rw [hp2] at h1 ⊢
  have I3 := J2.next h1 g1
  clear h1 g1 J2
  have z0 := I3.rcd.free 3
  have k0 := I3.rcd.cell 3
  go_wp2_with fail
  have J3 : RdX w 125 w1.heap.size A n c _ t2 (rcC (wrap64 (seq + x0)) thread x1 x2 0 0 (.slice none 0 0) (.slice none 0 0)) := I3.put 3 (.int .i64 x2)
  clear z0 k0 I3
  obtain ⟨x3, t3, hp3⟩ : ∃ x t, rdNum xs t2 = (x, t) := ⟨_, _, rfl⟩
  have hs4 : t3.at_ ≤ n := by have := (rdNum_at (b := xs) (s := t2) (by omega)).1; rw [hp3] at this; exact Nat.le_trans this (Nat.le_of_eq hl)
  refine (numberR_any (w.heap.size + 1) A n c B xs t2 _ J3.rd (H.out.grown J3.grown hB (fun _ e => nomatch e)) hnc ho hn hs3).mono ?_
  rintro e w4 ⟨rfl, h1, g1⟩
  rw [hp3] at h1 ⊢
  have I4 := J3.next h1 g1
  clear h1 g1 J3
  have z0 := I4.rcd.free 4
  have k0 := I4.rcd.cell 4
  go_wp2_with fail
  have J4 : RdX w 125 w1.heap.size A n c _ t3 (rcC (wrap64 (seq + x0)) thread x1 x2 x3 0 (.slice none 0 0) (.slice none 0 0)) := I4.put 4 (.int .i64 x3)
  clear z0 k0 I4
  obtain ⟨x4, t4, hp4⟩ : ∃ x t, rdNum xs t3 = (x, t) := ⟨_, _, rfl⟩
  have hs5 : t4.at_ ≤ n := by have := (rdNum_at (b := xs) (s := t3) (by omega)).1; rw [hp4] at this; exact Nat.le_trans this (Nat.le_of_eq hl)
  refine (numberR_any (w.heap.size + 1) A n c B xs t3 _ J4.rd (H.out.grown J4.grown hB (fun _ e => nomatch e)) hnc ho hn hs4).mono ?_
  rintro e w5 ⟨rfl, h1, g1⟩
  rw [hp4] at h1 ⊢
  have I5 := J4.next h1 g1
  clear h1 g1 J4
  have z0 := I5.rcd.free 5
  have k0 := I5.rcd.cell 5
  go_wp2_with fail
  have J5 : RdX w 125 w1.heap.size A n c _ t4 (rcC (wrap64 (seq + x0)) thread x1 x2 x3 x4 (.slice none 0 0) (.slice none 0 0)) := I5.put 5 (.int .i64 x4)
  clear z0 k0 I5
  have hsz5 : w1.heap.size < w5.heap.size := by have := J5.rcd.lt; simpa using this
  obtain ⟨l5, t5, hp5⟩ : ∃ x t, rdList xs t4 = (x, t) := ⟨_, _, rfl⟩
  have hs6 : t5.at_ ≤ n := by have := rdList_at (b := xs) (s := t4) (by omega); rw [hp5] at this; exact Nat.le_trans this (Nat.le_of_eq hl)
  refine (listR_any (w.heap.size + 1) A n c B xs t4 _ J5.rd (H.out.grown J5.grown hB (fun _ e => nomatch e)) (by omega) hnc ho hn hs5 w.heap.size (by simp; omega)).mono ?_
  rintro e w6 ⟨vd, rfl, hod, h1, g1, hatd⟩
  rw [hp5] at h1 hod
  obtain ⟨Ad, cd, hvd, _, _, _, _⟩ := own_slice hod
  have I6 := J5.next h1 g1
  clear h1 g1 J5
  have hned : vd.ownBlock ≠ some (w.heap.size + 1) ∧ vd.ownBlock ≠ some (w1.heap.size) := by
    rcases hatd with h0 | ⟨b0, h1, h2⟩
    · rw [h0]; exact ⟨fun h => (nomatch h), fun h => (nomatch h)⟩
    · have h2' : w5.heap.size ≤ b0 := by simpa using h2
      rw [h1]; exact ⟨fun h => (by injection h with h; omega), fun h => (by injection h with h; omega)⟩
  have hne0 : vd.ownBlock ≠ some w.heap.size := by
    rcases hatd with h0 | ⟨b0, h1, h2⟩
    · rw [h0]; exact fun h => (nomatch h)
    · have h2' : w5.heap.size ≤ b0 := by simpa using h2
      rw [h1]; exact fun h => (by injection h with h; omega)
  have HNE0 := Lib.hid hne0
  have hod2 := own_far hod (grown_store w6 (w1.heap.size) 6 vd) hned.2
  have J6 : RdX w 125 w1.heap.size A n c _ t5 (rcC (wrap64 (seq + x0)) thread x1 x2 x3 x4 vd (.slice none 0 0)) := I6.put 6 vd
  have HOD := Lib.hid hod2
  have HNED := Lib.hid hned
  clear hod hatd hned hod2 hne0
  subst hvd
  have z0 := I6.rcd.free 6
  have k0 := I6.rcd.cell 6
  go_wp2_with fail
  clear z0 k0
  have hsz6 : w1.heap.size < w6.heap.size := I6.rcd.lt
  clear I6
  obtain ⟨l6, t6, hp6⟩ : ∃ x t, rdList xs t5 = (x, t) := ⟨_, _, rfl⟩
  refine (listR_any (w.heap.size + 1) A n c B xs t5 _ J6.rd (H.out.grown J6.grown hB (fun _ e => nomatch e)) (by omega) hnc ho hn hs6 w.heap.size (by simp; omega)).mono ?_
  rintro e w7 ⟨vf, rfl, hof, h1, g1, hatf⟩
  rw [hp6] at h1 hof
  obtain ⟨Af, cf, hvf, _, _, _, _⟩ := own_slice hof
  have I7 := J6.next h1 g1
  have hod3 := own_far HOD.out g1 HNED.out.1
  clear h1 g1 J6
  have hnef : vf.ownBlock ≠ some w.heap.size ∧ vf.ownBlock ≠ some (w1.heap.size) := by
    rcases hatf with h0 | ⟨b0, h1, h2⟩
    · rw [h0]; exact ⟨fun h => (nomatch h), fun h => (nomatch h)⟩
    · have h2' : w6.heap.size ≤ b0 := by simpa using h2
      rw [h1]; exact ⟨fun h => (by injection h with h; omega), fun h => (by injection h with h; omega)⟩
  have HOF := Lib.hid (own_far hof (grown_store w7 (w1.heap.size) 7 vf) hnef.2)
  have HOD3 := Lib.hid (own_far hod3 (grown_store w7 (w1.heap.size) 7 vf) HNED.out.2)
  have J7 : RdX w 125 w1.heap.size A n c _ t6 (rcC (wrap64 (seq + x0)) thread x1 x2 x3 x4 (.slice Ad l5.length cd) vf) := I7.put 7 vf
  have HNEF := Lib.hid hnef.1
  clear hof hod3 hatf hnef
  subst hvf
  have z0 := I7.rcd.free 7
  have k0 := I7.rcd.cell 7
  have e1 : w7.cell? ⟨w.heap.size + 1, 1, none⟩ = some (.int .i64 (t6.at_ : Int)) := I7.rd.cell 1
  have e2 : w7.cell? ⟨w.heap.size + 1, 2, none⟩ = some (.int .i64 t6.err) := I7.rd.cell 2
  obtain ⟨W8, hW8⟩ : ∃ W8, W8 = w7.setCell ⟨w1.heap.size, 7, none⟩ (.slice Af l6.length cf) := ⟨_, rfl⟩
  have J8 := J7
  rw [← hW8] at J8
  have HOF8 := HOF.out
  have HOD8 := HOD3.out
  rw [← hW8] at HOF8 HOD8
  have HX := Lib.hid (And.intro HOF8 HOD8)
  have HJ8 := Lib.hid J8
  have HW8 := Lib.hid hW8
  have c0 : W8.cell? ⟨w1.heap.size, 0, none⟩ = some (.int .i64 (wrap64 (seq + x0))) := J8.rcd.cell 0
  have c1 : W8.cell? ⟨w1.heap.size, 1, none⟩ = some (.int .i64 thread) := J8.rcd.cell 1
  have c2 : W8.cell? ⟨w1.heap.size, 2, none⟩ = some (.int .i64 x1) := J8.rcd.cell 2
  have c3 : W8.cell? ⟨w1.heap.size, 3, none⟩ = some (.int .i64 x2) := J8.rcd.cell 3
  have c4 : W8.cell? ⟨w1.heap.size, 4, none⟩ = some (.int .i64 x3) := J8.rcd.cell 4
  have c5 : W8.cell? ⟨w1.heap.size, 5, none⟩ = some (.int .i64 x4) := J8.rcd.cell 5
  have c6 : W8.cell? ⟨w1.heap.size, 6, none⟩ = some (.slice Ad l5.length cd) := J8.rcd.cell 6
  have c7 : W8.cell? ⟨w1.heap.size, 7, none⟩ = some (.slice Af l6.length cf) := J8.rcd.cell 7
  have e1' : W8.cell? ⟨w.heap.size + 1, 1, none⟩ = some (.int .i64 (t6.at_ : Int)) := J8.rd.cell 1
  have e2' : W8.cell? ⟨w.heap.size + 1, 2, none⟩ = some (.int .i64 t6.err) := J8.rd.cell 2
  have q0 : W8.cell? ⟨w.heap.size, 0, none⟩ = some (.int .i64 0) := J8.res.cell 0
  have q1 : W8.cell? ⟨w.heap.size, 1, none⟩ = some (.int .i64 0) := J8.res.cell 1
  have q2 : W8.cell? ⟨w.heap.size, 2, none⟩ = some (.int .i64 0) := J8.res.cell 2
  have q3 : W8.cell? ⟨w.heap.size, 3, none⟩ = some (.int .i64 0) := J8.res.cell 3
  have q4 : W8.cell? ⟨w.heap.size, 4, none⟩ = some (.int .i64 0) := J8.res.cell 4
  have q5 : W8.cell? ⟨w.heap.size, 5, none⟩ = some (.int .i64 0) := J8.res.cell 5
  have q6 : W8.cell? ⟨w.heap.size, 6, none⟩ = some (.slice none 0 0) := J8.res.cell 6
  have q7 : W8.cell? ⟨w.heap.size, 7, none⟩ = some (.slice none 0 0) := J8.res.cell 7
  have y0 := J8.res.free 0
  have y1 := J8.res.free 1
  have y2 := J8.res.free 2
  have y3 := J8.res.free 3
  have y4 := J8.res.free 4
  have y5 := J8.res.free 5
  have y6 := J8.res.free 6
  have y7 := J8.res.free 7
  clear J7 J8 HOF HOD3 HOF8 HOD8
  by_cases he : t6.err = 0
  · have hb : (t6.err != 0) = false := by rw [he]; rfl
    clear hW8
    go_wp2_with fail
    rw [show w7.setCell ⟨w1.heap.size, 7, none⟩ (.slice Af l6.length cf) = W8 from HW8.out.symm]
    clear z0 k0 e1 e2
    go_region
    all_goals (go_wp2_with fail)
    all_goals
      obtain ⟨s1, s2, s3⟩ := stores8 HJ8.out.res HJ8.out.grown (Nat.le_refl _) (.int .i64 (wrap64 (seq + x0))) (.int .i64 thread) (.int .i64 x1) (.int .i64 x2) (.int .i64 x3) (.int .i64 x4) (.slice Ad l5.length cd) (.slice Af l6.length cf)
      obtain ⟨W9, hW9⟩ : ∃ W9, W9 = ((((((((W8.setCell ⟨w.heap.size, 0, none⟩ (.int .i64 (wrap64 (seq + x0)))).setCell ⟨w.heap.size, 1, none⟩ (.int .i64 thread)).setCell ⟨w.heap.size, 2, none⟩ (.int .i64 x1)).setCell ⟨w.heap.size, 3, none⟩ (.int .i64 x2)).setCell ⟨w.heap.size, 4, none⟩ (.int .i64 x3)).setCell ⟨w.heap.size, 5, none⟩ (.int .i64 x4)).setCell ⟨w.heap.size, 6, none⟩ (.slice Ad l5.length cd)).setCell ⟨w.heap.size, 7, none⟩ (.slice Af l6.length cf)).drew := ⟨_, rfl⟩
      rw [show ((((((((W8.setCell ⟨w.heap.size, 0, none⟩ (.int .i64 (wrap64 (seq + x0)))).setCell ⟨w.heap.size, 1, none⟩ (.int .i64 thread)).setCell ⟨w.heap.size, 2, none⟩ (.int .i64 x1)).setCell ⟨w.heap.size, 3, none⟩ (.int .i64 x2)).setCell ⟨w.heap.size, 4, none⟩ (.int .i64 x3)).setCell ⟨w.heap.size, 5, none⟩ (.int .i64 x4)).setCell ⟨w.heap.size, 6, none⟩ (.slice Ad l5.length cd)).setCell ⟨w.heap.size, 7, none⟩ (.slice Af l6.length cf)).drew = W9 from hW9.symm]
      have t1 : Held W9 w.heap.size 71 #[(.int .i64 (wrap64 (seq + x0))), (.int .i64 thread), (.int .i64 x1), (.int .i64 x2), (.int .i64 x3), (.int .i64 x4), (.slice Ad l5.length cd), (.slice Af l6.length cf)] := by rw [hW9]; exact s1.drew
      have t2 : w.grownBy W9 none := by rw [hW9]; exact grown_toDrew s2
      have t3 : W8.grownBy W9 (some w.heap.size) := by rw [hW9]; exact grown_toDrew s3
      clear hW9 s1 s2 s3
      have d0 : W9.cell? ⟨w.heap.size, 0, none⟩ = some (.int .i64 (wrap64 (seq + x0))) := t1.cell 0
      have d1 : W9.cell? ⟨w.heap.size, 1, none⟩ = some (.int .i64 thread) := t1.cell 1
      have d2 : W9.cell? ⟨w.heap.size, 2, none⟩ = some (.int .i64 x1) := t1.cell 2
      have d3 : W9.cell? ⟨w.heap.size, 3, none⟩ = some (.int .i64 x2) := t1.cell 3
      have d4 : W9.cell? ⟨w.heap.size, 4, none⟩ = some (.int .i64 x3) := t1.cell 4
      have d5 : W9.cell? ⟨w.heap.size, 5, none⟩ = some (.int .i64 x4) := t1.cell 5
      have d6 : W9.cell? ⟨w.heap.size, 6, none⟩ = some (.slice Ad l5.length cd) := t1.cell 6
      have d7 : W9.cell? ⟨w.heap.size, 7, none⟩ = some (.slice Af l6.length cf) := t1.cell 7
      have HOF9 := own_far HX.out.1 t3 HNEF.out
      have HOD9 := own_far HX.out.2 t3 HNE0.out
      have hg : getRec xs thread seq = (⟨wrap64 (seq + x0), ⟨thread, x1, x2, x3, x4, l5, l6⟩⟩, t6.at_, 0) := by
        unfold getRec rdAll
        simp only [hp0, hp1, hp2, hp3, hp4, hp5, hp6]
        rw [if_pos he]
      refine bodyPost_ret (v := .tuple #[.agg #[.int .i64 (wrap64 (seq + x0)), .int .i64 thread, .int .i64 x1, .int .i64 x2, .int .i64 x3, .int .i64 x4, .slice Ad l5.length cd, .slice Af l6.length cf], .int .i64 (t6.at_ : Int), .int .i64 0]) (by simp [results, Tryz.results71, go_sem, d0, d1, d2, d3, d4, d5, d6, d7]) rfl ⟨_, .slice Ad l5.length cd, .slice Af l6.length cf, rfl, ?_, ?_, ?_, t2⟩
      · rw [hg]
      · rw [hg]; exact HOD9
      · rw [hg]; exact HOF9
  · have hb : (t6.err != 0) = true := by rw [bne_iff_ne]; exact he
    clear hW8
    go_wp2_with fail
    rw [show w7.setCell ⟨w1.heap.size, 7, none⟩ (.slice Af l6.length cf) = W8 from HW8.out.symm]
    clear z0 k0 e1 e2
    go_region
    all_goals (go_wp2_with fail)
    all_goals
      obtain ⟨s1, s2, s3⟩ := stores8 HJ8.out.res HJ8.out.grown (Nat.le_refl _) (.int .i64 0) (.int .i64 0) (.int .i64 0) (.int .i64 0) (.int .i64 0) (.int .i64 0) (.slice none 0 0) (.slice none 0 0)
      obtain ⟨W9, hW9⟩ : ∃ W9, W9 = ((((((((W8.setCell ⟨w.heap.size, 0, none⟩ (.int .i64 0)).setCell ⟨w.heap.size, 1, none⟩ (.int .i64 0)).setCell ⟨w.heap.size, 2, none⟩ (.int .i64 0)).setCell ⟨w.heap.size, 3, none⟩ (.int .i64 0)).setCell ⟨w.heap.size, 4, none⟩ (.int .i64 0)).setCell ⟨w.heap.size, 5, none⟩ (.int .i64 0)).setCell ⟨w.heap.size, 6, none⟩ (.slice none 0 0)).setCell ⟨w.heap.size, 7, none⟩ (.slice none 0 0)).drew := ⟨_, rfl⟩
      rw [show ((((((((W8.setCell ⟨w.heap.size, 0, none⟩ (.int .i64 0)).setCell ⟨w.heap.size, 1, none⟩ (.int .i64 0)).setCell ⟨w.heap.size, 2, none⟩ (.int .i64 0)).setCell ⟨w.heap.size, 3, none⟩ (.int .i64 0)).setCell ⟨w.heap.size, 4, none⟩ (.int .i64 0)).setCell ⟨w.heap.size, 5, none⟩ (.int .i64 0)).setCell ⟨w.heap.size, 6, none⟩ (.slice none 0 0)).setCell ⟨w.heap.size, 7, none⟩ (.slice none 0 0)).drew = W9 from hW9.symm]
      have t1 : Held W9 w.heap.size 71 #[(.int .i64 0), (.int .i64 0), (.int .i64 0), (.int .i64 0), (.int .i64 0), (.int .i64 0), (.slice none 0 0), (.slice none 0 0)] := by rw [hW9]; exact s1.drew
      have t2 : w.grownBy W9 none := by rw [hW9]; exact grown_toDrew s2
      have t3 : W8.grownBy W9 (some w.heap.size) := by rw [hW9]; exact grown_toDrew s3
      clear hW9 s1 s2 s3
      have d0 : W9.cell? ⟨w.heap.size, 0, none⟩ = some (.int .i64 0) := t1.cell 0
      have d1 : W9.cell? ⟨w.heap.size, 1, none⟩ = some (.int .i64 0) := t1.cell 1
      have d2 : W9.cell? ⟨w.heap.size, 2, none⟩ = some (.int .i64 0) := t1.cell 2
      have d3 : W9.cell? ⟨w.heap.size, 3, none⟩ = some (.int .i64 0) := t1.cell 3
      have d4 : W9.cell? ⟨w.heap.size, 4, none⟩ = some (.int .i64 0) := t1.cell 4
      have d5 : W9.cell? ⟨w.heap.size, 5, none⟩ = some (.int .i64 0) := t1.cell 5
      have d6 : W9.cell? ⟨w.heap.size, 6, none⟩ = some (.slice none 0 0) := t1.cell 6
      have d7 : W9.cell? ⟨w.heap.size, 7, none⟩ = some (.slice none 0 0) := t1.cell 7
      have hg : getRec xs thread seq = (zeroRec, 0, t6.err) := by
        unfold getRec rdAll
        simp only [hp0, hp1, hp2, hp3, hp4, hp5, hp6]
        rw [if_neg he]
      refine bodyPost_ret (v := .tuple #[.agg #[.int .i64 0, .int .i64 0, .int .i64 0, .int .i64 0, .int .i64 0, .int .i64 0, .slice none 0 0, .slice none 0 0], .int .i64 0, .int .i64 t6.err]) (by simp [results, Tryz.results71, go_sem, d0, d1, d2, d3, d4, d5, d6, d7]) rfl ⟨_, .slice none 0 0, .slice none 0 0, rfl, ?_, ?_, ?_, t2⟩
      · rw [hg]; rfl
      · rw [hg]; exact World.ownsRow_nil _ _ _ _
      · rw [hg]; exact World.ownsRow_nil _ _ _ _
end Go.Proofs.YtaiaoiochbpmfaaGreat
namespace Go.Proofs.YtaiaoiochbpmfaaGreat
open Go Go.RowKit Iv
set_option linter.unusedVariables false
theorem readR_parts (A : Option Addr) (n c B : Nat) (xs : Bytes) (thread seq : Int) (w : World) (h : Lies w B 1 A n (xs.map bv)) (hB : B ≤ w.heap.size) (hnc : n ≤ c) (ho : A = none → c = 0) (hn : n ≤ 1000000000) {r : Rec} {k : Nat} {er : Int} (hg : getRec xs thread seq = (r, k, er)) :
    Calls Tryz.prog 71 #[.slice A n c, .int .i64 thread, .int .i64 seq] w fun e w' => ∃ (Ad : Option Addr) (cd : Nat) (Af : Option Addr) (cf : Nat),
      e = .returned (.tuple #[.agg (recV r Ad r.ev.deps.length cd Af r.ev.from_.length cf), .int .i64 (k : Int), .int .i64 er]) ∧
      w'.ownsRow w.heap.size 3 1 (.slice Ad r.ev.deps.length cd) r.ev.deps.length (r.ev.deps.map iv) ∧ w'.ownsRow w.heap.size 3 1 (.slice Af r.ev.from_.length cf) r.ev.from_.length (r.ev.from_.map iv) ∧ w.grownBy w' none := by
  refine (readR_any A n c B xs thread seq w h hB hnc ho hn).mono ?_
  rintro e w' ⟨r', vd, vf, hr, he, hd, hf, hgr⟩
  rw [hg] at hr he
  subst hr
  obtain ⟨Ad, cd, hvd, _⟩ := own_slice hd
  obtain ⟨Af, cf, hvf, _⟩ := own_slice hf
  subst hvd hvf
  exact ⟨Ad, cd, Af, cf, he, hd, hf, hgr⟩
end Go.Proofs.YtaiaoiochbpmfaaGreat
namespace Go.Proofs.YtaiaoiochbpmfaaGreat
open Go Go.RowKit Iv
set_option linter.unusedVariables false
set_option maxRecDepth 100000 in
set_option maxHeartbeats 3200000 in
theorem unpackR_any (A : Option Addr) (n c B : Nat) (xs : Bytes) (most : Int) (w : World) (hLie : Lies w B 1 A n (xs.map bv)) (hB : B ≤ w.heap.size) (hnc : n ≤ c) (hn : n ≤ 1000000000) (hmost : inI64 most) (base : Nat) (hbase : base ≤ w.heap.size) :
    Calls Tryz.prog 54 #[.slice A n c, .int .i64 most] w fun e w' => ∃ v', e = .returned (.tuple #[v', .int .i64 (unpack xs most).2]) ∧ w'.ownsRow base 5 1 v' (unpack xs most).1.length ((unpack xs most).1.map bv) ∧ w.grownBy w' none ∧ At w none v'.ownBlock := by
  have HL := Lib.hid hLie.lenB
  obtain ⟨hm1, hm2⟩ := hmost
  obtain ⟨i0, hi, hz0, hz1, hz2⟩ := info_parts info_u8
  have HI := Lib.hid hi
  have HZ0 := Lib.hid hz0
  have HZ1 := Lib.hid hz1
  have HZ2 := Lib.hid hz2
  clear hi hz0 hz1 hz2
  have hz : (0 : Nat) < 1 := by omega
  go_enter Tryz.func54, Tryz.ntmps54
  go_wp2_with fail
  go_loopw [6, 7, 8, 9, 10] (fun v iv _ _ _ wr => ∃ (k : Nat) (ys : Bytes) (vv : Value), vv = v ∧ iv = .int .i64 (k : Int) ∧ k ≤ n ∧ UnAt 5 w base most xs k ys vv wr) (fun _ iv _ _ _ _ => n - (intOf iv).toNat)
  case atStart => exact ⟨0, [], _, rfl, rfl, Nat.zero_le _, UnAt.start _ _ _ _ _⟩
  case round =>
    obtain ⟨k, ys, vv, rfl, rfl, hkn, hU⟩ := hrel
    have hyl : ys.length ≤ 130 * k := hU.len
    have LB := hLie.grown hU.grown hB (fun g hg => nomatch hg)
    obtain ⟨Av, cv, hvv, _⟩ := own_slice hU.own
    subst hvv
    have hm3 : -9223372036854775808 ≤ most - (ys.length : Int) := by
      rcases hU.room with h | h
      · have h0 : ys.length = 0 := by rw [h]; rfl
        omega
      · omega
    have HU := Lib.hid hU
    have hbw : base ≤ wr.heap.size := Nat.le_trans hbase hU.grown.size
    clear hU
    by_cases hlt : k < n
    · obtain ⟨ad, x, hA, _, hx, hcx⟩ := LB.byte hlt
      subst hA
      have hx8 := byte_lt x
      have HX := Lib.hid hx
      clear hx
      by_cases h7 : x.toNat < 128
      · have HF := HU.out.lit HX.out h7
        rw [HL.out] at HF
        by_cases h1 : n - (k + 1) < x.toNat + 1
        · rw [if_pos h1] at HF
          have HFF := Lib.hid HF
          clear HF
          go_wp2_with fail
          go_ret2
          rw [HFF.out]
          exact ⟨_, rfl, World.ownsRow_nil _ _ _ _, HU.out.grown, .inl rfl⟩
        · rw [if_neg h1] at HF
          by_cases h2 : most < (ys.length : Int) + x.toNat + 1
          · rw [if_pos h2] at HF
            have HFF := Lib.hid HF
            clear HF
            go_wp2_with fail
            go_ret2
            rw [HFF.out]
            exact ⟨_, rfl, World.ownsRow_nil _ _ _ _, HU.out.grown, .inl rfl⟩
          · have hcut : Lies wr B 1 (some ⟨ad.block, ad.off + (k + 1), none⟩) (k + x.toNat + 2 - (k + 1)) (((xs.drop (k + 1)).take (x.toNat + 1)).map bv) := by
              have h1 := (LB.drop (k := k + 1) (by omega)).take (m := x.toNat + 1) (by omega)
              simp only [Nat.mul_one] at h1
              rw [← List.map_drop, ← List.map_take] at h1
              rw [show k + x.toNat + 2 - (k + 1) = x.toNat + 1 from by omega]
              rw [show (⟨ad.block, ad.off + (k + 1), none⟩ : Addr) = ad.add (k + 1) from by simp [Addr.add]]
              exact h1
            have HCUT := Lib.hid hcut
            have hnc2 : ¬ c = k + 1 := by omega
            clear HF hcut
            go_wp2_with (at_builtin; refine wpList_join _ rfl (.tmp 37) (.tmp 45) _ rfl base 5 i0 (.int .u8 0) 1 1 Tryz.underlying22 HI.out HZ0.out HZ1.out HZ2.out rfl hz _ ys.length (ys.map bv) rfl HU.out.own B (some ⟨ad.block, ad.off + (k + 1), none⟩) (k + x.toNat + 2 - (k + 1)) (c - (k + 1)) _ rfl HCUT.out (fun e => nomatch e) (bv_one _) (by unfold maxLen; omega) (by omega) hbw ?_; intro v2 w2 hown2 hg2 hat2)
            rw [show k + x.toNat + 2 - (k + 1) = x.toNat + 1 from by omega] at hown2
            have HN := Lib.hid (HU.out.litNext HX.out h7 (by rw [HL.out]; omega) (by omega) hown2 hg2 hat2)
            clear hown2 hg2 hat2
            go_roundw
            case rel => exact ⟨k + x.toNat + 2, _, _, rfl, by go_num, by omega, HN.out⟩
            case measure => simp [intOf]; omega
      · have h7' : 128 ≤ x.toNat := by omega
        by_cases h1 : n ≤ k + 1
        · have HF := Lib.hid (HU.out.one HX.out h7' (by rw [HL.out]; exact h1))
          go_wp2_with fail
          go_ret2
          rw [HF.out]
          exact ⟨_, rfl, World.ownsRow_nil _ _ _ _, HU.out.grown, .inl rfl⟩
        · obtain ⟨ad', d, hA', _, hd, hcd⟩ := LB.byte (show k + 1 < n by omega)
          obtain rfl : ad = ad' := by injection hA'
          have hd8 := byte_lt d
          rw [show ad.add (k + 1) = (⟨ad.block, ad.off + (k + 1), none⟩ : Addr) from by simp [Addr.add]] at hcd
          have HD := Lib.hid hd
          have HF := HU.out.copy HX.out h7' hd
          clear hd hA'
          by_cases h0 : d.toNat = 0 ∨ ys.length < d.toNat
          · rw [if_pos h0] at HF
            have HFF := Lib.hid HF
            clear HF
            by_cases h00 : d.toNat = 0
            · have hbe : (((d.toNat : Nat) : Int) == 0) = true := by rw [beq_iff_eq]; omega
              clear h00 h0
              go_wp2_with fail
              go_ret2
              rw [HFF.out]
              exact ⟨_, rfl, World.ownsRow_nil _ _ _ _, HU.out.grown, .inl rfl⟩
            · have hbe : (((d.toNat : Nat) : Int) == 0) = false := by rw [beq_eq_false_iff_ne]; omega
              have h01 : (ys.length : Int) < (d.toNat : Int) := by omega
              clear h00 h0
              go_wp2_with fail
              go_ret2
              rw [HFF.out]
              exact ⟨_, rfl, World.ownsRow_nil _ _ _ _, HU.out.grown, .inl rfl⟩
          · rw [if_neg h0] at HF
            have hbe : (((d.toNat : Nat) : Int) == 0) = false := by rw [beq_eq_false_iff_ne]; omega
            have h01 : (d.toNat : Int) ≤ (ys.length : Int) := by omega
            have h02 : 1 ≤ d.toNat := by omega
            have H0 := Lib.hid h0
            clear h0
            by_cases h2 : most < (ys.length : Int) + x.toNat - 125
            · rw [if_pos h2] at HF
              have HFF := Lib.hid HF
              clear HF
              go_wp2_with fail
              go_ret2
              rw [HFF.out]
              exact ⟨_, rfl, World.ownsRow_nil _ _ _ _, HU.out.grown, .inl rfl⟩
            · clear HF
              obtain ⟨N, hN⟩ : ∃ N, N = x.toNat - 125 := ⟨_, rfl⟩
              have HNN := Lib.hid hN
              have hN1 : (N : Int) = (x.toNat : Int) - 125 := by omega
              have HN1 := Lib.hid hN1
              have hN2 : N ≤ 130 := by omega
              clear hN hN1
              go_wp2_with fail
              go_loopw [6, 10] (fun v jv wr => ∃ (j : Nat) (zs : Bytes) (v2 : Value), v2 = v ∧ jv = .int .i64 (j : Int) ∧ CpAt 5 w base ys d.toNat N j zs v2 wr) (fun _ jv _ => N - (intOf jv).toNat)
              case atStart => exact ⟨0, ys, _, rfl, rfl, ⟨HU.out.own, HU.out.grown, HU.out.at_, by simp, Nat.zero_le _, rfl⟩⟩
              case round =>
                obtain ⟨j, zs, v2, rfl, rfl, hC⟩ := hrel
                have hjN := hC.le
                have hz1 : zs.length ≤ ys.length + 130 := by have := hC.len; omega
                have hz2 : ys.length ≤ zs.length := by have := hC.len; omega
                have hz3 : (d.toNat : Int) ≤ (zs.length : Int) := by omega
                by_cases hj : j < N
                · obtain ⟨y, hy⟩ := hC.get h02 (by omega)
                  obtain ⟨A2, c2, hv2, _, _, hl2, _⟩ := own_slice hC.own
                  obtain ⟨ad2, y', hA2, _, hy', hcy⟩ := hl2.byte (show zs.length - d.toNat < zs.length by omega)
                  obtain rfl : y = y' := by rw [hy] at hy'; injection hy'
                  subst hv2 hA2
                  have HY := Lib.hid hy
                  have HC := Lib.hid hC
                  have hjx : (j : Int) < (x.toNat : Int) - 125 := by have := HN1.out; omega
                  have hbz : base ≤ wr.heap.size := Nat.le_trans hbase hC.grown.size
                  clear hy hy' hC hl2
                  go_wp2_with (at_builtin; refine wpList_app _ rfl (.tmp 83) (.tmp 91) _ rfl base 5 i0 (.int .u8 0) 1 1 Tryz.underlying22 HI.out HZ0.out HZ1.out HZ2.out rfl hz _ (Value.slice (some ad2) zs.length c2).ownBlock zs.length (zs.map bv) rfl (App.own (HC.out.own.alloc _)) ⟨wr.heap.size, 0, none⟩ 1 1 [.int .u8 (y.toNat : Int)] rfl hz rfl (cell_new1 _ _ _) (one1 rfl) (by unfold maxLen; omega) (by omega) (by simp; omega) ?_; intro v3 w3 hown3 hg3 hat3)
                  have hg3' := grown_alloc hg3
                  have hat3' := hat3.alloc
                  have HCN := Lib.hid (HC.out.next hj HY.out hown3 hg3' hat3')
                  clear hown3 hg3 hat3 hg3' hat3'
                  go_roundw
                  case rel => exact ⟨j + 1, _, _, rfl, by go_num, HCN.out⟩
                  case measure => simp [intOf]; omega
                · have HZ := Lib.hid (hC.done (by omega))
                  have hjx : ¬ (j : Int) < (x.toNat : Int) - 125 := by have := HN1.out; omega
                  have HC := Lib.hid hC
                  clear hC
                  have HU2 := Lib.hid (HU.out.copyNext HX.out h7' HD.out H0.out (by omega) (by rw [HZ.out, HNN.out]) HC.out.own HC.out.grown HC.out.at_)
                  go_wp2_with fail
                  go_roundw
                  case rel => exact ⟨k + 2, _, _, rfl, by go_num, by omega, HU2.out⟩
                  case measure => simp [intOf]; omega
    · have HF := Lib.hid (HU.out.done (by rw [HL.out]; omega))
      go_wp2_with fail
      go_ret2
      rw [HF.out]
      exact ⟨_, rfl, HU.out.own, HU.out.grown, HU.out.at_⟩
end Go.Proofs.YtaiaoiochbpmfaaGreat
namespace Go.Proofs.YtaiaoiochbpmfaaGreat
open Go Go.RowKit Iv
set_option linter.unusedVariables false
set_option maxRecDepth 100000 in
set_option maxHeartbeats 3200000 in
theorem recordsR_any (A : Option Addr) (n c : Nat) (ps : Bytes) (N : Nat) (thread : Int) (w : World) (h : Lies w w.heap.size 1 A n (ps.map bv)) (hnc : n ≤ c) (ho : A = none → c = 0) (hn : n ≤ 260000000) (hN : N ≤ 1000000) (ht : inI64 thread) :
    Calls Tryz.prog 55 #[.slice A n c, .int .i64 thread, .int .i64 (N : Int)] w (RecsOut w (allRecs thread N ps)) := by
  have HT := Lib.hid ht
  have HL1 := Lib.hid h
  have HO1 := Lib.hid ho
  obtain ⟨i0, hi, hz0, hz1, hz2⟩ := info_parts info_rec
  have HI := Lib.hid hi
  have HZ0 := Lib.hid hz0
  have HZ1 := Lib.hid hz1
  have HZ2 := Lib.hid hz2
  have hz : (0 : Nat) < 8 := by omega
  clear hi hz0 hz1 hz2 h ht ho
  go_enter Tryz.func55, Tryz.ntmps55
  go_wp2_with fail
  go_loopw [0, 8, 9, 10] (fun pv lv sv iv wr => ∃ (k : Nat) (seq : Int) (ps' : Bytes) (Ap : Option Addr) (np cp : Nat) (rs : List Rec) (css : List Value) (vv : Value), vv = lv ∧ iv = .int .i64 (k : Int) ∧ k ≤ N ∧ sv = .int .i64 seq ∧ pv = .slice Ap np cp ∧ np ≤ cp ∧ (Ap = none → cp = 0) ∧ np ≤ 260000000 ∧
      Lies wr w.heap.size 1 Ap np (ps'.map bv) ∧ wr.ownsRow w.heap.size 71 8 vv rs.length css ∧ RowsAt wr w.heap.size vv.ownBlock css rs ∧ rs.length = k ∧ w.grownBy wr none ∧ At w none vv.ownBlock ∧ finRecs rs (getRecs thread (N - k) seq ps') = allRecs thread N ps) (fun _ _ _ iv _ => N - (intOf iv).toNat)
  case atStart => exact ⟨0, -1, ps, A, n, c, [], [], _, rfl, rfl, Nat.zero_le _, rfl, rfl, hnc, HO1.out, by omega, HL1.out, World.ownsRow_nil _ _ _ _, RowsAt.nil _ _ _, rfl, World.grownBy.refl w none, .inl rfl, rfl⟩
  case round =>
    obtain ⟨k, seq, ps', Ap, np, cp, rs, css, vv, rfl, rfl, hk, rfl, rfl, hnp, hop, hnb, hlp, hown, hrow, hrl, hg, hat, hfin⟩ := hrel
    have HFIN := Lib.hid hfin
    have HOP := Lib.hid hop
    have HLP := Lib.hid hlp
    have HRL := Lib.hid hrl
    have HLB := Lib.hid hlp.lenB
    have HG := Lib.hid hg
    clear hfin hop hrl
    by_cases hlt : k < N
    · obtain ⟨r, kk, er, hgr⟩ : ∃ r kk er, getRec ps' thread seq = (r, kk, er) := ⟨_, _, _, rfl⟩
      have CR := Lib.hid (readR_parts Ap np cp w.heap.size ps' thread seq wr HLP.out hg.size hnp HOP.out (by omega) hgr)
      unfold recV at CR
      have HGR := Lib.hid hgr
      have HSUB : Hid (N - k = (N - (k + 1)) + 1) := Lib.hid (by omega)
      by_cases her : er = 0
      · subst her
        have ho := getRec_once HT.out hgr
        have hkk : kk ≤ np := by rw [← HLB.out]; exact ho.2.2.2.2.1
        have HFN := Lib.hid (show finRecs (rs ++ [r]) (getRecs thread (N - (k + 1)) r.seq (ps'.drop kk)) = allRecs thread N ps from by rw [← HFIN.out, HSUB.out, fin_step rs HGR.out])
        obtain ⟨A', hA'⟩ : ∃ A', (if cp = kk then Ap else Ap.map fun x => x.add kk) = A' := ⟨_, rfl⟩
        have hcut : Lies wr w.heap.size 1 A' (np - kk) ((ps'.drop kk).map bv) := by
          have := hlp.dropIf hkk hnp
          rw [Nat.mul_one, ← List.map_drop, hA'] at this
          exact this
        have hA'0 : A' = none → cp - kk = 0 := by
          intro e0
          rw [← hA'] at e0
          split at e0
          · omega
          · simp only [Option.map_eq_none_iff] at e0
            have := HOP.out e0
            omega
        obtain ⟨Av, cv, hvv, hvn, hvm, _, hvo⟩ := own_slice hown
        have hlt0 : ∀ g, vv.ownBlock = some g → g < wr.heap.size := fun g e => (hown.lt g e).2
        have hw1r : w.heap.size ≤ wr.heap.size := hg.size
        have HCUT := Lib.hid hcut
        have HA0 := Lib.hid hA'0
        have HOWN := Lib.hid hown
        have HROW := Lib.hid hrow
        have HLT0 := Lib.hid hlt0
        have HVO := Lib.hid hvo
        have k1 : (0 : Int) ≤ (kk : Int) := by omega
        have k2 : (kk : Int) ≤ (np : Int) := by omega
        have k3 : (kk : Int) ≤ (cp : Int) := by omega
        clear ho hgr hlp hown hrow hcut hA'0 hlt0 hvo
        subst hvv
        go_upto_region 6 with fail
        go_wp2_with fail
        refine CR.out.mono ?_
        rintro e w2 ⟨Ad, cd, Af, cf, rfl, hd2, hf2, hg2⟩
        obtain ⟨W2, hW2⟩ : ∃ W2, W2 = w2.alloc (.cells #[.int .i64 r.seq, .int .i64 r.ev.thread, .int .i64 r.ev.kind, .int .i64 r.ev.obj, .int .i64 r.ev.value, .int .i64 r.ev.site, .slice Ad r.ev.deps.length cd, .slice Af r.ev.from_.length cf] 71) := ⟨_, rfl⟩
        have hg12 : w2.grownBy W2 none := by rw [hW2]; exact World.grownBy_alloc w2 _ none
        have hb2 : Held W2 w2.heap.size 71 (recV r Ad r.ev.deps.length cd Af r.ev.from_.length cf) := by rw [hW2]; exact Held.new _ _ _
        have hgr2 := grownBy_trans hg2 hg12 (.inl rfl)
        have HB2 := Lib.hid hb2
        have HW2 := Lib.hid hW2
        have HOW2 := Lib.hid (own_keep HOWN.out hgr2 (fun _ _ e => nomatch e))
        have HRO2 := Lib.hid (HROW.out.keep hgr2)
        have HOD := Lib.hid (Off.ofOwn hd2 HLT0.out)
        have HLOD := Lib.hid (Lo.ofOwn hd2 hw1r)
        have HLOF := Lib.hid (Lo.ofOwn hf2 hw1r)
        have HOF := Lib.hid (Off.ofOwn hf2 HLT0.out)
        have HLD := Lib.hid (((Lies.ofOwn hd2).grown hg12 (Nat.le_refl _) (fun _ e => nomatch e)).more hg12.size)
        have HLF := Lib.hid (((Lies.ofOwn hf2).grown hg12 (Nat.le_refl _) (fun _ e => nomatch e)).more hg12.size)
        have HGR2 := Lib.hid hgr2
        have hsz : wr.heap.size ≤ w2.heap.size := hg2.size
        have hsz2 : w.heap.size ≤ W2.heap.size := Nat.le_trans hw1r hgr2.size
        have HSZ := Lib.hid hb2.lt
        clear hW2 hb2 hd2 hf2 hg12 hgr2
        go_upto_region 7 with fail
        rw [show w2.alloc (.cells #[.int .i64 r.seq, .int .i64 r.ev.thread, .int .i64 r.ev.kind, .int .i64 r.ev.obj, .int .i64 r.ev.value, .int .i64 r.ev.site, .slice Ad r.ev.deps.length cd, .slice Af r.ev.from_.length cf] 71) = W2 from HW2.out.symm]
        obtain ⟨d0, d1, d2, d3, d4, d5, d6, d7⟩ := cells8 HB2.out
        go_wp2_with (at_builtin; refine wpList_app _ rfl (.tmp 31) (.tmp 33) _ rfl w.heap.size 71 i0 _ 8 96 Tryz.underlying51 HI.out HZ0.out HZ1.out HZ2.out rfl hz _ (Value.slice Av rs.length cv).ownBlock rs.length css rfl (App.own (HOW2.out.alloc _)) ⟨W2.heap.size, 0, none⟩ 1 1 (recV r Ad r.ev.deps.length cd Af r.ev.from_.length cf).toList rfl (by omega) rfl (recV_new W2 _ r Ad _ cd Af _ cf) (recV_one _ _ _ _ _ _ _) (by unfold maxLen; have := HRL.out; omega) (by have := HRL.out; omega) (by simp; omega) ?_; intro v4 w4 hown4 hg4 hat4; obtain ⟨A4, c4, hv4, hvn4, hvm4, _, hvo4⟩ := own_slice hown4; have hd0 : w4.cell? ⟨w2.heap.size, 0, none⟩ = some (.int .i64 r.seq) := (((HB2.out.alloc _).grown hg4 (fun e => by have := HLT0.out _ e.symm; omega)).cell 0); subst hv4)
        have hg14 : wr.grownBy w4 (Value.slice Av rs.length cv).ownBlock := grownBy_trans (grownBy_trans (grown_anyRow HGR2.out _) (World.grownBy_alloc W2 _ _) (.inl rfl)) hg4 (.inl rfl)
        have hat14 : At wr (Value.slice Av rs.length cv).ownBlock (Value.slice A4 (rs.length + 1) c4).ownBlock := (At.refl wr _).trans hat4 (by have := HGR2.out.size; simp; omega)
        have hRO4 := ((RowsAt.snoc (cd := cd) (cf := cf) (HRO2.out.keep (World.grownBy_alloc W2 (.cells (recV r Ad r.ev.deps.length cd Af r.ev.from_.length cf) 71) none)) ((HLD.out.allocAny _).more (World.grownBy_alloc W2 _ none).size) ((HLF.out.allocAny _).more (World.grownBy_alloc W2 _ none).size) HOD.out HOF.out HLOD.out HLOF.out)).grow hg4 hat4
        have HRO4 := Lib.hid hRO4
        have HOW4 := Lib.hid hown4
        have HLP4 := Lib.hid (HCUT.out.grown hg14 hw1r (fun g e => (HOWN.out.lt g e).1))
        have HG4 := Lib.hid (grownBy_trans hg hg14 hat)
        have HAT4 := Lib.hid (hat.trans hat14 hg.size)
        clear hown4 hRO4 hg14 hat14 hg4 hat4
        go_roundw
        case rel => exact ⟨k + 1, r.seq, ps'.drop kk, A', np - kk, cp - kk, rs ++ [r], _, _, rfl, by go_num, by omega, rfl, rfl, by omega, HA0.out, by omega, HLP4.out, by rw [List.length_append]; exact HOW4.out, HRO4.out, by rw [List.length_append, HRL.out]; rfl, HG4.out, HAT4.out, HFN.out⟩
        case measure => simp [intOf]; omega
      · have HNONE := Lib.hid (show allRecs thread N ps = none from by rw [← HFIN.out, HSUB.out, fin_bad rs (by rw [HGR.out]; exact her)])
        have hbe : (er != 0) = true := by rw [bne_iff_ne]; exact her
        clear her hgr hown hrow hlp
        go_wp2_with fail
        refine CR.out.mono ?_
        rintro e w2 ⟨Ad, cd, Af, cf, rfl, hd2, hf2, hg2⟩
        clear hd2 hf2
        go_wp2_with fail
        go_ret2
        exact recsOut_bad HNONE.out (grownBy_trans (grownBy_trans HG.out hg2 (.inl rfl)) (World.grownBy_alloc w2 _ none) (.inl rfl))
    · have hkN : k = N := by omega
      have HKN := Lib.hid hkN
      have HEND := Lib.hid (show allRecs thread N ps = if np = 0 then some rs else none from by rw [← HFIN.out, HKN.out, Nat.sub_self, fin_end, HLB.out])
      have HRR := Lib.hid hrow
      have HOW := Lib.hid hown
      clear hkN hlp hrow
      obtain ⟨A5, c5, hv5, hnc5, hcm5, hl5, ho5⟩ := own_slice hown
      subst hv5
      clear hown hl5
      go_wp2_with fail
      go_ret2
      refine ⟨A5, rs.length, c5, rs, ((np : Int) == 0), rfl, HRR.out.recs HOW.out rfl (Nat.le_refl _), HG.out, hnc5, hcm5, ho5, ?_⟩
      rw [HEND.out]
      by_cases h0 : np = 0 <;> simp [h0]
end Go.Proofs.YtaiaoiochbpmfaaGreat
namespace Go.Proofs.YtaiaoiochbpmfaaGreat
open Go Go.RowKit Iv
theorem encode_len {x : Blk} (hin : ∀ r ∈ x.recs, RecNums r) : (encode x).1.length ≤ 1000000000000 := by
  by_cases hf : fits x = 0
  · rw [encode_good hf]
    obtain ⟨z0, z1, z2, z3, z4, z5, z6⟩ := fits_zero hf
    have hpl := putRecs_len x.recs (-1) (recOk_of z6 hin)
    have hq := pack_bounded (putRecs (-1) x.recs)
    have q1 := putI_len (n := x.first) ⟨by omega, by omega⟩
    have q2 := putI_len (n := (x.recs.length : Int)) ⟨by omega, by omega⟩
    have q3 := putI_len (n := ((putRecs (-1) x.recs).length : Int)) ⟨by omega, by omega⟩
    have q4 := putI_len (n := ((pack (putRecs (-1) x.recs)).length : Int)) ⟨by omega, by omega⟩
    unfold blkBytes blkBody headBytes
    simp only [List.length_append, List.length_cons, sum4_len]
    omega
  · unfold encode
    rw [if_neg hf]
    simp
end Go.Proofs.YtaiaoiochbpmfaaGreat
namespace Go.Proofs.YtaiaoiochbpmfaaGreat
open Go Go.RowKit Iv
set_option linter.unusedVariables false
theorem decodeR_head {b : Bytes} {x t : UInt8} {u : Bytes} (hb : b = x :: t :: u) (hx : x.toNat = 84) (he : (hs b 4).err ≠ 0) : decodeR b = (zeroBlk, 0, (hs b 4).err) := by
  rw [← decode_same]; exact decode_head hb hx he
theorem decodeR_rest {b : Bytes} {x t : UInt8} {u : Bytes} (hb : b = x :: t :: u) (hx : x.toNat = 84) (he : (hs b 4).err = 0) : decodeR b =
    if headBad t (getHead b) then (zeroBlk, 0, 11)
    else if b.length < (hs b 4).at_ + (hn b 3).toNat + 4 then (zeroBlk, 0, 9)
    else if (b.drop ((hs b 4).at_ + (hn b 3).toNat)).take 4 ≠ sum4 (crc (b.take ((hs b 4).at_ + (hn b 3).toNat))) then (zeroBlk, 0, 10)
    else tailR b t (hn b 0) (hn b 1).toNat (hn b 2) (hs b 4).at_ ((hs b 4).at_ + (hn b 3).toNat) := by
  subst hb
  unfold decodeR decodeBy
  simp only [hx, ne_eq, not_true_eq_false, if_false]
  rw [if_neg (by rw [head_hs]; simpa using he)]
  rfl
theorem tailR_bad {b : Bytes} {t : UInt8} {first : Int} {n : Nat} {size : Int} {from_ end_ : Nat} (h : (unpack ((b.take end_).drop from_) size).2 ≠ 0 ∨ allRecs t.toNat n (unpack ((b.take end_).drop from_) size).1 = none) : tailR b t first n size from_ end_ = (zeroBlk, 0, 11) := by
  unfold tailR
  dsimp only
  split
  · rename_i hc
    rcases h with h | h
    · exact absurd hc h
    · unfold allRecs finRecs at h
      split at h
      · cases h
      · rename_i hx
        split
        · rename_i l he
          exact absurd he (hx l)
        · rfl
  · rfl
theorem tailR_some {b : Bytes} {t : UInt8} {first : Int} {n : Nat} {size : Int} {from_ end_ : Nat} {l : List Rec} (h0 : (unpack ((b.take end_).drop from_) size).2 = 0) (h : allRecs t.toNat n (unpack ((b.take end_).drop from_) size).1 = some l) :
    tailR b t first n size from_ end_ = (if encode ⟨t.toNat, first, l⟩ = (b.take (end_ + 4), 0) then (⟨t.toNat, first, l⟩, end_ + 4, 0) else (zeroBlk, 0, 11)) ∧ l.length = n ∧ ∀ r ∈ l, RecOk r := by
  unfold allRecs finRecs at h
  split at h
  · rename_i l' he
    simp only [List.nil_append, Option.some.injEq] at h
    subst h
    have ho := getRecs_once (t.toNat : Int) ⟨by omega, by have := byte_lt t; omega⟩ n (-1) _ _ _ he
    refine ⟨?_, ho.1, fun r hr => (ho.2.2 r hr).1⟩
    unfold tailR
    dsimp only
    rw [if_pos h0, he]
  · cases h
set_option maxRecDepth 100000 in
set_option maxHeartbeats 3200000 in
theorem decodeR_any (A : Option Addr) (n c B : Nat) (xs : Bytes) (w : World) (h : Lies w B 1 A n (xs.map bv)) (hB : B ≤ w.heap.size) (hnc : n ≤ c) (hcm : c ≤ maxLen) (ho : A = none → c = 0) (hn6 : n ≤ 1000000) :
    Calls Tryz.prog 25 #[.slice A n c] w (DecOut w (Iv.decode xs)) := by
  rw [decode_same]
  have HL := Lib.hid h.lenB
  have HO := Lib.hid ho
  unfold maxLen at hcm
  obtain ⟨W, hW⟩ : ∃ W, W = w.alloc (.cells #[.int .i64 0, .int .i64 0, .slice none 0 0] 53) := ⟨_, rfl⟩
  have hWg : w.grownBy W none := by rw [hW]; exact World.grownBy_alloc w _ none
  have hb0 : Held W w.heap.size 53 #[.int .i64 0, .int .i64 0, .slice none 0 0] := by rw [hW]; exact Held.new _ _ _
  have HW := Lib.hid hW
  have HB0 := Lib.hid hb0
  have HWG := Lib.hid hWg
  have hLW := h.grown hWg hB (fun _ e => nomatch e)
  have HBW := Lib.hid (Nat.le_trans hB hWg.size)
  have v0 := hb0.cell 0
  have v1 := hb0.cell 1
  have v2 := hb0.cell 2
  have y0 := hb0.free 0
  have y1 := hb0.free 1
  have y2 := hb0.free 2
  clear hW hb0 hWg h
  by_cases h0 : n = 0
  · have hb0 : ((n : Int) == 0) = true := by rw [beq_iff_eq]; omega
    have HF : Hid (decodeR xs = (zeroBlk, 0, 9)) := by
      have : xs = [] := List.eq_nil_of_length_eq_zero (by rw [HL.out]; exact h0)
      rw [this]
      exact Lib.hid rfl
    clear h0 ho
    go_enter Tryz.func25, Tryz.ntmps25
    go_upto_region 1 with fail
    rw [show w.alloc (.cells #[.int .i64 0, .int .i64 0, .slice none 0 0] 53) = W from HW.out.symm]
    go_wp2_with fail
    obtain ⟨s1, s2, _⟩ := stores3 HB0.out HWG.out (Nat.le_refl _) (.int .i64 0) (.int .i64 0) (.slice none 0 0)
    obtain ⟨W9, hW9⟩ : ∃ W9, W9 = ((W.setCell ⟨w.heap.size, 0, none⟩ (.int .i64 0)).setCell ⟨w.heap.size, 1, none⟩ (.int .i64 0)).setCell ⟨w.heap.size, 2, none⟩ (.slice none 0 0) := ⟨_, rfl⟩
    rw [← hW9] at s1 s2
    rw [show ((W.setCell ⟨w.heap.size, 0, none⟩ (.int .i64 0)).setCell ⟨w.heap.size, 1, none⟩ (.int .i64 0)).setCell ⟨w.heap.size, 2, none⟩ (.slice none 0 0) = W9 from hW9.symm]
    have d0 : W9.cell? ⟨w.heap.size, 0, none⟩ = some (.int .i64 0) := s1.cell 0
    have d1 : W9.cell? ⟨w.heap.size, 1, none⟩ = some (.int .i64 0) := s1.cell 1
    have d2 : W9.cell? ⟨w.heap.size, 2, none⟩ = some (.slice none 0 0) := s1.cell 2
    exact bodyPost_ret (v := .tuple #[.agg #[.int .i64 0, .int .i64 0, .slice none 0 0], .int .i64 0, .int .i64 9]) (by simp [results, Tryz.results25, go_sem, d0, d1, d2]) rfl (decOut_bad HF.out s2)
  · have hb0 : ((n : Int) == 0) = false := by rw [beq_eq_false_iff_ne]; omega
    have hnp : 0 < n := by omega
    obtain ⟨ad, x0, hA, _, hx0, hc0⟩ := hLW.byte (k := 0) (by omega)
    subst hA
    rw [show ad.add 0 = ad from by simp [Addr.add]] at hc0
    by_cases h84 : x0.toNat = 84
    · have hne : ((x0.toNat : Int) != 84) = false := by rw [bne_eq_false_iff_eq]; omega
      by_cases h2 : n < 2
      · have HF : Hid (decodeR xs = (zeroBlk, 0, 9)) := by
          have hl := HL.out
          match xs, hx0, hl with
          | [a], hx0, _ =>
            simp only [List.getElem?_cons_zero, Option.some.injEq] at hx0
            subst hx0
            exact Lib.hid (by unfold decodeR decodeBy; simp [h84])
          | _ :: _ :: _, _, hl => exfalso; simp only [List.length_cons] at hl; omega
          | [], hx0, _ => simp at hx0
        clear h0 ho h84 hx0
        go_enter Tryz.func25, Tryz.ntmps25
        go_upto_region 1 with fail
        rw [show w.alloc (.cells #[.int .i64 0, .int .i64 0, .slice none 0 0] 53) = W from HW.out.symm]
        go_wp2_with fail
        obtain ⟨s1, s2, _⟩ := stores3 HB0.out HWG.out (Nat.le_refl _) (.int .i64 0) (.int .i64 0) (.slice none 0 0)
        obtain ⟨W9, hW9⟩ : ∃ W9, W9 = ((W.setCell ⟨w.heap.size, 0, none⟩ (.int .i64 0)).setCell ⟨w.heap.size, 1, none⟩ (.int .i64 0)).setCell ⟨w.heap.size, 2, none⟩ (.slice none 0 0) := ⟨_, rfl⟩
        rw [← hW9] at s1 s2
        rw [show ((W.setCell ⟨w.heap.size, 0, none⟩ (.int .i64 0)).setCell ⟨w.heap.size, 1, none⟩ (.int .i64 0)).setCell ⟨w.heap.size, 2, none⟩ (.slice none 0 0) = W9 from hW9.symm]
        have d0 : W9.cell? ⟨w.heap.size, 0, none⟩ = some (.int .i64 0) := s1.cell 0
        have d1 : W9.cell? ⟨w.heap.size, 1, none⟩ = some (.int .i64 0) := s1.cell 1
        have d2 : W9.cell? ⟨w.heap.size, 2, none⟩ = some (.slice none 0 0) := s1.cell 2
        exact bodyPost_ret (v := .tuple #[.agg #[.int .i64 0, .int .i64 0, .slice none 0 0], .int .i64 0, .int .i64 9]) (by simp [results, Tryz.results25, go_sem, d0, d1, d2]) rfl (decOut_bad HF.out s2)
      · obtain ⟨ad', t1, hA', _, hx1, hc1⟩ := hLW.byte (k := 1) (by omega)
        simp only [Option.some.injEq] at hA'
        subst hA'
        have hxs : ∃ u, xs = x0 :: t1 :: u := by
          match xs, hx0, hx1 with
          | a :: b :: u, hx0, hx1 =>
            simp only [List.getElem?_cons_zero, List.getElem?_cons_succ, Option.some.injEq] at hx0 hx1
            subst hx0 hx1
            exact ⟨u, rfl⟩
          | [a], _, hx1 => simp at hx1
          | [], hx0, _ => simp at hx0
        obtain ⟨u, hxs⟩ := hxs
        have DH := Lib.hid (fun he => decodeR_head (b := xs) hxs h84 he)
        have DR := Lib.hid (fun he => decodeR_rest (b := xs) hxs h84 he)
        have HAT := Lib.hid (fun k => hs_at xs (by rw [HL.out]; omega) k)
        have hn2 : 2 ≤ n := by omega
        have HN2 := Lib.hid hn2
        have HLW := Lib.hid hLW
        have HC1 := Lib.hid hc1
        clear hxs h84 hx0 hx1 h0 h2 ho hLW hc1
        go_enter Tryz.func25, Tryz.ntmps25
        go_upto_region 1 with fail
        rw [show w.alloc (.cells #[.int .i64 0, .int .i64 0, .slice none 0 0] 53) = W from HW.out.symm]
        go_upto_region 8 with fail
        clear hc0
        obtain ⟨W1, hW1⟩ : ∃ W1, W1 = W.alloc (.cells (rdCells (some ad) n c ⟨2, 0⟩) 125) := ⟨_, rfl⟩
        have hg1 : W.grownBy W1 none := by rw [hW1]; exact World.grownBy_alloc W _ none
        have hb1 : Held W1 W.heap.size 125 (rdCells (some ad) n c (hs xs 0)) := by rw [hW1]; exact Held.new _ _ _
        have HG1 := Lib.hid hg1
        have HB1 := Lib.hid hb1
        have HG5 := Lib.hid HB0.out.lt
        have HW1 := Lib.hid hW1
        have CN := Lib.hid (fun (k : Nat) (W' : World) (hh : Held W' W.heap.size 125 (rdCells (some ad) n c (hs xs k))) (hg : W.grownBy W' none) =>
          numberR_any W.heap.size (some ad) n c B xs (hs xs k) W' hh (HLW.out.grown hg HBW.out (fun _ e => nomatch e)) hnc HO.out (by omega) (by have := HAT.out k; rw [HL.out] at this; exact this))
        clear hW1 hg1 hb1 v0 v1 v2 y0 y1 y2
        go_wp2_with fail
        unfold rdCells at HW1
        dsimp only at HW1
        rw [show W.alloc (.cells #[.slice (some ad) n c, .int .i64 2, .int .i64 0] 125) = W1 from HW1.out.symm]
        refine (CN.out 0 W1 HB1.out HG1.out).mono ?_
        rintro e w2 ⟨rfl, h2, g2⟩
        have HB2 : Hid (Held w2 W.heap.size 125 (rdCells (some ad) n c (hs xs 1))) := Lib.hid h2
        have HG2 := Lib.hid (grownBy_trans HG1.out g2 (.inr ⟨_, rfl, Nat.le_refl _⟩))
        obtain ⟨f0, hf0⟩ : ∃ f, f = (rdNum xs (hs xs 0)).1 := ⟨_, rfl⟩
        rw [← hf0]
        have HF0 : Hid (f0 = hn xs 0) := Lib.hid hf0
        clear h2 g2 hf0
        go_wp2_with fail
        refine (CN.out 1 w2 HB2.out HG2.out).mono ?_
        rintro e w3 ⟨rfl, h2, g2⟩
        have HB3 : Hid (Held w3 W.heap.size 125 (rdCells (some ad) n c (hs xs 2))) := Lib.hid h2
        have HG3 := Lib.hid (grownBy_trans HG2.out g2 (.inr ⟨_, rfl, Nat.le_refl _⟩))
        obtain ⟨f1, hf1⟩ : ∃ f, f = (rdNum xs (hs xs 1)).1 := ⟨_, rfl⟩
        rw [← hf1]
        have HF1 : Hid (f1 = hn xs 1) := Lib.hid hf1
        clear h2 g2 hf1
        go_wp2_with fail
        refine (CN.out 2 w3 HB3.out HG3.out).mono ?_
        rintro e w4 ⟨rfl, h2, g2⟩
        have HB4 : Hid (Held w4 W.heap.size 125 (rdCells (some ad) n c (hs xs 3))) := Lib.hid h2
        have HG4 := Lib.hid (grownBy_trans HG3.out g2 (.inr ⟨_, rfl, Nat.le_refl _⟩))
        obtain ⟨f2, hf2⟩ : ∃ f, f = (rdNum xs (hs xs 2)).1 := ⟨_, rfl⟩
        rw [← hf2]
        have HF2 : Hid (f2 = hn xs 2) := Lib.hid hf2
        clear h2 g2 hf2
        go_wp2_with fail
        refine (CN.out 3 w4 HB4.out HG4.out).mono ?_
        rintro e wq ⟨rfl, h2, g2⟩
        have HBR : Hid (Held wq W.heap.size 125 (rdCells (some ad) n c (hs xs 4))) := Lib.hid h2
        have HGW1q := Lib.hid (grownBy_trans HG4.out g2 (.inr ⟨_, rfl, Nat.le_refl _⟩))
        obtain ⟨f3, hf3⟩ : ∃ f, f = (rdNum xs (hs xs 3)).1 := ⟨_, rfl⟩
        rw [← hf3]
        have HF3 : Hid (f3 = hn xs 3) := Lib.hid hf3
        clear h2 g2 hf3
        obtain ⟨a, hae⟩ : ∃ a, a = (hs xs 4).at_ := ⟨_, rfl⟩
        obtain ⟨er, hee⟩ : ∃ er, er = (hs xs 4).err := ⟨_, rfl⟩
        have ha := HAT.out 4
        rw [HL.out, ← hae] at ha
        have r1 : wq.cell? ⟨W.heap.size, 1, none⟩ = some (.int .i64 (a : Int)) := by rw [hae]; exact HBR.out.cell 1
        have r2 : wq.cell? ⟨W.heap.size, 2, none⟩ = some (.int .i64 er) := by rw [hee]; exact HBR.out.cell 2
        have HAE := Lib.hid hae
        have HEE := Lib.hid hee
        have HBq := Lib.hid (HB0.out.grown HGW1q.out (fun e => nomatch e))
        have HGWq := Lib.hid (grownBy_trans HWG.out HGW1q.out (.inl rfl))
        have y0 := HBq.out.free 0
        have y1 := HBq.out.free 1
        have y2 := HBq.out.free 2
        have v0 := HBq.out.cell 0
        have v1 := HBq.out.cell 1
        have v2 := HBq.out.cell 2
        clear hae hee
        by_cases her : er = 0
        · subst her
          have HDR := Lib.hid (DR.out HEE.out.symm)
          have hbad : headBad t1 (getHead xs) = true ↔ 4 ≤ t1.toNat ∨ f0 < 0 ∨ 400 < f0 ∨ f1 < 1 ∨ 64 < f1 ∨ f2 < 0 ∨ 1048576 < f2 ∨ f3 < 0 ∨ 1048576 < f3 := by
            rw [head_hs]
            unfold headBad
            simp only [← HF0.out, ← HF1.out, ← HF2.out, ← HF3.out, Bool.or_eq_true, decide_eq_true_eq]
            omega
          have HBAD := Lib.hid hbad
          rw [← HAE.out, ← HF0.out, ← HF1.out, ← HF2.out, ← HF3.out] at HDR
          have ct : wq.cell? (ad.add 1) = some (.int .u8 (t1.toNat : Int)) := World.grownBy.cell HGW1q.out HC1.out (by simp)
          have ct' : wq.cell? ⟨ad.block, ad.off + 1, none⟩ = some (.int .u8 (t1.toNat : Int)) := by
            have := ct
            simpa [Addr.add] using this
          have hn1 : 1 < n := HN2.out
          have htb := byte_lt t1
          clear hbad ct
          go_upto_region 14 with fail
          by_cases g0 : (4 : Int) ≤ (t1.toNat : Int)
          · have HF : Hid (decodeR xs = (zeroBlk, 0, 11)) := Lib.hid (by rw [HDR.out, if_pos (HBAD.out.2 (by omega))])
            clear r1 r2
            go_wp2_with fail
            obtain ⟨s1, s2, _⟩ := stores3 HBq.out HGWq.out (Nat.le_refl _) (.int .i64 0) (.int .i64 0) (.slice none 0 0)
            obtain ⟨W9, hW9⟩ : ∃ W9, W9 = ((wq.setCell ⟨w.heap.size, 0, none⟩ (.int .i64 0)).setCell ⟨w.heap.size, 1, none⟩ (.int .i64 0)).setCell ⟨w.heap.size, 2, none⟩ (.slice none 0 0) := ⟨_, rfl⟩
            rw [← hW9] at s1 s2
            rw [show ((wq.setCell ⟨w.heap.size, 0, none⟩ (.int .i64 0)).setCell ⟨w.heap.size, 1, none⟩ (.int .i64 0)).setCell ⟨w.heap.size, 2, none⟩ (.slice none 0 0) = W9 from hW9.symm]
            have d0 : W9.cell? ⟨w.heap.size, 0, none⟩ = some (.int .i64 0) := s1.cell 0
            have d1 : W9.cell? ⟨w.heap.size, 1, none⟩ = some (.int .i64 0) := s1.cell 1
            have d2 : W9.cell? ⟨w.heap.size, 2, none⟩ = some (.slice none 0 0) := s1.cell 2
            exact bodyPost_ret (v := .tuple #[.agg #[.int .i64 0, .int .i64 0, .slice none 0 0], .int .i64 0, .int .i64 11]) (by simp [results, Tryz.results25, go_sem, d0, d1, d2]) rfl (decOut_bad HF.out s2)
          · skip
            by_cases g1 : f0 < 0
            · have HF : Hid (decodeR xs = (zeroBlk, 0, 11)) := Lib.hid (by rw [HDR.out, if_pos (HBAD.out.2 (by omega))])
              clear r1 r2
              go_wp2_with fail
              obtain ⟨s1, s2, _⟩ := stores3 HBq.out HGWq.out (Nat.le_refl _) (.int .i64 0) (.int .i64 0) (.slice none 0 0)
              obtain ⟨W9, hW9⟩ : ∃ W9, W9 = ((wq.setCell ⟨w.heap.size, 0, none⟩ (.int .i64 0)).setCell ⟨w.heap.size, 1, none⟩ (.int .i64 0)).setCell ⟨w.heap.size, 2, none⟩ (.slice none 0 0) := ⟨_, rfl⟩
              rw [← hW9] at s1 s2
              rw [show ((wq.setCell ⟨w.heap.size, 0, none⟩ (.int .i64 0)).setCell ⟨w.heap.size, 1, none⟩ (.int .i64 0)).setCell ⟨w.heap.size, 2, none⟩ (.slice none 0 0) = W9 from hW9.symm]
              have d0 : W9.cell? ⟨w.heap.size, 0, none⟩ = some (.int .i64 0) := s1.cell 0
              have d1 : W9.cell? ⟨w.heap.size, 1, none⟩ = some (.int .i64 0) := s1.cell 1
              have d2 : W9.cell? ⟨w.heap.size, 2, none⟩ = some (.slice none 0 0) := s1.cell 2
              exact bodyPost_ret (v := .tuple #[.agg #[.int .i64 0, .int .i64 0, .slice none 0 0], .int .i64 0, .int .i64 11]) (by simp [results, Tryz.results25, go_sem, d0, d1, d2]) rfl (decOut_bad HF.out s2)
            · skip
              by_cases g2 : (400 : Int) < f0
              · have HF : Hid (decodeR xs = (zeroBlk, 0, 11)) := Lib.hid (by rw [HDR.out, if_pos (HBAD.out.2 (by omega))])
                clear r1 r2
                go_wp2_with fail
                obtain ⟨s1, s2, _⟩ := stores3 HBq.out HGWq.out (Nat.le_refl _) (.int .i64 0) (.int .i64 0) (.slice none 0 0)
                obtain ⟨W9, hW9⟩ : ∃ W9, W9 = ((wq.setCell ⟨w.heap.size, 0, none⟩ (.int .i64 0)).setCell ⟨w.heap.size, 1, none⟩ (.int .i64 0)).setCell ⟨w.heap.size, 2, none⟩ (.slice none 0 0) := ⟨_, rfl⟩
                rw [← hW9] at s1 s2
                rw [show ((wq.setCell ⟨w.heap.size, 0, none⟩ (.int .i64 0)).setCell ⟨w.heap.size, 1, none⟩ (.int .i64 0)).setCell ⟨w.heap.size, 2, none⟩ (.slice none 0 0) = W9 from hW9.symm]
                have d0 : W9.cell? ⟨w.heap.size, 0, none⟩ = some (.int .i64 0) := s1.cell 0
                have d1 : W9.cell? ⟨w.heap.size, 1, none⟩ = some (.int .i64 0) := s1.cell 1
                have d2 : W9.cell? ⟨w.heap.size, 2, none⟩ = some (.slice none 0 0) := s1.cell 2
                exact bodyPost_ret (v := .tuple #[.agg #[.int .i64 0, .int .i64 0, .slice none 0 0], .int .i64 0, .int .i64 11]) (by simp [results, Tryz.results25, go_sem, d0, d1, d2]) rfl (decOut_bad HF.out s2)
              · skip
                by_cases g3 : f1 < 1
                · have HF : Hid (decodeR xs = (zeroBlk, 0, 11)) := Lib.hid (by rw [HDR.out, if_pos (HBAD.out.2 (by omega))])
                  clear r1 r2
                  go_wp2_with fail
                  obtain ⟨s1, s2, _⟩ := stores3 HBq.out HGWq.out (Nat.le_refl _) (.int .i64 0) (.int .i64 0) (.slice none 0 0)
                  obtain ⟨W9, hW9⟩ : ∃ W9, W9 = ((wq.setCell ⟨w.heap.size, 0, none⟩ (.int .i64 0)).setCell ⟨w.heap.size, 1, none⟩ (.int .i64 0)).setCell ⟨w.heap.size, 2, none⟩ (.slice none 0 0) := ⟨_, rfl⟩
                  rw [← hW9] at s1 s2
                  rw [show ((wq.setCell ⟨w.heap.size, 0, none⟩ (.int .i64 0)).setCell ⟨w.heap.size, 1, none⟩ (.int .i64 0)).setCell ⟨w.heap.size, 2, none⟩ (.slice none 0 0) = W9 from hW9.symm]
                  have d0 : W9.cell? ⟨w.heap.size, 0, none⟩ = some (.int .i64 0) := s1.cell 0
                  have d1 : W9.cell? ⟨w.heap.size, 1, none⟩ = some (.int .i64 0) := s1.cell 1
                  have d2 : W9.cell? ⟨w.heap.size, 2, none⟩ = some (.slice none 0 0) := s1.cell 2
                  exact bodyPost_ret (v := .tuple #[.agg #[.int .i64 0, .int .i64 0, .slice none 0 0], .int .i64 0, .int .i64 11]) (by simp [results, Tryz.results25, go_sem, d0, d1, d2]) rfl (decOut_bad HF.out s2)
                · skip
                  by_cases g4 : (64 : Int) < f1
                  · have HF : Hid (decodeR xs = (zeroBlk, 0, 11)) := Lib.hid (by rw [HDR.out, if_pos (HBAD.out.2 (by omega))])
                    clear r1 r2
                    go_wp2_with fail
                    obtain ⟨s1, s2, _⟩ := stores3 HBq.out HGWq.out (Nat.le_refl _) (.int .i64 0) (.int .i64 0) (.slice none 0 0)
                    obtain ⟨W9, hW9⟩ : ∃ W9, W9 = ((wq.setCell ⟨w.heap.size, 0, none⟩ (.int .i64 0)).setCell ⟨w.heap.size, 1, none⟩ (.int .i64 0)).setCell ⟨w.heap.size, 2, none⟩ (.slice none 0 0) := ⟨_, rfl⟩
                    rw [← hW9] at s1 s2
                    rw [show ((wq.setCell ⟨w.heap.size, 0, none⟩ (.int .i64 0)).setCell ⟨w.heap.size, 1, none⟩ (.int .i64 0)).setCell ⟨w.heap.size, 2, none⟩ (.slice none 0 0) = W9 from hW9.symm]
                    have d0 : W9.cell? ⟨w.heap.size, 0, none⟩ = some (.int .i64 0) := s1.cell 0
                    have d1 : W9.cell? ⟨w.heap.size, 1, none⟩ = some (.int .i64 0) := s1.cell 1
                    have d2 : W9.cell? ⟨w.heap.size, 2, none⟩ = some (.slice none 0 0) := s1.cell 2
                    exact bodyPost_ret (v := .tuple #[.agg #[.int .i64 0, .int .i64 0, .slice none 0 0], .int .i64 0, .int .i64 11]) (by simp [results, Tryz.results25, go_sem, d0, d1, d2]) rfl (decOut_bad HF.out s2)
                  · skip
                    by_cases g5 : f2 < 0
                    · have HF : Hid (decodeR xs = (zeroBlk, 0, 11)) := Lib.hid (by rw [HDR.out, if_pos (HBAD.out.2 (by omega))])
                      clear r1 r2
                      go_wp2_with fail
                      obtain ⟨s1, s2, _⟩ := stores3 HBq.out HGWq.out (Nat.le_refl _) (.int .i64 0) (.int .i64 0) (.slice none 0 0)
                      obtain ⟨W9, hW9⟩ : ∃ W9, W9 = ((wq.setCell ⟨w.heap.size, 0, none⟩ (.int .i64 0)).setCell ⟨w.heap.size, 1, none⟩ (.int .i64 0)).setCell ⟨w.heap.size, 2, none⟩ (.slice none 0 0) := ⟨_, rfl⟩
                      rw [← hW9] at s1 s2
                      rw [show ((wq.setCell ⟨w.heap.size, 0, none⟩ (.int .i64 0)).setCell ⟨w.heap.size, 1, none⟩ (.int .i64 0)).setCell ⟨w.heap.size, 2, none⟩ (.slice none 0 0) = W9 from hW9.symm]
                      have d0 : W9.cell? ⟨w.heap.size, 0, none⟩ = some (.int .i64 0) := s1.cell 0
                      have d1 : W9.cell? ⟨w.heap.size, 1, none⟩ = some (.int .i64 0) := s1.cell 1
                      have d2 : W9.cell? ⟨w.heap.size, 2, none⟩ = some (.slice none 0 0) := s1.cell 2
                      exact bodyPost_ret (v := .tuple #[.agg #[.int .i64 0, .int .i64 0, .slice none 0 0], .int .i64 0, .int .i64 11]) (by simp [results, Tryz.results25, go_sem, d0, d1, d2]) rfl (decOut_bad HF.out s2)
                    · skip
                      by_cases g6 : (1048576 : Int) < f2
                      · have HF : Hid (decodeR xs = (zeroBlk, 0, 11)) := Lib.hid (by rw [HDR.out, if_pos (HBAD.out.2 (by omega))])
                        clear r1 r2
                        go_wp2_with fail
                        obtain ⟨s1, s2, _⟩ := stores3 HBq.out HGWq.out (Nat.le_refl _) (.int .i64 0) (.int .i64 0) (.slice none 0 0)
                        obtain ⟨W9, hW9⟩ : ∃ W9, W9 = ((wq.setCell ⟨w.heap.size, 0, none⟩ (.int .i64 0)).setCell ⟨w.heap.size, 1, none⟩ (.int .i64 0)).setCell ⟨w.heap.size, 2, none⟩ (.slice none 0 0) := ⟨_, rfl⟩
                        rw [← hW9] at s1 s2
                        rw [show ((wq.setCell ⟨w.heap.size, 0, none⟩ (.int .i64 0)).setCell ⟨w.heap.size, 1, none⟩ (.int .i64 0)).setCell ⟨w.heap.size, 2, none⟩ (.slice none 0 0) = W9 from hW9.symm]
                        have d0 : W9.cell? ⟨w.heap.size, 0, none⟩ = some (.int .i64 0) := s1.cell 0
                        have d1 : W9.cell? ⟨w.heap.size, 1, none⟩ = some (.int .i64 0) := s1.cell 1
                        have d2 : W9.cell? ⟨w.heap.size, 2, none⟩ = some (.slice none 0 0) := s1.cell 2
                        exact bodyPost_ret (v := .tuple #[.agg #[.int .i64 0, .int .i64 0, .slice none 0 0], .int .i64 0, .int .i64 11]) (by simp [results, Tryz.results25, go_sem, d0, d1, d2]) rfl (decOut_bad HF.out s2)
                      · skip
                        by_cases g7 : f3 < 0
                        · have HF : Hid (decodeR xs = (zeroBlk, 0, 11)) := Lib.hid (by rw [HDR.out, if_pos (HBAD.out.2 (by omega))])
                          clear r1 r2
                          go_wp2_with fail
                          obtain ⟨s1, s2, _⟩ := stores3 HBq.out HGWq.out (Nat.le_refl _) (.int .i64 0) (.int .i64 0) (.slice none 0 0)
                          obtain ⟨W9, hW9⟩ : ∃ W9, W9 = ((wq.setCell ⟨w.heap.size, 0, none⟩ (.int .i64 0)).setCell ⟨w.heap.size, 1, none⟩ (.int .i64 0)).setCell ⟨w.heap.size, 2, none⟩ (.slice none 0 0) := ⟨_, rfl⟩
                          rw [← hW9] at s1 s2
                          rw [show ((wq.setCell ⟨w.heap.size, 0, none⟩ (.int .i64 0)).setCell ⟨w.heap.size, 1, none⟩ (.int .i64 0)).setCell ⟨w.heap.size, 2, none⟩ (.slice none 0 0) = W9 from hW9.symm]
                          have d0 : W9.cell? ⟨w.heap.size, 0, none⟩ = some (.int .i64 0) := s1.cell 0
                          have d1 : W9.cell? ⟨w.heap.size, 1, none⟩ = some (.int .i64 0) := s1.cell 1
                          have d2 : W9.cell? ⟨w.heap.size, 2, none⟩ = some (.slice none 0 0) := s1.cell 2
                          exact bodyPost_ret (v := .tuple #[.agg #[.int .i64 0, .int .i64 0, .slice none 0 0], .int .i64 0, .int .i64 11]) (by simp [results, Tryz.results25, go_sem, d0, d1, d2]) rfl (decOut_bad HF.out s2)
                        · skip
                          by_cases g8 : (1048576 : Int) < f3
                          · have HF : Hid (decodeR xs = (zeroBlk, 0, 11)) := Lib.hid (by rw [HDR.out, if_pos (HBAD.out.2 (by omega))])
                            clear r1 r2
                            go_wp2_with fail
                            obtain ⟨s1, s2, _⟩ := stores3 HBq.out HGWq.out (Nat.le_refl _) (.int .i64 0) (.int .i64 0) (.slice none 0 0)
                            obtain ⟨W9, hW9⟩ : ∃ W9, W9 = ((wq.setCell ⟨w.heap.size, 0, none⟩ (.int .i64 0)).setCell ⟨w.heap.size, 1, none⟩ (.int .i64 0)).setCell ⟨w.heap.size, 2, none⟩ (.slice none 0 0) := ⟨_, rfl⟩
                            rw [← hW9] at s1 s2
                            rw [show ((wq.setCell ⟨w.heap.size, 0, none⟩ (.int .i64 0)).setCell ⟨w.heap.size, 1, none⟩ (.int .i64 0)).setCell ⟨w.heap.size, 2, none⟩ (.slice none 0 0) = W9 from hW9.symm]
                            have d0 : W9.cell? ⟨w.heap.size, 0, none⟩ = some (.int .i64 0) := s1.cell 0
                            have d1 : W9.cell? ⟨w.heap.size, 1, none⟩ = some (.int .i64 0) := s1.cell 1
                            have d2 : W9.cell? ⟨w.heap.size, 2, none⟩ = some (.slice none 0 0) := s1.cell 2
                            exact bodyPost_ret (v := .tuple #[.agg #[.int .i64 0, .int .i64 0, .slice none 0 0], .int .i64 0, .int .i64 11]) (by simp [results, Tryz.results25, go_sem, d0, d1, d2]) rfl (decOut_bad HF.out s2)
                          · skip
                            have hnb : ¬ headBad t1 (getHead xs) = true := by rw [HBAD.out]; omega
                            have HNB : Hid (headBad t1 (getHead xs) = false) := Lib.hid (by simpa using hnb)
                            clear hnb
                            rw [HNB.out] at HDR
                            simp only [Bool.false_eq_true, if_false] at HDR
                            obtain ⟨N, rfl⟩ : ∃ N : Nat, f1 = (N : Int) := ⟨f1.toNat, by omega⟩
                            obtain ⟨P, rfl⟩ : ∃ P : Nat, f3 = (P : Int) := ⟨f3.toNat, by omega⟩
                            rw [Int.toNat_natCast, Int.toNat_natCast] at HDR
                            have bf0 : 0 ≤ f0 ∧ f0 ≤ 400 ∧ 0 ≤ f2 ∧ f2 ≤ 1048576 ∧ N ≤ 64 ∧ P ≤ 1048576 := by omega
                            obtain ⟨b0, b1, b2, b3, b4, b5⟩ := bf0
                            obtain ⟨E, hEd⟩ : ∃ E, E = a + P := ⟨_, rfl⟩
                            have hEE : (a : Int) + (P : Int) = (E : Int) := by omega
                            have aE : a ≤ E := by omega
                            rw [← hEd] at HDR
                            have hneg' : w.heap.size ≠ W.heap.size := Nat.ne_of_lt HG5.out
                            by_cases hE : n < E + 4
                            · have HF : Hid (decodeR xs = (zeroBlk, 0, 9)) := Lib.hid (by rw [HDR.out, if_pos (by rw [HL.out]; exact hE)])
                              have hlt9 : (n : Int) - (a : Int) < (P : Int) + 4 := by omega
                              clear hEd hE
                              go_wp2_with fail
                              obtain ⟨s1, s2, _⟩ := stores3 HBq.out HGWq.out (Nat.le_refl _) (.int .i64 0) (.int .i64 0) (.slice none 0 0)
                              obtain ⟨W9, hW9⟩ : ∃ W9, W9 = ((wq.setCell ⟨w.heap.size, 0, none⟩ (.int .i64 0)).setCell ⟨w.heap.size, 1, none⟩ (.int .i64 0)).setCell ⟨w.heap.size, 2, none⟩ (.slice none 0 0) := ⟨_, rfl⟩
                              rw [← hW9] at s1 s2
                              rw [show ((wq.setCell ⟨w.heap.size, 0, none⟩ (.int .i64 0)).setCell ⟨w.heap.size, 1, none⟩ (.int .i64 0)).setCell ⟨w.heap.size, 2, none⟩ (.slice none 0 0) = W9 from hW9.symm]
                              have d0 : W9.cell? ⟨w.heap.size, 0, none⟩ = some (.int .i64 0) := s1.cell 0
                              have d1 : W9.cell? ⟨w.heap.size, 1, none⟩ = some (.int .i64 0) := s1.cell 1
                              have d2 : W9.cell? ⟨w.heap.size, 2, none⟩ = some (.slice none 0 0) := s1.cell 2
                              exact bodyPost_ret (v := .tuple #[.agg #[.int .i64 0, .int .i64 0, .slice none 0 0], .int .i64 0, .int .i64 9]) (by simp [results, Tryz.results25, go_sem, d0, d1, d2]) rfl (decOut_bad HF.out s2)
                            · rw [if_neg (by rw [HL.out]; exact hE)] at HDR
                              have En : E + 4 ≤ n := by omega
                              have hnE : ¬ (n : Int) - (a : Int) < (P : Int) + 4 := by omega
                              clear hE hEd
                              go_upto_region 19 with fail
                              have LQ := HLW.out.grown HGW1q.out HBW.out (fun _ e => nomatch e)
                              have hzs : ∃ z0 z1 z2 z3 : UInt8, (xs.drop E).take 4 = [z0, z1, z2, z3] ∧ wq.cell? (ad.add E) = some (.int .u8 (z0.toNat : Int)) ∧ wq.cell? ⟨ad.block, ad.off + (E + 1), none⟩ = some (.int .u8 (z1.toNat : Int)) ∧
                                  wq.cell? ⟨ad.block, ad.off + (E + 2), none⟩ = some (.int .u8 (z2.toNat : Int)) ∧ wq.cell? ⟨ad.block, ad.off + (E + 3), none⟩ = some (.int .u8 (z3.toNat : Int)) := by
                                obtain ⟨a0, z0, e0, _, x0, c0⟩ := LQ.byte (k := E) (by omega)
                                obtain ⟨a1, z1, e1, _, x1, c1⟩ := LQ.byte (k := E + 1) (by omega)
                                obtain ⟨a2, z2, e2, _, x2, c2⟩ := LQ.byte (k := E + 2) (by omega)
                                obtain ⟨a3, z3, e3, _, x3, c3⟩ := LQ.byte (k := E + 3) (by omega)
                                simp only [Option.some.injEq] at e0 e1 e2 e3
                                subst e0 e1 e2 e3
                                refine ⟨z0, z1, z2, z3, ?_, c0, by simpa [Addr.add] using c1, by simpa [Addr.add] using c2, by simpa [Addr.add] using c3⟩
                                rw [drop_cons x0, drop_cons x1, drop_cons x2, drop_cons x3]
                                rfl
                              obtain ⟨z0, z1, z2, z3, hz4, e0, e1, e2, e3⟩ := hzs
                              obtain ⟨s0, s1, s2, s3, hs4⟩ := sum4_parts (crc (xs.take E))
                              have hcut : Lies wq B 1 (some ad) E ((xs.take E).map bv) := by
                                have := LQ.take (m := E) (by omega)
                                rwa [Nat.mul_one, ← List.map_take] at this
                              have CSB := Lib.hid (sumR_any (some ad) E c (xs.take E) wq B hcut (by omega))
                              have hcl := crc_lt (xs.take E)
                              have hsc := sum4_cells (crc (xs.take E)) hcl
                              rw [hs4] at hsc
                              simp only [List.map_cons, List.map_nil, bv] at hsc
                              simp only [Array.mk.injEq, List.cons.injEq, and_true, Value.int.injEq, true_and] at hsc
                              obtain ⟨t0, t1', t2, t3⟩ := hsc
                              obtain ⟨s, hs⟩ : ∃ s, s = crc (xs.take E) := ⟨_, rfl⟩
                              rw [← hs] at CSB hcl t0 t1' t2 t3
                              have HZ4 := Lib.hid hz4
                              have HS4 := Lib.hid hs4
                              have T0 := Lib.hid t0
                              have T1 := Lib.hid t1'
                              have T2 := Lib.hid t2
                              have T3 := Lib.hid t3
                              have ec : (E : Int) ≤ (c : Int) := by omega
                              have e4 : (E : Int) + 4 ≤ (n : Int) := by omega
                              clear hs hz4 hs4 hcut t0 t1' t2 t3
                              go_upto_region 20 with (first | (go_at_call 50; refine CSB.out.mono ?_; rintro e w9 ⟨rfl, rfl⟩))
                              by_cases j0 : z0 = s0
                              rotate_left
                              · have q0 : ((z0.toNat : Int) != (s : Int) / 16777216) = true := by rw [T0.out, bne_iff_ne]; intro h; exact j0 (u8_eq (by omega))
                                have hne4 : [z0, z1, z2, z3] ≠ [s0, s1, s2, s3] := by intro h; simp only [List.cons.injEq, and_true] at h; exact j0 h.1
                                have HF : Hid (decodeR xs = (zeroBlk, 0, 10)) := Lib.hid (by rw [HDR.out, if_pos (by rw [HZ4.out, HS4.out]; exact hne4)])
                                clear hne4 j0 r1 r2 ct'
                                go_wp2_with fail
                                obtain ⟨s1, s2, _⟩ := stores3 HBq.out HGWq.out (Nat.le_refl _) (.int .i64 0) (.int .i64 0) (.slice none 0 0)
                                obtain ⟨W9, hW9⟩ : ∃ W9, W9 = ((wq.setCell ⟨w.heap.size, 0, none⟩ (.int .i64 0)).setCell ⟨w.heap.size, 1, none⟩ (.int .i64 0)).setCell ⟨w.heap.size, 2, none⟩ (.slice none 0 0) := ⟨_, rfl⟩
                                rw [← hW9] at s1 s2
                                rw [show ((wq.setCell ⟨w.heap.size, 0, none⟩ (.int .i64 0)).setCell ⟨w.heap.size, 1, none⟩ (.int .i64 0)).setCell ⟨w.heap.size, 2, none⟩ (.slice none 0 0) = W9 from hW9.symm]
                                have d0 : W9.cell? ⟨w.heap.size, 0, none⟩ = some (.int .i64 0) := s1.cell 0
                                have d1 : W9.cell? ⟨w.heap.size, 1, none⟩ = some (.int .i64 0) := s1.cell 1
                                have d2 : W9.cell? ⟨w.heap.size, 2, none⟩ = some (.slice none 0 0) := s1.cell 2
                                exact bodyPost_ret (v := .tuple #[.agg #[.int .i64 0, .int .i64 0, .slice none 0 0], .int .i64 0, .int .i64 10]) (by simp [results, Tryz.results25, go_sem, d0, d1, d2]) rfl (decOut_bad HF.out s2)
                              have q0 : ((z0.toNat : Int) != (s : Int) / 16777216) = false := by rw [T0.out, bne_eq_false_iff_eq, j0]
                              have J0 := Lib.hid j0
                              clear j0
                              by_cases j1 : z1 = s1
                              rotate_left
                              · have q1 : ((z1.toNat : Int) != (s : Int) / 65536 % 256) = true := by rw [T1.out, bne_iff_ne]; intro h; exact j1 (u8_eq (by omega))
                                have hne4 : [z0, z1, z2, z3] ≠ [s0, s1, s2, s3] := by intro h; simp only [List.cons.injEq, and_true] at h; exact j1 h.2.1
                                have HF : Hid (decodeR xs = (zeroBlk, 0, 10)) := Lib.hid (by rw [HDR.out, if_pos (by rw [HZ4.out, HS4.out]; exact hne4)])
                                clear hne4 j1 r1 r2 ct'
                                go_wp2_with fail
                                obtain ⟨s1, s2, _⟩ := stores3 HBq.out HGWq.out (Nat.le_refl _) (.int .i64 0) (.int .i64 0) (.slice none 0 0)
                                obtain ⟨W9, hW9⟩ : ∃ W9, W9 = ((wq.setCell ⟨w.heap.size, 0, none⟩ (.int .i64 0)).setCell ⟨w.heap.size, 1, none⟩ (.int .i64 0)).setCell ⟨w.heap.size, 2, none⟩ (.slice none 0 0) := ⟨_, rfl⟩
                                rw [← hW9] at s1 s2
                                rw [show ((wq.setCell ⟨w.heap.size, 0, none⟩ (.int .i64 0)).setCell ⟨w.heap.size, 1, none⟩ (.int .i64 0)).setCell ⟨w.heap.size, 2, none⟩ (.slice none 0 0) = W9 from hW9.symm]
                                have d0 : W9.cell? ⟨w.heap.size, 0, none⟩ = some (.int .i64 0) := s1.cell 0
                                have d1 : W9.cell? ⟨w.heap.size, 1, none⟩ = some (.int .i64 0) := s1.cell 1
                                have d2 : W9.cell? ⟨w.heap.size, 2, none⟩ = some (.slice none 0 0) := s1.cell 2
                                exact bodyPost_ret (v := .tuple #[.agg #[.int .i64 0, .int .i64 0, .slice none 0 0], .int .i64 0, .int .i64 10]) (by simp [results, Tryz.results25, go_sem, d0, d1, d2]) rfl (decOut_bad HF.out s2)
                              have q1 : ((z1.toNat : Int) != (s : Int) / 65536 % 256) = false := by rw [T1.out, bne_eq_false_iff_eq, j1]
                              have J1 := Lib.hid j1
                              clear j1
                              by_cases j2 : z2 = s2
                              rotate_left
                              · have q2 : ((z2.toNat : Int) != (s : Int) / 256 % 256) = true := by rw [T2.out, bne_iff_ne]; intro h; exact j2 (u8_eq (by omega))
                                have hne4 : [z0, z1, z2, z3] ≠ [s0, s1, s2, s3] := by intro h; simp only [List.cons.injEq, and_true] at h; exact j2 h.2.2.1
                                have HF : Hid (decodeR xs = (zeroBlk, 0, 10)) := Lib.hid (by rw [HDR.out, if_pos (by rw [HZ4.out, HS4.out]; exact hne4)])
                                clear hne4 j2 r1 r2 ct'
                                go_wp2_with fail
                                obtain ⟨s1, s2, _⟩ := stores3 HBq.out HGWq.out (Nat.le_refl _) (.int .i64 0) (.int .i64 0) (.slice none 0 0)
                                obtain ⟨W9, hW9⟩ : ∃ W9, W9 = ((wq.setCell ⟨w.heap.size, 0, none⟩ (.int .i64 0)).setCell ⟨w.heap.size, 1, none⟩ (.int .i64 0)).setCell ⟨w.heap.size, 2, none⟩ (.slice none 0 0) := ⟨_, rfl⟩
                                rw [← hW9] at s1 s2
                                rw [show ((wq.setCell ⟨w.heap.size, 0, none⟩ (.int .i64 0)).setCell ⟨w.heap.size, 1, none⟩ (.int .i64 0)).setCell ⟨w.heap.size, 2, none⟩ (.slice none 0 0) = W9 from hW9.symm]
                                have d0 : W9.cell? ⟨w.heap.size, 0, none⟩ = some (.int .i64 0) := s1.cell 0
                                have d1 : W9.cell? ⟨w.heap.size, 1, none⟩ = some (.int .i64 0) := s1.cell 1
                                have d2 : W9.cell? ⟨w.heap.size, 2, none⟩ = some (.slice none 0 0) := s1.cell 2
                                exact bodyPost_ret (v := .tuple #[.agg #[.int .i64 0, .int .i64 0, .slice none 0 0], .int .i64 0, .int .i64 10]) (by simp [results, Tryz.results25, go_sem, d0, d1, d2]) rfl (decOut_bad HF.out s2)
                              have q2 : ((z2.toNat : Int) != (s : Int) / 256 % 256) = false := by rw [T2.out, bne_eq_false_iff_eq, j2]
                              have J2 := Lib.hid j2
                              clear j2
                              by_cases j3 : z3 = s3
                              rotate_left
                              · have q3 : ((z3.toNat : Int) != (s : Int) % 256) = true := by rw [T3.out, bne_iff_ne]; intro h; exact j3 (u8_eq (by omega))
                                have hne4 : [z0, z1, z2, z3] ≠ [s0, s1, s2, s3] := by intro h; simp only [List.cons.injEq, and_true] at h; exact j3 h.2.2.2
                                have HF : Hid (decodeR xs = (zeroBlk, 0, 10)) := Lib.hid (by rw [HDR.out, if_pos (by rw [HZ4.out, HS4.out]; exact hne4)])
                                clear hne4 j3 r1 r2 ct'
                                go_wp2_with fail
                                obtain ⟨s1, s2, _⟩ := stores3 HBq.out HGWq.out (Nat.le_refl _) (.int .i64 0) (.int .i64 0) (.slice none 0 0)
                                obtain ⟨W9, hW9⟩ : ∃ W9, W9 = ((wq.setCell ⟨w.heap.size, 0, none⟩ (.int .i64 0)).setCell ⟨w.heap.size, 1, none⟩ (.int .i64 0)).setCell ⟨w.heap.size, 2, none⟩ (.slice none 0 0) := ⟨_, rfl⟩
                                rw [← hW9] at s1 s2
                                rw [show ((wq.setCell ⟨w.heap.size, 0, none⟩ (.int .i64 0)).setCell ⟨w.heap.size, 1, none⟩ (.int .i64 0)).setCell ⟨w.heap.size, 2, none⟩ (.slice none 0 0) = W9 from hW9.symm]
                                have d0 : W9.cell? ⟨w.heap.size, 0, none⟩ = some (.int .i64 0) := s1.cell 0
                                have d1 : W9.cell? ⟨w.heap.size, 1, none⟩ = some (.int .i64 0) := s1.cell 1
                                have d2 : W9.cell? ⟨w.heap.size, 2, none⟩ = some (.slice none 0 0) := s1.cell 2
                                exact bodyPost_ret (v := .tuple #[.agg #[.int .i64 0, .int .i64 0, .slice none 0 0], .int .i64 0, .int .i64 10]) (by simp [results, Tryz.results25, go_sem, d0, d1, d2]) rfl (decOut_bad HF.out s2)
                              have q3 : ((z3.toNat : Int) != (s : Int) % 256) = false := by rw [T3.out, bne_eq_false_iff_eq, j3]
                              have J3 := Lib.hid j3
                              clear j3
                              rw [if_neg (by rw [HZ4.out, HS4.out, J0.out, J1.out, J2.out, J3.out]; simp)] at HDR
                              have haE : ¬ c = a := by omega
                              have cai : (0 : Int) ≤ (a : Int) := by omega
                              have cae : (a : Int) ≤ (E : Int) := by omega
                              obtain ⟨tv, htv⟩ : ∃ tv : Int, tv = (t1.toNat : Int) := ⟨_, rfl⟩
                              have tv0 : 0 ≤ tv := by omega
                              have tv4 : tv < 4 := by omega
                              have ctq : wq.cell? ⟨ad.block, ad.off + 1, none⟩ = some (.int .u8 tv) := by rw [htv]; exact ct'
                              have HTV := Lib.hid htv
                              have hBq : B ≤ wq.heap.size := Nat.le_trans HBW.out HGW1q.out.size
                              have hcut2 : Lies wq B 1 (some (ad.add a)) (E - a) (((xs.take E).drop a).map bv) := by
                                have h1 := LQ.take (m := E) (by omega)
                                have h2 := h1.drop (k := a) (by omega)
                                rw [Nat.mul_one, Nat.mul_one, ← List.map_take, ← List.map_drop] at h2
                                exact h2
                              have CU := Lib.hid (unpackR_any (some (ad.add a)) (E - a) (c - a) B ((xs.take E).drop a) f2 wq hcut2 hBq (by omega) (by omega) ⟨by omega, by omega⟩ wq.heap.size (Nat.le_refl _))
                              have hul := unpack_len ((xs.take E).drop a) f2
                              rw [hcut2.lenB] at hul
                              obtain ⟨ps, er, hu⟩ : ∃ ps er, unpack ((xs.take E).drop a) f2 = (ps, er) := ⟨_, _, rfl⟩
                              rw [hu] at CU hul
                              dsimp only at CU hul
                              have HU := Lib.hid hu
                              clear htv ct' LQ hcut2 hu v0 v1 v2 y0 y1 y2
                              go_upto_region 22 with fail
                              clear q0 q1 q2 q3 e0 e1 e2 e3
                              go_wp2_with fail
                              refine CU.out.mono ?_
                              rintro e w5 ⟨v5, rfl, hown5, hg5, hat5⟩
                              obtain ⟨A5, c5, hv5, hn5, hm5, hl5, ho5⟩ := own_slice hown5
                              subst hv5
                              have ct5 : w5.cell? ⟨ad.block, ad.off + 1, none⟩ = some (.int .u8 tv) := World.grownBy.cell hg5 ctq (by simp)
                              have CRR := Lib.hid (recordsR_any A5 ps.length c5 ps N tv w5 hl5 hn5 ho5 (by omega) (by omega) ⟨by omega, by omega⟩)
                              have HCT := Lib.hid ctq
                              clear hown5 hl5 r1 r2 ctq
                              go_wp2_with fail
                              clear ct5
                              refine CRR.out.mono ?_
                              rintro e w6 ⟨A6, n6, c6, rs, ok, rfl, hR6, hg6, hn6', hm6, ho6, hres⟩
                              have hg56 := grownBy_trans hg5 hg6 (.inl rfl)
                              have ct6 : w6.cell? ⟨ad.block, ad.off + 1, none⟩ = some (.int .u8 tv) := World.grownBy.cell hg56 HCT.out (by simp)
                              obtain ⟨W7, hW7⟩ : ∃ W7, W7 = w6.alloc (.cells #[.int .i64 tv, .int .i64 f0, .slice A6 n6 c6] 53) := ⟨_, rfl⟩
                              have hg67 : w6.grownBy W7 none := by rw [hW7]; exact World.grownBy_alloc w6 _ none
                              have hb7 : Held W7 w6.heap.size 53 #[.int .i64 tv, .int .i64 f0, .slice A6 n6 c6] := by rw [hW7]; exact Held.new _ _ _
                              have hg57 := grownBy_trans hg56 hg67 (.inl rfl)
                              have HW7 := Lib.hid hW7
                              have HX7 := Lib.hid hb7
                              have HR7 := Lib.hid (hR6.keep hg67 (fun _ e => nomatch e))
                              have HBB7 := Lib.hid (HBq.out.grown hg57 (fun e => nomatch e))
                              have HGc7 := Lib.hid (grownBy_trans HGWq.out hg57 (.inl rfl))
                              have HGW7 := Lib.hid (grownBy_trans HGW1q.out hg57 (.inl rfl))
                              have HLO := Lib.hid (show w.heap.size ≤ w5.heap.size from (grownBy_trans HGWq.out hg5 (.inl rfl)).size)
                              have HLT := Lib.hid (show w.heap.size < w5.heap.size from Nat.lt_of_lt_of_le HBq.out.lt hg5.size)
                              have HRES := Lib.hid hres
                              have x0c : W7.cell? ⟨w6.heap.size, 0, none⟩ = some (.int .i64 tv) := hb7.cell 0
                              have x1c : W7.cell? ⟨w6.heap.size, 1, none⟩ = some (.int .i64 f0) := hb7.cell 1
                              have x2c : W7.cell? ⟨w6.heap.size, 2, none⟩ = some (.slice A6 n6 c6) := hb7.cell 2
                              have y0 := HBB7.out.free 0
                              have y1 := HBB7.out.free 1
                              have y2 := HBB7.out.free 2
                              have v0 := HBB7.out.cell 0
                              have v1 := HBB7.out.cell 1
                              have v2 := HBB7.out.cell 2
                              clear hW7 hb7 hR6 hres
                              go_upto_region 25 with fail
                              rw [show w6.alloc (.cells #[.int .i64 tv, .int .i64 f0, .slice A6 n6 c6] 53) = W7 from HW7.out.symm]
                              clear ct6
                              by_cases her : er = 0
                              rotate_left
                              · have hbe : (er != 0) = true := by rw [bne_iff_ne]; exact her
                                have HF : Hid (decodeR xs = (zeroBlk, 0, 11)) := Lib.hid (by rw [HDR.out, tailR_bad (.inl (by rw [HU.out]; exact her))])
                                clear her x0c x1c x2c
                                go_wp2_with fail
                                obtain ⟨s1, s2, _⟩ := stores3 HBB7.out HGc7.out (Nat.le_refl _) (.int .i64 0) (.int .i64 0) (.slice none 0 0)
                                obtain ⟨W9, hW9⟩ : ∃ W9, W9 = ((W7.setCell ⟨w.heap.size, 0, none⟩ (.int .i64 0)).setCell ⟨w.heap.size, 1, none⟩ (.int .i64 0)).setCell ⟨w.heap.size, 2, none⟩ (.slice none 0 0) := ⟨_, rfl⟩
                                rw [← hW9] at s1 s2
                                rw [show ((W7.setCell ⟨w.heap.size, 0, none⟩ (.int .i64 0)).setCell ⟨w.heap.size, 1, none⟩ (.int .i64 0)).setCell ⟨w.heap.size, 2, none⟩ (.slice none 0 0) = W9 from hW9.symm]
                                have d0 : W9.cell? ⟨w.heap.size, 0, none⟩ = some (.int .i64 0) := s1.cell 0
                                have d1 : W9.cell? ⟨w.heap.size, 1, none⟩ = some (.int .i64 0) := s1.cell 1
                                have d2 : W9.cell? ⟨w.heap.size, 2, none⟩ = some (.slice none 0 0) := s1.cell 2
                                exact bodyPost_ret (v := .tuple #[.agg #[.int .i64 0, .int .i64 0, .slice none 0 0], .int .i64 0, .int .i64 11]) (by simp [results, Tryz.results25, go_sem, d0, d1, d2]) rfl (decOut_bad HF.out s2)
                              subst her
                              cases ok with
                              | false =>
                                have HF : Hid (decodeR xs = (zeroBlk, 0, 11)) := Lib.hid (by rw [HDR.out, tailR_bad (.inr (by rw [HU.out, ← HTV.out]; exact HRES.out))])
                                clear x0c x1c x2c
                                go_wp2_with fail
                                obtain ⟨s1, s2, _⟩ := stores3 HBB7.out HGc7.out (Nat.le_refl _) (.int .i64 0) (.int .i64 0) (.slice none 0 0)
                                obtain ⟨W9, hW9⟩ : ∃ W9, W9 = ((W7.setCell ⟨w.heap.size, 0, none⟩ (.int .i64 0)).setCell ⟨w.heap.size, 1, none⟩ (.int .i64 0)).setCell ⟨w.heap.size, 2, none⟩ (.slice none 0 0) := ⟨_, rfl⟩
                                rw [← hW9] at s1 s2
                                rw [show ((W7.setCell ⟨w.heap.size, 0, none⟩ (.int .i64 0)).setCell ⟨w.heap.size, 1, none⟩ (.int .i64 0)).setCell ⟨w.heap.size, 2, none⟩ (.slice none 0 0) = W9 from hW9.symm]
                                have d0 : W9.cell? ⟨w.heap.size, 0, none⟩ = some (.int .i64 0) := s1.cell 0
                                have d1 : W9.cell? ⟨w.heap.size, 1, none⟩ = some (.int .i64 0) := s1.cell 1
                                have d2 : W9.cell? ⟨w.heap.size, 2, none⟩ = some (.slice none 0 0) := s1.cell 2
                                exact bodyPost_ret (v := .tuple #[.agg #[.int .i64 0, .int .i64 0, .slice none 0 0], .int .i64 0, .int .i64 11]) (by simp [results, Tryz.results25, go_sem, d0, d1, d2]) rfl (decOut_bad HF.out s2)
                              | true =>
                                obtain ⟨ht1, ht2, ht3⟩ := tailR_some (b := xs) (t := t1) (first := f0) (n := N) (size := f2) (from_ := a) (end_ := E) (l := rs) (by rw [HU.out]) (by rw [HU.out, ← HTV.out]; exact HRES.out)
                                rw [ht1, ← HTV.out] at HDR
                                have CE := Lib.hid (encodeR_any ⟨tv, f0, rs⟩ A6 n6 c6 W7.heap.size W7 HR7.out.recs (Nat.le_refl _) (fun r hr => nums_ok (ht3 r hr)) W7.heap.size (Nat.le_refl _))
                                have hel := encode_len (x := ⟨tv, f0, rs⟩) (fun r hr => nums_ok (ht3 r hr))
                                obtain ⟨ys, er, hys⟩ : ∃ ys er, encode ⟨tv, f0, rs⟩ = (ys, er) := ⟨_, _, rfl⟩
                                have HYS := Lib.hid hys
                                rw [hys] at HDR hel
                                dsimp only at hel
                                clear ht1 ht2 ht3 hys v0 v1 v2 y0 y1 y2
                                go_wp2_with fail
                                refine CE.out.mono ?_
                                rintro e w8 ⟨v8, rfl, hown8, hg8⟩
                                rw [HYS.out] at hown8 ⊢
                                dsimp only at hown8 ⊢
                                obtain ⟨A8, c8, hv8, hn8, hm8, hl8, ho8⟩ := own_slice hown8
                                subst hv8
                                have HL8 := Lib.hid hl8
                                have HB8 := Lib.hid (HBB7.out.grown hg8 (fun e => nomatch e))
                                have HG8 := Lib.hid (grownBy_trans HGc7.out hg8 (.inl rfl))
                                have HX8 := Lib.hid (HX7.out.grown hg8 (fun e => nomatch e))
                                have HR8 := Lib.hid (HR7.out.keep hg8 (fun _ e => nomatch e))
                                have y0 := HB8.out.free 0
                                have y1 := HB8.out.free 1
                                have y2 := HB8.out.free 2
                                have v0 := HB8.out.cell 0
                                have v1 := HB8.out.cell 1
                                have v2 := HB8.out.cell 2
                                clear x0c x1c x2c hown8 hl8
                                by_cases her : er = 0
                                rotate_left
                                · have hbe : (er != 0) = true := by rw [bne_iff_ne]; exact her
                                  have HF : Hid (decodeR xs = (zeroBlk, 0, 11)) := Lib.hid (by rw [HDR.out, if_neg (fun hh => her (Prod.mk.inj hh).2)])
                                  clear her
                                  go_wp2_with fail
                                  obtain ⟨s1, s2, _⟩ := stores3 HB8.out HG8.out (Nat.le_refl _) (.int .i64 0) (.int .i64 0) (.slice none 0 0)
                                  obtain ⟨W9, hW9⟩ : ∃ W9, W9 = ((w8.setCell ⟨w.heap.size, 0, none⟩ (.int .i64 0)).setCell ⟨w.heap.size, 1, none⟩ (.int .i64 0)).setCell ⟨w.heap.size, 2, none⟩ (.slice none 0 0) := ⟨_, rfl⟩
                                  rw [← hW9] at s1 s2
                                  rw [show ((w8.setCell ⟨w.heap.size, 0, none⟩ (.int .i64 0)).setCell ⟨w.heap.size, 1, none⟩ (.int .i64 0)).setCell ⟨w.heap.size, 2, none⟩ (.slice none 0 0) = W9 from hW9.symm]
                                  have d0 : W9.cell? ⟨w.heap.size, 0, none⟩ = some (.int .i64 0) := s1.cell 0
                                  have d1 : W9.cell? ⟨w.heap.size, 1, none⟩ = some (.int .i64 0) := s1.cell 1
                                  have d2 : W9.cell? ⟨w.heap.size, 2, none⟩ = some (.slice none 0 0) := s1.cell 2
                                  exact bodyPost_ret (v := .tuple #[.agg #[.int .i64 0, .int .i64 0, .slice none 0 0], .int .i64 0, .int .i64 11]) (by simp [results, Tryz.results25, go_sem, d0, d1, d2]) rfl (decOut_bad HF.out s2)
                                subst her
                                have hcut4 : Lies w8 B 1 (some ad) (E + 4) ((xs.take (E + 4)).map bv) := by
                                  have h1 := (HLW.out.grown (grownBy_trans HGW7.out hg8 (.inl rfl)) HBW.out (fun _ e => nomatch e)).take (m := E + 4) (by omega)
                                  rw [Nat.mul_one, ← List.map_take] at h1
                                  exact h1
                                have CQ := Lib.hid (same_any A8 (some ad) ys.length (E + 4) c8 c ys (xs.take (E + 4)) w8 (max w8.heap.size B) (HL8.out.more (Nat.le_max_left _ _)) (hcut4.more (Nat.le_max_right _ _)) hel (by omega))
                                have ec4 : (E : Int) + 4 ≤ (c : Int) := by omega
                                clear hcut4
                                by_cases hq : ys = xs.take (E + 4)
                                rotate_left
                                · have HF : Hid (decodeR xs = (zeroBlk, 0, 11)) := Lib.hid (by rw [HDR.out, if_neg (fun hh => hq (Prod.mk.inj hh).1)])
                                  rw [decide_eq_false hq] at CQ
                                  clear hq
                                  go_upto_region 28 with fail
                                  clear v0 v1 v2 y0 y1 y2
                                  go_upto_region 29 with (first | (go_at_call 22; refine CQ.out.mono ?_; rintro e w9 ⟨rfl, q, rfl⟩))
                                  obtain ⟨wz, hwz⟩ : ∃ wz, wz = w8.drewN q := ⟨_, rfl⟩
                                  rw [show w8.drewN q = wz from hwz.symm]
                                  have HB9 : Hid (Held wz w.heap.size 53 #[.int .i64 0, .int .i64 0, .slice none 0 0]) := by rw [hwz]; exact Lib.hid (HB8.out.drewN q)
                                  have HG9 : Hid (w.grownBy wz none) := by rw [hwz]; exact Lib.hid (grown_toDrewN HG8.out q)
                                  have y0 := HB9.out.free 0
                                  have y1 := HB9.out.free 1
                                  have y2 := HB9.out.free 2
                                  have v0 := HB9.out.cell 0
                                  have v1 := HB9.out.cell 1
                                  have v2 := HB9.out.cell 2
                                  clear hwz
                                  go_wp2_with fail
                                  obtain ⟨s1, s2, _⟩ := stores3 HB9.out HG9.out (Nat.le_refl _) (.int .i64 0) (.int .i64 0) (.slice none 0 0)
                                  obtain ⟨W9, hW9⟩ : ∃ W9, W9 = ((wz.setCell ⟨w.heap.size, 0, none⟩ (.int .i64 0)).setCell ⟨w.heap.size, 1, none⟩ (.int .i64 0)).setCell ⟨w.heap.size, 2, none⟩ (.slice none 0 0) := ⟨_, rfl⟩
                                  rw [← hW9] at s1 s2
                                  rw [show ((wz.setCell ⟨w.heap.size, 0, none⟩ (.int .i64 0)).setCell ⟨w.heap.size, 1, none⟩ (.int .i64 0)).setCell ⟨w.heap.size, 2, none⟩ (.slice none 0 0) = W9 from hW9.symm]
                                  have d0 : W9.cell? ⟨w.heap.size, 0, none⟩ = some (.int .i64 0) := s1.cell 0
                                  have d1 : W9.cell? ⟨w.heap.size, 1, none⟩ = some (.int .i64 0) := s1.cell 1
                                  have d2 : W9.cell? ⟨w.heap.size, 2, none⟩ = some (.slice none 0 0) := s1.cell 2
                                  exact bodyPost_ret (v := .tuple #[.agg #[.int .i64 0, .int .i64 0, .slice none 0 0], .int .i64 0, .int .i64 11]) (by simp [results, Tryz.results25, go_sem, d0, d1, d2]) rfl (decOut_bad HF.out s2)
                                have HD : Hid (decodeR xs = (⟨tv, f0, rs⟩, E + 4, 0)) := Lib.hid (by rw [HDR.out, if_pos (by rw [hq])])
                                rw [decide_eq_true hq] at CQ
                                clear hq v0 v1 v2 y0 y1 y2
                                go_upto_region 30 with (first | (go_at_call 22; refine CQ.out.mono ?_; rintro e w9 ⟨rfl, q, rfl⟩))
                                obtain ⟨wz, hwz⟩ : ∃ wz, wz = w8.drewN q := ⟨_, rfl⟩
                                rw [show w8.drewN q = wz from hwz.symm]
                                have hB9 : Held wz w.heap.size 53 #[.int .i64 0, .int .i64 0, .slice none 0 0] := by rw [hwz]; exact HB8.out.drewN q
                                have hG9 : w.grownBy wz none := by rw [hwz]; exact grown_toDrewN HG8.out q
                                have hX9 : Held wz w6.heap.size 53 #[.int .i64 tv, .int .i64 f0, .slice A6 n6 c6] := by rw [hwz]; exact HX8.out.drewN q
                                have hR9 : RecsNew wz w5.heap.size A6 n6 rs := by rw [hwz]; exact HR8.out.keep (grown_toDrewN (World.grownBy.refl w8 none) q) (fun _ e => nomatch e)
                                have y0 := hB9.free 0
                                have y1 := hB9.free 1
                                have y2 := hB9.free 2
                                have v0 := hB9.cell 0
                                have v1 := hB9.cell 1
                                have v2 := hB9.cell 2
                                have x0c : wz.cell? ⟨w6.heap.size, 0, none⟩ = some (.int .i64 tv) := hX9.cell 0
                                have x1c : wz.cell? ⟨w6.heap.size, 1, none⟩ = some (.int .i64 f0) := hX9.cell 1
                                have x2c : wz.cell? ⟨w6.heap.size, 2, none⟩ = some (.slice A6 n6 c6) := hX9.cell 2
                                have HR9 := Lib.hid hR9
                                clear hwz hR9
                                go_wp2_with fail
                                obtain ⟨s1, s2, s3⟩ := stores3 hB9 hG9 (Nat.le_refl _) (.int .i64 tv) (.int .i64 f0) (.slice A6 n6 c6)
                                have hR10 := (HR9.out.keep s3 (fun g e => by injection e with e; have := HLT.out; omega)).lower HLO.out
                                obtain ⟨W9, hW9⟩ : ∃ W9, W9 = ((wz.setCell ⟨w.heap.size, 0, none⟩ (.int .i64 tv)).setCell ⟨w.heap.size, 1, none⟩ (.int .i64 f0)).setCell ⟨w.heap.size, 2, none⟩ (.slice A6 n6 c6) := ⟨_, rfl⟩
                                rw [← hW9] at s1 s2 hR10
                                rw [show ((wz.setCell ⟨w.heap.size, 0, none⟩ (.int .i64 tv)).setCell ⟨w.heap.size, 1, none⟩ (.int .i64 f0)).setCell ⟨w.heap.size, 2, none⟩ (.slice A6 n6 c6) = W9 from hW9.symm]
                                have d0 : W9.cell? ⟨w.heap.size, 0, none⟩ = some (.int .i64 tv) := s1.cell 0
                                have d1 : W9.cell? ⟨w.heap.size, 1, none⟩ = some (.int .i64 f0) := s1.cell 1
                                have d2 : W9.cell? ⟨w.heap.size, 2, none⟩ = some (.slice A6 n6 c6) := s1.cell 2
                                clear s3 hW9
                                refine bodyPost_ret (v := .tuple #[.agg #[.int .i64 tv, .int .i64 f0, .slice A6 n6 c6], .int .i64 ((E : Int) + 4), .int .i64 0]) (by simp [results, Tryz.results25, go_sem, d0, d1, d2]) rfl ?_
                                rw [HD.out]
                                exact ⟨A6, n6, c6, rfl, hR10, s2, hn6', hm6, ho6⟩
        · have hbe : (er != 0) = true := by rw [bne_iff_ne]; exact her
          have HF : Hid (decodeR xs = (zeroBlk, 0, er)) := Lib.hid (by rw [DH.out (by rw [← HEE.out]; exact her), ← HEE.out])
          clear her
          go_upto_region 13 with fail
          have hn0 : ¬ W.heap.size = w.heap.size := Nat.ne_of_gt HG5.out
          have hn0' : ¬ w.heap.size = W.heap.size := Nat.ne_of_lt HG5.out
          go_region
          all_goals
            go_wp2_with fail
            obtain ⟨s1, s2, _⟩ := stores3 HBq.out HGWq.out (Nat.le_refl _) (.int .i64 0) (.int .i64 0) (.slice none 0 0)
            replace s1 := s1.drew
            replace s2 := grown_toDrew s2
            obtain ⟨W9, hW9⟩ : ∃ W9, W9 = (((wq.setCell ⟨w.heap.size, 0, none⟩ (.int .i64 0)).setCell ⟨w.heap.size, 1, none⟩ (.int .i64 0)).setCell ⟨w.heap.size, 2, none⟩ (.slice none 0 0)).drew := ⟨_, rfl⟩
            rw [← hW9] at s1 s2
            rw [show (((wq.setCell ⟨w.heap.size, 0, none⟩ (.int .i64 0)).setCell ⟨w.heap.size, 1, none⟩ (.int .i64 0)).setCell ⟨w.heap.size, 2, none⟩ (.slice none 0 0)).drew = W9 from hW9.symm]
            have d0 : W9.cell? ⟨w.heap.size, 0, none⟩ = some (.int .i64 0) := s1.cell 0
            have d1 : W9.cell? ⟨w.heap.size, 1, none⟩ = some (.int .i64 0) := s1.cell 1
            have d2 : W9.cell? ⟨w.heap.size, 2, none⟩ = some (.slice none 0 0) := s1.cell 2
            exact bodyPost_ret (v := .tuple #[.agg #[.int .i64 0, .int .i64 0, .slice none 0 0], .int .i64 0, .int .i64 er]) (by simp [results, Tryz.results25, go_sem, d0, d1, d2]) rfl (decOut_bad HF.out s2)
    · have hne : ((x0.toNat : Int) != 84) = true := by rw [bne_iff_ne]; omega
      have HF : Hid (decodeR xs = (zeroBlk, 0, 11)) := by
        cases xs with
        | nil => simp at hx0
        | cons a u =>
          simp only [List.getElem?_cons_zero, Option.some.injEq] at hx0
          subst hx0
          exact Lib.hid (by unfold decodeR decodeBy; simp [h84])
      clear h0 ho h84 hx0
      go_enter Tryz.func25, Tryz.ntmps25
      go_upto_region 1 with fail
      rw [show w.alloc (.cells #[.int .i64 0, .int .i64 0, .slice none 0 0] 53) = W from HW.out.symm]
      go_wp2_with fail
      obtain ⟨s1, s2, _⟩ := stores3 HB0.out HWG.out (Nat.le_refl _) (.int .i64 0) (.int .i64 0) (.slice none 0 0)
      obtain ⟨W9, hW9⟩ : ∃ W9, W9 = ((W.setCell ⟨w.heap.size, 0, none⟩ (.int .i64 0)).setCell ⟨w.heap.size, 1, none⟩ (.int .i64 0)).setCell ⟨w.heap.size, 2, none⟩ (.slice none 0 0) := ⟨_, rfl⟩
      rw [← hW9] at s1 s2
      rw [show ((W.setCell ⟨w.heap.size, 0, none⟩ (.int .i64 0)).setCell ⟨w.heap.size, 1, none⟩ (.int .i64 0)).setCell ⟨w.heap.size, 2, none⟩ (.slice none 0 0) = W9 from hW9.symm]
      have d0 : W9.cell? ⟨w.heap.size, 0, none⟩ = some (.int .i64 0) := s1.cell 0
      have d1 : W9.cell? ⟨w.heap.size, 1, none⟩ = some (.int .i64 0) := s1.cell 1
      have d2 : W9.cell? ⟨w.heap.size, 2, none⟩ = some (.slice none 0 0) := s1.cell 2
      exact bodyPost_ret (v := .tuple #[.agg #[.int .i64 0, .int .i64 0, .slice none 0 0], .int .i64 0, .int .i64 11]) (by simp [results, Tryz.results25, go_sem, d0, d1, d2]) rfl (decOut_bad HF.out s2)
end Go.Proofs.YtaiaoiochbpmfaaGreat
namespace Go.Proofs.YtaiaoiochbpmfaaGreat
open Go Go.RowKit Iv
set_option linter.unusedVariables false
theorem tailP_ok (b : Bytes) (t : UInt8) (first : Int) (n : Nat) (size : Int) (from_ end_ : Nat) : (∀ r ∈ (tailP b t first n size from_ end_).1.recs, RecOk r) ∧ (tailP b t first n size from_ end_).1.recs.length ≤ n := by
  cases h : leftRecs b t n size from_ end_ with
  | none => rw [tailP_none h]; exact ⟨fun r hr => by simp [zeroBlk] at hr, by simp [zeroBlk]⟩
  | some l =>
    obtain ⟨h1, h2, h3⟩ := tailP_some (first := first) h
    rw [h1]
    split
    · exact ⟨h3, Nat.le_of_eq h2⟩
    · exact ⟨fun r hr => by simp [zeroBlk] at hr, by simp [zeroBlk]⟩
theorem decode_ok (b : Bytes) : (∀ r ∈ (Iv.decode b).1.recs, RecOk r) ∧ (Iv.decode b).1.recs.length ≤ 64 := by
  have hz : (∀ r ∈ zeroBlk.recs, RecOk r) ∧ zeroBlk.recs.length ≤ 64 := ⟨fun r hr => by simp [zeroBlk] at hr, by simp [zeroBlk]⟩
  unfold Iv.decode decodeBy
  split
  · exact hz
  · split
    · exact hz
    · split
      · exact hz
      · split
        · exact hz
        · split
          · exact hz
          · rename_i hb
            split
            · exact hz
            · split
              · exact hz
              · have h1 := headBad_false (by simpa using hb)
                exact ⟨(tailP_ok _ _ _ _ _ _ _).1, Nat.le_trans (tailP_ok _ _ _ _ _ _ _).2 (by omega)⟩
end Go.Proofs.YtaiaoiochbpmfaaGreat
namespace Go.Proofs.YtaiaoiochbpmfaaGreat
open Go Go.RowKit Iv
set_option linter.unusedVariables false
def SomeText (n : Nat) (w : World) (e : Ending) (w' : World) : Prop := ∃ s : ByteArray, e = .returned (.string s) ∧ s.size ≤ n ∧ w.grownBy w' none
theorem one_size (b : UInt8) : (ByteArray.mk #[b]).size = 1 := rfl
theorem conv_one (b : UInt8) (W : World) (a : Addr) (h : W.cell? a = some (.int .u8 (b.toNat : Int))) : (convert 22 9 (.slice (some a) 1 1)).run Tryz.prog W = .ok (.string ⟨#[b]⟩) W := by
  have := run_convert_bytes_back (P := Tryz.prog) W 22 9 5 a 1 [b] Tryz.underlying22 Tryz.underlying5 Tryz.underlying9 (fun j hj => by
    have hj0 : j = 0 := by simpa using hj
    subst hj0
    simpa [Addr.add] using h)
  exact this
set_option maxRecDepth 100000 in
set_option maxHeartbeats 3200000 in
theorem spoil_any (s : ByteArray) (at_ how c : Int) (w : World) (hs : s.size ≤ 1000000) (ha : 0 ≤ at_ ∧ at_ ≤ 65535) (hh : 0 ≤ how ∧ how ≤ 65535) (hc : 0 ≤ c ∧ c ≤ 255) :
    Calls Tryz.prog 52 #[.string s, .int .u16 at_, .int .u16 how, .int .u8 c] w (SomeText (2 * s.size + 1) w) := by
  obtain ⟨ha0, ha1⟩ := ha
  obtain ⟨hh0, hh1⟩ := hh
  obtain ⟨b, hbc⟩ : ∃ b : UInt8, (b.toNat : Int) = c := ⟨UInt8.ofNat c.toNat, by rw [ofNat_toNat_lt (by omega)]; omega⟩
  subst hbc
  have kc := fun (W : World) (a : Addr) (h : W.cell? a = some (.int .u8 (b.toNat : Int))) => conv_one b W a h
  have kn := fun (W : World) => conv_one b (W.alloc (.cells #[.int .u8 (b.toNat : Int)] 5)) ⟨W.heap.size, 0, none⟩ (cell_new1 W _ _ 0 _ rfl)
  by_cases h0 : s.toList = []
  · have e1 : (s.toList.isEmpty) = true := by rw [h0]; rfl
    clear h0
    go_enter Tryz.func52, Tryz.ntmps52
    go_wp2_with fail
    go_ret
    exact ⟨_, rfl, by show 1 ≤ _; omega, World.grownBy_alloc w _ none⟩
  · have hsz : s.size ≠ 0 := by
      intro h
      apply h0
      cases s with
      | mk d =>
        have h1 : d.size = 0 := h
        rw [Array.size_eq_zero_iff.1 h1, ByteArray.toList, ByteArray.toList.loop]
        rfl
    have e1 : (s.toList.isEmpty) = false := by rw [List.isEmpty_eq_false_iff]; exact h0
    clear h0
    obtain ⟨i, hi⟩ : ∃ i : Nat, (i : Int) = at_ % (s.size : Int) := ⟨(at_ % (s.size : Int)).toNat, by have := Int.emod_nonneg at_ (show (s.size : Int) ≠ 0 by omega); omega⟩
    have hil : i < s.size := by
      have := Int.emod_lt_of_pos at_ (show (0 : Int) < (s.size : Int) by omega)
      omega
    have hii : at_ % (s.size : Int) = (i : Int) := hi.symm
    have hx1 : (s.extract 0 i).size = i := by simp; omega
    clear hi
    have gA : ∀ o : Obj, w.grownBy (w.alloc o).drew none := fun o => grown_toDrew (World.grownBy_alloc w o none)
    have gD : w.grownBy w.drew none := grown_toDrew (World.grownBy.refl w none)
    have GA := Lib.hid gA
    have GD := Lib.hid gD
    clear gA gD
    rcases (show how % 6 = 0 ∨ how % 6 = 1 ∨ how % 6 = 2 ∨ how % 6 = 3 ∨ how % 6 = 4 ∨ how % 6 = 5 by omega) with m | m | m | m | m | m
    all_goals
      go_enter Tryz.func52, Tryz.ntmps52
      go_wp2_with fail
      first
        | (go_ret; done)
        | (go_region; all_goals (go_wp2_with fail))
        | skip
      all_goals
        go_ret
        first
          | exact ⟨_, rfl, by first | omega | (simp [ByteArray.size_append, ByteArray.size_extract, one_size] <;> omega), GA.out _⟩
          | exact ⟨_, rfl, by first | omega | (simp [ByteArray.size_append, ByteArray.size_extract] <;> omega), GD.out⟩
          | exact ⟨_, rfl, by first | omega | (simp [ByteArray.size_append, ByteArray.size_extract] <;> omega), World.grownBy.refl w none⟩
          | (trace_state; sorry)
end Go.Proofs.YtaiaoiochbpmfaaGreat
namespace Go.Proofs.YtaiaoiochbpmfaaGreat
open Go Go.RowKit Iv
set_option linter.unusedVariables false
set_option linter.unusedSimpArgs false
theorem recNums2 {x : Blk} (h : MadeOk x) : ∀ r ∈ x.recs, RecNums r := fun r hr => ⟨(h.fit r hr).seq, (h.fit r hr).thread, (h.fit r hr).kind, (h.fit r hr).obj, (h.fit r hr).value, (h.fit r hr).site, (h.fit r hr).deps, (h.fit r hr).from_⟩
theorem encode_made2 {x : Blk} (h : MadeOk x) : (x.recs.length = 0 ∧ encode x = ([], 1)) ∨ (0 < x.recs.length ∧ fits x = 0 ∧ encode x = (blkBytes x, 0)) := by
  rcases Nat.eq_zero_or_pos x.recs.length with h0 | h0
  · exact .inl ⟨h0, by unfold encode; rw [h.empty h0, if_neg (by decide)]⟩
  · exact .inr ⟨h0, h.fits h0, by unfold encode; rw [if_pos (h.fits h0)]⟩
theorem blkBytes_pos2 (x : Blk) : 10 ≤ (blkBytes x).length := by
  unfold blkBytes blkBody headBytes
  have p : ∀ n : Int, 1 ≤ (putI n).length := fun n => putI_pos n
  have h1 := p x.first
  have h2 := p x.recs.length
  have h3 := p (putRecs (-1) x.recs).length
  have h4 := p (pack (putRecs (-1) x.recs)).length
  simp only [List.length_append, List.length_cons, sum4_len]
  omega
theorem bytes_of2 (w : World) (s : ByteArray) : ∃ (cap : Nat) (W : World), (convert 9 22 (.string s)).run Tryz.prog w = .ok (.slice (some ⟨w.heap.size, 0, none⟩) s.size cap) W ∧
    Lies W (w.heap.size + 1) 1 (some ⟨w.heap.size, 0, none⟩) s.size (s.data.toList.map bv) ∧ w.grownBy W none ∧ s.size ≤ cap ∧ w.heap.size + 1 ≤ W.heap.size ∧ (s.size ≤ maxLen → cap ≤ maxLen) ∧ (∀ j, s.size + j < cap → (W.cell? ⟨w.heap.size, s.size + j, none⟩).isSome = true ∧ W.frozen? ⟨w.heap.size, s.size + j, none⟩ = false) := by
  refine ⟨_, _, run_bytes_of_string (P := Tryz.prog) w 9 22 5 s Tryz.underlying9 Tryz.underlying22 Tryz.underlying5, ?_, ?_, grownCap_ge w s.size 0 _, by simp, fun h => grownCap_le_maxLen w s.size 0 _ h, fun j hj => ?_⟩
  · refine ⟨by rw [List.length_map, Array.length_toList, Nat.mul_one]; rfl, fun _ => ⟨_, rfl, Nat.lt_succ_self _, fun j u hu => ?_⟩⟩
    have hadd : (⟨w.heap.size, 0, none⟩ : Addr).add j = ⟨w.heap.size, j, none⟩ := by unfold Addr.add; split <;> simp_all
    rw [hadd]
    show (w.drew.alloc _).cell? ⟨w.drew.heap.size, j, none⟩ = _
    rw [World.cell?_alloc_mark]
    unfold bytesRow
    have hj : j < s.data.size := by have := (List.getElem?_eq_some_iff.1 hu).1; simpa using this
    rw [Array.getElem?_append_left (by simpa using hj)]
    simpa [bv] using hu
  · exact grown_drew (World.grownBy_alloc w.drew _ none)
  · have hge := grownCap_ge w s.size 0 5
    have hsz : (bytesRow s (grownCap w s.size 0 5)).size = grownCap w s.size 0 5 := by
      unfold bytesRow
      rw [Array.size_append, Array.size_map, Array.size_replicate]
      show s.size + _ = _
      omega
    have hh : (w.drew.alloc (.cells (bytesRow s (grownCap w s.size 0 5)) 5 ((bytesRow s (grownCap w s.size 0 5)).size, (bytesRow s (grownCap w s.size 0 5)).size + 1))).heap[w.heap.size]? = some (.cells (bytesRow s (grownCap w s.size 0 5)) 5 ((bytesRow s (grownCap w s.size 0 5)).size, (bytesRow s (grownCap w s.size 0 5)).size + 1)) := by
      show (w.heap.push _)[w.heap.size]? = _
      simp
    generalize (w.drew.alloc _) = W at hh ⊢
    constructor
    · have hj2 : s.size + j < (bytesRow s (grownCap w s.size 0 5)).size := by rw [hsz]; exact hj
      simp [World.cell?, hh, hj2]
    · simp only [World.frozen?, hh, Bool.and_eq_false_iff, decide_eq_false_iff_not]
      left
      omega
theorem string_of2 (w : World) (a : Addr) (n c B : Nat) (xs : Bytes) (h : Lies w B 1 (some a) n (xs.map bv)) (hn : 0 < n) : (convert 22 9 (.slice (some a) n c)).run Tryz.prog w = .ok (.string ⟨xs.toArray⟩) w := by
  have hl := h.lenB
  subst hl
  exact run_convert_bytes_back (P := Tryz.prog) w 22 9 5 a c xs Tryz.underlying22 Tryz.underlying5 Tryz.underlying9 (fun j hj => by
    obtain ⟨ad, e, _, hc⟩ := h.2 hn
    injection e with e
    subst e
    exact hc j _ (by simp [List.getElem?_eq_getElem hj, bv]))
def MadeC : Prop := ∀ (w : World) (A1 : Option Addr) (n1 c1 B1 : Nat) (xs : Bytes) (hx : Lies w B1 1 A1 n1 (xs.map bv)) (hc1 : n1 ≤ c1) (hn1 : n1 ≤ 1000) (A2 : Option Addr) (m c2 B2 : Nat) (ys : Bytes) (hy : Lies w B2 1 A2 m (ys.map bv)) (hc2 : m ≤ c2) (hm : m ≤ 100) (tn fn nn : Nat) (htn : tn < 256) (hfn : fn < 256) (hnn : nn < 256),
    Calls Tryz.prog 18 #[.slice A1 n1 c1, .slice A2 m c2, .int .u8 (tn : Int), .int .u8 (fn : Int), .int .u8 (nn : Int)] w fun e w' => MadeR w e w'
def SpoiltOut (w : World) (e : Ending) (w' : World) : Prop := ∃ (A : Option Addr) (n c : Nat) (zs : Bytes), e = .returned (.slice A n c) ∧ Lies w' w'.heap.size 1 A n (zs.map bv) ∧ n ≤ c ∧ c ≤ maxLen ∧ (A = none → c = 0) ∧ n ≤ 1000000 ∧ w.grownBy w' none
theorem string_any (w : World) (A : Option Addr) (n c B : Nat) (xs : Bytes) (h : Lies w B 1 A n (xs.map bv)) (hA : A = none → c = 0) (hnc : n ≤ c) : ∃ s : ByteArray, s.size = n ∧ (convert 22 9 (.slice A n c)).run Tryz.prog w = .ok (.string s) w := by
  cases A with
  | some a =>
    rcases Nat.eq_zero_or_pos n with h0 | h0
    · subst h0
      exact ⟨⟨([] : Bytes).toArray⟩, rfl, run_convert_bytes_back (P := Tryz.prog) w 22 9 5 a c [] Tryz.underlying22 Tryz.underlying5 Tryz.underlying9 (fun j hj => absurd hj (Nat.not_lt_zero j))⟩
    · have hl := h.lenB
      exact ⟨⟨xs.toArray⟩, by show xs.toArray.size = n; simpa using hl, string_of2 w a n c B xs h h0⟩
  | none =>
    obtain rfl : c = 0 := hA rfl
    obtain rfl : n = 0 := by omega
    exact ⟨⟨#[]⟩, rfl, by kernel_rfl⟩
theorem grown_setCells (b : Nat) : ∀ (vs : List Value) (o : Nat) (w : World), w.grownBy (w.setCells b o vs) (some b)
  | [], _, w => World.grownBy.refl w _
  | v :: r, o, w => grown_then (grown_store w b o v) (grown_setCells b r (o + 1) _)
theorem grown_row3 {w0 wr w4 : World} {o : Option Nat} (h : w0.grownBy wr none) (h4 : wr.grownBy w4 o) (ho : ∀ g, o = some g → w0.heap.size ≤ g) : w0.grownBy w4 none :=
  ⟨h4.os.trans h.os, h4.tape.trans h.tape, h4.output.trans h.output, Nat.le_trans h.size h4.size, fun k hk _ => (h4.block k (Nat.lt_of_lt_of_le hk h.size) (fun e => by have := ho k e.symm; omega)).trans (h.block k hk (fun e => nomatch e))⟩
theorem wpList_app_tail {P : Program} (w : World) {ops : Array Oper} {rest : List Oper} {o : Oper} {a : Act} {Q : Exit → Act → World → Prop}
    (hg : o.guard = none) (s x : Operand) (t : TypeId) (hop : o.op = Op.call { callee := Callee.builtin Builtin.append, args := #[s, x], argTypes := #[t, t] })
    (e : TypeId) (i : TypeInfo) (z : Value) (bytes : Nat) (h1 : P.underlying t = some (.slice e)) (h2 : P.info? e = some i) (h3 : i.zero = some z) (h4 : i.size = 1) (h5 : i.bytes = bytes) (h6 : z.cells.size = 1)
    (b n cap : Nat) (olds : List Value) (hs : a.eval s = .slice (some ⟨b, 0, none⟩) n cap) (hlo : olds.length = n) (hb : b < w.heap.size) (holds : ∀ j u, olds[j]? = some u → w.cell? ⟨b, j, none⟩ = some u) (hcm : cap ≤ maxLen)
    (ad : Addr) (m c : Nat) (news : List Value) (hx : a.eval x = .slice (some ad) m c) (hm : 0 < m) (hn : news.length = m) (hc : ∀ j u, news[j]? = some u → w.cell? (ad.add j) = some u) (h1c : ∀ u ∈ news, u.oneCell' = true)
    (hspare : ∀ j, n + j < cap → (w.cell? ⟨b, n + j, none⟩).isSome = true ∧ w.frozen? ⟨b, n + j, none⟩ = false)
    (b1 : n + m ≤ maxLen) (b2 : (n + m) * bytes ≤ 140737488355328)
    (hK : ∀ (A' : Addr) (c' : Nat) w', Lies w' w'.heap.size 1 (some A') (n + m) (olds ++ news) → n + m ≤ c' → c' ≤ maxLen → w.grownBy w' (some b) → wpList P ops Q rest (a.put o.dst (.slice (some A') (n + m) c')) w') :
    wpList P ops Q (o :: rest) a w := by
  refine wpList_append_arg w hg s x t hop e i z 1 bytes h1 h2 h3 h4 h5 h6 Nat.one_pos b 0 n cap olds hs (by omega) (fun j u hj => by rw [Nat.zero_add]; exact holds j u hj) ad m c news hx (by omega) hc h1c (fun hr j hj => by
    have := hspare j (by omega)
    simpa using this) b1 b2 (fun hr => ?_) (fun hgc v' w' hown hgr => ?_)
  · have hin := World.cell?_setCells_in b news n w (fun j hj => (hspare j (by omega)).1)
    simp only [Nat.zero_add, Nat.mul_one] at *
    refine hK ⟨b, 0, none⟩ cap _ ⟨by rw [List.length_append]; omega, fun _ => ⟨_, rfl, Nat.lt_of_lt_of_le hb (grown_setCells b news n w).size, fun j u hu => ?_⟩⟩ hr hcm (grown_setCells b news n w)
    rw [show (⟨b, 0, none⟩ : Addr).add j = ⟨b, j, none⟩ by unfold Addr.add; split <;> simp_all]
    by_cases hj : j < n
    · rw [World.cell?_setCells_out b news n w _ (fun _ _ => .inl hj)]
      rw [List.getElem?_append_left (by omega)] at hu
      exact holds j u hu
    · rw [List.getElem?_append_right (by omega)] at hu
      have hjl := (List.getElem?_eq_some_iff.1 hu).1
      have := hin (j - olds.length) hjl
      rw [show n + (j - olds.length) = j by omega] at this
      rw [this, ← (List.getElem?_eq_some_iff.1 hu).2]
  · obtain ⟨A', c', hv, hnc, hcm', hl, hno⟩ := own_slice hown
    subst hv
    cases A' with
    | none => have := hno rfl; omega
    | some A' => exact hK A' c' w' hl hnc hcm' ⟨hgr.os, hgr.tape, hgr.output, hgr.size, fun k hk _ => hgr.block k hk (fun e => nomatch e)⟩
set_option maxRecDepth 100000 in
set_option maxHeartbeats 3200000 in
theorem spoilt_of (hMC : MadeC) (w : World) (A1 : Option Addr) (n1 c1 B1 : Nat) (xs : Bytes) (hx : Lies w B1 1 A1 n1 (xs.map bv)) (hc1 : n1 ≤ c1) (hn1 : n1 ≤ 1000) (A2 : Option Addr) (m c2 B2 : Nat) (ys : Bytes) (hy : Lies w B2 1 A2 m (ys.map bv)) (hc2 : m ≤ c2) (hm : m ≤ 100) (tn nn : Nat) (at_ how cc : Int) (right : Bool) (htn : tn < 256) (hnn : nn < 256) (ha : 0 ≤ at_ ∧ at_ ≤ 65535) (hh : 0 ≤ how ∧ how ≤ 65535) (hcc : 0 ≤ cc ∧ cc ≤ 255) :
    Calls Tryz.prog 24 #[.slice A1 n1 c1, .slice A2 m c2, .int .u8 (tn : Int), .int .u8 (nn : Int), .int .u16 at_, .int .u16 how, .int .u8 cc, .bool right] w fun e w' => SpoiltOut w e w' := by
  have CM := Lib.hid (hMC w A1 n1 c1 B1 xs hx hc1 hn1 A2 m c2 B2 ys hy hc2 hm tn 0 nn htn (by omega) hnn)
  have HSP := Lib.hid (fun (s : ByteArray) (W : World) (hs : s.size ≤ 1000000) => spoil_any s at_ how cc W hs ha hh hcc)
  clear hx hy hc1 hc2 hn1 hm ha hh hcc htn hnn hMC
  go_enter Tryz.func24, Tryz.ntmps24
  go_wp2_with fail
  refine CM.out.mono ?_
  rintro e w1 ⟨x, A, c, rfl, hR, hM, hnc, ho, g1⟩
  have CE := Lib.hid (encodeR_any x A x.recs.length c w1.heap.size w1 hR (Nat.le_refl _) (recNums2 hM) w1.heap.size (Nat.le_refl _))
  have HM := Lib.hid hM
  have G1 := Lib.hid g1
  clear hR hM hnc ho g1
  go_wp2_with fail
  refine CE.out.mono ?_
  rintro e w2 ⟨v2, rfl, hown, g2⟩
  have G2 := Lib.hid (grown_then G1.out g2)
  have hb := HM.out.bytes
  obtain ⟨A3, c3, hv3, hnc3, hcm3, hl3, hno3⟩ := own_slice hown
  subst hv3
  obtain ⟨P, hP⟩ : ∃ P, P = (encode x).1.length := ⟨_, rfl⟩
  rw [← hP] at hnc3 hl3 hb ⊢
  obtain ⟨zs, hzs⟩ : ∃ zs, zs = (encode x).1 := ⟨_, rfl⟩
  rw [← hzs] at hl3
  have HL3 := Lib.hid hl3
  have H3 := Lib.hid (And.intro hnc3 (And.intro hcm3 hno3))
  have HB := Lib.hid hb
  clear hown g2 hP hzs hl3 hno3 hcm3
  cases right with
  | false =>
    obtain ⟨s0, hs0, kx⟩ := string_any w2 A3 P c3 _ zs HL3.out H3.out.2.2 H3.out.1
    have HS0 := Lib.hid (show s0.size ≤ 200000 by rw [hs0]; exact HB.out)
    clear hs0 hnc3 hb
    go_wp2_with fail
    refine (HSP.out s0 w2 (by have := HS0.out; omega)).mono ?_
    rintro e w4 ⟨s, rfl, hsl, hg4⟩
    obtain ⟨c5, W5, ky, hl5, hg5, hc5, hz5, hcm5, _⟩ := bytes_of2 w4 s
    have HSL := Lib.hid hsl
    clear kx hsl
    go_wp2_with fail
    go_ret
    have h1 := HS0.out
    have h2 := HSL.out
    exact ⟨_, s.size, c5, s.data.toList, rfl, hl5.more hz5, hc5, hcm5 (by unfold maxLen; omega), (fun e => nomatch e), by omega, grown_then (grown_then G2.out hg4) hg5⟩
  | true =>
    by_cases h4 : P < 4
    · have i4 : (P : Int) < 4 := by omega
      obtain ⟨s0, hs0, kx⟩ := string_any w2 A3 P c3 _ zs HL3.out H3.out.2.2 H3.out.1
      have HS0 := Lib.hid (show s0.size ≤ 200000 by rw [hs0]; exact HB.out)
      clear hs0 hnc3 hb
      go_wp2_with fail
      refine (HSP.out s0 w2 (by have := HS0.out; omega)).mono ?_
      rintro e w4 ⟨s, rfl, hsl, hg4⟩
      obtain ⟨c5, W5, ky, hl5, hg5, hc5, hz5, hcm5, _⟩ := bytes_of2 w4 s
      have HSL := Lib.hid hsl
      clear kx hsl
      go_wp2_with fail
      go_ret
      have h1 := HS0.out
      have h2 := HSL.out
      exact ⟨_, s.size, c5, s.data.toList, rfl, hl5.more hz5, hc5, hcm5 (by unfold maxLen; omega), (fun e => nomatch e), by omega, grown_then (grown_then G2.out hg4) hg5⟩
    · obtain ⟨Q, rfl⟩ : ∃ Q, P = Q + 4 := ⟨P - 4, by omega⟩
      obtain ⟨s0, hs0, kx⟩ := string_any w2 A3 Q c3 _ (zs.take Q) (by have := HL3.out.take (m := Q) (by omega); rwa [Nat.mul_one, ← List.map_take] at this) H3.out.2.2 (by omega)
      have HS0 := Lib.hid (show s0.size ≤ 200000 by rw [hs0]; have := HB.out; omega)
      have e4 : wrap64 (Q : Int) = (Q : Int) := IntWalk.wrap64_in _ (by have := HB.out; omega)
      have i4 : ¬ ((Q + 4 : Nat) : Int) < 4 := by omega
      have d4 : decide (((Q + 4 : Nat) : Int) < 4) = false := by simp; omega
      have j0 : (0 : Int) ≤ (Q : Int) := by omega
      have j1 : (Q : Int) ≤ (c3 : Int) := by omega
      obtain ⟨i0, hi, hz0, hz1, hz2⟩ := info_parts info_u8
      have HI := Lib.hid hi
      have HZ0 := Lib.hid hz0
      have HZ1 := Lib.hid hz1
      have HZ2 := Lib.hid hz2
      have hz : (0 : Nat) < 1 := by omega
      clear hs0 hnc3 hb h4 hi hz0 hz1 hz2
      go_wp2_with fail
      refine (HSP.out s0 w2 (by have := HS0.out; omega)).mono ?_
      rintro e w4 ⟨s, rfl, hsl, hg4⟩
      obtain ⟨c5, W5, ky, hl5, hg5, hc5, hz5, hcm5, hsp5⟩ := bytes_of2 w4 s
      obtain ⟨bs, hbs⟩ : ∃ bs, bs = s.data.toList := ⟨_, rfl⟩
      rw [← hbs] at hl5
      obtain ⟨N, hN⟩ : ∃ N, N = s.size := ⟨_, rfl⟩
      rw [← hN] at hl5 ky hc5 hsl hcm5 hsp5
      have hNb : N ≤ 400001 := by have := HS0.out; omega
      have HL5 := Lib.hid hl5
      have HC5 := Lib.hid (And.intro hc5 (hcm5 (by unfold maxLen; omega)))
      have HSP5 := Lib.hid hsp5
      have G5 := Lib.hid (grown_then (grown_then G2.out hg4) hg5)
      have HG4 := Lib.hid (grown_then G2.out hg4).size
      have HZ5 := Lib.hid hz5
      clear kx hsl hg4 hbs hN hc5 hz5 hcm5 hsp5 hg5 e4 i4 d4 j0 j1
      go_wp2_with fail
      refine (sumR_any (some ⟨w4.heap.size, 0, none⟩) N c5 bs W5 _ HL5.out (by omega)).mono ?_
      rintro e w6 ⟨rfl, rfl⟩
      obtain ⟨b1, b2, b3, b4, hb4⟩ := sum4_parts (crc bs)
      have hcl := crc_lt bs
      have hsc := sum4_cells (crc bs) hcl
      rw [hb4] at hsc
      obtain ⟨cs, hcs⟩ : ∃ cs, cs = crc bs := ⟨_, rfl⟩
      rw [← hcs] at hsc hcl ⊢
      have HSC := Lib.hid hsc
      have hbl : w4.heap.size < W5.heap.size := by have := HZ5.out; omega
      have LS := Lib.hid (lies_held (T := 5) (xs := ([b1, b2, b3, b4] : Bytes).map bv) (Held.new W5 _ _))
      rw [← HSC.out] at LS
      obtain ⟨ob, hob⟩ : ∃ ob : Obj, ob = .cells #[.int .u8 ((cs : Int) / 16777216), .int .u8 ((cs : Int) / 65536 % 256), .int .u8 ((cs : Int) / 256 % 256), .int .u8 ((cs : Int) % 256)] 5 := ⟨_, rfl⟩
      have hag := World.grownBy_alloc W5 ob none
      have hbk : (W5.alloc ob).heap[w4.heap.size]? = W5.heap[w4.heap.size]? := hag.block _ hbl (fun e => nomatch e)
      have HH : Hid (∀ j u, (bs.map bv)[j]? = some u → (W5.alloc ob).cell? ⟨w4.heap.size, j, none⟩ = some u) := Lib.hid (fun j u hu => by
        rw [World.cell?_of_block (a := ⟨w4.heap.size, j, none⟩) hbk]
        obtain ⟨ad, hA, _, hc⟩ := HL5.out.2 (by
          have := (List.getElem?_eq_some_iff.1 hu).1
          have := HL5.out.lenB
          rw [List.length_map] at *
          omega)
        injection hA with hA
        subst hA
        have := hc j u hu
        rwa [show (⟨w4.heap.size, 0, none⟩ : Addr).add j = ⟨w4.heap.size, j, none⟩ by unfold Addr.add; split <;> simp_all] at this)
      have HSA : Hid (∀ j, N + j < c5 → ((W5.alloc ob).cell? ⟨w4.heap.size, N + j, none⟩).isSome = true ∧ (W5.alloc ob).frozen? ⟨w4.heap.size, N + j, none⟩ = false) := Lib.hid (fun j hj => by
        rw [World.cell?_of_block (a := ⟨w4.heap.size, N + j, none⟩) hbk, World.frozen?_of_block (a := ⟨w4.heap.size, N + j, none⟩) hbk]
        exact HSP5.out j hj)
      have HBL : Hid (w4.heap.size < (W5.alloc ob).heap.size) := Lib.hid (Nat.lt_of_lt_of_le hbl hag.size)
      have HAG := Lib.hid hag
      have HCE : Hid (∀ j u, (([b1, b2, b3, b4] : Bytes).map bv)[j]? = some u → (W5.alloc ob).cell? ((⟨W5.heap.size, 0, none⟩ : Addr).add j) = some u) := Lib.hid (fun j u hu => by
        rw [hob]
        obtain ⟨ad, hA, _, hc⟩ := LS.out.2 (by simp)
        injection hA with hA
        subst hA
        exact hc j u hu)
      have hlb : (bs.map bv).length = N := by rw [List.length_map]; exact HL5.out.lenB
      have HLB := Lib.hid hlb
      clear hsc hcs hb4 hag hbk hbl LS hlb
      subst hob
      go_wp2_with (at_builtin; refine wpList_app_tail _ rfl (.tmp 56) (.tmp 68) _ rfl 5 i0 (.int .u8 0) 1 Tryz.underlying22 HI.out HZ0.out HZ1.out HZ2.out rfl w4.heap.size N c5 (bs.map bv) rfl HLB.out HBL.out HH.out HC5.out.2 ⟨W5.heap.size, 0, none⟩ 4 4 (([b1, b2, b3, b4] : Bytes).map bv) rfl (by omega) rfl HCE.out (bv_one _) HSA.out (by unfold maxLen; omega) (by omega) ?_; intro A' c' w' hl' hc' hm' hg')
      go_ret
      rw [← List.map_append] at hl'
      exact ⟨some A', N + 4, c', bs ++ [b1, b2, b3, b4], rfl, hl', hc', hm', (fun e => nomatch e), by omega, grown_row3 (grown_then G5.out HAG.out) hg' (fun g e => by injection e with e; have := HG4.out; omega)⟩
end Go.Proofs.YtaiaoiochbpmfaaGreat
namespace Go.Proofs.YtaiaoiochbpmfaaGreat
open Go Go.RowKit Iv
set_option linter.unusedVariables false
set_option linter.unusedSimpArgs false
set_option maxRecDepth 100000 in
set_option maxHeartbeats 3200000 in
theorem blockSpoilt_of (hMC : MadeC) (A1 : Option Addr) (n1 c1 : Nat) (xs : Bytes) (A2 : Option Addr) (n2 c2 : Nat) (ys : Bytes) (a2 a3 a4 a5 a6 : Int) (right : Bool) (w : World) (hL1 : Lies w w.heap.size 1 A1 n1 (xs.map bv)) (hnc1 : n1 ≤ c1) (hcm1 : c1 ≤ maxLen) (ho1 : A1 = none → c1 = 0) (hL2 : Lies w w.heap.size 1 A2 n2 (ys.map bv)) (hnc2 : n2 ≤ c2) (hcm2 : c2 ≤ maxLen) (ho2 : A2 = none → c2 = 0) (hf2 : 0 ≤ a2 ∧ a2 ≤ 255) (hf3 : 0 ≤ a3 ∧ a3 ≤ 255) (hf4 : 0 ≤ a4 ∧ a4 ≤ 65535) (hf5 : 0 ≤ a5 ∧ a5 ≤ 65535) (hf6 : 0 ≤ a6 ∧ a6 ≤ 255) :
    Calls Tryz.prog 6 #[.slice A1 n1 c1, .slice A2 n2 c2, .int .u8 a2, .int .u8 a3, .int .u16 a4, .int .u16 a5, .int .u8 a6, .bool right] w fun e w' => e = .returned (.bool true) ∧ Below w.heap.size w w' := by
  have HBEL := Lib.hid (fun w' (hg : w.grownBy w' none) => belGr (Below.refl w.heap.size w) hg)
  obtain ⟨tn, rfl⟩ : ∃ tn : Nat, a2 = (tn : Int) := ⟨a2.toNat, by omega⟩
  obtain ⟨nn, rfl⟩ : ∃ nn : Nat, a3 = (nn : Int) := ⟨a3.toNat, by omega⟩
  unfold maxLen at hcm1 hcm2
  by_cases hb1 : 200 < n1
  · clear ho1 ho2
    go_enter Tryz.func6, Tryz.ntmps6
    go_wp2_with fail
    go_ret
    exact ⟨rfl, Below.refl _ _⟩
  by_cases hb2 : 100 < n2
  · clear ho1 ho2
    go_enter Tryz.func6, Tryz.ntmps6
    go_wp2_with fail
    go_ret
    exact ⟨rfl, Below.refl _ _⟩
  have CS0 := Lib.hid (spoilt_of hMC w A1 n1 c1 w.heap.size xs hL1 hnc1 (by omega) A2 n2 c2 w.heap.size ys hL2 hnc2 (by omega) tn nn a4 a5 a6 right (by omega) (by omega) hf4 hf5 hf6)
  clear ho1 ho2 hL1 hL2 hf2 hf3 hf4 hf5 hf6 hMC
  go_enter Tryz.func6, Tryz.ntmps6
  go_wp2_with fail
  refine CS0.out.mono ?_
  rintro e w0 ⟨A, n, c, zs, rfl, hl, hnc, hcm, ho, hn6, g0⟩
  have CP := Lib.hid (decodeP_any A n c _ zs w0 hl (Nat.le_refl _) hnc hcm ho hn6)
  have CR := Lib.hid (fun (w1 : World) (hg : w0.grownBy w1 none) => decodeR_any A n c _ zs w1 (hl.grown hg (Nat.le_refl _) (fun _ e => nomatch e)) hg.size hnc hcm ho hn6)
  obtain ⟨hok, hlen⟩ := decode_ok zs
  obtain ⟨x, k, er, hd⟩ : ∃ x k er, Iv.decode zs = (x, k, er) := ⟨_, _, _, rfl⟩
  rw [hd] at CP CR hok hlen
  dsimp only at hok hlen
  have HOK := Lib.hid hok
  have e1 : (er == er) = true := by simp
  have e2 : ((k : Int) == (k : Int)) = true := by simp
  unfold maxLen at hcm
  clear hd ho hok hl
  go_wp2_with fail
  refine CP.out.mono ?_
  rintro e w1 ⟨A1, n1, c1, rfl, hR1, hg1, hn1, hm1, ho1⟩
  dsimp only at hR1 ⊢
  obtain ⟨W1, hW1⟩ : ∃ W1, W1 = w1.alloc (.cells #[.int .i64 x.thread, .int .i64 x.first, .slice A1 n1 c1] 53) := ⟨_, rfl⟩
  have hgw1 : w1.grownBy W1 none := by rw [hW1]; exact World.grownBy_alloc w1 _ none
  have hb1 : Held W1 w1.heap.size 53 #[.int .i64 x.thread, .int .i64 x.first, .slice A1 n1 c1] := by rw [hW1]; exact Held.new _ _ _
  have HW1 := Lib.hid hW1
  have HB1 := Lib.hid hb1
  have HR1 := Lib.hid (hR1.keep hgw1 (fun _ e => nomatch e))
  have hn1e : n1 ≤ 64 := by rw [← hR1.1]; exact hlen
  have hg01 := grownBy_trans hg1 hgw1 (.inl rfl)
  clear hW1 hb1 hR1
  go_upto_region 5 with fail
  rw [show w1.alloc (.cells #[.int .i64 x.thread, .int .i64 x.first, .slice A1 n1 c1] 53) = W1 from HW1.out.symm]
  go_wp2_with fail
  refine (CR.out W1 hg01).mono ?_
  rintro e w2 ⟨A2, n2, c2, rfl, hR2, hg2, hn2, hm2, ho2⟩
  dsimp only at hR2 ⊢
  obtain ⟨W2, hW2⟩ : ∃ W2, W2 = w2.alloc (.cells #[.int .i64 x.thread, .int .i64 x.first, .slice A2 n2 c2] 53) := ⟨_, rfl⟩
  have hgw2 : w2.grownBy W2 none := by rw [hW2]; exact World.grownBy_alloc w2 _ none
  have hb2 : Held W2 w2.heap.size 53 #[.int .i64 x.thread, .int .i64 x.first, .slice A2 n2 c2] := by rw [hW2]; exact Held.new _ _ _
  have hg12 := grownBy_trans hg2 hgw2 (.inl rfl)
  have hb1' := HB1.out.grown hg12 (fun e => nomatch e)
  have HW2 := Lib.hid hW2
  have hR1' := (HR1.out.keep hg12 (fun _ e => nomatch e)).recs
  have hR2' := (hR2.keep hgw2 (fun _ e => nomatch e)).recs
  have CS := Lib.hid (same13_yes x A1 n1 c1 A2 n2 c2 W2.heap.size W2 hR1' hR2' (Nat.le_refl _) HOK.out (by omega))
  have v0 : W2.cell? ⟨w1.heap.size, 0, none⟩ = some (.int .i64 x.thread) := hb1'.cell 0
  have v1 : W2.cell? ⟨w1.heap.size, 1, none⟩ = some (.int .i64 x.first) := hb1'.cell 1
  have v2 : W2.cell? ⟨w1.heap.size, 2, none⟩ = some (.slice A1 n1 c1) := hb1'.cell 2
  have u0 : W2.cell? ⟨w2.heap.size, 0, none⟩ = some (.int .i64 x.thread) := hb2.cell 0
  have u1 : W2.cell? ⟨w2.heap.size, 1, none⟩ = some (.int .i64 x.first) := hb2.cell 1
  have u2 : W2.cell? ⟨w2.heap.size, 2, none⟩ = some (.slice A2 n2 c2) := hb2.cell 2
  have hg02 := grownBy_trans hg01 hg12 (.inl rfl)
  clear hW2 hb2 hR2 hb1' hR1' hR2'
  go_upto_region 6 with fail
  rw [show w2.alloc (.cells #[.int .i64 x.thread, .int .i64 x.first, .slice A2 n2 c2] 53) = W2 from HW2.out.symm]
  go_wp2_with fail
  refine CS.out.mono ?_
  rintro e w3 ⟨rfl, hg3⟩
  have bel3 := HBEL.out _ (grown_then g0 (grownBy_trans hg02 hg3 (.inl rfl)))
  clear v0 v1 v2 u0 u1 u2
  go_wp2_with fail
  refine (awake13_any _).mono ?_
  rintro e w4 ⟨rfl, hb4⟩
  go_wp2_with fail
  go_ret
  exact ⟨rfl, bel3.trans (hb4.mono bel3.size)⟩
end Go.Proofs.YtaiaoiochbpmfaaGreat
