/- The functions that Trace needs: the code of a program. -/
import Derived.Test.YtaiaoiochbpmfaaGreatFza
namespace AM
open Go Go.Proofs Mk
set_option linter.unusedVariables false
set_option linter.unusedSimpArgs false
set_option maxRecDepth 20000
set_option maxHeartbeats 8000000
def us60 : Nat → List (Nat × Nat) := fun i => if i = 9 then [(1, 3), (1, 5), (1, 7)] else if i = 14 then [(3, 8), (3, 10), (8, 10)] else if i = 22 then [(1, 4), (1, 5)] else []
@[go_sem] def cbox (n : Nat) (ss : List (Nat × Nat)) (r k : Nat) : Obj := .box [.pv (.sl (ceL.map CeR.r)), .pv (.sl (lkL.map lkR)), .pv (.sl (cdL.map cdR)), .pv (.sl (strR fuL)), .pv (.sl (strR (thNames n))), .pv (.sl (ss.map siR)), .own r k]
abbrev tcO (l : List (Int × List In)) : Obj := .row 155 2 (l.map tcR)
def cE (i next : Nat) : List (Nat × AV) := [(1, .ptr 0 0), (2, .ptr 1 0), (7, .ptr 2 0), (8, .pv (intP next)), (9, .pv (intP i))]
attribute [go_sem] cE
def cS (bs : List (List Sm)) (i : Nat) : List (Option Obj) := [some (.box ((pgR bs).map .pv)), some (.box [.emp, .emp, .emp, .emp, .emp, .emp, .emp]), some (cbox bs.length (sitesF 0 bs) 3 (codeF bs.length 0 (bs.take i)).length), some (tcO (codeF bs.length 0 (bs.take i)))]
attribute [go_sem] cS
attribute [local go_sem] List.set_cons_zero List.set_cons_succ
theorem program6_ok (bs : List (List Sm)) (hp : PgOk bs) (hz : progF bs = 0) : FnEq Tryz.prog 60 [rw_ (pgR bs)] (.tup [rw_ (coR bs.length (sitesF 0 bs) (codeF bs.length 0 bs)), .pv (intP 0), .pv (intP 0)]) := by
  have h4 := hp.n4
  have h60 := (progF_zero hz).1
  refine wf Tryz.func60 us60 (h := fun R hR => ?_)
  refine wb ?_ <;> intros
  refine wE hp.check ?_
  rw [hz]
  refine wb ?_ <;> intros
  refine wE (world_ok bs hp hz) ?_
  refine wb ?_ <;> intros
  refine sr_ghost 128 6 155 2 rfl rfl ?_
  refine wl (fun i : Nat => cE i (cntP (bs.take i))) (fun i => cS bs i) (fun i => i ≤ bs.length) (fun i => bs.length - i) 0 (Nat.zero_le _) (vm [0, 8, 128, 160] (hO := by refine ws ?_; and_intros <;> rfl)) (fun i hi => ?_)
  have hle0 := cntP_le bs i
  refine ws ?_
  refine w0 ?_
  refine wg ?_
  (refine cr_cnd rfl ?_; refine ws ?_; first | (refine ⟨fun _ => ?_, fun _ => ?_⟩ <;> first | (exfalso; omega) | skip) | (rw [cnd_var]; refine ⟨fun _ => ?_, fun _ => ?_⟩) | skip)
  · have h2 : i < bs.length := by omega
    have hta := cntP_take bs i h2
    have hle := cntP_le bs (i + 1)
    refine w0 ?_
    refine cr_reg rfl ?_
    refine wa ?_
    refine row_map (x := (bs[i], i)) (by omega) (by simp <;> omega) rfl ?_
    refine wa ?_
    generalize hb : bs[i] = b at hta
    refine sr_ghost 124 7 176 6 rfl rfl ?_
    refine wb ?_ <;> intros
    refine row_map (x := (b, i)) (by omega) (by simp [h2, hb]) rfl ?_
    refine wb ?_ <;> intros
    refine wq (gen_all bs.length h4 (cntL b + 1) b (by omega) (sitesF 0 bs) [] 0 (cntP (bs.take i)) (by simp; omega) (by omega)) [124, 140] ?_
    rintro r g ⟨rfl, site', rfl⟩
    have hgl := genL_len bs.length 0 (cntP (bs.take i)) b
    rw [List.nil_append, List.length_nil]
    refine wb ?_ <;> intros
    refine wq (put_ok bs.length (sitesF 0 bs) (genL bs.length 0 (cntP (bs.take i)) b) (-1) ((cntP (bs.take i) + cntL b : Nat) : Int) ⟨28, 0, 0, 0, 0, 0⟩ (by omega)) [124, 197] ?_
    rintro r g ⟨rfl, rfl⟩
    have hbi : bs[i]? = some b := by rw [← hb]; exact List.getElem?_eq_getElem h2
    have hcg := codeF_get bs.length bs 0 i b hbi
    rw [Nat.zero_add] at hcg
    have G := (good_prog hz).2.2 i _ _ hcg
    have hO : genT bs.length (cntP (bs.take i)) b = genL bs.length 0 (cntP (bs.take i)) b ++ [⟨28, 0, 0, 0, 0, -1⟩] := rfl
    rw [show (⟨28, 0, 0, 0, 0, 0⟩ : In).op = 28 from rfl, ← hO]
    have hOl : (genT bs.length (cntP (bs.take i)) b).length = (genL bs.length 0 (cntP (bs.take i)) b).length + 1 := by rw [hO]; simp
    have hsn : codeF bs.length 0 (bs.take (i + 1)) = codeF bs.length 0 (bs.take i) ++ [(regsF (genT bs.length (cntP (bs.take i)) b), genT bs.length (cntP (bs.take i)) b)] := by
      rw [takeI_snoc hbi, codeF_snoc, Nat.zero_add]
    generalize genT bs.length (cntP (bs.take i)) b = O at G hO hOl hsn ⊢
    refine wb ?_ <;> intros
    refine wl (fun k : Nat => cE i (cntP (bs.take i) + cntL b) ++ [(10, .ptr 4 0), (11, .ptr 5 0), (12, .pv (intP k))]) (fun k => cS bs i ++ [some (.box ((wldR bs.length (sitesF 0 bs)).map .pv ++ [.pv (.sl (strR loNames)), .pv (.sl (O.map In.r)), .pv (intP (-1)), .pv (intP ((cntP (bs.take i) + cntL b : Nat) : Int))])), some (.box [.pv (intP (regsG 2 (O.take k))), .pv (.sl (O.map In.r))])]) (fun k => k ≤ O.length) (fun k => O.length - k) 0 (Nat.zero_le _) (vm [0, 1, 2, 3, 124, 381] [(293, none)]) (fun k hk => ?_)
    refine wb (A2.mk ?_ ?_) <;> intros
    · have hk2 : k < O.length := by omega
      have hR2 := regsG_snoc O[k] (O.take k) 2
      rw [← takeI_snoc (List.getElem?_eq_getElem hk2)] at hR2
      have hri := G.regs k O[k] (List.getElem?_eq_getElem hk2)
      have hr5 := G.r1
      have hrl := regsI_len O[k]
      generalize hx : O[k] = x at hR2 hri hrl
      refine row_map (x := x) (by omega) (by simp [hk2, hx]) rfl ?_
      refine wb ?_ <;> intros
      refine wE (registers_ok x) ?_
      refine wb ?_ <;> intros
      refine wl (fun j : Nat => cE i (cntP (bs.take i) + cntL b) ++ [(10, .ptr 4 0), (11, .ptr 5 0), (12, .pv (intP k)), (13, .pv (.sl (inL (regsI x)))), (14, .pv (intP j))]) (fun j => cS bs i ++ [some (.box ((wldR bs.length (sitesF 0 bs)).map .pv ++ [.pv (.sl (strR loNames)), .pv (.sl (O.map In.r)), .pv (intP (-1)), .pv (intP ((cntP (bs.take i) + cntL b : Nat) : Int))])), some (.box [.pv (intP (regMax (regsG 2 (O.take k)) ((regsI x).take j))), .pv (.sl (O.map In.r))])]) (fun j => j ≤ (regsI x).length) (fun j => (regsI x).length - j) 0 (Nat.zero_le _) (vm [0, 1, 2, 3, 4, 5]) (fun j hj => ?_)
      refine wb (A2.mk ?_ ?_) <;> intros
      · have hj2 : j < (regsI x).length := by omega
        have hrj := hri _ (List.getElem_mem hj2)
        have hms := regMax_snoc (regsI x)[j] ((regsI x).take j) (regsG 2 (O.take k))
        rw [← takeI_snoc (List.getElem?_eq_getElem hj2)] at hms
        refine row_map (x := (regsI x)[j]) (by omega) (by simp [hj2]) rfl ?_
        refine wb ?_ <;> intros
        refine sr_mark ⟨j + 1, hj2, by omega, ?_⟩
        rw [hms]
        exact vm [0, 1, 2, 3, 4, 5]
      · obtain rfl : j = (regsI x).length := by omega
        rw [List.take_length, ← hR2]
        refine wb ?_ <;> intros
        exact sr_mark ⟨k + 1, hk2, by omega, vm [0, 1, 2, 3, 4, 5]⟩
    · obtain rfl : k = O.length := by omega
      rw [List.take_length]
      refine wb ?_ <;> intros
      refine And.intro (by rw [codeF_len]; simp; omega) ?_
      refine wb ?_ <;> intros
      have hF : regsF O = regsG 2 O := rfl
      rw [hF] at hsn
      refine sr_mark ⟨i + 1, h2, by omega, ?_⟩
      rw [hta]
      exact vm [0, 1, 2, 94] (hO := by refine ws ?_; rw [hsn]; simp; rfl)
  · obtain rfl : i = bs.length := by omega
    rw [List.take_length]
    refine wb ?_ <;> intros
    exact wr hR [(3, none)]
end AM

/- The functions that Trace needs: what a good code is: objects, where it lands. -/
namespace AM
open Go Go.Proofs Mk
set_option linter.unusedVariables false
set_option linter.unusedSimpArgs false
set_option maxRecDepth 20000
set_option maxHeartbeats 8000000
theorem in6_v (i n : Int) (h : 0 ≤ i ∧ i < n) : FnEq Tryz.prog 95 [.pv (intP i), .pv (intP n)] (.pv (boolP true)) := by
  have := in6_ok i n
  rwa [decide_eq_true h.1, decide_eq_true h.2] at this
theorem array_ok (n : Nat) (ss : List (Nat × Nat)) : FnEq Tryz.prog 112 [rw_ (wldR n ss), .pv (intP 3), .pv (intP 2)] (.pv (boolP true)) := by
  refine wf Tryz.func112 (fun _ => []) (h := fun R hR => ?_)
  refine wb ?_ <;> intros
  refine wE (in6_v 3 5 (by decide)) ?_
  repeat (refine wb ?_ <;> intros; refine row_get (by omega) rfl rfl ?_)
  refine wb ?_ <;> intros
  exact wr hR
theorem objects_ok (n : Nat) (ss : List (Nat × Nat)) (i : In) (h1 : 1 ≤ i.op) (h2 : i.op ≤ 28) (ho : ObjI n i) : FnEq Tryz.prog 93 [rw_ (wldR n ss), rw_ i.r] (.pv (boolP true)) := by
  obtain ⟨op, a, b, c, nn, st⟩ := i
  obtain ⟨o3, o4, o6, o7, o8, o9, o11, o13, o21, o24, o26, o27⟩ := ho
  dsimp only at h1 h2 o3 o4 o6 o7 o8 o9 o11 o13 o21 o24 o26 o27
  rcases (show op = 1 ∨ op = 2 ∨ op = 4 ∨ op = 5 ∨ op = 6 ∨ op = 7 ∨ op = 8 ∨ op = 9 ∨ op = 10 ∨ op = 11 ∨ op = 12 ∨ op = 13 ∨ op = 14 ∨ op = 15 ∨ op = 16 ∨ op = 17 ∨ op = 18 ∨ op = 19 ∨ op = 20 ∨ op = 21 ∨ op = 22 ∨ op = 23 ∨ op = 24 ∨ op = 25 ∨ op = 26 ∨ op = 27 ∨ op = 28 by omega) with rfl | rfl | rfl | rfl | rfl | rfl | rfl | rfl | rfl | rfl | rfl | rfl | rfl | rfl | rfl | rfl | rfl | rfl | rfl | rfl | rfl | rfl | rfl | rfl | rfl | rfl | rfl
  all_goals
    refine wf Tryz.func93 (fun _ => []) (h := fun R hR => ?_)
    refine wb ?_ <;> intros
  all_goals first | exact wr hR | skip
  all_goals first
    | (obtain ⟨rfl, rfl⟩ := o7 rfl; refine wE (array_ok n ss) ?_; refine wb ?_ <;> intros; exact wr hR)
    | (obtain ⟨rfl, rfl⟩ := o9 rfl; refine wE (array_ok n ss) ?_; refine wb ?_ <;> intros; exact wr hR)
    | (obtain rfl := o26 rfl; refine wE (in6_v 0 1 (by decide)) ?_; refine wb ?_ <;> intros; exact wr hR)
    | (obtain rfl := o27 rfl; refine wE (in6_v 0 1 (by decide)) ?_; refine wb ?_ <;> intros; exact wr hR)
    | (obtain rfl := o21 (by decide); refine wE (in6_v 0 1 (by decide)) ?_; refine wb ?_ <;> intros; exact wr hR)
    | (obtain rfl := o13 (by decide); refine wE (in6_v 2 3 (by decide)) ?_; refine wb ?_ <;> intros; refine row_get (by omega) rfl rfl ?_; refine wb ?_ <;> intros; exact wr hR)
    | (have hb := o24 (by decide); refine wE (in6_v a (thNames n).length (by rw [thNames_len]; omega)) ?_; refine wb ?_ <;> intros; exact wr hR)
    | skip
  all_goals first
    | (have hb := o6 rfl; obtain rfl | rfl | rfl := (show b = 0 ∨ b = 1 ∨ b = 2 by omega))
    | (have hb := o8 rfl; obtain rfl | rfl | rfl := (show a = 0 ∨ a = 1 ∨ a = 2 by omega))
    | (have hb := o11 (by decide); obtain rfl | rfl := (show a = 0 ∨ a = 1 by omega))
  all_goals first
    | refine wE (in6_v 0 5 (by decide)) ?_
    | refine wE (in6_v 1 5 (by decide)) ?_
    | refine wE (in6_v 2 5 (by decide)) ?_
    | refine wE (in6_v 0 3 (by decide)) ?_
    | refine wE (in6_v 1 3 (by decide)) ?_
  all_goals (refine wb ?_ <;> intros; refine row_get (by omega) rfl rfl ?_; refine wb ?_ <;> intros; exact wr hR)
end AM

/- The functions that Trace needs: the names of a world. -/
namespace AM
open Go Go.Proofs Mk
set_option linter.unusedVariables false
set_option linter.unusedSimpArgs false
set_option maxRecDepth 20000
set_option maxHeartbeats 8000000
def nmL (n : Nat) : List ByteArray := [⟨#[120]⟩, ⟨#[121]⟩, ⟨#[118]⟩, ⟨#[113]⟩, ⟨#[109]⟩, ⟨#[110]⟩, ⟨#[114]⟩, ⟨#[99]⟩, ⟨#[102]⟩] ++ thNames n
attribute [local go_sem] rep
theorem names_ok (n : Nat) (ss : List (Nat × Nat)) (hn : n ≤ 4) : FnEq Tryz.prog 90 [rw_ (wldR n ss)] (.tup [.pv (.sl (strR (nmL n))), .pv (boolP true)]) := by
  refine wf Tryz.func90 (fun _ => []) (h := fun R hR => ?_)
  refine wb ?_ <;> intros
  refine sr_ghostE 4 9 1 (by exact we) ?_
  refine wn 5 ?_
  refine wb ?_ <;> intros
  iterate 3 (refine row_get (by omega) rfl rfl ?_; refine wb ?_ <;> intros)
  refine row_get (by omega) rfl rfl ?_
  refine wb ?_ <;> intros
  refine wn 3 ?_
  refine wb ?_ <;> intros
  refine row_get (by omega) rfl rfl ?_
  refine wb ?_ <;> intros
  refine row_get (by omega) rfl rfl ?_
  refine wb ?_ <;> intros
  refine wn 4 ?_
  refine wb ?_ <;> intros
  iterate 3 (refine row_get (by omega) rfl rfl ?_; refine wb ?_ <;> intros)
  refine wn 2 ?_
  refine wb ?_ <;> intros
  refine row_get (by omega) rfl rfl ?_
  refine wb ?_ <;> intros
  refine And.intro (by rw [thNames_len]; omega) ?_
  refine wb ?_ <;> intros
  exact wr hR [(2577, none)] (hE := by refine ws ?_; and_intros <;> first | rfl | (unfold nmL; rw [List.length_append]; rfl))
end AM

/- The functions that Trace needs: a world is good. -/
namespace AM
open Go Go.Proofs Mk
set_option linter.unusedVariables false
set_option linter.unusedSimpArgs false
set_option maxRecDepth 20000
set_option maxHeartbeats 8000000
def us72 : Nat → List (Nat × Nat) := fun i => if i = 9 then [(9, 12), (9, 13)] else if i = 23 then [(4, 11), (7, 11), (9, 11)] else if i = 24 then [(8, 15), (11, 15), (13, 15)] else if i = 26 then [(1, 3), (1, 6), (1, 8)] else []
def nmB (n : Nat) : Bool := (List.range (9 + n)).all fun k => match (nmL n)[k]? with
  | some x => nameB x && decide (atI ((nmL n).take k) x = -1)
  | none => true
theorem nmL_len (n : Nat) : (nmL n).length = 9 + n := by unfold nmL; rw [List.length_append, thNames_len]; rfl
theorem nm_ok {n : Nat} (hn : n ≤ 4) {k : Nat} {x : ByteArray} (h : (nmL n)[k]? = some x) : nameB x = true ∧ atI ((nmL n).take k) x = -1 := by
  have hk := (List.getElem?_eq_some_iff.1 h).1
  rw [nmL_len] at hk
  have : nmB n = true := by
    rcases (show n = 0 ∨ n = 1 ∨ n = 2 ∨ n = 3 ∨ n = 4 by omega) with rfl | rfl | rfl | rfl | rfl <;> kernel_rfl
  unfold nmB at this
  have := List.all_eq_true.1 this k (List.mem_range.2 hk)
  rw [h] at this
  simpa using this
theorem take_mg {α β : Type} (f : α → β) (l : List α) (k : Nat) : (l.map f).take k = (l.take k).map f := List.map_take.symm
attribute [local go_sem] thNames_len take_mg rep
theorem site_le {n : Nat} {ss : List (Nat × Nat)} (h : SiteOk n ss) : ∀ (i : Nat) (x : Nat × Nat), ss[i]? = some x → x.2 ≤ i
  | 0, x, hx => by
    rcases (h 0 x hx).2 with ⟨_, h2⟩ | ⟨j, y, h1, _⟩
    · omega
    · omega
  | i + 1, x, hx => by
    rcases (h (i + 1) x hx).2 with ⟨_, h2⟩ | ⟨j, y, h1, h2, h3⟩
    · omega
    · obtain rfl : i = j := by omega
      have := site_le h i y h2
      omega
theorem validWorld_ok (n : Nat) (ss : List (Nat × Nat)) (h1 : 1 ≤ n) (hn : n ≤ 4) (hss : ss.length ≤ 60) (hs : SiteOk n ss) : FnEq Tryz.prog 72 [rw_ (wldR n ss)] (.pv (boolP true)) := by
  refine wf Tryz.func72 us72 (h := fun R hR => ?_)
  refine wb ?_ <;> intros
  all_goals try omega
  refine wE (names_ok n ss hn) ?_
  refine wb ?_ <;> intros
  refine wl (fun k : Nat => [(1, .ptr 0 0), (3, .pv (.sl (strR (nmL n)))), (5, .pv (intP k))]) (fun _ => [some (.box ((wldR n ss).map .pv))]) (fun k => k ≤ (nmL n).length) (fun k => (nmL n).length - k) 0 (Nat.zero_le _) (vm [0]) (fun k hk => ?_)
  refine wb (A2.mk ?_ ?_) <;> intros
  · have h2 : k < (nmL n).length := by omega
    have hg := List.getElem?_eq_getElem h2
    obtain ⟨q1, q2⟩ := nm_ok hn hg
    have hl := nmL_len n
    generalize (nmL n)[k] = x at hg q1 q2
    have hgm : (strR (nmL n))[k]? = some [strP x] := by simp [hg]
    refine row_get (by omega) hgm rfl ?_
    refine wb ?_ <;> intros
    refine wE (isName_ok x q1) ?_
    refine wb ?_ <;> intros
    refine row_get (by omega) hgm rfl ?_
    refine wb ?_ <;> intros
    refine wE (at_v ((nmL n).take k) x (-1) (by simp; omega) q2) ?_
    refine wb ?_ <;> intros
    exact sr_mark ⟨k + 1, h2, by omega, vm [0]⟩
  · refine wn 2 ?_
    refine wb ?_ <;> intros
    iterate 2 (refine row_get (by omega) rfl rfl ?_; refine wb ?_ <;> intros)
    refine wl (fun k : Nat => [(1, .ptr 0 0), (8, .pv (intP k))]) (fun _ => [some (.box ((wldR n ss).map .pv))]) (fun k => k ≤ ss.length) (fun k => ss.length - k) 0 (Nat.zero_le _) (vm [0]) (fun k hk => ?_)
    refine wb (A2.mk ?_ ?_) <;> intros
    · have h2 : k < ss.length := by omega
      have hg := List.getElem?_eq_getElem h2
      have hsk := hs k _ hg
      generalize ss[k] = x at hg hsk
      obtain ⟨th, m⟩ := x
      obtain ⟨z1, z2⟩ := hsk
      dsimp only at z1 z2
      refine row_map (x := (th, m)) (by omega) (by simpa using hg) rfl ?_
      refine wb (A2.mk ?_ ?_) <;> intros
      all_goals try omega
      · exact sr_mark ⟨k + 1, h2, by omega, vm [0]⟩
      · rcases z2 with ⟨rfl, rfl⟩ | ⟨j, ⟨yt, ym⟩, rfl, hy, z3⟩
        · exact absurd (Eq.refl (((0 : Nat) : Int))) (by assumption)
        dsimp only at z3
        have hym := site_le hs j _ hy
        dsimp only at hym
        refine row_map (x := (yt, ym)) (by omega) (by simpa using hy) rfl ?_
        refine wb (A2.mk ?_ ?_) <;> intros
        all_goals try (exfalso; omega)
        all_goals (refine row_map (x := (yt, ym)) (by omega) (by simpa using hy) rfl ?_; refine wb ?_ <;> intros)
        all_goals try (exfalso; omega)
        all_goals exact sr_mark ⟨j + 1 + 1, h2, by omega, vm [0]⟩
    · exact wr hR
end AM

/- The functions that Trace needs: from everywhere an event is reached. -/
namespace AM
open Go Go.Proofs Mk
set_option linter.unusedVariables false
set_option linter.unusedSimpArgs false
set_option maxRecDepth 20000
set_option maxHeartbeats 8000000
theorem lands_ok (l : List In) (at0 : Int) (hl : l.length ≤ 500) (h0 : -10 ≤ at0 ∧ at0 ≤ 1000) (hj : ∀ i ∈ l, 1 ≤ i.op ∧ (i.op = 5 → 0 ≤ i.a ∧ i.a ≤ 1000)) (h : landsF l (l.length + 1) at0 = true) : FnEq Tryz.prog 94 [.pv (.sl (l.map In.r)), .pv (intP at0)] (.pv (boolP true)) := by
  refine wf Tryz.func94 (fun _ => []) (h := fun R hR => ?_)
  refine wb ?_ <;> intros
  refine wl (fun u : Nat × Int => [(0, .pv (.sl (l.map In.r))), (1, .pv (intP u.2)), (5, .pv (intP u.1))]) (fun _ => []) (fun u => u.1 ≤ l.length + 1 ∧ landsF l (l.length + 1 - u.1) u.2 = true ∧ -10 ≤ u.2 ∧ u.2 ≤ 1000) (fun u => l.length + 1 - u.1) (0, at0) ⟨Nat.zero_le _, h, h0⟩ (vm []) (fun ⟨k, t⟩ ⟨hk, hL, ht1, ht2⟩ => ?_)
  dsimp only at hk hL ht1 ht2
  obtain ⟨f, hf⟩ : ∃ f, l.length + 1 - k = f := ⟨_, rfl⟩
  rw [hf] at hL
  cases f with
  | zero => simp [landsF] at hL
  | succ f =>
    simp only [landsF] at hL
    split at hL
    · cases hL
    · rename_i hr
      have hlt : t.toNat < l.length := by omega
      rw [List.getElem?_eq_getElem hlt] at hL
      dsimp only at hL
      have hm := hj l[t.toNat] (List.getElem_mem hlt)
      have hg : (l.map In.r)[t.toNat]? = some (l[t.toNat]).r := by simp [hlt]
      generalize l[t.toNat] = i at hL hm hg
      obtain ⟨hm1, hm2⟩ := hm
      refine wb ?_ <;> intros
      all_goals try omega
      refine row_get (by omega) hg rfl ?_
      refine wb ?_ <;> intros
      refine wE (silent_ok i.op) ?_
      split at hL
      · rename_i hs
        refine wb (A2.mk ?_ ?_) <;> intros
        · rename_i hx
          simp only [Bool.and_eq_true, decide_eq_true_eq] at hx
          omega
        · exact wr hR
      · rename_i hs
        refine wb (A2.mk ?_ ?_) <;> intros
        rotate_left
        · rename_i hx
          exact absurd (Decidable.not_not.1 hs) (by rintro ⟨a, b⟩; rw [decide_eq_true a, decide_eq_true b] at hx; cases hx)
        refine row_get (by omega) hg rfl ?_
        refine wb (A2.mk ?_ ?_) <;> intros
        · refine row_get (by omega) hg rfl ?_
          refine wb ?_ <;> intros
          have h5 : i.op = 5 := by omega
          rw [if_pos h5] at hL
          exact sr_mark ⟨(k + 1, i.a), ⟨by omega, by rwa [show l.length + 1 - (k + 1) = f by omega], by have := hm2 h5; dsimp only; omega⟩, by dsimp only; omega, vm []⟩
        · have h5 : i.op ≠ 5 := by omega
          rw [if_neg h5] at hL
          exact sr_mark ⟨(k + 1, t + 1), ⟨by omega, by rwa [show l.length + 1 - (k + 1) = f by omega], by dsimp only; omega⟩, by dsimp only; omega, vm []⟩
end AM

/- The functions that Trace needs: the code of a thread is good. -/
namespace AM
open Go Go.Proofs Mk
set_option linter.unusedVariables false
set_option linter.unusedSimpArgs false
set_option maxRecDepth 20000
set_option maxHeartbeats 8000000
@[go_sem] def vtE (t : Nat) (l : List In) (k : Nat) : List (Nat × AV) := [(1, .pv (intP t)), (3, .ptr 0 0), (5, .ptr 1 0), (7, .pv (intP l.length)), (8, .pv (intP k))]
@[go_sem] def vtS (n : Nat) (ss : List (Nat × Nat)) (r : Int) (l : List In) : List (Option Obj) := [some (.box ((wldR n ss).map .pv)), some (.box [.pv (intP r), .pv (.sl (l.map In.r))])]
theorem validThread_ok (n : Nat) (ss : List (Nat × Nat)) (hss : ss.length ≤ 60) (t : Nat) (ht : t ≤ 4) (r : Int) (l : List In) (G : GoodC n ss t r l) : FnEq Tryz.prog 73 [rw_ (wldR n ss), .pv (intP t), rw_ [intP r, .sl (l.map In.r)]] (.pv (boolP true)) := by
  obtain ⟨r0, r1, pos, len, op, last, obj, lands, site, jmp, brn, regs⟩ := G
  refine wf Tryz.func73 (fun _ => [(2, 5), (3, 5)]) (h := fun R hR => ?_)
  refine wb ?_ <;> intros
  all_goals try omega
  have hj : ∀ i ∈ l, 1 ≤ i.op ∧ (i.op = 5 → 0 ≤ i.a ∧ i.a ≤ 1000) := by
    intro i hi
    obtain ⟨k, hk⟩ := List.mem_iff_getElem?.1 hi
    refine ⟨(op k i hk).1, fun h5 => ?_⟩
    obtain ⟨k', h1, h2⟩ := jmp k i hk h5
    omega
  refine wl (fun k : Nat => vtE t l k) (fun _ => vtS n ss r l) (fun k => k ≤ l.length) (fun k => l.length - k) 0 (Nat.zero_le _) (vm [0, 8]) (fun k hk => ?_)
  refine wb (A2.mk ?_ ?_) <;> intros
  · have h2 : k < l.length := by omega
    have hg := List.getElem?_eq_getElem h2
    generalize l[k] = i at hg
    have o1 := op k i hg
    have o2 := last k i hg
    have o3 := obj k i hg
    have o4 := lands k h2
    have o5 := site k i hg
    have o6 := jmp k i hg
    have o7 := brn k i hg
    have o8 := regs k i hg
    have hgm : (l.map In.r)[k]? = some i.r := by simp [hg]
    have hb : ((i.op == 28) == ((k : Int) == (l.length : Int) - 1)) = true := by
      rw [beq_iff_eq, Bool.eq_iff_iff, beq_iff_eq, beq_iff_eq]
      constructor
      · intro h
        have := o2.1 h
        omega
      · intro h
        exact o2.2 (by omega)
    have o9 : i.op = 28 → i.site = -1 := fun h => o5.elim (fun x => x.2) (fun x => absurd h x.1)
    refine row_get (by omega) hgm rfl ?_
    refine wb (A2.mk ?_ ?_) <;> intros
    all_goals try omega
    all_goals first | (exfalso; rename_i h; rw [hb] at h; cases h; done) | skip
    refine wE (objects_ok n ss i o1.1 o1.2 o3) ?_
    refine wb ?_ <;> intros
    refine wE (lands_ok l (k : Int) (by omega) (by omega) hj o4) ?_
    refine wb (A2.mk ?_ ?_) <;> intros
    all_goals try (exfalso; rename_i h1 h3; exact h3 (o9 h1))
    rotate_left
    · rcases o5 with ⟨h28, _⟩ | ⟨_, q, m, hq, hsq⟩
      · exact absurd h28 (by assumption)
      have hqb := (List.getElem?_eq_some_iff.1 hsq).1
      refine wE (in6_v i.site ss.length (by omega)) ?_
      refine wb ?_ <;> intros
      refine row_map (x := (t, m)) (by omega) (by rw [hq]; simpa using hsq) rfl ?_
      refine wb (A2.mk ?_ (A2.mk ?_ ?_)) <;> intros
      · obtain ⟨z, z1, z2⟩ := o6 (by assumption)
        refine wE (in6_v i.a l.length (by omega)) ?_
        refine wb ?_ <;> intros
        refine wE (registers_ok i) ?_
        have hrl := regsI_len i
        refine wb ?_ <;> intros
        refine wl (fun j : Nat => vtE t l k ++ [(10, .pv (.sl (inL (regsI i)))), (11, .pv (intP j))]) (fun _ => vtS n ss r l) (fun j => j ≤ (regsI i).length) (fun j => (regsI i).length - j) 0 (Nat.zero_le _) (vm [0, 1]) (fun j hj2 => ?_)
        refine wb (A2.mk ?_ ?_) <;> intros
        · have hj3 : j < (regsI i).length := by omega
          have hrj := o8 _ (List.getElem_mem hj3)
          refine row_map (x := (regsI i)[j]) (by omega) (by simp [hj3]) rfl ?_
          refine wb ?_ <;> intros
          refine wE (in6_v _ r hrj) ?_
          refine wb ?_ <;> intros
          exact sr_mark ⟨j + 1, hj3, by omega, vm [0, 1]⟩
        · refine wb ?_ <;> intros
          exact sr_mark ⟨k + 1, h2, by omega, vm [0, 1]⟩
      · obtain ⟨z, z1, z2⟩ := o7 (by assumption)
        refine wE (in6_v i.b l.length (by omega)) ?_
        refine wb ?_ <;> intros
        refine wE (registers_ok i) ?_
        have hrl := regsI_len i
        refine wb ?_ <;> intros
        refine wl (fun j : Nat => vtE t l k ++ [(10, .pv (.sl (inL (regsI i)))), (11, .pv (intP j))]) (fun _ => vtS n ss r l) (fun j => j ≤ (regsI i).length) (fun j => (regsI i).length - j) 0 (Nat.zero_le _) (vm [0, 1]) (fun j hj2 => ?_)
        refine wb (A2.mk ?_ ?_) <;> intros
        · have hj3 : j < (regsI i).length := by omega
          have hrj := o8 _ (List.getElem_mem hj3)
          refine row_map (x := (regsI i)[j]) (by omega) (by simp [hj3]) rfl ?_
          refine wb ?_ <;> intros
          refine wE (in6_v _ r hrj) ?_
          refine wb ?_ <;> intros
          exact sr_mark ⟨j + 1, hj3, by omega, vm [0, 1]⟩
        · refine wb ?_ <;> intros
          exact sr_mark ⟨k + 1, h2, by omega, vm [0, 1]⟩
      · refine wE (registers_ok i) ?_
        have hrl := regsI_len i
        refine wb ?_ <;> intros
        refine wl (fun j : Nat => vtE t l k ++ [(10, .pv (.sl (inL (regsI i)))), (11, .pv (intP j))]) (fun _ => vtS n ss r l) (fun j => j ≤ (regsI i).length) (fun j => (regsI i).length - j) 0 (Nat.zero_le _) (vm [0, 1]) (fun j hj2 => ?_)
        refine wb (A2.mk ?_ ?_) <;> intros
        · have hj3 : j < (regsI i).length := by omega
          have hrj := o8 _ (List.getElem_mem hj3)
          refine row_map (x := (regsI i)[j]) (by omega) (by simp [hj3]) rfl ?_
          refine wb ?_ <;> intros
          refine wE (in6_v _ r hrj) ?_
          refine wb ?_ <;> intros
          exact sr_mark ⟨j + 1, hj3, by omega, vm [0, 1]⟩
        · refine wb ?_ <;> intros
          exact sr_mark ⟨k + 1, h2, by omega, vm [0, 1]⟩
    · refine wE (registers_ok i) ?_
      have hrl := regsI_len i
      refine wb ?_ <;> intros
      refine wl (fun j : Nat => vtE t l k ++ [(10, .pv (.sl (inL (regsI i)))), (11, .pv (intP j))]) (fun _ => vtS n ss r l) (fun j => j ≤ (regsI i).length) (fun j => (regsI i).length - j) 0 (Nat.zero_le _) (vm [0, 1]) (fun j hj2 => ?_)
      refine wb (A2.mk ?_ ?_) <;> intros
      · have hj3 : j < (regsI i).length := by omega
        have hrj := o8 _ (List.getElem_mem hj3)
        refine row_map (x := (regsI i)[j]) (by omega) (by simp [hj3]) rfl ?_
        refine wb ?_ <;> intros
        refine wE (in6_v _ r hrj) ?_
        refine wb ?_ <;> intros
        exact sr_mark ⟨j + 1, hj3, by omega, vm [0, 1]⟩
      · refine wb ?_ <;> intros
        exact sr_mark ⟨k + 1, h2, by omega, vm [0, 1]⟩
  · obtain rfl : k = l.length := by omega
    exact wr hR
end AM
