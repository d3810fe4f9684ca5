/- The functions that Trace needs: the compiler's statements. -/
import Derived.Test.YtaiaoiochbpmfaaGreatFw
namespace AM
open Go Go.Proofs Mk
set_option linter.unusedVariables false
set_option linter.unusedSimpArgs false
set_option maxRecDepth 20000
set_option maxHeartbeats 4000000
def GsC (n : Nat) (l : List Sm) : Prop := ∀ (ss : List (Nat × Nat)) (out : List In) (site : Int) (next : Nat), out.length + 8 * cntL l ≤ 700 → next + cntL l ≤ 1000 → ACall Tryz.prog 78 [.ptr 0 0, .pv (smL l)] (gOs n ss out site next) (fun v g => v = .tup [] ∧ ∃ site' : Int, g = gOg n ss (out ++ genL n out.length next l) site' ((next + cntL l : Nat) : Int))
def GtC (n : Nat) (s : Sm) : Prop := ∀ (ss : List (Nat × Nat)) (out : List In) (site : Int) (next : Nat), out.length + 8 * cntS s ≤ 700 → next + cntS s ≤ 1000 → ACall Tryz.prog 107 [.ptr 0 0, rw_ (stR s.op s.name s.arg (s.index.map lfR) (exO s.ex) (s.body.map smR) (s.els.map smR))] (gOs n ss out site next) (fun v g => v = .tup [] ∧ ∃ site' : Int, g = gOg n ss (out ++ genS n out.length next s) site' ((next + cntS s : Nat) : Int))
theorem gstmts_ok (n : Nat) (l : List Sm) (hs : ∀ s ∈ l, GtC n s) : GsC n l := by
  intro ss out site next ho hn
  have hc := cntL_eq l
  refine wz Tryz.func78 (fun _ => []) (h := fun R hR => ?_)
  refine wb ?_ <;> intros
  refine wl (fun u : Nat × List In × Int × Nat => [(0, .ptr 0 0), (1, .pv (smL l)), (4, .pv (intP u.1))]) (fun u => gOg n ss u.2.1 u.2.2.1 u.2.2.2) (fun u => u.1 ≤ l.length ∧ u.2.1 ++ genL n u.2.1.length u.2.2.2 (l.drop u.1) = out ++ genL n out.length next l ∧ u.2.2.2 + cntL (l.drop u.1) = next + cntL l ∧ u.2.1.length + 8 * cntL (l.drop u.1) ≤ 700) (fun u => l.length - u.1) (0, out, site, next) ⟨Nat.zero_le _, rfl, rfl, ho⟩ (vm [0, 1, 1]) (fun ⟨i, o, st, nx⟩ ⟨hi, hd, hnx, hol⟩ => ?_)
  dsimp only at hi hd hnx hol
  refine wb (A2.mk ?_ ?_) <;> intros
  · have h2 : i < l.length := by omega
    rw [List.drop_eq_getElem_cons h2] at hd hnx hol
    generalize hx : l[i] = x at hd hnx hol
    simp only [genL, cntL] at hd hnx hol
    have hlen := genS_len n o.length nx x
    refine row_map (x := x) (by omega) (by simp [h2, hx]) (smR_len _) ?_
    rw [smR_eq]
    refine wb ?_ <;> intros
    refine wq (hs x (by rw [← hx]; exact List.getElem_mem _) ss o st nx (by omega) (by omega)) [0, 2] ?_
    rintro r g ⟨rfl, site', rfl⟩
    refine wb ?_ <;> intros
    refine sr_mark ⟨(i + 1, o ++ genS n o.length nx x, site', nx + cntS x), ⟨h2, by rw [List.append_assoc, List.length_append]; exact hd, by dsimp only; omega, by simp; omega⟩, by dsimp only; omega, vm [0, 1, 75]⟩
  · rw [List.drop_eq_nil_of_le (by omega)] at hd hnx
    simp only [genL, cntL, List.append_nil, Nat.add_zero] at hd hnx
    exact wd hR (gOg n ss o st nx) [0, 1, 2] [] ⟨rfl, st, by rw [← hd, ← hnx]⟩
theorem around_ok (n : Nat) (s : Sm) (hb : GsC n s.body) (first last obj : Int) (ss : List (Nat × Nat)) (out : List In) (site : Int) (next : Nat) (ho : out.length + 8 * cntL s.body + 2 ≤ 700) (hn : next + cntL s.body ≤ 1000) :
    ACall Tryz.prog 132 [.ptr 0 0, rw_ (stR s.op s.name s.arg (s.index.map lfR) (exO s.ex) (s.body.map smR) (s.els.map smR)), .pv (intP first), .pv (intP last), .pv (intP obj)] (gOs n ss out site next) (fun v g => v = .tup [] ∧ g = gOg n ss (out ++ ⟨first, obj, 0, 0, 0, site⟩ :: (genL n (out.length + 1) next s.body ++ [⟨last, obj, 0, 0, 0, site⟩])) site ((next + cntL s.body : Nat) : Int)) := by
  have hlen := genL_len n (out.length + 1) next s.body
  refine wz Tryz.func132 (fun _ => []) (h := fun R hR => ?_)
  refine wb ?_ <;> intros
  refine wq (put_ok n ss out site next ⟨first, obj, 0, 0, 0, 0⟩ (by omega)) [0, 1] ?_
  rintro r g ⟨rfl, rfl⟩
  refine wb ?_ <;> intros
  refine wq (hb ss (out ++ [⟨first, obj, 0, 0, 0, site⟩]) site next (by simp; omega) (by omega)) [0, 82] ?_
  rintro r g ⟨rfl, site', rfl⟩
  rw [List.length_append, List.length_singleton]
  refine wb ?_ <;> intros
  refine wq (put_ok n ss (out ++ [⟨first, obj, 0, 0, 0, site⟩] ++ genL n (out.length + 1) next s.body) site ((next + cntL s.body : Nat) : Int) ⟨last, obj, 0, 0, 0, 0⟩ (by simp; omega)) [0, 114] ?_
  rintro r g ⟨rfl, rfl⟩
  refine wb ?_ <;> intros
  exact wd hR _ [0, 1, 194] [] ⟨rfl, rfl⟩
def us131 : Nat → List (Nat × Nat) := fun i => if i = 3 then [(2, 6)] else if i = 10 then [(3, 8)] else if i = 12 then [(3, 8)] else if i = 15 then [(3, 8)] else if i = 17 then [(3, 8)] else []
theorem mod_app2 {β : Type} {z : β} {c : List β} {F : β → β} : ∀ (a : List β), (a ++ z :: c).modify a.length F = a ++ F z :: c
  | [] => rfl
  | x :: a => by simp only [List.cons_append, List.length_cons, List.modify_succ_cons, mod_app2 a]
theorem mod_m2 {α β : Type} {g : α → β} {a b : List α} {z : β} {c : List β} {F : β → β} : (a.map g ++ (b.map g ++ z :: c)).modify (a.length + b.length) F = a.map g ++ (b.map g ++ F z :: c) := by
  have := mod_app2 (z := z) (c := c) (F := F) (a.map g ++ b.map g)
  simpa [List.append_assoc] using this
theorem mod_m3 {α β : Type} {g : α → β} {a b d : List α} {y z : β} {c : List β} {F : β → β} : (a.map g ++ (b.map g ++ y :: (d.map g ++ z :: c))).modify (a.length + (b.length + (d.length + 1))) F = a.map g ++ (b.map g ++ y :: (d.map g ++ F z :: c)) := by
  have := mod_app2 (z := z) (c := c) (F := F) (a.map g ++ (b.map g ++ y :: d.map g))
  simpa [List.append_assoc, Nat.add_assoc, Nat.add_comm, Nat.add_left_comm] using this
attribute [local go_sem] List.append_assoc mod_m2 mod_m3
theorem brn_ite0 (n : Nat) (e : Ex) (b : List Sm) (hb : GsC n b) (ss : List (Nat × Nat)) (out : List In) (site : Int) (next : Nat) (ho : out.length + 8 * (cntL b) + 8 ≤ 700) (hn : next + (cntL b) ≤ 1000) :
    ACall Tryz.prog 131 [.ptr 0 0, rw_ (stR 2 bE bE [] (exE e) (b.map smR) [])] (gOs n ss out site next) (fun v g => v = .tup [] ∧ g = gOg n ss (out ++ (valE site e 2 ++ ⟨10, 2, ((out.length + (valE site e 2).length + 1 + (genL n (out.length + (valE site e 2).length + 1) next b).length : Nat) : Int), 0, 0, site⟩ :: genL n (out.length + (valE site e 2).length + 1) next b)) site ((next + (cntL b) : Nat) : Int)) := by
  have hlen := genL_len n (out.length + (valE site e 2).length + 1) next b
  have hv := valE_le site e 2
  refine wz Tryz.func131 us131 (h := fun R hR => ?_)
  refine wb ?_ <;> intros
  refine wQ (valueE e n ss out site next 2 (by decide) (by decide) (by omega)) [0, 1] ⟨rfl, rfl⟩ ?_
  rintro r g ⟨rfl, rfl⟩
  refine wb ?_ <;> intros
  refine wq (put_ok n ss (out ++ valE site e 2) site next ⟨10, 2, 0, 0, 0, 0⟩ (by simp; omega)) [0, 162] ?_
  rintro r g ⟨rfl, rfl⟩
  refine wb ?_ <;> intros
  refine wq (hb ss (out ++ valE site e 2 ++ [⟨10, 2, 0, 0, 0, site⟩]) site next (by simp; omega) (by omega)) [0, 274] ?_
  rintro r g ⟨rfl, site', rfl⟩
  rw [show (out ++ valE site e 2 ++ [(⟨10, 2, 0, 0, 0, site⟩ : In)]).length = out.length + (valE site e 2).length + 1 by simp [Nat.add_assoc]]
  refine wb ?_ <;> intros
  exact wdr hR (gOg n ss (out ++ (valE site e 2 ++ ⟨10, 2, ((out.length + (valE site e 2).length + 1 + (genL n (out.length + (valE site e 2).length + 1) next b).length : Nat) : Int), 0, 0, site⟩ :: genL n (out.length + (valE site e 2).length + 1) next b)) site ((next + cntL b : Nat) : Int)) [0, 1, 306] [] ⟨rfl, rfl⟩
theorem brn_whl (n : Nat) (e : Ex) (b : List Sm) (hb : GsC n b) (ss : List (Nat × Nat)) (out : List In) (site : Int) (next : Nat) (ho : out.length + 8 * (cntL b) + 8 ≤ 700) (hn : next + (cntL b) ≤ 1000) :
    ACall Tryz.prog 131 [.ptr 0 0, rw_ (stR 3 bE bE [] (exE e) (b.map smR) [])] (gOs n ss out site next) (fun v g => v = .tup [] ∧ g = gOg n ss (out ++ (valE site e 2 ++ ⟨10, 2, ((out.length + (valE site e 2).length + 1 + (genL n (out.length + (valE site e 2).length + 1) next b).length + 1 : Nat) : Int), 0, 0, site⟩ :: (genL n (out.length + (valE site e 2).length + 1) next b ++ [⟨5, (out.length : Int), 0, 0, 0, site⟩]))) site ((next + (cntL b) : Nat) : Int)) := by
  have hlen := genL_len n (out.length + (valE site e 2).length + 1) next b
  have hv := valE_le site e 2
  refine wz Tryz.func131 us131 (h := fun R hR => ?_)
  refine wb ?_ <;> intros
  refine wQ (valueE e n ss out site next 2 (by decide) (by decide) (by omega)) [0, 1] ⟨rfl, rfl⟩ ?_
  rintro r g ⟨rfl, rfl⟩
  refine wb ?_ <;> intros
  refine wq (put_ok n ss (out ++ valE site e 2) site next ⟨10, 2, 0, 0, 0, 0⟩ (by simp; omega)) [0, 162] ?_
  rintro r g ⟨rfl, rfl⟩
  refine wb ?_ <;> intros
  refine wq (hb ss (out ++ valE site e 2 ++ [⟨10, 2, 0, 0, 0, site⟩]) site next (by simp; omega) (by omega)) [0, 274] ?_
  rintro r g ⟨rfl, site', rfl⟩
  rw [show (out ++ valE site e 2 ++ [(⟨10, 2, 0, 0, 0, site⟩ : In)]).length = out.length + (valE site e 2).length + 1 by simp [Nat.add_assoc]]
  refine wb ?_ <;> intros
  refine wq (put_ok n ss (out ++ valE site e 2 ++ [⟨10, 2, 0, 0, 0, site⟩] ++ genL n (out.length + (valE site e 2).length + 1) next b) site ((next + cntL b : Nat) : Int) ⟨5, out.length, 0, 0, 0, 0⟩ (by simp; omega)) [0, 306] ?_
  rintro r g ⟨rfl, rfl⟩
  refine wb ?_ <;> intros
  exact wdr hR (gOg n ss (out ++ (valE site e 2 ++ ⟨10, 2, ((out.length + (valE site e 2).length + 1 + (genL n (out.length + (valE site e 2).length + 1) next b).length + 1 : Nat) : Int), 0, 0, site⟩ :: (genL n (out.length + (valE site e 2).length + 1) next b ++ [⟨5, (out.length : Int), 0, 0, 0, site⟩]))) site ((next + cntL b : Nat) : Int)) [0, 1, 402] [] ⟨rfl, rfl⟩
theorem brn_ite1 (n : Nat) (e : Ex) (b c : List Sm) (hb : GsC n b) (hc : GsC n c) (ss : List (Nat × Nat)) (out : List In) (site : Int) (next : Nat) (ho : out.length + 8 * (cntL b + cntL c) + 8 ≤ 700) (hn : next + (cntL b + cntL c) ≤ 1000) (h0 : 0 < c.length) :
    ACall Tryz.prog 131 [.ptr 0 0, rw_ (stR 2 bE bE [] (exE e) (b.map smR) (c.map smR))] (gOs n ss out site next) (fun v g => v = .tup [] ∧ ∃ site', g = gOg n ss (out ++ (valE site e 2 ++ ⟨10, 2, ((out.length + (valE site e 2).length + 1 + (genL n (out.length + (valE site e 2).length + 1) next b).length + 1 : Nat) : Int), 0, 0, site⟩ :: (genL n (out.length + (valE site e 2).length + 1) next b ++ ⟨5, ((out.length + (valE site e 2).length + 1 + (genL n (out.length + (valE site e 2).length + 1) next b).length + 1 + (genL n (out.length + (valE site e 2).length + 1 + (genL n (out.length + (valE site e 2).length + 1) next b).length + 1) (next + cntL b) c).length : Nat) : Int), 0, 0, 0, site⟩ :: genL n (out.length + (valE site e 2).length + 1 + (genL n (out.length + (valE site e 2).length + 1) next b).length + 1) (next + cntL b) c))) site' ((next + (cntL b + cntL c) : Nat) : Int)) := by
  have hlen := genL_len n (out.length + (valE site e 2).length + 1) next b
  have hv := valE_le site e 2
  refine wz Tryz.func131 us131 (h := fun R hR => ?_)
  refine wb ?_ <;> intros
  refine wQ (valueE e n ss out site next 2 (by decide) (by decide) (by omega)) [0, 1] ⟨rfl, rfl⟩ ?_
  rintro r g ⟨rfl, rfl⟩
  refine wb ?_ <;> intros
  refine wq (put_ok n ss (out ++ valE site e 2) site next ⟨10, 2, 0, 0, 0, 0⟩ (by simp; omega)) [0, 162] ?_
  rintro r g ⟨rfl, rfl⟩
  refine wb ?_ <;> intros
  refine wq (hb ss (out ++ valE site e 2 ++ [⟨10, 2, 0, 0, 0, site⟩]) site next (by simp; omega) (by omega)) [0, 274] ?_
  rintro r g ⟨rfl, site', rfl⟩
  rw [show (out ++ valE site e 2 ++ [(⟨10, 2, 0, 0, 0, site⟩ : In)]).length = out.length + (valE site e 2).length + 1 by simp [Nat.add_assoc]]
  refine wb ?_ <;> intros
  refine wq (put_ok n ss (out ++ valE site e 2 ++ [⟨10, 2, 0, 0, 0, site⟩] ++ genL n (out.length + (valE site e 2).length + 1) next b) site ((next + cntL b : Nat) : Int) ⟨5, 0, 0, 0, 0, 0⟩ (by simp; omega)) [0, 306] ?_
  rintro r g ⟨rfl, rfl⟩
  refine wb ?_ <;> intros
  have hl2 : (out ++ (valE site e 2 ++ (⟨10, 2, ((out.length + ((valE site e 2).length + ((genL n (out.length + (valE site e 2).length + 1) next b).length + 1 + 1)) : Nat) : Int), 0, 0, site⟩ : In) :: (genL n (out.length + (valE site e 2).length + 1) next b ++ [⟨5, 0, 0, 0, 0, site⟩]))).length = out.length + (valE site e 2).length + 1 + (genL n (out.length + (valE site e 2).length + 1) next b).length + 1 := by simp [Nat.add_assoc, Nat.add_comm, Nat.add_left_comm]
  refine wq (hc ss (out ++ (valE site e 2 ++ (⟨10, 2, ((out.length + ((valE site e 2).length + ((genL n (out.length + (valE site e 2).length + 1) next b).length + 1 + 1)) : Nat) : Int), 0, 0, site⟩ : In) :: (genL n (out.length + (valE site e 2).length + 1) next b ++ [⟨5, 0, 0, 0, 0, site⟩]))) site (next + cntL b) (by rw [hl2]; omega) (by omega)) [0, 474] ?_
  rintro r g ⟨rfl, site2, rfl⟩
  rw [hl2]
  have hlen2 := genL_len n (out.length + (valE site e 2).length + 1 + (genL n (out.length + (valE site e 2).length + 1) next b).length + 1) (next + cntL b) c
  refine wb ?_ <;> intros
  have hK : out.length + (valE site e 2).length + 1 + (genL n (out.length + (valE site e 2).length + 1) next b).length + 1 = out.length + ((valE site e 2).length + ((genL n (out.length + (valE site e 2).length + 1) next b).length + 1 + 1)) := by omega
  rw [show ((next + (cntL b + cntL c) : Nat) : Int) = ((next + cntL b + cntL c : Nat) : Int) by omega, hK] at hR
  exact wd hR _ [0, 1, 610] [] ⟨rfl, site2, rfl⟩
end AM
