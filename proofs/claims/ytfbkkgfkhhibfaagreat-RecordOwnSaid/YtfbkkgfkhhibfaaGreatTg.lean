/- Programs that are made of numbers: their statements as trees, and what the check of the reference finds (plain). -/


namespace Mk
inductive Nm | a | b | x | y | v
inductive Lf | num (n : Fin 4) | var (k : Nm)
inductive Ex | leaf (l : Lf) | idx (l : Lf) | bin (k : Fin 6) (l r : Lf)
inductive Bk | m | n | rd | wr
inductive Sg | wait | one | all
inductive Sm
  | asg (k : Nm) (e : Ex)
  | asq (i : Lf) (e : Ex)
  | ite (e : Ex) (b c : List Sm)
  | whl (e : Ex) (b : List Sm)
  | blk (k : Bk) (b : List Sm)
  | tx (b : List Sm)
  | atm (b : List Sm)
  | sig (k : Sg)
  | spawn (k : Nat)
  | join
  | set (e : Ex)
  | get
def Ex.kids : Ex → List Lf
  | .leaf _ => []
  | .idx l => [l]
  | .bin _ l r => [l, r]
def Sm.body : Sm → List Sm
  | .ite _ b _ | .whl _ b | .blk _ b | .tx b | .atm b => b
  | _ => []
def Sm.els : Sm → List Sm
  | .ite _ _ c => c
  | _ => []
def Sm.index : Sm → List Lf
  | .asq i _ => [i]
  | _ => []
mutual
def cntS : Sm → Nat
  | .ite _ b c => 1 + cntL b + cntL c
  | .whl _ b | .blk _ b | .tx b | .atm b => 1 + cntL b
  | _ => 1
def cntL : List Sm → Nat
  | [] => 0
  | s :: r => cntS s + cntL r
end
def nest (b : Bool) : Int := if b then 7 else 0
def Nm.str : Nm → ByteArray
  | .a => ⟨#[97]⟩
  | .b => ⟨#[98]⟩
  | .x => ⟨#[120]⟩
  | .y => ⟨#[121]⟩
  | .v => ⟨#[118]⟩
def Lf.op : Lf → Int
  | .num _ => 1
  | .var _ => 2
def Lf.n : Lf → Int
  | .num n => (n.val : Int)
  | .var _ => 0
def Lf.name : Lf → ByteArray
  | .num _ => ⟨#[]⟩
  | .var k => k.str
def binOp (k : Fin 6) : Int := #[6, 7, 8, 11, 13, 17][k]
def Ex.op : Ex → Int
  | .leaf l => l.op
  | .idx _ => 3
  | .bin k _ _ => binOp k
def Ex.n : Ex → Int
  | .leaf l => l.n
  | _ => 0
def Ex.name : Ex → ByteArray
  | .leaf l => l.name
  | .idx _ => ⟨#[113]⟩
  | .bin _ _ _ => ⟨#[]⟩
def Sm.op : Sm → Int
  | .asg _ _ | .asq _ _ => 1
  | .ite _ _ _ => 2
  | .whl _ _ => 3
  | .blk .m _ | .blk .n _ => 4
  | .blk .rd _ => 5
  | .blk .wr _ => 6
  | .tx _ => 7
  | .atm _ => 8
  | .sig .wait => 9
  | .sig .one => 10
  | .sig .all => 11
  | .spawn _ => 12
  | .join => 13
  | .set _ => 14
  | .get => 15
def thName : Nat → ByteArray
  | 0 => ⟨#[109, 97, 105, 110]⟩
  | 1 => ⟨#[116, 49]⟩
  | 2 => ⟨#[116, 50]⟩
  | _ => ⟨#[116, 51]⟩
def Sm.name : Sm → ByteArray
  | .asg k _ => k.str
  | .asq _ _ => ⟨#[113]⟩
  | .blk .m _ => ⟨#[109]⟩
  | .blk .n _ => ⟨#[110]⟩
  | .blk _ _ => ⟨#[114]⟩
  | .sig _ => ⟨#[99]⟩
  | .spawn k => thName k
  | .join => thName 1
  | .set _ => ⟨#[102]⟩
  | .get => ⟨#[97]⟩
  | _ => ⟨#[]⟩
def Sm.arg : Sm → ByteArray
  | .get => ⟨#[102]⟩
  | _ => ⟨#[]⟩
def Sm.ex : Sm → Option Ex
  | .asg _ e | .asq _ e | .ite e _ _ | .whl e _ | .set e => some e
  | _ => none
theorem cntS_eq (s : Sm) : cntS s = 1 + cntL s.body + cntL s.els := by
  cases s <;> simp [cntS, Sm.body, Sm.els, cntL]
def sumB : List Sm → Nat
  | [] => 0
  | s :: r => cntL s.body + cntL s.els + sumB r
theorem cntL_eq : ∀ l, cntL l = l.length + sumB l
  | [] => rfl
  | s :: r => by
    rw [cntL, cntS_eq, cntL_eq r, sumB, List.length_cons]
    omega
theorem sumB_take : ∀ (l : List Sm) (k : Nat) (s : Sm), l[k]? = some s → sumB (l.take (k + 1)) = sumB (l.take k) + (cntL s.body + cntL s.els)
  | [], k, s, h => by simp at h
  | x :: r, 0, s, h => by
    simp only [List.getElem?_cons_zero, Option.some.injEq] at h
    subst h
    simp [sumB]
  | x :: r, k + 1, s, h => by
    simp only [List.getElem?_cons_succ] at h
    rw [List.take_succ_cons, List.take_succ_cons, sumB, sumB, sumB_take r k s h]
    omega
theorem sumB_le : ∀ (l : List Sm) (k : Nat), sumB (l.take k) ≤ sumB l
  | [], k => by simp
  | x :: r, 0 => by simp [sumB]
  | x :: r, k + 1 => by
    rw [List.take_succ_cons, sumB, sumB]
    have := sumB_le r k
    omega
def atFrom (s : ByteArray) : Int → List ByteArray → Int
  | _, [] => -1
  | i, x :: r => if x = s then i else atFrom s (i + 1) r
def atI (l : List ByteArray) (s : ByteArray) : Int := atFrom s 0 l
theorem at_hit {s : ByteArray} {l : List ByteArray} {i : Nat} (hi : i < l.length) (he : l[i] = s) (h : atI l s = atFrom s i (l.drop i)) : atI l s = i := by
  rw [h, List.drop_eq_getElem_cons hi, atFrom, if_pos he]
theorem at_miss {s : ByteArray} {l : List ByteArray} {i : Nat} (hi : i < l.length) (he : l[i] ≠ s) (h : atI l s = atFrom s i (l.drop i)) : atI l s = atFrom s (i + 1 : Nat) (l.drop (i + 1)) := by
  rw [h, List.drop_eq_getElem_cons hi, atFrom, if_neg he]; rfl
theorem at_end {s : ByteArray} {l : List ByteArray} {i : Nat} (hi : ¬ i < l.length) (h : atI l s = atFrom s i (l.drop i)) : atI l s = -1 := by
  rw [h, List.drop_eq_nil_of_le (by omega)]; rfl
def bE : ByteArray := ⟨#[]⟩
def thNames (n : Nat) : List ByteArray := (List.range n).map thName
def loNames : List ByteArray := [⟨#[97]⟩, ⟨#[98]⟩]
def dNames : List ByteArray := [⟨#[120]⟩, ⟨#[121]⟩, ⟨#[118]⟩, ⟨#[113]⟩, ⟨#[109]⟩, ⟨#[110]⟩, ⟨#[114]⟩, ⟨#[99]⟩, ⟨#[102]⟩]
def dKinds : List Int := [1, 1, 1, 2, 3, 3, 4, 5, 6]
def kindF (n : Nat) (s : ByteArray) : Int :=
  if 0 ≤ atI loNames s then 8 else if 0 ≤ atI dNames s then dKinds[(atI dNames s).toNat]?.getD 9 else if 0 ≤ atI (thNames n) s then 7 else 0
def wantF (n : Nat) (s : ByteArray) (a b : Int) : Int := if kindF n s = 0 then 5 else if kindF n s ≠ a ∧ kindF n s ≠ b then 6 else 0
def insF (ar : List Sm) (a b : Int) (s : ByteArray) : Bool := ar.any fun x => (decide (x.op = a) || decide (x.op = b)) && (decide (s = ⟨#[]⟩) || decide (x.name = s))
def oneF (n t : Nat) (ar : List Sm) (sp st : List ByteArray) : Sm → Int × List ByteArray × List ByteArray
  | .asg _ _ | .asq _ _ | .ite _ _ _ | .whl _ _ => (0, sp, st)
  | .blk .m _ => (nest (insF ar 7 7 ⟨#[]⟩ || insF ar 4 4 ⟨#[109]⟩), sp, st)
  | .blk .n _ => (nest (insF ar 7 7 ⟨#[]⟩ || insF ar 4 4 ⟨#[110]⟩), sp, st)
  | .blk .rd _ | .blk .wr _ => (nest (insF ar 7 7 ⟨#[]⟩ || insF ar 5 6 ⟨#[114]⟩), sp, st)
  | .tx _ => (nest (insF ar 7 7 ⟨#[]⟩), sp, st)
  | .atm _ => (nest (insF ar 7 7 ⟨#[]⟩ || insF ar 8 8 ⟨#[]⟩), sp, st)
  | .sig .wait => (nest (insF ar 7 7 ⟨#[]⟩ || !insF ar 4 4 ⟨#[109]⟩ || insF ar 8 8 ⟨#[]⟩), sp, st)
  | .sig _ => (nest (insF ar 7 7 ⟨#[]⟩ || !insF ar 4 4 ⟨#[109]⟩), sp, st)
  | .spawn k =>
    if atI (thNames n) (thName k) < 0 then (5, sp, st)
    else if insF ar 7 7 ⟨#[]⟩ || insF ar 8 8 ⟨#[]⟩ || insF ar 3 3 ⟨#[]⟩ || decide (atI (thNames n) (thName k) = t) || decide (atI (thNames n) (thName k) = 0) then (7, sp, st)
    else if 0 ≤ atI sp (thName k) then (8, sp, st) else (0, sp ++ [thName k], st)
  | .join => (if atI (thNames n) (thName 1) < 0 then 5 else nest (insF ar 7 7 ⟨#[]⟩ || insF ar 8 8 ⟨#[]⟩ || decide (atI (thNames n) (thName 1) = t)), sp, st)
  | .set _ => (if insF ar 7 7 ⟨#[]⟩ || insF ar 3 3 ⟨#[]⟩ then 7 else if 0 ≤ atI st ⟨#[102]⟩ then 8 else 0, sp, st ++ [⟨#[102]⟩])
  | .get => (nest (insF ar 7 7 ⟨#[]⟩), sp, st)
mutual
def allS (n t : Nat) (ar : List Sm) (sp st : List ByteArray) : Sm → Int × List ByteArray × List ByteArray
  | .ite e b c =>
    let r := oneF n t ar sp st (.ite e b c)
    let x := if 6 < ar.length + 1 then 2 else r.1
    if x ≠ 0 then (x, r.2) else
    let y := allL n t (ar ++ [.ite e b c]) r.2.1 r.2.2 b
    if y.1 ≠ 0 then y else allL n t (ar ++ [.ite e b c]) y.2.1 y.2.2 c
  | .whl e b =>
    let r := oneF n t ar sp st (.whl e b)
    let x := if 6 < ar.length + 1 then 2 else r.1
    if x ≠ 0 then (x, r.2) else allL n t (ar ++ [.whl e b]) r.2.1 r.2.2 b
  | .blk k b =>
    let r := oneF n t ar sp st (.blk k b)
    let x := if 6 < ar.length + 1 then 2 else r.1
    if x ≠ 0 then (x, r.2) else allL n t (ar ++ [.blk k b]) r.2.1 r.2.2 b
  | .tx b =>
    let r := oneF n t ar sp st (.tx b)
    let x := if 6 < ar.length + 1 then 2 else r.1
    if x ≠ 0 then (x, r.2) else allL n t (ar ++ [.tx b]) r.2.1 r.2.2 b
  | .atm b =>
    let r := oneF n t ar sp st (.atm b)
    let x := if 6 < ar.length + 1 then 2 else r.1
    if x ≠ 0 then (x, r.2) else allL n t (ar ++ [.atm b]) r.2.1 r.2.2 b
  | s =>
    let r := oneF n t ar sp st s
    (if 6 < ar.length + 1 then 2 else r.1, r.2)
def allL (n t : Nat) (ar : List Sm) (sp st : List ByteArray) : List Sm → Int × List ByteArray × List ByteArray
  | [] => (0, sp, st)
  | s :: r =>
    let x := allS n t ar sp st s
    if x.1 ≠ 0 then x else allL n t ar x.2.1 x.2.2 r
end
def errF (n t : Nat) (ar : List Sm) (sp st : List ByteArray) (s : Sm) : Int := if 6 < ar.length + 1 then 2 else (oneF n t ar sp st s).1
theorem eta0 {x : Int × List ByteArray × List ByteArray} (h : x.1 = 0) : (0, x.2.1, x.2.2) = x := by
  obtain ⟨a, b, c⟩ := x
  cases h
  rfl
theorem allS_eq (n t : Nat) (ar : List Sm) (sp st : List ByteArray) (s : Sm) : allS n t ar sp st s =
    (if errF n t ar sp st s ≠ 0 then (errF n t ar sp st s, (oneF n t ar sp st s).2) else
      if (allL n t (ar ++ [s]) (oneF n t ar sp st s).2.1 (oneF n t ar sp st s).2.2 s.body).1 ≠ 0 then allL n t (ar ++ [s]) (oneF n t ar sp st s).2.1 (oneF n t ar sp st s).2.2 s.body
      else allL n t (ar ++ [s]) (allL n t (ar ++ [s]) (oneF n t ar sp st s).2.1 (oneF n t ar sp st s).2.2 s.body).2.1 (allL n t (ar ++ [s]) (oneF n t ar sp st s).2.1 (oneF n t ar sp st s).2.2 s.body).2.2 s.els) := by
  cases s <;> simp only [allS, errF, Sm.body, Sm.els, allL] <;> (try rfl) <;> (repeat' split) <;> simp_all <;> (try exact (eta0 (by assumption)).symm)
def allP (n : Nat) : Nat → List ByteArray → List ByteArray → List (List Sm) → Int
  | _, _, _, [] => 0
  | t, sp, st, b :: r => if (allL n t [] sp st b).1 ≠ 0 then (allL n t [] sp st b).1 else allP n (t + 1) (allL n t [] sp st b).2.1 (allL n t [] sp st b).2.2 r
def cntP : List (List Sm) → Nat
  | [] => 0
  | b :: r => cntL b + cntP r
def progF (bs : List (List Sm)) : Int := if 60 < cntP bs then 2 else allP bs.length 0 [] [] bs
end Mk

/- How long the lists of names become in the check (plain). -/
namespace Mk
set_option linter.unusedVariables false
theorem oneF_len (n t : Nat) (ar : List Sm) (sp st : List ByteArray) (s : Sm) : (oneF n t ar sp st s).2.1.length ≤ sp.length + 1 ∧ (oneF n t ar sp st s).2.2.length ≤ st.length + 1 := by
  unfold oneF
  split <;> (repeat' split) <;> simp
theorem allL_len (n t : Nat) : ∀ (m : Nat) (l : List Sm), cntL l ≤ m → ∀ (ar : List Sm) (sp st : List ByteArray), (allL n t ar sp st l).2.1.length ≤ sp.length + cntL l ∧ (allL n t ar sp st l).2.2.length ≤ st.length + cntL l
  | m, [], _, ar, sp, st => by simp [allL]
  | 0, s :: r, h, ar, sp, st => by rw [cntL, cntS_eq] at h; omega
  | m + 1, s :: r, h, ar, sp, st => by
    rw [cntL, cntS_eq] at h ⊢
    have h1 := oneF_len n t ar sp st s
    have h2 := allL_len n t m s.body (by omega) (ar ++ [s]) (oneF n t ar sp st s).2.1 (oneF n t ar sp st s).2.2
    have h3 := allL_len n t m s.els (by omega) (ar ++ [s]) (allL n t (ar ++ [s]) (oneF n t ar sp st s).2.1 (oneF n t ar sp st s).2.2 s.body).2.1 (allL n t (ar ++ [s]) (oneF n t ar sp st s).2.1 (oneF n t ar sp st s).2.2 s.body).2.2
    have hS : (allS n t ar sp st s).2.1.length ≤ sp.length + (1 + cntL s.body + cntL s.els) ∧ (allS n t ar sp st s).2.2.length ≤ st.length + (1 + cntL s.body + cntL s.els) := by
      rw [allS_eq]
      split
      · exact ⟨by show (oneF n t ar sp st s).2.1.length ≤ _; omega, by show (oneF n t ar sp st s).2.2.length ≤ _; omega⟩
      · split <;> omega
    have h4 := allL_len n t m r (by omega) ar (allS n t ar sp st s).2.1 (allS n t ar sp st s).2.2
    simp only [allL]
    split <;> omega
end Mk

/- The code of a program that is made, as functions of its trees (plain). -/
namespace Mk
set_option linter.unusedVariables false
structure In where
  op : Int
  a : Int
  b : Int
  c : Int
  n : Int
  site : Int
def valL (st : Int) (l : Lf) (d : Int) : In := match l with
  | .num n => ⟨1, d, 0, 0, (n.val : Int), st⟩
  | .var .a => ⟨2, d, 0, 0, 0, st⟩
  | .var .b => ⟨2, d, 1, 0, 0, st⟩
  | .var .x => ⟨6, d, 0, 0, 0, st⟩
  | .var .y => ⟨6, d, 1, 0, 0, st⟩
  | .var .v => ⟨6, d, 2, 0, 0, st⟩
def valE (st : Int) (e : Ex) (d : Int) : List In := match e with
  | .leaf l => [valL st l d]
  | .idx l => [valL st l d, ⟨7, d, 3, d, 2, st⟩]
  | .bin k l r => [valL st l d, valL st r (d + 1), ⟨4, d, d, d + 1, binOp k, st⟩]
def asgI (st : Int) : Nm → In
  | .a => ⟨2, 0, 2, 0, 0, st⟩
  | .b => ⟨2, 1, 2, 0, 0, st⟩
  | .x => ⟨8, 0, 2, 0, 0, st⟩
  | .y => ⟨8, 1, 2, 0, 0, st⟩
  | .v => ⟨8, 2, 2, 0, 0, st⟩
def Bk.fst : Bk → Int
  | .m => 11 | .n => 11 | .rd => 13 | .wr => 15
def Bk.obj : Bk → Int
  | .m => 0 | .n => 1 | .rd => 2 | .wr => 2
def Sg.op : Sg → Int
  | .wait => 21 | .one => 22 | .all => 23
mutual
def genS (nth base st : Nat) : Sm → List In
  | .asg k e => valE st e 2 ++ [asgI st k]
  | .asq i e => valL st i 2 :: (valE st e 3 ++ [⟨9, 3, 3, 2, 2, st⟩])
  | .ite e b [] => valE st e 2 ++ ⟨10, 2, ((base + (valE st e 2).length + 1 + (genL nth (base + (valE st e 2).length + 1) (st + 1) b).length : Nat) : Int), 0, 0, st⟩ :: genL nth (base + (valE st e 2).length + 1) (st + 1) b
  | .ite e b (c :: r) =>
    valE st e 2 ++ ⟨10, 2, ((base + (valE st e 2).length + 1 + (genL nth (base + (valE st e 2).length + 1) (st + 1) b).length + 1 : Nat) : Int), 0, 0, st⟩ :: (genL nth (base + (valE st e 2).length + 1) (st + 1) b ++
      ⟨5, ((base + (valE st e 2).length + 1 + (genL nth (base + (valE st e 2).length + 1) (st + 1) b).length + 1 + (genL nth (base + (valE st e 2).length + 1 + (genL nth (base + (valE st e 2).length + 1) (st + 1) b).length + 1) (st + 1 + cntL b) (c :: r)).length : Nat) : Int), 0, 0, 0, st⟩ ::
      genL nth (base + (valE st e 2).length + 1 + (genL nth (base + (valE st e 2).length + 1) (st + 1) b).length + 1) (st + 1 + cntL b) (c :: r))
  | .whl e b => valE st e 2 ++ ⟨10, 2, ((base + (valE st e 2).length + 1 + (genL nth (base + (valE st e 2).length + 1) (st + 1) b).length + 1 : Nat) : Int), 0, 0, st⟩ :: (genL nth (base + (valE st e 2).length + 1) (st + 1) b ++ [⟨5, (base : Int), 0, 0, 0, st⟩])
  | .blk k b => ⟨k.fst, k.obj, 0, 0, 0, st⟩ :: (genL nth (base + 1) (st + 1) b ++ [⟨k.fst + 1, k.obj, 0, 0, 0, st⟩])
  | .tx b => ⟨17, 0, 0, 0, 0, st⟩ :: (genL nth (base + 1) (st + 1) b ++ [⟨18, 0, 0, 0, 0, st⟩])
  | .atm b => ⟨19, 0, 0, 0, 0, st⟩ :: (genL nth (base + 1) (st + 1) b ++ [⟨20, 0, 0, 0, 0, st⟩])
  | .sig k => [⟨k.op, 0, 0, 0, 0, st⟩]
  | .spawn k => [⟨24, atI (thNames nth) (thName k), 0, 0, 0, st⟩]
  | .join => [⟨25, atI (thNames nth) (thName 1), 0, 0, 0, st⟩]
  | .set e => valE st e 2 ++ [⟨26, 0, 2, 0, 0, st⟩]
  | .get => [⟨27, 0, 0, 0, 0, st⟩]
def genL (nth base st : Nat) : List Sm → List In
  | [] => []
  | s :: r => genS nth base st s ++ genL nth (base + (genS nth base st s).length) (st + cntS s) r
end
def regsI (i : In) : List Int :=
  if i.op = 1 ∨ i.op = 6 ∨ i.op = 10 ∨ i.op = 27 then [i.a]
  else if i.op = 2 ∨ i.op = 3 then [i.a, i.b]
  else if i.op = 4 then [i.a, i.b, i.c]
  else if i.op = 7 then [i.a, i.c]
  else if i.op = 8 ∨ i.op = 26 then [i.b]
  else if i.op = 9 then [i.b, i.c]
  else []
def genT (nth st : Nat) (b : List Sm) : List In := genL nth 0 st b ++ [⟨28, 0, 0, 0, 0, -1⟩]
def regMax (m : Int) (l : List Int) : Int := l.foldl (fun m r => max m (r + 1)) m
def regsF (l : List In) : Int := l.foldl (fun m i => regMax m (regsI i)) 2
def codeF (nth : Nat) : Nat → List (List Sm) → List (Int × List In)
  | _, [] => []
  | st, b :: r => (regsF (genT nth st b), genT nth st b) :: codeF nth (st + cntL b) r
def siteT (t : Nat) (b : List Sm) : List (Nat × Nat) := (List.range (cntL b)).map fun k => (t, k)
def sitesF : Nat → List (List Sm) → List (Nat × Nat)
  | _, [] => []
  | t, b :: r => siteT t b ++ sitesF (t + 1) r
end Mk
