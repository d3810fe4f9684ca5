/- Words. -/
import Derived.Test.YtfbkkgfkhhibfaaGreatProg
import Derived.Test.YtfbkkgfkhhibfaaGreatAsi
import Derived.KernelRfl
import Derived.IntWalk
set_option linter.unusedVariables false
set_option linter.unusedSimpArgs false
namespace AM
open Go Go.Proofs
@[go_sem] theorem aoZ:lay Tryz.prog 2=some (false,1)∧
 lay Tryz.prog 3=some (false,1)∧
 lay Tryz.prog 4=some (false,1)∧
 lay Tryz.prog 5=some (false,1)∧
 lay Tryz.prog 9=some (false,1)∧
 lay Tryz.prog 22=some (false,1)∧
 lay Tryz.prog 25=some (false,1)∧
 lay Tryz.prog 26=some (false,1)∧
 lay Tryz.prog 27=some (false,1)∧
 lay Tryz.prog 28=some (false,1)∧
 lay Tryz.prog 29=some (false,1)∧
 lay Tryz.prog 31=some (true,6)∧
 lay Tryz.prog 34=some (true,7)∧
 lay Tryz.prog 37=some (false,1)∧
 lay Tryz.prog 52=some (true,7)∧
 lay Tryz.prog 73=some (false,1)∧
 lay Tryz.prog 74=some (false,1)∧
 lay Tryz.prog 75=some (false,1)∧
 lay Tryz.prog 77=some (true,4)∧
 lay Tryz.prog 78=some (false,1)∧
 lay Tryz.prog 79=some (false,1)∧
 lay Tryz.prog 81=some (true,7)∧
 lay Tryz.prog 84=some (false,1)∧
 lay Tryz.prog 86=some (true,7)∧
 lay Tryz.prog 118=some (false,1):=by and_intros <;> kernel_rfl
@[go_sem] theorem ao0:lay Tryz.prog 119=some (false,1)∧
 lay Tryz.prog 121=some (true,2)∧
 lay Tryz.prog 124=some (true,2)∧
 lay Tryz.prog 161=some (false,1)∧
 lay Tryz.prog 163=some (true,2)∧
 lay Tryz.prog 144=some (true,5)∧
 lay Tryz.prog 167=some (false,1)∧
 lay Tryz.prog 169=some (true,4)∧
 lay Tryz.prog 174=some (false,1)∧
 lay Tryz.prog 176=some (true,4)∧
 lay Tryz.prog 182=some (true,6)∧
 lay Tryz.prog 185=some (false,1)∧
 lay Tryz.prog 192=some (false,1)∧
 lay Tryz.prog 194=some (true,4)∧
 lay Tryz.prog 196=some (true,11)∧
 lay Tryz.prog 154=some (true,3)∧
 lay Tryz.prog 233=some (true,3)∧
 lay Tryz.prog 242=some (true,6)∧
 aQ Tryz.prog 22=some (5,1,1)∧
 aQ Tryz.prog 25=some (144,5,48)∧
 aQ Tryz.prog 26=some (147,2,24)∧
 aQ Tryz.prog 27=some (150,2,24)∧
 aQ Tryz.prog 28=some (9,1,16)∧
 aQ Tryz.prog 29=some (154,3,24)∧
 aQ Tryz.prog 32=some (52,7,88):=by and_intros <;> kernel_rfl
@[go_sem] theorem ao1:aQ Tryz.prog 37=some (3,1,8)∧
 aQ Tryz.prog 73=some (231,2,32)∧
 aQ Tryz.prog 74=some (4,1,1)∧
 aQ Tryz.prog 75=some (233,3,24)∧
 aQ Tryz.prog 78=some (2,1,8)∧
 aQ Tryz.prog 79=some (169,4,64)∧
 aQ Tryz.prog 84=some (163,2,32)∧
 aQ Tryz.prog 88=some (124,2,16)∧
 aQ Tryz.prog 118=some (242,6,64)∧
 aQ Tryz.prog 119=some (176,4,72)∧
 aQ Tryz.prog 161=some (182,6,48)∧
 aQ Tryz.prog 167=some (37,1,24)∧
 aQ Tryz.prog 174=some (196,11,176)∧
 aQ Tryz.prog 192=some (194,4,56)∧
 aU Tryz.prog 31 0=some 0∧
 aU Tryz.prog 31 1=some 1∧
 aU Tryz.prog 31 2=some 2∧
 aU Tryz.prog 31 3=some 3∧
 aU Tryz.prog 31 4=some 4∧
 aU Tryz.prog 31 5=some 5∧
 aU Tryz.prog 52 1=some 1∧
 aU Tryz.prog 52 2=some 2∧
 aU Tryz.prog 52 3=some 3∧
 aU Tryz.prog 52 5=some 5∧
 aU Tryz.prog 52 6=some 6:=by and_intros <;> kernel_rfl
@[go_sem] theorem ao2:aU Tryz.prog 77 0=some 0∧
 aU Tryz.prog 77 1=some 1∧
 aU Tryz.prog 77 2=some 2∧
 aU Tryz.prog 77 3=some 3∧
 aU Tryz.prog 81 0=some 0∧
 aU Tryz.prog 81 1=some 4∧
 aU Tryz.prog 81 2=some 5∧
 aU Tryz.prog 81 3=some 6∧
 aU Tryz.prog 86 0=some 0∧
 aU Tryz.prog 86 1=some 6∧
 aU Tryz.prog 121 0=some 0∧
 aU Tryz.prog 121 1=some 1∧
 aU Tryz.prog 124 0=some 0∧
 aU Tryz.prog 124 1=some 1∧
 aU Tryz.prog 163 0=some 0∧
 aU Tryz.prog 163 1=some 1∧
 aU Tryz.prog 144 0=some 0∧
 aU Tryz.prog 144 1=some 1∧
 aU Tryz.prog 144 2=some 2∧
 aU Tryz.prog 144 3=some 3∧
 aU Tryz.prog 144 4=some 4∧
 aU Tryz.prog 169 0=some 0∧
 aU Tryz.prog 169 1=some 1∧
 aU Tryz.prog 169 2=some 2∧
 aU Tryz.prog 169 3=some 3:=by and_intros <;> kernel_rfl
@[go_sem] theorem ao3:aU Tryz.prog 176 0=some 0∧
 aU Tryz.prog 176 1=some 1∧
 aU Tryz.prog 176 2=some 2∧
 aU Tryz.prog 176 3=some 3∧
 aU Tryz.prog 178 0=some 0∧
 aU Tryz.prog 178 1=some 6∧
 aU Tryz.prog 178 2=some 7∧
 aU Tryz.prog 178 3=some 8∧
 aU Tryz.prog 178 4=some 9∧
 aU Tryz.prog 182 0=some 0∧
 aU Tryz.prog 182 1=some 1∧
 aU Tryz.prog 182 2=some 2∧
 aU Tryz.prog 182 3=some 3∧
 aU Tryz.prog 182 4=some 4∧
 aU Tryz.prog 182 5=some 5∧
 aU Tryz.prog 187 0=some 0∧
 aU Tryz.prog 187 1=some 1∧
 aU Tryz.prog 189 0=some 0∧
 aU Tryz.prog 189 1=some 1∧
 aU Tryz.prog 189 2=some 2∧
 aU Tryz.prog 189 3=some 3∧
 aU Tryz.prog 189 4=some 4∧
 aU Tryz.prog 189 5=some 5∧
 aU Tryz.prog 189 6=some 6∧
 aU Tryz.prog 189 7=some 7:=by and_intros <;> kernel_rfl
@[go_sem] theorem ao4:aU Tryz.prog 194 0=some 0∧
 aU Tryz.prog 194 1=some 1∧
 aU Tryz.prog 194 2=some 2∧
 aU Tryz.prog 194 3=some 3∧
 aU Tryz.prog 196 0=some 0∧
 aU Tryz.prog 196 1=some 1∧
 aU Tryz.prog 196 2=some 2∧
 aU Tryz.prog 196 3=some 3∧
 aU Tryz.prog 196 4=some 4∧
 aU Tryz.prog 196 5=some 5∧
 aU Tryz.prog 196 6=some 9∧
 aU Tryz.prog 196 7=some 10∧
 aU Tryz.prog 150 0=some 0∧
 aU Tryz.prog 150 1=some 1∧
 aU Tryz.prog 147 0=some 0∧
 aU Tryz.prog 147 1=some 1∧
 aU Tryz.prog 154 0=some 0∧
 aU Tryz.prog 154 1=some 1∧
 aU Tryz.prog 231 0=some 0∧
 aU Tryz.prog 231 1=some 1∧
 aU Tryz.prog 233 0=some 0∧
 aU Tryz.prog 233 1=some 1∧
 aU Tryz.prog 233 2=some 2∧
 aU Tryz.prog 239 0=some 0∧
 aU Tryz.prog 239 1=some 2:=by and_intros <;> kernel_rfl
@[go_sem] theorem ao5:aU Tryz.prog 239 2=some 3∧
 aU Tryz.prog 239 3=some 4∧
 aU Tryz.prog 239 4=some 5∧
 aU Tryz.prog 242 0=some 0∧
 aU Tryz.prog 242 1=some 1∧
 aU Tryz.prog 242 2=some 2∧
 aU Tryz.prog 242 3=some 3∧
 aU Tryz.prog 242 4=some 4∧
 aU Tryz.prog 242 5=some 5∧
 dn Tryz.prog 31=some [.emp,.emp,.emp,.emp,.emp,.emp]∧
 dn Tryz.prog 34=some [.emp,.emp,.emp,.emp,.emp,.emp,.emp]∧
 dn Tryz.prog 52=some [.pv (.sc (.int .i64 0)),.pv (.sc (.int .i64 0)),.pv (.sc (.int .i64 0)),.pv (.sc (.int .i64 0)),.pv (.sc (.int .i64 0)),.emp,.emp]∧
 dn Tryz.prog 77=some [.emp,.pv (.sc (.int .i64 0)),.emp,.emp]∧
 dn Tryz.prog 81=some [.emp,.pv (.sc (.int .i64 0)),.emp,.emp,.emp,.emp,.emp]∧
 dn Tryz.prog 86=some [.emp,.emp,.emp,.emp,.emp,.emp,.emp]∧
 dn Tryz.prog 121=some [.emp,.emp]∧
 dn Tryz.prog 124=some [.pv (.sc (.int .i64 0)),.pv (.sc (.int .i64 0))]∧
 dn Tryz.prog 163=some [.pv (.sc (.int .i64 0)),.emp]∧
 dn Tryz.prog 144=some [.pv (.sc (.string ⟨#[]⟩)),.pv (.sc (.int .i64 0)),.pv (.sc (.int .i64 0)),.pv (.sc (.bool false)),.pv (.sc (.int .i64 0))]∧
 dn Tryz.prog 169=some [.pv (.sc (.int .i64 0)),.emp,.emp,.pv (.sc (.int .i64 0))]∧
 dn Tryz.prog 176=some [.pv (.sc (.string ⟨#[]⟩)),.pv (.sc (.int .i64 0)),.emp,.emp]∧
 dn Tryz.prog 178=some [.emp,.emp,.emp,.emp,.emp,.emp,.emp,.emp,.pv (.sc (.int .i64 0)),.pv (.sc (.int .i64 0))]∧
 dn Tryz.prog 182=some [.pv (.sc (.int .i64 0)),.pv (.sc (.int .i64 0)),.pv (.sc (.int .i64 0)),.pv (.sc (.int .i64 0)),.pv (.sc (.int .i64 0)),.pv (.sc (.int .i64 0))]∧
 dn Tryz.prog 187=some [.emp,.pv (.sc (.int .i64 0))]∧
 dn Tryz.prog 189=some [.pv (.sc (.pointer none)),.pv (.sc (.int .i64 0)),.pv (.sc (.int .i64 0)),.pv (.sc (.bool false)),.pv (.sc (.bool false)),.pv (.sc (.bool false)),.pv (.sc (.bool false)),.emp]:=by and_intros <;> kernel_rfl
@[go_sem] theorem ao6:dn Tryz.prog 194=some [.pv (.sc (.int .i64 0)),.pv (.sc (.int .i64 0)),.pv (.sc (.string ⟨#[]⟩)),.emp]∧
 dn Tryz.prog 196=some [.pv (.sc (.int .i64 0)),.pv (.sc (.int .i64 0)),.pv (.sc (.string ⟨#[]⟩)),.pv (.sc (.string ⟨#[]⟩)),.emp,.pv (.sc (.int .i64 0)),.pv (.sc (.int .i64 0)),.pv (.sc (.string ⟨#[]⟩)),.emp,.emp,.emp]∧
 dn Tryz.prog 150=some [.pv (.sc (.string ⟨#[]⟩)),.pv (.sc (.int .i64 0))]∧
 dn Tryz.prog 147=some [.pv (.sc (.string ⟨#[]⟩)),.pv (.sc (.bool false))]∧
 dn Tryz.prog 154=some [.pv (.sc (.int .i64 0)),.pv (.sc (.int .i64 0)),.pv (.sc (.int .i64 0))]∧
 dn Tryz.prog 231=some [.pv (.sc (.int .i64 0)),.emp]∧
 dn Tryz.prog 233=some [.pv (.sc (.int .i64 0)),.pv (.sc (.int .i64 0)),.pv (.sc (.bool false))]∧
 dn Tryz.prog 239=some [.emp,.emp,.pv (.sc (.int .i64 0)),.emp,.emp,.emp]∧
 dn Tryz.prog 242=some [.pv (.sc (.int .i64 0)),.pv (.sc (.int .i64 0)),.pv (.sc (.string ⟨#[]⟩)),.pv (.sc (.int .i64 0)),.pv (.sc (.int .i64 0)),.pv (.sc (.string ⟨#[]⟩))]∧
 bH Tryz.prog 34=some [(0,6),(6,1)]∧
 bH Tryz.prog 52=some [(0,1),(1,1),(2,1),(3,1),(4,1),(5,1),(6,1)]∧
 bH Tryz.prog 77=some [(0,1),(1,1),(2,1),(3,1)]∧
 bH Tryz.prog 81=some [(0,4),(4,1),(5,1),(6,1)]∧
 bH Tryz.prog 86=some [(0,6),(6,1)]∧
 bH Tryz.prog 121=some [(0,1),(1,1)]∧
 bH Tryz.prog 124=some [(0,1),(1,1)]∧
 bH Tryz.prog 163=some [(0,1),(1,1)]∧
 bH Tryz.prog 144=some [(0,1),(1,1),(2,1),(3,1),(4,1)]∧
 bH Tryz.prog 169=some [(0,1),(1,1),(2,1),(3,1)]∧
 bH Tryz.prog 176=some [(0,1),(1,1),(2,1),(3,1)]∧
 bH Tryz.prog 178=some [(0,6),(6,1),(7,1),(8,1),(9,1)]∧
 bH Tryz.prog 182=some [(0,1),(1,1),(2,1),(3,1),(4,1),(5,1)]∧
 bH Tryz.prog 187=some [(0,1),(1,1)]∧
 bH Tryz.prog 189=some [(0,1),(1,1),(2,1),(3,1),(4,1),(5,1),(6,1),(7,1)]∧
 bH Tryz.prog 194=some [(0,1),(1,1),(2,1),(3,1)]:=by and_intros <;> kernel_rfl
@[go_sem] theorem ao7:bH Tryz.prog 196=some [(0,1),(1,1),(2,1),(3,1),(4,1),(5,4),(9,1),(10,1)]∧
 bH Tryz.prog 150=some [(0,1),(1,1)]∧
 bH Tryz.prog 147=some [(0,1),(1,1)]∧
 bH Tryz.prog 154=some [(0,1),(1,1),(2,1)]∧
 bH Tryz.prog 231=some [(0,1),(1,1)]∧
 bH Tryz.prog 233=some [(0,1),(1,1),(2,1)]∧
 bH Tryz.prog 239=some [(0,2),(2,1),(3,1),(4,1),(5,1)]∧
 bH Tryz.prog 242=some [(0,1),(1,1),(2,1),(3,1),(4,1),(5,1)]∧
 Ec Tryz.prog 3=some .i64∧
 Ec Tryz.prog 5=some .u8∧
 KY Tryz.prog 9=true∧
 Hu Tryz.prog 4=true:=by and_intros <;> kernel_rfl
def vE1 (F:Nat→Option PV):Option AV→AV→Prop
 | some v,u=>wk F v u
 | none,_=>False
def vE (F:Nat→Option PV)(n:Nat)(ρ:Nat→Nat)(env:Env):List (Nat×AV)→Prop
 | []=>True
 | (t,u) :: r=>u.lb n=true∧vE1 F (env t) (u.ren ρ)∧vE F n ρ env r
def vO1 (F:Nat→Option PV):Option Obj→Obj→Prop
 | some o,u=>PT F o u
 | none,_=>False
def vO (F:Nat→Option PV)(n:Nat)(fs:List Nat)(ρ:Nat→Nat)(σ:Sto):List (Option Obj)→Nat→Prop
 | [],_=>True
 | none :: r,k=>vO F n fs ρ σ r (k+1)
 | some o :: r,k=>o.lb n=true∧ρ k∉fs∧vO1 F (σ (ρ k)) (o.ren ρ)∧vO F n fs ρ σ r (k+1)
def vF (σ:Sto):List (Nat×Option (List CT))→Prop
 | []=>True
 | p :: r=>rY σ p∧vF σ r
def Ej:List Nat→Bool
 | []=>true
 | a :: r=>!(r.any fun b=>b==a) && Ej r
theorem Em:∀ {l:List Nat},Ej l=true→l.Nodup
 | [],_=>List.nodup_nil
 |
  a :: r,h=>by
  simp only[Ej,Bool.and_eq_true,Bool.not_eq_true',List.any_eq_false,beq_iff_eq] at h
  exact List.nodup_cons.2 ⟨fun hm=>h.1 a hm rfl,Em h.2⟩
def lsB (n0:Nat):List Nat→Nat→Bool
 | [],_=>true
 | a :: r,k=>(decide (n0≤k) || a==k) && lsB n0 r (k+1)
theorem Uy {n0:Nat} :∀ {ls:List Nat} {k:Nat},lsB n0 ls k=true→∀j,j < ls.length→k+j < n0→ls.getD j 0=k+j
 | [],_,_,j,h,_=>by simp at h
 |
  a :: r,k,h,j,h1,h2=>by
  simp only[lsB,Bool.and_eq_true,Bool.or_eq_true,decide_eq_true_eq,beq_iff_eq] at h
  cases j with
  | zero=>rcases h.1 with h3 | h3 <;> simp_all <;> omega
  |
   succ j=>
   have:=Uy h.2 j (by simpa using h1) (by omega)
   simp only[List.getD_cons_succ]
   omega
def AU:List (Option Obj)→List Nat→Bool
 | none :: S,_ :: ls=>AU S ls
 | some _ :: S,l :: ls=>!(memL l S ls) && AU S ls
 | _,_=>true
where memL (l:Nat):List (Option Obj)→List Nat→Bool
 | none :: S,_ :: ls=>memL l S ls
 | some _ :: S,l' :: ls=>l'==l || memL l S ls
 | _,_=>false
theorem wZ {l:Nat} :∀ {S:List (Option Obj)} {ls:List Nat},AU.memL l S ls=false→ls.length=S.length→∀k o,S[k]?=some (some o)→jB ls k≠l
 | [],_,_,_,k,o,hk=>by simp at hk
 | _ :: _,[],_,hl,_,_,_=>by simp at hl
 |
  none :: S,_ :: ls,h,hl,k,o,hk=>by
  cases k with
  | zero=>simp at hk
  | succ k=>exact wZ (S:=S) (ls:=ls) (by simpa [AU.memL] using h) (by simpa using hl) k o (by simpa using hk)
 |
  some _ :: S,l' :: ls,h,hl,k,o,hk=>by
  simp only[AU.memL,Bool.or_eq_false_iff,beq_eq_false_iff_ne] at h
  cases k with
  | zero=>exact h.1
  | succ k=>exact wZ h.2 (by simpa using hl) k o (by simpa using hk)
theorem EE:∀ {S:List (Option Obj)} {ls:List Nat},AU S ls=true→ls.length=S.length→Xm S ls
 | [],_,_,_=>fun k k' o o' hk=>by simp at hk
 | _ :: _,[],_,hl=>by simp at hl
 |
  none :: S,l :: ls,h,hl=>fun k k' o o' hk hk' e=>by
  cases k with
  | zero=>simp at hk
  |
   succ k=>cases k' with
   | zero=>simp at hk'
   | succ k'=>rw [EE (S:=S) (ls:=ls) (by simpa [AU] using h) (by simpa using hl) k k' o o' (by simpa using hk) (by simpa using hk') e]
 |
  some o1 :: S,l :: ls,h,hl=>fun k k' o o' hk hk' e=>by
  simp only[AU,Bool.and_eq_true,Bool.not_eq_true'] at h
  have hl':ls.length=S.length:=by simpa using hl
  cases k with
  |
   zero=>cases k' with
   | zero=>rfl
   | succ k'=>exact absurd e.symm (wZ h.1 hl' k' o' (by simpa using hk'))
  |
   succ k=>cases k' with
   | zero=>exact absurd e (wZ h.1 hl' k o (by simpa using hk))
   | succ k'=>rw [EE h.2 hl' k k' o o' (by simpa using hk) (by simpa using hk') e]
def Ze (n0:Nat)(ls:List Nat)(S:List (Option Obj))(fs:List Nat):Bool:=ls.length==S.length && AU S ls && lsB n0 ls 0 && decide (n0≤S.length) && Ej fs
theorem NZ {n0:Nat}{env:Env}{σ:Sto}{E:List (Nat×AV)}{S:List (Option Obj)}(ls:List Nat)(fl:List (Nat×Option (List CT)))(hb:Ze n0 ls S (fl.map (·.1))=true)(hf:vF σ fl)(hE:vE (nT σ fl) S.length (jB ls) env E)(hO:vO (nT σ fl) S.length (fl.map (·.1)) (jB ls) σ S 0):View n0 env σ E S:=by
 simp only[Ze,Bool.and_eq_true,beq_iff_eq,decide_eq_true_eq] at hb;obtain⟨⟨⟨⟨b1,b2⟩,b3⟩,b4⟩,b5⟩:=hb;refine⟨ls,fl,b1,EE b2 b1,fun k hk=>?_,b4,?_,Em b5,?_,?_⟩
 · simpa [jB] using Uy b3 k (by omega) (by omega)
 · clear b5 hE hO;induction fl with
   | nil=>simp
   | cons p r ih=>
    intro q hq;rcases List.mem_cons.1 hq with rfl | hq
    · exact hf.1
    · exact ih hf.2 q hq
 · clear hO;induction E with
   | nil=>simp
   |
    cons p r ih=>
    intro q hq;obtain⟨t,u⟩:=p;obtain⟨h1,h2,h3⟩:=hE;rcases List.mem_cons.1 hq with rfl | hq
    · refine⟨h1,?_⟩
      cases he:env t with
      | none=>rw [he] at h2;exact h2.elim
      | some v=>rw [he] at h2;exact⟨v,rfl,h2⟩
    · exact ih h3 q hq
 · have key:∀(S':List (Option Obj)) (k:Nat),vO (nT σ fl) S.length (fl.map (·.1)) (jB ls) σ S' k→∀p∈S'.zipIdx k,∀o,p.1=some o→o.lb S.length=true∧jB ls p.2∉fl.map (·.1)∧∃o',σ (jB ls p.2)=some o'∧PT (nT σ fl) o' (o.ren (jB ls)):=by
    intro S';induction S' with
    | nil=>intro k _ p hp;simp at hp
    |
     cons x r ih=>
     intro k hv p hp o ho;rw[List.zipIdx_cons] at hp;rcases List.mem_cons.1 hp with rfl | hp'
     · dsimp only at ho;subst ho;obtain⟨h1,h2,h3,_⟩:=hv;refine⟨h1,h2,?_⟩
       cases he:σ (jB ls k) with
       | none=>rw [he] at h3;exact h3.elim
       | some o'=>rw [he] at h3;exact⟨o',rfl,h3⟩
     · cases x with
       | none=>exact ih _ hv p hp' o ho
       | some o'=>exact ih _ hv.2.2.2 p hp' o ho
   exact key S 0 hO
section
variable {F : Nat → Option PV} {n : Nat} {fs : List Nat} {ρ : Nat → Nat} {env : Env} {σ : Sto} {t k : Nat} {u v : AV} {o o' : Obj}
@[go_sem] theorem ak1:vE F n ρ env []=True:=rfl
@[go_sem] theorem ahX {r:List (Nat×AV)} :vE F n ρ env ((t,u) :: r)=(u.lb n=true∧vE1 F (env t) (u.ren ρ)∧vE F n ρ env r):=rfl
@[go_sem] theorem afz:vE1 F (some v) u=wk F v u:=rfl
@[go_sem] theorem afA:vO1 F (some o) o'=PT F o o':=rfl
@[go_sem] theorem ak2:vO F n fs ρ σ [] k=True:=rfl
@[go_sem] theorem ahY {r:List (Option Obj)} :vO F n fs ρ σ (none :: r) k=vO F n fs ρ σ r (k+1):=rfl
@[go_sem] theorem ahZ {r:List (Option Obj)} :vO F n fs ρ σ (some o :: r) k=(o.lb n=true∧ρ k∉fs∧vO1 F (σ (ρ k)) (o.ren ρ)∧vO F n fs ρ σ r (k+1)):=rfl
@[go_sem] theorem ak3:vF σ []=True:=rfl
@[go_sem] theorem ah0 {p:Nat×Option (List CT)}{r:List (Nat×Option (List CT))} :vF σ (p :: r)=(rY σ p∧vF σ r):=rfl
@[go_sem] theorem ana {p:PV} :wk F (.pv p) u=(.pv p=u):=by cases u <;> simp only[wk]
@[go_sem] theorem abn {r m r' m':Nat} :wk F (.own r m) (.own r' m')=(r=r'∧m=m'):=by simp only[wk,AV.own.injEq]
@[go_sem] theorem acV {r m:Nat}{p:PV} :wk F (.own r m) (.pv p)=(F r=some p∧nM p m):=by simp only[wk]
@[go_sem] theorem acW {p:PV} :wk F .emp (.pv p)=(p= .sl []∨∃cts,p= .tr cts 0):=by simp only[wk]
@[go_sem] theorem abo:wk F .emp .emp=True:=by simp only[wk]
@[go_sem] theorem ak4 {r m:Nat} :wk F (.ptr r m) u=(.ptr r m=u):=by cases u <;> simp only[wk]
@[go_sem] theorem ak5 {cs ds:List AV} :wk F (.agg cs) (.agg ds)=wkL F cs ds:=by simp only[wk]
@[go_sem] theorem ak6 {cs ds:List AV} :wk F (.tup cs) (.tup ds)=wkL F cs ds:=by simp only[wk]
@[go_sem] theorem ah1:wkL F [] []=True:=by simp only[wkL]
@[go_sem] theorem afB {cs ds:List AV} :wkL F (v :: cs) (u :: ds)=(wk F v u∧wkL F cs ds):=by simp only[wkL]
@[go_sem] theorem ah2 {cs ds:List AV} :PT F (.box cs) (.box ds)=wkL F cs ds:=rfl
@[go_sem] theorem ah3 {e k e' k':Nat}{els els':List (List PV)} :PT F (.row e k els) (.row e' k' els')=(e=e'∧k=k'∧els=els'):=by simp[PT]
@[go_sem] theorem anb {p:PV} :AV.lb n (.pv p)=true:=rfl
@[go_sem] theorem ak7:AV.lb n .emp=true:=rfl
@[go_sem] theorem ak8 {r m:Nat} :AV.lb n (.own r m)=decide (r < n):=by simp only[AV.lb]
@[go_sem] theorem ak9 {r m:Nat} :AV.lb n (.ptr r m)=decide (r < n):=by simp only[AV.lb]
@[go_sem] theorem ala {cs:List AV} :AV.lb n (.agg cs)=AV.lbL n cs:=by simp only[AV.lb]
@[go_sem] theorem alb {cs:List AV} :AV.lb n (.tup cs)=AV.lbL n cs:=by simp only[AV.lb]
@[go_sem] theorem ah4:AV.lbL n []=true:=by simp only[AV.lbL]
@[go_sem] theorem afC {cs:List AV} :AV.lbL n (v :: cs)=(v.lb n && AV.lbL n cs):=by simp only[AV.lbL]
@[go_sem] theorem ah5 {cs:List AV} :Obj.lb n (.box cs)=AV.lbL n cs:=rfl
@[go_sem] theorem ah6 {e k:Nat}{els:List (List PV)} :Obj.lb n (.row e k els)=true:=rfl
@[go_sem] theorem alc {p:PV} :AV.ren ρ (.pv p)= .pv p:=rfl
@[go_sem] theorem ah7:AV.ren ρ .emp= .emp:=rfl
@[go_sem] theorem ah8 {r m:Nat} :AV.ren ρ (.own r m)= .own (ρ r) m:=by simp only[AV.ren]
@[go_sem] theorem ah9 {r m:Nat} :AV.ren ρ (.ptr r m)= .ptr (ρ r) m:=by simp only[AV.ren]
@[go_sem] theorem aia {cs:List AV} :AV.ren ρ (.agg cs)= .agg (AV.renL ρ cs):=by simp only[AV.ren]
@[go_sem] theorem aib {cs:List AV} :AV.ren ρ (.tup cs)= .tup (AV.renL ρ cs):=by simp only[AV.ren]
@[go_sem] theorem afD:AV.renL ρ []= []:=by simp only[AV.renL]
@[go_sem] theorem acX {cs:List AV} :AV.renL ρ (v :: cs)=v.ren ρ :: AV.renL ρ cs:=by simp only[AV.renL]
@[go_sem] theorem afE {cs:List AV} :Obj.ren ρ (.box cs)= .box (AV.renL ρ cs):=rfl
@[go_sem] theorem afF {e k:Nat}{els:List (List PV)} :Obj.ren ρ (.row e k els)= .row e k els:=rfl
@[go_sem] theorem afG {a:Nat}{r:List Nat} :jB (a :: r) 0=a:=rfl
@[go_sem] theorem afH {a:Nat}{r:List Nat} :jB (a :: r) (k+1)=jB r k:=rfl
@[go_sem] theorem afI:Ah [v]=v:=rfl
@[go_sem] theorem afJ {r:List AV} :Ah (v :: u :: r)= .tup (v :: u :: r):=rfl
@[go_sem] theorem afK {x:Option Obj}{r:List (Option Obj)} :lQ (x :: r) 0=x:=by simp[lQ]
@[go_sem] theorem afL {x:Option Obj}{r:List (Option Obj)} :lQ (x :: r) (k+1)=lQ r k:=by simp[lQ]
end
def rT (P:Program)(env:Env)(σ:Sto)(rs:List ResultVar)(K:AV→Prop):Prop:=
 match wu P env σ rs with
 | none=>False
 | some vs=>K (Ah vs)
theorem EF {P:Program}{n0:Nat}{rs:List ResultVar}{post:AV→List (Option Obj)→Prop}{env:Env}{σ:Sto}(r:AV)(g:List (Option Obj))(ls:List Nat)(fl:List (Nat×Option (List CT)))(hb:Ze n0 ls g (fl.map (·.1))=true)(hl:g.length≤n0+8)(hp:post r g)(hf:vF σ fl)(hE:rT P env σ rs fun v=>r.lb g.length=true∧wk (nT σ fl) v (r.ren (jB ls)))(hO:vO (nT σ fl) g.length (fl.map (·.1)) (jB ls) σ g 0):jL P n0 rs post env σ:=by
 unfold rT at hE;unfold jL
 cases he:wu P env σ rs with
 | none=>rw [he] at hE;exact hE.elim
 |
  some vs=>
  rw[he] at hE;exact⟨r,g,hp,hl,NZ ls fl hb hf ⟨hE.1,by simpa [iF,Env.put,vE1] using hE.2,trivial⟩ hO⟩
theorem Uz {P:Program}{rs:List ResultVar}{Q:AV→Prop}{env:Env}{σ:Sto}(r:AV)(fl:List (Nat×Option (List CT)))(hb:Ej (fl.map (·.1))=true)(h0:r.lb 0=true)(hq:Q r)(hf:vF σ fl)(hE:rT P env σ rs fun v=>wk (nT σ fl) v r):jL P 0 rs (fun v g=>g= []∧v.lb 0=true∧Q v) env σ:=
 EF r [] [] fl (by simp[Ze,AU,lsB,hb]) (by simp) ⟨rfl,h0,hq⟩ hf (by
  unfold rT at hE⊢
  cases he:wu P env σ rs with
  | none=>rw [he] at hE;exact hE.elim
  | some vs=>rw [he] at hE;exact⟨h0,by rw[KU r _ h0];exact hE⟩) trivial
abbrev FnEq (P:Program)(f:FuncId)(vs:List AV)(r:AV):Prop:=jo P f vs (fun v=>v=r)
theorem Xz {P:Program}{dr:Bool}{f:FuncId}{nx i:Nat}{dD:List (Option AV)}{σ:Sto}{K:AV→List (Nat×Option Obj)→Key→Prop}{vs:List AV}{r:AV}(hf:FnEq P f vs r)(hv:dD=vs.map some)(hr:r.lb 0=true)(h:K r [] Tu):jO P dr f nx i dD σ K:=D9 hf hv (fun _=>⟨r,hr,rfl⟩) (fun r' _ e=>by rw[e];exact h)
theorem abp {P:Program}{rs:List ResultVar}{env:Env}{σ:Sto}{r:AV}(fl:List (Nat×Option (List CT)))(hb:Ej (fl.map (·.1))=true)(h0:r.lb 0=true)(hf:vF σ fl)(hE:rT P env σ rs fun v=>wk (nT σ fl) v r):jL P 0 rs (fun v g=>g= []∧v.lb 0=true∧v=r) env σ:=Uz r fl hb h0 rfl hf hE
section
variable {P : Program} {env : Env} {σ : Sto} {K : AV → Prop}
def rA (P:Program)(env:Env)(σ:Sto):List ResultVar→List AV→(AV→Prop)→Prop
 | [],acc,K=>K (Ah acc)
 |
  .tmp t :: r,acc,K=>match env t with
  | some v=>rA P env σ r (acc++ [v]) K
  | none=>False
 |
  .cell a t :: r,acc,K=>match lay P t,env a with
  |
   some (g,k),some (.ptr l off)=>match σ l with
   |
    some (.box cs)=>match uh g k cs off with
    | some v=>rA P env σ r (acc++ [v]) K
    | none=>False
   | _=>False
  | _,_=>False
theorem UA:∀(rs:List ResultVar) (acc:List AV),rA P env σ rs acc K→∃vs,wu P env σ rs=some vs∧K (Ah (acc++vs))
 | [],acc,h=>⟨[],rfl,by simp only[rA] at h;simpa using h⟩
 |
  .tmp t :: r,acc,h=>by
  simp only[rA] at h
  cases he:env t with
  | none=>rw [he] at h;exact h.elim
  |
   some v=>
   rw[he] at h
   obtain⟨vs,h1,h2⟩:=UA r _ h
   exact⟨v :: vs,by simp[wu,he,h1],by simpa using h2⟩
 |
  .cell a t :: r,acc,h=>by
  simp only[rA] at h
  cases hl:lay P t with
  | none=>rw [hl] at h;exact h.elim
  |
   some q=>
   obtain⟨g,k⟩:=q
   rw[hl] at h
   cases he:env a with
   | none=>rw [he] at h;exact h.elim
   |
    some p=>
    rw[he] at h
    cases p with
    |
     ptr l off=>
     dsimp only at h
     cases hs:σ l with
     | none=>rw [hs] at h;exact h.elim
     |
      some o=>
      rw[hs] at h
      cases o with
      |
       box cs=>
       dsimp only at h
       cases hd:uh g k cs off with
       | none=>rw [hd] at h;exact h.elim
       |
        some v=>
        rw[hd] at h
        obtain⟨vs,h1,h2⟩:=UA r _ h
        exact⟨v :: vs,by simp[wu,hl,he,hs,hd,h1],by simpa using h2⟩
      | row e k els=>exact h.elim
    | _=>exact h.elim
theorem Ij {rs:List ResultVar}(h:rA P env σ rs [] K):rT P env σ rs K:=by
 obtain⟨vs,h1,h2⟩:=UA rs [] h;simp only[rT,h1];simpa using h2
end
def zI (x:Option AV)(T E:Prop):Prop:=
 match x with
 | some (.pv (.sc (.bool b)))=>(b=true→T)∧(b=false→E)
 | _=>False
theorem abq {M:Mc}{k:List It}{env:Env}{σ:Sto}{nx:Nat}{c:Operand}{t e:Code}(h:zI (ev env c) (sr M (.code t :: k) env σ nx) (sr M (.code e :: k) env σ nx)):sr M (.code (.cond c t e) :: k) env σ nx:=by
 unfold zI at h;split at h
 · rename_i b hb
   exact XA hb h.1 h.2
 · exact h.elim
@[go_sem] theorem aic {p:Prop} [Decidable p] {T E:Prop} :zI (some (.pv (.sc (.bool (decide p))))) T E=((p→T)∧(¬p→E)):=by simp[zI]
@[go_sem] theorem aid {a b:Int}{T E:Prop} :zI (some (.pv (.sc (.bool (a==b))))) T E=((a=b→T)∧(a≠b→E)):=by simp[zI]
@[go_sem] theorem aie {a b:Int}{T E:Prop} :zI (some (.pv (.sc (.bool (a !=b))))) T E=((a≠b→T)∧(a=b→E)):=by simp[zI]
theorem ui {a b:ByteArray} :(a.toList==b.toList)=decide (a=b):=by
 rw[Bool.eq_iff_iff];simp only[beq_iff_eq,decide_eq_true_eq];refine⟨fun h=>?_,fun h=>by rw[h]⟩;rw[ByteArray.toList_eq,ByteArray.toList_eq] at h
 cases a
 cases b
 congr 1;exact Array.toList_inj.1 h
@[go_sem] theorem aif {a b:ByteArray}{T E:Prop} :zI (some (.pv (.sc (.bool (a.toList==b.toList))))) T E=((a=b→T)∧(a≠b→E)):=by rw[ui];simp[zI]
@[go_sem] theorem aih {b:Bool}{T E:Prop} :zI (some (.pv (.sc (.bool (!b))))) T E=zI (some (.pv (.sc (.bool b)))) E T:=by cases b <;> simp[zI]
theorem eu {b:Bool}{T E:Prop} :zI (some (.pv (.sc (.bool b)))) T E=((b=true→T)∧(b=false→E)):=rfl
@[go_sem] theorem ald {T E:Prop} :zI (some (.pv (.sc (.bool true)))) T E=T:=by simp[zI]
@[go_sem] theorem ale {T E:Prop} :zI (some (.pv (.sc (.bool false)))) T E=E:=by simp[zI]
@[congr] theorem acY {x y:Option AV}{T E:Prop}(h:x=y):zI x T E=zI y T E:=by rw[h]
@[congr] theorem afM {M:Mc}{k:List It}{env env':Env}{σ σ':Sto}{nx nx':Nat}(h:env=env')(h2:σ=σ')(h3:nx=nx'):sr M k env σ nx=sr M k env' σ' nx':=by rw[h,h2,h3]
@[congr] theorem afN {P:Program}{ops:Array Oper}{nx nx':Nat}{dr:Bool}{U:List (Nat×Nat)}{K:Env→Sto→Nat→Prop}{log:List (Nat×Key)}{l:List Oper}{i i':Nat}{env env':Env}{σ σ':Sto}(h1:nx=nx')(h4:i=i')(h5:env=env')(h6:σ=σ'):vS P ops nx dr U K log l i env σ=vS P ops nx' dr U K log l i' env' σ':=by rw[h1,h4,h5,h6]
def UB (l:Nat)(ls:List Nat):Bool:=ls.any fun x=>x==l
theorem EG {l:Nat}{ls:List Nat}(h:UB l ls=false):l∉ls:=by
 intro hm;simp only[UB,List.any_eq_false,beq_iff_eq] at h;exact h l hm rfl
def EH (fr:Nat)(a b:Key):Bool:=
 a.wr.all (fun l=>!UB l b.rd && !UB l b.wr) && b.wr.all (fun l=>!UB l a.rd) &&(!a.mks || (b.rd.all (fun l=>!SL fr l) && b.wr.all (fun l=>!SL fr l))) &&(!b.isC || a.det)
theorem LV {fr:Nat}{a b:Key}(h:EH fr a b=true):mZ fr a b:=by
 simp only[EH,Bool.and_eq_true,List.all_eq_true,Bool.not_eq_true',Bool.or_eq_true] at h;obtain⟨⟨⟨h1,h2⟩,h3⟩,h4⟩:=h;refine⟨fun l hl=>⟨EG (h1 l hl).1,EG (h1 l hl).2⟩,fun l hl=>EG (h2 l hl),fun hm l hl=>?_,h4⟩;rcases h3 with h3 | h3
 · rw[hm] at h3;cases h3
 · rcases List.mem_append.1 hl with hl | hl
   · exact h3.1 l hl
   · exact h3.2 l hl
def alf (nx:Nat)(U:List (Nat×Nat))(i:Nat)(key:Key)(log:List (Nat×Key)):Bool:=log.all fun e=>!(U.any fun p=>p.1==e.1 && p.2==i) || EH (nx+8 * e.1) e.2 key
theorem EI {nx:Nat}{U:List (Nat×Nat)}{i:Nat}{key:Key}{log:List (Nat×Key)}(h:alf nx U i key log=true):Aq nx U i key log:=fun e he hu=>by
 have:=(List.all_eq_true.1 h) e he
 simp only[Bool.or_eq_true,Bool.not_eq_true',List.any_eq_false] at this
 rcases this with h1 | h1
 · exact absurd (by simp) (h1 _ hu)
 · exact LV h1
section
variable {P : Program} {ops : Array Oper} {nx i i' : Nat} {dr : Bool} {U : List (Nat × Nat)} {K : Env → Sto → Nat → Prop} {log : List (Nat × Key)} {l : List Oper} {env : Env} {σ : Sto} {d dg : Option Nat} {o : Oper} {want : Bool}
@[congr] theorem afO {x y:Option DO}(h:x=y):vD P ops nx dr U K log d l i env σ x=vD P ops nx dr U K log d l i env σ y:=by rw[h]
@[congr] theorem acZ {x y:Option AV}{dg':Option Nat}(h:x=y)(h2:dg=dg'):Eb P ops nx dr U K log o l i env σ want dg x=Eb P ops nx dr U K log o l i env σ want dg' y:=by rw[h,h2]
end
theorem UC {P:Program}{ops:Array Oper}{nx i:Nat}{dr:Bool}{U:List (Nat×Nat)}{K:Env→Sto→Nat→Prop}{log:List (Nat×Key)}{l:List Oper}{env:Env}{σ:Sto}{o:Oper}{want:Bool}{dg:Option Nat}{b:Bool}(h:zI (some (.pv (.sc (.bool b)))) (Eb P ops nx dr U K log o l i env σ want dg (some (.pv (.sc (.bool true))))) (Eb P ops nx dr U K log o l i env σ want dg (some (.pv (.sc (.bool false)))))):Eb P ops nx dr U K log o l i env σ want dg (some (.pv (.sc (.bool b)))):=WU h.1 h.2
theorem abr {P:Program}{us:Nat→List (Nat×Nat)}{nt n0:Nat}{R:Env→Sto→Prop}{hm:P.follows .mixedOrders=true}{k:List It}{env:Env}{σ:Sto}{nx id:Nat}{l:List Oper}{d:Bool}(h:vS P l.toArray nx d (if d=true then us id else []) (sr ⟨P,us,nt,n0,R,hm⟩ k) [] l 0 env σ):sr ⟨P,us,nt,n0,R,hm⟩ (.code (.region id l.toArray d) :: k) env σ nx:=P9 h
@[go_sem] theorem afP {a n:Nat} :(a:Int).tmod (n:Int)=((a % n:Nat):Int):=rfl
attribute [go_sem] List.map_append List.length_append List.forall_mem_cons Int.toNat_natCast List.not_mem_nil not_false_eq_true um List.zipIdx_cons List.zipIdx_nil List.length_map decide_true decide_false Bool.and_true Bool.true_and List.toList_toArray List.getElem?_toArray List.getElem?_cons_zero List.getElem?_cons_succ List.map_cons List.map_nil Option.map_some Option.map_none Option.bind_some Option.bind_none Option.isSome_some and_true true_and List.length_singleton List.all_cons List.all_nil List.take_zero List.drop_zero List.take_succ_cons List.drop_succ_cons List.take_nil List.drop_nil and_self Nat.zero_add rA List.nil_append List.cons_append List.length_nil List.length_cons
end AM
namespace AM
open Go Go.Proofs Go.RowKit
theorem dh {M:Mc}{k:List It}{env:Env}{σ:Sto}{nx:Nat}(l j e kk:Nat){cs:List AV}(h1:σ l=some (.box cs))(h2:cs[j]?=some .emp)(h:sr M k env ((σ.upd l (some (.box (cs.set j (.own nx 0))))).upd nx (some (.row e kk []))) (nx+1)):sr M k env σ nx:=by
 unfold sr at h⊢;intro hc fr Ψ loc a w hn hr hf;obtain⟨b,c,arr,ty,q1,q2,q3,q4⟩:=hr.ok.ob l _ h1;obtain⟨x,r1,r2,r3⟩:=q4 j _ h2;have hnl:nx≠l:=fun e=>by rw[←e,(hf nx (Nat.le_refl _)).2] at h1;cases h1
 cases r3 with
 |
  @emp A=>
  have hle:Loc.le loc (loc.upd nx (A,0)):=Loc.le_upd (hf nx (Nat.le_refl _)).1;have hok:Ok fr Ψ (loc.upd nx (A,0)) σ w:=hr.ok.locs hle (fun r o ho=>Loc.upd_ne (fun e=>by rw[e,(hf nx (Nat.le_refl _)).2] at ho;cases ho));have hbl:blk (loc.upd nx (A,0)) l=some b:=by unfold blk;rw[Loc.upd_ne (Ne.symm hnl),q1]
  have hfree:=hok.free h1 hbl
  have hok2:Ok fr Ψ (loc.upd nx (A,0)) ((σ.upd l none).upd l (some (.box (cs.set j (.own nx 0))))) w:=by
   refine (hok.drop l).claim (by simp[Sto.upd]) ⟨b,c,arr,ty,by rw[Loc.upd_ne (Ne.symm hnl),q1],q2,by simp[q3],fun i v hv=>?_⟩ (fun b' hb'=>by rw[hbl] at hb';injection hb' with hb';rw[←hb'];exact hfree);rw[List.getElem?_set] at hv;split at hv
   · rename_i hij
     split at hv
     · injection hv with hv;subst hij hv;exact⟨_,r1,r2,.own Loc.upd_eq (Nat.le_refl _)⟩
     · cases hv
   · obtain⟨x,s1,s2,s3⟩:=q4 i v hv;exact⟨x,s1,s2,s3.mono (.refl _) hle⟩
  have he:((σ.upd l none).upd l (some (.box (cs.set j (.own nx 0)))))=σ.upd l (some (.box (cs.set j (.own nx 0)))):=by
   funext r;unfold Sto.upd;split <;> rfl
  rw[he] at hok2;have aaY:=hok2.claim (l:=nx) (o:= .row e kk []) (by unfold Sto.upd;rw[if_neg hnl];exact (hf nx (Nat.le_refl _)).2) ⟨A,0,Loc.upd_eq,.inl ⟨rfl,rfl⟩⟩ (fun b' hb'=>by simp[blk,Loc.upd_eq] at hb');refine h hc fr Ψ _ a w hn ⟨⟨fun t v ht=>?_⟩,aaY,hr.sz,hr.df⟩ (fun r hr'=>⟨?_,?_⟩)
  · obtain⟨x,s1,s2⟩:=hr.env.rep t v ht;exact⟨x,s1,s2.mono (.refl _) hle⟩
  · rw[Loc.upd_ne (by omega)];exact (hf r (by omega)).1
  · unfold Sto.upd;rw[if_neg (by omega)];split
    · rename_i hrl;exfalso;rw[hrl] at hr';have:=(hf l (by omega)).2;rw[h1] at this;cases this
    · exact (hf r (by omega)).2
theorem jq {M:Mc}{k:List It}{env:Env}{σ:Sto}{nx:Nat}(t e kk:Nat)(h2:env t=some .emp)(h:sr M k (env.put (some t) (.own nx 0)) (σ.upd nx (some (.row e kk []))) (nx+1)):sr M k env σ nx:=by
 unfold sr at h⊢;intro hc fr Ψ loc a w hn hr hf;obtain⟨x,r1,r3⟩:=hr.env.rep t _ h2;have hn0:=hf nx (Nat.le_refl _)
 cases r3 with
 |
  @emp A=>
  have hle:Loc.le loc (loc.upd nx (A,0)):=Loc.le_upd hn0.1;have hok:Ok fr Ψ (loc.upd nx (A,0)) σ w:=hr.ok.locs hle (fun r o ho=>Loc.upd_ne (fun e=>by rw[e,hn0.2] at ho;cases ho));have aaY:=hok.claim (l:=nx) (o:= .row e kk []) hn0.2 ⟨A,0,Loc.upd_eq,.inl ⟨rfl,rfl⟩⟩ (fun b' hb'=>by simp[blk,Loc.upd_eq] at hb');refine h hc fr Ψ _ a w hn ⟨⟨fun t' v ht=>?_⟩,aaY,hr.sz,hr.df⟩ (fun r hr'=>⟨?_,?_⟩)
  · simp only[Env.put] at ht;split at ht
    · rename_i hte
      injection ht with ht;subst hte ht;exact⟨_,r1,.own Loc.upd_eq (Nat.le_refl _)⟩
    · obtain⟨x,s1,s2⟩:=hr.env.rep t' v ht;exact⟨x,s1,s2.mono (.refl _) hle⟩
  · rw[Loc.upd_ne (by omega)];exact (hf r (by omega)).1
  · unfold Sto.upd;rw[if_neg (by omega)];exact (hf r (by omega)).2
theorem fQ {M:Mc}{k:List It}{env:Env}{σ:Sto}{nx:Nat}{c:Code}{T:Type}(E:T→List (Nat×AV))(S:T→List (Option Obj))(f:T→Prop)(h1:sr M (.code c :: .mark (fun env σ=>∃t,f t∧View M.n0 env σ (E t) (S t)) :: k) env σ nx)(h2:∀t,f t→sr M k (iF (E t)) (lQ (S t)) (S t).length):sr M (.code c :: k) env σ nx:=by
 unfold sr at h1 h2⊢;intro hc fr Ψ loc a w hn hr hf;obtain⟨c1,c2⟩:=iG hc;have:=h1 (by simp only[oV,Bool.and_eq_true];exact⟨c1,c2⟩) fr Ψ loc a w hn hr hf;refine wp_mono this (fun e a w hq=>?_)
 cases e with
 |
  normal=>
  obtain⟨env,σ,nx,Ψ,loc,q1,q2,t,q3,q4⟩:=hq;obtain⟨Ψ',loc',r1,r2⟩:=rX q1 hn q4;exact h2 t q3 c2 fr Ψ' loc' a w hn r1 r2
 | _=>exact hq
def cO (σ:Sto)(ρ:Nat→Nat):List Nat→List Obj→Prop
 | l :: ls,o :: os=>σ l=some (o.ren ρ)∧cO σ ρ ls os
 | _,_=>True
theorem Ub {σ:Sto}{ρ:Nat→Nat} :∀ {ls:List Nat} {os:List Obj},cO σ ρ ls os→ls.length=os.length→∀k o,os[k]?=some o→σ (ls.getD k 0)=some (o.ren ρ)
 | [],[],_,_,k,o,h=>by simp at h
 | l :: ls,o :: os,h,hl,0,o',h'=>by simp at h';subst h';simpa using h.1
 | l :: ls,o :: os,h,hl,k+1,o',h'=>by simpa using Ub h.2 (by simpa using hl) k o' (by simpa using h')
def cB (nx i:Nat)(ls:List Nat)(n:Nat):Bool:=ls.length==n && Ej ls && ls.all (fun l=>!own nx i l)
theorem NS {P:Program}{dr:Bool}{f:FuncId}{nx i:Nat}{dD:List (Option AV)}{σ:Sto}{K:AV→List (Nat×Option Obj)→Key→Prop}{vs:List AV}{pre:List Obj}{post:AV→List (Option Obj)→Prop}(hc:ACall P f vs pre post)(ls:List Nat)(hg:isGo P f=true)(hb:cB nx i ls pre.length=true)(hv:dD=(AV.renL (rho ls (nx+8 * i)) vs).map some)(ha:AV.lbL pre.length vs=true)(hp:pre.all (Obj.lb pre.length)=true)(ho:cO σ (rho ls (nx+8 * i)) ls pre)(hi:dr=true→∃r g,post r g∧pre.length≤g.length∧g.length≤pre.length+8)
 (h:∀r g,post r g→K (r.ren (rho ls (nx+8 * i))) (renG (rho ls (nx+8 * i)) g) ⟨[],ls,false,true,true⟩):jO P dr f nx i dD σ K:=by
 simp only[cB,Bool.and_eq_true,beq_iff_eq] at hb;exact⟨vs,pre,post,ls,hg,hc,hv,ha,hp,hb.1.1,Em hb.1.2,hb.2,fun k o hk=>Ub ho hb.1.1 k o hk,hi,fun r g q _ _=>h r g q⟩
def fz1 (c:Option (List CT))(o:Option Obj):Option PV:=
 match c,o with
 | none,some (.row _ _ els)=>some (.sl els)
 | some cts,some (.row _ _ els)=>some (.tr cts els.length)
 | _,_=>none
@[go_sem] theorem aka {e k:Nat}{els:List (List PV)} :fz1 none (some (.row e k els))=some (.sl els):=rfl
@[go_sem] theorem akb {e k:Nat}{cts:List CT}{els:List (List PV)} :fz1 (some cts) (some (.row e k els))=some (.tr cts els.length):=rfl
@[go_sem] theorem ae0 {σ:Sto}{a r:Nat}{c:Option (List CT)}{fl:List (Nat×Option (List CT))} :nT σ ((a,c) :: fl) r=if a=r then fz1 c (σ r) else nT σ fl r:=by
 unfold nT;by_cases h:a=r
 · subst h;simp only[List.find?_cons,beq_self_eq_true,if_true]
   cases c <;> cases hσ:σ a with
   | none=>rfl
   | some o=>cases o <;> rfl
 · have hb:(a==r)=false:=by simpa using h
   simp only[List.find?_cons,hb,if_neg h]
@[go_sem] theorem ae1 {els:List (List PV)}{n:Nat} :nM (.sl els) n=(els.length=n):=rfl
@[go_sem] theorem ae2 {cts:List CT}{m n:Nat} :nM (.tr cts m) n=(m=n):=rfl
def fzK (o:Option Obj):Prop:=match o with
 | some (.row ..)=>True
 | _=>False
@[go_sem] theorem ahy {e k:Nat}{els:List (List PV)} :fzK (some (.row e k els))=True:=rfl
@[go_sem] theorem acL {σ:Sto}{r:Nat} :rY σ (r,none)=fzK (σ r):=by
 simp only[rY,fzK]
 cases σ r with
 | none=>rfl
 | some o=>cases o <;> rfl
@[go_sem] theorem ae3 {a b:Nat}{l:List Nat} :(a∈b :: l)=(a=b∨a∈l):=by simp
attribute [go_sem] or_self or_false false_or
section
variable {σ : Sto} {ρ : Nat → Nat} {l : Nat} {ls : List Nat} {o : Obj} {os : List Obj} {lab k : Nat}
@[go_sem] theorem ahz:cO σ ρ (l :: ls) (o :: os)=(σ l=some (o.ren ρ)∧cO σ ρ ls os):=rfl
@[go_sem] theorem akd:cO σ ρ [] os=True:=by cases os <;> rfl
@[go_sem] theorem ahA:rho ls lab k=if k < ls.length then ls.getD k 0 else lab+(k - ls.length):=rfl
@[go_sem] theorem acM {r:List Nat} :(l :: r).getD 0 0=l:=rfl
@[go_sem] theorem acN {r:List Nat} :(l :: r).getD (k+1) 0=r.getD k 0:=rfl
@[go_sem] theorem ahB {g:List (Option Obj)} :renG ρ g=g.zipIdx.map fun p=>(ρ p.2,p.1.map (Obj.ren ρ)):=rfl
end
@[go_sem] theorem Xf {n:Nat} :∀ {l:List PV},AV.lbL n (l.map .pv)=true
 | []=>rfl
 | p :: l=>by simp only[List.map_cons,AV.lbL,AV.lb,Bool.true_and];exact Xf
@[go_sem] theorem Uc {ρ:Nat→Nat} :∀ {l:List PV},AV.renL ρ (l.map .pv)=l.map .pv
 | []=>rfl
 | p :: l=>by simp only[List.map_cons,AV.renL,AV.ren];rw[Uc]
@[go_sem] theorem PH:∀ {l:List PV},(l.map AV.pv).all fA=true
 | []=>rfl
 | p :: l=>by simp only[List.map_cons,List.all_cons];rw[PH];rfl
@[go_sem] theorem Ud:∀ {l:List PV},qy (l.map AV.pv)=some l
 | []=>rfl
 | p :: l=>by simp only[List.map_cons,qy,toP];rw[Ud]
@[reducible] def rw_ (r:List PV):AV:= .agg (r.map .pv)
attribute [go_sem] true_or or_true
theorem iC {α:Type}(l:List α)(f:α→List PV){els:List (List PV)}{j k:Nat}{F:List PV→Prop}(hj:j < l.length)(hF:∀x∈l,F (f x))(he:els=l.map f:=by rfl)(hk:∀x,(f x).length=k:=by first | exact fun _=>rfl | exact fun x=>by simp only[go_sem]):Ht els (j:Int) k F:=by
 rw[he];exact aB (x:=l[j]) (by omega) (by simp[hj]) (hk _) (hF _ (List.getElem_mem hj))
