/- Words. -/
import Derived.Test.YtfbkkgfkhhibfaaGreatProg
import Derived.Test.YtfbkkgfkhhibfaaGreatAsi
import Derived.KernelRfl
set_option linter.unusedVariables false
set_option linter.unusedSimpArgs false
namespace AM
open Go Go.Proofs
@[go_sem] theorem atK:lay Tryz.prog 2=some (false,1)/\
 lay Tryz.prog 3=some (false,1)/\
 lay Tryz.prog 4=some (false,1)/\
 lay Tryz.prog 5=some (false,1)/\
 lay Tryz.prog 9=some (false,1)/\
 lay Tryz.prog 22=some (false,1)/\
 lay Tryz.prog 25=some (false,1)/\
 lay Tryz.prog 26=some (false,1)/\
 lay Tryz.prog 27=some (false,1)/\
 lay Tryz.prog 28=some (false,1)/\
 lay Tryz.prog 29=some (false,1)/\
 lay Tryz.prog 31=some (true,6)/\
 lay Tryz.prog 34=some (true,7)/\
 lay Tryz.prog 37=some (false,1)/\
 lay Tryz.prog 52=some (true,7)/\
 lay Tryz.prog 73=some (false,1)/\
 lay Tryz.prog 74=some (false,1)/\
 lay Tryz.prog 75=some (false,1)/\
 lay Tryz.prog 77=some (true,4)/\
 lay Tryz.prog 78=some (false,1)/\
 lay Tryz.prog 79=some (false,1)/\
 lay Tryz.prog 81=some (true,7)/\
 lay Tryz.prog 84=some (false,1)/\
 lay Tryz.prog 86=some (true,7)/\
 lay Tryz.prog 118=some (false,1):=by and_intros<;>kernel_rfl
@[go_sem] theorem atL:lay Tryz.prog 119=some (false,1)/\
 lay Tryz.prog 121=some (true,2)/\
 lay Tryz.prog 124=some (true,2)/\
 lay Tryz.prog 161=some (false,1)/\
 lay Tryz.prog 163=some (true,2)/\
 lay Tryz.prog 144=some (true,5)/\
 lay Tryz.prog 167=some (false,1)/\
 lay Tryz.prog 169=some (true,4)/\
 lay Tryz.prog 174=some (false,1)/\
 lay Tryz.prog 176=some (true,4)/\
 lay Tryz.prog 182=some (true,6)/\
 lay Tryz.prog 185=some (false,1)/\
 lay Tryz.prog 192=some (false,1)/\
 lay Tryz.prog 194=some (true,4)/\
 lay Tryz.prog 196=some (true,11)/\
 lay Tryz.prog 154=some (true,3)/\
 lay Tryz.prog 233=some (true,3)/\
 lay Tryz.prog 242=some (true,6)/\
 aS Tryz.prog 22=some (5,1,1)/\
 aS Tryz.prog 25=some (144,5,48)/\
 aS Tryz.prog 26=some (147,2,24)/\
 aS Tryz.prog 27=some (150,2,24)/\
 aS Tryz.prog 28=some (9,1,16)/\
 aS Tryz.prog 29=some (154,3,24)/\
 aS Tryz.prog 32=some (52,7,88):=by and_intros<;>kernel_rfl
@[go_sem] theorem atM:aS Tryz.prog 37=some (3,1,8)/\
 aS Tryz.prog 73=some (231,2,32)/\
 aS Tryz.prog 74=some (4,1,1)/\
 aS Tryz.prog 75=some (233,3,24)/\
 aS Tryz.prog 78=some (2,1,8)/\
 aS Tryz.prog 79=some (169,4,64)/\
 aS Tryz.prog 84=some (163,2,32)/\
 aS Tryz.prog 88=some (124,2,16)/\
 aS Tryz.prog 118=some (242,6,64)/\
 aS Tryz.prog 119=some (176,4,72)/\
 aS Tryz.prog 161=some (182,6,48)/\
 aS Tryz.prog 167=some (37,1,24)/\
 aS Tryz.prog 174=some (196,11,176)/\
 aS Tryz.prog 192=some (194,4,56)/\
 aU Tryz.prog 31 0=some 0/\
 aU Tryz.prog 31 1=some 1/\
 aU Tryz.prog 31 2=some 2/\
 aU Tryz.prog 31 3=some 3/\
 aU Tryz.prog 31 4=some 4/\
 aU Tryz.prog 31 5=some 5/\
 aU Tryz.prog 52 1=some 1/\
 aU Tryz.prog 52 2=some 2/\
 aU Tryz.prog 52 3=some 3/\
 aU Tryz.prog 52 5=some 5/\
 aU Tryz.prog 52 6=some 6:=by and_intros<;>kernel_rfl
@[go_sem] theorem atN:aU Tryz.prog 77 0=some 0/\
 aU Tryz.prog 77 1=some 1/\
 aU Tryz.prog 77 2=some 2/\
 aU Tryz.prog 77 3=some 3/\
 aU Tryz.prog 81 0=some 0/\
 aU Tryz.prog 81 1=some 4/\
 aU Tryz.prog 81 2=some 5/\
 aU Tryz.prog 81 3=some 6/\
 aU Tryz.prog 86 0=some 0/\
 aU Tryz.prog 86 1=some 6/\
 aU Tryz.prog 121 0=some 0/\
 aU Tryz.prog 121 1=some 1/\
 aU Tryz.prog 124 0=some 0/\
 aU Tryz.prog 124 1=some 1/\
 aU Tryz.prog 163 0=some 0/\
 aU Tryz.prog 163 1=some 1/\
 aU Tryz.prog 144 0=some 0/\
 aU Tryz.prog 144 1=some 1/\
 aU Tryz.prog 144 2=some 2/\
 aU Tryz.prog 144 3=some 3/\
 aU Tryz.prog 144 4=some 4/\
 aU Tryz.prog 169 0=some 0/\
 aU Tryz.prog 169 1=some 1/\
 aU Tryz.prog 169 2=some 2/\
 aU Tryz.prog 169 3=some 3:=by and_intros<;>kernel_rfl
@[go_sem] theorem atO:aU Tryz.prog 176 0=some 0/\
 aU Tryz.prog 176 1=some 1/\
 aU Tryz.prog 176 2=some 2/\
 aU Tryz.prog 176 3=some 3/\
 aU Tryz.prog 178 0=some 0/\
 aU Tryz.prog 178 1=some 6/\
 aU Tryz.prog 178 2=some 7/\
 aU Tryz.prog 178 3=some 8/\
 aU Tryz.prog 178 4=some 9/\
 aU Tryz.prog 182 0=some 0/\
 aU Tryz.prog 182 1=some 1/\
 aU Tryz.prog 182 2=some 2/\
 aU Tryz.prog 182 3=some 3/\
 aU Tryz.prog 182 4=some 4/\
 aU Tryz.prog 182 5=some 5/\
 aU Tryz.prog 187 0=some 0/\
 aU Tryz.prog 187 1=some 1/\
 aU Tryz.prog 189 0=some 0/\
 aU Tryz.prog 189 1=some 1/\
 aU Tryz.prog 189 2=some 2/\
 aU Tryz.prog 189 3=some 3/\
 aU Tryz.prog 189 4=some 4/\
 aU Tryz.prog 189 5=some 5/\
 aU Tryz.prog 189 6=some 6/\
 aU Tryz.prog 189 7=some 7:=by and_intros<;>kernel_rfl
@[go_sem] theorem atP:aU Tryz.prog 194 0=some 0/\
 aU Tryz.prog 194 1=some 1/\
 aU Tryz.prog 194 2=some 2/\
 aU Tryz.prog 194 3=some 3/\
 aU Tryz.prog 196 0=some 0/\
 aU Tryz.prog 196 1=some 1/\
 aU Tryz.prog 196 2=some 2/\
 aU Tryz.prog 196 3=some 3/\
 aU Tryz.prog 196 4=some 4/\
 aU Tryz.prog 196 5=some 5/\
 aU Tryz.prog 196 6=some 9/\
 aU Tryz.prog 196 7=some 10/\
 aU Tryz.prog 150 0=some 0/\
 aU Tryz.prog 150 1=some 1/\
 aU Tryz.prog 147 0=some 0/\
 aU Tryz.prog 147 1=some 1/\
 aU Tryz.prog 154 0=some 0/\
 aU Tryz.prog 154 1=some 1/\
 aU Tryz.prog 231 0=some 0/\
 aU Tryz.prog 231 1=some 1/\
 aU Tryz.prog 233 0=some 0/\
 aU Tryz.prog 233 1=some 1/\
 aU Tryz.prog 233 2=some 2/\
 aU Tryz.prog 239 0=some 0/\
 aU Tryz.prog 239 1=some 2:=by and_intros<;>kernel_rfl
@[go_sem] theorem atQ:aU Tryz.prog 239 2=some 3/\
 aU Tryz.prog 239 3=some 4/\
 aU Tryz.prog 239 4=some 5/\
 aU Tryz.prog 242 0=some 0/\
 aU Tryz.prog 242 1=some 1/\
 aU Tryz.prog 242 2=some 2/\
 aU Tryz.prog 242 3=some 3/\
 aU Tryz.prog 242 4=some 4/\
 aU Tryz.prog 242 5=some 5/\
 dE Tryz.prog 31=some [.emp,.emp,.emp,.emp,.emp,.emp]/\
 dE Tryz.prog 34=some [.emp,.emp,.emp,.emp,.emp,.emp,.emp]/\
 dE Tryz.prog 52=some [.pv (.sc (.int .i64 0)),.pv (.sc (.int .i64 0)),.pv (.sc (.int .i64 0)),.pv (.sc (.int .i64 0)),.pv (.sc (.int .i64 0)),.emp,.emp]/\
 dE Tryz.prog 77=some [.emp,.pv (.sc (.int .i64 0)),.emp,.emp]/\
 dE Tryz.prog 81=some [.emp,.pv (.sc (.int .i64 0)),.emp,.emp,.emp,.emp,.emp]/\
 dE Tryz.prog 86=some [.emp,.emp,.emp,.emp,.emp,.emp,.emp]/\
 dE Tryz.prog 121=some [.emp,.emp]/\
 dE Tryz.prog 124=some [.pv (.sc (.int .i64 0)),.pv (.sc (.int .i64 0))]/\
 dE Tryz.prog 163=some [.pv (.sc (.int .i64 0)),.emp]/\
 dE Tryz.prog 144=some [.pv (.sc (.string ⟨#[]⟩)),.pv (.sc (.int .i64 0)),.pv (.sc (.int .i64 0)),.pv (.sc (.bool false)),.pv (.sc (.int .i64 0))]/\
 dE Tryz.prog 169=some [.pv (.sc (.int .i64 0)),.emp,.emp,.pv (.sc (.int .i64 0))]/\
 dE Tryz.prog 176=some [.pv (.sc (.string ⟨#[]⟩)),.pv (.sc (.int .i64 0)),.emp,.emp]/\
 dE Tryz.prog 178=some [.emp,.emp,.emp,.emp,.emp,.emp,.emp,.emp,.pv (.sc (.int .i64 0)),.pv (.sc (.int .i64 0))]/\
 dE Tryz.prog 182=some [.pv (.sc (.int .i64 0)),.pv (.sc (.int .i64 0)),.pv (.sc (.int .i64 0)),.pv (.sc (.int .i64 0)),.pv (.sc (.int .i64 0)),.pv (.sc (.int .i64 0))]/\
 dE Tryz.prog 187=some [.emp,.pv (.sc (.int .i64 0))]/\
 dE Tryz.prog 189=some [.pv (.sc (.pointer none)),.pv (.sc (.int .i64 0)),.pv (.sc (.int .i64 0)),.pv (.sc (.bool false)),.pv (.sc (.bool false)),.pv (.sc (.bool false)),.pv (.sc (.bool false)),.emp]:=by and_intros<;>kernel_rfl
@[go_sem] theorem atS:dE Tryz.prog 194=some [.pv (.sc (.int .i64 0)),.pv (.sc (.int .i64 0)),.pv (.sc (.string ⟨#[]⟩)),.emp]/\
 dE Tryz.prog 196=some [.pv (.sc (.int .i64 0)),.pv (.sc (.int .i64 0)),.pv (.sc (.string ⟨#[]⟩)),.pv (.sc (.string ⟨#[]⟩)),.emp,.pv (.sc (.int .i64 0)),.pv (.sc (.int .i64 0)),.pv (.sc (.string ⟨#[]⟩)),.emp,.emp,.emp]/\
 dE Tryz.prog 150=some [.pv (.sc (.string ⟨#[]⟩)),.pv (.sc (.int .i64 0))]/\
 dE Tryz.prog 147=some [.pv (.sc (.string ⟨#[]⟩)),.pv (.sc (.bool false))]/\
 dE Tryz.prog 154=some [.pv (.sc (.int .i64 0)),.pv (.sc (.int .i64 0)),.pv (.sc (.int .i64 0))]/\
 dE Tryz.prog 231=some [.pv (.sc (.int .i64 0)),.emp]/\
 dE Tryz.prog 233=some [.pv (.sc (.int .i64 0)),.pv (.sc (.int .i64 0)),.pv (.sc (.bool false))]/\
 dE Tryz.prog 239=some [.emp,.emp,.pv (.sc (.int .i64 0)),.emp,.emp,.emp]/\
 dE Tryz.prog 242=some [.pv (.sc (.int .i64 0)),.pv (.sc (.int .i64 0)),.pv (.sc (.string ⟨#[]⟩)),.pv (.sc (.int .i64 0)),.pv (.sc (.int .i64 0)),.pv (.sc (.string ⟨#[]⟩))]/\
 bU Tryz.prog 34=some [(0,6),(6,1)]/\
 bU Tryz.prog 52=some [(0,1),(1,1),(2,1),(3,1),(4,1),(5,1),(6,1)]/\
 bU Tryz.prog 77=some [(0,1),(1,1),(2,1),(3,1)]/\
 bU Tryz.prog 81=some [(0,4),(4,1),(5,1),(6,1)]/\
 bU Tryz.prog 86=some [(0,6),(6,1)]/\
 bU Tryz.prog 121=some [(0,1),(1,1)]/\
 bU Tryz.prog 124=some [(0,1),(1,1)]/\
 bU Tryz.prog 163=some [(0,1),(1,1)]/\
 bU Tryz.prog 144=some [(0,1),(1,1),(2,1),(3,1),(4,1)]/\
 bU Tryz.prog 169=some [(0,1),(1,1),(2,1),(3,1)]/\
 bU Tryz.prog 176=some [(0,1),(1,1),(2,1),(3,1)]/\
 bU Tryz.prog 178=some [(0,6),(6,1),(7,1),(8,1),(9,1)]/\
 bU Tryz.prog 182=some [(0,1),(1,1),(2,1),(3,1),(4,1),(5,1)]/\
 bU Tryz.prog 187=some [(0,1),(1,1)]/\
 bU Tryz.prog 189=some [(0,1),(1,1),(2,1),(3,1),(4,1),(5,1),(6,1),(7,1)]/\
 bU Tryz.prog 194=some [(0,1),(1,1),(2,1),(3,1)]:=by and_intros<;>kernel_rfl
@[go_sem] theorem atT:bU Tryz.prog 196=some [(0,1),(1,1),(2,1),(3,1),(4,1),(5,4),(9,1),(10,1)]/\
 bU Tryz.prog 150=some [(0,1),(1,1)]/\
 bU Tryz.prog 147=some [(0,1),(1,1)]/\
 bU Tryz.prog 154=some [(0,1),(1,1),(2,1)]/\
 bU Tryz.prog 231=some [(0,1),(1,1)]/\
 bU Tryz.prog 233=some [(0,1),(1,1),(2,1)]/\
 bU Tryz.prog 239=some [(0,2),(2,1),(3,1),(4,1),(5,1)]/\
 bU Tryz.prog 242=some [(0,1),(1,1),(2,1),(3,1),(4,1),(5,1)]/\
 Ju Tryz.prog 3=some .i64/\
 Ju Tryz.prog 5=some .u8/\
 Qz Tryz.prog 9=true/\
 Nv Tryz.prog 4=true:=by and_intros<;>kernel_rfl
def vE1 (F:Nat->Option PV):Option AV->AV->Prop
 |some v,u=>wk F v u
 |none,_=>False
def vE (F:Nat->Option PV)(n:Nat)(ρ:Nat->Nat)(env:Env):List (Nat×AV)->Prop
 | []=>True
 |(t,u)::r=>u.lb n=true/\vE1 F (env t) (u.ren ρ)/\vE F n ρ env r
def vO1 (F:Nat->Option PV):Option Obj->Obj->Prop
 |some o,u=>NI F o u
 |none,_=>False
def vO (F:Nat->Option PV)(n:Nat)(fs:List Nat)(ρ:Nat->Nat)(σ:Sto):List (Option Obj)->Nat->Prop
 | [],_=>True
 |none::r,k=>vO F n fs ρ σ r (k+1)
 |some o::r,k=>o.lb n=true/\ρ k∉fs/\vO1 F (σ (ρ k)) (o.ren ρ)/\vO F n fs ρ σ r (k+1)
def vF (σ:Sto):List (Nat×Option (List CT))->Prop
 | []=>True
 |p::r=>FY σ p/\vF σ r
def JE:List Nat->Bool
 | []=>true
 |a::r=>!(r.any λb=>b==a) && JE r
theorem JF:∀ {l:List Nat},JE l=true->l.Nodup
 | [],_=>List.nodup_nil
 |
  a::r,h=>by
  simp only[JE,cZ,DZ,Jo,gI] at h
  exact uS.2 ⟨λhm=>h.1 a hm rfl,JF h.2⟩
def lsB (n0:Nat):List Nat->Nat->Bool
 | [],_=>true
 |a::r,k=>(decide (n0<=k) || a==k) && lsB n0 r (k+1)
theorem Y8 {n0:Nat} :∀ {ls:List Nat}{k:Nat},lsB n0 ls k=true->∀j,j<ls.length->k+j<n0->ls.getD j 0=k+j
 | [],_,_,j,h,_=>by simp at h
 |
  a::r,k,h,j,h1,h2=>by
  simp only[lsB,cZ,xH,gK,gI] at h
  cases j with
  |zero=>rcases h.1 with h3|h3<;>simp_all<;>omega
  |
   succ j=>
   have:=Y8 h.2 j (by simpa using h1) (by omega)
   simp only[List.getD_cons_succ]
   omega
def F9:List (Option Obj)->List Nat->Bool
 |none::S,_::ls=>F9 S ls
 |some _::S,l::ls=>!(memL l S ls) && F9 S ls
 |_,_=>true
where memL (l:Nat):List (Option Obj)->List Nat->Bool
 |none::S,_::ls=>memL l S ls
 |some _::S,l'::ls=>l'==l || memL l S ls
 |_,_=>false
theorem BM {l:Nat} :∀ {S:List (Option Obj)}{ls:List Nat},F9.memL l S ls=false->ls.length=S.length->∀k o,S[k]?=some (some o)->lg ls k≠l
 | [],_,_,_,k,o,hk=>by simp at hk
 |_::_,[],_,hl,_,_,_=>by simp at hl
 |
  none::S,_::ls,h,hl,k,o,hk=>by
  cases k with
  |zero=>simp at hk
  |succ k=>exact BM (S:=S) (ls:=ls) (by simpa [F9.memL] using h) (by simpa using hl) k o (by simpa using hk)
 |
  some _::S,l'::ls,h,hl,k,o,hk=>by
  simp only[F9.memL,DW,iJ] at h
  cases k with
  |zero=>exact h.1
  |succ k=>exact BM h.2 (by simpa using hl) k o (by simpa using hk)
theorem JV:∀ {S:List (Option Obj)}{ls:List Nat},F9 S ls=true->ls.length=S.length->abE S ls
 | [],_,_,_=>λk a o o' hk=>by simp at hk
 |_::_,[],_,hl=>by simp at hl
 |
  none::S,l::ls,h,hl=>λk a o o' hk y e=>by
  cases k with
  |zero=>simp at hk
  |
   succ k=>cases a with
   |zero=>simp at y
   |succ a=>rw [JV (S:=S) (ls:=ls) (by simpa [F9] using h) (by simpa using hl) k a o o' (by simpa using hk) (by simpa using y) e]
 |
  some o1::S,l::ls,h,hl=>λk a o o' hk y e=>by
  simp only[F9,cZ,DZ] at h
  have A:ls.length=S.length:=by simpa using hl
  cases k with
  |
   zero=>cases a with
   |zero=>rfl
   |succ a=>exact absurd e.symm (BM h.1 A a o' (by simpa using y))
  |
   succ k=>cases a with
   |zero=>exact absurd e (BM h.1 A k o (by simpa using hk))
   |succ a=>rw [JV h.2 A k a o o' (by simpa using hk) (by simpa using y) e]
def vwB (n0:Nat)(ls:List Nat)(S:List (Option Obj))(fs:List Nat):Bool:=ls.length==S.length && F9 S ls && lsB n0 ls 0 && decide (n0<=S.length) && JE fs
theorem TJ {n0:Nat}{env:Env}{σ:Sto}{E:List (Nat×AV)}{S:List (Option Obj)}(ls:List Nat)(fl:List (Nat×Option (List CT)))(hb:vwB n0 ls S (fl.map (·.1))=true)(hf:vF σ fl)(hE:vE (rQ σ fl) S.length (lg ls) env E)(hO:vO (rQ σ fl) S.length (fl.map (·.1)) (lg ls) σ S 0):View n0 env σ E S:=by
 simp only[vwB,cZ,gI,gK] at hb;obtain⟨⟨⟨⟨D,G⟩,b3⟩,b4⟩,b5⟩:=hb;refine⟨ls,fl,D,JV G D,λk hk=>?_,b4,?_,JF b5,?_,?_⟩;simpa [lg] using Y8 b3 k (by omega) (by omega)
 . clear b5 hE hO;induction fl with
   |nil=>simp
   |cons p r ih=>intro q a;rcases dV.1 a with rfl|a;exact hf.1;exact ih hf.2 q a
 . clear hO;induction E with
   |nil=>simp
   |
    cons p r ih=>
    intro q a;obtain⟨t,u⟩:=p;obtain⟨h1,h2,h3⟩:=hE;rcases dV.1 a with rfl|a
    . refine⟨h1,?_⟩
      cases he:env t with
      |none=>rw [he] at h2;exact h2.elim
      |some v=>rw [he] at h2;exact⟨v,rfl,h2⟩
    exact ih h3 q a
 . have key:∀(y:List (Option Obj)) (k:Nat),vO (rQ σ fl) S.length (fl.map (·.1)) (lg ls) σ y k->∀p∈y.zipIdx k,∀o,p.1=some o->o.lb S.length=true/\lg ls p.2∉fl.map (·.1)/\∃o',σ (lg ls p.2)=some o'/\NI (rQ σ fl) o' (o.ren (lg ls)):=by
    intro y;induction y with
    |nil=>intro k _ p A;simp at A
    |
     cons x r ih=>
     intro k B p A o ho;rw[List.zipIdx_cons] at A;rcases dV.1 A with rfl|hp'
     . dsimp only at ho;subst ho;obtain⟨h1,h2,h3,_⟩:=B;refine⟨h1,h2,?_⟩
       cases he:σ (lg ls k) with
       |none=>rw [he] at h3;exact h3.elim
       |some o'=>rw [he] at h3;exact⟨o',rfl,h3⟩
     . cases x with
       |none=>exact ih _ B p hp' o ho
       |some o'=>exact ih _ B.2.2.2 p hp' o ho
   exact key S 0 hO
section
variable {F : Nat -> Option PV} {n : Nat} {fs : List Nat} {ρ : Nat -> Nat} {env : Env} {σ : Sto} {t k : Nat} {u v : AV} {o o' : Obj}
@[go_sem] theorem ape:vE F n ρ env []=True:=rfl
@[go_sem] theorem alX {r:List (Nat×AV)} :vE F n ρ env ((t,u)::r)=(u.lb n=true/\vE1 F (env t) (u.ren ρ)/\vE F n ρ env r):=rfl
@[go_sem] theorem ajB:vE1 F (some v) u=wk F v u:=rfl
@[go_sem] theorem ajC:vO1 F (some o) o'=NI F o o':=rfl
@[go_sem] theorem apf:vO F n fs ρ σ [] k=True:=rfl
@[go_sem] theorem alY {r:List (Option Obj)} :vO F n fs ρ σ (none::r) k=vO F n fs ρ σ r (k+1):=rfl
@[go_sem] theorem alZ {r:List (Option Obj)} :vO F n fs ρ σ (some o::r) k=(o.lb n=true/\ρ k∉fs/\vO1 F (σ (ρ k)) (o.ren ρ)/\vO F n fs ρ σ r (k+1)):=rfl
@[go_sem] theorem apg:vF σ []=True:=rfl
@[go_sem] theorem al0 {p:Nat×Option (List CT)}{r:List (Nat×Option (List CT))} :vF σ (p::r)=(FY σ p/\vF σ r):=rfl
@[go_sem] theorem arq {p:PV} :wk F (.pv p) u=(.pv p=u):=by cases u<;>simp only[wk]
@[go_sem] theorem afg {r m a m':Nat} :wk F (.own r m) (.own a m')=(r=a/\m=m'):=by simp only[wk,AV.own.injEq]
@[go_sem] theorem agS {r m:Nat}{p:PV} :wk F (.own r m) (.pv p)=(F r=some p/\tN p m):=by simp only[wk]
@[go_sem] theorem agT {p:PV} :wk F .emp (.pv p)=(p= .sl []\/∃cts,p= .tr cts 0):=by simp only[wk]
@[go_sem] theorem afh:wk F .emp .emp=True:=by simp only[wk]
@[go_sem] theorem aph {r m:Nat} :wk F (.ptr r m) u=(.ptr r m=u):=by cases u<;>simp only[wk]
@[go_sem] theorem api {cs a:List AV} :wk F (.agg cs) (.agg a)=wkL F cs a:=by simp only[wk]
@[go_sem] theorem apj {cs a:List AV} :wk F (.tup cs) (.tup a)=wkL F cs a:=by simp only[wk]
@[go_sem] theorem al1:wkL F [] []=True:=by simp only[wkL]
@[go_sem] theorem ajD {cs a:List AV} :wkL F (v::cs) (u::a)=(wk F v u/\wkL F cs a):=by simp only[wkL]
@[go_sem] theorem al2 {cs a:List AV} :NI F (.box cs) (.box a)=wkL F cs a:=rfl
@[go_sem] theorem al3 {e k y A i i':Nat}{els a:List (List PV)}{cs B:List AV} :NI F (.rov e k els i cs) (.rov y A a i' B)=((e=y/\k=A/\els=a/\i=i')/\wkL F cs B):=rfl
@[go_sem] theorem al4 {e k y A:Nat}{els a:List (List PV)} :NI F (.row e k els) (.row y A a)=(e=y/\k=A/\els=a):=by simp[NI]
@[go_sem] theorem ars {p:PV} :AV.lb n (.pv p)=true:=rfl
@[go_sem] theorem apk:AV.lb n .emp=true:=rfl
@[go_sem] theorem apl {r m:Nat} :AV.lb n (.own r m)=decide (r<n):=by simp only[AV.lb]
@[go_sem] theorem apm {r m:Nat} :AV.lb n (.ptr r m)=decide (r<n):=by simp only[AV.lb]
@[go_sem] theorem apn {cs:List AV} :AV.lb n (.agg cs)=AV.lbL n cs:=by simp only[AV.lb]
@[go_sem] theorem apo {cs:List AV} :AV.lb n (.tup cs)=AV.lbL n cs:=by simp only[AV.lb]
@[go_sem] theorem al5:AV.lbL n []=true:=by simp only[AV.lbL]
@[go_sem] theorem ajE {cs:List AV} :AV.lbL n (v::cs)=(v.lb n && AV.lbL n cs):=by simp only[AV.lbL]
@[go_sem] theorem al6 {cs:List AV} :Obj.lb n (.box cs)=AV.lbL n cs:=rfl
@[go_sem] theorem al7 {e k i:Nat}{els:List (List PV)}{cs:List AV} :Obj.lb n (.rov e k els i cs)=AV.lbL n cs:=rfl
@[go_sem] theorem al8 {e k:Nat}{els:List (List PV)} :Obj.lb n (.row e k els)=true:=rfl
@[go_sem] theorem apq {p:PV} :AV.ren ρ (.pv p)= .pv p:=rfl
@[go_sem] theorem al9:AV.ren ρ .emp= .emp:=rfl
@[go_sem] theorem ama {r m:Nat} :AV.ren ρ (.own r m)= .own (ρ r) m:=by simp only[AV.ren]
@[go_sem] theorem amb {r m:Nat} :AV.ren ρ (.ptr r m)= .ptr (ρ r) m:=by simp only[AV.ren]
@[go_sem] theorem amc {cs:List AV} :AV.ren ρ (.agg cs)= .agg (AV.renL ρ cs):=by simp only[AV.ren]
@[go_sem] theorem amd {cs:List AV} :AV.ren ρ (.tup cs)= .tup (AV.renL ρ cs):=by simp only[AV.ren]
@[go_sem] theorem ajF:AV.renL ρ []=[]:=by simp only[AV.renL]
@[go_sem] theorem agU {cs:List AV} :AV.renL ρ (v::cs)=v.ren ρ::AV.renL ρ cs:=by simp only[AV.renL]
@[go_sem] theorem ajG {cs:List AV} :Obj.ren ρ (.box cs)= .box (AV.renL ρ cs):=rfl
@[go_sem] theorem ajH {e k i:Nat}{els:List (List PV)}{cs:List AV} :Obj.ren ρ (.rov e k els i cs)= .rov e k els i (AV.renL ρ cs):=rfl
@[go_sem] theorem ajI {e k:Nat}{els:List (List PV)} :Obj.ren ρ (.row e k els)= .row e k els:=rfl
@[go_sem] theorem ajJ {a:Nat}{r:List Nat} :lg (a::r) 0=a:=rfl
@[go_sem] theorem ajK {a:Nat}{r:List Nat} :lg (a::r) (k+1)=lg r k:=rfl
@[go_sem] theorem ajL:FP [v]=v:=rfl
@[go_sem] theorem ajM {r:List AV} :FP (v::u::r)= .tup (v::u::r):=rfl
@[go_sem] theorem ajN {x:Option Obj}{r:List (Option Obj)} :oZ (x::r) 0=x:=by simp[oZ]
@[go_sem] theorem ajO {x:Option Obj}{r:List (Option Obj)} :oZ (x::r) (k+1)=oZ r k:=by simp[oZ]
end
def rT (P:Program)(env:Env)(σ:Sto)(rs:List ResultVar)(K:AV->Prop):Prop:=
 match Bg P env σ rs with
 |none=>False
 |some vs=>K (FP vs)
theorem JW {P:Program}{n0:Nat}{rs:List ResultVar}{post:AV->List (Option Obj)->Prop}{env:Env}{σ:Sto}(r:AV)(g:List (Option Obj))(ls:List Nat)(fl:List (Nat×Option (List CT)))(hb:vwB n0 ls g (fl.map (·.1))=true)(a:g.length<=n0+8)(y:post r g)(hf:vF σ fl)(hE:rT P env σ rs λv=>r.lb g.length=true/\wk (rQ σ fl) v (r.ren (lg ls)))(hO:vO (rQ σ fl) g.length (fl.map (·.1)) (lg ls) σ g 0):jC P n0 rs post env σ:=by
 unfold rT at hE;unfold jC
 cases he:Bg P env σ rs with
 |none=>rw [he] at hE;exact hE.elim
 |
  some vs=>
  rw[he] at hE;exact⟨r,g,y,a,TJ ls fl hb hf ⟨hE.1,by simpa [jh,Env.put,vE1] using hE.2,trivial⟩ hO⟩
theorem Y9 {P:Program}{rs:List ResultVar}{Q:AV->Prop}{env:Env}{σ:Sto}(r:AV)(fl:List (Nat×Option (List CT)))(hb:JE (fl.map (·.1))=true)(h0:r.lb 0=true)(a:Q r)(hf:vF σ fl)(hE:rT P env σ rs λv=>wk (rQ σ fl) v r):jC P 0 rs (λv g=>g=[]/\v.lb 0=true/\Q v) env σ:=
 JW r [] [] fl (by simp[vwB,F9,lsB,hb]) (by simp) ⟨rfl,h0,a⟩ hf (by
  unfold rT at hE|-
  cases he:Bg P env σ rs with
  |none=>rw [he] at hE;exact hE.elim
  |some vs=>rw [he] at hE;exact⟨h0,by rw[Qy r _ h0];exact hE⟩) trivial
abbrev FnEq (P:Program)(f:FuncId)(vs:List AV)(r:AV):Prop:=kV P f vs (λv=>v=r)
theorem abT {P:Program}{dr:Bool}{f:FuncId}{nx i:Nat}{dA:List (Option AV)}{σ:Sto}{K:AV->List (Nat×Option Obj)->Key->Prop}{vs:List AV}{r:AV}(hf:FnEq P f vs r)(a:dA=vs.map some)(hr:r.lb 0=true)(h:K r [] Yd):lV P dr f nx i dA σ K:=Jr hf a (λ_=>⟨r,hr,rfl⟩) (λy _ e=>by rw[e];exact h)
theorem afi {P:Program}{rs:List ResultVar}{env:Env}{σ:Sto}{r:AV}(fl:List (Nat×Option (List CT)))(hb:JE (fl.map (·.1))=true)(h0:r.lb 0=true)(hf:vF σ fl)(hE:rT P env σ rs λv=>wk (rQ σ fl) v r):jC P 0 rs (λv g=>g=[]/\v.lb 0=true/\v=r) env σ:=Y9 r fl hb h0 rfl hf hE
section
variable {P : Program} {env : Env} {σ : Sto} {K : AV -> Prop}
def rA (P:Program)(env:Env)(σ:Sto):List ResultVar->List AV->(AV->Prop)->Prop
 | [],acc,K=>K (FP acc)
 |
  .tmp t::r,acc,K=>match env t with
  |some v=>rA P env σ r (acc++[v]) K
  |none=>False
 |
  .cell a t::r,acc,K=>match lay P t,env a with
  |
   some (g,k),some (.ptr l off)=>match σ l with
   |
    some (.box cs)=>match vk g k cs off with
    |some v=>rA P env σ r (acc++[v]) K
    |none=>False
   |_=>False
  |_,_=>False
theorem Za:∀(rs:List ResultVar) (acc:List AV),rA P env σ rs acc K->∃vs,Bg P env σ rs=some vs/\K (FP (acc++vs))
 | [],acc,h=>⟨[],rfl,by simp only[rA] at h;simpa using h⟩
 |
  .tmp t::r,acc,h=>by
  simp only[rA] at h
  cases he:env t with
  |none=>rw [he] at h;exact h.elim
  |
   some v=>
   rw[he] at h
   obtain⟨vs,h1,h2⟩:=Za r _ h
   exact⟨v::vs,by simp[Bg,he,h1],by simpa using h2⟩
 |
  .cell a t::r,acc,h=>by
  simp only[rA] at h
  cases hl:lay P t with
  |none=>rw [hl] at h;exact h.elim
  |
   some q=>
   obtain⟨g,k⟩:=q
   rw[hl] at h
   cases he:env a with
   |none=>rw [he] at h;exact h.elim
   |
    some p=>
    rw[he] at h
    cases p with
    |
     ptr l off=>
     dsimp only at h
     cases hs:σ l with
     |none=>rw [hs] at h;exact h.elim
     |
      some o=>
      rw[hs] at h
      cases o with
      |
       box cs=>
       dsimp only at h
       cases hd:vk g k cs off with
       |none=>rw [hd] at h;exact h.elim
       |
        some v=>
        rw[hd] at h
        obtain⟨vs,h1,h2⟩:=Za r _ h
        exact⟨v::vs,by simp[Bg,hl,he,hs,hd,h1],by simpa using h2⟩
      |row e k els=>exact h.elim
      |rov e k els i cs=>exact h.elim
    |_=>exact h.elim
theorem NR {rs:List ResultVar}(h:rA P env σ rs [] K):rT P env σ rs K:=by obtain⟨vs,h1,h2⟩:=Za rs [] h;simp only[rT,h1];simpa using h2
end
def Fh (x:Option AV)(T E:Prop):Prop:=
 match x with
 |some (.pv (.sc (.bool b)))=>(b=true->T)/\(b=false->E)
 |_=>False
theorem afj {M:Mc}{k:List It}{env:Env}{σ:Sto}{nx:Nat}{c:Operand}{t e:Code}(h:Fh (ev env c) (sr M (.code t::k) env σ nx) (sr M (.code e::k) env σ nx)):sr M (.code (.cond c t e)::k) env σ nx:=by unfold Fh at h;split at h;rename_i b hb;exact sr_cond hb h.1 h.2;exact h.elim
@[go_sem] theorem ame {p:Prop} [Decidable p] {T E:Prop} :Fh (some (.pv (.sc (.bool (decide p))))) T E=((p->T)/\(¬p->E)):=by simp[Fh]
@[go_sem] theorem amf {a b:Int}{T E:Prop} :Fh (some (.pv (.sc (.bool (a==b))))) T E=((a=b->T)/\(a≠b->E)):=by simp[Fh]
@[go_sem] theorem amg {a b:Int}{T E:Prop} :Fh (some (.pv (.sc (.bool (a !=b))))) T E=((a≠b->T)/\(a=b->E)):=by simp[Fh]
theorem yX {a b:ByteArray} :(a.toList==b.toList)=decide (a=b):=by
 rw[Bool.eq_iff_iff];simp only[gI,gK];refine⟨λh=>?_,λh=>by rw[h]⟩;rw[ByteArray.toList_eq,ByteArray.toList_eq] at h
 cases a
 cases b
 congr 1;exact Array.toList_inj.1 h
@[go_sem] theorem amh {a b:ByteArray}{T E:Prop} :Fh (some (.pv (.sc (.bool (a.toList==b.toList))))) T E=((a=b->T)/\(a≠b->E)):=by rw[yX];simp[Fh]
@[go_sem] theorem ami {b:Bool}{T E:Prop} :Fh (some (.pv (.sc (.bool (!b))))) T E=Fh (some (.pv (.sc (.bool b)))) E T:=by cases b<;>simp[Fh]
theorem fQ {b:Bool}{T E:Prop} :Fh (some (.pv (.sc (.bool b)))) T E=((b=true->T)/\(b=false->E)):=rfl
@[go_sem] theorem apr {T E:Prop} :Fh (some (.pv (.sc (.bool true)))) T E=T:=by simp[Fh]
@[go_sem] theorem aps {T E:Prop} :Fh (some (.pv (.sc (.bool false)))) T E=E:=by simp[Fh]
@[congr] theorem agV {x y:Option AV}{T E:Prop}(h:x=y):Fh x T E=Fh y T E:=by rw[h]
@[congr] theorem ajP {M:Mc}{k:List It}{env a:Env}{σ σ':Sto}{nx y:Nat}(h:env=a)(h2:σ=σ')(h3:nx=y):sr M k env σ nx=sr M k a σ' y:=by rw[h,h2,h3]
@[congr] theorem ajQ {P:Program}{ops:Array Oper}{nx y:Nat}{dr:Bool}{U:List (Nat×Nat)}{K:Env->Sto->Nat->Prop}{log:List (Nat×Key)}{l:List Oper}{i i':Nat}{env a:Env}{σ σ':Sto}(h1:nx=y)(h4:i=i')(h5:env=a)(A:σ=σ'):vS P ops nx dr U K log l i env σ=vS P ops y dr U K log l i' a σ':=by rw[h1,h4,h5,A]
def Zb (l:Nat)(ls:List Nat):Bool:=ls.any λx=>x==l
theorem JX {l:Nat}{ls:List Nat}(h:Zb l ls=false):l∉ls:=by intro hm;simp only[Zb,Jo,gI] at h;exact h l hm rfl
def JY (fr:Nat)(a b:Key):Bool:=
 a.wr.all (λl=>!Zb l b.rd && !Zb l b.wr) && b.wr.all (λl=>!Zb l a.rd) &&(!a.mks || (b.rd.all (λl=>!XN fr l) && b.wr.all (λl=>!XN fr l))) &&(!b.isC || a.det)
theorem QY {fr:Nat}{a b:Key}(h:JY fr a b=true):qU fr a b:=by
 simp only[JY,cZ,mf,DZ,xH] at h;obtain⟨⟨⟨h1,h2⟩,h3⟩,h4⟩:=h;refine⟨λl y=>⟨JX (h1 l y).1,JX (h1 l y).2⟩,λl y=>JX (h2 l y),λhm l y=>?_,h4⟩;rcases h3 with h3|h3;rw[hm] at h3;cases h3
 rcases jM.1 y with y|y;exact h3.1 l y;exact h3.2 l y
def apt (nx:Nat)(U:List (Nat×Nat))(i:Nat)(key:Key)(log:List (Nat×Key)):Bool:=log.all λe=>!(U.any λp=>p.1==e.1 && p.2==i) || JY (nx+8*e.1) e.2 key
theorem y8 {nx:Nat}{U:List (Nat×Nat)}{i:Nat}{key:Key}{log:List (Nat×Key)}(h:apt nx U i key log=true):D9 nx U i key log:=λe he a=>by
 have:=(mf.1 h) e he
 simp only[xH,DZ,Jo] at this
 rcases this with h1|h1
 . exact absurd (by simp) (h1 _ a)
 . exact QY h1
section
variable {P : Program} {ops : Array Oper} {nx i i' : Nat} {dr : Bool} {U : List (Nat × Nat)} {K : Env -> Sto -> Nat -> Prop} {log : List (Nat × Key)} {l : List Oper} {env : Env} {σ : Sto} {d dg : Option Nat} {o : Oper} {want : Bool}
@[congr] theorem ajR {x y:Option DO}(h:x=y):vD P ops nx dr U K log d l i env σ x=vD P ops nx dr U K log d l i env σ y:=by rw[h]
@[congr] theorem agW {x y:Option AV}{a:Option Nat}(h:x=y)(h2:dg=a):Jt P ops nx dr U K log o l i env σ want dg x=Jt P ops nx dr U K log o l i env σ want a y:=by rw[h,h2]
end
theorem Zc {P:Program}{ops:Array Oper}{nx i:Nat}{dr:Bool}{U:List (Nat×Nat)}{K:Env->Sto->Nat->Prop}{log:List (Nat×Key)}{l:List Oper}{env:Env}{σ:Sto}{o:Oper}{want:Bool}{dg:Option Nat}{b:Bool}(h:Fh (some (.pv (.sc (.bool b)))) (Jt P ops nx dr U K log o l i env σ want dg (some (.pv (.sc (.bool true))))) (Jt P ops nx dr U K log o l i env σ want dg (some (.pv (.sc (.bool false)))))):Jt P ops nx dr U K log o l i env σ want dg (some (.pv (.sc (.bool b)))):=abj h.1 h.2
theorem afk {P:Program}{us:Nat->List (Nat×Nat)}{nt n0:Nat}{R:Env->Sto->Prop}{hm:P.follows .mixedOrders=true}{k:List It}{env:Env}{σ:Sto}{nx id:Nat}{l:List Oper}{d:Bool}(h:vS P l.toArray nx d (if d=true then us id else []) (sr ⟨P,us,nt,n0,R,hm⟩ k) [] l 0 env σ):sr ⟨P,us,nt,n0,R,hm⟩ (.code (.region id l.toArray d)::k) env σ nx:=sr_region h
@[go_sem] theorem ajS {a n:Nat} :(a:Int).tmod (n:Int)=((a%n:Nat):Int):=rfl
attribute [go_sem] List.map_append List.length_append List.forall_mem_cons Int.toNat_natCast List.not_mem_nil not_false_eq_true wL List.zipIdx_cons List.zipIdx_nil List.length_map decide_true decide_false Bool.and_true Bool.true_and List.toList_toArray List.getElem?_toArray List.getElem?_cons_zero List.getElem?_cons_succ List.map_cons List.map_nil Option.map_some Option.map_none Option.bind_some Option.bind_none Option.isSome_some and_true true_and List.length_singleton List.all_cons List.all_nil List.take_zero List.drop_zero List.take_succ_cons List.drop_succ_cons List.take_nil List.drop_nil and_self Nat.zero_add rA List.nil_append List.cons_append List.length_nil List.length_cons
end AM
namespace AM
open Go Go.Proofs Go.RowKit
def cO (σ:Sto)(ρ:Nat->Nat):List Nat->List Obj->Prop
 |l::ls,o::os=>σ l=some (o.ren ρ)/\cO σ ρ ls os
 |_,_=>True
theorem YE {σ:Sto}{ρ:Nat->Nat} :∀ {ls:List Nat}{os:List Obj},cO σ ρ ls os->ls.length=os.length->∀k o,os[k]?=some o->σ (ls.getD k 0)=some (o.ren ρ)
 | [],[],_,_,k,o,h=>by simp at h
 |l::ls,o::os,h,hl,0,o',a=>by simp at a;subst a;simpa using h.1
 |l::ls,o::os,h,hl,k+1,o',a=>by simpa using YE h.2 (by simpa using hl) k o' (by simpa using a)
def cB (nx i:Nat)(ls:List Nat)(n:Nat):Bool:=ls.length==n && JE ls && ls.all (λl=>!own nx i l)
theorem TC {P:Program}{a:Bool}{f:FuncId}{nx i:Nat}{dA:List (Option AV)}{σ:Sto}{K:AV->List (Nat×Option Obj)->Key->Prop}{vs:List AV}{pre:List Obj}{post:AV->List (Option Obj)->Prop}(hc:ACall P f vs pre post)(ls:List Nat)(hg:isGo P f=true)(hb:cB nx i ls pre.length=true)(d:dA=(AV.renL (rho ls (nx+8*i)) vs).map some)(ha:AV.lbL pre.length vs=true)(u:pre.all (Obj.lb pre.length)=true)(ho:cO σ (rho ls (nx+8*i)) ls pre)(hi:a=true->∃r g,post r g/\pre.length<=g.length/\g.length<=pre.length+8)
 (h:∀r g,post r g->K (r.ren (rho ls (nx+8*i))) (renG (rho ls (nx+8*i)) g) ⟨[],ls,false,true,true⟩):lV P a f nx i dA σ K:=by simp only[cB,cZ,gI] at hb;exact⟨vs,pre,post,ls,hg,hc,d,ha,u,hb.1.1,JF hb.1.2,hb.2,λk o hk=>YE ho hb.1.1 k o hk,λr g q _ _=>h r g q⟩
def fz1 (c:Option (List CT))(o:Option Obj):Option PV:=
 match c,o with
 |none,some (.row _ _ els)=>some (.sl els)
 |some cts,some (.row _ _ els)=>some (.tr cts els.length)
 |_,_=>none
@[go_sem] theorem aoq {e k:Nat}{els:List (List PV)} :fz1 none (some (.row e k els))=some (.sl els):=rfl
@[go_sem] theorem ai6 {σ:Sto}{a r:Nat}{c:Option (List CT)}{fl:List (Nat×Option (List CT))} :rQ σ ((a,c)::fl) r=if a=r then fz1 c (σ r) else rQ σ fl r:=by
 unfold rQ;by_cases h:a=r
 . subst h;simp only[QJ,beq_self_eq_true,su]
   cases c<;>cases hσ:σ a with
   |none=>rfl
   |some o=>cases o<;>rfl
 have hb:(a==r)=false:=(by simpa using h);simp only[QJ,hb,if_neg h]
@[go_sem] theorem ai7 {els:List (List PV)}{n:Nat} :tN (.sl els) n=(els.length=n):=rfl
def fzK (o:Option Obj):Prop:=match o with
 |some (.row ..)=>True
 |_=>False
@[go_sem] theorem alC {e k:Nat}{els:List (List PV)} :fzK (some (.row e k els))=True:=rfl
@[go_sem] theorem agG {σ:Sto}{r:Nat} :FY σ (r,none)=fzK (σ r):=by
 simp only[FY,fzK]
 cases σ r with
 |none=>rfl
 |some o=>cases o<;>rfl
@[go_sem] theorem ai8 {a b:Nat}{l:List Nat} :(a∈b::l)=(a=b\/a∈l):=by simp
attribute [go_sem] or_self or_false false_or
section
variable {σ : Sto} {ρ : Nat -> Nat} {l : Nat} {ls : List Nat} {o : Obj} {os : List Obj} {lab k : Nat}
@[go_sem] theorem alD:cO σ ρ (l::ls) (o::os)=(σ l=some (o.ren ρ)/\cO σ ρ ls os):=rfl
@[go_sem] theorem aos:cO σ ρ [] os=True:=by cases os<;>rfl
@[go_sem] theorem alE:rho ls lab k=if k<ls.length then ls.getD k 0 else lab+(k-ls.length):=rfl
@[go_sem] theorem agH {r:List Nat} :(l::r).getD 0 0=l:=rfl
@[go_sem] theorem agI {r:List Nat} :(l::r).getD (k+1) 0=r.getD k 0:=rfl
@[go_sem] theorem alF {g:List (Option Obj)} :renG ρ g=g.zipIdx.map λp=>(ρ p.2,p.1.map (Obj.ren ρ)):=rfl
end
@[go_sem] theorem abx {n:Nat} :∀ {l:List PV},AV.lbL n (l.map .pv)=true
 | []=>rfl
 |p::l=>by simp only[kH,AV.lbL,AV.lb,vK];exact abx
@[go_sem] theorem YF {ρ:Nat->Nat} :∀ {l:List PV},AV.renL ρ (l.map .pv)=l.map .pv
 | []=>rfl
 |p::l=>by simp only[kH,AV.renL,AV.ren];rw[YF]
@[go_sem] theorem YG:∀ {l:List PV},oq (l.map AV.pv)=some l
 | []=>rfl
 |p::l=>by simp only[kH,oq,toP];rw[YG]
@[reducible] def rw_ (r:List PV):AV:= .agg (r.map .pv)
attribute [go_sem] true_or or_true
theorem jH {α:Type}(l:List α)(f:α->List PV){els:List (List PV)}{j k:Nat}{F:List PV->Prop}(a:j<l.length)(hF:∀x∈l,F (f x))(he:els=l.map f:=by rfl)(hk:∀x,(f x).length=k:=by first|exactλ_=>rfl|exactλx=>by simp only[go_sem]):Hq els (j:Int) k F:=by rw[he];exact aB (x:=l[j]) (by omega) (by simp[a]) (hk _) (hF _ (dm a))
