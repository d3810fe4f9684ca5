/- Words. -/
import Derived.Test.YtfbkkgfkhhibfaaGreatProg
import Derived.Test.YtfbkkgfkhhibfaaGreatAsi
import Derived.KernelRfl
set_option linter.unusedVariables false
set_option linter.unusedSimpArgs false
namespace AM
open Go Go.Proofs
@[go_sem] theorem avq:lay Tryz.prog 2=some (false,1)/\
 lay Tryz.prog 3=some (false,1)/\
 lay Tryz.prog 4=some (false,1)/\
 lay Tryz.prog 5=some (false,1)/\
 lay Tryz.prog 9=some (false,1)/\
 lay Tryz.prog 22=some (false,1)/\
 lay Tryz.prog 25=some (false,1)/\
 lay Tryz.prog 26=some (false,1)/\
 lay Tryz.prog 27=some (false,1)/\
 lay Tryz.prog 28=some (false,1)/\
 lay Tryz.prog 29=some (false,1)/\
 lay Tryz.prog 31=some (true,6)/\
 lay Tryz.prog 34=some (true,7)/\
 lay Tryz.prog 37=some (false,1)/\
 lay Tryz.prog 52=some (true,7)/\
 lay Tryz.prog 73=some (false,1)/\
 lay Tryz.prog 74=some (false,1)/\
 lay Tryz.prog 75=some (false,1)/\
 lay Tryz.prog 77=some (true,4)/\
 lay Tryz.prog 78=some (false,1)/\
 lay Tryz.prog 79=some (false,1)/\
 lay Tryz.prog 81=some (true,7)/\
 lay Tryz.prog 84=some (false,1)/\
 lay Tryz.prog 86=some (true,7)/\
 lay Tryz.prog 118=some (false,1):=by and_intros<;>kernel_rfl
@[go_sem] theorem avr:lay Tryz.prog 119=some (false,1)/\
 lay Tryz.prog 121=some (true,2)/\
 lay Tryz.prog 124=some (true,2)/\
 lay Tryz.prog 161=some (false,1)/\
 lay Tryz.prog 163=some (true,2)/\
 lay Tryz.prog 144=some (true,5)/\
 lay Tryz.prog 167=some (false,1)/\
 lay Tryz.prog 169=some (true,4)/\
 lay Tryz.prog 174=some (false,1)/\
 lay Tryz.prog 176=some (true,4)/\
 lay Tryz.prog 182=some (true,6)/\
 lay Tryz.prog 185=some (false,1)/\
 lay Tryz.prog 192=some (false,1)/\
 lay Tryz.prog 194=some (true,4)/\
 lay Tryz.prog 196=some (true,11)/\
 lay Tryz.prog 154=some (true,3)/\
 lay Tryz.prog 233=some (true,3)/\
 lay Tryz.prog 242=some (true,6)/\
 aZ Tryz.prog 22=some (5,1,1)/\
 aZ Tryz.prog 25=some (144,5,48)/\
 aZ Tryz.prog 26=some (147,2,24)/\
 aZ Tryz.prog 27=some (150,2,24)/\
 aZ Tryz.prog 28=some (9,1,16)/\
 aZ Tryz.prog 29=some (154,3,24)/\
 aZ Tryz.prog 32=some (52,7,88):=by and_intros<;>kernel_rfl
@[go_sem] theorem avs:aZ Tryz.prog 37=some (3,1,8)/\
 aZ Tryz.prog 73=some (231,2,32)/\
 aZ Tryz.prog 74=some (4,1,1)/\
 aZ Tryz.prog 75=some (233,3,24)/\
 aZ Tryz.prog 78=some (2,1,8)/\
 aZ Tryz.prog 79=some (169,4,64)/\
 aZ Tryz.prog 84=some (163,2,32)/\
 aZ Tryz.prog 88=some (124,2,16)/\
 aZ Tryz.prog 118=some (242,6,64)/\
 aZ Tryz.prog 119=some (176,4,72)/\
 aZ Tryz.prog 161=some (182,6,48)/\
 aZ Tryz.prog 167=some (37,1,24)/\
 aZ Tryz.prog 174=some (196,11,176)/\
 aZ Tryz.prog 192=some (194,4,56)/\
 aY Tryz.prog 31 0=some 0/\
 aY Tryz.prog 31 1=some 1/\
 aY Tryz.prog 31 2=some 2/\
 aY Tryz.prog 31 3=some 3/\
 aY Tryz.prog 31 4=some 4/\
 aY Tryz.prog 31 5=some 5/\
 aY Tryz.prog 52 1=some 1/\
 aY Tryz.prog 52 2=some 2/\
 aY Tryz.prog 52 3=some 3/\
 aY Tryz.prog 52 5=some 5/\
 aY Tryz.prog 52 6=some 6:=by and_intros<;>kernel_rfl
@[go_sem] theorem avt:aY Tryz.prog 77 0=some 0/\
 aY Tryz.prog 77 1=some 1/\
 aY Tryz.prog 77 2=some 2/\
 aY Tryz.prog 77 3=some 3/\
 aY Tryz.prog 81 0=some 0/\
 aY Tryz.prog 81 1=some 4/\
 aY Tryz.prog 81 2=some 5/\
 aY Tryz.prog 81 3=some 6/\
 aY Tryz.prog 86 0=some 0/\
 aY Tryz.prog 86 1=some 6/\
 aY Tryz.prog 121 0=some 0/\
 aY Tryz.prog 121 1=some 1/\
 aY Tryz.prog 124 0=some 0/\
 aY Tryz.prog 124 1=some 1/\
 aY Tryz.prog 163 0=some 0/\
 aY Tryz.prog 163 1=some 1/\
 aY Tryz.prog 144 0=some 0/\
 aY Tryz.prog 144 1=some 1/\
 aY Tryz.prog 144 2=some 2/\
 aY Tryz.prog 144 3=some 3/\
 aY Tryz.prog 144 4=some 4/\
 aY Tryz.prog 169 0=some 0/\
 aY Tryz.prog 169 1=some 1/\
 aY Tryz.prog 169 2=some 2/\
 aY Tryz.prog 169 3=some 3:=by and_intros<;>kernel_rfl
@[go_sem] theorem avu:aY Tryz.prog 176 0=some 0/\
 aY Tryz.prog 176 1=some 1/\
 aY Tryz.prog 176 2=some 2/\
 aY Tryz.prog 176 3=some 3/\
 aY Tryz.prog 178 0=some 0/\
 aY Tryz.prog 178 1=some 6/\
 aY Tryz.prog 178 2=some 7/\
 aY Tryz.prog 178 3=some 8/\
 aY Tryz.prog 178 4=some 9/\
 aY Tryz.prog 182 0=some 0/\
 aY Tryz.prog 182 1=some 1/\
 aY Tryz.prog 182 2=some 2/\
 aY Tryz.prog 182 3=some 3/\
 aY Tryz.prog 182 4=some 4/\
 aY Tryz.prog 182 5=some 5/\
 aY Tryz.prog 187 0=some 0/\
 aY Tryz.prog 187 1=some 1/\
 aY Tryz.prog 189 0=some 0/\
 aY Tryz.prog 189 1=some 1/\
 aY Tryz.prog 189 2=some 2/\
 aY Tryz.prog 189 3=some 3/\
 aY Tryz.prog 189 4=some 4/\
 aY Tryz.prog 189 5=some 5/\
 aY Tryz.prog 189 6=some 6/\
 aY Tryz.prog 189 7=some 7:=by and_intros<;>kernel_rfl
@[go_sem] theorem avv:aY Tryz.prog 194 0=some 0/\
 aY Tryz.prog 194 1=some 1/\
 aY Tryz.prog 194 2=some 2/\
 aY Tryz.prog 194 3=some 3/\
 aY Tryz.prog 196 0=some 0/\
 aY Tryz.prog 196 1=some 1/\
 aY Tryz.prog 196 2=some 2/\
 aY Tryz.prog 196 3=some 3/\
 aY Tryz.prog 196 4=some 4/\
 aY Tryz.prog 196 5=some 5/\
 aY Tryz.prog 196 6=some 9/\
 aY Tryz.prog 196 7=some 10/\
 aY Tryz.prog 150 0=some 0/\
 aY Tryz.prog 150 1=some 1/\
 aY Tryz.prog 147 0=some 0/\
 aY Tryz.prog 147 1=some 1/\
 aY Tryz.prog 154 0=some 0/\
 aY Tryz.prog 154 1=some 1/\
 aY Tryz.prog 231 0=some 0/\
 aY Tryz.prog 231 1=some 1/\
 aY Tryz.prog 233 0=some 0/\
 aY Tryz.prog 233 1=some 1/\
 aY Tryz.prog 233 2=some 2/\
 aY Tryz.prog 239 0=some 0/\
 aY Tryz.prog 239 1=some 2:=by and_intros<;>kernel_rfl
@[go_sem] theorem avw:aY Tryz.prog 239 2=some 3/\
 aY Tryz.prog 239 3=some 4/\
 aY Tryz.prog 239 4=some 5/\
 aY Tryz.prog 242 0=some 0/\
 aY Tryz.prog 242 1=some 1/\
 aY Tryz.prog 242 2=some 2/\
 aY Tryz.prog 242 3=some 3/\
 aY Tryz.prog 242 4=some 4/\
 aY Tryz.prog 242 5=some 5/\
 eu Tryz.prog 31=some [.emp,.emp,.emp,.emp,.emp,.emp]/\
 eu Tryz.prog 34=some [.emp,.emp,.emp,.emp,.emp,.emp,.emp]/\
 eu Tryz.prog 52=some [.pv (.sc (.int .i64 0)),.pv (.sc (.int .i64 0)),.pv (.sc (.int .i64 0)),.pv (.sc (.int .i64 0)),.pv (.sc (.int .i64 0)),.emp,.emp]/\
 eu Tryz.prog 77=some [.emp,.pv (.sc (.int .i64 0)),.emp,.emp]/\
 eu Tryz.prog 81=some [.emp,.pv (.sc (.int .i64 0)),.emp,.emp,.emp,.emp,.emp]/\
 eu Tryz.prog 86=some [.emp,.emp,.emp,.emp,.emp,.emp,.emp]/\
 eu Tryz.prog 121=some [.emp,.emp]/\
 eu Tryz.prog 124=some [.pv (.sc (.int .i64 0)),.pv (.sc (.int .i64 0))]/\
 eu Tryz.prog 163=some [.pv (.sc (.int .i64 0)),.emp]/\
 eu Tryz.prog 144=some [.pv (.sc (.string ⟨#[]⟩)),.pv (.sc (.int .i64 0)),.pv (.sc (.int .i64 0)),.pv (.sc (.bool false)),.pv (.sc (.int .i64 0))]/\
 eu Tryz.prog 169=some [.pv (.sc (.int .i64 0)),.emp,.emp,.pv (.sc (.int .i64 0))]/\
 eu Tryz.prog 176=some [.pv (.sc (.string ⟨#[]⟩)),.pv (.sc (.int .i64 0)),.emp,.emp]/\
 eu Tryz.prog 178=some [.emp,.emp,.emp,.emp,.emp,.emp,.emp,.emp,.pv (.sc (.int .i64 0)),.pv (.sc (.int .i64 0))]/\
 eu Tryz.prog 182=some [.pv (.sc (.int .i64 0)),.pv (.sc (.int .i64 0)),.pv (.sc (.int .i64 0)),.pv (.sc (.int .i64 0)),.pv (.sc (.int .i64 0)),.pv (.sc (.int .i64 0))]/\
 eu Tryz.prog 187=some [.emp,.pv (.sc (.int .i64 0))]/\
 eu Tryz.prog 189=some [.pv (.sc (.pointer none)),.pv (.sc (.int .i64 0)),.pv (.sc (.int .i64 0)),.pv (.sc (.bool false)),.pv (.sc (.bool false)),.pv (.sc (.bool false)),.pv (.sc (.bool false)),.emp]:=by and_intros<;>kernel_rfl
@[go_sem] theorem avx:eu Tryz.prog 194=some [.pv (.sc (.int .i64 0)),.pv (.sc (.int .i64 0)),.pv (.sc (.string ⟨#[]⟩)),.emp]/\
 eu Tryz.prog 196=some [.pv (.sc (.int .i64 0)),.pv (.sc (.int .i64 0)),.pv (.sc (.string ⟨#[]⟩)),.pv (.sc (.string ⟨#[]⟩)),.emp,.pv (.sc (.int .i64 0)),.pv (.sc (.int .i64 0)),.pv (.sc (.string ⟨#[]⟩)),.emp,.emp,.emp]/\
 eu Tryz.prog 150=some [.pv (.sc (.string ⟨#[]⟩)),.pv (.sc (.int .i64 0))]/\
 eu Tryz.prog 147=some [.pv (.sc (.string ⟨#[]⟩)),.pv (.sc (.bool false))]/\
 eu Tryz.prog 154=some [.pv (.sc (.int .i64 0)),.pv (.sc (.int .i64 0)),.pv (.sc (.int .i64 0))]/\
 eu Tryz.prog 231=some [.pv (.sc (.int .i64 0)),.emp]/\
 eu Tryz.prog 233=some [.pv (.sc (.int .i64 0)),.pv (.sc (.int .i64 0)),.pv (.sc (.bool false))]/\
 eu Tryz.prog 239=some [.emp,.emp,.pv (.sc (.int .i64 0)),.emp,.emp,.emp]/\
 eu Tryz.prog 242=some [.pv (.sc (.int .i64 0)),.pv (.sc (.int .i64 0)),.pv (.sc (.string ⟨#[]⟩)),.pv (.sc (.int .i64 0)),.pv (.sc (.int .i64 0)),.pv (.sc (.string ⟨#[]⟩))]/\
 dw Tryz.prog 34=some [(0,6),(6,1)]/\
 dw Tryz.prog 52=some [(0,1),(1,1),(2,1),(3,1),(4,1),(5,1),(6,1)]/\
 dw Tryz.prog 77=some [(0,1),(1,1),(2,1),(3,1)]/\
 dw Tryz.prog 81=some [(0,4),(4,1),(5,1),(6,1)]/\
 dw Tryz.prog 86=some [(0,6),(6,1)]/\
 dw Tryz.prog 121=some [(0,1),(1,1)]/\
 dw Tryz.prog 124=some [(0,1),(1,1)]/\
 dw Tryz.prog 163=some [(0,1),(1,1)]/\
 dw Tryz.prog 144=some [(0,1),(1,1),(2,1),(3,1),(4,1)]/\
 dw Tryz.prog 169=some [(0,1),(1,1),(2,1),(3,1)]/\
 dw Tryz.prog 176=some [(0,1),(1,1),(2,1),(3,1)]/\
 dw Tryz.prog 178=some [(0,6),(6,1),(7,1),(8,1),(9,1)]/\
 dw Tryz.prog 182=some [(0,1),(1,1),(2,1),(3,1),(4,1),(5,1)]/\
 dw Tryz.prog 187=some [(0,1),(1,1)]/\
 dw Tryz.prog 189=some [(0,1),(1,1),(2,1),(3,1),(4,1),(5,1),(6,1),(7,1)]/\
 dw Tryz.prog 194=some [(0,1),(1,1),(2,1),(3,1)]:=by and_intros<;>kernel_rfl
@[go_sem] theorem avy:dw Tryz.prog 196=some [(0,1),(1,1),(2,1),(3,1),(4,1),(5,4),(9,1),(10,1)]/\
 dw Tryz.prog 150=some [(0,1),(1,1)]/\
 dw Tryz.prog 147=some [(0,1),(1,1)]/\
 dw Tryz.prog 154=some [(0,1),(1,1),(2,1)]/\
 dw Tryz.prog 231=some [(0,1),(1,1)]/\
 dw Tryz.prog 233=some [(0,1),(1,1),(2,1)]/\
 dw Tryz.prog 239=some [(0,2),(2,1),(3,1),(4,1),(5,1)]/\
 dw Tryz.prog 242=some [(0,1),(1,1),(2,1),(3,1),(4,1),(5,1)]/\
 Kw Tryz.prog 3=some .i64/\
 Kw Tryz.prog 5=some .u8/\
 SQ Tryz.prog 9=true/\
 OZ Tryz.prog 4=true:=by and_intros<;>kernel_rfl
def vE1 (F:Nat->Option PV):Option AV->AV->Prop
 |some v,u=>wk F v u
 |none,_=>False
def vE (F:Nat->Option PV)(n:Nat)(ρ:Nat->Nat)(env:Env):List (Nat×AV)->Prop
 | []=>True
 |(t,u)::r=>u.lb n=true/\vE1 F (env t) (u.ren ρ)/\vE F n ρ env r
def vO1 (F:Nat->Option PV):Option Obj->Obj->Prop
 |some o,u=>WZ F o u
 |none,_=>False
def vO (F:Nat->Option PV)(n:Nat)(fs:List Nat)(ρ:Nat->Nat)(σ:Sto):List (Option Obj)->Nat->Prop
 | [],_=>True
 |none::r,k=>vO F n fs ρ σ r (k+1)
 |some o::r,k=>o.lb n=true/\ρ k∉fs/\vO1 F (σ (ρ k)) (o.ren ρ)/\vO F n fs ρ σ r (k+1)
def vF (σ:Sto):List (Nat×Option (List CT))->Prop
 | []=>True
 |p::r=>yQ σ p/\vF σ r
def KJ:List Nat->Bool
 | []=>true
 |a::r=>!(r.any λb=>b==a) && KJ r
theorem KL:∀ {l:List Nat},KJ l=true->l.Nodup
 | [],_=>List.nodup_nil
 |
  a::r,h=>by
  simp only[KJ,dC,wY,Kq,dV] at h
  exact wO.2 ⟨λhm=>h.1 a hm rfl,KL h.2⟩
def lsB (n0:Nat):List Nat->Nat->Bool
 | [],_=>true
 |a::r,k=>(decide (n0<=k) || a==k) && lsB n0 r (k+1)
theorem aaH {n0:Nat} :∀ {ls:List Nat}{k:Nat},lsB n0 ls k=true->∀j,j<ls.length->k+j<n0->ls.getD j 0=k+j
 | [],_,_,j,h,_=>by simp at h
 |
  a::r,k,h,j,h1,h2=>by
  simp only[lsB,dC,pO,iq,dV] at h
  cases j with
  |zero=>rcases h.1 with h3|h3<;>simp_all<;>omega
  |
   succ j=>
   have:=aaH h.2 j (by simpa using h1) (by omega)
   simp only[List.getD_cons_succ]
   omega
def G9:List (Option Obj)->List Nat->Bool
 |none::S,_::ls=>G9 S ls
 |some _::S,l::ls=>!(memL l S ls) && G9 S ls
 |_,_=>true
where memL (l:Nat):List (Option Obj)->List Nat->Bool
 |none::S,_::ls=>memL l S ls
 |some _::S,l'::ls=>l'==l || memL l S ls
 |_,_=>false
theorem Dq {l:Nat} :∀ {S:List (Option Obj)}{ls:List Nat},G9.memL l S ls=false->ls.length=S.length->∀k o,S[k]?=some (some o)->lS ls k≠l
 | [],_,_,_,k,o,hk=>by simp at hk
 |_::_,[],_,hl,_,_,_=>by simp at hl
 |
  none::S,_::ls,h,hl,k,o,hk=>by
  cases k with
  |zero=>simp at hk
  |succ k=>exact Dq (S:=S) (ls:=ls) (by simpa [G9.memL] using h) (by simpa using hl) k o (by simpa using hk)
 |
  some _::S,l'::ls,h,hl,k,o,hk=>by
  simp only[G9.memL,KE,gq] at h
  cases k with
  |zero=>exact h.1
  |succ k=>exact Dq h.2 (by simpa using hl) k o (by simpa using hk)
theorem Lc:∀ {S:List (Option Obj)}{ls:List Nat},G9 S ls=true->ls.length=S.length->ac3 S ls
 | [],_,_,_=>λk a o o' hk=>by simp at hk
 |_::_,[],_,hl=>by simp at hl
 |
  none::S,l::ls,h,hl=>λk a o o' hk q e=>by
  cases k with
  |zero=>simp at hk
  |
   succ k=>cases a with
   |zero=>simp at q
   |succ a=>rw [Lc (S:=S) (ls:=ls) (by simpa [G9] using h) (by simpa using hl) k a o o' (by simpa using hk) (by simpa using q) e]
 |
  some o1::S,l::ls,h,hl=>λk a o o' hk q e=>by
  simp only[G9,dC,wY] at h
  have y:ls.length=S.length:=by simpa using hl
  cases k with
  |
   zero=>cases a with
   |zero=>rfl
   |succ a=>exact absurd e.symm (Dq h.1 y a o' (by simpa using q))
  |
   succ k=>cases a with
   |zero=>exact absurd e (Dq h.1 y k o (by simpa using hk))
   |succ a=>rw [Lc h.2 y k a o o' (by simpa using hk) (by simpa using q) e]
def vwB (n0:Nat)(ls:List Nat)(S:List (Option Obj))(fs:List Nat):Bool:=ls.length==S.length && G9 S ls && lsB n0 ls 0 && decide (n0<=S.length) && KJ fs
theorem Vk {n0:Nat}{env:Env}{σ:Sto}{E:List (Nat×AV)}{S:List (Option Obj)}(ls:List Nat)(fl:List (Nat×Option (List CT)))(hb:vwB n0 ls S (fl.map (·.1))=true)(hf:vF σ fl)(hE:vE (tC σ fl) S.length (lS ls) env E)(hO:vO (tC σ fl) S.length (fl.map (·.1)) (lS ls) σ S 0):View n0 env σ E S:=by
 simp only[vwB,dC,dV,iq] at hb;obtain⟨⟨⟨⟨G,H⟩,b3⟩,b4⟩,b5⟩:=hb;refine⟨ls,fl,G,Lc H G,λk hk=>?_,b4,?_,KL b5,?_,?_⟩;simpa [lS] using aaH b3 k (by omega) (by omega)
 . clear b5 hE hO;induction fl with
   |nil=>simp
   |cons p r ih=>intro q a;rcases gJ.1 a with rfl|a;exact hf.1;exact ih hf.2 q a
 . clear hO;induction E with
   |nil=>simp
   |
    cons p r ih=>
    intro q a;obtain⟨t,u⟩:=p;obtain⟨h1,h2,h3⟩:=hE;rcases gJ.1 a with rfl|a
    . refine⟨h1,?_⟩
      cases he:env t with
      |none=>rw [he] at h2;exact h2.elim
      |some v=>rw [he] at h2;exact⟨v,rfl,h2⟩
    exact ih h3 q a
 . have key:∀(y:List (Option Obj)) (k:Nat),vO (tC σ fl) S.length (fl.map (·.1)) (lS ls) σ y k->∀p∈y.zipIdx k,∀o,p.1=some o->o.lb S.length=true/\lS ls p.2∉fl.map (·.1)/\∃o',σ (lS ls p.2)=some o'/\WZ (tC σ fl) o' (o.ren (lS ls)):=by
    intro y;induction y with
    |nil=>intro k _ p B;simp at B
    |
     cons x r ih=>
     intro k D p B o ho;rw[List.zipIdx_cons] at B;rcases gJ.1 B with rfl|hp'
     . dsimp only at ho;subst ho;obtain⟨h1,h2,h3,_⟩:=D;refine⟨h1,h2,?_⟩
       cases he:σ (lS ls k) with
       |none=>rw [he] at h3;exact h3.elim
       |some o'=>rw [he] at h3;exact⟨o',rfl,h3⟩
     . cases x with
       |none=>exact ih _ D p hp' o ho
       |some o'=>exact ih _ D.2.2.2 p hp' o ho
   exact key S 0 hO
section
variable {F : Nat -> Option PV} {n : Nat} {fs : List Nat} {ρ : Nat -> Nat} {env : Env} {σ : Sto} {t k : Nat} {u v : AV} {o o' : Obj}
@[go_sem] theorem aqP:vE F n ρ env []=True:=rfl
@[go_sem] theorem anF {r:List (Nat×AV)} :vE F n ρ env ((t,u)::r)=(u.lb n=true/\vE1 F (env t) (u.ren ρ)/\vE F n ρ env r):=rfl
@[go_sem] theorem alk:vE1 F (some v) u=wk F v u:=rfl
@[go_sem] theorem alm:vO1 F (some o) o'=WZ F o o':=rfl
@[go_sem] theorem aqQ:vO F n fs ρ σ [] k=True:=rfl
@[go_sem] theorem anG {r:List (Option Obj)} :vO F n fs ρ σ (none::r) k=vO F n fs ρ σ r (k+1):=rfl
@[go_sem] theorem anH {r:List (Option Obj)} :vO F n fs ρ σ (some o::r) k=(o.lb n=true/\ρ k∉fs/\vO1 F (σ (ρ k)) (o.ren ρ)/\vO F n fs ρ σ r (k+1)):=rfl
@[go_sem] theorem aqR:vF σ []=True:=rfl
@[go_sem] theorem anI {p:Nat×Option (List CT)}{r:List (Nat×Option (List CT))} :vF σ (p::r)=(yQ σ p/\vF σ r):=rfl
@[go_sem] theorem as3 {p:PV} :wk F (.pv p) u=(.pv p=u):=by cases u<;>simp only[wk]
@[go_sem] theorem ag2 {r m a q:Nat} :wk F (.own r m) (.own a q)=(r=a/\m=q):=by simp only[wk,AV.own.injEq]
@[go_sem] theorem aiH {r m:Nat}{p:PV} :wk F (.own r m) (.pv p)=(F r=some p/\sU p m):=by simp only[wk]
@[go_sem] theorem aiI {p:PV} :wk F .emp (.pv p)=(p= .sl []\/∃cts,p= .tr cts 0):=by simp only[wk]
@[go_sem] theorem ag3:wk F .emp .emp=True:=by simp only[wk]
@[go_sem] theorem aqS {r m:Nat} :wk F (.ptr r m) u=(.ptr r m=u):=by cases u<;>simp only[wk]
@[go_sem] theorem aqT {cs a:List AV} :wk F (.agg cs) (.agg a)=wkL F cs a:=by simp only[wk]
@[go_sem] theorem aqU {cs a:List AV} :wk F (.tup cs) (.tup a)=wkL F cs a:=by simp only[wk]
@[go_sem] theorem anJ:wkL F [] []=True:=by simp only[wkL]
@[go_sem] theorem aln {cs a:List AV} :wkL F (v::cs) (u::a)=(wk F v u/\wkL F cs a):=by simp only[wkL]
@[go_sem] theorem anK {cs a:List AV} :WZ F (.box cs) (.box a)=wkL F cs a:=rfl
@[go_sem] theorem anL {e k q y:Nat}{els a:List (List PV)} :WZ F (.row e k els) (.row q y a)=(e=q/\k=y/\els=a):=by simp[WZ]
@[go_sem] theorem as4 {p:PV} :AV.lb n (.pv p)=true:=rfl
@[go_sem] theorem aqV:AV.lb n .emp=true:=rfl
@[go_sem] theorem aqW {r m:Nat} :AV.lb n (.own r m)=decide (r<n):=by simp only[AV.lb]
@[go_sem] theorem aqX {r m:Nat} :AV.lb n (.ptr r m)=decide (r<n):=by simp only[AV.lb]
@[go_sem] theorem aqY {cs:List AV} :AV.lb n (.agg cs)=AV.lbL n cs:=by simp only[AV.lb]
@[go_sem] theorem aqZ {cs:List AV} :AV.lb n (.tup cs)=AV.lbL n cs:=by simp only[AV.lb]
@[go_sem] theorem anM:AV.lbL n []=true:=by simp only[AV.lbL]
@[go_sem] theorem alo {cs:List AV} :AV.lbL n (v::cs)=(v.lb n && AV.lbL n cs):=by simp only[AV.lbL]
@[go_sem] theorem anN {cs:List AV} :Obj.lb n (.box cs)=AV.lbL n cs:=rfl
@[go_sem] theorem anO {e k:Nat}{els:List (List PV)} :Obj.lb n (.row e k els)=true:=rfl
@[go_sem] theorem aq0 {p:PV} :AV.ren ρ (.pv p)= .pv p:=rfl
@[go_sem] theorem anP:AV.ren ρ .emp= .emp:=rfl
@[go_sem] theorem anQ {r m:Nat} :AV.ren ρ (.own r m)= .own (ρ r) m:=by simp only[AV.ren]
@[go_sem] theorem anR {r m:Nat} :AV.ren ρ (.ptr r m)= .ptr (ρ r) m:=by simp only[AV.ren]
@[go_sem] theorem anS {cs:List AV} :AV.ren ρ (.agg cs)= .agg (AV.renL ρ cs):=by simp only[AV.ren]
@[go_sem] theorem anT {cs:List AV} :AV.ren ρ (.tup cs)= .tup (AV.renL ρ cs):=by simp only[AV.ren]
@[go_sem] theorem alp:AV.renL ρ []=[]:=by simp only[AV.renL]
@[go_sem] theorem aiJ {cs:List AV} :AV.renL ρ (v::cs)=v.ren ρ::AV.renL ρ cs:=by simp only[AV.renL]
@[go_sem] theorem alq {cs:List AV} :Obj.ren ρ (.box cs)= .box (AV.renL ρ cs):=rfl
@[go_sem] theorem alr {e k:Nat}{els:List (List PV)} :Obj.ren ρ (.row e k els)= .row e k els:=rfl
@[go_sem] theorem als {a:Nat}{r:List Nat} :lS (a::r) 0=a:=rfl
@[go_sem] theorem alu {a:Nat}{r:List Nat} :lS (a::r) (k+1)=lS r k:=rfl
@[go_sem] theorem alv:GG [v]=v:=rfl
@[go_sem] theorem alx {r:List AV} :GG (v::u::r)= .tup (v::u::r):=rfl
@[go_sem] theorem aly {x:Option Obj}{r:List (Option Obj)} :qw (x::r) 0=x:=by simp[qw]
@[go_sem] theorem alz {x:Option Obj}{r:List (Option Obj)} :qw (x::r) (k+1)=qw r k:=by simp[qw]
end
def rT (P:Program)(env:Env)(σ:Sto)(rs:List ResultVar)(K:AV->Prop):Prop:=
 match Ce P env σ rs with
 |none=>False
 |some vs=>K (GG vs)
theorem Ld {P:Program}{n0:Nat}{rs:List ResultVar}{post:AV->List (Option Obj)->Prop}{env:Env}{σ:Sto}(r:AV)(g:List (Option Obj))(ls:List Nat)(fl:List (Nat×Option (List CT)))(hb:vwB n0 ls g (fl.map (·.1))=true)(a:g.length<=n0+8)(q:post r g)(hf:vF σ fl)(hE:rT P env σ rs λv=>r.lb g.length=true/\wk (tC σ fl) v (r.ren (lS ls)))(hO:vO (tC σ fl) g.length (fl.map (·.1)) (lS ls) σ g 0):mQ P n0 rs post env σ:=by
 unfold rT at hE;unfold mQ
 cases he:Ce P env σ rs with
 |none=>rw [he] at hE;exact hE.elim
 |
  some vs=>
  rw[he] at hE;exact⟨r,g,q,a,Vk ls fl hb hf ⟨hE.1,by simpa [ku,Env.put,vE1] using hE.2,trivial⟩ hO⟩
theorem aaI {P:Program}{rs:List ResultVar}{Q:AV->Prop}{env:Env}{σ:Sto}(r:AV)(fl:List (Nat×Option (List CT)))(hb:KJ (fl.map (·.1))=true)(h0:r.lb 0=true)(a:Q r)(hf:vF σ fl)(hE:rT P env σ rs λv=>wk (tC σ fl) v r):mQ P 0 rs (λv g=>g=[]/\v.lb 0=true/\Q v) env σ:=
 Ld r [] [] fl (by simp[vwB,G9,lsB,hb]) (by simp) ⟨rfl,h0,a⟩ hf (by
  unfold rT at hE|-
  cases he:Ce P env σ rs with
  |none=>rw [he] at hE;exact hE.elim
  |some vs=>rw [he] at hE;exact⟨h0,by rw[SK r _ h0];exact hE⟩) trivial
abbrev FnEq (P:Program)(f:FuncId)(vs:List AV)(r:AV):Prop:=lq P f vs (λv=>v=r)
theorem adi {P:Program}{dr:Bool}{f:FuncId}{nx i:Nat}{fM:List (Option AV)}{σ:Sto}{K:AV->List (Nat×Option Obj)->Key->Prop}{vs:List AV}{r:AV}(hf:FnEq P f vs r)(a:fM=vs.map some)(hr:r.lb 0=true)(h:K r [] ZA):mX P dr f nx i fM σ K:=Kt hf a (λ_=>⟨r,hr,rfl⟩) (λq _ e=>by rw[e];exact h)
theorem ag4 {P:Program}{rs:List ResultVar}{env:Env}{σ:Sto}{r:AV}(fl:List (Nat×Option (List CT)))(hb:KJ (fl.map (·.1))=true)(h0:r.lb 0=true)(hf:vF σ fl)(hE:rT P env σ rs λv=>wk (tC σ fl) v r):mQ P 0 rs (λv g=>g=[]/\v.lb 0=true/\v=r) env σ:=aaI r fl hb h0 rfl hf hE
section
variable {P : Program} {env : Env} {σ : Sto} {K : AV -> Prop}
def rA (P:Program)(env:Env)(σ:Sto):List ResultVar->List AV->(AV->Prop)->Prop
 | [],acc,K=>K (GG acc)
 |
  .tmp t::r,acc,K=>match env t with
  |some v=>rA P env σ r (acc++[v]) K
  |none=>False
 |
  .cell a t::r,acc,K=>match lay P t,env a with
  |
   some (g,k),some (.ptr l off)=>match σ l with
   |
    some (.box cs)=>match zV g k cs off with
    |some v=>rA P env σ r (acc++[v]) K
    |none=>False
   |_=>False
  |_,_=>False
theorem aaJ:∀(rs:List ResultVar) (acc:List AV),rA P env σ rs acc K->∃vs,Ce P env σ rs=some vs/\K (GG (acc++vs))
 | [],acc,h=>⟨[],rfl,by simp only[rA] at h;simpa using h⟩
 |
  .tmp t::r,acc,h=>by
  simp only[rA] at h
  cases he:env t with
  |none=>rw [he] at h;exact h.elim
  |
   some v=>
   rw[he] at h
   obtain⟨vs,h1,h2⟩:=aaJ r _ h
   exact⟨v::vs,by simp[Ce,he,h1],by simpa using h2⟩
 |
  .cell a t::r,acc,h=>by
  simp only[rA] at h
  cases hl:lay P t with
  |none=>rw [hl] at h;exact h.elim
  |
   some q=>
   obtain⟨g,k⟩:=q
   rw[hl] at h
   cases he:env a with
   |none=>rw [he] at h;exact h.elim
   |
    some p=>
    rw[he] at h
    cases p with
    |
     ptr l off=>
     dsimp only at h
     cases hs:σ l with
     |none=>rw [hs] at h;exact h.elim
     |
      some o=>
      rw[hs] at h
      cases o with
      |
       box cs=>
       dsimp only at h
       cases hd:zV g k cs off with
       |none=>rw [hd] at h;exact h.elim
       |
        some v=>
        rw[hd] at h
        obtain⟨vs,h1,h2⟩:=aaJ r _ h
        exact⟨v::vs,by simp[Ce,hl,he,hs,hd,h1],by simpa using h2⟩
      |row e k els=>exact h.elim
    |_=>exact h.elim
theorem Pq {rs:List ResultVar}(h:rA P env σ rs [] K):rT P env σ rs K:=by obtain⟨vs,h1,h2⟩:=aaJ rs [] h;simp only[rT,h1];simpa using h2
end
def Gl (x:Option AV)(T E:Prop):Prop:=
 match x with
 |some (.pv (.sc (.bool b)))=>(b=true->T)/\(b=false->E)
 |_=>False
theorem ag5 {M:Mc}{k:List It}{env:Env}{σ:Sto}{nx:Nat}{c:Operand}{t e:Code}(h:Gl (ev env c) (sr M (.code t::k) env σ nx) (sr M (.code e::k) env σ nx)):sr M (.code (.cond c t e)::k) env σ nx:=by unfold Gl at h;split at h;rename_i b hb;exact adk hb h.1 h.2;exact h.elim
@[go_sem] theorem anU {p:Prop} [Decidable p] {T E:Prop} :Gl (some (.pv (.sc (.bool (decide p))))) T E=((p->T)/\(¬p->E)):=by simp[Gl]
@[go_sem] theorem anV {a b:Int}{T E:Prop} :Gl (some (.pv (.sc (.bool (a==b))))) T E=((a=b->T)/\(a≠b->E)):=by simp[Gl]
@[go_sem] theorem anW {a b:Int}{T E:Prop} :Gl (some (.pv (.sc (.bool (a !=b))))) T E=((a≠b->T)/\(a=b->E)):=by simp[Gl]
theorem zY {a b:ByteArray} :(a.toList==b.toList)=decide (a=b):=by
 rw[Bool.eq_iff_iff];simp only[dV,iq];refine⟨λh=>?_,λh=>by rw[h]⟩;rw[ByteArray.toList_eq,ByteArray.toList_eq] at h
 cases a
 cases b
 congr 1;exact Array.toList_inj.1 h
@[go_sem] theorem anX {a b:ByteArray}{T E:Prop} :Gl (some (.pv (.sc (.bool (a.toList==b.toList))))) T E=((a=b->T)/\(a≠b->E)):=by rw[zY];simp[Gl]
@[go_sem] theorem anY {b:Bool}{T E:Prop} :Gl (some (.pv (.sc (.bool (!b))))) T E=Gl (some (.pv (.sc (.bool b)))) E T:=by cases b<;>simp[Gl]
theorem gY {b:Bool}{T E:Prop} :Gl (some (.pv (.sc (.bool b)))) T E=((b=true->T)/\(b=false->E)):=rfl
@[go_sem] theorem aq1 {T E:Prop} :Gl (some (.pv (.sc (.bool true)))) T E=T:=by simp[Gl]
@[go_sem] theorem aq2 {T E:Prop} :Gl (some (.pv (.sc (.bool false)))) T E=E:=by simp[Gl]
@[congr] theorem aiK {x y:Option AV}{T E:Prop}(h:x=y):Gl x T E=Gl y T E:=by rw[h]
@[congr] theorem alA {M:Mc}{k:List It}{env a:Env}{σ σ':Sto}{nx q:Nat}(h:env=a)(h2:σ=σ')(h3:nx=q):sr M k env σ nx=sr M k a σ' q:=by rw[h,h2,h3]
@[congr] theorem alB {P:Program}{ops:Array Oper}{nx q:Nat}{dr:Bool}{U:List (Nat×Nat)}{K:Env->Sto->Nat->Prop}{log:List (Nat×Key)}{l:List Oper}{i i':Nat}{env a:Env}{σ σ':Sto}(h1:nx=q)(h4:i=i')(h5:env=a)(y:σ=σ'):vS P ops nx dr U K log l i env σ=vS P ops q dr U K log l i' a σ':=by rw[h1,h4,h5,y]
def aaK (l:Nat)(ls:List Nat):Bool:=ls.any λx=>x==l
theorem Le {l:Nat}{ls:List Nat}(h:aaK l ls=false):l∉ls:=by intro hm;simp only[aaK,Kq,dV] at h;exact h l hm rfl
def Lh (fr:Nat)(a b:Key):Bool:=
 a.wr.all (λl=>!aaK l b.rd && !aaK l b.wr) && b.wr.all (λl=>!aaK l a.rd) &&(!a.mks || (b.rd.all (λl=>!Zb fr l) && b.wr.all (λl=>!Zb fr l))) &&(!b.isC || a.det)
theorem TF {fr:Nat}{a b:Key}(h:Lh fr a b=true):rO fr a b:=by
 simp only[Lh,dC,jU,wY,pO] at h;obtain⟨⟨⟨h1,h2⟩,h3⟩,h4⟩:=h;refine⟨λl q=>⟨Le (h1 l q).1,Le (h1 l q).2⟩,λl q=>Le (h2 l q),λhm l q=>?_,h4⟩;rcases h3 with h3|h3;rw[hm] at h3;cases h3
 rcases jh.1 q with q|q;exact h3.1 l q;exact h3.2 l q
def aq3 (nx:Nat)(U:List (Nat×Nat))(i:Nat)(key:Key)(log:List (Nat×Key)):Bool:=log.all λe=>!(U.any λp=>p.1==e.1 && p.2==i) || Lh (nx+8*e.1) e.2 key
theorem Lj {nx:Nat}{U:List (Nat×Nat)}{i:Nat}{key:Key}{log:List (Nat×Key)}(h:aq3 nx U i key log=true):GK nx U i key log:=λe he a=>by
 have:=(jU.1 h) e he
 simp only[pO,wY,Kq] at this
 rcases this with h1|h1
 . exact absurd (by simp) (h1 _ a)
 . exact TF h1
section
variable {P : Program} {ops : Array Oper} {nx i i' : Nat} {dr : Bool} {U : List (Nat × Nat)} {K : Env -> Sto -> Nat -> Prop} {log : List (Nat × Key)} {l : List Oper} {env : Env} {σ : Sto} {d dg : Option Nat} {o : Oper} {want : Bool}
@[congr] theorem alC {x y:Option DO}(h:x=y):vD P ops nx dr U K log d l i env σ x=vD P ops nx dr U K log d l i env σ y:=by rw[h]
@[congr] theorem aiL {x y:Option AV}{a:Option Nat}(h:x=y)(h2:dg=a):Kv P ops nx dr U K log o l i env σ want dg x=Kv P ops nx dr U K log o l i env σ want a y:=by rw[h,h2]
end
theorem aaL {P:Program}{ops:Array Oper}{nx i:Nat}{dr:Bool}{U:List (Nat×Nat)}{K:Env->Sto->Nat->Prop}{log:List (Nat×Key)}{l:List Oper}{env:Env}{σ:Sto}{o:Oper}{want:Bool}{dg:Option Nat}{b:Bool}(h:Gl (some (.pv (.sc (.bool b)))) (Kv P ops nx dr U K log o l i env σ want dg (some (.pv (.sc (.bool true))))) (Kv P ops nx dr U K log o l i env σ want dg (some (.pv (.sc (.bool false)))))):Kv P ops nx dr U K log o l i env σ want dg (some (.pv (.sc (.bool b)))):=acK h.1 h.2
theorem ag6 {P:Program}{us:Nat->List (Nat×Nat)}{nt n0:Nat}{R:Env->Sto->Prop}{hm:P.follows .mixedOrders=true}{k:List It}{env:Env}{σ:Sto}{nx id:Nat}{l:List Oper}{d:Bool}(h:vS P l.toArray nx d (if d=true then us id else []) (sr ⟨P,us,nt,n0,R,hm⟩ k) [] l 0 env σ):sr ⟨P,us,nt,n0,R,hm⟩ (.code (.region id l.toArray d)::k) env σ nx:=Xj h
@[go_sem] theorem alD {a n:Nat} :(a:Int).tmod (n:Int)=((a%n:Nat):Int):=rfl
attribute [go_sem] List.map_append List.length_append List.forall_mem_cons Int.toNat_natCast List.not_mem_nil not_false_eq_true Ag List.zipIdx_cons List.zipIdx_nil List.length_map decide_true decide_false Bool.and_true Bool.true_and List.toList_toArray List.getElem?_toArray List.getElem?_cons_zero List.getElem?_cons_succ List.map_cons List.map_nil Option.map_some Option.map_none Option.bind_some Option.bind_none Option.isSome_some and_true true_and List.length_singleton List.all_cons List.all_nil List.take_zero List.drop_zero List.take_succ_cons List.drop_succ_cons List.take_nil List.drop_nil and_self Nat.zero_add rA List.nil_append List.cons_append List.length_nil List.length_cons
end AM
namespace AM
open Go Go.Proofs Go.RowKit
theorem dO {M:Mc}{k:List It}{env:Env}{σ:Sto}{nx:Nat}(l j e L:Nat){cs:List AV}(h1:σ l=some (.box cs))(h2:cs[j]?=some .emp)(h:sr M k env ((σ.upd l (some (.box (cs.set j (.own nx 0))))).upd nx (some (.row e L []))) (nx+1)):sr M k env σ nx:=by
 unfold sr at h|-;intro hc fr Ψ loc a w hn hr hf;obtain⟨b,c,arr,ty,N,R,U,O⟩:=hr.ok.ob l _ h1;obtain⟨x,r1,V,X⟩:=O j _ h2;have y:nx≠l:=λe=>by rw[<-e,(hf nx (au _)).2] at h1;cases h1
 cases X with
 |
  @emp A=>
  have hle:Loc.le loc (loc.upd nx (A,0)):=Loc.le_upd (hf nx (au _)).1;have D:Ok fr Ψ (loc.upd nx (A,0)) σ w:=hr.ok.locs hle (λr o ho=>Loc.upd_ne (λe=>by rw[e,(hf nx (au _)).2] at ho;cases ho));have E:blk (loc.upd nx (A,0)) l=some b:=(by unfold blk;rw[Loc.upd_ne (xK y),N]);have B:=D.free h1 E;have q:Ok fr Ψ (loc.upd nx (A,0)) ((σ.upd l none).upd l (some (.box (cs.set j (.own nx 0))))) w:=by
   refine (D.drop l).claim (by simp[Sto.upd]) ⟨b,c,arr,ty,by rw[Loc.upd_ne (xK y),N],R,by simp[U],λi v u=>?_⟩ (λY d=>by rw[E] at d;injection d with d;rw[<-d];exact B);rw[Tf] at u;split at u
   . rename_i G;split at u;injection u with u;subst G u;exact⟨_,r1,V,.own Loc.upd_eq (au _)⟩
     cases u
   obtain⟨x,s1,s2,s3⟩:=O i v u;exact⟨x,s1,s2,s3.mono (.refl _) hle⟩
  have he:((σ.upd l none).upd l (some (.box (cs.set j (.own nx 0)))))=σ.upd l (some (.box (cs.set j (.own nx 0)))):=(by funext r;unfold Sto.upd;split<;>rfl);rw[he] at q;have H:=q.claim (l:=nx) (o:= .row e L []) (by unfold Sto.upd;rw[if_neg y];exact (hf nx (au _)).2) ⟨A,0,Loc.upd_eq,.inl ⟨rfl,rfl⟩⟩ (λY d=>by simp[blk,Loc.upd_eq] at d);refine h hc fr Ψ _ a w hn ⟨⟨λt v Z=>?_⟩,H,hr.sz,hr.df⟩ (λr I=>⟨?_,?_⟩);obtain⟨x,s1,s2⟩:=hr.env.rep t v Z;exact⟨x,s1,s2.mono (.refl _) hle⟩;rw[Loc.upd_ne (by omega)];exact (hf r (by omega)).1
  . unfold Sto.upd;rw[if_neg (by omega)];split;rename_i J;exfalso;rw[J] at I;have:=(hf l (by omega)).2;rw[h1] at this;cases this
    exact (hf r (by omega)).2
theorem lI {M:Mc}{k:List It}{env:Env}{σ:Sto}{nx:Nat}(t e E:Nat)(h2:env t=some .emp)(h:sr M k (env.put (some t) (.own nx 0)) (σ.upd nx (some (.row e E []))) (nx+1)):sr M k env σ nx:=by
 unfold sr at h|-;intro hc fr Ψ loc a w hn hr hf;obtain⟨x,r1,G⟩:=hr.env.rep t _ h2;have d:=hf nx (au _)
 cases G with
 |
  @emp A=>
  have hle:Loc.le loc (loc.upd nx (A,0)):=Loc.le_upd d.1;have u:Ok fr Ψ (loc.upd nx (A,0)) σ w:=hr.ok.locs hle (λr o ho=>Loc.upd_ne (λe=>by rw[e,d.2] at ho;cases ho));have y:=u.claim (l:=nx) (o:= .row e E []) d.2 ⟨A,0,Loc.upd_eq,.inl ⟨rfl,rfl⟩⟩ (λJ B=>by simp[blk,Loc.upd_eq] at B);refine h hc fr Ψ _ a w hn ⟨⟨λH v q=>?_⟩,y,hr.sz,hr.df⟩ (λr I=>⟨?_,?_⟩);simp only[Env.put] at q;split at q;rename_i D;injection q with q;subst D q;exact⟨_,r1,.own Loc.upd_eq (au _)⟩;obtain⟨x,s1,s2⟩:=hr.env.rep H v q;exact⟨x,s1,s2.mono (.refl _) hle⟩;rw[Loc.upd_ne (by omega)];exact (hf r (by omega)).1;unfold Sto.upd;rw[if_neg (by omega)];exact (hf r (by omega)).2
theorem jk {M:Mc}{k:List It}{env:Env}{σ:Sto}{nx:Nat}{c:Code}{T:Type}(E:T->List (Nat×AV))(S:T->List (Option Obj))(f:T->Prop)(h1:sr M (.code c :: .mark (λenv σ=>∃t,f t/\View M.n0 env σ (E t) (S t))::k) env σ nx)(h2:∀t,f t->sr M k (ku (E t)) (qw (S t)) (S t).length):sr M (.code c::k) env σ nx:=by
 unfold sr at h1 h2|-;intro hc fr Ψ loc a w hn hr hf;obtain⟨c1,c2⟩:=kC hc;have:=h1 (by simp only[uQ,dC];exact⟨c1,c2⟩) fr Ψ loc a w hn hr hf;refine xO this (λe a w q=>?_)
 cases e with
 |
  normal=>
  obtain⟨env,σ,nx,Ψ,loc,u,G,t,y,B⟩:=q;obtain⟨Ψ',d,r1,D⟩:=yP u hn B;exact h2 t y c2 fr Ψ' d a w hn r1 D
 |_=>exact q
def cO (σ:Sto)(ρ:Nat->Nat):List Nat->List Obj->Prop
 |l::ls,o::os=>σ l=some (o.ren ρ)/\cO σ ρ ls os
 |_,_=>True
theorem aae {σ:Sto}{ρ:Nat->Nat} :∀ {ls:List Nat}{os:List Obj},cO σ ρ ls os->ls.length=os.length->∀k o,os[k]?=some o->σ (ls.getD k 0)=some (o.ren ρ)
 | [],[],_,_,k,o,h=>by simp at h
 |l::ls,o::os,h,hl,0,o',a=>by simp at a;subst a;simpa using h.1
 |l::ls,o::os,h,hl,k+1,o',a=>by simpa using aae h.2 (by simpa using hl) k o' (by simpa using a)
def cB (nx i:Nat)(ls:List Nat)(n:Nat):Bool:=ls.length==n && KJ ls && ls.all (λl=>!own nx i l)
theorem U9 {P:Program}{a:Bool}{f:FuncId}{nx i:Nat}{fM:List (Option AV)}{σ:Sto}{K:AV->List (Nat×Option Obj)->Key->Prop}{vs:List AV}{pre:List Obj}{post:AV->List (Option Obj)->Prop}(hc:ACall P f vs pre post)(ls:List Nat)(hg:isGo P f=true)(hb:cB nx i ls pre.length=true)(d:fM=(AV.renL (rho ls (nx+8*i)) vs).map some)(ha:AV.lbL pre.length vs=true)(u:pre.all (Obj.lb pre.length)=true)(ho:cO σ (rho ls (nx+8*i)) ls pre)(hi:a=true->∃r g,post r g/\pre.length<=g.length/\g.length<=pre.length+8)
 (h:∀r g,post r g->K (r.ren (rho ls (nx+8*i))) (renG (rho ls (nx+8*i)) g) ⟨[],ls,false,true,true⟩):mX P a f nx i fM σ K:=by simp only[cB,dC,dV] at hb;exact⟨vs,pre,post,ls,hg,hc,d,ha,u,hb.1.1,KL hb.1.2,hb.2,λk o hk=>aae ho hb.1.1 k o hk,hi,λr g q _ _=>h r g q⟩
def fz1 (c:Option (List CT))(o:Option Obj):Option PV:=
 match c,o with
 |none,some (.row _ _ els)=>some (.sl els)
 |some cts,some (.row _ _ els)=>some (.tr cts els.length)
 |_,_=>none
@[go_sem] theorem apG {e k:Nat}{els:List (List PV)} :fz1 none (some (.row e k els))=some (.sl els):=rfl
@[go_sem] theorem apH {e k:Nat}{cts:List CT}{els:List (List PV)} :fz1 (some cts) (some (.row e k els))=some (.tr cts els.length):=rfl
@[go_sem] theorem akO {σ:Sto}{a r:Nat}{c:Option (List CT)}{fl:List (Nat×Option (List CT))} :tC σ ((a,c)::fl) r=if a=r then fz1 c (σ r) else tC σ fl r:=by
 unfold tC;by_cases h:a=r
 . subst h;simp only[Ti,beq_self_eq_true,qZ]
   cases c<;>cases hσ:σ a with
   |none=>rfl
   |some o=>cases o<;>rfl
 have hb:(a==r)=false:=(by simpa using h);simp only[Ti,hb,if_neg h]
@[go_sem] theorem akP {els:List (List PV)}{n:Nat} :sU (.sl els) n=(els.length=n):=rfl
@[go_sem] theorem akQ {cts:List CT}{m n:Nat} :sU (.tr cts m) n=(m=n):=rfl
def fzK (o:Option Obj):Prop:=match o with
 |some (.row ..)=>True
 |_=>False
@[go_sem] theorem anm {e k:Nat}{els:List (List PV)} :fzK (some (.row e k els))=True:=rfl
@[go_sem] theorem aiw {σ:Sto}{r:Nat} :yQ σ (r,none)=fzK (σ r):=by
 simp only[yQ,fzK]
 cases σ r with
 |none=>rfl
 |some o=>cases o<;>rfl
@[go_sem] theorem akR {a b:Nat}{l:List Nat} :(a∈b::l)=(a=b\/a∈l):=by simp
attribute [go_sem] or_self or_false false_or
section
variable {σ : Sto} {ρ : Nat -> Nat} {l : Nat} {ls : List Nat} {o : Obj} {os : List Obj} {lab k : Nat}
@[go_sem] theorem ann:cO σ ρ (l::ls) (o::os)=(σ l=some (o.ren ρ)/\cO σ ρ ls os):=rfl
@[go_sem] theorem apJ:cO σ ρ [] os=True:=by cases os<;>rfl
@[go_sem] theorem ano:rho ls lab k=if k<ls.length then ls.getD k 0 else lab+(k-ls.length):=rfl
@[go_sem] theorem aix {r:List Nat} :(l::r).getD 0 0=l:=rfl
@[go_sem] theorem aiy {r:List Nat} :(l::r).getD (k+1) 0=r.getD k 0:=rfl
@[go_sem] theorem anp {g:List (Option Obj)} :renG ρ g=g.zipIdx.map λp=>(ρ p.2,p.1.map (Obj.ren ρ)):=rfl
end
@[go_sem] theorem acV {n:Nat} :∀ {l:List PV},AV.lbL n (l.map .pv)=true
 | []=>rfl
 |p::l=>by simp only[kM,AV.lbL,AV.lb,xA];exact acV
@[go_sem] theorem aaf {ρ:Nat->Nat} :∀ {l:List PV},AV.renL ρ (l.map .pv)=l.map .pv
 | []=>rfl
 |p::l=>by simp only[kM,AV.renL,AV.ren];rw[aaf]
@[go_sem] theorem WM:∀ {l:List PV},(l.map AV.pv).all iI=true
 | []=>rfl
 |p::l=>by simp only[kM,List.all_cons];rw[WM];rfl
@[go_sem] theorem aag:∀ {l:List PV},xw (l.map AV.pv)=some l
 | []=>rfl
 |p::l=>by simp only[kM,xw,toP];rw[aag]
@[reducible] def rw_ (r:List PV):AV:= .agg (r.map .pv)
attribute [go_sem] true_or or_true
theorem jR {α:Type}(l:List α)(f:α->List PV){els:List (List PV)}{j k:Nat}{F:List PV->Prop}(a:j<l.length)(hF:∀x∈l,F (f x))(he:els=l.map f:=by rfl)(hk:∀x,(f x).length=k:=by first|exactλ_=>rfl|exactλx=>by simp only[go_sem]):OY els (j:Int) k F:=by rw[he];exact aN (x:=l[j]) (by omega) (by simp[a]) (hk _) (hF _ (fA a))
