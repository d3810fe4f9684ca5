/- Words. -/
import Derived.Test.YtfbkkgfkhhibfaaGreatProg
import Derived.Test.YtfbkkgfkhhibfaaGreatAsi
import Derived.KernelRfl
set_option linter.unusedVariables false
set_option linter.unusedSimpArgs false
namespace AM
open Go Go.Proofs
@[go_sem] theorem avI:lay Tryz.prog 2=some (false,1)/\
 lay Tryz.prog 3=some (false,1)/\
 lay Tryz.prog 4=some (false,1)/\
 lay Tryz.prog 5=some (false,1)/\
 lay Tryz.prog 9=some (false,1)/\
 lay Tryz.prog 22=some (false,1)/\
 lay Tryz.prog 25=some (false,1)/\
 lay Tryz.prog 26=some (false,1)/\
 lay Tryz.prog 27=some (false,1)/\
 lay Tryz.prog 28=some (false,1)/\
 lay Tryz.prog 29=some (false,1)/\
 lay Tryz.prog 31=some (true,6)/\
 lay Tryz.prog 34=some (true,7)/\
 lay Tryz.prog 37=some (false,1)/\
 lay Tryz.prog 52=some (true,7)/\
 lay Tryz.prog 73=some (false,1)/\
 lay Tryz.prog 74=some (false,1)/\
 lay Tryz.prog 75=some (false,1)/\
 lay Tryz.prog 77=some (true,4)/\
 lay Tryz.prog 78=some (false,1)/\
 lay Tryz.prog 79=some (false,1)/\
 lay Tryz.prog 81=some (true,7)/\
 lay Tryz.prog 84=some (false,1)/\
 lay Tryz.prog 86=some (true,7)/\
 lay Tryz.prog 118=some (false,1):=by and_intros<;>kernel_rfl
@[go_sem] theorem avJ:lay Tryz.prog 119=some (false,1)/\
 lay Tryz.prog 121=some (true,2)/\
 lay Tryz.prog 124=some (true,2)/\
 lay Tryz.prog 161=some (false,1)/\
 lay Tryz.prog 163=some (true,2)/\
 lay Tryz.prog 144=some (true,5)/\
 lay Tryz.prog 167=some (false,1)/\
 lay Tryz.prog 169=some (true,4)/\
 lay Tryz.prog 174=some (false,1)/\
 lay Tryz.prog 176=some (true,4)/\
 lay Tryz.prog 182=some (true,6)/\
 lay Tryz.prog 185=some (false,1)/\
 lay Tryz.prog 192=some (false,1)/\
 lay Tryz.prog 194=some (true,4)/\
 lay Tryz.prog 196=some (true,11)/\
 lay Tryz.prog 154=some (true,3)/\
 lay Tryz.prog 233=some (true,3)/\
 lay Tryz.prog 242=some (true,6)/\
 aV Tryz.prog 22=some (5,1,1)/\
 aV Tryz.prog 25=some (144,5,48)/\
 aV Tryz.prog 26=some (147,2,24)/\
 aV Tryz.prog 27=some (150,2,24)/\
 aV Tryz.prog 28=some (9,1,16)/\
 aV Tryz.prog 29=some (154,3,24)/\
 aV Tryz.prog 32=some (52,7,88):=by and_intros<;>kernel_rfl
@[go_sem] theorem avK:aV Tryz.prog 37=some (3,1,8)/\
 aV Tryz.prog 73=some (231,2,32)/\
 aV Tryz.prog 74=some (4,1,1)/\
 aV Tryz.prog 75=some (233,3,24)/\
 aV Tryz.prog 78=some (2,1,8)/\
 aV Tryz.prog 79=some (169,4,64)/\
 aV Tryz.prog 84=some (163,2,32)/\
 aV Tryz.prog 88=some (124,2,16)/\
 aV Tryz.prog 118=some (242,6,64)/\
 aV Tryz.prog 119=some (176,4,72)/\
 aV Tryz.prog 161=some (182,6,48)/\
 aV Tryz.prog 167=some (37,1,24)/\
 aV Tryz.prog 174=some (196,11,176)/\
 aV Tryz.prog 192=some (194,4,56)/\
 aU Tryz.prog 31 0=some 0/\
 aU Tryz.prog 31 1=some 1/\
 aU Tryz.prog 31 2=some 2/\
 aU Tryz.prog 31 3=some 3/\
 aU Tryz.prog 31 4=some 4/\
 aU Tryz.prog 31 5=some 5/\
 aU Tryz.prog 52 1=some 1/\
 aU Tryz.prog 52 2=some 2/\
 aU Tryz.prog 52 3=some 3/\
 aU Tryz.prog 52 5=some 5/\
 aU Tryz.prog 52 6=some 6:=by and_intros<;>kernel_rfl
@[go_sem] theorem avL:aU Tryz.prog 77 0=some 0/\
 aU Tryz.prog 77 1=some 1/\
 aU Tryz.prog 77 2=some 2/\
 aU Tryz.prog 77 3=some 3/\
 aU Tryz.prog 81 0=some 0/\
 aU Tryz.prog 81 1=some 4/\
 aU Tryz.prog 81 2=some 5/\
 aU Tryz.prog 81 3=some 6/\
 aU Tryz.prog 86 0=some 0/\
 aU Tryz.prog 86 1=some 6/\
 aU Tryz.prog 121 0=some 0/\
 aU Tryz.prog 121 1=some 1/\
 aU Tryz.prog 124 0=some 0/\
 aU Tryz.prog 124 1=some 1/\
 aU Tryz.prog 163 0=some 0/\
 aU Tryz.prog 163 1=some 1/\
 aU Tryz.prog 144 0=some 0/\
 aU Tryz.prog 144 1=some 1/\
 aU Tryz.prog 144 2=some 2/\
 aU Tryz.prog 144 3=some 3/\
 aU Tryz.prog 144 4=some 4/\
 aU Tryz.prog 169 0=some 0/\
 aU Tryz.prog 169 1=some 1/\
 aU Tryz.prog 169 2=some 2/\
 aU Tryz.prog 169 3=some 3:=by and_intros<;>kernel_rfl
@[go_sem] theorem avM:aU Tryz.prog 176 0=some 0/\
 aU Tryz.prog 176 1=some 1/\
 aU Tryz.prog 176 2=some 2/\
 aU Tryz.prog 176 3=some 3/\
 aU Tryz.prog 178 0=some 0/\
 aU Tryz.prog 178 1=some 6/\
 aU Tryz.prog 178 2=some 7/\
 aU Tryz.prog 178 3=some 8/\
 aU Tryz.prog 178 4=some 9/\
 aU Tryz.prog 182 0=some 0/\
 aU Tryz.prog 182 1=some 1/\
 aU Tryz.prog 182 2=some 2/\
 aU Tryz.prog 182 3=some 3/\
 aU Tryz.prog 182 4=some 4/\
 aU Tryz.prog 182 5=some 5/\
 aU Tryz.prog 187 0=some 0/\
 aU Tryz.prog 187 1=some 1/\
 aU Tryz.prog 189 0=some 0/\
 aU Tryz.prog 189 1=some 1/\
 aU Tryz.prog 189 2=some 2/\
 aU Tryz.prog 189 3=some 3/\
 aU Tryz.prog 189 4=some 4/\
 aU Tryz.prog 189 5=some 5/\
 aU Tryz.prog 189 6=some 6/\
 aU Tryz.prog 189 7=some 7:=by and_intros<;>kernel_rfl
@[go_sem] theorem avN:aU Tryz.prog 194 0=some 0/\
 aU Tryz.prog 194 1=some 1/\
 aU Tryz.prog 194 2=some 2/\
 aU Tryz.prog 194 3=some 3/\
 aU Tryz.prog 196 0=some 0/\
 aU Tryz.prog 196 1=some 1/\
 aU Tryz.prog 196 2=some 2/\
 aU Tryz.prog 196 3=some 3/\
 aU Tryz.prog 196 4=some 4/\
 aU Tryz.prog 196 5=some 5/\
 aU Tryz.prog 196 6=some 9/\
 aU Tryz.prog 196 7=some 10/\
 aU Tryz.prog 150 0=some 0/\
 aU Tryz.prog 150 1=some 1/\
 aU Tryz.prog 147 0=some 0/\
 aU Tryz.prog 147 1=some 1/\
 aU Tryz.prog 154 0=some 0/\
 aU Tryz.prog 154 1=some 1/\
 aU Tryz.prog 231 0=some 0/\
 aU Tryz.prog 231 1=some 1/\
 aU Tryz.prog 233 0=some 0/\
 aU Tryz.prog 233 1=some 1/\
 aU Tryz.prog 233 2=some 2/\
 aU Tryz.prog 239 0=some 0/\
 aU Tryz.prog 239 1=some 2:=by and_intros<;>kernel_rfl
@[go_sem] theorem avO:aU Tryz.prog 239 2=some 3/\
 aU Tryz.prog 239 3=some 4/\
 aU Tryz.prog 239 4=some 5/\
 aU Tryz.prog 242 0=some 0/\
 aU Tryz.prog 242 1=some 1/\
 aU Tryz.prog 242 2=some 2/\
 aU Tryz.prog 242 3=some 3/\
 aU Tryz.prog 242 4=some 4/\
 aU Tryz.prog 242 5=some 5/\
 dU Tryz.prog 31=some [.emp,.emp,.emp,.emp,.emp,.emp]/\
 dU Tryz.prog 34=some [.emp,.emp,.emp,.emp,.emp,.emp,.emp]/\
 dU Tryz.prog 52=some [.pv (.sc (.int .i64 0)),.pv (.sc (.int .i64 0)),.pv (.sc (.int .i64 0)),.pv (.sc (.int .i64 0)),.pv (.sc (.int .i64 0)),.emp,.emp]/\
 dU Tryz.prog 77=some [.emp,.pv (.sc (.int .i64 0)),.emp,.emp]/\
 dU Tryz.prog 81=some [.emp,.pv (.sc (.int .i64 0)),.emp,.emp,.emp,.emp,.emp]/\
 dU Tryz.prog 86=some [.emp,.emp,.emp,.emp,.emp,.emp,.emp]/\
 dU Tryz.prog 121=some [.emp,.emp]/\
 dU Tryz.prog 124=some [.pv (.sc (.int .i64 0)),.pv (.sc (.int .i64 0))]/\
 dU Tryz.prog 163=some [.pv (.sc (.int .i64 0)),.emp]/\
 dU Tryz.prog 144=some [.pv (.sc (.string ⟨#[]⟩)),.pv (.sc (.int .i64 0)),.pv (.sc (.int .i64 0)),.pv (.sc (.bool false)),.pv (.sc (.int .i64 0))]/\
 dU Tryz.prog 169=some [.pv (.sc (.int .i64 0)),.emp,.emp,.pv (.sc (.int .i64 0))]/\
 dU Tryz.prog 176=some [.pv (.sc (.string ⟨#[]⟩)),.pv (.sc (.int .i64 0)),.emp,.emp]/\
 dU Tryz.prog 178=some [.emp,.emp,.emp,.emp,.emp,.emp,.emp,.emp,.pv (.sc (.int .i64 0)),.pv (.sc (.int .i64 0))]/\
 dU Tryz.prog 182=some [.pv (.sc (.int .i64 0)),.pv (.sc (.int .i64 0)),.pv (.sc (.int .i64 0)),.pv (.sc (.int .i64 0)),.pv (.sc (.int .i64 0)),.pv (.sc (.int .i64 0))]/\
 dU Tryz.prog 187=some [.emp,.pv (.sc (.int .i64 0))]/\
 dU Tryz.prog 189=some [.pv (.sc (.pointer none)),.pv (.sc (.int .i64 0)),.pv (.sc (.int .i64 0)),.pv (.sc (.bool false)),.pv (.sc (.bool false)),.pv (.sc (.bool false)),.pv (.sc (.bool false)),.emp]:=by and_intros<;>kernel_rfl
@[go_sem] theorem avP:dU Tryz.prog 194=some [.pv (.sc (.int .i64 0)),.pv (.sc (.int .i64 0)),.pv (.sc (.string ⟨#[]⟩)),.emp]/\
 dU Tryz.prog 196=some [.pv (.sc (.int .i64 0)),.pv (.sc (.int .i64 0)),.pv (.sc (.string ⟨#[]⟩)),.pv (.sc (.string ⟨#[]⟩)),.emp,.pv (.sc (.int .i64 0)),.pv (.sc (.int .i64 0)),.pv (.sc (.string ⟨#[]⟩)),.emp,.emp,.emp]/\
 dU Tryz.prog 150=some [.pv (.sc (.string ⟨#[]⟩)),.pv (.sc (.int .i64 0))]/\
 dU Tryz.prog 147=some [.pv (.sc (.string ⟨#[]⟩)),.pv (.sc (.bool false))]/\
 dU Tryz.prog 154=some [.pv (.sc (.int .i64 0)),.pv (.sc (.int .i64 0)),.pv (.sc (.int .i64 0))]/\
 dU Tryz.prog 231=some [.pv (.sc (.int .i64 0)),.emp]/\
 dU Tryz.prog 233=some [.pv (.sc (.int .i64 0)),.pv (.sc (.int .i64 0)),.pv (.sc (.bool false))]/\
 dU Tryz.prog 239=some [.emp,.emp,.pv (.sc (.int .i64 0)),.emp,.emp,.emp]/\
 dU Tryz.prog 242=some [.pv (.sc (.int .i64 0)),.pv (.sc (.int .i64 0)),.pv (.sc (.string ⟨#[]⟩)),.pv (.sc (.int .i64 0)),.pv (.sc (.int .i64 0)),.pv (.sc (.string ⟨#[]⟩))]/\
 dh Tryz.prog 34=some [(0,6),(6,1)]/\
 dh Tryz.prog 52=some [(0,1),(1,1),(2,1),(3,1),(4,1),(5,1),(6,1)]/\
 dh Tryz.prog 77=some [(0,1),(1,1),(2,1),(3,1)]/\
 dh Tryz.prog 81=some [(0,4),(4,1),(5,1),(6,1)]/\
 dh Tryz.prog 86=some [(0,6),(6,1)]/\
 dh Tryz.prog 121=some [(0,1),(1,1)]/\
 dh Tryz.prog 124=some [(0,1),(1,1)]/\
 dh Tryz.prog 163=some [(0,1),(1,1)]/\
 dh Tryz.prog 144=some [(0,1),(1,1),(2,1),(3,1),(4,1)]/\
 dh Tryz.prog 169=some [(0,1),(1,1),(2,1),(3,1)]/\
 dh Tryz.prog 176=some [(0,1),(1,1),(2,1),(3,1)]/\
 dh Tryz.prog 178=some [(0,6),(6,1),(7,1),(8,1),(9,1)]/\
 dh Tryz.prog 182=some [(0,1),(1,1),(2,1),(3,1),(4,1),(5,1)]/\
 dh Tryz.prog 187=some [(0,1),(1,1)]/\
 dh Tryz.prog 189=some [(0,1),(1,1),(2,1),(3,1),(4,1),(5,1),(6,1),(7,1)]/\
 dh Tryz.prog 194=some [(0,1),(1,1),(2,1),(3,1)]:=by and_intros<;>kernel_rfl
@[go_sem] theorem avQ:dh Tryz.prog 196=some [(0,1),(1,1),(2,1),(3,1),(4,1),(5,4),(9,1),(10,1)]/\
 dh Tryz.prog 150=some [(0,1),(1,1)]/\
 dh Tryz.prog 147=some [(0,1),(1,1)]/\
 dh Tryz.prog 154=some [(0,1),(1,1),(2,1)]/\
 dh Tryz.prog 231=some [(0,1),(1,1)]/\
 dh Tryz.prog 233=some [(0,1),(1,1),(2,1)]/\
 dh Tryz.prog 239=some [(0,2),(2,1),(3,1),(4,1),(5,1)]/\
 dh Tryz.prog 242=some [(0,1),(1,1),(2,1),(3,1),(4,1),(5,1)]/\
 Kt Tryz.prog 3=some .i64/\
 Kt Tryz.prog 5=some .u8/\
 RU Tryz.prog 9=true/\
 OE Tryz.prog 4=true:=by and_intros<;>kernel_rfl
def vE1 (F:Nat->Option PV):Option AV->AV->Prop
 |some v,u=>wk F v u
 |none,_=>False
def vE (F:Nat->Option PV)(n:Nat)(ρ:Nat->Nat)(env:Env):List (Nat×AV)->Prop
 | []=>True
 |(t,u)::r=>u.lb n=true/\vE1 F (env t) (u.ren ρ)/\vE F n ρ env r
def vO1 (F:Nat->Option PV):Option Obj->Obj->Prop
 |some o,u=>WO F o u
 |none,_=>False
def vO (F:Nat->Option PV)(n:Nat)(fs:List Nat)(ρ:Nat->Nat)(σ:Sto):List (Option Obj)->Nat->Prop
 | [],_=>True
 |none::r,k=>vO F n fs ρ σ r (k+1)
 |some o::r,k=>o.lb n=true/\ρ k∉fs/\vO1 F (σ (ρ k)) (o.ren ρ)/\vO F n fs ρ σ r (k+1)
def vF (σ:Sto):List (Nat×Option (List CT))->Prop
 | []=>True
 |p::r=>yL σ p/\vF σ r
def KH:List Nat->Bool
 | []=>true
 |a::r=>!(r.any λb=>b==a) && KH r
theorem KI:∀ {l:List Nat},KH l=true->l.Nodup
 | [],_=>List.nodup_nil
 |
  a::r,h=>by
  simp only[KH,dH,Et,JZ,eG] at h
  exact vY.2 ⟨λhm=>h.1 a hm rfl,KI h.2⟩
def lsB (n0:Nat):List Nat->Nat->Bool
 | [],_=>true
 |a::r,k=>(decide (n0<=k) || a==k) && lsB n0 r (k+1)
theorem aaA {n0:Nat} :∀ {ls:List Nat}{k:Nat},lsB n0 ls k=true->∀j,j<ls.length->k+j<n0->ls.getD j 0=k+j
 | [],_,_,j,h,_=>by simp at h
 |
  a::r,k,h,j,h1,h2=>by
  simp only[lsB,dH,wO,gX,eG] at h
  cases j with
  |zero=>rcases h.1 with h3|h3<;>simp_all<;>omega
  |
   succ j=>
   have:=aaA h.2 j (by simpa using h1) (by omega)
   simp only[List.getD_cons_succ]
   omega
def GY:List (Option Obj)->List Nat->Bool
 |none::S,_::ls=>GY S ls
 |some _::S,l::ls=>!(memL l S ls) && GY S ls
 |_,_=>true
where memL (l:Nat):List (Option Obj)->List Nat->Bool
 |none::S,_::ls=>memL l S ls
 |some _::S,l'::ls=>l'==l || memL l S ls
 |_,_=>false
theorem Dj {l:Nat} :∀ {S:List (Option Obj)}{ls:List Nat},GY.memL l S ls=false->ls.length=S.length->∀k o,S[k]?=some (some o)->lG ls k≠l
 | [],_,_,_,k,o,hk=>by simp at hk
 |_::_,[],_,hl,_,_,_=>by simp at hl
 |
  none::S,_::ls,h,hl,k,o,hk=>by
  cases k with
  |zero=>simp at hk
  |succ k=>exact Dj (S:=S) (ls:=ls) (by simpa [GY.memL] using h) (by simpa using hl) k o (by simpa using hk)
 |
  some _::S,l'::ls,h,hl,k,o,hk=>by
  simp only[GY.memL,KA,fO] at h
  cases k with
  |zero=>exact h.1
  |succ k=>exact Dj h.2 (by simpa using hl) k o (by simpa using hk)
theorem KX:∀ {S:List (Option Obj)}{ls:List Nat},GY S ls=true->ls.length=S.length->acZ S ls
 | [],_,_,_=>λk a o o' hk=>by simp at hk
 |_::_,[],_,hl=>by simp at hl
 |
  none::S,l::ls,h,hl=>λk a o o' hk q e=>by
  cases k with
  |zero=>simp at hk
  |
   succ k=>cases a with
   |zero=>simp at q
   |succ a=>rw [KX (S:=S) (ls:=ls) (by simpa [GY] using h) (by simpa using hl) k a o o' (by simpa using hk) (by simpa using q) e]
 |
  some o1::S,l::ls,h,hl=>λk a o o' hk q e=>by
  simp only[GY,dH,Et] at h
  have y:ls.length=S.length:=by simpa using hl
  cases k with
  |
   zero=>cases a with
   |zero=>rfl
   |succ a=>exact absurd e.symm (Dj h.1 y a o' (by simpa using q))
  |
   succ k=>cases a with
   |zero=>exact absurd e (Dj h.1 y k o (by simpa using hk))
   |succ a=>rw [KX h.2 y k a o o' (by simpa using hk) (by simpa using q) e]
def vwB (n0:Nat)(ls:List Nat)(S:List (Option Obj))(fs:List Nat):Bool:=ls.length==S.length && GY S ls && lsB n0 ls 0 && decide (n0<=S.length) && KH fs
theorem U7 {n0:Nat}{env:Env}{σ:Sto}{E:List (Nat×AV)}{S:List (Option Obj)}(ls:List Nat)(fl:List (Nat×Option (List CT)))(hb:vwB n0 ls S (fl.map (·.1))=true)(hf:vF σ fl)(hE:vE (sH σ fl) S.length (lG ls) env E)(hO:vO (sH σ fl) S.length (fl.map (·.1)) (lG ls) σ S 0):View n0 env σ E S:=by
 simp only[vwB,dH,eG,gX] at hb;obtain⟨⟨⟨⟨G,H⟩,b3⟩,b4⟩,b5⟩:=hb;refine⟨ls,fl,G,KX H G,λk hk=>?_,b4,?_,KI b5,?_,?_⟩;simpa [lG] using aaA b3 k (by omega) (by omega)
 . clear b5 hE hO;induction fl with
   |nil=>simp
   |cons p r ih=>intro q a;rcases fV.1 a with rfl|a;exact hf.1;exact ih hf.2 q a
 . clear hO;induction E with
   |nil=>simp
   |
    cons p r ih=>
    intro q a;obtain⟨t,u⟩:=p;obtain⟨h1,h2,h3⟩:=hE;rcases fV.1 a with rfl|a
    . refine⟨h1,?_⟩
      cases he:env t with
      |none=>rw [he] at h2;exact h2.elim
      |some v=>rw [he] at h2;exact⟨v,rfl,h2⟩
    exact ih h3 q a
 . have key:∀(y:List (Option Obj)) (k:Nat),vO (sH σ fl) S.length (fl.map (·.1)) (lG ls) σ y k->∀p∈y.zipIdx k,∀o,p.1=some o->o.lb S.length=true/\lG ls p.2∉fl.map (·.1)/\∃o',σ (lG ls p.2)=some o'/\WO (sH σ fl) o' (o.ren (lG ls)):=by
    intro y;induction y with
    |nil=>intro k _ p B;simp at B
    |
     cons x r ih=>
     intro k D p B o ho;rw[List.zipIdx_cons] at B;rcases fV.1 B with rfl|hp'
     . dsimp only at ho;subst ho;obtain⟨h1,h2,h3,_⟩:=D;refine⟨h1,h2,?_⟩
       cases he:σ (lG ls k) with
       |none=>rw [he] at h3;exact h3.elim
       |some o'=>rw [he] at h3;exact⟨o',rfl,h3⟩
     . cases x with
       |none=>exact ih _ D p hp' o ho
       |some o'=>exact ih _ D.2.2.2 p hp' o ho
   exact key S 0 hO
section
variable {F : Nat -> Option PV} {n : Nat} {fs : List Nat} {ρ : Nat -> Nat} {env : Env} {σ : Sto} {t k : Nat} {u v : AV} {o o' : Obj}
@[go_sem] theorem aq8:vE F n ρ env []=True:=rfl
@[go_sem] theorem anL {r:List (Nat×AV)} :vE F n ρ env ((t,u)::r)=(u.lb n=true/\vE1 F (env t) (u.ren ρ)/\vE F n ρ env r):=rfl
@[go_sem] theorem alv:vE1 F (some v) u=wk F v u:=rfl
@[go_sem] theorem alx:vO1 F (some o) o'=WO F o o':=rfl
@[go_sem] theorem aq9:vO F n fs ρ σ [] k=True:=rfl
@[go_sem] theorem anM {r:List (Option Obj)} :vO F n fs ρ σ (none::r) k=vO F n fs ρ σ r (k+1):=rfl
@[go_sem] theorem anN {r:List (Option Obj)} :vO F n fs ρ σ (some o::r) k=(o.lb n=true/\ρ k∉fs/\vO1 F (σ (ρ k)) (o.ren ρ)/\vO F n fs ρ σ r (k+1)):=rfl
@[go_sem] theorem ara:vF σ []=True:=rfl
@[go_sem] theorem anO {p:Nat×Option (List CT)}{r:List (Nat×Option (List CT))} :vF σ (p::r)=(yL σ p/\vF σ r):=rfl
@[go_sem] theorem atl {p:PV} :wk F (.pv p) u=(.pv p=u):=by cases u<;>simp only[wk]
@[go_sem] theorem ag7 {r m a q:Nat} :wk F (.own r m) (.own a q)=(r=a/\m=q):=by simp only[wk,AV.own.injEq]
@[go_sem] theorem aiK {r m:Nat}{p:PV} :wk F (.own r m) (.pv p)=(F r=some p/\rY p m):=by simp only[wk]
@[go_sem] theorem aiL {p:PV} :wk F .emp (.pv p)=(p= .sl []\/∃cts,p= .tr cts 0):=by simp only[wk]
@[go_sem] theorem ag8:wk F .emp .emp=True:=by simp only[wk]
@[go_sem] theorem arb {r m:Nat} :wk F (.ptr r m) u=(.ptr r m=u):=by cases u<;>simp only[wk]
@[go_sem] theorem arc {cs a:List AV} :wk F (.agg cs) (.agg a)=wkL F cs a:=by simp only[wk]
@[go_sem] theorem ard {cs a:List AV} :wk F (.tup cs) (.tup a)=wkL F cs a:=by simp only[wk]
@[go_sem] theorem anP:wkL F [] []=True:=by simp only[wkL]
@[go_sem] theorem aly {cs a:List AV} :wkL F (v::cs) (u::a)=(wk F v u/\wkL F cs a):=by simp only[wkL]
@[go_sem] theorem anQ {cs a:List AV} :WO F (.box cs) (.box a)=wkL F cs a:=rfl
@[go_sem] theorem anR {e k q y:Nat}{els a:List (List PV)} :WO F (.row e k els) (.row q y a)=(e=q/\k=y/\els=a):=by simp[WO]
@[go_sem] theorem atn {p:PV} :AV.lb n (.pv p)=true:=rfl
@[go_sem] theorem arf:AV.lb n .emp=true:=rfl
@[go_sem] theorem arh {r m:Nat} :AV.lb n (.own r m)=decide (r<n):=by simp only[AV.lb]
@[go_sem] theorem ari {r m:Nat} :AV.lb n (.ptr r m)=decide (r<n):=by simp only[AV.lb]
@[go_sem] theorem arj {cs:List AV} :AV.lb n (.agg cs)=AV.lbL n cs:=by simp only[AV.lb]
@[go_sem] theorem ark {cs:List AV} :AV.lb n (.tup cs)=AV.lbL n cs:=by simp only[AV.lb]
@[go_sem] theorem anS:AV.lbL n []=true:=by simp only[AV.lbL]
@[go_sem] theorem alz {cs:List AV} :AV.lbL n (v::cs)=(v.lb n && AV.lbL n cs):=by simp only[AV.lbL]
@[go_sem] theorem anT {cs:List AV} :Obj.lb n (.box cs)=AV.lbL n cs:=rfl
@[go_sem] theorem anU {e k:Nat}{els:List (List PV)} :Obj.lb n (.row e k els)=true:=rfl
@[go_sem] theorem arl {p:PV} :AV.ren ρ (.pv p)= .pv p:=rfl
@[go_sem] theorem anV:AV.ren ρ .emp= .emp:=rfl
@[go_sem] theorem anW {r m:Nat} :AV.ren ρ (.own r m)= .own (ρ r) m:=by simp only[AV.ren]
@[go_sem] theorem anX {r m:Nat} :AV.ren ρ (.ptr r m)= .ptr (ρ r) m:=by simp only[AV.ren]
@[go_sem] theorem anY {cs:List AV} :AV.ren ρ (.agg cs)= .agg (AV.renL ρ cs):=by simp only[AV.ren]
@[go_sem] theorem anZ {cs:List AV} :AV.ren ρ (.tup cs)= .tup (AV.renL ρ cs):=by simp only[AV.ren]
@[go_sem] theorem alA:AV.renL ρ []=[]:=by simp only[AV.renL]
@[go_sem] theorem aiM {cs:List AV} :AV.renL ρ (v::cs)=v.ren ρ::AV.renL ρ cs:=by simp only[AV.renL]
@[go_sem] theorem alB {cs:List AV} :Obj.ren ρ (.box cs)= .box (AV.renL ρ cs):=rfl
@[go_sem] theorem alC {e k:Nat}{els:List (List PV)} :Obj.ren ρ (.row e k els)= .row e k els:=rfl
@[go_sem] theorem alD {a:Nat}{r:List Nat} :lG (a::r) 0=a:=rfl
@[go_sem] theorem alE {a:Nat}{r:List Nat} :lG (a::r) (k+1)=lG r k:=rfl
@[go_sem] theorem alF:Gx [v]=v:=rfl
@[go_sem] theorem alG {r:List AV} :Gx (v::u::r)= .tup (v::u::r):=rfl
@[go_sem] theorem alH {x:Option Obj}{r:List (Option Obj)} :pX (x::r) 0=x:=by simp[pX]
@[go_sem] theorem alI {x:Option Obj}{r:List (Option Obj)} :pX (x::r) (k+1)=pX r k:=by simp[pX]
end
def rT (P:Program)(env:Env)(σ:Sto)(rs:List ResultVar)(K:AV->Prop):Prop:=
 match BU P env σ rs with
 |none=>False
 |some vs=>K (Gx vs)
theorem KY {P:Program}{n0:Nat}{rs:List ResultVar}{post:AV->List (Option Obj)->Prop}{env:Env}{σ:Sto}(r:AV)(g:List (Option Obj))(ls:List Nat)(fl:List (Nat×Option (List CT)))(hb:vwB n0 ls g (fl.map (·.1))=true)(a:g.length<=n0+8)(q:post r g)(hf:vF σ fl)(hE:rT P env σ rs λv=>r.lb g.length=true/\wk (sH σ fl) v (r.ren (lG ls)))(hO:vO (sH σ fl) g.length (fl.map (·.1)) (lG ls) σ g 0):mr P n0 rs post env σ:=by
 unfold rT at hE;unfold mr
 cases he:BU P env σ rs with
 |none=>rw [he] at hE;exact hE.elim
 |
  some vs=>
  rw[he] at hE;exact⟨r,g,q,a,U7 ls fl hb hf ⟨hE.1,by simpa [jR,Env.put,vE1] using hE.2,trivial⟩ hO⟩
theorem aaB {P:Program}{rs:List ResultVar}{Q:AV->Prop}{env:Env}{σ:Sto}(r:AV)(fl:List (Nat×Option (List CT)))(hb:KH (fl.map (·.1))=true)(h0:r.lb 0=true)(a:Q r)(hf:vF σ fl)(hE:rT P env σ rs λv=>wk (sH σ fl) v r):mr P 0 rs (λv g=>g=[]/\v.lb 0=true/\Q v) env σ:=
 KY r [] [] fl (by simp[vwB,GY,lsB,hb]) (by simp) ⟨rfl,h0,a⟩ hf (by
  unfold rT at hE|-
  cases he:BU P env σ rs with
  |none=>rw [he] at hE;exact hE.elim
  |some vs=>rw [he] at hE;exact⟨h0,by rw[RJ r _ h0];exact hE⟩) trivial
abbrev FnEq (P:Program)(f:FuncId)(vs:List AV)(r:AV):Prop:=kS P f vs (λv=>v=r)
theorem ade {P:Program}{dr:Bool}{f:FuncId}{nx i:Nat}{fD:List (Option AV)}{σ:Sto}{K:AV->List (Nat×Option Obj)->Key->Prop}{vs:List AV}{r:AV}(hf:FnEq P f vs r)(a:fD=vs.map some)(hr:r.lb 0=true)(h:K r [] Zp):mJ P dr f nx i fD σ K:=Ko hf a (λ_=>⟨r,hr,rfl⟩) (λq _ e=>by rw[e];exact h)
theorem ag9 {P:Program}{rs:List ResultVar}{env:Env}{σ:Sto}{r:AV}(fl:List (Nat×Option (List CT)))(hb:KH (fl.map (·.1))=true)(h0:r.lb 0=true)(hf:vF σ fl)(hE:rT P env σ rs λv=>wk (sH σ fl) v r):mr P 0 rs (λv g=>g=[]/\v.lb 0=true/\v=r) env σ:=aaB r fl hb h0 rfl hf hE
section
variable {P : Program} {env : Env} {σ : Sto} {K : AV -> Prop}
def rA (P:Program)(env:Env)(σ:Sto):List ResultVar->List AV->(AV->Prop)->Prop
 | [],acc,K=>K (Gx acc)
 |
  .tmp t::r,acc,K=>match env t with
  |some v=>rA P env σ r (acc++[v]) K
  |none=>False
 |
  .cell a t::r,acc,K=>match lay P t,env a with
  |
   some (g,k),some (.ptr l off)=>match σ l with
   |
    some (.box cs)=>match zK g k cs off with
    |some v=>rA P env σ r (acc++[v]) K
    |none=>False
   |_=>False
  |_,_=>False
theorem aaC:∀(rs:List ResultVar) (acc:List AV),rA P env σ rs acc K->∃vs,BU P env σ rs=some vs/\K (Gx (acc++vs))
 | [],acc,h=>⟨[],rfl,by simp only[rA] at h;simpa using h⟩
 |
  .tmp t::r,acc,h=>by
  simp only[rA] at h
  cases he:env t with
  |none=>rw [he] at h;exact h.elim
  |
   some v=>
   rw[he] at h
   obtain⟨vs,h1,h2⟩:=aaC r _ h
   exact⟨v::vs,by simp[BU,he,h1],by simpa using h2⟩
 |
  .cell a t::r,acc,h=>by
  simp only[rA] at h
  cases hl:lay P t with
  |none=>rw [hl] at h;exact h.elim
  |
   some q=>
   obtain⟨g,k⟩:=q
   rw[hl] at h
   cases he:env a with
   |none=>rw [he] at h;exact h.elim
   |
    some p=>
    rw[he] at h
    cases p with
    |
     ptr l off=>
     dsimp only at h
     cases hs:σ l with
     |none=>rw [hs] at h;exact h.elim
     |
      some o=>
      rw[hs] at h
      cases o with
      |
       box cs=>
       dsimp only at h
       cases hd:zK g k cs off with
       |none=>rw [hd] at h;exact h.elim
       |
        some v=>
        rw[hd] at h
        obtain⟨vs,h1,h2⟩:=aaC r _ h
        exact⟨v::vs,by simp[BU,hl,he,hs,hd,h1],by simpa using h2⟩
      |row e k els=>exact h.elim
    |_=>exact h.elim
theorem OZ {rs:List ResultVar}(h:rA P env σ rs [] K):rT P env σ rs K:=by obtain⟨vs,h1,h2⟩:=aaC rs [] h;simp only[rT,h1];simpa using h2
end
def F7 (x:Option AV)(T E:Prop):Prop:=
 match x with
 |some (.pv (.sc (.bool b)))=>(b=true->T)/\(b=false->E)
 |_=>False
theorem aha {M:Mc}{k:List It}{env:Env}{σ:Sto}{nx:Nat}{c:Operand}{t e:Code}(h:F7 (ev env c) (sr M (.code t::k) env σ nx) (sr M (.code e::k) env σ nx)):sr M (.code (.cond c t e)::k) env σ nx:=by unfold F7 at h;split at h;rename_i b hb;exact adf hb h.1 h.2;exact h.elim
@[go_sem] theorem an0 {p:Prop} [Decidable p] {T E:Prop} :F7 (some (.pv (.sc (.bool (decide p))))) T E=((p->T)/\(¬p->E)):=by simp[F7]
@[go_sem] theorem an1 {a b:Int}{T E:Prop} :F7 (some (.pv (.sc (.bool (a==b))))) T E=((a=b->T)/\(a≠b->E)):=by simp[F7]
@[go_sem] theorem an2 {a b:Int}{T E:Prop} :F7 (some (.pv (.sc (.bool (a !=b))))) T E=((a≠b->T)/\(a=b->E)):=by simp[F7]
theorem zM {a b:ByteArray} :(a.toList==b.toList)=decide (a=b):=by
 rw[Bool.eq_iff_iff];simp only[eG,gX];refine⟨λh=>?_,λh=>by rw[h]⟩;rw[ByteArray.toList_eq,ByteArray.toList_eq] at h
 cases a
 cases b
 congr 1;exact Array.toList_inj.1 h
@[go_sem] theorem an3 {a b:ByteArray}{T E:Prop} :F7 (some (.pv (.sc (.bool (a.toList==b.toList))))) T E=((a=b->T)/\(a≠b->E)):=by rw[zM];simp[F7]
@[go_sem] theorem an4 {b:Bool}{T E:Prop} :F7 (some (.pv (.sc (.bool (!b))))) T E=F7 (some (.pv (.sc (.bool b)))) E T:=by cases b<;>simp[F7]
theorem gQ {b:Bool}{T E:Prop} :F7 (some (.pv (.sc (.bool b)))) T E=((b=true->T)/\(b=false->E)):=rfl
@[go_sem] theorem arn {T E:Prop} :F7 (some (.pv (.sc (.bool true)))) T E=T:=by simp[F7]
@[go_sem] theorem aro {T E:Prop} :F7 (some (.pv (.sc (.bool false)))) T E=E:=by simp[F7]
@[congr] theorem aiN {x y:Option AV}{T E:Prop}(h:x=y):F7 x T E=F7 y T E:=by rw[h]
@[congr] theorem alJ {M:Mc}{k:List It}{env a:Env}{σ σ':Sto}{nx q:Nat}(h:env=a)(h2:σ=σ')(h3:nx=q):sr M k env σ nx=sr M k a σ' q:=by rw[h,h2,h3]
@[congr] theorem alK {P:Program}{ops:Array Oper}{nx q:Nat}{dr:Bool}{U:List (Nat×Nat)}{K:Env->Sto->Nat->Prop}{log:List (Nat×Key)}{l:List Oper}{i i':Nat}{env a:Env}{σ σ':Sto}(h1:nx=q)(h4:i=i')(h5:env=a)(y:σ=σ'):vS P ops nx dr U K log l i env σ=vS P ops q dr U K log l i' a σ':=by rw[h1,h4,h5,y]
def aaD (l:Nat)(ls:List Nat):Bool:=ls.any λx=>x==l
theorem KZ {l:Nat}{ls:List Nat}(h:aaD l ls=false):l∉ls:=by intro hm;simp only[aaD,JZ,eG] at h;exact h l hm rfl
def La (fr:Nat)(a b:Key):Bool:=
 a.wr.all (λl=>!aaD l b.rd && !aaD l b.wr) && b.wr.all (λl=>!aaD l a.rd) &&(!a.mks || (b.rd.all (λl=>!YV fr l) && b.wr.all (λl=>!YV fr l))) &&(!b.isC || a.det)
theorem Tm {fr:Nat}{a b:Key}(h:La fr a b=true):qW fr a b:=by
 simp only[La,dH,nO,Et,wO] at h;obtain⟨⟨⟨h1,h2⟩,h3⟩,h4⟩:=h;refine⟨λl q=>⟨KZ (h1 l q).1,KZ (h1 l q).2⟩,λl q=>KZ (h2 l q),λhm l q=>?_,h4⟩;rcases h3 with h3|h3;rw[hm] at h3;cases h3
 rcases ja.1 q with q|q;exact h3.1 l q;exact h3.2 l q
def arp (nx:Nat)(U:List (Nat×Nat))(i:Nat)(key:Key)(log:List (Nat×Key)):Bool:=log.all λe=>!(U.any λp=>p.1==e.1 && p.2==i) || La (nx+8*e.1) e.2 key
theorem Lc {nx:Nat}{U:List (Nat×Nat)}{i:Nat}{key:Key}{log:List (Nat×Key)}(h:arp nx U i key log=true):GG nx U i key log:=λe he a=>by
 have:=(nO.1 h) e he
 simp only[wO,Et,JZ] at this
 rcases this with h1|h1
 . exact absurd (by simp) (h1 _ a)
 . exact Tm h1
section
variable {P : Program} {ops : Array Oper} {nx i i' : Nat} {dr : Bool} {U : List (Nat × Nat)} {K : Env -> Sto -> Nat -> Prop} {log : List (Nat × Key)} {l : List Oper} {env : Env} {σ : Sto} {d dg : Option Nat} {o : Oper} {want : Bool}
@[congr] theorem alL {x y:Option DO}(h:x=y):vD P ops nx dr U K log d l i env σ x=vD P ops nx dr U K log d l i env σ y:=by rw[h]
@[congr] theorem aiO {x y:Option AV}{a:Option Nat}(h:x=y)(h2:dg=a):Kr P ops nx dr U K log o l i env σ want dg x=Kr P ops nx dr U K log o l i env σ want a y:=by rw[h,h2]
end
theorem aaE {P:Program}{ops:Array Oper}{nx i:Nat}{dr:Bool}{U:List (Nat×Nat)}{K:Env->Sto->Nat->Prop}{log:List (Nat×Key)}{l:List Oper}{env:Env}{σ:Sto}{o:Oper}{want:Bool}{dg:Option Nat}{b:Bool}(h:F7 (some (.pv (.sc (.bool b)))) (Kr P ops nx dr U K log o l i env σ want dg (some (.pv (.sc (.bool true))))) (Kr P ops nx dr U K log o l i env σ want dg (some (.pv (.sc (.bool false)))))):Kr P ops nx dr U K log o l i env σ want dg (some (.pv (.sc (.bool b)))):=acz h.1 h.2
theorem ahb {P:Program}{us:Nat->List (Nat×Nat)}{nt n0:Nat}{R:Env->Sto->Prop}{hm:P.follows .mixedOrders=true}{k:List It}{env:Env}{σ:Sto}{nx id:Nat}{l:List Oper}{d:Bool}(h:vS P l.toArray nx d (if d=true then us id else []) (sr ⟨P,us,nt,n0,R,hm⟩ k) [] l 0 env σ):sr ⟨P,us,nt,n0,R,hm⟩ (.code (.region id l.toArray d)::k) env σ nx:=Xa h
@[go_sem] theorem alM {a n:Nat} :(a:Int).tmod (n:Int)=((a%n:Nat):Int):=rfl
attribute [go_sem] List.map_append List.length_append List.forall_mem_cons Int.toNat_natCast List.not_mem_nil not_false_eq_true zT List.zipIdx_cons List.zipIdx_nil List.length_map decide_true decide_false Bool.and_true Bool.true_and List.toList_toArray List.getElem?_toArray List.getElem?_cons_zero List.getElem?_cons_succ List.map_cons List.map_nil Option.map_some Option.map_none Option.bind_some Option.bind_none Option.isSome_some and_true true_and List.length_singleton List.all_cons List.all_nil List.take_zero List.drop_zero List.take_succ_cons List.drop_succ_cons List.take_nil List.drop_nil and_self Nat.zero_add rA List.nil_append List.cons_append List.length_nil List.length_cons
end AM
namespace AM
open Go Go.Proofs Go.RowKit
theorem dI {M:Mc}{k:List It}{env:Env}{σ:Sto}{nx:Nat}(l j e L:Nat){cs:List AV}(h1:σ l=some (.box cs))(h2:cs[j]?=some .emp)(h:sr M k env ((σ.upd l (some (.box (cs.set j (.own nx 0))))).upd nx (some (.row e L []))) (nx+1)):sr M k env σ nx:=by
 unfold sr at h|-;intro hc fr Ψ loc a w hn hr hf;obtain⟨b,c,arr,ty,N,R,U,O⟩:=hr.ok.ob l _ h1;obtain⟨x,r1,V,X⟩:=O j _ h2;have y:nx≠l:=λe=>by rw[<-e,(hf nx (ak _)).2] at h1;cases h1
 cases X with
 |
  @emp A=>
  have hle:Loc.le loc (loc.upd nx (A,0)):=Loc.le_upd (hf nx (ak _)).1;have D:Ok fr Ψ (loc.upd nx (A,0)) σ w:=hr.ok.locs hle (λr o ho=>Loc.upd_ne (λe=>by rw[e,(hf nx (ak _)).2] at ho;cases ho));have E:blk (loc.upd nx (A,0)) l=some b:=(by unfold blk;rw[Loc.upd_ne (xC y),N]);have B:=D.free h1 E;have q:Ok fr Ψ (loc.upd nx (A,0)) ((σ.upd l none).upd l (some (.box (cs.set j (.own nx 0))))) w:=by
   refine (D.drop l).claim (by simp[Sto.upd]) ⟨b,c,arr,ty,by rw[Loc.upd_ne (xC y),N],R,by simp[U],λi v u=>?_⟩ (λY d=>by rw[E] at d;injection d with d;rw[<-d];exact B);rw[SI] at u;split at u
   . rename_i G;split at u;injection u with u;subst G u;exact⟨_,r1,V,.own Loc.upd_eq (ak _)⟩
     cases u
   obtain⟨x,s1,s2,s3⟩:=O i v u;exact⟨x,s1,s2,s3.mono (.refl _) hle⟩
  have he:((σ.upd l none).upd l (some (.box (cs.set j (.own nx 0)))))=σ.upd l (some (.box (cs.set j (.own nx 0)))):=(by funext r;unfold Sto.upd;split<;>rfl);rw[he] at q;have H:=q.claim (l:=nx) (o:= .row e L []) (by unfold Sto.upd;rw[if_neg y];exact (hf nx (ak _)).2) ⟨A,0,Loc.upd_eq,.inl ⟨rfl,rfl⟩⟩ (λY d=>by simp[blk,Loc.upd_eq] at d);refine h hc fr Ψ _ a w hn ⟨⟨λt v Z=>?_⟩,H,hr.sz,hr.df⟩ (λr I=>⟨?_,?_⟩);obtain⟨x,s1,s2⟩:=hr.env.rep t v Z;exact⟨x,s1,s2.mono (.refl _) hle⟩;rw[Loc.upd_ne (by omega)];exact (hf r (by omega)).1
  . unfold Sto.upd;rw[if_neg (by omega)];split;rename_i J;exfalso;rw[J] at I;have:=(hf l (by omega)).2;rw[h1] at this;cases this
    exact (hf r (by omega)).2
theorem kZ {M:Mc}{k:List It}{env:Env}{σ:Sto}{nx:Nat}(t e E:Nat)(h2:env t=some .emp)(h:sr M k (env.put (some t) (.own nx 0)) (σ.upd nx (some (.row e E []))) (nx+1)):sr M k env σ nx:=by
 unfold sr at h|-;intro hc fr Ψ loc a w hn hr hf;obtain⟨x,r1,G⟩:=hr.env.rep t _ h2;have d:=hf nx (ak _)
 cases G with
 |
  @emp A=>
  have hle:Loc.le loc (loc.upd nx (A,0)):=Loc.le_upd d.1;have u:Ok fr Ψ (loc.upd nx (A,0)) σ w:=hr.ok.locs hle (λr o ho=>Loc.upd_ne (λe=>by rw[e,d.2] at ho;cases ho));have y:=u.claim (l:=nx) (o:= .row e E []) d.2 ⟨A,0,Loc.upd_eq,.inl ⟨rfl,rfl⟩⟩ (λJ B=>by simp[blk,Loc.upd_eq] at B);refine h hc fr Ψ _ a w hn ⟨⟨λH v q=>?_⟩,y,hr.sz,hr.df⟩ (λr I=>⟨?_,?_⟩);simp only[Env.put] at q;split at q;rename_i D;injection q with q;subst D q;exact⟨_,r1,.own Loc.upd_eq (ak _)⟩;obtain⟨x,s1,s2⟩:=hr.env.rep H v q;exact⟨x,s1,s2.mono (.refl _) hle⟩;rw[Loc.upd_ne (by omega)];exact (hf r (by omega)).1;unfold Sto.upd;rw[if_neg (by omega)];exact (hf r (by omega)).2
theorem jc {M:Mc}{k:List It}{env:Env}{σ:Sto}{nx:Nat}{c:Code}{T:Type}(E:T->List (Nat×AV))(S:T->List (Option Obj))(f:T->Prop)(h1:sr M (.code c :: .mark (λenv σ=>∃t,f t/\View M.n0 env σ (E t) (S t))::k) env σ nx)(h2:∀t,f t->sr M k (jR (E t)) (pX (S t)) (S t).length):sr M (.code c::k) env σ nx:=by
 unfold sr at h1 h2|-;intro hc fr Ψ loc a w hn hr hf;obtain⟨c1,c2⟩:=jS hc;have:=h1 (by simp only[uC,dH];exact⟨c1,c2⟩) fr Ψ loc a w hn hr hf;refine xH this (λe a w q=>?_)
 cases e with
 |
  normal=>
  obtain⟨env,σ,nx,Ψ,loc,u,G,t,y,B⟩:=q;obtain⟨Ψ',d,r1,D⟩:=yK u hn B;exact h2 t y c2 fr Ψ' d a w hn r1 D
 |_=>exact q
def cO (σ:Sto)(ρ:Nat->Nat):List Nat->List Obj->Prop
 |l::ls,o::os=>σ l=some (o.ren ρ)/\cO σ ρ ls os
 |_,_=>True
theorem ZZ {σ:Sto}{ρ:Nat->Nat} :∀ {ls:List Nat}{os:List Obj},cO σ ρ ls os->ls.length=os.length->∀k o,os[k]?=some o->σ (ls.getD k 0)=some (o.ren ρ)
 | [],[],_,_,k,o,h=>by simp at h
 |l::ls,o::os,h,hl,0,o',a=>by simp at a;subst a;simpa using h.1
 |l::ls,o::os,h,hl,k+1,o',a=>by simpa using ZZ h.2 (by simpa using hl) k o' (by simpa using a)
def cB (nx i:Nat)(ls:List Nat)(n:Nat):Bool:=ls.length==n && KH ls && ls.all (λl=>!own nx i l)
theorem UU {P:Program}{a:Bool}{f:FuncId}{nx i:Nat}{fD:List (Option AV)}{σ:Sto}{K:AV->List (Nat×Option Obj)->Key->Prop}{vs:List AV}{pre:List Obj}{post:AV->List (Option Obj)->Prop}(hc:ACall P f vs pre post)(ls:List Nat)(hg:isGo P f=true)(hb:cB nx i ls pre.length=true)(d:fD=(AV.renL (rho ls (nx+8*i)) vs).map some)(ha:AV.lbL pre.length vs=true)(u:pre.all (Obj.lb pre.length)=true)(ho:cO σ (rho ls (nx+8*i)) ls pre)(hi:a=true->∃r g,post r g/\pre.length<=g.length/\g.length<=pre.length+8)
 (h:∀r g,post r g->K (r.ren (rho ls (nx+8*i))) (renG (rho ls (nx+8*i)) g) ⟨[],ls,false,true,true⟩):mJ P a f nx i fD σ K:=by simp only[cB,dH,eG] at hb;exact⟨vs,pre,post,ls,hg,hc,d,ha,u,hb.1.1,KI hb.1.2,hb.2,λk o hk=>ZZ ho hb.1.1 k o hk,hi,λr g q _ _=>h r g q⟩
def fz1 (c:Option (List CT))(o:Option Obj):Option PV:=
 match c,o with
 |none,some (.row _ _ els)=>some (.sl els)
 |some cts,some (.row _ _ els)=>some (.tr cts els.length)
 |_,_=>none
@[go_sem] theorem apO {e k:Nat}{els:List (List PV)} :fz1 none (some (.row e k els))=some (.sl els):=rfl
@[go_sem] theorem apP {e k:Nat}{cts:List CT}{els:List (List PV)} :fz1 (some cts) (some (.row e k els))=some (.tr cts els.length):=rfl
@[go_sem] theorem akO {σ:Sto}{a r:Nat}{c:Option (List CT)}{fl:List (Nat×Option (List CT))} :sH σ ((a,c)::fl) r=if a=r then fz1 c (σ r) else sH σ fl r:=by
 unfold sH;by_cases h:a=r
 . subst h;simp only[SK,beq_self_eq_true,qM]
   cases c<;>cases hσ:σ a with
   |none=>rfl
   |some o=>cases o<;>rfl
 have hb:(a==r)=false:=(by simpa using h);simp only[SK,hb,if_neg h]
@[go_sem] theorem akP {els:List (List PV)}{n:Nat} :rY (.sl els) n=(els.length=n):=rfl
@[go_sem] theorem akQ {cts:List CT}{m n:Nat} :rY (.tr cts m) n=(m=n):=rfl
def fzK (o:Option Obj):Prop:=match o with
 |some (.row ..)=>True
 |_=>False
@[go_sem] theorem anq {e k:Nat}{els:List (List PV)} :fzK (some (.row e k els))=True:=rfl
@[go_sem] theorem aiy {σ:Sto}{r:Nat} :yL σ (r,none)=fzK (σ r):=by
 simp only[yL,fzK]
 cases σ r with
 |none=>rfl
 |some o=>cases o<;>rfl
@[go_sem] theorem akR {a b:Nat}{l:List Nat} :(a∈b::l)=(a=b\/a∈l):=by simp
attribute [go_sem] or_self or_false false_or
section
variable {σ : Sto} {ρ : Nat -> Nat} {l : Nat} {ls : List Nat} {o : Obj} {os : List Obj} {lab k : Nat}
@[go_sem] theorem anr:cO σ ρ (l::ls) (o::os)=(σ l=some (o.ren ρ)/\cO σ ρ ls os):=rfl
@[go_sem] theorem apR:cO σ ρ [] os=True:=by cases os<;>rfl
@[go_sem] theorem ant:rho ls lab k=if k<ls.length then ls.getD k 0 else lab+(k-ls.length):=rfl
@[go_sem] theorem aiz {r:List Nat} :(l::r).getD 0 0=l:=rfl
@[go_sem] theorem aiA {r:List Nat} :(l::r).getD (k+1) 0=r.getD k 0:=rfl
@[go_sem] theorem anu {g:List (Option Obj)} :renG ρ g=g.zipIdx.map λp=>(ρ p.2,p.1.map (Obj.ren ρ)):=rfl
end
@[go_sem] theorem acK {n:Nat} :∀ {l:List PV},AV.lbL n (l.map .pv)=true
 | []=>rfl
 |p::l=>by simp only[kD,AV.lbL,AV.lb,xh];exact acK
@[go_sem] theorem Z4 {ρ:Nat->Nat} :∀ {l:List PV},AV.renL ρ (l.map .pv)=l.map .pv
 | []=>rfl
 |p::l=>by simp only[kD,AV.renL,AV.ren];rw[Z4]
@[go_sem] theorem Wv:∀ {l:List PV},(l.map AV.pv).all iD=true
 | []=>rfl
 |p::l=>by simp only[kD,List.all_cons];rw[Wv];rfl
@[go_sem] theorem Z5:∀ {l:List PV},xe (l.map AV.pv)=some l
 | []=>rfl
 |p::l=>by simp only[kD,xe,toP];rw[Z5]
@[reducible] def rw_ (r:List PV):AV:= .agg (r.map .pv)
attribute [go_sem] true_or or_true
theorem jJ {α:Type}(l:List α)(f:α->List PV){els:List (List PV)}{j k:Nat}{F:List PV->Prop}(a:j<l.length)(hF:∀x∈l,F (f x))(he:els=l.map f:=by rfl)(hk:∀x,(f x).length=k:=by first|exactλ_=>rfl|exactλx=>by simp only[go_sem]):OD els (j:Int) k F:=by rw[he];exact aJ (x:=l[j]) (by omega) (by simp[a]) (hk _) (hF _ (eu a))
