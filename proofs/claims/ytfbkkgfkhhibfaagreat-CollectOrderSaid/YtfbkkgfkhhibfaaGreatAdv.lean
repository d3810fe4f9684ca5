/- Words. -/
import Derived.Test.YtfbkkgfkhhibfaaGreatAdn
set_option linter.unusedVariables false
set_option linter.unusedSimpArgs false
namespace AM
open Go Go.RowKit
inductive It where
 | code (c:Code)
 | blk (id:Nat)
 | mark (G:Env→Sto→Prop)
structure Mc where
 P:Program
 us:Nat→List (Nat×Nat)
 nt:Nat
 n0:Nat
 R:Env→Sto→Prop
 hm:P.follows .mixedOrders=true
def AtK (fr:Fr)(nt:Nat)(G:Env→Sto→Prop)(a:Act)(w:World):Prop:=
 ∃env σ nx Ψ loc,Rel fr Ψ loc nt env σ a w∧(∀l,nx≤l→loc l=none∧σ l=none)∧G env σ
def Ct (M:Mc)(fr:Fr):List It→Exit→Act→World→Prop
 | [],.normal,a,w=>AtK fr M.nt M.R a w
 | [],.ret,a,w=>AtK fr M.nt M.R a w
 | [],_,_,_=>False
 | .code c :: k,.normal,a,w=>c.wp M.P (Ct M fr k) a w
 | .code _ :: k,e,a,w=>Ct M fr k e a w
 | .blk id :: k,.exit i,a,w=>if i=id then Ct M fr k .normal a w else Ct M fr k (.exit i) a w
 | .blk _ :: k,e,a,w=>Ct M fr k e a w
 | .mark G :: _,.normal,a,w=>AtK fr M.nt G a w
 | .mark _ :: k,e,a,w=>Ct M fr k e a w
def oV (M:Mc):List It→Bool
 | []=>true
 | .code c :: k=>nz M.nt M.us c && oV M k
 | _ :: k=>oV M k
def sr (M:Mc)(k:List It)(env:Env)(σ:Sto)(nx:Nat):Prop:=
 oV M k=true→∀(fr:Fr) (Ψ:Psi) (loc:Loc) (a:Act) (w:World),fr.n0=M.n0→Rel fr Ψ loc M.nt env σ a w→(∀l,nx≤l→loc l=none∧σ l=none)→Ct M fr k .normal a w
def sx (M:Mc)(id:Nat)(k:List It)(env:Env)(σ:Sto)(nx:Nat):Prop:=
 oV M k=true→∀(fr:Fr) (Ψ:Psi) (loc:Loc) (a:Act) (w:World),fr.n0=M.n0→Rel fr Ψ loc M.nt env σ a w→(∀l,nx≤l→loc l=none∧σ l=none)→Ct M fr k (.exit id) a w
section
variable {M : Mc} {k : List It} {env : Env} {σ : Sto} {nx : Nat}
theorem abN (h:M.R env σ):sr M [] env σ nx:=fun _ fr Ψ loc a w hn hr hf=>⟨env,σ,nx,Ψ,loc,hr,hf,h⟩
theorem ai {G:Env→Sto→Prop}(h:G env σ):sr M (.mark G :: k) env σ nx:=fun _ fr Ψ loc a w hn hr hf=>⟨env,σ,nx,Ψ,loc,hr,hf,h⟩
theorem LX {id:Nat}(h:sr M k env σ nx):sr M (.blk id :: k) env σ nx:=fun hc fr Ψ loc a w hn hr hf=>h hc fr Ψ loc a w hn hr hf
theorem iG {c:Code}(h:oV M (.code c :: k)=true):nz M.nt M.us c=true∧oV M k=true:=by simpa [oV] using h
theorem XH (h:sr M k env σ nx):sr M (.code .skip :: k) env σ nx:=fun hc fr Ψ loc a w hn hr hf=>wp_skip (h (iG hc).2 fr Ψ loc a w hn hr hf)
theorem aby {a b:Code}(h:sr M (.code a :: .code b :: k) env σ nx):sr M (.code (.seq a b) :: k) env σ nx:=fun hc fr Ψ loc ac w hn hr hf=>by
 obtain⟨h1,h2⟩:=iG hc
 simp only[nz,Bool.and_eq_true] at h1
 have:=h (by simp[oV,h1,h2]) fr Ψ loc ac w hn hr hf
 refine wp_seq (wp_mono this (fun e a w hq=>?_))
 cases e <;> exact hq
theorem UL {id:Nat}{b:Code}(h:sr M (.code b :: .blk id :: k) env σ nx):sr M (.code (.block id b) :: k) env σ nx:=fun hc fr Ψ loc ac w hn hr hf=>by
 obtain⟨h1,h2⟩:=iG hc
 have:=h (by simp only[oV,Bool.and_eq_true];exact⟨by simpa [nz] using h1,h2⟩) fr Ψ loc ac w hn hr hf
 refine wp_block (wp_mono this (fun e a w hq=>?_))
 cases e <;> exact hq
theorem XG {id:Nat}(h:sx M id k env σ nx):sr M (.code (.exit id) :: k) env σ nx:=fun hc fr Ψ loc ac w hn hr hf=>wp_exit (h (iG hc).2 fr Ψ loc ac w hn hr hf)
theorem EN {id:Nat}{c:Code}(h:sx M id k env σ nx):sx M id (.code c :: k) env σ nx:=fun hc fr Ψ loc ac w hn hr hf=>h (iG hc).2 fr Ψ loc ac w hn hr hf
theorem EP {id:Nat}{G:Env→Sto→Prop}(h:sx M id k env σ nx):sx M id (.mark G :: k) env σ nx:=fun hc fr Ψ loc ac w hn hr hf=>h hc fr Ψ loc ac w hn hr hf
theorem LW {id:Nat}(h:sr M k env σ nx):sx M id (.blk id :: k) env σ nx:=fun hc fr Ψ loc ac w hn hr hf=>by
 show (if id=id then _ else _)
 rw[if_pos rfl]
 exact h hc fr Ψ loc ac w hn hr hf
theorem EO {id j:Nat}(hne:(id==j)=false)(h:sx M id k env σ nx):sx M id (.blk j :: k) env σ nx:=fun hc fr Ψ loc ac w hn hr hf=>by
 show (if id=j then _ else _)
 rw[if_neg (by simpa using hne)]
 exact h hc fr Ψ loc ac w hn hr hf
theorem Fq {fr:Fr}{a:Act}{w:World}(h:AtK fr M.nt M.R a w):∀k,Ct M fr k .ret a w
 | []=>h
 | .code _ :: k=>Fq h k
 | .blk _ :: k=>Fq h k
 | .mark _ :: k=>Fq h k
theorem abz (h:M.R env σ):sr M (.code .ret :: k) env σ nx:=fun hc fr Ψ loc ac w hn hr hf=>wp_ret (Fq ⟨env,σ,nx,Ψ,loc,hr,hf,h⟩ k)
theorem XA {c:Operand}{t e:Code}{b:Bool}(hb:ev env c=some (.pv (.sc (.bool b))))(ht:b=true→sr M (.code t :: k) env σ nx)(he:b=false→sr M (.code e :: k) env σ nx):sr M (.code (.cond c t e) :: k) env σ nx:=fun hc fr Ψ loc ac w hn hr hf=>by
 obtain⟨h1,h2⟩:=iG hc
 simp only[nz,Bool.and_eq_true] at h1
 obtain⟨hx,_⟩:=dS (hr.env.ev c _ hb)
 refine wp_cond_split hx (fun hb'=>?_) (fun hb'=>?_)
 · exact ht hb' (by simp[oV,h1,h2]) fr Ψ loc ac w hn hr hf
 · exact he hb' (by simp[oV,h1,h2]) fr Ψ loc ac w hn hr hf
theorem X7 (E:List (Nat×AV))(S:List (Option Obj))(hv:View M.n0 env σ E S)(h:sr M k (iF E) (lQ S) S.length):sr M k env σ nx:=fun hc fr Ψ loc ac w hn hr hf=>by
 obtain⟨Ψ',loc',r1,r2⟩:=rX hr hn hv
 exact h hc fr Ψ' loc' ac w hn r1 r2
theorem XI {b:Code}{T:Type}(E:T→List (Nat×AV))(S:T→List (Option Obj))(f:T→Prop)(μ:T→Nat)(t0:T)(h0:f t0)(hv:View M.n0 env σ (E t0) (S t0))
 (h:∀t,f t→sr M (.code b :: .mark (fun env σ=>∃u,f u∧μ u < μ t∧View M.n0 env σ (E u) (S u)) :: k) (iF (E t)) (lQ (S t)) (S t).length):sr M (.code (.loop b) :: k) env σ nx:=fun hc fr Ψ loc ac w hn hr hf=>by
 obtain⟨c1,c2⟩:=iG hc
 obtain⟨Ψ',loc',r1,r2⟩:=rX hr hn hv
 let I:Nat→Act→World→Prop:=fun n a w=>∃t Ψ loc,μ t=n∧f t∧Rel fr Ψ loc M.nt (iF (E t)) (lQ (S t)) a w∧∀l,(S t).length≤l→loc l=none∧lQ (S t) l=none
 have key:∀n a w,I n a w→∀(b':Frame) (q:List Item) (cs:List Frame),∃e a' w',Ct M fr k e a' w'∧Arrives M.P (lone (b'.at a (.code b :: .inLoop b :: q)) cs w) b' q cs e a' w':=by
  intro n;induction n using Nat.strongRecOn with
  |
   _ n ih=>
   intro a w hI b' q cs;obtain⟨t,Ψ,loc,hμ,hf,hr,hfr⟩:=hI;have hw:b.wp M.P (Ct M fr (.mark (fun env σ=>∃u,f u∧μ u < μ t∧View M.n0 env σ (E u) (S u)) :: k)) a w:=h t hf (by simp only[oV,Bool.and_eq_true];exact⟨by simpa [nz] using c1,c2⟩) fr Ψ loc a w hn hr hfr;obtain⟨e,a₁,w₁,hq,harr⟩:=hw b' (.inLoop b :: q) cs
   cases e with
   |
    normal=>
    obtain⟨env,σ,nx,Ψ',loc',q1,q2,u,q3,q4,q5⟩:=hq;obtain⟨Ψ'',agr,s1,s2⟩:=rX q1 hn q5;obtain⟨e₂,a₂,w₂,hq₂,harr₂⟩:=ih (μ u) (hμ▸q4) a₁ w₁ ⟨u,Ψ'',agr,rfl,q3,s1,s2⟩ b' q cs;exact⟨e₂,a₂,w₂,hq₂,.of_steps (Steps.trans harr (.one step_inLoop)) harr₂⟩
   | exit id=>exact ⟨.exit id,a₁,w₁,hq,.pass (x:= .inLoop b) rfl (fun _ _=> .inl (by simp)) harr⟩
   | ret=>exact ⟨.ret,a₁,w₁,hq,.pass (x:= .inLoop b) rfl (fun _ _=> .inl (by simp)) harr⟩
   | goto l=>exact ⟨.goto l,a₁,w₁,hq,.pass (x:= .inLoop b) rfl (fun _ _=> .inl (by simp)) harr⟩
   | panic c=>exact ⟨.panic c,a₁,w₁,hq,.pass (x:= .inLoop b) rfl (fun _ _=> .inl (by simp)) harr⟩
   | outgrown=>exact ⟨.outgrown,a₁,w₁,hq,.pass (x:= .inLoop b) rfl (fun _ _=> .inl (by simp)) harr⟩
 intro b' q cs;obtain⟨e,a',w',hq,harr⟩:=key _ ac w ⟨t0,Ψ',loc',rfl,h0,r1,r2⟩ b' q cs;exact⟨e,a',w',hq,.of_steps (.one step_loop) harr⟩
end
def Pm (U:List (Nat×Nat))(i:Nat)(key:Key)(log:List (Nat×Key)):List (Nat×Key):=if U.any (fun p=>p.1==i)=true then log++ [(i,key)] else log
def Aq (nx:Nat)(U:List (Nat×Nat))(i:Nat)(key:Key)(log:List (Nat×Key)):Prop:=∀e∈log,(e.1,i)∈U→mZ (nx+8 * e.1) e.2 key
def vS (P:Program)(ops:Array Oper)(nx:Nat)(dr:Bool)(U:List (Nat×Nat))(K:Env→Sto→Nat→Prop):List (Nat×Key)→List Oper→Nat→Env→Sto→Prop
 | _,[],i,env,σ=>K env σ (nx+8 * i)
 | log,o :: l,i,env,σ=>vG ops o env (fun env=>vX P dr nx i o env σ (fun v G key=>Aq nx U i key log∧vS P ops nx dr U K (Pm U i key log) l (i+1) (env.put o.dst v) (σ.upds G))) (fun env=>vS P ops nx dr U K log l (i+1) (env.put o.dst (.tup [])) σ)
section
variable {P : Program} {ops : Array Oper} {nx : Nat} {U : List (Nat × Nat)} {K : Env → Sto → Nat → Prop}
theorem Ot {dr:Bool}{i:Nat}{o:Oper}{env:Env}{σ:Sto}{K K':AV→List (Nat×Option Obj)→Key→Prop}(h:vX P dr nx i o env σ K)(hk:∀v G k,K v G k→K' v G k):vX P dr nx i o env σ K':=by
 unfold vX at h⊢;split at h
 · obtain⟨as,pre,post,ls,h1,h2,h3,h4,h5,h6,h7,h8,h9,h10,h11⟩:=h;exact⟨as,pre,post,ls,h1,h2,h3,h4,h5,h6,h7,h8,h9,h10,fun r g q1 q2 q3=>hk _ _ _ (h11 r g q1 q2 q3)⟩
 · unfold aa5 at h⊢;split at h
   · exact h.elim
   · exact⟨h.1,fun v hv=>hk _ _ _ (h.2 v hv)⟩
theorem Ou {o:Oper}{env:Env}{X Y X' Y':Env→Prop}(h:vG ops o env X Y)(hx:∀e,X e→X' e)(hy:∀e,Y e→Y' e):vG ops o env X' Y':=by
 unfold vG at h⊢;split at h
 · exact hx _ h
 · rename_i g want hg
   split at h
   · exact h.elim
   · rename_i d hd
     split at h
     · rename_i b hb
       refine⟨fun e=>?_,fun e=>?_⟩
       · have:=h.1 e;split at this
         · rename_i hw;rw[if_pos hw];exact hx _ this
         · rename_i hw;rw[if_neg hw];exact hy _ this
       · have:=h.2 e;split at this
         · rename_i hw;rw[if_pos hw];exact hy _ this
         · rename_i hw;rw[if_neg hw];exact hx _ this
     · exact hy _ h
     · exact h.elim
theorem zu:∀(l:List Oper) (log:List (Nat×Key)) (i:Nat) (env:Env) (σ:Sto),vS P ops nx false U K log l i env σ→vL P ops nx K l i env σ
 | [],_,_,_,_,h=>h
 |
  o :: l,log,i,env,σ,h=>by
  unfold vS at h
  unfold vL
  exact Ou h (fun e he=>Ot he (fun v G k hk=>zu l _ _ _ _ hk.2)) (fun e he=>zu l _ _ _ _ he)
theorem zA:∀(l:List Oper) (log rQ:List (Nat×Key)) (i:Nat) (env:Env) (σ:Sto),(∀e∈rQ,(∃j,(e.1,j)∈U)→e∈log)→vS P ops nx true U K log l i env σ→vLD P ops nx U K rQ l i env σ
 | [],_,_,_,_,_,_,h=>h
 |
  o :: l,log,rQ,i,env,σ,hl,h=>by
  unfold vS at h
  unfold vLD
  refine Ou h (fun e he=>Ot he (fun v G k hk=>⟨fun x hx hu=>hk.1 x (hl x hx ⟨i,hu⟩) hu,zA l _ _ _ _ _ (fun x hx hu=>?_) hk.2⟩)) (fun e he=>zA l _ _ _ _ _ hl he)
  unfold Pm
  rcases List.mem_append.1 hx with hx | hx
  · have:=hl x hx hu
    split
    · exact List.mem_append_left _ this
    · exact this
  · simp only[List.mem_singleton] at hx
    subst hx
    obtain⟨j,hj⟩:=hu
    rw[if_pos (List.any_eq_true.2 ⟨(i,j),hj,by simp⟩)]
    simp
end
theorem P9 {M:Mc}{k:List It}{env:Env}{σ:Sto}{nx id:Nat}{ops:Array Oper}{d:Bool}(h:vS M.P ops nx d (if d=true then M.us id else []) (sr M k) [] ops.toList 0 env σ):sr M (.code (.region id ops d) :: k) env σ nx:=fun hc fr Ψ loc a w hn hr hf=>by
 obtain⟨h1,h2⟩:=iG hc
 have hvc:vc M.P M.us M.n0 (.region id ops d) (fun x env σ nx=>match x with | .normal=>sr M k env σ nx | _=>False) env σ nx:=by
  unfold vc
  cases d with
  | true=>exact zA _ _ _ _ _ _ (fun e he=>by cases he) h
  | false=>exact zu _ _ _ _ _ h
 refine wp_mono (PW M.hm h1 _ env σ nx fr Ψ loc a w hn hr hf hvc) (fun e a w hq=>?_)
 cases e with
 |
  normal=>
  obtain⟨env,σ,nx,Ψ,loc,q1,q2,q3⟩:=hq;exact q3 h2 fr Ψ loc a w hn q1 q2
 | exit id=>obtain ⟨env,σ,nx,Ψ,loc,q1,q2,q3⟩:=hq;exact q3.elim
 | ret=>obtain ⟨env,σ,nx,Ψ,loc,q1,q2,q3⟩:=hq;exact q3.elim
 | _=>exact hq.elim
theorem Ug {P:Program}{us:Nat→List (Nat×Nat)}{f:FuncId}{fn:Func}{body:Code}{args:List AV}{pre:List Obj}{post:AV→List (Option Obj)→Prop}(hm:P.follows .mixedOrders=true)(hf:P.funcs[f]?=some fn)(hb:fn.body=some body)(hargs:args.length≤fn.ntmps)(hc:nz fn.ntmps us body=true)
 (h:∀R:Env→Sto→Prop,(∀env σ,jL P pre.length fn.results.toList post env σ→R env σ)→sr ⟨P,us,fn.ntmps,pre.length,R,hm⟩ [.code body] (iF (um args)) (lQ (pre.map some)) pre.length):ACall P f args pre post:=by
 refine PY hf hb hargs (fun fr Ψ loc a w hn hr hfr=>?_);have hs:=h (fun env σ=>jL P pre.length fn.results.toList post env σ) (fun _ _ h=>h) (by simp[oV,hc]) fr Ψ loc a w hn hr hfr;refine wp_mono hs (fun e a w hq=>?_)
 cases e with
 | normal=>exact hq
 | ret=>exact hq
 | _=>exact hq.elim
attribute [irreducible] sr sx
