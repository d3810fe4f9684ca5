/- Words. -/
import Derived.Test.YtfbkkgfkhhibfaaGreatAdn
set_option linter.unusedVariables false
set_option linter.unusedSimpArgs false
namespace AM
open Go Go.RowKit
inductive It where
 |code (c:Code)
 |blk (id:Nat)
 |mark (G:Env->Sto->Prop)
structure Mc where
 P:Program
 us:Nat->List (Nat×Nat)
 nt:Nat
 n0:Nat
 R:Env->Sto->Prop
 hm:P.follows .mixedOrders=true
def AtK (fr:Fr)(nt:Nat)(G:Env->Sto->Prop)(a:Act)(w:World):Prop:=
 ∃env σ nx Ψ loc,Rel fr Ψ loc nt env σ a w/\(∀l,nx<=l->loc l=none/\σ l=none)/\G env σ
def Ct (M:Mc)(fr:Fr):List It->Exit->Act->World->Prop
 | [],.normal,a,w=>AtK fr M.nt M.R a w
 | [],.ret,a,w=>AtK fr M.nt M.R a w
 | [],_,_,_=>False
 | .code c::k,.normal,a,w=>c.wp M.P (Ct M fr k) a w
 | .code _::k,e,a,w=>Ct M fr k e a w
 | .blk id::k,.exit i,a,w=>if i=id then Ct M fr k .normal a w else Ct M fr k (.exit i) a w
 | .blk _::k,e,a,w=>Ct M fr k e a w
 | .mark G::_,.normal,a,w=>AtK fr M.nt G a w
 | .mark _::k,e,a,w=>Ct M fr k e a w
def lT (M:Mc):List It->Bool
 | []=>true
 | .code c::k=>nU M.nt M.us c && lT M k
 |_::k=>lT M k
def rep (b:Code)(k:List It):Nat->List It
 |0=> .mark (λ_ _=>False)::k
 |n+1=> .code b::rep b k n
def Wl (U:List (Nat×Nat))(i:Nat)(key:Key)(log:List (Nat×Key)):List (Nat×Key):=if U.any (λp=>p.1==i)=true then log++[(i,key)] else log
def D9 (nx:Nat)(U:List (Nat×Nat))(i:Nat)(key:Key)(log:List (Nat×Key)):Prop:=∀e∈log,(e.1,i)∈U->qU (nx+8*e.1) e.2 key
namespace O
def sr (M:Mc)(k:List It)(env:Env)(σ:Sto)(nx:Nat):Prop:=
 lT M k=true->∀(fr:Fr) (Ψ:Psi) (loc:Loc) (a:Act) (w:World),fr.n0=M.n0->Rel fr Ψ loc M.nt env σ a w->(∀l,nx<=l->loc l=none/\σ l=none)->Ct M fr k .normal a w
def sx (M:Mc)(id:Nat)(k:List It)(env:Env)(σ:Sto)(nx:Nat):Prop:=
 lT M k=true->∀(fr:Fr) (Ψ:Psi) (loc:Loc) (a:Act) (w:World),fr.n0=M.n0->Rel fr Ψ loc M.nt env σ a w->(∀l,nx<=l->loc l=none/\σ l=none)->Ct M fr k (.exit id) a w
section
variable {M : Mc} {k : List It} {env : Env} {σ : Sto} {nx : Nat}
theorem sr_nil (h:M.R env σ):sr M [] env σ nx:=λ_ fr Ψ loc a w hn hr hf=>⟨env,σ,nx,Ψ,loc,hr,hf,h⟩
theorem sr_mark {G:Env->Sto->Prop}(h:G env σ):sr M (.mark G::k) env σ nx:=λ_ fr Ψ loc a w hn hr hf=>⟨env,σ,nx,Ψ,loc,hr,hf,h⟩
theorem sr_blk {id:Nat}(h:sr M k env σ nx):sr M (.blk id::k) env σ nx:=λhc fr Ψ loc a w hn hr hf=>h hc fr Ψ loc a w hn hr hf
theorem chk_code {c:Code}(h:lT M (.code c::k)=true):nU M.nt M.us c=true/\lT M k=true:=by simpa [lT] using h
theorem sr_skip (h:sr M k env σ nx):sr M (.code .skip::k) env σ nx:=λhc fr Ψ loc a w hn hr hf=>wp_skip (h (chk_code hc).2 fr Ψ loc a w hn hr hf)
theorem sr_seq {a b:Code}(h:sr M (.code a :: .code b::k) env σ nx):sr M (.code (.seq a b)::k) env σ nx:=λhc fr Ψ loc d w hn hr hf=>by
 obtain⟨h1,h2⟩:=chk_code hc
 simp only[nU,cZ] at h1
 have:=h (by simp[lT,h1,h2]) fr Ψ loc d w hn hr hf
 refine wp_seq (qY this (λe a w u=>?_))
 cases e<;>exact u
theorem sr_block {id:Nat}{b:Code}(h:sr M (.code b :: .blk id::k) env σ nx):sr M (.code (.block id b)::k) env σ nx:=λhc fr Ψ loc d w hn hr hf=>by
 obtain⟨h1,h2⟩:=chk_code hc
 have:=h (by simp only[lT,cZ];exact⟨by simpa [nU] using h1,h2⟩) fr Ψ loc d w hn hr hf
 refine wp_block (qY this (λe a w u=>?_))
 cases e<;>exact u
theorem sr_exit {id:Nat}(h:sx M id k env σ nx):sr M (.code (.exit id)::k) env σ nx:=λhc fr Ψ loc a w hn hr hf=>wp_exit (h (chk_code hc).2 fr Ψ loc a w hn hr hf)
theorem sx_code {id:Nat}{c:Code}(h:sx M id k env σ nx):sx M id (.code c::k) env σ nx:=λhc fr Ψ loc a w hn hr hf=>h (chk_code hc).2 fr Ψ loc a w hn hr hf
theorem sx_mark {id:Nat}{G:Env->Sto->Prop}(h:sx M id k env σ nx):sx M id (.mark G::k) env σ nx:=λhc fr Ψ loc a w hn hr hf=>h hc fr Ψ loc a w hn hr hf
theorem sx_hit {id:Nat}(h:sr M k env σ nx):sx M id (.blk id::k) env σ nx:=λhc fr Ψ loc a w hn hr hf=>by
 show (if id=id then _ else _)
 rw[if_pos rfl]
 exact h hc fr Ψ loc a w hn hr hf
theorem sx_miss {id j:Nat}(a:(id==j)=false)(h:sx M id k env σ nx):sx M id (.blk j::k) env σ nx:=λhc fr Ψ loc d w hn hr hf=>by
 show (if id=j then _ else _)
 rw[if_neg (by simpa using a)]
 exact h hc fr Ψ loc d w hn hr hf
theorem KQ {fr:Fr}{a:Act}{w:World}(h:AtK fr M.nt M.R a w):∀k,Ct M fr k .ret a w
 | []=>h
 | .code _::k=>KQ h k
 | .blk _::k=>KQ h k
 | .mark _::k=>KQ h k
theorem sr_ret (h:M.R env σ):sr M (.code .ret::k) env σ nx:=λhc fr Ψ loc a w hn hr hf=>wp_ret (KQ ⟨env,σ,nx,Ψ,loc,hr,hf,h⟩ k)
theorem sr_cond {c:Operand}{t e:Code}{b:Bool}(hb:ev env c=some (.pv (.sc (.bool b))))(u:b=true->sr M (.code t::k) env σ nx)(he:b=false->sr M (.code e::k) env σ nx):sr M (.code (.cond c t e)::k) env σ nx:=λhc fr Ψ loc d w hn hr hf=>by
 obtain⟨h1,h2⟩:=chk_code hc
 simp only[nU,cZ] at h1
 obtain⟨hx,_⟩:=dK (hr.env.ev c _ hb)
 refine wp_cond_split hx (λa=>?_) (λa=>?_)
 . exact u a (by simp[lT,h1,h2]) fr Ψ loc d w hn hr hf
 . exact he a (by simp[lT,h1,h2]) fr Ψ loc d w hn hr hf
theorem sr_view (E:List (Nat×AV))(S:List (Option Obj))(d:View M.n0 env σ E S)(h:sr M k (jh E) (oZ S) S.length):sr M k env σ nx:=λhc fr Ψ loc u w hn hr hf=>by
 obtain⟨Ψ',a,r1,y⟩:=YM hr hn d
 exact h hc fr Ψ' a u w hn r1 y
end
def vS (P:Program)(ops:Array Oper)(nx:Nat)(dr:Bool)(U:List (Nat×Nat))(K:Env->Sto->Nat->Prop):List (Nat×Key)->List Oper->Nat->Env->Sto->Prop
 |_,[],i,env,σ=>K env σ (nx+8*i)
 |log,o::l,i,env,σ=>vG ops o env (λenv=>YN P dr nx i o env σ (λv G key=>D9 nx U i key log/\vS P ops nx dr U K (Wl U i key log) l (i+1) (env.put o.dst v) (σ.upds G))) (λenv=>vS P ops nx dr U K log l (i+1) (env.put o.dst (.tup [])) σ)
section
variable {P : Program} {ops : Array Oper} {nx : Nat} {U : List (Nat × Nat)} {K : Env -> Sto -> Nat -> Prop}
theorem vXO_mono {dr:Bool}{i:Nat}{o:Oper}{env:Env}{σ:Sto}{K u:AV->List (Nat×Option Obj)->Key->Prop}(h:YN P dr nx i o env σ K)(hk:∀v G k,K v G k->u v G k):YN P dr nx i o env σ u:=by unfold YN at h|-;split at h;obtain⟨as,pre,post,ls,h1,h2,h3,h4,h5,y,A,B,D,a,d⟩:=h;exact⟨as,pre,post,ls,h1,h2,h3,h4,h5,y,A,B,D,a,λr g E H I=>hk _ _ _ (d r g E H I)⟩;unfold abJ at h|-;split at h;exact h.elim;exact⟨h.1,λv J=>hk _ _ _ (h.2 v J)⟩
theorem vG_mono {o:Oper}{env:Env}{X Y u y:Env->Prop}(h:vG ops o env X Y)(hx:∀e,X e->u e)(a:∀e,Y e->y e):vG ops o env u y:=by unfold vG at h|-;split at h;exact hx _ h;rename_i g want hg;split at h;exact h.elim;rename_i d A;split at h;rename_i b hb;refine⟨λe=>?_,λe=>?_⟩;have:=h.1 e;split at this;rename_i hw;rw[if_pos hw];exact hx _ this;rename_i hw;rw[if_neg hw];exact a _ this;have:=h.2 e;split at this;rename_i hw;rw[if_pos hw];exact a _ this;rename_i hw;rw[if_neg hw];exact hx _ this;exact a _ h;exact h.elim
theorem E8:∀(l:List Oper) (log:List (Nat×Key)) (i:Nat) (env:Env) (σ:Sto),vS P ops nx false U K log l i env σ->vL P ops nx K l i env σ
 | [],_,_,_,_,h=>h
 |
  o::l,log,i,env,σ,h=>by
  unfold vS at h
  unfold vL
  exact vG_mono h (λe he=>vXO_mono he (λv G k hk=>E8 l _ _ _ _ hk.2)) (λe he=>E8 l _ _ _ _ he)
theorem Fa:∀(l:List Oper) (log d:List (Nat×Key)) (i:Nat) (env:Env) (σ:Sto),(∀e∈d,(∃j,(e.1,j)∈U)->e∈log)->vS P ops nx true U K log l i env σ->vLD P ops nx U K d l i env σ
 | [],_,_,_,_,_,_,h=>h
 |
  o::l,log,d,i,env,σ,hl,h=>by
  unfold vS at h
  unfold vLD
  refine vG_mono h (λe he=>vXO_mono he (λv G k hk=>⟨λx hx a=>hk.1 x (hl x hx ⟨i,a⟩) a,Fa l _ _ _ _ _ (λx hx a=>?_) hk.2⟩)) (λe he=>Fa l _ _ _ _ _ hl he)
  unfold Wl
  rcases jM.1 hx with hx|hx
  . have:=hl x hx a
    split
    . exact DK _ this
    . exact this
  . simp only[lX] at hx
    subst hx
    obtain⟨j,u⟩:=a
    rw[if_pos (List.any_eq_true.2 ⟨(i,j),u,by simp⟩)]
    simp
end
theorem sr_region {M:Mc}{k:List It}{env:Env}{σ:Sto}{nx id:Nat}{ops:Array Oper}{d:Bool}(h:vS M.P ops nx d (if d=true then M.us id else []) (sr M k) [] ops.toList 0 env σ):sr M (.code (.region id ops d)::k) env σ nx:=λhc fr Ψ loc a w hn hr hf=>by
 obtain⟨h1,h2⟩:=chk_code hc
 have A:vc M.P M.us M.n0 (.region id ops d) (λx env σ nx=>match x with | .normal=>sr M k env σ nx|_=>False) env σ nx:=by
  unfold vc
  cases d with
  |true=>exact Fa _ _ _ _ _ _ (λe he=>by cases he) h
  |false=>exact E8 _ _ _ _ _ h
 refine qY (Vl M.hm h1 _ env σ nx fr Ψ loc a w hn hr hf A) (λe a w y=>?_)
 cases e with
 |
  normal=>
  obtain⟨env,σ,nx,Ψ,loc,B,D,u⟩:=y;exact u h2 fr Ψ loc a w hn B D
 |exit id=>obtain ⟨env,σ,nx,Ψ,loc,B,D,u⟩:=y;exact u.elim
 |ret=>obtain ⟨env,σ,nx,Ψ,loc,B,D,u⟩:=y;exact u.elim
 |_=>exact y.elim
theorem acall {P:Program}{us:Nat->List (Nat×Nat)}{f:FuncId}{fn:Func}{body:Code}{args:List AV}{pre:List Obj}{post:AV->List (Option Obj)->Prop}(hm:P.follows .mixedOrders=true)(hf:P.funcs[f]?=some fn)(hb:fn.body=some body)(d:args.length<=fn.ntmps)(hc:nU fn.ntmps us body=true)
 (h:∀R:Env->Sto->Prop,(∀env σ,jC P pre.length fn.results.toList post env σ->R env σ)->sr ⟨P,us,fn.ntmps,pre.length,R,hm⟩ [.code body] (jh (wL args)) (oZ (pre.map some)) pre.length):ACallO P f args pre post:=by
 refine Vo hf hb d (λfr Ψ loc a w hn hr u=>?_);have hs:=h (λenv σ=>jC P pre.length fn.results.toList post env σ) (λ_ _ h=>h) (by simp[lT,hc]) fr Ψ loc a w hn hr u;refine qY hs (λe a w y=>?_)
 cases e with
 |normal=>exact y
 |ret=>exact y
 |_=>exact y.elim
theorem sr_ghost {M:Mc}{k:List It}{env:Env}{σ:Sto}{nx:Nat}(l j e N:Nat){cs:List AV}(h1:σ l=some (.box cs))(h2:cs[j]?=some .emp)(h:sr M k env ((σ.upd l (some (.box (cs.set j (.own nx 0))))).upd nx (some (.row e N []))) (nx+1)):sr M k env σ nx:=by
 unfold sr at h|-;intro hc fr Ψ loc a w hn hr hf;obtain⟨b,c,arr,ty,V,Y,Z,X⟩:=hr.ok.ob l _ h1;obtain⟨x,r1,r2,r3⟩:=X j _ h2;have B:nx≠l:=λe=>by rw[<-e,(hf nx (ax _)).2] at h1;cases h1
 cases r3 with
 |
  @emp A=>
  have hle:Loc.le loc (loc.upd nx (A,0)):=Loc.le_upd (hf nx (ax _)).1;have E:Ok fr Ψ (loc.upd nx (A,0)) σ w:=hr.ok.locs hle (λr o ho=>Loc.upd_ne (λe=>by rw[e,(hf nx (ax _)).2] at ho;cases ho));have G:blk (loc.upd nx (A,0)) l=some b:=(by unfold blk;rw[Loc.upd_ne (wB B),V]);have D:=E.free h1 G;have u:Ok fr Ψ (loc.upd nx (A,0)) ((σ.upd l none).upd l (some (.box (cs.set j (.own nx 0))))) w:=by
   refine (E.drop l).claim (by simp[Sto.upd]) ⟨b,c,arr,ty,by rw[Loc.upd_ne (wB B),V],Y,by simp[Z],λi v y=>?_⟩ (λb' d=>by rw[G] at d;injection d with d;rw[<-d];exact D);rw[Jk] at y;split at y
   . rename_i H;split at y;injection y with y;subst H y;exact⟨_,r1,r2,.own Loc.upd_eq (ax _)⟩
     cases y
   obtain⟨x,s1,s2,s3⟩:=X i v y;exact⟨x,s1,s2,s3.mono (.refl _) hle⟩
  have he:((σ.upd l none).upd l (some (.box (cs.set j (.own nx 0)))))=σ.upd l (some (.box (cs.set j (.own nx 0)))):=(by funext r;unfold Sto.upd;split<;>rfl);rw[he] at u;have I:=u.claim (l:=nx) (o:= .row e N []) (by unfold Sto.upd;rw[if_neg B];exact (hf nx (ax _)).2) ⟨A,0,Loc.upd_eq,.inl ⟨rfl,rfl⟩⟩ (λb' d=>by simp[blk,Loc.upd_eq] at d);refine h hc fr Ψ _ a w hn ⟨⟨λt v ht=>?_⟩,I,hr.sz,hr.df⟩ (λr J=>⟨?_,?_⟩);obtain⟨x,s1,s2⟩:=hr.env.rep t v ht;exact⟨x,s1,s2.mono (.refl _) hle⟩;rw[Loc.upd_ne (by omega)];exact (hf r (by omega)).1
  . unfold Sto.upd;rw[if_neg (by omega)];split;rename_i L;exfalso;rw[L] at J;have:=(hf l (by omega)).2;rw[h1] at this;cases this
    exact (hf r (by omega)).2
theorem sr_ghostE {M:Mc}{k:List It}{env:Env}{σ:Sto}{nx:Nat}(t e G:Nat)(h2:env t=some .emp)(h:sr M k (env.put (some t) (.own nx 0)) (σ.upd nx (some (.row e G []))) (nx+1)):sr M k env σ nx:=by
 unfold sr at h|-;intro hc fr Ψ loc a w hn hr hf;obtain⟨x,r1,H⟩:=hr.env.rep t _ h2;have d:=hf nx (ax _)
 cases H with
 |
  @emp A=>
  have hle:Loc.le loc (loc.upd nx (A,0)):=Loc.le_upd d.1;have y:Ok fr Ψ (loc.upd nx (A,0)) σ w:=hr.ok.locs hle (λr o ho=>Loc.upd_ne (λe=>by rw[e,d.2] at ho;cases ho));have B:=y.claim (l:=nx) (o:= .row e G []) d.2 ⟨A,0,Loc.upd_eq,.inl ⟨rfl,rfl⟩⟩ (λL D=>by simp[blk,Loc.upd_eq] at D);refine h hc fr Ψ _ a w hn ⟨⟨λI v u=>?_⟩,B,hr.sz,hr.df⟩ (λr J=>⟨?_,?_⟩);simp only[Env.put] at u;split at u;rename_i E;injection u with u;subst E u;exact⟨_,r1,.own Loc.upd_eq (ax _)⟩;obtain⟨x,s1,s2⟩:=hr.env.rep I v u;exact⟨x,s1,s2.mono (.refl _) hle⟩;rw[Loc.upd_ne (by omega)];exact (hf r (by omega)).1;unfold Sto.upd;rw[if_neg (by omega)];exact (hf r (by omega)).2
theorem TZ {M:Mc}{fr:Fr}{b:Code}{k:List It}{e:Exit}{a:Act}{w:World}(he:e≠ .normal):∀n,Ct M fr (rep b k n) e a w->Ct M fr k e a w
 |0,h=>by cases e<;>first|exact absurd rfl he|exact h
 |n+1,h=>TZ he n (by cases e<;>first|exact absurd rfl he|exact h)
theorem Z8 {M:Mc}{fr:Fr}{b:Code}{k:List It} :∀(n:Nat) (a:Act) (w:World),Ct M fr (rep b k n) .normal a w->Code.rounds M.P b (Ct M fr k) n a w
 |0,a,w,h=>by obtain⟨_,_,_,_,_,_,_,h⟩:=h;exact h
 |n+1,a,w,h=>qY (show b.wp M.P (Ct M fr (rep b k n)) a w from h) (λe a w d=>by cases e<;>first|exact Z8 n a w d|exact TZ (λh=>by cases h) n d)
theorem Ua {M:Mc}{b:Code}{k:List It}(h:nU M.nt M.us b=true)(h2:lT M k=true):∀n,lT M (rep b k n)=true
 |0=>h2
 |n+1=>by simp only[rep,lT,cZ];exact⟨h,Ua h h2 n⟩
theorem sr_rounds {M:Mc}{k:List It}{env:Env}{σ:Sto}{nx:Nat}{b:Code}(n:Nat)(h:sr M (rep b k n) env σ nx):sr M (.code (.loop b)::k) env σ nx:=by unfold sr at h|-;intro hc fr Ψ loc a w hn hr hf;obtain⟨c1,c2⟩:=chk_code hc;exact wp_loop_rounds n (Z8 n a w (h (Ua (by simpa [nU] using c1) c2 n) fr Ψ loc a w hn hr hf))
end O
def ACall (P:Program)(f:FuncId)(args:List AV)(pre:List Obj)(post:AV->List (Option Obj)->Prop):Prop:=
 ∃v g,post v g/\pre.length<=g.length/\g.length<=pre.length+8/\ACallO P f args pre (λv' g'=>v'=v/\g'=g)
def lV (P:Program)(dr:Bool)(f:FuncId)(nx i:Nat)(dA:List (Option AV))(σ:Sto)(K:AV->List (Nat×Option Obj)->Key->Prop):Prop:=
 ∃(as:List AV) (pre:List Obj) (post:AV->List (Option Obj)->Prop) (ls:List Nat),isGo P f=true/\ACall P f as pre post/\dA=(AV.renL (rho ls (nx+8*i)) as).map some/\AV.lbL pre.length as=true/\pre.all (Obj.lb pre.length)=true/\ls.length=pre.length/\ls.Nodup/\ls.all (λl=>!own nx i l)=true/\
  (∀k o,pre[k]?=some o->σ (ls.getD k 0)=some (o.ren (rho ls (nx+8*i))))/\
  ∀r g,post r g->pre.length<=g.length->g.length<=pre.length+8->K (r.ren (rho ls (nx+8*i))) (renG (rho ls (nx+8*i)) g) ⟨[],ls,false,true,true⟩
def akt (d:Option DO)(nx i:Nat)(K:AV->List (Nat×Option Obj)->Key->Prop):Prop:=
 match d with
 |none=>False
 |some d=>d.ok/\d.det=true/\∀v,d.out v->K v d.upd ⟨d.rd,d.wr.filter (λl=>!own nx i l),d.det,false,true⟩
def vX (P:Program)(dr:Bool)(nx i:Nat)(o:Oper)(env:Env)(σ:Sto)(K:AV->List (Nat×Option Obj)->Key->Prop):Prop:=
 match o.op with
 | .call { callee:= .value (.func f),args:=args,argTypes:=_ } =>lV P dr f nx i (args.toList.map (ev env)) σ K
 |_=>akt (dop P o (ev env) σ (nx+8*i)) nx i K
def vS (P:Program)(ops:Array Oper)(nx:Nat)(dr:Bool)(U:List (Nat×Nat))(K:Env->Sto->Nat->Prop):List (Nat×Key)->List Oper->Nat->Env->Sto->Prop
 |_,[],i,env,σ=>K env σ (nx+8*i)
 |log,o::l,i,env,σ=>vG ops o env (λenv=>vX P dr nx i o env σ (λv G key=>D9 nx U i key log/\vS P ops nx dr U K (Wl U i key log) l (i+1) (env.put o.dst v) (σ.upds G))) (λenv=>vS P ops nx dr U K log l (i+1) (env.put o.dst (.tup [])) σ)
def ap5 (e:Env)(s:Sto)(n:Nat):Env->Sto->Nat->Prop:=λe' s' n'=>e'=e/\s'=s/\n'=n
section
variable {P : Program} {ops : Array Oper} {nx : Nat} {U : List (Nat × Nat)} {K : Env -> Sto -> Nat -> Prop} {dr : Bool}
theorem afQ {i:Nat}{o:Oper}{env:Env}{σ:Sto}{E:AV->List (Nat×Option Obj)->Key->Prop}{T:Env->Sto->Nat->AV->List (Nat×Option Obj)->Key->Prop}(h:vX P dr nx i o env σ E)(hk:∀v G k,E v G k->∃e s n,K e s n/\T e s n v G k):∃e s n,K e s n/\YN P dr nx i o env σ (T e s n):=by
 unfold vX at h;split at h;rename_i f args ats ho;obtain⟨as,pre,post,ls,h1,⟨v,g,I,l1,l2,hO⟩,h3,h4,h5,J,L,N,V,a⟩:=h;obtain⟨e,s,n,u,y⟩:=hk _ _ _ (a v g I l1 l2);refine⟨e,s,n,u,?_⟩;unfold YN;rw[ho];refine⟨as,pre,_,ls,h1,hO,h3,h4,h5,J,L,N,V,λ_=>⟨v,g,⟨rfl,rfl⟩,l1,l2⟩,λr X hr _ _=>?_⟩;obtain⟨rfl,rfl⟩:=hr;exact y
 . rename_i A;unfold akt at h;split at h;exact h.elim
   . rename_i d B;obtain⟨h1,h2,h3⟩:=h;obtain⟨v,H⟩:=(JQ B).inh h1;obtain⟨e,s,n,u,y⟩:=hk _ _ _ (h3 v H);refine⟨e,s,n,u,?_⟩;have hx:abJ (dop P o (ev env) σ (nx+8*i)) nx i (T e s n):=by
      rw[B];exact⟨h1,λv' D=>by rw[(JQ B).det h2 v' v D H];exact y⟩
     unfold YN;split;rename_i f args ats ho;exact absurd ho (A f args ats);exact hx
theorem afR {o:Oper}{env:Env}{X Y:Env->Prop}{A B:Env->Sto->Nat->Env->Prop}(h:vG ops o env X Y)(hx:∀env,X env->∃e s n,K e s n/\A e s n env)(y:∀env,Y env->∃e s n,K e s n/\B e s n env):∃e s n,K e s n/\vG ops o env (A e s n) (B e s n):=by
 unfold vG at h|-;split at h;exact hx _ h
 . rename_i g want hg;split at h;exact h.elim
   . rename_i d D;split at h
     . rename_i b hb
       cases b
       . have h2:=h.2 rfl
         cases want
         obtain⟨e,s,n,a,u⟩:=hx _ (by simpa using h2);exact⟨e,s,n,a,⟨(λh=>by cases h),λ_=>by simpa using u⟩⟩;obtain⟨e,s,n,a,u⟩:=y _ (by simpa using h2);exact⟨e,s,n,a,⟨(λh=>by cases h),λ_=>by simpa using u⟩⟩
       . have h2:=h.1 rfl
         cases want
         obtain⟨e,s,n,a,u⟩:=y _ (by simpa using h2);exact⟨e,s,n,a,⟨λ_=>by simpa using u,(λh=>by cases h)⟩⟩;obtain⟨e,s,n,a,u⟩:=hx _ (by simpa using h2);exact⟨e,s,n,a,⟨λ_=>by simpa using u,(λh=>by cases h)⟩⟩
     rename_i hb;obtain⟨e,s,n,a,u⟩:=y _ h;exact⟨e,s,n,a,u⟩;exact h.elim
theorem RZ:∀(l:List Oper) (log:List (Nat×Key)) (i:Nat) (env:Env) (σ:Sto),vS P ops nx dr U K log l i env σ->∃e s n,K e s n/\O.vS P ops nx dr U (ap5 e s n) log l i env σ
 | [],log,i,env,σ,h=>⟨env,σ,_,h,rfl,rfl,rfl⟩
 |
  o::l,log,i,env,σ,h=>by
  unfold vS at h
  unfold O.vS
  exact afR h (λenv h=>afQ h (λv G k hk=>by
   obtain⟨e,s,n,a,d⟩:=RZ l _ _ _ _ hk.2
   exact⟨e,s,n,a,hk.1,d⟩)) (λenv h=>RZ l _ _ _ _ h)
theorem O.vS_monoK {K a:Env->Sto->Nat->Prop}(hk:∀e s n,K e s n->a e s n):∀(l:List Oper) (log:List (Nat×Key)) (i:Nat) (env:Env) (σ:Sto),O.vS P ops nx dr U K log l i env σ->O.vS P ops nx dr U a log l i env σ
 | [],_,_,_,_,h=>hk _ _ _ h
 |
  o::l,log,i,env,σ,h=>by
  unfold O.vS at h|-
  exact O.vG_mono h (λe he=>O.vXO_mono he (λv G k q=>⟨q.1,O.vS_monoK hk l _ _ _ _ q.2⟩)) (λe he=>O.vS_monoK hk l _ _ _ _ he)
end
def nm:List It->Nat
 | []=>0
 | .mark _::k=>nm k+1
 | .code _::k=>nm k
 | .blk _::k=>nm k
def VW (c q:Nat)(e:Env)(s:Sto):Env->Sto->Prop:=λe' s'=>c=q/\e'=e/\s'=s
def pin (q:Nat)(e:Env)(s:Sto):List It->List It
 | []=> []
 | .mark _::k=> .mark (VW (nm k+1) q e s)::pin q e s k
 | .code c::k=> .code c::pin q e s k
 | .blk i::k=> .blk i::pin q e s k
def Mc.pin (M:Mc)(q:Nat)(e:Env)(s:Sto):Mc:= { M with R:=VW 0 q e s }
def fit (M:Mc)(q:Nat)(e:Env)(s:Sto):List It->Prop
 | []=>q=0/\M.R e s
 | .mark G::k=>(q=nm k+1/\G e s)\/fit M q e s k
 | .code _::k=>fit M q e s k
 | .blk _::k=>fit M q e s k
def sr (M:Mc)(k:List It)(env:Env)(σ:Sto)(nx:Nat):Prop:=∃q e s,fit M q e s k/\O.sr (M.pin q e s) (AM.pin q e s k) env σ nx
def sx (M:Mc)(id:Nat)(k:List It)(env:Env)(σ:Sto)(nx:Nat):Prop:=∃q e s,fit M q e s k/\O.sx (M.pin q e s) id (AM.pin q e s k) env σ nx
section
variable {M : Mc} {k : List It} {env : Env} {σ : Sto} {nx : Nat} {q : Nat} {e : Env} {s : Sto}
theorem zA:∀ {k:List It},fit M q e s k->q<=nm k
 | [],h=>pK h.1
 |
  .mark G::k,h=>by
  rcases h with h|h
  . exact pK h.1
  . exact Nat.le_succ_of_le (zA h)
 | .code _::k,h=>zA (k:=k) h
 | .blk _::k,h=>zA (k:=k) h
theorem acv (h:M.R e s):∀k:List It,fit M 0 e s k
 | []=>⟨rfl,h⟩
 | .mark _::k=> .inr (acv h k)
 | .code _::k=>acv h k
 | .blk _::k=>acv h k
theorem OM {R:Env->Sto->Prop} :∀k:List It,lT { M with R:=R } k=lT M k
 | []=>rfl
 | .mark _::k=>OM k
 | .code c::k=>by show (nU M.nt M.us c && _)=(nU M.nt M.us c && _);rw[OM k]
 | .blk _::k=>OM k
theorem yc:∀k:List It,lT M (AM.pin q e s k)=lT M k
 | []=>rfl
 | .mark _::k=>yc k
 | .code c::k=>by show (nU M.nt M.us c && _)=(nU M.nt M.us c && _);rw[yc k]
 | .blk _::k=>yc k
theorem KR {b:Code} :∀n,lT M (rep b k n)=true->lT M k=true
 |0,h=>h
 |n+1,h=>by simp only[rep,lT,cZ] at h;exact KR n h.2
theorem Si {fr:Fr}{nt c:Nat}{a:Act}{w:World}(hc:c≠q)(h:AtK fr nt (VW c q e s) a w):False:=by obtain⟨_,_,_,_,_,_,_,h,_⟩:=h;exact hc h
theorem uk {u:Nat}{y:Env}{A:Sto}{fr:Fr} :∀ {k:List It},nm k<q->∀x a w,Ct (M.pin q e s) fr (AM.pin q e s k) x a w->Ct (M.pin u y A) fr (AM.pin u y A k) x a w
 |
  [],hq,x,a,w,h=>by
  cases x with
  |normal=>exact (Si (yS hq) h).elim
  |ret=>exact (Si (yS hq) h).elim
  |_=>exact h.elim
 |
  .code c::k,hq,x,a,w,h=>by
  cases x with
  |normal=>exact qY (show c.wp M.P _ a w from h) (λx a w h=>uk (k:=k) hq x a w h)
  |_=>exact uk (k:=k) hq _ a w h
 |
  .blk id::k,hq,x,a,w,h=>by
  cases x with
  |
   exit i=>
   have h:(if i=id then _ else _):=h
   show (if i=id then _ else _)
   split
   . rename_i hi;rw[if_pos hi] at h;exact uk (k:=k) hq _ a w h
   . rename_i hi;rw[if_neg hi] at h;exact uk (k:=k) hq _ a w h
  |_=>exact uk (k:=k) hq _ a w h
 |
  .mark G::k,hq,x,a,w,h=>by
  have d:nm k+1<q:=hq
  cases x with
  |normal=>exact (Si (yS d) h).elim
  |_=>exact uk (k:=k) (Nat.lt_of_succ_lt d) _ a w h
theorem O.cut {R d:Env->Sto->Prop}{c:Code}{G:Env->Sto->Prop}{k u:List It}(h1:O.sr { M with R:=R } (.code c :: .mark G::k) env σ nx)(h2:∀e s n,G e s->O.sr { M with R:=d } u e s n)(hk:lT M u=true->lT M k=true)(hx:∀fr x a w,x≠ .normal->Ct { M with R:=R } fr k x a w->Ct { M with R:=d } fr u x a w):O.sr { M with R:=d } (.code c::u) env σ nx:=by
 unfold O.sr at h1 h2|-;intro hc fr Ψ loc a w hn hr hf;obtain⟨c1,c2⟩:=O.chk_code hc;have y:lT { M with R:=R } k=true:=(by rw[OM];exact hk (by rw[<-OM (R:=d)];exact c2));have:=h1 (by simp only[lT,cZ];exact⟨c1,y⟩) fr Ψ loc a w hn hr hf;refine qY this (λx a w A=>?_)
 cases x with
 |
  normal=>
  obtain⟨env,σ,nx,Ψ,loc,B,D,E⟩:=A;exact h2 _ _ _ E c2 fr Ψ loc a w hn B D
 |_=>exact hx fr _ a w (λh=>by cases h) A
theorem sr_nil (h:M.R env σ):sr M [] env σ nx:=⟨0,env,σ,⟨rfl,h⟩,O.sr_nil ⟨rfl,rfl,rfl⟩⟩
theorem sr_mark {G:Env->Sto->Prop}(h:G env σ):sr M (.mark G::k) env σ nx:=⟨nm k+1,env,σ,.inl ⟨rfl,h⟩,O.sr_mark ⟨rfl,rfl,rfl⟩⟩
theorem sr_blk {id:Nat}(h:sr M k env σ nx):sr M (.blk id::k) env σ nx:=let ⟨q,e,s,f,h⟩:=h;⟨q,e,s,f,O.sr_blk h⟩
theorem sr_skip (h:sr M k env σ nx):sr M (.code .skip::k) env σ nx:=let ⟨q,e,s,f,h⟩:=h;⟨q,e,s,f,O.sr_skip h⟩
theorem sr_seq {a b:Code}(h:sr M (.code a :: .code b::k) env σ nx):sr M (.code (.seq a b)::k) env σ nx:=let ⟨q,e,s,f,h⟩:=h;⟨q,e,s,f,O.sr_seq h⟩
theorem sr_block {id:Nat}{b:Code}(h:sr M (.code b :: .blk id::k) env σ nx):sr M (.code (.block id b)::k) env σ nx:=let ⟨q,e,s,f,h⟩:=h;⟨q,e,s,f,O.sr_block h⟩
theorem sr_exit {id:Nat}(h:sx M id k env σ nx):sr M (.code (.exit id)::k) env σ nx:=let ⟨q,e,s,f,h⟩:=h;⟨q,e,s,f,O.sr_exit h⟩
theorem sx_code {id:Nat}{c:Code}(h:sx M id k env σ nx):sx M id (.code c::k) env σ nx:=let ⟨q,e,s,f,h⟩:=h;⟨q,e,s,f,O.sx_code h⟩
theorem sx_mark {id:Nat}{G:Env->Sto->Prop}(h:sx M id k env σ nx):sx M id (.mark G::k) env σ nx:=let ⟨q,e,s,f,h⟩:=h;⟨q,e,s,.inr f,O.sx_mark h⟩
theorem sx_hit {id:Nat}(h:sr M k env σ nx):sx M id (.blk id::k) env σ nx:=let ⟨q,e,s,f,h⟩:=h;⟨q,e,s,f,O.sx_hit h⟩
theorem sx_miss {id j:Nat}(a:(id==j)=false)(h:sx M id k env σ nx):sx M id (.blk j::k) env σ nx:=let ⟨q,e,s,f,h⟩:=h;⟨q,e,s,f,O.sx_miss a h⟩
theorem sr_ret (h:M.R env σ):sr M (.code .ret::k) env σ nx:=⟨0,env,σ,acv h k,O.sr_ret ⟨rfl,rfl,rfl⟩⟩
theorem sr_cond {c:Operand}{t e:Code}{b:Bool}(hb:ev env c=some (.pv (.sc (.bool b))))(a:b=true->sr M (.code t::k) env σ nx)(he:b=false->sr M (.code e::k) env σ nx):sr M (.code (.cond c t e)::k) env σ nx:=by
 cases b
 obtain⟨q,e,s,f,h⟩:=he rfl;exact⟨q,e,s,f,O.sr_cond hb (λh=>by cases h) (λ_=>h)⟩;obtain⟨q,e,s,f,h⟩:=a rfl;exact⟨q,e,s,f,O.sr_cond hb (λ_=>h) (λh=>by cases h)⟩
theorem sr_view (E:List (Nat×AV))(S:List (Option Obj))(a:View M.n0 env σ E S)(h:sr M k (jh E) (oZ S) S.length):sr M k env σ nx:=let ⟨q,e,s,f,h⟩:=h;⟨q,e,s,f,O.sr_view E S a h⟩
theorem sr_ghost (l j e a:Nat){cs:List AV}(h1:σ l=some (.box cs))(h2:cs[j]?=some .emp)(h:sr M k env ((σ.upd l (some (.box (cs.set j (.own nx 0))))).upd nx (some (.row e a []))) (nx+1)):sr M k env σ nx:=let ⟨q,e',s,f,h⟩:=h;⟨q,e',s,f,O.sr_ghost l j e a h1 h2 h⟩
theorem sr_ghostE (t e a:Nat)(h2:env t=some .emp)(h:sr M k (env.put (some t) (.own nx 0)) (σ.upd nx (some (.row e a []))) (nx+1)):sr M k env σ nx:=let ⟨q,e',s,f,h⟩:=h;⟨q,e',s,f,O.sr_ghostE t e a h2 h⟩
theorem iy {c:Code}{T:Type}(E:T->List (Nat×AV))(S:T->List (Option Obj))(f:T->Prop)(h1:sr M (.code c :: .mark (λenv σ=>∃t,f t/\View M.n0 env σ (E t) (S t))::k) env σ nx)(h2:∀t,f t->sr M k (jh (E t)) (oZ (S t)) (S t).length):sr M (.code c::k) env σ nx:=by obtain⟨q,e,s,hf,h⟩:=h1;rcases hf with ⟨rfl,t,u,y⟩|hf;obtain⟨A,B,D,d,G⟩:=h2 t u;refine⟨A,B,D,d,O.cut (M:=M) h (λH s2 n hg=>?_) (λhc=>by rw[yc] at hc|-;exact hc) (λfr x a w _ hx=>uk (EE _) x a w hx)⟩;obtain⟨_,rfl,rfl⟩:=hg;exact O.sr_view (E t) (S t) y G;exact⟨q,e,s,hf,O.cut (M:=M) h (λH s2 n hg=>absurd hg.1 (Nat.ne_of_gt (Nat.lt_succ_of_le (zA hf)))) id (λfr x a w _ hx=>hx)⟩
theorem Sj {fr:Fr}{b:Code}{x:Exit}{a:Act}{w:World}(he:x≠ .normal)(h:Ct M fr k x a w):∀n,Ct M fr (rep b k n) x a w
 |0=>by cases x<;>first|exact absurd rfl he|exact h
 |n+1=>by cases x<;>first|exact absurd rfl he|exact Sj he h n
theorem Ub {b:Code}(a:q<=nm k):∀n,AM.pin q e s (rep b k n)=rep b (AM.pin q e s k) n
 |
  0=>by
  have:VW (nm k+1) q e s=λ_ _=>False:=by
   funext e' s'
   exact eq_false λh=>by have:=h.1;omega
  show It.mark (VW (nm k+1) q e s)::_=It.mark (λ_ _=>False)::_
  rw[this]
 |n+1=>by show It.code b::_=It.code b::_;rw[Ub a n]
theorem Uc {b:Code} :∀n,fit M q e s (rep b k n)->fit M q e s k
 |
  0,h=>by
  rcases h with h|h
  . exact h.2.elim
  . exact h
 |n+1,h=>Uc n h
theorem sr_rounds {b:Code}(n:Nat)(h:sr M (rep b k n) env σ nx):sr M (.code (.loop b)::k) env σ nx:=by obtain⟨q,e,s,hf,h⟩:=h;have hf:=Uc n hf;rw[Ub (zA hf)] at h;exact⟨q,e,s,hf,O.sr_rounds n h⟩
theorem abX {b:Code}{T:Type}(E:T->List (Nat×AV))(S:T->List (Option Obj))(f:T->Prop)(μ:T->Nat)(t0:T)(h0:f t0)(y:View M.n0 env σ (E t0) (S t0))
 (h:∀t,f t->sr M (.code b :: .mark (λenv σ=>∃u,f u/\μ u<μ t/\View M.n0 env σ (E u) (S u))::k) (jh (E t)) (oZ (S t)) (S t).length):sr M (.code (.loop b)::k) env σ nx:=by
 refine sr_view _ _ y ?_;have key:∀m t,μ t=m->f t->∃n q e s,fit M q e s k/\O.sr (M.pin q e s) (rep b (AM.pin q e s k) n) (jh (E t)) (oZ (S t)) (S t).length:=by
  intro m;induction m using Nat.strongRecOn with
  |
   _ m ih=>
   intro t hm D;obtain⟨q,e,s,hf,h1⟩:=h t D;rcases hf with ⟨rfl,u,G,A,y⟩|hf;obtain⟨n,H,I,J,B,L⟩:=ih (μ u) (hm▸A) u rfl G;refine⟨n+1,H,I,J,B,O.cut (M:=M) h1 (λN s2 n hg=>?_) (λhc=>by have:=KR n hc;rw[yc] at this|-;exact this) (λfr x a w d hx=>Sj d (uk (EE _) x a w hx) n)⟩;obtain⟨_,rfl,rfl⟩:=hg;exact O.sr_view (E u) (S u) y L;exact⟨1,q,e,s,hf,O.cut (M:=M) h1 (λN s2 n hg=>absurd hg.1 (Nat.ne_of_gt (Nat.lt_succ_of_le (zA hf)))) (λhc=>KR (b:=b) 0 hc) (λfr x a w d hx=>Sj d hx 0)⟩
 obtain⟨n,q,e,s,hf,h1⟩:=key _ t0 rfl h0;exact⟨q,e,s,hf,O.sr_rounds n h1⟩
theorem sr_region {id:Nat}{ops:Array Oper}{d:Bool}(h:vS M.P ops nx d (if d=true then M.us id else []) (sr M k) [] ops.toList 0 env σ):sr M (.code (.region id ops d)::k) env σ nx:=by obtain⟨e1,s1,n1,⟨q,e,s,hf,h1⟩,h2⟩:=RZ _ _ _ _ _ h;refine⟨q,e,s,hf,O.sr_region (O.vS_monoK (λa u y he=>?_) _ _ _ _ _ h2)⟩;obtain⟨rfl,rfl,rfl⟩:=he;exact h1
end
theorem acw {P:Program}{n0:Nat}{rs:List ResultVar}{post:AV->List (Option Obj)->Prop}{env:Env}{σ:Sto}(h:jC P n0 rs post env σ):∃v g,post v g/\n0<=g.length/\g.length<=n0+8/\jC P n0 rs (λv' a=>v'=v/\a=g) env σ:=by unfold jC at h|-;split at h;exact h.elim;rename_i vs d;obtain⟨r,g,h1,h2,h3⟩:=h;have u:n0<=g.length:=(by obtain⟨_,_,_,_,_,h,_⟩:=h3;exact h);refine⟨r,g,h1,u,h2,?_⟩;exact⟨r,g,⟨rfl,rfl⟩,h2,h3⟩
theorem acall {P:Program}{us:Nat->List (Nat×Nat)}{f:FuncId}{fn:Func}{body:Code}{args:List AV}{pre:List Obj}{post:AV->List (Option Obj)->Prop}(hm:P.follows .mixedOrders=true)(hf:P.funcs[f]?=some fn)(hb:fn.body=some body)(d:args.length<=fn.ntmps)(hc:nU fn.ntmps us body=true)
 (h:∀R:Env->Sto->Prop,(∀env σ,jC P pre.length fn.results.toList post env σ->R env σ)->sr ⟨P,us,fn.ntmps,pre.length,R,hm⟩ [.code body] (jh (wL args)) (oZ (pre.map some)) pre.length):ACall P f args pre post:=by
 obtain⟨q,e,s,⟨rfl,B⟩,hs⟩:=h (jC P pre.length fn.results.toList post) (λ_ _ h=>h);obtain⟨v,g,h1,h2,h3,h4⟩:=acw B;refine⟨v,g,h1,h2,h3,O.acall (us:=us) hm hf hb d hc (λD y=>?_)⟩;unfold O.sr at hs|-;intro hk fr Ψ loc a w hn hr A;refine qY (hs hk fr Ψ loc a w hn hr A) (λx a w u=>?_);have fin:AtK fr fn.ntmps (VW 0 0 e s) a w->AtK fr fn.ntmps D a w:=λu=>by obtain⟨env,σ,nx,Ψ,loc,E,G,_,rfl,rfl⟩:=u;exact⟨_,_,nx,Ψ,loc,E,G,y _ _ h4⟩
 cases x with
 |normal=>exact fin u
 |ret=>exact fin u
 |_=>exact u.elim
attribute [irreducible] sr sx
