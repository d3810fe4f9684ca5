/- Words. -/
import Derived.Test.YtfbkkgfkhhibfaaGreatAdc
set_option linter.unusedVariables false
set_option linter.unusedSimpArgs false
namespace AM
open Go Go.RowKit
mutual
def AV.ren (ρ:Nat->Nat):AV->AV
 | .own r n=> .own (ρ r) n
 | .ptr l o=> .ptr (ρ l) o
 | .rp r k i o=> .rp (ρ r) k i o
 | .agg cs=> .agg (AV.renL ρ cs)
 | .tup cs=> .tup (AV.renL ρ cs)
 | .tl cs=> .tl (AV.renL ρ cs)
 | .pv p=> .pv p
 | .fp row o=> .fp row o
 | .tp cts j=> .tp cts j
 | .emp=> .emp
def AV.renL (ρ:Nat->Nat):List AV->List AV
 | []=> []
 |v::r=>AV.ren ρ v::AV.renL ρ r
end
mutual
def AV.lb (n:Nat):AV->Bool
 | .own r _=>decide (r<n)
 | .ptr l _=>decide (l<n)
 | .rp r _ _ _=>decide (r<n)
 | .agg cs=>AV.lbL n cs
 | .tup cs=>AV.lbL n cs
 | .tl cs=>AV.lbL n cs
 | .pv _=>true
 | .fp _ _=>true
 | .tp _ _=>true
 | .emp=>true
def AV.lbL (n:Nat):List AV->Bool
 | []=>true
 |v::r=>AV.lb n v && AV.lbL n r
end
theorem pU (ρ:Nat->Nat):∀(cs:List AV) (j:Nat),(AV.renL ρ cs)[j]?=(cs[j]?).map (AV.ren ρ)
 | [],j=>by simp[AV.renL]
 |v::r,0=>by simp[AV.renL]
 |v::r,j+1=>by simp[AV.renL,pU ρ r j]
theorem eP (ρ:Nat->Nat):∀(cs:List AV),(AV.renL ρ cs).length=cs.length
 | []=>rfl
 |v::r=>by simp[AV.renL,eP ρ r]
theorem BC {n:Nat} :∀ {cs:List AV}{j:Nat}{v:AV},AV.lbL n cs=true->cs[j]?=some v->v.lb n=true
 | [],j,v,_,h=>by simp at h
 |u::r,0,v,hb,h=>by simp at h;subst h;simp[AV.lbL] at hb;exact hb.1
 |u::r,j+1,v,hb,h=>by simp[AV.lbL] at hb;exact BC hb.2 (by simpa using h)
mutual
theorem rep_in {Ψ:Psi}{loc a:Loc}{ρ:Nat->Nat}{n:Nat}(d:∀l,l<n->a l=loc (ρ l)):∀(v:AV) (x:Value),RepA Ψ loc (v.ren ρ) x->v.lb n=true->RepA Ψ a v x
 |
  .own r m,x,h,hb=>by
  unfold AV.ren at h
  cases h with
  |own h1 hn=>exact .own (by rw[d r (by simpa [AV.lb] using hb)];exact h1) hn
 |
  .ptr l o,x,h,hb=>by
  unfold AV.ren at h
  cases h with
  |ptr h1=>exact .ptr (by rw[d l (by simpa [AV.lb] using hb)];exact h1)
 |
  .rp r k i o,x,h,hb=>by
  unfold AV.ren at h
  cases h with
  |rp h1=>exact .rp (by rw[d r (by simpa [AV.lb] using hb)];exact h1)
 |
  .agg cs,x,h,hb=>by
  unfold AV.ren at h
  cases h with
  |agg f hs hx hr=>exact .agg f (by rw[hs,eP]) (λj u=>hx j (by rw[eP];exact u)) (rep_inL d cs f hr (by simpa [AV.lb] using hb))
 |
  .tup cs,x,h,hb=>by
  unfold AV.ren at h
  cases h with
  |tup f hs hx hr=>exact .tup f (by rw[hs,eP]) (λj u=>hx j (by rw[eP];exact u)) (rep_inL d cs f hr (by simpa [AV.lb] using hb))
 |
  .tl cs,x,h,hb=>by
  unfold AV.ren at h
  cases h with
  |tl f hc hx hr=>exact .tl f hc (λj u=>hx j (by rw[eP];exact u)) (rep_inL d cs f hr (by simpa [AV.lb] using hb))
 | .pv p,x,h,hb=>by unfold AV.ren at h;cases h with|pv h=>exact .pv h
 | .fp row o,x,h,hb=>by unfold AV.ren at h;cases h with|fp f h1 h2=>exact .fp f h1 h2
 | .tp cts j,x,h,hb=>by unfold AV.ren at h;cases h with|tp h1 h2 h3 h4=>exact .tp h1 h2 h3 h4
 | .emp,x,h,hb=>by unfold AV.ren at h;cases h with|emp=>exact .emp
theorem rep_inL {Ψ:Psi}{loc a:Loc}{ρ:Nat->Nat}{n:Nat}(y:∀l,l<n->a l=loc (ρ l)):∀(cs:List AV) (f:Nat->Value),(∀j v,(AV.renL ρ cs)[j]?=some v->RepA Ψ loc v (f j))->AV.lbL n cs=true->∀(j:Nat) v,cs[j]?=some v->RepA Ψ a v (f j)
 | [],f,h,hb,j,v,d=>by simp at d
 |
  u::r,f,h,hb,0,v,d=>by
  simp at d
  subst d
  simp only[AV.lbL,cZ] at hb
  exact rep_in y u _ (h 0 _ (by simp[AV.renL])) hb.1
 |
  u::r,f,h,hb,j+1,v,d=>by
  simp only[AV.lbL,cZ] at hb
  exact rep_inL y r (λj=>f (j+1)) (λj v d=>h (j+1) v (by simpa [AV.renL] using d)) hb.2 j v (by simpa using d)
end
mutual
theorem rep_out {Ψ:Psi}{loc a:Loc}{ρ:Nat->Nat}(u:∀l e,a l=some e->loc (ρ l)=some e):∀(v:AV) (x:Value),RepA Ψ a v x->RepA Ψ loc (v.ren ρ) x
 | .own r m,x,h=>by unfold AV.ren;cases h with|own h1 hn=>exact .own (u _ _ h1) hn
 | .ptr l o,x,h=>by unfold AV.ren;cases h with|ptr h1=>exact .ptr (u _ _ h1)
 | .rp r k i o,x,h=>by unfold AV.ren;cases h with|rp h1=>exact .rp (u _ _ h1)
 |
  .agg cs,x,h=>by
  unfold AV.ren
  cases h with
  |agg f hs hx hr=>exact .agg f (by rw[hs,eP]) (λj d=>hx j (by rw[eP] at d;exact d)) (rep_outL u cs f hr)
 |
  .tup cs,x,h=>by
  unfold AV.ren
  cases h with
  |tup f hs hx hr=>exact .tup f (by rw[hs,eP]) (λj d=>hx j (by rw[eP] at d;exact d)) (rep_outL u cs f hr)
 |
  .tl cs,x,h=>by
  unfold AV.ren
  cases h with
  |tl f hc hx hr=>exact .tl f hc (λj d=>hx j (by rw[eP] at d;exact d)) (rep_outL u cs f hr)
 | .pv p,x,h=>by unfold AV.ren;cases h with|pv h=>exact .pv h
 | .fp row o,x,h=>by unfold AV.ren;cases h with|fp f h1 h2=>exact .fp f h1 h2
 | .tp cts j,x,h=>by unfold AV.ren;cases h with|tp h1 h2 h3 h4=>exact .tp h1 h2 h3 h4
 | .emp,x,h=>by unfold AV.ren;cases h with|emp=>exact .emp
theorem rep_outL {Ψ:Psi}{loc a:Loc}{ρ:Nat->Nat}(y:∀l e,a l=some e->loc (ρ l)=some e):∀(cs:List AV) (f:Nat->Value),(∀j v,cs[j]?=some v->RepA Ψ a v (f j))->∀(j:Nat) v,(AV.renL ρ cs)[j]?=some v->RepA Ψ loc v (f j)
 | [],f,h,j,v,d=>by simp[AV.renL] at d
 |
  u::r,f,h,0,v,d=>by
  simp[AV.renL] at d
  subst d
  exact rep_out y u _ (h 0 _ rfl)
 |u::r,f,h,j+1,v,d=>rep_outL y r (λj=>f (j+1)) (λj v d=>h (j+1) v (by simpa using d)) j v (by simpa [AV.renL] using d)
end
def Obj.ren (ρ:Nat->Nat):Obj->Obj
 | .box cs=> .box (AV.renL ρ cs)
 | .row e k els=> .row e k els
 | .rov e k els i cs=> .rov e k els i (AV.renL ρ cs)
def Obj.lb (n:Nat):Obj->Bool
 | .box cs=>AV.lbL n cs
 | .row .. =>true
 | .rov _ _ _ _ cs=>AV.lbL n cs
theorem Lu {Ψ:Psi}{loc a:Loc}{ρ:Nat->Nat}{n l:Nat}{w:World}(u:∀l,l<n->a l=loc (ρ l))(d:l<n){o:Obj}(h:Holds Ψ loc w (ρ l) (o.ren ρ))(hb:o.lb n=true):Holds Ψ a w l o:=by
 cases o with
 |
  box cs=>
  obtain⟨b,c,arr,ty,h1,h2,h3,h4⟩:=h;refine⟨b,c,arr,ty,by rw[u l d];exact h1,h2,by rw[h3,eP],λj v y=>?_⟩;obtain⟨x,B,D,E⟩:=h4 j (v.ren ρ) (by rw[pU,y];rfl);exact⟨x,B,D,rep_in u v x E (BC hb y)⟩
 |
  row e k els=>
  obtain⟨A,c,h1,h2⟩:=h;exact⟨A,c,by rw[u l d];exact h1,h2⟩
 |
  rov e k els i cs=>
  obtain⟨g,c,cur,h1,G,B,D,E,H,I,J,L,N⟩:=h;exact⟨g,c,cur,by rw[u l d];exact h1,G,B,D,E,H,I,J,by rw[<-L,eP],λj v y=>by obtain⟨x,r1,O,U⟩:=N j (v.ren ρ) (by rw[pU,y];rfl);exact⟨x,r1,O,rep_in u v x U (BC hb y)⟩⟩
theorem Uo {Ψ:Psi}{loc a:Loc}{ρ:Nat->Nat}{l:Nat}{w:World}(y:∀l e,a l=some e->loc (ρ l)=some e){o:Obj}(h:Holds Ψ a w l o):Holds Ψ loc w (ρ l) (o.ren ρ):=by
 cases o with
 |
  box cs=>
  obtain⟨b,c,arr,ty,h1,h2,h3,h4⟩:=h;refine⟨b,c,arr,ty,y _ _ h1,h2,by rw[h3,eP],λj v d=>?_⟩;rw[pU] at d
  cases hc:cs[j]? with
  |none=>simp [hc] at d
  |
   some u=>
   simp[hc] at d;subst d;obtain⟨x,B,D,E⟩:=h4 j u hc;exact⟨x,B,D,rep_out y u x E⟩
 |
  row e k els=>
  obtain⟨A,c,h1,h2⟩:=h;exact⟨A,c,y _ _ h1,h2⟩
 |
  rov e k els i cs=>
  obtain⟨g,c,cur,h1,G,B,D,E,H,I,J,L,N⟩:=h;exact⟨g,c,cur,y _ _ h1,G,B,D,E,H,I,J,by rw[eP];exact L,λj v d=>by rw[pU] at d;obtain⟨u,hc,rfl⟩:=mX.1 d;obtain⟨x,r1,O,U⟩:=N j u hc;exact⟨x,r1,O,rep_out y u x U⟩⟩
def WQ (Ψ:Psi)(loc:Loc)(args:List AV)(vs:List Value):Prop:=vs.length=args.length/\∀(j:Nat) v,args[j]?=some v->∃x,vs[j]?=some x/\RepA Ψ loc v x
def oZ (os:List (Option Obj)):Sto:=λl=>(os[l]?).bind id
def ACallO (P:Program)(f:FuncId)(args:List AV)(pre:List Obj)(post:AV->List (Option Obj)->Prop):Prop:=
 ∀(fr:Fr) (Ψ:Psi) (loc:Loc) (w:World) (vs:Array Value),Ok fr Ψ loc (oZ (pre.map some)) w->fr.n0=pre.length->(∀l,pre.length<=l->loc l=none)->WQ Ψ loc args vs.toList->
  Calls P f vs w λe w'=>∃r v g Ψ' loc',e= .returned r/\post v g/\pre.length<=g.length/\g.length<=pre.length+8/\RepA Ψ' loc' v r/\Ok fr Ψ' loc' (oZ g) w'/\(∀l,g.length<=l->loc' l=none)
abbrev Env:=Nat->Option AV
def ev (env:Env):Operand->Option AV
 | .tmp t=>env t
 | .const v=>ofV v
 |_=>none
def Env.put (env:Env)(dst:Option Nat)(v:AV):Env:=
 match dst with
 |none=>env
 |some d=>λt=>if t=d then some v else env t
structure RelE (Ψ:Psi)(loc:Loc)(env:Env)(ts:Array Value):Prop where
 rep:∀t v,env t=some v->∃x,ts[t]?=some x/\RepA Ψ loc v x
theorem aau {Ψ:Psi}{loc:Loc}{v:Value}{u:AV}(h:ofV v=some u):RepA Ψ loc u v:=by
 unfold ofV at h;split at h
 . rename_i cs;split at h;rename_i hc;injection h with h;subst h;have hx:∀j,∃x,j<cs.size->cs[j]?=some x:=(λj=>by by_cases a:j<cs.size;exact⟨cs[j],λ_=>zG a⟩;exact⟨undef,λh=>absurd h a⟩);refine .agg (λj=>(hx j).choose) (by simp) (λj a=>(hx j).choose_spec (by simpa using a)) (λj u A=>?_);rw[bK,dH] at A;obtain⟨y,d,rfl⟩:=mX.1 A;have h1:=(hx j).choose_spec (iU.1 d).1;exact Eq.subst (motive:=λz=>RepA Ψ loc (Um y) z) (PE (d.symm.trans h1)) (wZ ((SV.1 hc) y (Ip d)))
   cases h
 cases h
 rename_i h1 h2;injection h with h;subst h;exact wZ (by cases v<;>first|rfl|exact absurd rfl (h1 _)|exact absurd rfl (h2 _))
theorem RelE.ev {Ψ:Psi}{loc:Loc}{env:Env}{a:Act}(h:RelE Ψ loc env a.tmps):∀x v,ev env x=some v->RepA Ψ loc v (a.eval x):=λx v hx=>by
 cases x with
 |
  tmp t=>
  obtain⟨y,d,u⟩:=h.rep t v hx
  simp[Act.eval,d]
  exact u
 |const c=>exact aau hx
 |_=>cases hx
theorem RelE.mono {Ψ Ψ':Psi}{loc a:Loc}{env:Env}{ts:Array Value}(h:RelE Ψ loc env ts)(h1:Ψ.le Ψ')(h2:Loc.le loc a):RelE Ψ' a env ts:=
 ⟨λt v e=>by obtain⟨x,d,u⟩:=h.rep t v e;exact⟨x,d,u.mono h1 h2⟩⟩
theorem RelE.put {Ψ:Psi}{loc:Loc}{env:Env}{a:Act}{dst:Option Nat}{v:AV}{x:Value}(h:RelE Ψ loc env a.tmps)(D:RepA Ψ loc v x)(E:∀d,dst=some d->d<a.tmps.size):RelE Ψ loc (env.put dst v) (a.put dst x).tmps:=by
 refine⟨λt u A=>?_⟩
 cases dst with
 |none=>exact h.rep t u A
 |
  some d=>
  simp only[Env.put] at A;simp only[Act.put];split at A;rename_i B;subst B;injection A with A;subst A;exact⟨x,by rw[Pz,if_pos rfl,if_pos (E t rfl)],D⟩;rename_i B;obtain⟨y,G,H⟩:=h.rep t u A;exact⟨y,by rw[PD (λe=>B e.symm)];exact G,H⟩
def own (nx i l:Nat):Bool:=decide (nx+8*i<=l) && decide (l<nx+8*i+8)
def rho (ls:List Nat)(lab:Nat):Nat->Nat:=λl=>if l<ls.length then ls.getD l 0 else lab+(l-ls.length)
structure Key where
 rd:List Nat
 wr:List Nat
 det:Bool
 isC:Bool
 mks:Bool
structure EX where
 ok:Prop
 out:AV->List (Nat×Option Obj)->Prop
 key:Key
def gate (ops:Array Oper)(o:Oper)(env:Env):Option Bool:=
 match o.guard with
 |none=>some true
 |
  some (g,want)=>match (ops[g]?).bind (·.dst) with
  |none=>none
  |
   some d=>match env d with
   |some (.pv (.sc (.bool b)))=>some (b==want)
   |some (.tup [])=>some false
   |_=>none
def renG (ρ:Nat->Nat)(g:List (Option Obj)):List (Nat×Option Obj):=g.zipIdx.map λp=>(ρ p.2,p.1.map (Obj.ren ρ))
def isGo (P:Program)(f:FuncId):Bool:=
 match P.funcs[f]? with
 |some fn=>fn.name !="runtime.NumGoroutine" && fn.body.isSome
 |none=>false
inductive Sp (P:Program)(ops:Array Oper)(nx i:Nat)(o:Oper)(env:Env)(σ:Sto):EX->Prop
 |skip (hg:gate ops o env=some false):Sp P ops nx i o env σ ⟨True,λv G=>v= .tup []/\G=[],⟨[],[],true,false,false⟩⟩
 |op {d:DO} (hg:gate ops o env=some true) (h:dop P o (ev env) σ (nx+8*i)=some d):Sp P ops nx i o env σ ⟨d.ok,λv G=>d.out v/\G=d.upd,⟨d.rd,d.wr.filter (λl=>!own nx i l),d.det,false,true⟩⟩
 |call {f:FuncId} {args:Array Operand} {ats:Array TypeId} {as:List AV} {pre:List Obj} {post:AV->List (Option Obj)->Prop} {ls:List Nat} (hg:gate ops o env=some true) (ho:o.op= .call { callee:= .value (.func f),args:=args,argTypes:=ats }) (hgo:isGo P f=true) (hc:ACallO P f as pre post)
  (ha:args.toList.map (ev env)=(AV.renL (rho ls (nx+8*i)) as).map some) (hb:AV.lbL pre.length as=true) (hbo:pre.all (Obj.lb pre.length)=true) (hls:ls.length=pre.length) (hnd:ls.Nodup) (hno:ls.all (λl=>!own nx i l)=true)
  (hpre:∀k o,pre[k]?=some o->σ (ls.getD k 0)=some (o.ren (rho ls (nx+8*i)))):
  Sp P ops nx i o env σ ⟨True,λv G=>∃r g,post r g/\pre.length<=g.length/\g.length<=pre.length+8/\v=r.ren (rho ls (nx+8*i))/\G=renG (rho ls (nx+8*i)) g,⟨[],ls,false,true,true⟩⟩
def exec (P:Program)(ops:Array Oper)(nx i:Nat)(o:Oper)(K:Env->Sto->Key->Prop)(env:Env)(σ:Sto):Prop:=
 ∃x,Sp P ops nx i o env σ x/\x.ok/\(∃v G,x.out v G)/\∀v G,x.out v G->K (env.put o.dst v) (σ.upds G) x.key
def WJ (P:Program)(ops:Array Oper)(nx i:Nat)(o:Oper)(K:Env->Sto->Key->Prop)(env:Env)(σ:Sto):Prop:=
 ∃x,Sp P ops nx i o env σ x/\x.ok/\∀v G,x.out v G->K (env.put o.dst v) (σ.upds G) x.key
theorem adt {P:Program}{ops:Array Oper}{nx i:Nat}{o:Oper}{K:Env->Sto->Key->Prop}{env:Env}{σ:Sto}(h:exec P ops nx i o K env σ):WJ P ops nx i o K env σ:=
 let ⟨x,h1,h2,_,h4⟩:=h;⟨x,h1,h2,h4⟩
theorem mO {P:Program}{ops:Array Oper}{nx i:Nat}{o:Oper}{K a:Env->Sto->Key->Prop}{env:Env}{σ:Sto}(h:exec P ops nx i o K env σ)(hk:∀env σ k,K env σ k->a env σ k):exec P ops nx i o a env σ:=
 let ⟨x,h1,h2,h3,h4⟩:=h;⟨x,h1,h2,h3,λv G d=>hk _ _ _ (h4 v G d)⟩
structure Rel (fr:Fr)(Ψ:Psi)(loc:Loc)(nt:Nat)(env:Env)(σ:Sto)(a:Act)(w:World):Prop where
 env:RelE Ψ loc env a.tmps
 ok:Ok fr Ψ loc σ w
 sz:a.tmps.size=nt
 df:a.defers=[]
theorem dY (l:Nat):∀(G:List (Nat×Option Obj)) (σ:Sto),l∉G.map (·.1)->σ.upds G l=σ l
 | [],σ,_=>rfl
 |
  (r,o)::G,σ,h=>by
  simp only[kH,dV,not_or] at h
  rw[Sto.upds,dY l G _ h.2,upd_ne _ _ h.1]
theorem Lt (l:Nat)(o:Option Obj):∀(G:List (Nat×Option Obj)) (σ:Sto),(G.map (·.1)).Nodup->(l,o)∈G->σ.upds G l=o
 | [],σ,_,h=>by cases h
 |
  (r,q)::G,σ,hn,h=>by
  simp only[kH,uS] at hn
  rcases dV.1 h with h|h
  . injection h with h1 h2
    subst h1 h2
    rw[Sto.upds,dY _ G _ hn.1,upd_eq]
  . exact Lt l o G _ hn.2 h
theorem WL {P:Program}{e:Operand->Option AV}{σ:Sto}{u:Nat}{t:TypeId}{a:AV}{lo hi:Option Operand}{d:DO}(h:mY P e σ u t a lo hi=some d):∀l∈d.wr,l=u\/σ l≠none:=by
 unfold mY at h;split at h
 . split at h;injection h with h;subst h;intro l y;simp[DO.wr,DO.chk] at y
   cases h
 . split at h
   . rename_i ty A els B hs hr;split at h;injection h with h;subst h;intro l y;simp[DO.wr] at y;rcases y with rfl|rfl;exact .inr (by rw[hs];simp);exact .inl rfl
     cases h
   cases h
 cases h
theorem aav {P:Program}{σ:Sto}{y:Nat}{t:TypeId}{a b:AV}{d:DO}(h:qH P σ y t a b=some d):∀l∈d.wr,l=y\/σ l≠none:=by
 unfold qH at h;split at h
 . split at h
   . rename_i ty A els ys hs B;split at h;injection h with h;subst h;intro l u;simp[DO.wr] at u;rcases u with rfl|rfl;exact .inr (by rw[hs];simp);exact .inl rfl
     cases h
   . rename_i ty A els i cs ys hs B;split at h;injection h with h;subst h;intro l u;simp[DO.wr] at u;rcases u with rfl|rfl;exact .inr (by rw[hs];simp);exact .inl rfl
     cases h
   . rename_i ty A els hs B;split at h
     . split at h;injection h with h;subst h;intro l u;simp[DO.wr] at u;rcases u with rfl|rfl;exact .inr (by rw[hs];simp);exact .inl rfl
       cases h
     cases h
   cases h
 . split at h;injection h with h;subst h;intro l u;simp[DO.wr,DO.chk] at u
   cases h
 . split at h;injection h with h;subst h;intro l u;simp[DO.wr] at u;exact .inl u
   cases h
 cases h
theorem Un {P:Program}{σ:Sto}{y:Nat}{t:TypeId}{a v:AV}{d:DO}(h:jV P σ t a v=some d):∀l∈d.wr,l=y\/σ l≠none:=by
 unfold jV at h;split at h
 . split at h
   . rename_i cs hs;split at h;injection h with h;subst h;intro l u;simp[DO.wr] at u;subst u;exact .inr (by rw[hs];simp)
     cases h
   cases h
 . split at h
   . rename_i ty A els B hs D;split at h;injection h with h;subst h;intro l u;simp[DO.wr] at u;subst u;exact .inr (by rw[hs];simp)
     cases h
   . rename_i ty A els E cs B hs D;split at h;injection h with h;subst h;intro l u;simp[DO.wr] at u;subst u;exact .inr (by rw[hs];simp)
     cases h
   cases h
 . split at h
   . split at h;injection h with h;subst h;intro l u;simp[DO.wr] at u
     cases h
   cases h
 cases h
theorem rX {v:AV} :∀l∈(DO.val v).wr,False:=λl a=>by simp[DO.wr,DO.val] at a
theorem kJ {α:Type}{x:Option α}{f:α->DO}{d:DO}(h:x.map f=some d)(hf:∀a,(f a).upd=[]):∀l∈d.wr,False:=λl u=>by
 obtain⟨a,_,rfl⟩:=map_some h
 simp[DO.wr,hf] at u
theorem WM {P:Program}{o:Oper}{e:Operand->Option AV}{σ:Sto}{y:Nat}{d:DO}(h:dop P o e σ y=some d):∀l∈d.wr,l=y\/σ l≠none:=by
 unfold dop at h;split at h;exactλl u=>(kJ h (λ_=>rfl) l u).elim;exactλl u=>(kJ h (λ_=>rfl) l u).elim
 . split at h;exactλl u=>(kJ h (λ_=>rfl) l u).elim
   cases h
 obtain⟨v,A,rfl⟩:=map_some h;intro l u;simp[DO.wr] at u;exact .inl u
 . obtain⟨v,A,h⟩:=bind_some h;split at h;injection h with h;subst h;intro l u;simp[DO.wr] at u;exact .inl u
   cases h
 . split at h;exactλl u=>(kJ h (λ_=>rfl) l u).elim
   cases h
 . split at h
   . split at h
     . split at h;injection h with h;subst h;exactλl u=>(rX l u).elim
       cases h
     . split at h;split at h;obtain⟨v,rfl⟩:=BB h;exactλl u=>(rX l u).elim;exactλl u=>(kJ h (λ_=>rfl) l u).elim
       cases h
   cases h
 . obtain⟨v,A,h⟩:=bind_some h;unfold lH at h;split at h
   . split at h;exactλl u=>(kJ h (λ_=>rfl) l u).elim
     cases h
   exactλl u=>(kJ h (λ_=>rfl) l u).elim
   . split at h
     . split at h;injection h with h;subst h;intro l u;simp[DO.wr] at u
       cases h
     . split at h;exactλl u=>(kJ h (λ_=>rfl) l u).elim
       cases h
     cases h
   . split at h;exactλl u=>(kJ h (λ_=>rfl) l u).elim
     . split at h;injection h with h;subst h;intro l u;simp[DO.wr] at u
       cases h
   cases h
 . split at h;obtain⟨a,ha,h⟩:=bind_some h;obtain⟨v,A,h⟩:=bind_some h;exact Un h
   cases h
 . obtain⟨v,A,h⟩:=bind_some h;split at h;injection h with h;subst h;exactλl u=>(rX l u).elim
   cases h
 . split at h;split at h;injection h with h;subst h;intro l u;simp[DO.wr,DO.chk] at u;exactλl u=>(kJ h (λ_=>rfl) l u).elim
   cases h
 . split at h;injection h with h;subst h;exactλl u=>(rX l u).elim;injection h with h;subst h;exactλl u=>(rX l u).elim;injection h with h;subst h;exactλl u=>(rX l u).elim
   cases h
 . split at h;injection h with h;subst h;exactλl u=>(rX l u).elim
   cases h
 . split at h
   . split at h;exactλl u=>(kJ h (λ_=>rfl) l u).elim
     cases h
   cases h
 obtain⟨a,ha,h⟩:=bind_some h;exact WL h
 . split at h;exactλl u=>(kJ h (λ_=>rfl) l u).elim
   cases h
 . split at h
   . unfold uO at h;split at h;injection h with h;subst h;intro l u;simp[DO.wr] at u
     . split at h
       . split at h;injection h with h;subst h;intro l u;simp[DO.wr] at u
         cases h
       . split at h;injection h with h;subst h;intro l u;simp[DO.wr] at u
         cases h
       cases h
     . split at h;injection h with h;subst h;intro l u;simp[DO.wr] at u
       cases h
     cases h
   cases h
 . split at h
   . split at h;injection h with h;subst h;intro l u;simp[DO.wr,DO.chk] at u
     cases h
   cases h
 . split at h;exactλl u=>(kJ h (λ_=>rfl) l u).elim
   cases h
 . split at h
   . unfold ry at h;split at h
     . split at h;exactλl u=>(kJ h (λ_=>rfl) l u).elim
       cases h
     . split at h
       . split at h;injection h with h;subst h;exactλl u=>(rX l u).elim
         cases h
       cases h
     . split at h
       . split at h
         . split at h
           . unfold Iq at h;split at h;injection h with h;subst h;exactλl u=>(by simp[DO.chk,DO.wr] at u)
             cases h
           exact aav h
         cases h
       cases h
     cases h
   cases h
 cases h
theorem WN {P:Program}{ops:Array Oper}{nx i:Nat}{o:Oper}{env:Env}{σ:Sto}{x:EX}(h:Sp P ops nx i o env σ x){v:AV}{G:List (Nat×Option Obj)}(ho:x.out v G){l:Nat}(a:l∈G.map (·.1)):x.key.mks=true:=by
 cases h with
 |skip hg=>obtain ⟨_,rfl⟩:=ho;simp at a
 |op=>rfl
 |call=>rfl
theorem uw {P:Program}{ops:Array Oper}{nx i:Nat}{o:Oper}{env:Env}{σ:Sto}{x:EX}(h:Sp P ops nx i o env σ x){v:AV}{G:List (Nat×Option Obj)}(ho:x.out v G):∀l∈G.map (·.1),own nx i l=true\/(l∈x.key.wr/\(own nx i l=true\/σ l≠none)):=by
 cases h with
 |skip hg=>obtain ⟨_,rfl⟩:=ho;intro l a;simp at a
 |
  op hg h=>
  obtain⟨_,rfl⟩:=ho;intro l a
  cases hown:own nx i l with
  |true=>exact .inl rfl
  |
   false=>
   refine .inr ⟨Ir.2 ⟨a,by simp[hown]⟩,?_⟩;rcases WM h l a with rfl|h;simp[own] at hown;exact .inr h
 |
  call hg ho' hgo hc ha hb hbo hls hnd hno hpre=>
  rename_i f args ats as pre post ls;obtain⟨r,g,_,h1,h2,_,rfl⟩:=ho;intro l a;simp only[renG,vz] at a;obtain⟨p,u,rfl⟩:=iV.1 a;simp only[Function.comp];have y:p.2<g.length:=(by have:=WO u;simpa using this);unfold rho;split;rename_i hk;have d:p.2<pre.length:=(by omega);refine .inr ⟨?_,.inr (by rw[hpre p.2 _ (aV d)];simp)⟩;show ls.getD p.2 0∈ls;rw[pR,aV hk];exact dm hk;left;simp[own];omega
