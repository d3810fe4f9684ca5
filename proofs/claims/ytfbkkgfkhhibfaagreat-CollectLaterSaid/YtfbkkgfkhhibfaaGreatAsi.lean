/- Words. -/
import Derived.Test.YtfbkkgfkhhibfaaGreatAdv
set_option linter.unusedVariables false
set_option linter.unusedSimpArgs false
namespace AM
open Go Go.RowKit
mutual
theorem Qy:∀(v:AV) (ρ:Nat->Nat),v.lb 0=true->v.ren ρ=v
 | .own r n,_,h=>by simp[AV.lb] at h
 | .ptr l o,_,h=>by simp[AV.lb] at h
 | .rp r k i o,_,h=>by simp[AV.lb] at h
 | .agg cs,ρ,h=>by simp only[AV.ren];rw[xP cs ρ (by simpa [AV.lb] using h)]
 | .tup cs,ρ,h=>by simp only[AV.ren];rw[xP cs ρ (by simpa [AV.lb] using h)]
 | .tl cs,ρ,h=>by simp only[AV.ren];rw[xP cs ρ (by simpa [AV.lb] using h)]
 | .pv _,_,_=>rfl
 | .fp _ _,_,_=>rfl
 | .tp _ _,_,_=>rfl
 | .emp,_,_=>rfl
theorem xP:∀(vs:List AV) (ρ:Nat->Nat),AV.lbL 0 vs=true->AV.renL ρ vs=vs
 | [],_,_=>rfl
 |
  v::r,ρ,h=>by
  simp only[AV.lbL,cZ] at h
  simp only[AV.renL]
  rw[Qy v ρ h.1,xP r ρ h.2]
end
def kV (P:Program)(f:FuncId)(as:List AV)(Q:AV->Prop):Prop:=isGo P f=true/\AV.lbL 0 as=true/\ACall P f as [] (λr g=>g=[]/\r.lb 0=true/\Q r)
abbrev aem:Key:=⟨[],[],true,false,true⟩
abbrev Yd:Key:=⟨[],[],false,true,true⟩
theorem Jr {P:Program}{dr:Bool}{f:FuncId}{nx i:Nat}{dA:List (Option AV)}{σ:Sto}{K:AV->List (Nat×Option Obj)->Key->Prop}{as:List AV}{Q:AV->Prop}(hf:kV P f as Q)(y:dA=as.map some)(hi:dr=true->∃r:AV,r.lb 0=true/\Q r)(h:∀r,r.lb 0=true->Q r->K r [] Yd):lV P dr f nx i dA σ K:=by obtain⟨h1,h2,h3⟩:=hf;refine⟨as,[],_,[],h1,h3,by rw[xP as _ h2];exact y,h2,rfl,rfl,List.nodup_nil,rfl,λk o hk=>by simp at hk,λr g A h4 h5=>?_⟩;obtain⟨rfl,u,B⟩:=A;rw[Qy r _ u];exact h r u B
def Hq (els:List (List PV))(i:Int)(k:Nat)(F:List PV->Prop):Prop:=(0<=i/\∃row,els[i.toNat]?=some row/\row.length=k)/\∀row,els[i.toNat]?=some row->F row
theorem aB {α:Type}{l:List α}{f:α->List PV}{i:Int}{k:Nat}{F:List PV->Prop}{x:α}(h0:0<=i)(hx:l[i.toNat]?=some x)(hk:(f x).length=k)(hF:F (f x)):Hq (l.map f) i k F:=by have h1:(l.map f)[i.toNat]?=some (f x):=(by simp[hx]);exact⟨⟨h0,_,h1,hk⟩,λrow hr=>by rw[h1] at hr;injection hr with hr;rw[<-hr];exact hF⟩
theorem aj {els:List (List PV)}{i:Int}{k:Nat}{F:List PV->Prop}{x:List PV}(h0:0<=i)(h1:els[i.toNat]?=some x)(hk:x.length=k)(hF:F x):Hq els i k F:=
 ⟨⟨h0,_,h1,hk⟩,λrow hr=>by rw[h1] at hr;injection hr with hr;rw[<-hr];exact hF⟩
def abg (els:List (List PV))(i:Nat)(g:Bool)(k off:Nat)(F:AV->Prop):Prop:=(∃row v,els[i]?=some row/\vk g k (row.map .pv) off=some v)/\∀v,(∃row,els[i]?=some row/\vk g k (row.map .pv) off=some v)->F v
theorem yO {els:List (List PV)}{i:Nat}{g:Bool}{k off:Nat}{F:AV->Prop}{x:List PV}{v:AV}(h1:els[i]?=some x)(A:vk g k (x.map .pv) off=some v)(hF:F v):abg els i g k off F:=
 ⟨⟨
  _,_,h1,A⟩,λv' hr=>by
  obtain⟨row,u,y⟩:=hr
  rw[h1] at u
  injection u with u
  rw[<-u,A] at y
  injection y with y
  rw[<-y]
  exact hF⟩
@[congr] theorem abh {P:Program}{dr:Bool}{f:FuncId}{nx i:Nat}{dA u:List (Option AV)}{σ:Sto}{K:AV->List (Nat×Option Obj)->Key->Prop}(h:dA=u):lV P dr f nx i dA σ K=lV P dr f nx i u σ K:=by rw[h]
def Js (b:Bool)(X Y:Prop):Prop:=(b=true->X)/\(b=false->Y)
section
variable {P : Program} {ops : Array Oper} {nx i : Nat} {dr : Bool} {U : List (Nat × Nat)} {K : Env -> Sto -> Nat -> Prop} {log : List (Nat × Key)} {l : List Oper} {env : Env} {σ : Sto} {d : Option Nat} {ty : TypeId} {pos : String} {yg : Array Edge} {gd : Option (Nat × Bool)}
def vo (P:Program)(ops:Array Oper)(nx:Nat)(dr:Bool)(U:List (Nat×Nat))(K:Env->Sto->Nat->Prop)(log:List (Nat×Key))(o:Oper)(l:List Oper)(i:Nat)(env:Env)(σ:Sto):Prop:=
 vX P dr nx i o env σ (λv G key=>D9 nx U i key log/\vS P ops nx dr U K (Wl U i key log) l (i+1) (env.put o.dst v) (σ.upds G))
def ah2 (nx i:Nat)(d:DO):Key:=⟨d.rd,d.wr.filter (λl=>!own nx i l),d.det,false,true⟩
def vD (P:Program)(ops:Array Oper)(nx:Nat)(dr:Bool)(U:List (Nat×Nat))(K:Env->Sto->Nat->Prop)(log:List (Nat×Key))(dst:Option Nat)(l:List Oper)(i:Nat)(env:Env)(σ:Sto)(x:Option DO):Prop:=
 match x with
 |none=>False
 |some d=>d.ok/\d.det=true/\∀v,d.out v->D9 nx U i (ah2 nx i d) log/\vS P ops nx dr U K (Wl U i (ah2 nx i d) log) l (i+1) (env.put dst v) (σ.upds d.upd)
@[go_sem] theorem anL:vS P ops nx dr U K log [] i env σ=K env σ (nx+8*i):=rfl
@[go_sem] theorem aqM {op:Op} :vS P ops nx dr U K log (⟨d,op,ty,pos,yg,none⟩::l) i env σ=vo P ops nx dr U K log ⟨d,op,ty,pos,yg,none⟩ l i env σ:=rfl
def Jt (P:Program)(ops:Array Oper)(nx:Nat)(dr:Bool)(U:List (Nat×Nat))(K:Env->Sto->Nat->Prop)(log:List (Nat×Key))(o:Oper)(l:List Oper)(i:Nat)(env:Env)(σ:Sto)(want:Bool)(dg:Option Nat)(x:Option AV):Prop:=
 match x with
 |some (.pv (.sc (.bool b)))=>Js b (if want=true then vo P ops nx dr U K log o l i (env.put dg (.pv (.sc (.bool true)))) σ else vS P ops nx dr U K log l (i+1) ((env.put dg (.pv (.sc (.bool true)))).put o.dst (.tup [])) σ)
  (if want=true then vS P ops nx dr U K log l (i+1) ((env.put dg (.pv (.sc (.bool false)))).put o.dst (.tup [])) σ else vo P ops nx dr U K log o l i (env.put dg (.pv (.sc (.bool false)))) σ)
 |some (.tup [])=>vS P ops nx dr U K log l (i+1) (env.put o.dst (.tup [])) σ
 |_=>False
def Tz (ops:Array Oper)(g:Nat):Option Nat:=(ops[g]?).bind (·.dst)
def evO (env:Env):Option Nat->Option AV
 |some d=>env d
 |none=>none
@[go_sem] theorem aqO {op:Op}{g:Nat}{want:Bool} :vS P ops nx dr U K log (⟨d,op,ty,pos,yg,some (g,want)⟩::l) i env σ=Jt P ops nx dr U K log ⟨d,op,ty,pos,yg,some (g,want)⟩ l i env σ want (Tz ops g) (evO env (Tz ops g)):=by
 simp only[vS,vG,Jt,Tz,Js,vo]
 cases (ops[g]?).bind (·.dst) with
 |none=>rfl
 |some q=>rfl
@[go_sem] theorem ah3 {q:Nat} :evO env (some q)=env q:=rfl
theorem Ye {o:Oper}{want:Bool}{u:Option Nat} :Jt P ops nx dr U K log o l i env σ want u (some (.pv (.sc (.bool true))))=if want=true then vo P ops nx dr U K log o l i (env.put u (.pv (.sc (.bool true)))) σ else vS P ops nx dr U K log l (i+1) ((env.put u (.pv (.sc (.bool true)))).put o.dst (.tup [])) σ:=by simp[Jt,Js]
theorem Yf {o:Oper}{want:Bool}{u:Option Nat} :Jt P ops nx dr U K log o l i env σ want u (some (.pv (.sc (.bool false))))=if want=true then vS P ops nx dr U K log l (i+1) ((env.put u (.pv (.sc (.bool false)))).put o.dst (.tup [])) σ else vo P ops nx dr U K log o l i (env.put u (.pv (.sc (.bool false)))) σ:=by simp[Jt,Js]
@[go_sem] theorem anM {o:Oper}{u:Option Nat} :Jt P ops nx dr U K log o l i env σ true u (some (.pv (.sc (.bool true))))=vo P ops nx dr U K log o l i (env.put u (.pv (.sc (.bool true)))) σ:=by rw[Ye,if_pos rfl]
@[go_sem] theorem anN {o:Oper}{u:Option Nat} :Jt P ops nx dr U K log o l i env σ false u (some (.pv (.sc (.bool true))))=vS P ops nx dr U K log l (i+1) ((env.put u (.pv (.sc (.bool true)))).put o.dst (.tup [])) σ:=by rw[Ye,if_neg (by decide)]
@[go_sem] theorem anO {o:Oper}{u:Option Nat} :Jt P ops nx dr U K log o l i env σ true u (some (.pv (.sc (.bool false))))=vS P ops nx dr U K log l (i+1) ((env.put u (.pv (.sc (.bool false)))).put o.dst (.tup [])) σ:=by rw[Yf,if_pos rfl]
@[go_sem] theorem anP {o:Oper}{u:Option Nat} :Jt P ops nx dr U K log o l i env σ false u (some (.pv (.sc (.bool false))))=vo P ops nx dr U K log o l i (env.put u (.pv (.sc (.bool false)))) σ:=by rw[Yf,if_neg (by decide)]
@[go_sem] theorem anQ {o:Oper}{want:Bool}{u:Option Nat} :Jt P ops nx dr U K log o l i env σ want u (some (.tup []))=vS P ops nx dr U K log l (i+1) (env.put o.dst (.tup [])) σ:=rfl
theorem abj {o:Oper}{want:Bool}{u:Option Nat}{b:Bool}(y:b=true->Jt P ops nx dr U K log o l i env σ want u (some (.pv (.sc (.bool true)))))(hf:b=false->Jt P ops nx dr U K log o l i env σ want u (some (.pv (.sc (.bool false))))):Jt P ops nx dr U K log o l i env σ want u (some (.pv (.sc (.bool b)))):=by
 cases b
 exact hf rfl;exact y rfl
theorem aen {k:Key}(h1:k.rd=[])(h2:k.wr=[])(h3:k.isC=false):D9 nx U i k log:=λe _ _=>⟨λl _=>by simp[h1,h2],λl u=>(by rw[h2] at u;cases u),λ_ l u=>(by rw[h1,h2] at u;cases u),.inl h3⟩
@[go_sem] theorem anR {v:AV} :vD P ops nx dr U K log d l i env σ (some (.val v))=vS P ops nx dr U K (Wl U i aem log) l (i+1) (env.put d v) σ:=by simp only[vD,DO.val,yU];exact⟨λh=>(h.2.2 v rfl).2,λh=>⟨trivial,trivial,λu y=>⟨aen rfl rfl rfl,by rw[y];exact h⟩⟩⟩
@[go_sem] theorem anS {p:Prop}{v:AV} :vD P ops nx dr U K log d l i env σ (some (.chk p v))=(p/\vS P ops nx dr U K (Wl U i aem log) l (i+1) (env.put d v) σ):=by simp only[vD,DO.chk,yU];exact⟨λh=>⟨h.1,(h.2.2 v rfl).2⟩,λh=>⟨h.1,trivial,λu y=>⟨aen rfl rfl rfl,by rw[y];exact h.2⟩⟩⟩
def DO.eff (p:Prop)(v:AV)(rd:List Nat)(upd:List (Nat×Option Obj)):DO:=⟨p,λu=>u=v,rd,true,upd⟩
def ah4 (nx i:Nat)(rd:List Nat)(upd:List (Nat×Option Obj)):Key:=⟨rd,(upd.map (·.1)).filter (λl=>!own nx i l),true,false,true⟩
@[go_sem] theorem anT {p:Prop}{v:AV}{rd:List Nat}{upd:List (Nat×Option Obj)} :vD P ops nx dr U K log d l i env σ (some (.eff p v rd upd))=(p/\D9 nx U i (ah4 nx i rd upd) log/\vS P ops nx dr U K (Wl U i (ah4 nx i rd upd) log) l (i+1) (env.put d v) (σ.upds upd)):=by simp only[vD,DO.eff,yU];exact⟨λh=>⟨h.1,h.2.2 v rfl⟩,λh=>⟨h.1,trivial,λu y=>by rw[y];exact h.2⟩⟩
def DO.row (els:List (List PV))(i:Int)(k:Nat):DO:=⟨0<=i/\∃row,els[i.toNat]?=some row/\row.length=k,λu=>∃row,els[i.toNat]?=some row/\u= .fp row 0,[],true,[]⟩
@[go_sem] theorem anU {els:List (List PV)}{j:Int}{k:Nat} :vD P ops nx dr U K log d l i env σ (some (.row els j k))=Hq els j k (λrow=>vS P ops nx dr U K (Wl U i aem log) l (i+1) (env.put d (.fp row 0)) σ):=by simp only[vD,DO.row,Hq,yU];refine and_congr_right (λ_=>⟨λh row hr=>(h.2 _ ⟨row,hr,rfl⟩).2,λh=>⟨trivial,λv ⟨row,hr,u⟩=>⟨aen rfl rfl rfl,by rw[u];exact h row hr⟩⟩⟩)
def DO.ld (els:List (List PV))(i:Nat)(g:Bool)(k off r:Nat):DO:=⟨∃row v,els[i]?=some row/\vk g k (row.map .pv) off=some v,λu=>∃row,els[i]?=some row/\vk g k (row.map .pv) off=some u,[r],true,[]⟩
@[go_sem] theorem aqP {els:List (List PV)}{j k off r:Nat}{g:Bool} :vD P ops nx dr U K log d l i env σ (some (.ld els j g k off r))=abg els j g k off (λv=>D9 nx U i ⟨[r],[],true,false,true⟩ log/\vS P ops nx dr U K (Wl U i ⟨[r],[],true,false,true⟩ log) l (i+1) (env.put d v) σ):=by simp only[vD,DO.ld,abg,yU];exact and_congr_right (λ_=>⟨λh=>h.2,λh=>⟨trivial,h⟩⟩)
@[go_sem] theorem ak4 {x:Operand} :vo P ops nx dr U K log ⟨d,.move x,ty,pos,yg,gd⟩ l i env σ=vD P ops nx dr U K log d l i env σ ((ev env x).map DO.val):=rfl
@[go_sem] theorem af6 {x:Operand} :vo P ops nx dr U K log ⟨d,.assign x,ty,pos,yg,gd⟩ l i env σ=vD P ops nx dr U K log d l i env σ ((ev env x).map DO.val):=rfl
def Yg (c a b:Option AV):Option DO:=
 match c with
 |some (.pv (.sc (.bool t)))=>(if t=true then a else b).map DO.val
 |_=>none
@[go_sem] theorem ak5 {a b:Option AV} :Yg (some (.pv (.sc (.bool true)))) a b=a.map DO.val:=rfl
@[go_sem] theorem ak6 {a b:Option AV} :Yg (some (.pv (.sc (.bool false)))) a b=b.map DO.val:=rfl
@[go_sem] theorem ak7 {c a b:Operand} :vo P ops nx dr U K log ⟨d,.pick c a b,ty,pos,yg,gd⟩ l i env σ=vD P ops nx dr U K log d l i env σ (Yg (ev env c) (ev env a) (ev env b)):=rfl
@[go_sem] theorem ah5 {t:TypeId} :vo P ops nx dr U K log ⟨d,.alloc t,ty,pos,yg,gd⟩ l i env σ=vD P ops nx dr U K log d l i env σ ((dE P t).map λcs=> .eff True (.ptr (nx+8*i) 0) [] [(nx+8*i,some (.box cs))]):=rfl
@[go_sem] theorem anV {t:TypeId}{x:Operand} :vo P ops nx dr U K log ⟨d,.box t x,ty,pos,yg,gd⟩ l i env σ=vD P ops nx dr U K log d l i env σ ((ev env x).bind λv=>if (aJ v).all fB=true then some (.eff True (.ptr (nx+8*i) 0) [] [(nx+8*i,some (.box (aJ v)))]) else none):=rfl
def Yh (z:Option (List AV))(pl:Option (List (Nat×Nat)))(ps:Option (List (Nat×AV))):Option DO:=
 match z,pl,ps with
 |some zs,some pl,some ps=>(tC (λi=>pl[i]?) zs ps).map λcs=> .val (.agg cs)
 |_,_,_=>none
@[go_sem] theorem acS {zs:List AV}{pl:List (Nat×Nat)}{u:List (Nat×AV)} :Yh (some zs) (some pl) (some u)=(tC (λi=>pl[i]?) zs u).map λcs=> .val (.agg cs):=rfl
@[go_sem] theorem ah6 {t:TypeId}{parts:Array (Nat×Operand)} :vo P ops nx dr U K log ⟨d,.build t parts,ty,pos,yg,gd⟩ l i env σ=vD P ops nx dr U K log d l i env σ (Yh (dE P t) (bU P t) (evs (ev env) parts.toList)):=rfl
def dBs (el:Option (TypeId×Nat×Nat))(n:Nat)(e:Operand->Option AV)(parts:List (Nat×Operand)):Option DO:=
 match el with
 |some (_,k,_)=>if n=0 then (if parts.length=0 then some (.val .emp) else none) else if parts.length=n/\n*k<=2^24 then (if Nu e parts=true then dBV k n e parts else (rowsOf e k 0 parts).map λrows=> .val (.pv (.sl rows))) else none
 |none=>none
@[go_sem] theorem ah7 {u k b n:Nat}{e:Operand->Option AV}{parts:List (Nat×Operand)} :dBs (some (u,k,b)) n e parts=if n=0 then (if parts.length=0 then some (.val .emp) else none) else if parts.length=n/\n*k<=2^24 then (if Nu e parts=true then dBV k n e parts else (rowsOf e k 0 parts).map λrows=> .val (.pv (.sl rows))) else none:=rfl
@[go_sem] theorem ah8 {e:Operand->Option AV}{j:Nat}{x:Operand} :Nu e [(j,x)]=aeo (e x):=rfl
@[go_sem] theorem ah9 {e:Operand->Option AV}{p q:Nat×Operand}{r:List (Nat×Operand)} :Nu e (p::q::r)=false:=rfl
@[go_sem] theorem af7 {v:AV} :aeo (some v)=(aJ v).any Hr:=rfl
@[go_sem] theorem aia {p:PV} :Hr (.pv p)=false:=rfl
@[go_sem] theorem af8:Hr .emp=false:=rfl
@[go_sem] theorem af9 {r n:Nat} :Hr (.own r n)=true:=rfl
@[go_sem] theorem UY:∀ {l:List PV},(l.map AV.pv).any Hr=false
 | []=>rfl
 |p::l=>by rw[kH,List.any_cons,UY];rfl
@[go_sem] theorem ak8 {k n:Nat}{e:Operand->Option AV}{x:Operand} :dBV k n e [(0,x)]=(e x).bind λv=>if (aJ v).length=k/\(aJ v).all fB=true/\k<=2^24/\n=1 then some (.val (.tl (aJ v))) else none:=rfl
attribute [go_sem] List.any_cons List.any_nil Bool.false_or Bool.true_or Bool.or_false
def aib (m k:Nat)(o:Option (List PV))(rest:Option (List (List PV))):Option (List (List PV)):=
 match o,rest with
 |some ps,some rs=>if ps.length=k then some (ps::rs) else none
 |_,_=>none
@[go_sem] theorem aga {m k:Nat}{u:List PV}{rs:List (List PV)} :aib m k (some u) (some rs)=if u.length=k then some (u::rs) else none:=rfl
@[go_sem] theorem aep {e:Operand->Option AV}{k m:Nat} :rowsOf e k m []=some []:=rfl
@[go_sem] theorem acT {e:Operand->Option AV}{k m j:Nat}{x:Operand}{r:List (Nat×Operand)} :rowsOf e k m ((j,x)::r)=if j=m then aib m k ((e x).bind λv=>oq (aJ v)) (rowsOf e k (m+1) r) else none:=rfl
@[go_sem] theorem ak9 {e:Operand->Option AV} :evs e []=some []:=rfl
def evC (j:Nat)(x:Option AV)(r:Option (List (Nat×AV))):Option (List (Nat×AV)):=
 match x,r with
 |some v,some l=>some ((j,v)::l)
 |_,_=>none
@[go_sem] theorem aic {j:Nat}{v:AV}{l:List (Nat×AV)} :evC j (some v) (some l)=some ((j,v)::l):=rfl
@[go_sem] theorem aid {e:Operand->Option AV}{j:Nat}{x:Operand}{r:List (Nat×Operand)} :evs e ((j,x)::r)=evC j (e x) (evs e r):=rfl
@[go_sem] theorem aeq {cs:List AV} :aJ (.agg cs)=cs:=rfl
@[go_sem] theorem agb {p:PV} :aJ (.pv p)=[.pv p]:=rfl
@[go_sem] theorem aer {r n:Nat} :aJ (.own r n)=[.own r n]:=rfl
@[go_sem] theorem aes {r n:Nat} :aJ (.ptr r n)=[.ptr r n]:=rfl
@[go_sem] theorem anW {p:PV} :toP (.pv p)=some p:=rfl
@[go_sem] theorem ala:toP .emp=some (.sl []):=rfl
@[go_sem] theorem aie:oq []=some []:=rfl
def aif (p:Option PV)(ps:Option (List PV)):Option (List PV):=
 match p,ps with
 |some p,some ps=>some (p::ps)
 |_,_=>none
@[go_sem] theorem agc {p:PV}{u:List PV} :aif (some p) (some u)=some (p::u):=rfl
@[go_sem] theorem agd {v:AV}{r:List AV} :oq (v::r)=aif (toP v) (oq r):=rfl
def acU (f:Nat->Option (Nat×Nat))(cells:List AV)(v:AV)(q:Option (Nat×Nat))(r:List (Nat×AV)):Option (List AV):=
 match q with
 |none=>none
 |some (off,size)=>if (aJ v).length=size/\off+size<=cells.length/\(aJ v).all fB=true then tC f (fG cells off (aJ v)) r else none
@[go_sem] theorem aet {f:Nat->Option (Nat×Nat)}{cells:List AV}{v:AV}{off size:Nat}{r:List (Nat×AV)} :acU f cells v (some (off,size)) r=if (aJ v).length=size/\off+size<=cells.length/\(aJ v).all fB=true then tC f (fG cells off (aJ v)) r else none:=rfl
@[go_sem] theorem age {f:Nat->Option (Nat×Nat)}{cells:List AV} :tC f cells []=some cells:=rfl
@[go_sem] theorem aeu {f:Nat->Option (Nat×Nat)}{cells:List AV}{j:Nat}{v:AV}{r:List (Nat×AV)} :tC f cells ((j,v)::r)=acU f cells v (f j) r:=rfl
@[go_sem] theorem agf {p:PV} :fB (.pv p)=true:=rfl
@[go_sem] theorem aev:fB .emp=true:=rfl
@[go_sem] theorem aew {r n:Nat} :fB (.own r n)=true:=rfl
@[go_sem] theorem aex {r n:Nat} :fB (.ptr r n)=true:=rfl
@[go_sem] theorem aao {t:TypeId}{n:Nat}{parts:Array (Nat×Operand)} :vo P ops nx dr U K log ⟨d,.buildSlice t n parts,ty,pos,yg,gd⟩ l i env σ=vD P ops nx dr U K log d l i env σ (dBs (aS P t) n (ev env) parts.toList):=rfl
@[go_sem] theorem alb {t:TypeId}{x:Operand} :vo P ops nx dr U K log ⟨d,.load t x,ty,pos,yg,gd⟩ l i env σ=vD P ops nx dr U K log d l i env σ ((ev env x).bind (lH P σ t)):=rfl
@[go_sem] theorem aih {t:TypeId}{x y:Operand} :vo P ops nx dr U K log ⟨none,.store t x y,ty,pos,yg,gd⟩ l i env σ=vD P ops nx dr U K log none l i env σ ((ev env x).bind λa=>(ev env y).bind λv=>jV P σ t a v):=rfl
@[go_sem] theorem acV {x:Operand} :vo P ops nx dr U K log ⟨d,.nilCheck x,ty,pos,yg,gd⟩ l i env σ=vD P ops nx dr U K log d l i env σ ((ev env x).bind λv=>if Yi v=true then some (.val v) else none):=rfl
def rP (P:Program)(t:TypeId)(op:BinOp)(x y:Option AV):Option DO:=
 match x,y with
 |
  some (.pv (.sc a)),some (.pv (.sc b))=>match tH op a b with
  |some (p,v)=>some (.chk p (.pv (.sc v)))
  |none=>(Yj P t op a b).map λv=> .val (.pv (.sc v))
 |_,_=>none
@[go_sem] theorem aii {op:BinOp}{t u:TypeId}{x y:Operand} :vo P ops nx dr U K log ⟨d,.binOp op t x y u,ty,pos,yg,gd⟩ l i env σ=vD P ops nx dr U K log d l i env σ (rP P t op (ev env x) (ev env y)):=rfl
variable {t : TypeId} {k : IntKind} {a b : Int} {s s' : ByteArray} {p q : Bool}
abbrev iv (k:IntKind)(n:Int):Option AV:=some (.pv (.sc (.int k n)))
theorem jg {op:BinOp}{p:Prop}{v:Value}(h:tH op (.int k a) (.int k b)=some (p,v)):rP P t op (iv k a) (iv k b)=some (.chk p (.pv (.sc v))):=by simp only[rP,iv,h]
@[go_sem] theorem aij:rP P t .add (some (.pv (.sc (.int k a)))) (some (.pv (.sc (.int k b))))=some (.val (.pv (.sc (.int k (k.wrap (a+b)))))):=jg (p:=True) (v:= .int k (k.wrap (a+b))) (by simp[tH])
@[go_sem] theorem aik:rP P t .sub (some (.pv (.sc (.int k a)))) (some (.pv (.sc (.int k b))))=some (.val (.pv (.sc (.int k (k.wrap (a-b)))))):=jg (p:=True) (v:= .int k (k.wrap (a-b))) (by simp[tH])
@[go_sem] theorem ail:rP P t .mul (some (.pv (.sc (.int k a)))) (some (.pv (.sc (.int k b))))=some (.val (.pv (.sc (.int k (k.wrap (a*b)))))):=jg (p:=True) (v:= .int k (k.wrap (a*b))) (by simp[tH])
@[go_sem] theorem aim:rP P t .quo (some (.pv (.sc (.int k a)))) (some (.pv (.sc (.int k b))))=some (.chk (b≠0) (.pv (.sc (.int k (k.wrap (a.tdiv b)))))):=jg (by simp[tH])
@[go_sem] theorem ain:rP P t .rem (some (.pv (.sc (.int k a)))) (some (.pv (.sc (.int k b))))=some (.chk (b≠0) (.pv (.sc (.int k (a.tmod b))))):=jg (by simp[tH])
@[go_sem] theorem aio:rP P t .eql (some (.pv (.sc (.int k a)))) (some (.pv (.sc (.int k b))))=some (.val (.pv (.sc (.bool (a==b))))):=jg (p:=True) (v:= .bool (a==b)) (by simp[tH])
@[go_sem] theorem aip:rP P t .neq (some (.pv (.sc (.int k a)))) (some (.pv (.sc (.int k b))))=some (.val (.pv (.sc (.bool (a !=b))))):=jg (p:=True) (v:= .bool (a !=b)) (by simp[tH])
@[go_sem] theorem aiq:rP P t .lss (some (.pv (.sc (.int k a)))) (some (.pv (.sc (.int k b))))=some (.val (.pv (.sc (.bool (decide (a<b)))))):=jg (p:=True) (v:= .bool (decide (a<b))) (by simp[tH])
@[go_sem] theorem air:rP P t .leq (some (.pv (.sc (.int k a)))) (some (.pv (.sc (.int k b))))=some (.val (.pv (.sc (.bool (decide (a<=b)))))):=jg (p:=True) (v:= .bool (decide (a<=b))) (by simp[tH])
@[go_sem] theorem ais:rP P t .gtr (some (.pv (.sc (.int k a)))) (some (.pv (.sc (.int k b))))=some (.val (.pv (.sc (.bool (decide (b<a)))))):=jg (p:=True) (v:= .bool (decide (b<a))) (by simp[tH])
@[go_sem] theorem ait:rP P t .geq (some (.pv (.sc (.int k a)))) (some (.pv (.sc (.int k b))))=some (.val (.pv (.sc (.bool (decide (b<=a)))))):=jg (p:=True) (v:= .bool (decide (b<=a))) (by simp[tH])
@[go_sem] theorem aiu:rP P t .eql (some (.pv (.sc (.string s)))) (some (.pv (.sc (.string s'))))=some (.val (.pv (.sc (.bool (s.toList==s'.toList))))):=rfl
@[go_sem] theorem aiv:rP P t .neq (some (.pv (.sc (.string s)))) (some (.pv (.sc (.string s'))))=some (.val (.pv (.sc (.bool (!(s.toList==s'.toList)))))):=rfl
@[go_sem] theorem aiw:rP P t .neq (some (.pv (.sc (.bool p)))) (some (.pv (.sc (.bool q))))=if Nv P t=true then some (.val (.pv (.sc (.bool (!(p==q)))))) else none:=by simp only[rP,tH,Yj];split<;>rfl
def dUn (op:UnOp)(x:Option AV):Option DO:=
 match op,x with
 | .not,some (.pv (.sc (.bool b)))=>some (.val (.pv (.sc (.bool (!b)))))
 | .neg,some (.pv (.sc (.int k n)))=>some (.val (.pv (.sc (.int k (k.wrap (0-n))))))
 | .xor,some (.pv (.sc (.int k n)))=>some (.val (.pv (.sc (.int k (bits .xor k (if k.signed then -1 else k.max) n)))))
 |_,_=>none
@[go_sem] theorem alc:dUn .not (some (.pv (.sc (.bool p))))=some (.val (.pv (.sc (.bool (!p))))):=rfl
@[go_sem] theorem ald {op:UnOp}{x:Operand} :vo P ops nx dr U K log ⟨d,.unOp op t x,ty,pos,yg,gd⟩ l i env σ=vD P ops nx dr U K log d l i env σ (dUn op (ev env x)):=rfl
def acW (s t:Option IntKind)(x:Option AV):Option DO:=
 match s,t,x with
 |some _,some k',some (.pv (.sc (.int k n)))=>some (.val (.pv (.sc (.int k' (k'.wrap n)))))
 |_,_,_=>none
@[go_sem] theorem aey {k0 u:IntKind} :acW (some k0) (some u) (some (.pv (.sc (.int k a))))=some (.val (.pv (.sc (.int u (u.wrap a))))):=rfl
@[go_sem] theorem aez {s t:TypeId}{x:Operand} :vo P ops nx dr U K log ⟨d,.convert s t x,ty,pos,yg,gd⟩ l i env σ=vD P ops nx dr U K log d l i env σ (acW (Ju P s) (Ju P t) (ev env x)):=rfl
def Yk (el:Option (TypeId×Nat×Nat))(z:TypeId->Option (List AV))(x y:Option AV):Option DO:=
 match el,x,y with
 |some (el,k,_),some (.pv (.sc (.int ik n))),some (.pv (.sc (.int ik' n')))=>if n=n' then ((z el).bind oq).map λps=> .chk (0<=n/\n<=100000) (.pv (.sl (List.replicate n.toNat ps))) else none
 |_,_,_=>none
@[go_sem] theorem aeA {u y bb:Nat}{z:TypeId->Option (List AV)}{k A:IntKind} :Yk (some (u,y,bb)) z (some (.pv (.sc (.int k a)))) (some (.pv (.sc (.int A a))))=((z u).bind oq).map λB=> .chk (0<=a/\a<=100000) (.pv (.sl (List.replicate a.toNat B))):=by simp[Yk]
@[go_sem] theorem ale {x y:Operand} :vo P ops nx dr U K log ⟨d,.makeSlice t x y,ty,pos,yg,gd⟩ l i env σ=vD P ops nx dr U K log d l i env σ (Yk (aS P t) (dE P) (ev env x) (ev env y)):=rfl
@[go_sem] theorem aiy {x:Operand}{lo hi:Option Operand} :vo P ops nx dr U K log ⟨d,.slice t x lo hi none,ty,pos,yg,gd⟩ l i env σ=vD P ops nx dr U K log d l i env σ ((ev env x).bind λa=>mY P (ev env) σ (nx+8*i) t a lo hi):=rfl
def aiz (f:Option Nat)(x:Option AV):Option DO:=
 match f,x with
 |some off,some v=>(UZ off v).map DO.val
 |_,_=>none
@[go_sem] theorem agh {off:Nat}{v:AV} :aiz (some off) (some v)=(UZ off v).map DO.val:=rfl
@[go_sem] theorem abk {x:Operand}{j:Nat} :vo P ops nx dr U K log ⟨d,.fieldAddr t x j,ty,pos,yg,gd⟩ l i env σ=vD P ops nx dr U K log d l i env σ (aiz (aU P t j) (ev env x)):=rfl
def dIx (P:Program)(σ:Sto)(t:TypeId)(x y:Option AV):Option DO:=
 match x,y with
 |some a,some (.pv (.sc (.int _ i)))=>uO P σ t a i
 |_,_=>none
@[go_sem] theorem aiA {v:AV} :dIx P σ t (some v) (some (.pv (.sc (.int k a))))=uO P σ t v a:=rfl
@[go_sem] theorem abl {x y:Operand} :vo P ops nx dr U K log ⟨d,.indexAddr t x y,ty,pos,yg,gd⟩ l i env σ=vD P ops nx dr U K log d l i env σ (dIx P σ t (ev env x) (ev env y)):=rfl
def dIs (st:Bool)(x y:Option AV):Option DO:=
 match x,y with
 |some (.pv (.sc (.string s))),some (.pv (.sc (.int _ i)))=>if st=true then some (.chk (0<=i/\i<s.size) (.pv (.sc (.int .u8 ((s[i.toNat]?).getD 0).toNat)))) else none
 |_,_=>none
@[go_sem] theorem aiB:dIs true (some (.pv (.sc (.string s)))) (some (.pv (.sc (.int k a))))=some (.chk (0<=a/\a<s.size) (.pv (.sc (.int .u8 ((s[a.toNat]?).getD 0).toNat)))):=rfl
@[go_sem] theorem aiC {x y:Operand} :vo P ops nx dr U K log ⟨d,.index t x y,ty,pos,yg,gd⟩ l i env σ=vD P ops nx dr U K log d l i env σ (dIs (Qz P t) (ev env x) (ev env y)):=rfl
def dEx (x:Option AV)(j:Nat):Option DO:=
 match x with
 |some (.tup vs)=>(vs[j]?).map DO.val
 |_=>none
@[go_sem] theorem aiD {vs:List AV}{j:Nat} :dEx (some (.tup vs)) j=(vs[j]?).map DO.val:=rfl
@[go_sem] theorem aeB {x:Operand}{j:Nat} :vo P ops nx dr U K log ⟨d,.extract x j,ty,pos,yg,gd⟩ l i env σ=vD P ops nx dr U K log d l i env σ (dEx (ev env x) j):=rfl
@[go_sem] theorem anX {x:Operand} :vo P ops nx dr U K log ⟨d,.call { callee:= .builtin .len,args:=#[x],argTypes:=#[t] },ty,pos,yg,gd⟩ l i env σ=vD P ops nx dr U K log d l i env σ ((ev env x).bind λv=>(lenOf P t v).map λ(n:Nat)=>DO.val (.pv (.sc (.int .i64 (n:Int))))):=by
 show vD P ops nx dr U K log d l i env σ _=_;congr 1;simp only[dop,ry]
 cases ev env x<;>rfl
def aeC (x y:Option AV):Option DO:=
 match x,y with
 |some (.pv (.sc (.int k a))),some (.pv (.sc (.int k' b)))=>if k=k' then some (.val (.pv (.sc (.int k (if b>a then b else a))))) else none
 |_,_=>none
@[go_sem] theorem agi:aeC (some (.pv (.sc (.int k a)))) (some (.pv (.sc (.int k b))))=some (.val (.pv (.sc (.int k (if a<b then b else a))))):=by simp[aeC]
@[go_sem] theorem anY {x y:Operand}{ats:Array TypeId} :vo P ops nx dr U K log ⟨d,.call { callee:= .builtin .max,args:=#[x,y],argTypes:=ats },ty,pos,yg,gd⟩ l i env σ=vD P ops nx dr U K log d l i env σ (aeC (ev env x) (ev env y)):=rfl
def QA (b:Bool)(P:Program)(σ:Sto)(lab:Nat)(t:TypeId)(x y:AV):Option DO:=
 match b with
 |true=>Iq P t x y
 |false=>qH P σ lab t x y
theorem abm {b:Bool}{x y:AV}{u:Nat} :QA b P σ u t x y=if b=true then Iq P t x y else qH P σ u t x y:=by cases b<;>rfl
@[go_sem] theorem anZ {x y:AV}{u:Nat} :QA false P σ u t x y=qH P σ u t x y:=rfl
def Yl (el:Option (TypeId×Nat×Nat))(ys:List (List PV)):Option DO:=
 match el with
 |some (_,k,_)=>some (.chk (ys.length<=100000000/\∀row∈ys,row.length=k) (.pv (.sl ys)))
 |none=>none
@[go_sem] theorem agj {y u bb:Nat}{ys:List (List PV)} :Yl (some (y,u,bb)) ys=some (.chk (ys.length<=100000000/\∀row∈ys,row.length=u) (.pv (.sl ys))):=rfl
@[go_sem] theorem an0 {ys:List (List PV)}{u:Nat} :QA true P σ u t .emp (.pv (.sl ys))=Yl (aS P t) ys:=by
 unfold QA Iq Yl
 cases aS P t with
 |none=>rfl
 |some q=>obtain ⟨y,A,B⟩:=q;rfl
@[go_sem] theorem alf {u:Nat} :QA true P σ u t .emp .emp=Yl (aS P t) []:=by
 unfold QA Iq Yl
 cases aS P t with
 |none=>rfl
 |some q=>obtain ⟨y,A,B⟩:=q;rfl
@[go_sem] theorem agk {x y:Operand} :vo P ops nx dr U K log ⟨d,.call { callee:= .builtin .append,args:=#[x,y],argTypes:=#[t,t] },ty,pos,yg,gd⟩ l i env σ=vD P ops nx dr U K log d l i env σ ((ev env x).bind λa=>(ev env y).bind λb=>QA (fzA x y) P σ (nx+8*i) t a b):=by
 show vD P ops nx dr U K log d l i env σ _=_;congr 1;simp only[dop,ry]
 cases ev env x<;>cases ev env y<;>simp[abm]
@[go_sem] theorem alg {i j:Nat} :fzA (.tmp i) (.tmp j)=if i=31 then (if j=37 then true else false) else if i=23 then (if j=28 then true else false) else if i=123 then (if j=124 then true else false) else false:=rfl
@[go_sem] theorem alh {f:FuncId}{args:Array Operand}{ats:Array TypeId} :vo P ops nx dr U K log ⟨d,.call { callee:= .value (.func f),args:=args,argTypes:=ats },ty,pos,yg,gd⟩ l i env σ=lV P dr f nx i (args.toList.map (ev env)) σ (λv G key=>D9 nx U i key log/\vS P ops nx dr U K (Wl U i key log) l (i+1) (env.put d v) (σ.upds G)):=rfl
@[go_sem] theorem an2 {t:Nat} :ev env (.tmp t)=env t:=rfl
@[go_sem] theorem an3:ev env (.const (.int k a))=some (.pv (.sc (.int k a))):=rfl
@[go_sem] theorem ali:ev env (.const (.bool p))=some (.pv (.sc (.bool p))):=rfl
@[go_sem] theorem agl:ev env (.const (.string s))=some (.pv (.sc (.string s))):=rfl
@[go_sem] theorem an4:ev env (.const (.slice none 0 0))=some .emp:=rfl
@[go_sem] theorem an5 {l:List Value} :ev env (.const (.agg l.toArray))=if l.all (·.oneCell')=true then some (.agg (l.map Um)) else none:=by show (if l.toArray.all (·.oneCell')=true then _ else none)=_;rw[List.all_toArray]
@[go_sem] theorem an6:Value.oneCell' (.int k a)=true:=rfl
@[go_sem] theorem an7:Value.oneCell' (.string s)=true:=rfl
@[go_sem] theorem an8:Value.oneCell' (.slice none 0 0)=true:=rfl
@[go_sem] theorem alj:Um (.slice none 0 0)= .emp:=rfl
@[go_sem] theorem alk:Um (.int k a)= .pv (.sc (.int k a)):=rfl
@[go_sem] theorem aeD:Um (.string s)= .pv (.sc (.string s)):=rfl
@[go_sem] theorem aiE {e t:Nat}{v:AV} :(env.put (some e) v) t=if t=e then some v else env t:=rfl
@[go_sem] theorem aiF {v:AV} :env.put none v=env:=rfl
@[go_sem] theorem aeE {e:Nat}{v:AV}{r:List (Nat×AV)} :jh ((e,v)::r)=(jh r).put (some e) v:=rfl
@[go_sem] theorem agm {t:Nat} :jh [] t=none:=rfl
@[go_sem] theorem agn {e:Nat}{o:Option Obj}{r:List (Nat×Option Obj)} :σ.upds ((e,o)::r)=(σ.upd e o).upds r:=rfl
@[go_sem] theorem aiG:σ.upds []=σ:=rfl
@[go_sem] theorem alm {e t:Nat}{o:Option Obj} :(σ.upd e o) t=if t=e then o else σ t:=rfl
@[go_sem] theorem aln {key:Key} :Wl [] i key log=log:=rfl
@[go_sem] theorem aiH {key:Key} :D9 nx U i key []=True:=by simp[D9]
@[go_sem] theorem aiI {off e j:Nat} :UZ off (.ptr e j)=some (.ptr e (j+off)):=rfl
@[go_sem] theorem alo {off r n j e:Nat} :UZ off (.rp r n j e)=some (.rp r n j (e+off)):=rfl
@[go_sem] theorem alp {off j:Nat}{row:List PV} :UZ off (.fp row j)=some (.fp row (j+off)):=rfl
@[go_sem] theorem agp {e j:Nat} :Yi (.ptr e j)=true:=rfl
@[go_sem] theorem aiJ {els:List (List PV)} :lenOf P t (.pv (.sl els))=if (aS P t).isSome=true then some els.length else none:=rfl
@[go_sem] theorem agq {r n:Nat} :lenOf P t (.own r n)=if (aS P t).isSome=true then some n else none:=rfl
@[go_sem] theorem agr:lenOf P t (.pv (.sc (.string s)))=if Qz P t=true then some s.size else none:=rfl
def Ym (el:Option (TypeId×Nat×Nat))(els:List (List PV))(i:Int):Option DO:=
 match el with
 |some (_,k,_)=>some (.row els i k)
 |none=>none
@[go_sem] theorem aeF {y u bb:Nat}{els:List (List PV)} :Ym (some (y,u,bb)) els a=some (.row els a u):=rfl
@[go_sem] theorem alq {els:List (List PV)} :uO P σ t (.pv (.sl els)) a=Ym (aS P t) els a:=by
 unfold uO Ym
 cases aS P t<;>rfl
def TA (el:Option (TypeId×Nat×Nat))(o:Option Obj)(r n:Nat)(i:Int):Option DO:=
 match el,o with
 |some (_,k,_),some (.row ty k' els)=>if k'=k/\els.length=n then some (.eff (0<=i/\i<n) (.rp r k i.toNat 0) [r] []) else none
 |some (_,k,_),some (.rov ty k' els _ _)=>if k'=k/\els.length=n then some (.eff (0<=i/\i<n) (.rp r k i.toNat 0) [r] []) else none
 |_,_=>none
@[go_sem] theorem aeG {A u bb r n ty y:Nat}{els:List (List PV)} :TA (some (A,u,bb)) (some (.row ty y els)) r n a=if y=u/\els.length=n then some (.eff (0<=a/\a<n) (.rp r u a.toNat 0) [r] []) else none:=rfl
@[go_sem] theorem ags {A u bb r n ty y B:Nat}{els:List (List PV)}{cs:List AV} :TA (some (A,u,bb)) (some (.rov ty y els B cs)) r n a=if y=u/\els.length=n then some (.eff (0<=a/\a<n) (.rp r u a.toNat 0) [r] []) else none:=rfl
@[go_sem] theorem aiK {r n:Nat} :uO P σ t (.own r n) a=TA (aS P t) (σ r) r n a:=by
 unfold uO TA
 cases aS P t with
 |none=>rfl
 |
  some q=>
  obtain⟨u,y,A⟩:=q;dsimp only
  cases σ r with
  |none=>rfl
  |some o=>cases o<;>rfl
def aeH (ly:Option (Bool×Nat))(o:Option Obj)(e off:Nat):Option DO:=
 match ly,o with
 |some (g,k),some (.box cs)=>(vk g k cs off).map λv=> .eff True v [e] []
 |_,_=>none
@[go_sem] theorem agt {g:Bool}{u e off:Nat}{cs:List AV} :aeH (some (g,u)) (some (.box cs)) e off=(vk g u cs off).map λv=> .eff True v [e] []:=rfl
@[go_sem] theorem agu {e off:Nat} :lH P σ t (.ptr e off)=aeH (lay P t) (σ e) e off:=by
 unfold lH aeH
 cases lay P t with
 |none=>rfl
 |
  some q=>
  obtain⟨u,y⟩:=q;dsimp only
  cases σ e with
  |none=>rfl
  |some o=>cases o<;>rfl
def aeI (ly:Option (Bool×Nat))(row:List PV)(off:Nat):Option DO:=
 match ly with
 |some (g,k)=>(vk g k (row.map .pv) off).map DO.val
 |none=>none
@[go_sem] theorem agv {g:Bool}{u off:Nat}{row:List PV} :aeI (some (g,u)) row off=(vk g u (row.map .pv) off).map DO.val:=rfl
@[go_sem] theorem aiL {row:List PV}{off:Nat} :lH P σ t (.fp row off)=aeI (lay P t) row off:=by
 unfold lH aeI
 cases lay P t<;>rfl
def abn (ly:Option (Bool×Nat))(o:Option Obj)(r k' j off:Nat):Option DO:=
 match ly,o with
 |some (g,k),some (.row ty k2 els)=>if k2=k' then some (.ld els j g k off r) else none
 |some (g,k),some (.rov ty k2 els i2 cs)=>if k2=k'/\i2=j then (vk g k cs off).map λv=> .eff True v [r] [] else none
 |_,_=>none
@[go_sem] theorem agw {g:Bool}{u r y j off ty A:Nat}{els:List (List PV)} :abn (some (g,u)) (some (.row ty A els)) r y j off=if A=y then some (.ld els j g u off r) else none:=rfl
@[go_sem] theorem aiM {g:Bool}{u r y j off ty A B:Nat}{els:List (List PV)}{cs:List AV} :abn (some (g,u)) (some (.rov ty A els B cs)) r y j off=if A=y/\B=j then (vk g u cs off).map λv=> .eff True v [r] [] else none:=rfl
@[go_sem] theorem aiN {r u j off:Nat} :lH P σ t (.rp r u j off)=abn (lay P t) (σ r) r u j off:=by
 unfold lH abn
 cases lay P t with
 |none=>rfl
 |
  some q=>
  obtain⟨y,A⟩:=q;dsimp only
  cases σ r with
  |none=>rfl
  |some o=>cases o<;>rfl
@[go_sem] theorem alr {u off:Nat}{cs:List AV} :vk false u cs off=cs[off]?:=rfl
@[go_sem] theorem als {u off:Nat}{cs:List AV} :vk true u cs off=if off+u<=cs.length then some (.agg ((cs.drop off).take u)) else none:=rfl
def aeJ (ly:Option (Bool×Nat))(o:Option Obj)(e off:Nat)(v:AV):Option DO:=
 match ly,o with
 |some (g,k),some (.box cs)=>if (aJ v).length=k/\(aJ v).all fB=true/\off+k<=cs.length then some (.eff True .emp [] [(e,some (.box (fG cs off (aJ v))))]) else none
 |_,_=>none
@[go_sem] theorem agx {g:Bool}{u e off:Nat}{cs:List AV}{v:AV} :aeJ (some (g,u)) (some (.box cs)) e off v=if (aJ v).length=u/\(aJ v).all fB=true/\off+u<=cs.length then some (.eff True .emp [] [(e,some (.box (fG cs off (aJ v))))]) else none:=rfl
@[go_sem] theorem aeK {e off:Nat}{v:AV} :jV P σ t (.ptr e off) v=aeJ (lay P t) (σ e) e off v:=by
 unfold jV aeJ
 cases lay P t with
 |none=>rfl
 |
  some q=>
  obtain⟨u,y⟩:=q;dsimp only
  cases σ e with
  |none=>rfl
  |some o=>cases o<;>rfl
def abo (ly:Option (Bool×Nat))(o:Option Obj)(ps:Option (List PV))(r k' j off:Nat):Option DO:=
 match ly,o,ps with
 |some (g,k),some (.row ty k2 els),some ps=>if k2=k'/\ps.length=k/\off+k<=k' then some (.eff (j<els.length) .emp [] [(r,some (.row ty k' (els.modify j (λrow=>fG row off ps))))]) else none
 |some (g,k),some (.rov ty k2 els i2 cs),some ps=>if (k2=k'/\k'=k)/\i2=j/\off=0/\ps.length=k then some (.eff True .emp [] [(r,some (.row ty k' (els.set j ps)))]) else none
 |_,_,_=>none
@[go_sem] theorem agy {g:Bool}{y r u j off ty B:Nat}{els:List (List PV)}{A:List PV} :abo (some (g,y)) (some (.row ty B els)) (some A) r u j off=if B=u/\A.length=y/\off+y<=u then some (.eff (j<els.length) .emp [] [(r,some (.row ty u (els.modify j (λrow=>fG row off A))))]) else none:=rfl
@[go_sem] theorem aiO {g:Bool}{y r u j off ty B D:Nat}{els:List (List PV)}{cs:List AV}{A:List PV} :abo (some (g,y)) (some (.rov ty B els D cs)) (some A) r u j off=if (B=u/\u=y)/\D=j/\off=0/\A.length=y then some (.eff True .emp [] [(r,some (.row ty u (els.set j A)))]) else none:=rfl
@[go_sem] theorem agz {r u j off:Nat}{v:AV} :jV P σ t (.rp r u j off) v=abo (lay P t) (σ r) (oq (aJ v)) r u j off:=by
 unfold jV abo
 cases lay P t with
 |none=>rfl
 |
  some q=>
  obtain⟨y,A⟩:=q;dsimp only
  cases σ r with
  |none=>cases oq (aJ v)<;>rfl
  |some o=>cases o<;>cases oq (aJ v)<;>rfl
def dAp (el:Option (TypeId×Nat×Nat))(o:Option Obj)(ys:Option PV)(lab r n:Nat):Option DO:=
 match el,o,ys with
 |some (el,k,_),some (.row ty k' els),some (.sl ys)=>if (k'=k/\ty=el)/\els.length=n then some (.eff (n+ys.length<=100000000/\∀row∈ys,row.length=k) (.own lab (n+ys.length)) [] [(r,none),(lab,some (.row ty k' (els++ys)))]) else none
 |some (el,k,_),some (.rov ty k' els i cs),some (.sl ys)=>if (k'=k/\ty=el)/\els.length=n then some (.eff (0<ys.length/\n+ys.length<=100000000/\∀row∈ys,row.length=k) (.own lab (n+ys.length)) [] [(r,none),(lab,some (.rov ty k' (els++ys) i cs))]) else none
 |_,_,_=>none
@[go_sem] theorem aiP {B y bb u r n ty A:Nat}{els ys:List (List PV)} :dAp (some (B,y,bb)) (some (.row ty A els)) (some (.sl ys)) u r n=if (A=y/\ty=B)/\els.length=n then some (.eff (n+ys.length<=100000000/\∀row∈ys,row.length=y) (.own u (n+ys.length)) [] [(r,none),(u,some (.row ty A (els++ys)))]) else none:=rfl
@[go_sem] theorem alv {B y bb u r n ty A D:Nat}{els ys:List (List PV)}{cs:List AV} :dAp (some (B,y,bb)) (some (.rov ty A els D cs)) (some (.sl ys)) u r n=if (A=y/\ty=B)/\els.length=n then some (.eff (0<ys.length/\n+ys.length<=100000000/\∀row∈ys,row.length=y) (.own u (n+ys.length)) [] [(r,none),(u,some (.rov ty A (els++ys) D cs))]) else none:=rfl
@[go_sem] theorem aiQ {u r n:Nat}{p:PV} :qH P σ u t (.own r n) (.pv p)=dAp (aS P t) (σ r) (some p) u r n:=by
 unfold qH dAp
 cases aS P t with
 |none=>rfl
 |
  some q=>
  obtain⟨y,A,B⟩:=q;dsimp only[toP]
  cases σ r with
  |none=>rfl
  |some o=>cases o<;>cases p<;>rfl
def aeL (el:Option (TypeId×Nat×Nat))(o:Option Obj)(cs:List AV)(lab r n:Nat):Option DO:=
 match el,o with
 |some (el,k,_),some (.row ty k' els)=>if (k'=k/\ty=el)/\els.length=n/\cs.length=k then some (.eff (n+1<=100000000) (.own lab (n+1)) [] [(r,none),(lab,some (.rov ty k' (els++[List.replicate k (.sl [])]) n cs))]) else none
 |_,_=>none
@[go_sem] theorem agA {B y bb u r n ty A:Nat}{els:List (List PV)}{cs:List AV} :aeL (some (B,y,bb)) (some (.row ty A els)) cs u r n=if (A=y/\ty=B)/\els.length=n/\cs.length=y then some (.eff (n+1<=100000000) (.own u (n+1)) [] [(r,none),(u,some (.rov ty A (els++[List.replicate y (.sl [])]) n cs))]) else none:=rfl
@[go_sem] theorem alx {u r n:Nat}{cs:List AV} :qH P σ u t (.own r n) (.tl cs)=aeL (aS P t) (σ r) cs u r n:=by
 unfold qH aeL
 cases aS P t with
 |none=>rfl
 |
  some q=>
  obtain⟨y,A,B⟩:=q;dsimp only[toP]
  cases σ r with
  |none=>rfl
  |some o=>cases o<;>rfl
def aeM (el:Option (TypeId×Nat×Nat))(ys:PV)(lab:Nat):Option DO:=
 match el,ys with
 |some (el,k,_),.sl ys=>some (.eff (ys.length<=100000000/\∀row∈ys,row.length=k) (.own lab ys.length) [] [(lab,some (.row el k ys))])
 |some (el,k,_),.tr cts n=>if cts.length=k then some (.chk (n<=100000000) (.pv (.tr cts n))) else none
 |_,_=>none
@[go_sem] theorem aly {A y bb u:Nat}{ys:List (List PV)} :aeM (some (A,y,bb)) (.sl ys) u=some (.eff (ys.length<=100000000/\∀row∈ys,row.length=y) (.own u ys.length) [] [(u,some (.row A y ys))]):=rfl
@[go_sem] theorem aiR {u:Nat}{p:PV} :qH P σ u t .emp (.pv p)=aeM (aS P t) p u:=by
 unfold qH aeM
 cases aS P t with
 |none=>rfl
 |
  some q=>
  obtain⟨y,A,B⟩:=q
  cases p<;>rfl
def aeN (el:Option (TypeId×Nat×Nat))(els:List (List PV))(lo hi:Option Int):Option DO:=
 match el,lo,hi with
 |some (_,k,_),some l,some h=>some (.chk (0<=l/\l<=h/\h<=els.length/\∀row∈els,row.length=k) (.pv (.sl ((els.take h.toNat).drop l.toNat))))
 |_,_,_=>none
@[go_sem] theorem agB {y u bb:Nat}{els:List (List PV)} :aeN (some (y,u,bb)) els (some a) (some b)=some (.chk (0<=a/\a<=b/\b<=els.length/\∀row∈els,row.length=u) (.pv (.sl ((els.take b.toNat).drop a.toNat)))):=rfl
@[go_sem] theorem aiS {e:Operand->Option AV}{u:Nat}{els:List (List PV)}{lo hi:Option Operand} :mY P e σ u t (.pv (.sl els)) lo hi=aeN (aS P t) els (BI e lo 0) (BI e hi els.length):=by
 unfold mY aeN
 cases aS P t with
 |none=>rfl
 |
  some q=>
  obtain⟨y,A,B⟩:=q;dsimp only
  cases BI e lo 0<;>cases BI e hi els.length<;>rfl
def aeO (el:Option (TypeId×Nat×Nat))(o:Option Obj)(hi:Option Int)(lab r n:Nat):Option DO:=
 match el,o,hi with
 |some _,some (.row ty k' els),some h=>if els.length=n then some (.eff (0<=h/\h<=n) (.own lab h.toNat) [] [(r,none),(lab,some (.row ty k' (els.take h.toNat)))]) else none
 |_,_,_=>none
@[go_sem] theorem agC {q:TypeId×Nat×Nat}{ty y u r n:Nat}{els:List (List PV)} :aeO (some q) (some (.row ty y els)) (some a) u r n=if els.length=n then some (.eff (0<=a/\a<=n) (.own u a.toNat) [] [(r,none),(u,some (.row ty y (els.take a.toNat)))]) else none:=rfl
@[go_sem] theorem agD {e:Operand->Option AV}{u r n:Nat}{hi:Option Operand} :mY P e σ u t (.own r n) none hi=aeO (aS P t) (σ r) (BI e hi n) u r n:=by
 unfold mY aeO
 cases aS P t with
 |none=>rfl
 |
  some q=>
  obtain⟨y,A,B⟩:=q;dsimp only
  cases σ r with
  |none=>cases BI e hi n<;>rfl
  |some o=>cases o<;>cases BI e hi n<;>rfl
def aiT (x:Option AV):Option Int:=
 match x with
 |some (.pv (.sc (.int _ i)))=>some i
 |_=>none
@[go_sem] theorem agE:aiT (some (.pv (.sc (.int k a))))=some a:=rfl
@[go_sem] theorem aiU {e:Operand->Option AV} :BI e none a=some a:=rfl
@[go_sem] theorem aiV {e:Operand->Option AV}{x:Operand} :BI e (some x) a=aiT (e x):=rfl
@[go_sem] theorem aiW {o:Array Oper}{g:Nat} :Tz o g=(o[g]?).bind (·.dst):=rfl
end
