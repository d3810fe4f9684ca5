/- Words. -/
import Derived.Test.YtfbkkgfkhhibfaaGreatAdv
set_option linter.unusedVariables false
set_option linter.unusedSimpArgs false
namespace AM
open Go Go.RowKit
mutual
theorem RJ:∀(v:AV) (ρ:Nat->Nat),v.lb 0=true->v.ren ρ=v
 | .own r n,_,h=>by simp[AV.lb] at h
 | .ptr l o,_,h=>by simp[AV.lb] at h
 | .rp r k i o,_,h=>by simp[AV.lb] at h
 | .agg cs,ρ,h=>by simp only[AV.ren];rw[Df cs ρ (by simpa [AV.lb] using h)]
 | .tup cs,ρ,h=>by simp only[AV.ren];rw[Df cs ρ (by simpa [AV.lb] using h)]
 | .pv _,_,_=>rfl
 | .fp _ _,_,_=>rfl
 | .tp _ _,_,_=>rfl
 | .emp,_,_=>rfl
theorem Df:∀(vs:List AV) (ρ:Nat->Nat),AV.lbL 0 vs=true->AV.renL ρ vs=vs
 | [],_,_=>rfl
 |
  v::r,ρ,h=>by
  simp only[AV.lbL,dH] at h
  simp only[AV.renL]
  rw[RJ v ρ h.1,Df r ρ h.2]
end
def kS (P:Program)(f:FuncId)(asl:List AV)(Q:AV->Prop):Prop:=isGo P f=true/\AV.lbL 0 asl=true/\ACall P f asl [] (λr g=>g=[]/\r.lb 0=true/\Q r)
abbrev afP:Key:=⟨[],[],true,false,true⟩
abbrev Zp:Key:=⟨[],[],false,true,true⟩
theorem Ko {P:Program}{dr:Bool}{f:FuncId}{nx i:Nat}{fD:List (Option AV)}{σ:Sto}{K:AV->List (Nat×Option Obj)->Key->Prop}{asl:List AV}{Q:AV->Prop}(hf:kS P f asl Q)(B:fD=asl.map some)(hi:dr=true->∃r:AV,r.lb 0=true/\Q r)(h:∀r,r.lb 0=true->Q r->K r [] Zp):mJ P dr f nx i fD σ K:=by obtain⟨h1,h2,h3⟩:=hf;refine⟨asl,[],_,[],h1,h3,by rw[Df asl _ h2];exact B,h2,rfl,rfl,List.nodup_nil,rfl,λk o hk=>by simp at hk,λD=>?_,λr g E h4 h5=>?_⟩;obtain⟨r,u,y⟩:=hi D;exact⟨r,[],⟨rfl,u,y⟩,by simp,by simp⟩;obtain⟨rfl,u,y⟩:=E;rw[RJ r _ u];exact h r u y
def OD (els:List (List PV))(i:Int)(k:Nat)(F:List PV->Prop):Prop:=(0<=i/\∃row,els[i.toNat]?=some row/\row.length=k)/\∀row,els[i.toNat]?=some row->F row
theorem aJ {α:Type}{l:List α}{f:α->List PV}{i:Int}{k:Nat}{F:List PV->Prop}{x:α}(h0:0<=i)(hx:l[i.toNat]?=some x)(hk:(f x).length=k)(hF:F (f x)):OD (l.map f) i k F:=by have h1:(l.map f)[i.toNat]?=some (f x):=(by simp[hx]);exact⟨⟨h0,_,h1,hk⟩,λrow hr=>by rw[h1] at hr;injection hr with hr;rw[<-hr];exact hF⟩
theorem az {els:List (List PV)}{i:Int}{k:Nat}{F:List PV->Prop}{x:List PV}(h0:0<=i)(h1:els[i.toNat]?=some x)(hk:x.length=k)(hF:F x):OD els i k F:=
 ⟨⟨h0,_,h1,hk⟩,λrow hr=>by rw[h1] at hr;injection hr with hr;rw[<-hr];exact hF⟩
def RQ (ct:CT)(F:PV->Prop):Prop:=∀p,ct.ok p->F p
def afQ (els:List (List PV))(i:Nat)(g:Bool)(k off:Nat)(F:AV->Prop):Prop:=(∃row v,els[i]?=some row/\zK g k (row.map .pv) off=some v)/\∀v,(∃row,els[i]?=some row/\zK g k (row.map .pv) off=some v)->F v
theorem JK {els:List (List PV)}{i:Nat}{g:Bool}{k off:Nat}{F:AV->Prop}{x:List PV}{v:AV}(h1:els[i]?=some x)(B:zK g k (x.map .pv) off=some v)(hF:F v):afQ els i g k off F:=
 ⟨⟨
  _,_,h1,B⟩,λv' hr=>by
  obtain⟨row,u,y⟩:=hr
  rw[h1] at u
  injection u with u
  rw[<-u,B] at y
  injection y with y
  rw[<-y]
  exact hF⟩
@[congr] theorem acy {P:Program}{dr:Bool}{f:FuncId}{nx i:Nat}{fD u:List (Option AV)}{σ:Sto}{K:AV->List (Nat×Option Obj)->Key->Prop}(h:fD=u):mJ P dr f nx i fD σ K=mJ P dr f nx i u σ K:=by rw[h]
def Kq (b:Bool)(X Y:Prop):Prop:=(b=true->X)/\(b=false->Y)
section
variable {P : Program} {ops : Array Oper} {nx i : Nat} {dr : Bool} {U : List (Nat × Nat)} {K : Env -> Sto -> Nat -> Prop} {log : List (Nat × Key)} {l : List Oper} {env : Env} {σ : Sto} {d : Option Nat} {ty : TypeId} {pos : String} {yX : Array Edge} {gd : Option (Nat × Bool)}
def vo (P:Program)(ops:Array Oper)(nx:Nat)(dr:Bool)(U:List (Nat×Nat))(K:Env->Sto->Nat->Prop)(log:List (Nat×Key))(o:Oper)(l:List Oper)(i:Nat)(env:Env)(σ:Sto):Prop:=
 vX P dr nx i o env σ (λv G key=>GG nx U i key log/\vS P ops nx dr U K (V6 U i key log) l (i+1) (env.put o.dst v) (σ.upds G))
def ajN (nx i:Nat)(d:DO):Key:=⟨d.rd,d.wr.filter (λl=>!own nx i l),d.det,false,true⟩
def vD (P:Program)(ops:Array Oper)(nx:Nat)(dr:Bool)(U:List (Nat×Nat))(K:Env->Sto->Nat->Prop)(log:List (Nat×Key))(dst:Option Nat)(l:List Oper)(i:Nat)(env:Env)(σ:Sto)(x:Option DO):Prop:=
 match x with
 |none=>False
 |some d=>d.ok/\∀v,d.out v->GG nx U i (ajN nx i d) log/\vS P ops nx dr U K (V6 U i (ajN nx i d) log) l (i+1) (env.put dst v) (σ.upds d.upd)
@[go_sem] theorem ao9:vS P ops nx dr U K log [] i env σ=K env σ (nx+8*i):=rfl
@[go_sem] theorem asH {op:Op} :vS P ops nx dr U K log (⟨d,op,ty,pos,yX,none⟩::l) i env σ=vo P ops nx dr U K log ⟨d,op,ty,pos,yX,none⟩ l i env σ:=rfl
def Kr (P:Program)(ops:Array Oper)(nx:Nat)(dr:Bool)(U:List (Nat×Nat))(K:Env->Sto->Nat->Prop)(log:List (Nat×Key))(o:Oper)(l:List Oper)(i:Nat)(env:Env)(σ:Sto)(want:Bool)(dg:Option Nat)(x:Option AV):Prop:=
 match x with
 |some (.pv (.sc (.bool b)))=>Kq b (if want=true then vo P ops nx dr U K log o l i (env.put dg (.pv (.sc (.bool true)))) σ else vS P ops nx dr U K log l (i+1) ((env.put dg (.pv (.sc (.bool true)))).put o.dst (.tup [])) σ)
  (if want=true then vS P ops nx dr U K log l (i+1) ((env.put dg (.pv (.sc (.bool false)))).put o.dst (.tup [])) σ else vo P ops nx dr U K log o l i (env.put dg (.pv (.sc (.bool false)))) σ)
 |some (.tup [])=>vS P ops nx dr U K log l (i+1) (env.put o.dst (.tup [])) σ
 |_=>False
def UQ (ops:Array Oper)(g:Nat):Option Nat:=(ops[g]?).bind (·.dst)
def evO (env:Env):Option Nat->Option AV
 |some d=>env d
 |none=>none
@[go_sem] theorem asJ {op:Op}{g:Nat}{want:Bool} :vS P ops nx dr U K log (⟨d,op,ty,pos,yX,some (g,want)⟩::l) i env σ=Kr P ops nx dr U K log ⟨d,op,ty,pos,yX,some (g,want)⟩ l i env σ want (UQ ops g) (evO env (UQ ops g)):=by
 simp only[vS,vG,Kr,UQ,Kq,vo]
 cases (ops[g]?).bind (·.dst) with
 |none=>rfl
 |some q=>rfl
@[go_sem] theorem ajO {q:Nat} :evO env (some q)=env q:=rfl
theorem Zq {o:Oper}{want:Bool}{u:Option Nat} :Kr P ops nx dr U K log o l i env σ want u (some (.pv (.sc (.bool true))))=if want=true then vo P ops nx dr U K log o l i (env.put u (.pv (.sc (.bool true)))) σ else vS P ops nx dr U K log l (i+1) ((env.put u (.pv (.sc (.bool true)))).put o.dst (.tup [])) σ:=by simp[Kr,Kq]
theorem Zr {o:Oper}{want:Bool}{u:Option Nat} :Kr P ops nx dr U K log o l i env σ want u (some (.pv (.sc (.bool false))))=if want=true then vS P ops nx dr U K log l (i+1) ((env.put u (.pv (.sc (.bool false)))).put o.dst (.tup [])) σ else vo P ops nx dr U K log o l i (env.put u (.pv (.sc (.bool false)))) σ:=by simp[Kr,Kq]
@[go_sem] theorem apa {o:Oper}{u:Option Nat} :Kr P ops nx dr U K log o l i env σ true u (some (.pv (.sc (.bool true))))=vo P ops nx dr U K log o l i (env.put u (.pv (.sc (.bool true)))) σ:=by rw[Zq,if_pos rfl]
@[go_sem] theorem apb {o:Oper}{u:Option Nat} :Kr P ops nx dr U K log o l i env σ false u (some (.pv (.sc (.bool true))))=vS P ops nx dr U K log l (i+1) ((env.put u (.pv (.sc (.bool true)))).put o.dst (.tup [])) σ:=by rw[Zq,if_neg (by decide)]
@[go_sem] theorem apc {o:Oper}{u:Option Nat} :Kr P ops nx dr U K log o l i env σ true u (some (.pv (.sc (.bool false))))=vS P ops nx dr U K log l (i+1) ((env.put u (.pv (.sc (.bool false)))).put o.dst (.tup [])) σ:=by rw[Zr,if_pos rfl]
@[go_sem] theorem apd {o:Oper}{u:Option Nat} :Kr P ops nx dr U K log o l i env σ false u (some (.pv (.sc (.bool false))))=vo P ops nx dr U K log o l i (env.put u (.pv (.sc (.bool false)))) σ:=by rw[Zr,if_neg (by decide)]
@[go_sem] theorem ape {o:Oper}{want:Bool}{u:Option Nat} :Kr P ops nx dr U K log o l i env σ want u (some (.tup []))=vS P ops nx dr U K log l (i+1) (env.put o.dst (.tup [])) σ:=rfl
theorem acz {o:Oper}{want:Bool}{u:Option Nat}{b:Bool}(y:b=true->Kr P ops nx dr U K log o l i env σ want u (some (.pv (.sc (.bool true)))))(hf:b=false->Kr P ops nx dr U K log o l i env σ want u (some (.pv (.sc (.bool false))))):Kr P ops nx dr U K log o l i env σ want u (some (.pv (.sc (.bool b)))):=by
 cases b
 exact hf rfl;exact y rfl
theorem Zt {k:Key}(h1:k.rd=[])(h2:k.wr=[])(h3:k.isC=false):GG nx U i k log:=λe _ _=>⟨λl _=>by simp[h1,h2],λl u=>(by rw[h2] at u;cases u),λ_ l u=>(by rw[h1,h2] at u;cases u),.inl h3⟩
@[go_sem] theorem apf {v:AV} :vD P ops nx dr U K log d l i env σ (some (.val v))=vS P ops nx dr U K (V6 U i afP log) l (i+1) (env.put d v) σ:=by simp only[vD,DO.val,pU];exact⟨λh=>(h.2 v rfl).2,λh=>⟨trivial,λu y=>⟨Zt rfl rfl rfl,by rw[y];exact h⟩⟩⟩
@[go_sem] theorem apg {p:Prop}{v:AV} :vD P ops nx dr U K log d l i env σ (some (.chk p v))=(p/\vS P ops nx dr U K (V6 U i afP log) l (i+1) (env.put d v) σ):=by simp only[vD,DO.chk,pU];exact⟨λh=>⟨h.1,(h.2 v rfl).2⟩,λh=>⟨h.1,λu y=>⟨Zt rfl rfl rfl,by rw[y];exact h.2⟩⟩⟩
def DO.eff (p:Prop)(v:AV)(rd:List Nat)(upd:List (Nat×Option Obj)):DO:=⟨p,λu=>u=v,rd,true,upd⟩
def ajP (nx i:Nat)(rd:List Nat)(upd:List (Nat×Option Obj)):Key:=⟨rd,(upd.map (·.1)).filter (λl=>!own nx i l),true,false,true⟩
@[go_sem] theorem aph {p:Prop}{v:AV}{rd:List Nat}{upd:List (Nat×Option Obj)} :vD P ops nx dr U K log d l i env σ (some (.eff p v rd upd))=(p/\GG nx U i (ajP nx i rd upd) log/\vS P ops nx dr U K (V6 U i (ajP nx i rd upd) log) l (i+1) (env.put d v) (σ.upds upd)):=by simp only[vD,DO.eff,pU];exact⟨λh=>⟨h.1,h.2 v rfl⟩,λh=>⟨h.1,λu y=>by rw[y];exact h.2⟩⟩
def V7:List CT->(List PV->Prop)->Prop
 | [],F=>F []
 |ct::r,F=>RQ ct λp=>V7 r λps=>F (p::ps)
@[go_sem] theorem ajQ {F:List PV->Prop} :V7 [] F=F []:=rfl
@[go_sem] theorem V8 {ct:CT}{r:List CT}{F:List PV->Prop} :V7 (ct::r) F=RQ ct λp=>V7 r λu=>F (p::u):=rfl
theorem EE:∀ {cts:List CT}{F:List PV->Prop},V7 cts F ↔∀y,Zu cts y->F y
 | [],F=>⟨λh y u=>by rw[Zv.1 u.1];exact h,λh=>h [] ⟨rfl,λj ct p hc=>by simp at hc⟩⟩
 |
  ct::r,F=>by
  rw[V8]
  constructor
  . intro h y u
    cases y with
    |nil=>cases u.1
    |cons p s=>exact EE.1 (h p (u.2 0 ct p rfl rfl)) s ⟨by simpa using u.1,λj c q h1 h2=>u.2 (j+1) c q (by simpa using h1) (by simpa using h2)⟩
  . intro h p u
    refine EE.2 λy hs=>h (p::y) ⟨by simp[hs.1],λj c q h1 h2=>?_⟩
    cases j with
    |zero=>simp at h1 h2;subst h1 h2;exact u
    |succ j=>exact hs.2 j c q (by simpa using h1) (by simpa using h2)
def DO.row (els:List (List PV))(i:Int)(k:Nat):DO:=⟨0<=i/\∃row,els[i.toNat]?=some row/\row.length=k,λu=>∃row,els[i.toNat]?=some row/\u= .fp row 0,[],true,[]⟩
@[go_sem] theorem api {els:List (List PV)}{j:Int}{k:Nat} :vD P ops nx dr U K log d l i env σ (some (.row els j k))=OD els j k (λrow=>vS P ops nx dr U K (V6 U i afP log) l (i+1) (env.put d (.fp row 0)) σ):=by simp only[vD,DO.row,OD,pU];refine and_congr_right (λ_=>⟨λh row hr=>(h _ ⟨row,hr,rfl⟩).2,λh v ⟨row,hr,u⟩=>⟨Zt rfl rfl rfl,by rw[u];exact h row hr⟩⟩)
def DO.tys (cts:List CT):DO:=⟨True,λu=>∃ps,Zu cts ps/\u= .agg (ps.map .pv),[],false,[]⟩
@[go_sem] theorem apj {cts:List CT} :vD P ops nx dr U K log d l i env σ (some (.tys cts))=V7 cts (λy=>vS P ops nx dr U K (V6 U i ⟨[],[],false,false,true⟩ log) l (i+1) (env.put d (.agg (y.map .pv))) σ):=by rw[pU,EE];simp only[vD,DO.tys];exact⟨λh p u=>(h.2 _ ⟨p,u,rfl⟩).2,λh=>⟨trivial,λv ⟨p,u,B⟩=>⟨Zt rfl rfl rfl,by rw[B];exact h p u⟩⟩⟩
def DO.tyc (ct:CT):DO:=⟨True,λu=>∃p,ct.ok p/\u= .pv p,[],false,[]⟩
@[go_sem] theorem asK {ct:CT} :vD P ops nx dr U K log d l i env σ (some (.tyc ct))=RQ ct (λp=>vS P ops nx dr U K (V6 U i ⟨[],[],false,false,true⟩ log) l (i+1) (env.put d (.pv p)) σ):=by simp only[vD,DO.tyc,RQ,pU];exact⟨λh p u=>(h.2 _ ⟨p,u,rfl⟩).2,λh=>⟨trivial,λv ⟨p,u,y⟩=>⟨Zt rfl rfl rfl,by rw[y];exact h p u⟩⟩⟩
def DO.ld (els:List (List PV))(i:Nat)(g:Bool)(k off r:Nat):DO:=⟨∃row v,els[i]?=some row/\zK g k (row.map .pv) off=some v,λu=>∃row,els[i]?=some row/\zK g k (row.map .pv) off=some u,[r],true,[]⟩
@[go_sem] theorem asL {els:List (List PV)}{j k off r:Nat}{g:Bool} :vD P ops nx dr U K log d l i env σ (some (.ld els j g k off r))=afQ els j g k off (λv=>GG nx U i ⟨[r],[],true,false,true⟩ log/\vS P ops nx dr U K (V6 U i ⟨[r],[],true,false,true⟩ log) l (i+1) (env.put d v) σ):=by simp only[vD,DO.ld,afQ,pU];exact and_congr_right (λ_=>Iff.rfl)
@[go_sem] theorem amV {x:Operand} :vo P ops nx dr U K log ⟨d,.move x,ty,pos,yX,gd⟩ l i env σ=vD P ops nx dr U K log d l i env σ ((ev env x).map DO.val):=rfl
@[go_sem] theorem ah1 {x:Operand} :vo P ops nx dr U K log ⟨d,.assign x,ty,pos,yX,gd⟩ l i env σ=vD P ops nx dr U K log d l i env σ ((ev env x).map DO.val):=rfl
def Zw (c a b:Option AV):Option DO:=
 match c with
 |some (.pv (.sc (.bool t)))=>(if t=true then a else b).map DO.val
 |_=>none
@[go_sem] theorem amW {a b:Option AV} :Zw (some (.pv (.sc (.bool true)))) a b=a.map DO.val:=rfl
@[go_sem] theorem amX {a b:Option AV} :Zw (some (.pv (.sc (.bool false)))) a b=b.map DO.val:=rfl
@[go_sem] theorem amY {c a b:Operand} :vo P ops nx dr U K log ⟨d,.pick c a b,ty,pos,yX,gd⟩ l i env σ=vD P ops nx dr U K log d l i env σ (Zw (ev env c) (ev env a) (ev env b)):=rfl
@[go_sem] theorem ajR {t:TypeId} :vo P ops nx dr U K log ⟨d,.alloc t,ty,pos,yX,gd⟩ l i env σ=vD P ops nx dr U K log d l i env σ ((dU P t).map λcs=> .eff True (.ptr (nx+8*i) 0) [] [(nx+8*i,some (.box cs))]):=rfl
@[go_sem] theorem apk {t:TypeId}{x:Operand} :vo P ops nx dr U K log ⟨d,.box t x,ty,pos,yX,gd⟩ l i env σ=vD P ops nx dr U K log d l i env σ ((ev env x).bind λv=>if (bg v).all iD=true then some (.eff True (.ptr (nx+8*i) 0) [] [(nx+8*i,some (.box (bg v)))]) else none):=rfl
def Zx (z:Option (List AV))(pl:Option (List (Nat×Nat)))(ps:Option (List (Nat×AV))):Option DO:=
 match z,pl,ps with
 |some zs,some pl,some ps=>(uA (λi=>pl[i]?) zs ps).map λcs=> .val (.agg cs)
 |_,_,_=>none
@[go_sem] theorem aem {zs:List AV}{pl:List (Nat×Nat)}{u:List (Nat×AV)} :Zx (some zs) (some pl) (some u)=(uA (λi=>pl[i]?) zs u).map λcs=> .val (.agg cs):=rfl
@[go_sem] theorem ajS {t:TypeId}{parts:Array (Nat×Operand)} :vo P ops nx dr U K log ⟨d,.build t parts,ty,pos,yX,gd⟩ l i env σ=vD P ops nx dr U K log d l i env σ (Zx (dU P t) (dh P t) (evs (ev env) parts.toList)):=rfl
def dBs (el:Option (TypeId×Nat×Nat))(n:Nat)(e:Operand->Option AV)(parts:List (Nat×Operand)):Option DO:=
 match el with
 |some (_,k,_)=>if n=0 then (if parts.length=0 then some (.val .emp) else none) else if parts.length=n/\n*k<=2^24 then (rowsOf e k 0 parts).map λrows=> .val (.pv (.sl rows)) else none
 |none=>none
@[go_sem] theorem ajT {u k b n:Nat}{e:Operand->Option AV}{parts:List (Nat×Operand)} :dBs (some (u,k,b)) n e parts=if n=0 then (if parts.length=0 then some (.val .emp) else none) else if parts.length=n/\n*k<=2^24 then (rowsOf e k 0 parts).map λrows=> .val (.pv (.sl rows)) else none:=rfl
def ajU (m k:Nat)(o:Option (List PV))(rest:Option (List (List PV))):Option (List (List PV)):=
 match o,rest with
 |some ps,some rs=>if ps.length=k then some (ps::rs) else none
 |_,_=>none
@[go_sem] theorem ah2 {m k:Nat}{u:List PV}{rs:List (List PV)} :ajU m k (some u) (some rs)=if u.length=k then some (u::rs) else none:=rfl
@[go_sem] theorem afR {e:Operand->Option AV}{k m:Nat} :rowsOf e k m []=some []:=rfl
@[go_sem] theorem aen {e:Operand->Option AV}{k m j:Nat}{x:Operand}{r:List (Nat×Operand)} :rowsOf e k m ((j,x)::r)=if j=m then ajU m k ((e x).bind λv=>xe (bg v)) (rowsOf e k (m+1) r) else none:=rfl
@[go_sem] theorem amZ {e:Operand->Option AV} :evs e []=some []:=rfl
def evC (j:Nat)(x:Option AV)(r:Option (List (Nat×AV))):Option (List (Nat×AV)):=
 match x,r with
 |some v,some l=>some ((j,v)::l)
 |_,_=>none
@[go_sem] theorem ajV {j:Nat}{v:AV}{l:List (Nat×AV)} :evC j (some v) (some l)=some ((j,v)::l):=rfl
@[go_sem] theorem ajW {e:Operand->Option AV}{j:Nat}{x:Operand}{r:List (Nat×Operand)} :evs e ((j,x)::r)=evC j (e x) (evs e r):=rfl
@[go_sem] theorem afS {cs:List AV} :bg (.agg cs)=cs:=rfl
@[go_sem] theorem ah3 {p:PV} :bg (.pv p)=[.pv p]:=rfl
@[go_sem] theorem afT {r n:Nat} :bg (.own r n)=[.own r n]:=rfl
@[go_sem] theorem afU {r n:Nat} :bg (.ptr r n)=[.ptr r n]:=rfl
@[go_sem] theorem apl {p:PV} :toP (.pv p)=some p:=rfl
@[go_sem] theorem am0:toP .emp=some (.sl []):=rfl
@[go_sem] theorem ajX:xe []=some []:=rfl
def ajY (p:Option PV)(ps:Option (List PV)):Option (List PV):=
 match p,ps with
 |some p,some ps=>some (p::ps)
 |_,_=>none
@[go_sem] theorem ah4 {p:PV}{u:List PV} :ajY (some p) (some u)=some (p::u):=rfl
@[go_sem] theorem ah5 {v:AV}{r:List AV} :xe (v::r)=ajY (toP v) (xe r):=rfl
def aeo (f:Nat->Option (Nat×Nat))(cells:List AV)(v:AV)(q:Option (Nat×Nat))(r:List (Nat×AV)):Option (List AV):=
 match q with
 |none=>none
 |some (off,size)=>if (bg v).length=size/\off+size<=cells.length/\(bg v).all iD=true then uA f (iM cells off (bg v)) r else none
@[go_sem] theorem afV {f:Nat->Option (Nat×Nat)}{cells:List AV}{v:AV}{off size:Nat}{r:List (Nat×AV)} :aeo f cells v (some (off,size)) r=if (bg v).length=size/\off+size<=cells.length/\(bg v).all iD=true then uA f (iM cells off (bg v)) r else none:=rfl
@[go_sem] theorem ah6 {f:Nat->Option (Nat×Nat)}{cells:List AV} :uA f cells []=some cells:=rfl
@[go_sem] theorem afW {f:Nat->Option (Nat×Nat)}{cells:List AV}{j:Nat}{v:AV}{r:List (Nat×AV)} :uA f cells ((j,v)::r)=aeo f cells v (f j) r:=rfl
@[go_sem] theorem ah7 {p:PV} :iD (.pv p)=true:=rfl
@[go_sem] theorem afX:iD .emp=true:=rfl
@[go_sem] theorem afY {r n:Nat} :iD (.own r n)=true:=rfl
@[go_sem] theorem afZ {r n:Nat} :iD (.ptr r n)=true:=rfl
@[go_sem] theorem abG {t:TypeId}{n:Nat}{parts:Array (Nat×Operand)} :vo P ops nx dr U K log ⟨d,.buildSlice t n parts,ty,pos,yX,gd⟩ l i env σ=vD P ops nx dr U K log d l i env σ (dBs (aV P t) n (ev env) parts.toList):=rfl
@[go_sem] theorem am1 {t:TypeId}{x:Operand} :vo P ops nx dr U K log ⟨d,.load t x,ty,pos,yX,gd⟩ l i env σ=vD P ops nx dr U K log d l i env σ ((ev env x).bind (kJ P σ t)):=rfl
@[go_sem] theorem ajZ {t:TypeId}{x y:Operand} :vo P ops nx dr U K log ⟨none,.store t x y,ty,pos,yX,gd⟩ l i env σ=vD P ops nx dr U K log none l i env σ ((ev env x).bind λa=>(ev env y).bind λv=>jf P σ t a v):=rfl
@[go_sem] theorem aep {x:Operand} :vo P ops nx dr U K log ⟨d,.nilCheck x,ty,pos,yX,gd⟩ l i env σ=vD P ops nx dr U K log d l i env σ ((ev env x).bind λv=>if Zy v=true then some (.val v) else none):=rfl
def sG (P:Program)(t:TypeId)(op:BinOp)(x y:Option AV):Option DO:=
 match x,y with
 |
  some (.pv (.sc a)),some (.pv (.sc b))=>match uB op a b with
  |some (p,v)=>some (.chk p (.pv (.sc v)))
  |none=>(Zz P t op a b).map λv=> .val (.pv (.sc v))
 |_,_=>none
@[go_sem] theorem aj0 {op:BinOp}{t u:TypeId}{x y:Operand} :vo P ops nx dr U K log ⟨d,.binOp op t x y u,ty,pos,yX,gd⟩ l i env σ=vD P ops nx dr U K log d l i env σ (sG P t op (ev env x) (ev env y)):=rfl
variable {t : TypeId} {k : IntKind} {a b : Int} {s s' : ByteArray} {p q : Bool}
abbrev iv (k:IntKind)(n:Int):Option AV:=some (.pv (.sc (.int k n)))
theorem jo {op:BinOp}{p:Prop}{v:Value}(h:uB op (.int k a) (.int k b)=some (p,v)):sG P t op (iv k a) (iv k b)=some (.chk p (.pv (.sc v))):=by simp only[sG,iv,h]
@[go_sem] theorem aj1:sG P t .add (some (.pv (.sc (.int k a)))) (some (.pv (.sc (.int k b))))=some (.val (.pv (.sc (.int k (k.wrap (a+b)))))):=jo (p:=True) (v:= .int k (k.wrap (a+b))) (by simp[uB])
@[go_sem] theorem aj2:sG P t .sub (some (.pv (.sc (.int k a)))) (some (.pv (.sc (.int k b))))=some (.val (.pv (.sc (.int k (k.wrap (a-b)))))):=jo (p:=True) (v:= .int k (k.wrap (a-b))) (by simp[uB])
@[go_sem] theorem aj3:sG P t .mul (some (.pv (.sc (.int k a)))) (some (.pv (.sc (.int k b))))=some (.val (.pv (.sc (.int k (k.wrap (a*b)))))):=jo (p:=True) (v:= .int k (k.wrap (a*b))) (by simp[uB])
@[go_sem] theorem aj6:sG P t .quo (some (.pv (.sc (.int k a)))) (some (.pv (.sc (.int k b))))=some (.chk (b≠0) (.pv (.sc (.int k (k.wrap (a.tdiv b)))))):=jo (by simp[uB])
@[go_sem] theorem aj7:sG P t .rem (some (.pv (.sc (.int k a)))) (some (.pv (.sc (.int k b))))=some (.chk (b≠0) (.pv (.sc (.int k (a.tmod b))))):=jo (by simp[uB])
@[go_sem] theorem aj8:sG P t .eql (some (.pv (.sc (.int k a)))) (some (.pv (.sc (.int k b))))=some (.val (.pv (.sc (.bool (a==b))))):=jo (p:=True) (v:= .bool (a==b)) (by simp[uB])
@[go_sem] theorem aj9:sG P t .neq (some (.pv (.sc (.int k a)))) (some (.pv (.sc (.int k b))))=some (.val (.pv (.sc (.bool (a !=b))))):=jo (p:=True) (v:= .bool (a !=b)) (by simp[uB])
@[go_sem] theorem aka:sG P t .lss (some (.pv (.sc (.int k a)))) (some (.pv (.sc (.int k b))))=some (.val (.pv (.sc (.bool (decide (a<b)))))):=jo (p:=True) (v:= .bool (decide (a<b))) (by simp[uB])
@[go_sem] theorem akb:sG P t .leq (some (.pv (.sc (.int k a)))) (some (.pv (.sc (.int k b))))=some (.val (.pv (.sc (.bool (decide (a<=b)))))):=jo (p:=True) (v:= .bool (decide (a<=b))) (by simp[uB])
@[go_sem] theorem akc:sG P t .gtr (some (.pv (.sc (.int k a)))) (some (.pv (.sc (.int k b))))=some (.val (.pv (.sc (.bool (decide (b<a)))))):=jo (p:=True) (v:= .bool (decide (b<a))) (by simp[uB])
@[go_sem] theorem akd:sG P t .geq (some (.pv (.sc (.int k a)))) (some (.pv (.sc (.int k b))))=some (.val (.pv (.sc (.bool (decide (b<=a)))))):=jo (p:=True) (v:= .bool (decide (b<=a))) (by simp[uB])
@[go_sem] theorem ake:sG P t .eql (some (.pv (.sc (.string s)))) (some (.pv (.sc (.string s'))))=some (.val (.pv (.sc (.bool (s.toList==s'.toList))))):=rfl
@[go_sem] theorem akf:sG P t .neq (some (.pv (.sc (.string s)))) (some (.pv (.sc (.string s'))))=some (.val (.pv (.sc (.bool (!(s.toList==s'.toList)))))):=rfl
@[go_sem] theorem akg:sG P t .neq (some (.pv (.sc (.bool p)))) (some (.pv (.sc (.bool q))))=if OE P t=true then some (.val (.pv (.sc (.bool (!(p==q)))))) else none:=by simp only[sG,uB,Zz];split<;>rfl
def dUn (op:UnOp)(x:Option AV):Option DO:=
 match op,x with
 | .not,some (.pv (.sc (.bool b)))=>some (.val (.pv (.sc (.bool (!b)))))
 | .neg,some (.pv (.sc (.int k n)))=>some (.val (.pv (.sc (.int k (k.wrap (0-n))))))
 | .xor,some (.pv (.sc (.int k n)))=>some (.val (.pv (.sc (.int k (bits .xor k (if k.signed then -1 else k.max) n)))))
 |_,_=>none
@[go_sem] theorem am2:dUn .not (some (.pv (.sc (.bool p))))=some (.val (.pv (.sc (.bool (!p))))):=rfl
@[go_sem] theorem am3 {op:UnOp}{x:Operand} :vo P ops nx dr U K log ⟨d,.unOp op t x,ty,pos,yX,gd⟩ l i env σ=vD P ops nx dr U K log d l i env σ (dUn op (ev env x)):=rfl
def aeq (s t:Option IntKind)(x:Option AV):Option DO:=
 match s,t,x with
 |some _,some k',some (.pv (.sc (.int k n)))=>some (.val (.pv (.sc (.int k' (k'.wrap n)))))
 |_,_,_=>none
@[go_sem] theorem af0 {k0 u:IntKind} :aeq (some k0) (some u) (some (.pv (.sc (.int k a))))=some (.val (.pv (.sc (.int u (u.wrap a))))):=rfl
@[go_sem] theorem af1 {s t:TypeId}{x:Operand} :vo P ops nx dr U K log ⟨d,.convert s t x,ty,pos,yX,gd⟩ l i env σ=vD P ops nx dr U K log d l i env σ (aeq (Kt P s) (Kt P t) (ev env x)):=rfl
def ZA (el:Option (TypeId×Nat×Nat))(z:TypeId->Option (List AV))(x y:Option AV):Option DO:=
 match el,x,y with
 |some (el,k,_),some (.pv (.sc (.int ik n))),some (.pv (.sc (.int ik' n')))=>if n=n' then ((z el).bind yH).map λcts=> .chk (0<=n/\n<=100000) (.pv (.tr cts n.toNat)) else none
 |_,_,_=>none
@[go_sem] theorem af2 {u y bb:Nat}{z:TypeId->Option (List AV)}{k B:IntKind} :ZA (some (u,y,bb)) z (some (.pv (.sc (.int k a)))) (some (.pv (.sc (.int B a))))=((z u).bind yH).map λcts=> .chk (0<=a/\a<=100000) (.pv (.tr cts a.toNat)):=by simp[ZA]
@[go_sem] theorem am4 {x y:Operand} :vo P ops nx dr U K log ⟨d,.makeSlice t x y,ty,pos,yX,gd⟩ l i env σ=vD P ops nx dr U K log d l i env σ (ZA (aV P t) (dU P) (ev env x) (ev env y)):=rfl
@[go_sem] theorem aki {x:Operand}{lo hi:Option Operand} :vo P ops nx dr U K log ⟨d,.slice t x lo hi none,ty,pos,yX,gd⟩ l i env σ=vD P ops nx dr U K log d l i env σ ((ev env x).bind λa=>nI P (ev env) σ (nx+8*i) t a lo hi):=rfl
def akj (f:Option Nat)(x:Option AV):Option DO:=
 match f,x with
 |some off,some v=>(RS off v).map DO.val
 |_,_=>none
@[go_sem] theorem ah8 {off:Nat}{v:AV} :akj (some off) (some v)=(RS off v).map DO.val:=rfl
@[go_sem] theorem acA {x:Operand}{j:Nat} :vo P ops nx dr U K log ⟨d,.fieldAddr t x j,ty,pos,yX,gd⟩ l i env σ=vD P ops nx dr U K log d l i env σ (akj (aU P t j) (ev env x)):=rfl
def dIx (P:Program)(σ:Sto)(t:TypeId)(x y:Option AV):Option DO:=
 match x,y with
 |some a,some (.pv (.sc (.int _ i)))=>sD P σ t a i
 |_,_=>none
@[go_sem] theorem akk {v:AV} :dIx P σ t (some v) (some (.pv (.sc (.int k a))))=sD P σ t v a:=rfl
@[go_sem] theorem acB {x y:Operand} :vo P ops nx dr U K log ⟨d,.indexAddr t x y,ty,pos,yX,gd⟩ l i env σ=vD P ops nx dr U K log d l i env σ (dIx P σ t (ev env x) (ev env y)):=rfl
def dIs (st:Bool)(x y:Option AV):Option DO:=
 match x,y with
 |some (.pv (.sc (.string s))),some (.pv (.sc (.int _ i)))=>if st=true then some (.chk (0<=i/\i<s.size) (.pv (.sc (.int .u8 ((s[i.toNat]?).getD 0).toNat)))) else none
 |_,_=>none
@[go_sem] theorem akl:dIs true (some (.pv (.sc (.string s)))) (some (.pv (.sc (.int k a))))=some (.chk (0<=a/\a<s.size) (.pv (.sc (.int .u8 ((s[a.toNat]?).getD 0).toNat)))):=rfl
@[go_sem] theorem akm {x y:Operand} :vo P ops nx dr U K log ⟨d,.index t x y,ty,pos,yX,gd⟩ l i env σ=vD P ops nx dr U K log d l i env σ (dIs (RU P t) (ev env x) (ev env y)):=rfl
def dEx (x:Option AV)(j:Nat):Option DO:=
 match x with
 |some (.tup vs)=>(vs[j]?).map DO.val
 |_=>none
@[go_sem] theorem akn {vs:List AV}{j:Nat} :dEx (some (.tup vs)) j=(vs[j]?).map DO.val:=rfl
@[go_sem] theorem af4 {x:Operand}{j:Nat} :vo P ops nx dr U K log ⟨d,.extract x j,ty,pos,yX,gd⟩ l i env σ=vD P ops nx dr U K log d l i env σ (dEx (ev env x) j):=rfl
@[go_sem] theorem apm {x:Operand} :vo P ops nx dr U K log ⟨d,.call { callee:= .builtin .len,args:=#[x],argTypes:=#[t] },ty,pos,yX,gd⟩ l i env σ=vD P ops nx dr U K log d l i env σ ((ev env x).bind λv=>(lenOf P t v).map λ(n:Nat)=>DO.val (.pv (.sc (.int .i64 (n:Int))))):=by
 show vD P ops nx dr U K log d l i env σ _=_;congr 1;simp only[dop,rP]
 cases ev env x<;>rfl
def af5 (x y:Option AV):Option DO:=
 match x,y with
 |some (.pv (.sc (.int k a))),some (.pv (.sc (.int k' b)))=>if k=k' then some (.val (.pv (.sc (.int k (if b>a then b else a))))) else none
 |_,_=>none
@[go_sem] theorem ah9:af5 (some (.pv (.sc (.int k a)))) (some (.pv (.sc (.int k b))))=some (.val (.pv (.sc (.int k (if a<b then b else a))))):=by simp[af5]
@[go_sem] theorem apn {x y:Operand}{ats:Array TypeId} :vo P ops nx dr U K log ⟨d,.call { callee:= .builtin .max,args:=#[x,y],argTypes:=ats },ty,pos,yX,gd⟩ l i env σ=vD P ops nx dr U K log d l i env σ (af5 (ev env x) (ev env y)):=rfl
def RV (b:Bool)(P:Program)(σ:Sto)(lab:Nat)(t:TypeId)(x y:AV):Option DO:=
 match b with
 |true=>Jd P t x y
 |false=>sN P σ lab t x y
theorem acC {b:Bool}{x y:AV}{u:Nat} :RV b P σ u t x y=if b=true then Jd P t x y else sN P σ u t x y:=by cases b<;>rfl
@[go_sem] theorem apo {x y:AV}{u:Nat} :RV false P σ u t x y=sN P σ u t x y:=rfl
def ZB (el:Option (TypeId×Nat×Nat))(ys:List (List PV)):Option DO:=
 match el with
 |some (_,k,_)=>some (.chk (ys.length<=100000000/\∀row∈ys,row.length=k) (.pv (.sl ys)))
 |none=>none
@[go_sem] theorem aia {y u bb:Nat}{ys:List (List PV)} :ZB (some (y,u,bb)) ys=some (.chk (ys.length<=100000000/\∀row∈ys,row.length=u) (.pv (.sl ys))):=rfl
@[go_sem] theorem apq {ys:List (List PV)}{u:Nat} :RV true P σ u t .emp (.pv (.sl ys))=ZB (aV P t) ys:=by
 unfold RV Jd ZB
 cases aV P t with
 |none=>rfl
 |some q=>obtain ⟨y,B,D⟩:=q;rfl
@[go_sem] theorem am5 {u:Nat} :RV true P σ u t .emp .emp=ZB (aV P t) []:=by
 unfold RV Jd ZB
 cases aV P t with
 |none=>rfl
 |some q=>obtain ⟨y,B,D⟩:=q;rfl
@[go_sem] theorem aib {x y:Operand} :vo P ops nx dr U K log ⟨d,.call { callee:= .builtin .append,args:=#[x,y],argTypes:=#[t,t] },ty,pos,yX,gd⟩ l i env σ=vD P ops nx dr U K log d l i env σ ((ev env x).bind λa=>(ev env y).bind λb=>RV (fzA x y) P σ (nx+8*i) t a b):=by
 show vD P ops nx dr U K log d l i env σ _=_;congr 1;simp only[dop,rP]
 cases ev env x<;>cases ev env y<;>simp[acC]
@[go_sem] theorem am6 {i j:Nat} :fzA (.tmp i) (.tmp j)=if i=31 then (if j=37 then true else false) else if i=23 then (if j=28 then true else false) else if i=123 then (if j=124 then true else false) else false:=rfl
@[go_sem] theorem am7 {f:FuncId}{args:Array Operand}{ats:Array TypeId} :vo P ops nx dr U K log ⟨d,.call { callee:= .value (.func f),args:=args,argTypes:=ats },ty,pos,yX,gd⟩ l i env σ=mJ P dr f nx i (args.toList.map (ev env)) σ (λv G key=>GG nx U i key log/\vS P ops nx dr U K (V6 U i key log) l (i+1) (env.put d v) (σ.upds G)):=rfl
@[go_sem] theorem aps {t:Nat} :ev env (.tmp t)=env t:=rfl
@[go_sem] theorem apt:ev env (.const (.int k a))=some (.pv (.sc (.int k a))):=rfl
@[go_sem] theorem am8:ev env (.const (.bool p))=some (.pv (.sc (.bool p))):=rfl
@[go_sem] theorem aic:ev env (.const (.string s))=some (.pv (.sc (.string s))):=rfl
@[go_sem] theorem apu:ev env (.const (.slice none 0 0))=some .emp:=rfl
@[go_sem] theorem apv {l:List Value} :ev env (.const (.agg l.toArray))=if l.all (·.oneCell')=true then some (.agg (l.map Uy)) else none:=by show (if l.toArray.all (·.oneCell')=true then _ else none)=_;rw[List.all_toArray]
@[go_sem] theorem apw:Value.oneCell' (.int k a)=true:=rfl
@[go_sem] theorem apx:Value.oneCell' (.string s)=true:=rfl
@[go_sem] theorem apy:Value.oneCell' (.slice none 0 0)=true:=rfl
@[go_sem] theorem am9:Uy (.slice none 0 0)= .emp:=rfl
@[go_sem] theorem ana:Uy (.int k a)= .pv (.sc (.int k a)):=rfl
@[go_sem] theorem af6:Uy (.string s)= .pv (.sc (.string s)):=rfl
@[go_sem] theorem ako {e t:Nat}{v:AV} :(env.put (some e) v) t=if t=e then some v else env t:=rfl
@[go_sem] theorem akp {v:AV} :env.put none v=env:=rfl
@[go_sem] theorem af7 {e:Nat}{v:AV}{r:List (Nat×AV)} :jR ((e,v)::r)=(jR r).put (some e) v:=rfl
@[go_sem] theorem aid {t:Nat} :jR [] t=none:=rfl
@[go_sem] theorem aie {e:Nat}{o:Option Obj}{r:List (Nat×Option Obj)} :σ.upds ((e,o)::r)=(σ.upd e o).upds r:=rfl
@[go_sem] theorem akq:σ.upds []=σ:=rfl
@[go_sem] theorem anb {e t:Nat}{o:Option Obj} :(σ.upd e o) t=if t=e then o else σ t:=rfl
@[go_sem] theorem anc {key:Key} :V6 [] i key log=log:=rfl
@[go_sem] theorem akr {key:Key} :GG nx U i key []=True:=by simp[GG]
@[go_sem] theorem aks {off e j:Nat} :RS off (.ptr e j)=some (.ptr e (j+off)):=rfl
@[go_sem] theorem ane {off r n j e:Nat} :RS off (.rp r n j e)=some (.rp r n j (e+off)):=rfl
@[go_sem] theorem anf {off j:Nat}{row:List PV} :RS off (.fp row j)=some (.fp row (j+off)):=rfl
@[go_sem] theorem ang {off j:Nat}{cts:List CT} :RS off (.tp cts j)=some (.tp cts (j+off)):=rfl
@[go_sem] theorem aif {e j:Nat} :Zy (.ptr e j)=true:=rfl
@[go_sem] theorem akt {els:List (List PV)} :lenOf P t (.pv (.sl els))=if (aV P t).isSome=true then some els.length else none:=rfl
@[go_sem] theorem aih {r n:Nat} :lenOf P t (.own r n)=if (aV P t).isSome=true then some n else none:=rfl
@[go_sem] theorem aku {cts:List CT}{n:Nat} :lenOf P t (.pv (.tr cts n))=if (aV P t).isSome=true then some n else none:=rfl
@[go_sem] theorem aii:lenOf P t (.pv (.sc (.string s)))=if RU P t=true then some s.size else none:=rfl
def ZC (el:Option (TypeId×Nat×Nat))(els:List (List PV))(i:Int):Option DO:=
 match el with
 |some (_,k,_)=>some (.row els i k)
 |none=>none
@[go_sem] theorem af8 {y u bb:Nat}{els:List (List PV)} :ZC (some (y,u,bb)) els a=some (.row els a u):=rfl
@[go_sem] theorem anh {els:List (List PV)} :sD P σ t (.pv (.sl els)) a=ZC (aV P t) els a:=by
 unfold sD ZC
 cases aV P t<;>rfl
def ZE (el:Option (TypeId×Nat×Nat))(o:Option Obj)(r n:Nat)(i:Int):Option DO:=
 match el,o with
 |some (_,k,_),some (.row ty k' els)=>if k'=k/\els.length=n then some (.eff (0<=i/\i<n) (.rp r k i.toNat 0) [r] []) else none
 |_,_=>none
@[go_sem] theorem af9 {B u bb r n ty y:Nat}{els:List (List PV)} :ZE (some (B,u,bb)) (some (.row ty y els)) r n a=if y=u/\els.length=n then some (.eff (0<=a/\a<n) (.rp r u a.toNat 0) [r] []) else none:=rfl
@[go_sem] theorem akv {r n:Nat} :sD P σ t (.own r n) a=ZE (aV P t) (σ r) r n a:=by
 unfold sD ZE
 cases aV P t with
 |none=>rfl
 |
  some q=>
  obtain⟨u,y,B⟩:=q;dsimp only
  cases σ r with
  |none=>rfl
  |some o=>cases o<;>rfl
def ZF (el:Option (TypeId×Nat×Nat))(cts:List CT)(n:Nat)(i:Int):Option DO:=
 match el with
 |some (_,k,_)=>if cts.length=k then some (.chk (0<=i/\i<n) (.tp cts 0)) else none
 |none=>none
@[go_sem] theorem aga {y u bb n:Nat}{cts:List CT} :ZF (some (y,u,bb)) cts n a=if cts.length=u then some (.chk (0<=a/\a<n) (.tp cts 0)) else none:=rfl
@[go_sem] theorem ani {cts:List CT}{n:Nat} :sD P σ t (.pv (.tr cts n)) a=ZF (aV P t) cts n a:=by
 unfold sD ZF
 cases aV P t<;>rfl
def agb (ly:Option (Bool×Nat))(o:Option Obj)(e off:Nat):Option DO:=
 match ly,o with
 |some (g,k),some (.box cs)=>(zK g k cs off).map λv=> .eff True v [e] []
 |_,_=>none
@[go_sem] theorem aij {g:Bool}{u e off:Nat}{cs:List AV} :agb (some (g,u)) (some (.box cs)) e off=(zK g u cs off).map λv=> .eff True v [e] []:=rfl
@[go_sem] theorem aik {e off:Nat} :kJ P σ t (.ptr e off)=agb (lay P t) (σ e) e off:=by
 unfold kJ agb
 cases lay P t with
 |none=>rfl
 |
  some q=>
  obtain⟨u,y⟩:=q;dsimp only
  cases σ e with
  |none=>rfl
  |some o=>cases o<;>rfl
def agc (ly:Option (Bool×Nat))(row:List PV)(off:Nat):Option DO:=
 match ly with
 |some (g,k)=>(zK g k (row.map .pv) off).map DO.val
 |none=>none
@[go_sem] theorem ail {g:Bool}{u off:Nat}{row:List PV} :agc (some (g,u)) row off=(zK g u (row.map .pv) off).map DO.val:=rfl
@[go_sem] theorem akw {row:List PV}{off:Nat} :kJ P σ t (.fp row off)=agc (lay P t) row off:=by
 unfold kJ agc
 cases lay P t<;>rfl
def agd (ly:Option (Bool×Nat))(o:Option Obj)(r k' j off:Nat):Option DO:=
 match ly,o with
 |some (g,k),some (.row ty k2 els)=>if k2=k' then some (.ld els j g k off r) else none
 |_,_=>none
@[go_sem] theorem aim {g:Bool}{u r y j off ty B:Nat}{els:List (List PV)} :agd (some (g,u)) (some (.row ty B els)) r y j off=if B=y then some (.ld els j g u off r) else none:=rfl
@[go_sem] theorem akx {r u j off:Nat} :kJ P σ t (.rp r u j off)=agd (lay P t) (σ r) r u j off:=by
 unfold kJ agd
 cases lay P t with
 |none=>rfl
 |
  some q=>
  obtain⟨y,B⟩:=q;dsimp only
  cases σ r with
  |none=>rfl
  |some o=>cases o<;>rfl
def ZG (ly:Option (Bool×Nat))(cts:List CT)(j:Nat):Option DO:=
 match ly with
 |some (g,k)=>if g=false then (cts[j]?).map λct=> .tyc ct else if j=0/\k=cts.length then some (.tys cts) else none
 |none=>none
@[go_sem] theorem aky {u:Nat}{cts:List CT} :ZG (some (true,u)) cts 0=if u=cts.length then some (.tys cts) else none:=by simp[ZG]
@[go_sem] theorem ain {u j:Nat}{cts:List CT} :ZG (some (false,u)) cts j=(cts[j]?).map λct=> .tyc ct:=rfl
@[go_sem] theorem akz {cts:List CT}{j:Nat} :kJ P σ t (.tp cts j)=ZG (lay P t) cts j:=by
 unfold kJ ZG
 cases lay P t<;>rfl
@[go_sem] theorem anj {u off:Nat}{cs:List AV} :zK false u cs off=cs[off]?:=rfl
@[go_sem] theorem ank {u off:Nat}{cs:List AV} :zK true u cs off=if off+u<=cs.length then some (.agg ((cs.drop off).take u)) else none:=rfl
def age (ly:Option (Bool×Nat))(o:Option Obj)(e off:Nat)(v:AV):Option DO:=
 match ly,o with
 |some (g,k),some (.box cs)=>if (bg v).length=k/\(bg v).all iD=true/\off+k<=cs.length then some (.eff True .emp [] [(e,some (.box (iM cs off (bg v))))]) else none
 |_,_=>none
@[go_sem] theorem aio {g:Bool}{u e off:Nat}{cs:List AV}{v:AV} :age (some (g,u)) (some (.box cs)) e off v=if (bg v).length=u/\(bg v).all iD=true/\off+u<=cs.length then some (.eff True .emp [] [(e,some (.box (iM cs off (bg v))))]) else none:=rfl
@[go_sem] theorem agf {e off:Nat}{v:AV} :jf P σ t (.ptr e off) v=age (lay P t) (σ e) e off v:=by
 unfold jf age
 cases lay P t with
 |none=>rfl
 |
  some q=>
  obtain⟨u,y⟩:=q;dsimp only
  cases σ e with
  |none=>rfl
  |some o=>cases o<;>rfl
def agh (ly:Option (Bool×Nat))(o:Option Obj)(ps:Option (List PV))(r k' j off:Nat):Option DO:=
 match ly,o,ps with
 |some (g,k),some (.row ty k2 els),some ps=>if k2=k'/\ps.length=k/\off+k<=k' then some (.eff (j<els.length) .emp [] [(r,some (.row ty k' (els.modify j (λrow=>iM row off ps))))]) else none
 |_,_,_=>none
@[go_sem] theorem aip {g:Bool}{y r u j off ty D:Nat}{els:List (List PV)}{B:List PV} :agh (some (g,y)) (some (.row ty D els)) (some B) r u j off=if D=u/\B.length=y/\off+y<=u then some (.eff (j<els.length) .emp [] [(r,some (.row ty u (els.modify j (λrow=>iM row off B))))]) else none:=rfl
@[go_sem] theorem aiq {r u j off:Nat}{v:AV} :jf P σ t (.rp r u j off) v=agh (lay P t) (σ r) (xe (bg v)) r u j off:=by
 unfold jf agh
 cases lay P t with
 |none=>rfl
 |
  some q=>
  obtain⟨y,B⟩:=q;dsimp only
  cases σ r with
  |none=>cases xe (bg v)<;>rfl
  |some o=>cases o<;>cases xe (bg v)<;>rfl
def agi (ly:Option (Bool×Nat))(ct:Option CT)(p:Option PV):Option DO:=
 match ly,ct,p with
 |some (false,1),some ct,some p=>some (.eff (ct.ok p) .emp [] [])
 |_,_,_=>none
@[go_sem] theorem air {ct:CT}{p:PV} :agi (some (false,1)) (some ct) (some p)=some (.eff (ct.ok p) .emp [] []):=rfl
@[go_sem] theorem ais {cts:List CT}{j:Nat}{v:AV} :jf P σ t (.tp cts j) v=agi (lay P t) cts[j]? (toP v):=by
 unfold jf agi
 cases lay P t with
 |none=>rfl
 |
  some q=>
  obtain⟨g,u⟩:=q;dsimp only
  cases g
  . by_cases hk:u=1
    . subst hk;simp only[and_self,qM]
      cases cts[j]?<;>cases toP v<;>rfl
    rw[if_neg (λh=>hk h.2)];split<;>first|rfl|(rename_i h1 h2;simp_all)
  rw[if_neg (λh=>by cases h.1)]
def dAp (el:Option (TypeId×Nat×Nat))(o:Option Obj)(ys:Option PV)(lab r n:Nat):Option DO:=
 match el,o,ys with
 |some (el,k,_),some (.row ty k' els),some (.sl ys)=>if (k'=k/\ty=el)/\els.length=n then some (.eff (n+ys.length<=100000000/\∀row∈ys,row.length=k) (.own lab (n+ys.length)) [] [(r,none),(lab,some (.row ty k' (els++ys)))]) else none
 |_,_,_=>none
@[go_sem] theorem akA {D y bb u r n ty B:Nat}{els ys:List (List PV)} :dAp (some (D,y,bb)) (some (.row ty B els)) (some (.sl ys)) u r n=if (B=y/\ty=D)/\els.length=n then some (.eff (n+ys.length<=100000000/\∀row∈ys,row.length=y) (.own u (n+ys.length)) [] [(r,none),(u,some (.row ty B (els++ys)))]) else none:=rfl
@[go_sem] theorem akB {u r n:Nat}{v:AV} :sN P σ u t (.own r n) v=dAp (aV P t) (σ r) (toP v) u r n:=by
 unfold sN dAp
 cases aV P t with
 |none=>rfl
 |
  some q=>
  obtain⟨y,B,D⟩:=q;dsimp only
  cases σ r with
  |none=>cases toP v<;>rfl
  |
   some o=>cases o<;>(cases toP v with
   |none=>rfl
   |some p=>cases p<;>rfl)
def acD (el:Option (TypeId×Nat×Nat))(ys:PV)(lab:Nat):Option DO:=
 match el,ys with
 |some (el,k,_),.sl ys=>some (.eff (ys.length<=100000000/\∀row∈ys,row.length=k) (.own lab ys.length) [] [(lab,some (.row el k ys))])
 |some (el,k,_),.tr cts n=>if cts.length=k then some (.chk (n<=100000000) (.pv (.tr cts n))) else none
 |_,_=>none
@[go_sem] theorem anl {B y bb u:Nat}{ys:List (List PV)} :acD (some (B,y,bb)) (.sl ys) u=some (.eff (ys.length<=100000000/\∀row∈ys,row.length=y) (.own u ys.length) [] [(u,some (.row B y ys))]):=rfl
@[go_sem] theorem anm {B y bb u n:Nat}{cts:List CT} :acD (some (B,y,bb)) (.tr cts n) u=if cts.length=y then some (.chk (n<=100000000) (.pv (.tr cts n))) else none:=rfl
@[go_sem] theorem akC {u:Nat}{p:PV} :sN P σ u t .emp (.pv p)=acD (aV P t) p u:=by
 unfold sN acD
 cases aV P t with
 |none=>rfl
 |
  some q=>
  obtain⟨y,B,D⟩:=q
  cases p<;>rfl
def agj (el:Option (TypeId×Nat×Nat))(els:List (List PV))(lo hi:Option Int):Option DO:=
 match el,lo,hi with
 |some (_,k,_),some l,some h=>some (.chk (0<=l/\l<=h/\h<=els.length/\∀row∈els,row.length=k) (.pv (.sl ((els.take h.toNat).drop l.toNat))))
 |_,_,_=>none
@[go_sem] theorem ait {y u bb:Nat}{els:List (List PV)} :agj (some (y,u,bb)) els (some a) (some b)=some (.chk (0<=a/\a<=b/\b<=els.length/\∀row∈els,row.length=u) (.pv (.sl ((els.take b.toNat).drop a.toNat)))):=rfl
@[go_sem] theorem akD {e:Operand->Option AV}{u:Nat}{els:List (List PV)}{lo hi:Option Operand} :nI P e σ u t (.pv (.sl els)) lo hi=agj (aV P t) els (CJ e lo 0) (CJ e hi els.length):=by
 unfold nI agj
 cases aV P t with
 |none=>rfl
 |
  some q=>
  obtain⟨y,B,D⟩:=q;dsimp only
  cases CJ e lo 0<;>cases CJ e hi els.length<;>rfl
def agk (el:Option (TypeId×Nat×Nat))(o:Option Obj)(hi:Option Int)(lab r n:Nat):Option DO:=
 match el,o,hi with
 |some _,some (.row ty k' els),some h=>if els.length=n then some (.eff (0<=h/\h<=n) (.own lab h.toNat) [] [(r,none),(lab,some (.row ty k' (els.take h.toNat)))]) else none
 |_,_,_=>none
@[go_sem] theorem aiu {q:TypeId×Nat×Nat}{ty y u r n:Nat}{els:List (List PV)} :agk (some q) (some (.row ty y els)) (some a) u r n=if els.length=n then some (.eff (0<=a/\a<=n) (.own u a.toNat) [] [(r,none),(u,some (.row ty y (els.take a.toNat)))]) else none:=rfl
@[go_sem] theorem aiv {e:Operand->Option AV}{u r n:Nat}{hi:Option Operand} :nI P e σ u t (.own r n) none hi=agk (aV P t) (σ r) (CJ e hi n) u r n:=by
 unfold nI agk
 cases aV P t with
 |none=>rfl
 |
  some q=>
  obtain⟨y,B,D⟩:=q;dsimp only
  cases σ r with
  |none=>cases CJ e hi n<;>rfl
  |some o=>cases o<;>cases CJ e hi n<;>rfl
def akE (x:Option AV):Option Int:=
 match x with
 |some (.pv (.sc (.int _ i)))=>some i
 |_=>none
@[go_sem] theorem aiw:akE (some (.pv (.sc (.int k a))))=some a:=rfl
@[go_sem] theorem akF {e:Operand->Option AV} :CJ e none a=some a:=rfl
@[go_sem] theorem akG {e:Operand->Option AV}{x:Operand} :CJ e (some x) a=akE (e x):=rfl
@[go_sem] theorem akH {o:Array Oper}{g:Nat} :UQ o g=(o[g]?).bind (·.dst):=rfl
end
