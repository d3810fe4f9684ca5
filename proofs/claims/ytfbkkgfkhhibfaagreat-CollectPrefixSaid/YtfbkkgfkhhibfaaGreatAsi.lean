/- Words. -/
import Derived.Test.YtfbkkgfkhhibfaaGreatAdv
set_option linter.unusedVariables false
set_option linter.unusedSimpArgs false
namespace AM
open Go Go.RowKit
mutual
theorem SK:∀(v:AV) (ρ:Nat->Nat),v.lb 0=true->v.ren ρ=v
 | .own r n,_,h=>by simp[AV.lb] at h
 | .ptr l o,_,h=>by simp[AV.lb] at h
 | .rp r k i o,_,h=>by simp[AV.lb] at h
 | .agg cs,ρ,h=>by simp only[AV.ren];rw[Dn cs ρ (by simpa [AV.lb] using h)]
 | .tup cs,ρ,h=>by simp only[AV.ren];rw[Dn cs ρ (by simpa [AV.lb] using h)]
 | .pv _,_,_=>rfl
 | .fp _ _,_,_=>rfl
 | .tp _ _,_,_=>rfl
 | .emp,_,_=>rfl
theorem Dn:∀(vs:List AV) (ρ:Nat->Nat),AV.lbL 0 vs=true->AV.renL ρ vs=vs
 | [],_,_=>rfl
 |
  v::r,ρ,h=>by
  simp only[AV.lbL,dC] at h
  simp only[AV.renL]
  rw[SK v ρ h.1,Dn r ρ h.2]
end
def lq (P:Program)(f:FuncId)(asl:List AV)(Q:AV->Prop):Prop:=isGo P f=true/\AV.lbL 0 asl=true/\ACall P f asl [] (λr g=>g=[]/\r.lb 0=true/\Q r)
abbrev afP:Key:=⟨[],[],true,false,true⟩
abbrev ZA:Key:=⟨[],[],false,true,true⟩
theorem Kt {P:Program}{dr:Bool}{f:FuncId}{nx i:Nat}{fM:List (Option AV)}{σ:Sto}{K:AV->List (Nat×Option Obj)->Key->Prop}{asl:List AV}{Q:AV->Prop}(hf:lq P f asl Q)(B:fM=asl.map some)(hi:dr=true->∃r:AV,r.lb 0=true/\Q r)(h:∀r,r.lb 0=true->Q r->K r [] ZA):mX P dr f nx i fM σ K:=by obtain⟨h1,h2,h3⟩:=hf;refine⟨asl,[],_,[],h1,h3,by rw[Dn asl _ h2];exact B,h2,rfl,rfl,List.nodup_nil,rfl,λk o hk=>by simp at hk,λD=>?_,λr g E h4 h5=>?_⟩;obtain⟨r,u,y⟩:=hi D;exact⟨r,[],⟨rfl,u,y⟩,by simp,by simp⟩;obtain⟨rfl,u,y⟩:=E;rw[SK r _ u];exact h r u y
def OY (els:List (List PV))(i:Int)(k:Nat)(F:List PV->Prop):Prop:=(0<=i/\∃row,els[i.toNat]?=some row/\row.length=k)/\∀row,els[i.toNat]?=some row->F row
theorem aN {α:Type}{l:List α}{f:α->List PV}{i:Int}{k:Nat}{F:List PV->Prop}{x:α}(h0:0<=i)(hx:l[i.toNat]?=some x)(hk:(f x).length=k)(hF:F (f x)):OY (l.map f) i k F:=by have h1:(l.map f)[i.toNat]?=some (f x):=(by simp[hx]);exact⟨⟨h0,_,h1,hk⟩,λrow hr=>by rw[h1] at hr;injection hr with hr;rw[<-hr];exact hF⟩
theorem aA {els:List (List PV)}{i:Int}{k:Nat}{F:List PV->Prop}{x:List PV}(h0:0<=i)(h1:els[i.toNat]?=some x)(hk:x.length=k)(hF:F x):OY els i k F:=
 ⟨⟨h0,_,h1,hk⟩,λrow hr=>by rw[h1] at hr;injection hr with hr;rw[<-hr];exact hF⟩
def SL (ct:CT)(F:PV->Prop):Prop:=∀p,ct.ok p->F p
def afQ (els:List (List PV))(i:Nat)(g:Bool)(k off:Nat)(F:AV->Prop):Prop:=(∃row v,els[i]?=some row/\zV g k (row.map .pv) off=some v)/\∀v,(∃row,els[i]?=some row/\zV g k (row.map .pv) off=some v)->F v
theorem JO {els:List (List PV)}{i:Nat}{g:Bool}{k off:Nat}{F:AV->Prop}{x:List PV}{v:AV}(h1:els[i]?=some x)(B:zV g k (x.map .pv) off=some v)(hF:F v):afQ els i g k off F:=
 ⟨⟨
  _,_,h1,B⟩,λv' hr=>by
  obtain⟨row,u,y⟩:=hr
  rw[h1] at u
  injection u with u
  rw[<-u,B] at y
  injection y with y
  rw[<-y]
  exact hF⟩
@[congr] theorem acJ {P:Program}{dr:Bool}{f:FuncId}{nx i:Nat}{fM u:List (Option AV)}{σ:Sto}{K:AV->List (Nat×Option Obj)->Key->Prop}(h:fM=u):mX P dr f nx i fM σ K=mX P dr f nx i u σ K:=by rw[h]
def Ku (b:Bool)(X Y:Prop):Prop:=(b=true->X)/\(b=false->Y)
section
variable {P : Program} {ops : Array Oper} {nx i : Nat} {dr : Bool} {U : List (Nat × Nat)} {K : Env -> Sto -> Nat -> Prop} {log : List (Nat × Key)} {l : List Oper} {env : Env} {σ : Sto} {d : Option Nat} {ty : TypeId} {pos : String} {zh : Array Edge} {gd : Option (Nat × Bool)}
def vo (P:Program)(ops:Array Oper)(nx:Nat)(dr:Bool)(U:List (Nat×Nat))(K:Env->Sto->Nat->Prop)(log:List (Nat×Key))(o:Oper)(l:List Oper)(i:Nat)(env:Env)(σ:Sto):Prop:=
 vX P dr nx i o env σ (λv G key=>GK nx U i key log/\vS P ops nx dr U K (WA U i key log) l (i+1) (env.put o.dst v) (σ.upds G))
def ajN (nx i:Nat)(d:DO):Key:=⟨d.rd,d.wr.filter (λl=>!own nx i l),d.det,false,true⟩
def vD (P:Program)(ops:Array Oper)(nx:Nat)(dr:Bool)(U:List (Nat×Nat))(K:Env->Sto->Nat->Prop)(log:List (Nat×Key))(dst:Option Nat)(l:List Oper)(i:Nat)(env:Env)(σ:Sto)(x:Option DO):Prop:=
 match x with
 |none=>False
 |some d=>d.ok/\∀v,d.out v->GK nx U i (ajN nx i d) log/\vS P ops nx dr U K (WA U i (ajN nx i d) log) l (i+1) (env.put dst v) (σ.upds d.upd)
@[go_sem] theorem ao1:vS P ops nx dr U K log [] i env σ=K env σ (nx+8*i):=rfl
@[go_sem] theorem asw {op:Op} :vS P ops nx dr U K log (⟨d,op,ty,pos,zh,none⟩::l) i env σ=vo P ops nx dr U K log ⟨d,op,ty,pos,zh,none⟩ l i env σ:=rfl
def Kv (P:Program)(ops:Array Oper)(nx:Nat)(dr:Bool)(U:List (Nat×Nat))(K:Env->Sto->Nat->Prop)(log:List (Nat×Key))(o:Oper)(l:List Oper)(i:Nat)(env:Env)(σ:Sto)(want:Bool)(dg:Option Nat)(x:Option AV):Prop:=
 match x with
 |some (.pv (.sc (.bool b)))=>Ku b (if want=true then vo P ops nx dr U K log o l i (env.put dg (.pv (.sc (.bool true)))) σ else vS P ops nx dr U K log l (i+1) ((env.put dg (.pv (.sc (.bool true)))).put o.dst (.tup [])) σ)
  (if want=true then vS P ops nx dr U K log l (i+1) ((env.put dg (.pv (.sc (.bool false)))).put o.dst (.tup [])) σ else vo P ops nx dr U K log o l i (env.put dg (.pv (.sc (.bool false)))) σ)
 |some (.tup [])=>vS P ops nx dr U K log l (i+1) (env.put o.dst (.tup [])) σ
 |_=>False
def U6 (ops:Array Oper)(g:Nat):Option Nat:=(ops[g]?).bind (·.dst)
def evO (env:Env):Option Nat->Option AV
 |some d=>env d
 |none=>none
@[go_sem] theorem asy {op:Op}{g:Nat}{want:Bool} :vS P ops nx dr U K log (⟨d,op,ty,pos,zh,some (g,want)⟩::l) i env σ=Kv P ops nx dr U K log ⟨d,op,ty,pos,zh,some (g,want)⟩ l i env σ want (U6 ops g) (evO env (U6 ops g)):=by
 simp only[vS,vG,Kv,U6,Ku,vo]
 cases (ops[g]?).bind (·.dst) with
 |none=>rfl
 |some q=>rfl
@[go_sem] theorem ajO {q:Nat} :evO env (some q)=env q:=rfl
theorem ZB {o:Oper}{want:Bool}{u:Option Nat} :Kv P ops nx dr U K log o l i env σ want u (some (.pv (.sc (.bool true))))=if want=true then vo P ops nx dr U K log o l i (env.put u (.pv (.sc (.bool true)))) σ else vS P ops nx dr U K log l (i+1) ((env.put u (.pv (.sc (.bool true)))).put o.dst (.tup [])) σ:=by simp[Kv,Ku]
theorem ZC {o:Oper}{want:Bool}{u:Option Nat} :Kv P ops nx dr U K log o l i env σ want u (some (.pv (.sc (.bool false))))=if want=true then vS P ops nx dr U K log l (i+1) ((env.put u (.pv (.sc (.bool false)))).put o.dst (.tup [])) σ else vo P ops nx dr U K log o l i (env.put u (.pv (.sc (.bool false)))) σ:=by simp[Kv,Ku]
@[go_sem] theorem ao2 {o:Oper}{u:Option Nat} :Kv P ops nx dr U K log o l i env σ true u (some (.pv (.sc (.bool true))))=vo P ops nx dr U K log o l i (env.put u (.pv (.sc (.bool true)))) σ:=by rw[ZB,if_pos rfl]
@[go_sem] theorem ao3 {o:Oper}{u:Option Nat} :Kv P ops nx dr U K log o l i env σ false u (some (.pv (.sc (.bool true))))=vS P ops nx dr U K log l (i+1) ((env.put u (.pv (.sc (.bool true)))).put o.dst (.tup [])) σ:=by rw[ZB,if_neg (by decide)]
@[go_sem] theorem ao4 {o:Oper}{u:Option Nat} :Kv P ops nx dr U K log o l i env σ true u (some (.pv (.sc (.bool false))))=vS P ops nx dr U K log l (i+1) ((env.put u (.pv (.sc (.bool false)))).put o.dst (.tup [])) σ:=by rw[ZC,if_pos rfl]
@[go_sem] theorem ao5 {o:Oper}{u:Option Nat} :Kv P ops nx dr U K log o l i env σ false u (some (.pv (.sc (.bool false))))=vo P ops nx dr U K log o l i (env.put u (.pv (.sc (.bool false)))) σ:=by rw[ZC,if_neg (by decide)]
@[go_sem] theorem ao6 {o:Oper}{want:Bool}{u:Option Nat} :Kv P ops nx dr U K log o l i env σ want u (some (.tup []))=vS P ops nx dr U K log l (i+1) (env.put o.dst (.tup [])) σ:=rfl
theorem acK {o:Oper}{want:Bool}{u:Option Nat}{b:Bool}(y:b=true->Kv P ops nx dr U K log o l i env σ want u (some (.pv (.sc (.bool true)))))(hf:b=false->Kv P ops nx dr U K log o l i env σ want u (some (.pv (.sc (.bool false))))):Kv P ops nx dr U K log o l i env σ want u (some (.pv (.sc (.bool b)))):=by
 cases b
 exact hf rfl;exact y rfl
theorem ZE {k:Key}(h1:k.rd=[])(h2:k.wr=[])(h3:k.isC=false):GK nx U i k log:=λe _ _=>⟨λl _=>by simp[h1,h2],λl u=>(by rw[h2] at u;cases u),λ_ l u=>(by rw[h1,h2] at u;cases u),.inl h3⟩
@[go_sem] theorem ao7 {v:AV} :vD P ops nx dr U K log d l i env σ (some (.val v))=vS P ops nx dr U K (WA U i afP log) l (i+1) (env.put d v) σ:=by simp only[vD,DO.val,qo];exact⟨λh=>(h.2 v rfl).2,λh=>⟨trivial,λu y=>⟨ZE rfl rfl rfl,by rw[y];exact h⟩⟩⟩
@[go_sem] theorem ao8 {p:Prop}{v:AV} :vD P ops nx dr U K log d l i env σ (some (.chk p v))=(p/\vS P ops nx dr U K (WA U i afP log) l (i+1) (env.put d v) σ):=by simp only[vD,DO.chk,qo];exact⟨λh=>⟨h.1,(h.2 v rfl).2⟩,λh=>⟨h.1,λu y=>⟨ZE rfl rfl rfl,by rw[y];exact h.2⟩⟩⟩
def DO.eff (p:Prop)(v:AV)(rd:List Nat)(upd:List (Nat×Option Obj)):DO:=⟨p,λu=>u=v,rd,true,upd⟩
def ajP (nx i:Nat)(rd:List Nat)(upd:List (Nat×Option Obj)):Key:=⟨rd,(upd.map (·.1)).filter (λl=>!own nx i l),true,false,true⟩
@[go_sem] theorem ao9 {p:Prop}{v:AV}{rd:List Nat}{upd:List (Nat×Option Obj)} :vD P ops nx dr U K log d l i env σ (some (.eff p v rd upd))=(p/\GK nx U i (ajP nx i rd upd) log/\vS P ops nx dr U K (WA U i (ajP nx i rd upd) log) l (i+1) (env.put d v) (σ.upds upd)):=by simp only[vD,DO.eff,qo];exact⟨λh=>⟨h.1,h.2 v rfl⟩,λh=>⟨h.1,λu y=>by rw[y];exact h.2⟩⟩
def WB:List CT->(List PV->Prop)->Prop
 | [],F=>F []
 |ct::r,F=>SL ct λp=>WB r λps=>F (p::ps)
@[go_sem] theorem ajQ {F:List PV->Prop} :WB [] F=F []:=rfl
@[go_sem] theorem WC {ct:CT}{r:List CT}{F:List PV->Prop} :WB (ct::r) F=SL ct λp=>WB r λu=>F (p::u):=rfl
theorem EN:∀ {cts:List CT}{F:List PV->Prop},WB cts F ↔∀y,ZF cts y->F y
 | [],F=>⟨λh y u=>by rw[ZG.1 u.1];exact h,λh=>h [] ⟨rfl,λj ct p hc=>by simp at hc⟩⟩
 |
  ct::r,F=>by
  rw[WC]
  constructor
  . intro h y u
    cases y with
    |nil=>cases u.1
    |cons p s=>exact EN.1 (h p (u.2 0 ct p rfl rfl)) s ⟨by simpa using u.1,λj c q h1 h2=>u.2 (j+1) c q (by simpa using h1) (by simpa using h2)⟩
  . intro h p u
    refine EN.2 λy hs=>h (p::y) ⟨by simp[hs.1],λj c q h1 h2=>?_⟩
    cases j with
    |zero=>simp at h1 h2;subst h1 h2;exact u
    |succ j=>exact hs.2 j c q (by simpa using h1) (by simpa using h2)
def DO.row (els:List (List PV))(i:Int)(k:Nat):DO:=⟨0<=i/\∃row,els[i.toNat]?=some row/\row.length=k,λu=>∃row,els[i.toNat]?=some row/\u= .fp row 0,[],true,[]⟩
@[go_sem] theorem apa {els:List (List PV)}{j:Int}{k:Nat} :vD P ops nx dr U K log d l i env σ (some (.row els j k))=OY els j k (λrow=>vS P ops nx dr U K (WA U i afP log) l (i+1) (env.put d (.fp row 0)) σ):=by simp only[vD,DO.row,OY,qo];refine and_congr_right (λ_=>⟨λh row hr=>(h _ ⟨row,hr,rfl⟩).2,λh v ⟨row,hr,u⟩=>⟨ZE rfl rfl rfl,by rw[u];exact h row hr⟩⟩)
def DO.tys (cts:List CT):DO:=⟨True,λu=>∃ps,ZF cts ps/\u= .agg (ps.map .pv),[],false,[]⟩
@[go_sem] theorem apb {cts:List CT} :vD P ops nx dr U K log d l i env σ (some (.tys cts))=WB cts (λy=>vS P ops nx dr U K (WA U i ⟨[],[],false,false,true⟩ log) l (i+1) (env.put d (.agg (y.map .pv))) σ):=by rw[qo,EN];simp only[vD,DO.tys];exact⟨λh p u=>(h.2 _ ⟨p,u,rfl⟩).2,λh=>⟨trivial,λv ⟨p,u,B⟩=>⟨ZE rfl rfl rfl,by rw[B];exact h p u⟩⟩⟩
def DO.tyc (ct:CT):DO:=⟨True,λu=>∃p,ct.ok p/\u= .pv p,[],false,[]⟩
@[go_sem] theorem asz {ct:CT} :vD P ops nx dr U K log d l i env σ (some (.tyc ct))=SL ct (λp=>vS P ops nx dr U K (WA U i ⟨[],[],false,false,true⟩ log) l (i+1) (env.put d (.pv p)) σ):=by simp only[vD,DO.tyc,SL,qo];exact⟨λh p u=>(h.2 _ ⟨p,u,rfl⟩).2,λh=>⟨trivial,λv ⟨p,u,y⟩=>⟨ZE rfl rfl rfl,by rw[y];exact h p u⟩⟩⟩
def DO.ld (els:List (List PV))(i:Nat)(g:Bool)(k off r:Nat):DO:=⟨∃row v,els[i]?=some row/\zV g k (row.map .pv) off=some v,λu=>∃row,els[i]?=some row/\zV g k (row.map .pv) off=some u,[r],true,[]⟩
@[go_sem] theorem asA {els:List (List PV)}{j k off r:Nat}{g:Bool} :vD P ops nx dr U K log d l i env σ (some (.ld els j g k off r))=afQ els j g k off (λv=>GK nx U i ⟨[r],[],true,false,true⟩ log/\vS P ops nx dr U K (WA U i ⟨[r],[],true,false,true⟩ log) l (i+1) (env.put d v) σ):=by simp only[vD,DO.ld,afQ,qo];exact and_congr_right (λ_=>Iff.rfl)
@[go_sem] theorem amQ {x:Operand} :vo P ops nx dr U K log ⟨d,.move x,ty,pos,zh,gd⟩ l i env σ=vD P ops nx dr U K log d l i env σ ((ev env x).map DO.val):=rfl
@[go_sem] theorem ahZ {x:Operand} :vo P ops nx dr U K log ⟨d,.assign x,ty,pos,zh,gd⟩ l i env σ=vD P ops nx dr U K log d l i env σ ((ev env x).map DO.val):=rfl
def ZH (c a b:Option AV):Option DO:=
 match c with
 |some (.pv (.sc (.bool t)))=>(if t=true then a else b).map DO.val
 |_=>none
@[go_sem] theorem amR {a b:Option AV} :ZH (some (.pv (.sc (.bool true)))) a b=a.map DO.val:=rfl
@[go_sem] theorem amS {a b:Option AV} :ZH (some (.pv (.sc (.bool false)))) a b=b.map DO.val:=rfl
@[go_sem] theorem amT {c a b:Operand} :vo P ops nx dr U K log ⟨d,.pick c a b,ty,pos,zh,gd⟩ l i env σ=vD P ops nx dr U K log d l i env σ (ZH (ev env c) (ev env a) (ev env b)):=rfl
@[go_sem] theorem ajR {t:TypeId} :vo P ops nx dr U K log ⟨d,.alloc t,ty,pos,zh,gd⟩ l i env σ=vD P ops nx dr U K log d l i env σ ((eu P t).map λcs=> .eff True (.ptr (nx+8*i) 0) [] [(nx+8*i,some (.box cs))]):=rfl
@[go_sem] theorem apc {t:TypeId}{x:Operand} :vo P ops nx dr U K log ⟨d,.box t x,ty,pos,zh,gd⟩ l i env σ=vD P ops nx dr U K log d l i env σ ((ev env x).bind λv=>if (bJ v).all iI=true then some (.eff True (.ptr (nx+8*i) 0) [] [(nx+8*i,some (.box (bJ v)))]) else none):=rfl
def ZI (z:Option (List AV))(pl:Option (List (Nat×Nat)))(ps:Option (List (Nat×AV))):Option DO:=
 match z,pl,ps with
 |some zs,some pl,some ps=>(uN (λi=>pl[i]?) zs ps).map λcs=> .val (.agg cs)
 |_,_,_=>none
@[go_sem] theorem aep {zs:List AV}{pl:List (Nat×Nat)}{u:List (Nat×AV)} :ZI (some zs) (some pl) (some u)=(uN (λi=>pl[i]?) zs u).map λcs=> .val (.agg cs):=rfl
@[go_sem] theorem ajS {t:TypeId}{parts:Array (Nat×Operand)} :vo P ops nx dr U K log ⟨d,.build t parts,ty,pos,zh,gd⟩ l i env σ=vD P ops nx dr U K log d l i env σ (ZI (eu P t) (dw P t) (evs (ev env) parts.toList)):=rfl
def dBs (el:Option (TypeId×Nat×Nat))(n:Nat)(e:Operand->Option AV)(parts:List (Nat×Operand)):Option DO:=
 match el with
 |some (_,k,_)=>if n=0 then (if parts.length=0 then some (.val .emp) else none) else if parts.length=n/\n*k<=2^24 then (rowsOf e k 0 parts).map λrows=> .val (.pv (.sl rows)) else none
 |none=>none
@[go_sem] theorem ajT {u k b n:Nat}{e:Operand->Option AV}{parts:List (Nat×Operand)} :dBs (some (u,k,b)) n e parts=if n=0 then (if parts.length=0 then some (.val .emp) else none) else if parts.length=n/\n*k<=2^24 then (rowsOf e k 0 parts).map λrows=> .val (.pv (.sl rows)) else none:=rfl
def ajU (m k:Nat)(o:Option (List PV))(rest:Option (List (List PV))):Option (List (List PV)):=
 match o,rest with
 |some ps,some rs=>if ps.length=k then some (ps::rs) else none
 |_,_=>none
@[go_sem] theorem ah0 {m k:Nat}{u:List PV}{rs:List (List PV)} :ajU m k (some u) (some rs)=if u.length=k then some (u::rs) else none:=rfl
@[go_sem] theorem afR {e:Operand->Option AV}{k m:Nat} :rowsOf e k m []=some []:=rfl
@[go_sem] theorem aeq {e:Operand->Option AV}{k m j:Nat}{x:Operand}{r:List (Nat×Operand)} :rowsOf e k m ((j,x)::r)=if j=m then ajU m k ((e x).bind λv=>xw (bJ v)) (rowsOf e k (m+1) r) else none:=rfl
@[go_sem] theorem amU {e:Operand->Option AV} :evs e []=some []:=rfl
def evC (j:Nat)(x:Option AV)(r:Option (List (Nat×AV))):Option (List (Nat×AV)):=
 match x,r with
 |some v,some l=>some ((j,v)::l)
 |_,_=>none
@[go_sem] theorem ajV {j:Nat}{v:AV}{l:List (Nat×AV)} :evC j (some v) (some l)=some ((j,v)::l):=rfl
@[go_sem] theorem ajW {e:Operand->Option AV}{j:Nat}{x:Operand}{r:List (Nat×Operand)} :evs e ((j,x)::r)=evC j (e x) (evs e r):=rfl
@[go_sem] theorem afS {cs:List AV} :bJ (.agg cs)=cs:=rfl
@[go_sem] theorem ah1 {p:PV} :bJ (.pv p)=[.pv p]:=rfl
@[go_sem] theorem afT {r n:Nat} :bJ (.own r n)=[.own r n]:=rfl
@[go_sem] theorem afU {r n:Nat} :bJ (.ptr r n)=[.ptr r n]:=rfl
@[go_sem] theorem apd {p:PV} :toP (.pv p)=some p:=rfl
@[go_sem] theorem amV:toP .emp=some (.sl []):=rfl
@[go_sem] theorem ajX:xw []=some []:=rfl
def ajY (p:Option PV)(ps:Option (List PV)):Option (List PV):=
 match p,ps with
 |some p,some ps=>some (p::ps)
 |_,_=>none
@[go_sem] theorem ah2 {p:PV}{u:List PV} :ajY (some p) (some u)=some (p::u):=rfl
@[go_sem] theorem ah3 {v:AV}{r:List AV} :xw (v::r)=ajY (toP v) (xw r):=rfl
def aer (f:Nat->Option (Nat×Nat))(cells:List AV)(v:AV)(q:Option (Nat×Nat))(r:List (Nat×AV)):Option (List AV):=
 match q with
 |none=>none
 |some (off,size)=>if (bJ v).length=size/\off+size<=cells.length/\(bJ v).all iI=true then uN f (iV cells off (bJ v)) r else none
@[go_sem] theorem afV {f:Nat->Option (Nat×Nat)}{cells:List AV}{v:AV}{off size:Nat}{r:List (Nat×AV)} :aer f cells v (some (off,size)) r=if (bJ v).length=size/\off+size<=cells.length/\(bJ v).all iI=true then uN f (iV cells off (bJ v)) r else none:=rfl
@[go_sem] theorem ah4 {f:Nat->Option (Nat×Nat)}{cells:List AV} :uN f cells []=some cells:=rfl
@[go_sem] theorem afW {f:Nat->Option (Nat×Nat)}{cells:List AV}{j:Nat}{v:AV}{r:List (Nat×AV)} :uN f cells ((j,v)::r)=aer f cells v (f j) r:=rfl
@[go_sem] theorem ah5 {p:PV} :iI (.pv p)=true:=rfl
@[go_sem] theorem afX:iI .emp=true:=rfl
@[go_sem] theorem afY {r n:Nat} :iI (.own r n)=true:=rfl
@[go_sem] theorem afZ {r n:Nat} :iI (.ptr r n)=true:=rfl
@[go_sem] theorem abR {t:TypeId}{n:Nat}{parts:Array (Nat×Operand)} :vo P ops nx dr U K log ⟨d,.buildSlice t n parts,ty,pos,zh,gd⟩ l i env σ=vD P ops nx dr U K log d l i env σ (dBs (aZ P t) n (ev env) parts.toList):=rfl
@[go_sem] theorem amW {t:TypeId}{x:Operand} :vo P ops nx dr U K log ⟨d,.load t x,ty,pos,zh,gd⟩ l i env σ=vD P ops nx dr U K log d l i env σ ((ev env x).bind (kQ P σ t)):=rfl
@[go_sem] theorem ajZ {t:TypeId}{x y:Operand} :vo P ops nx dr U K log ⟨none,.store t x y,ty,pos,zh,gd⟩ l i env σ=vD P ops nx dr U K log none l i env σ ((ev env x).bind λa=>(ev env y).bind λv=>jq P σ t a v):=rfl
@[go_sem] theorem aes {x:Operand} :vo P ops nx dr U K log ⟨d,.nilCheck x,ty,pos,zh,gd⟩ l i env σ=vD P ops nx dr U K log d l i env σ ((ev env x).bind λv=>if ZJ v=true then some (.val v) else none):=rfl
def tu (P:Program)(t:TypeId)(op:BinOp)(x y:Option AV):Option DO:=
 match x,y with
 |
  some (.pv (.sc a)),some (.pv (.sc b))=>match uO op a b with
  |some (p,v)=>some (.chk p (.pv (.sc v)))
  |none=>(ZK P t op a b).map λv=> .val (.pv (.sc v))
 |_,_=>none
@[go_sem] theorem aj0 {op:BinOp}{t u:TypeId}{x y:Operand} :vo P ops nx dr U K log ⟨d,.binOp op t x y u,ty,pos,zh,gd⟩ l i env σ=vD P ops nx dr U K log d l i env σ (tu P t op (ev env x) (ev env y)):=rfl
variable {t : TypeId} {k : IntKind} {a b : Int} {s s' : ByteArray} {p q : Bool}
abbrev iv (k:IntKind)(n:Int):Option AV:=some (.pv (.sc (.int k n)))
theorem jD {op:BinOp}{p:Prop}{v:Value}(h:uO op (.int k a) (.int k b)=some (p,v)):tu P t op (iv k a) (iv k b)=some (.chk p (.pv (.sc v))):=by simp only[tu,iv,h]
@[go_sem] theorem aj1:tu P t .add (some (.pv (.sc (.int k a)))) (some (.pv (.sc (.int k b))))=some (.val (.pv (.sc (.int k (k.wrap (a+b)))))):=jD (p:=True) (v:= .int k (k.wrap (a+b))) (by simp[uO])
@[go_sem] theorem aj2:tu P t .sub (some (.pv (.sc (.int k a)))) (some (.pv (.sc (.int k b))))=some (.val (.pv (.sc (.int k (k.wrap (a-b)))))):=jD (p:=True) (v:= .int k (k.wrap (a-b))) (by simp[uO])
@[go_sem] theorem aj3:tu P t .mul (some (.pv (.sc (.int k a)))) (some (.pv (.sc (.int k b))))=some (.val (.pv (.sc (.int k (k.wrap (a*b)))))):=jD (p:=True) (v:= .int k (k.wrap (a*b))) (by simp[uO])
@[go_sem] theorem aj6:tu P t .quo (some (.pv (.sc (.int k a)))) (some (.pv (.sc (.int k b))))=some (.chk (b≠0) (.pv (.sc (.int k (k.wrap (a.tdiv b)))))):=jD (by simp[uO])
@[go_sem] theorem aj7:tu P t .rem (some (.pv (.sc (.int k a)))) (some (.pv (.sc (.int k b))))=some (.chk (b≠0) (.pv (.sc (.int k (a.tmod b))))):=jD (by simp[uO])
@[go_sem] theorem aj8:tu P t .eql (some (.pv (.sc (.int k a)))) (some (.pv (.sc (.int k b))))=some (.val (.pv (.sc (.bool (a==b))))):=jD (p:=True) (v:= .bool (a==b)) (by simp[uO])
@[go_sem] theorem aj9:tu P t .neq (some (.pv (.sc (.int k a)))) (some (.pv (.sc (.int k b))))=some (.val (.pv (.sc (.bool (a !=b))))):=jD (p:=True) (v:= .bool (a !=b)) (by simp[uO])
@[go_sem] theorem aka:tu P t .lss (some (.pv (.sc (.int k a)))) (some (.pv (.sc (.int k b))))=some (.val (.pv (.sc (.bool (decide (a<b)))))):=jD (p:=True) (v:= .bool (decide (a<b))) (by simp[uO])
@[go_sem] theorem akb:tu P t .leq (some (.pv (.sc (.int k a)))) (some (.pv (.sc (.int k b))))=some (.val (.pv (.sc (.bool (decide (a<=b)))))):=jD (p:=True) (v:= .bool (decide (a<=b))) (by simp[uO])
@[go_sem] theorem akc:tu P t .gtr (some (.pv (.sc (.int k a)))) (some (.pv (.sc (.int k b))))=some (.val (.pv (.sc (.bool (decide (b<a)))))):=jD (p:=True) (v:= .bool (decide (b<a))) (by simp[uO])
@[go_sem] theorem akd:tu P t .geq (some (.pv (.sc (.int k a)))) (some (.pv (.sc (.int k b))))=some (.val (.pv (.sc (.bool (decide (b<=a)))))):=jD (p:=True) (v:= .bool (decide (b<=a))) (by simp[uO])
@[go_sem] theorem ake:tu P t .eql (some (.pv (.sc (.string s)))) (some (.pv (.sc (.string s'))))=some (.val (.pv (.sc (.bool (s.toList==s'.toList))))):=rfl
@[go_sem] theorem akf:tu P t .neq (some (.pv (.sc (.string s)))) (some (.pv (.sc (.string s'))))=some (.val (.pv (.sc (.bool (!(s.toList==s'.toList)))))):=rfl
@[go_sem] theorem akg:tu P t .neq (some (.pv (.sc (.bool p)))) (some (.pv (.sc (.bool q))))=if OZ P t=true then some (.val (.pv (.sc (.bool (!(p==q)))))) else none:=by simp only[tu,uO,ZK];split<;>rfl
def dUn (op:UnOp)(x:Option AV):Option DO:=
 match op,x with
 | .not,some (.pv (.sc (.bool b)))=>some (.val (.pv (.sc (.bool (!b)))))
 | .neg,some (.pv (.sc (.int k n)))=>some (.val (.pv (.sc (.int k (k.wrap (0-n))))))
 | .xor,some (.pv (.sc (.int k n)))=>some (.val (.pv (.sc (.int k (bits .xor k (if k.signed then -1 else k.max) n)))))
 |_,_=>none
@[go_sem] theorem amX:dUn .not (some (.pv (.sc (.bool p))))=some (.val (.pv (.sc (.bool (!p))))):=rfl
@[go_sem] theorem amY {op:UnOp}{x:Operand} :vo P ops nx dr U K log ⟨d,.unOp op t x,ty,pos,zh,gd⟩ l i env σ=vD P ops nx dr U K log d l i env σ (dUn op (ev env x)):=rfl
def aet (s t:Option IntKind)(x:Option AV):Option DO:=
 match s,t,x with
 |some _,some k',some (.pv (.sc (.int k n)))=>some (.val (.pv (.sc (.int k' (k'.wrap n)))))
 |_,_,_=>none
@[go_sem] theorem af0 {k0 u:IntKind} :aet (some k0) (some u) (some (.pv (.sc (.int k a))))=some (.val (.pv (.sc (.int u (u.wrap a))))):=rfl
@[go_sem] theorem af1 {s t:TypeId}{x:Operand} :vo P ops nx dr U K log ⟨d,.convert s t x,ty,pos,zh,gd⟩ l i env σ=vD P ops nx dr U K log d l i env σ (aet (Kw P s) (Kw P t) (ev env x)):=rfl
def ZL (el:Option (TypeId×Nat×Nat))(z:TypeId->Option (List AV))(x y:Option AV):Option DO:=
 match el,x,y with
 |some (el,k,_),some (.pv (.sc (.int ik n))),some (.pv (.sc (.int ik' n')))=>if n=n' then ((z el).bind yN).map λcts=> .chk (0<=n/\n<=100000) (.pv (.tr cts n.toNat)) else none
 |_,_,_=>none
@[go_sem] theorem af2 {u y bb:Nat}{z:TypeId->Option (List AV)}{k B:IntKind} :ZL (some (u,y,bb)) z (some (.pv (.sc (.int k a)))) (some (.pv (.sc (.int B a))))=((z u).bind yN).map λcts=> .chk (0<=a/\a<=100000) (.pv (.tr cts a.toNat)):=by simp[ZL]
@[go_sem] theorem amZ {x y:Operand} :vo P ops nx dr U K log ⟨d,.makeSlice t x y,ty,pos,zh,gd⟩ l i env σ=vD P ops nx dr U K log d l i env σ (ZL (aZ P t) (eu P) (ev env x) (ev env y)):=rfl
@[go_sem] theorem aki {x:Operand}{lo hi:Option Operand} :vo P ops nx dr U K log ⟨d,.slice t x lo hi none,ty,pos,zh,gd⟩ l i env σ=vD P ops nx dr U K log d l i env σ ((ev env x).bind λa=>nT P (ev env) σ (nx+8*i) t a lo hi):=rfl
def akj (f:Option Nat)(x:Option AV):Option DO:=
 match f,x with
 |some off,some v=>(SN off v).map DO.val
 |_,_=>none
@[go_sem] theorem ah6 {off:Nat}{v:AV} :akj (some off) (some v)=(SN off v).map DO.val:=rfl
@[go_sem] theorem acL {x:Operand}{j:Nat} :vo P ops nx dr U K log ⟨d,.fieldAddr t x j,ty,pos,zh,gd⟩ l i env σ=vD P ops nx dr U K log d l i env σ (akj (aY P t j) (ev env x)):=rfl
def dIx (P:Program)(σ:Sto)(t:TypeId)(x y:Option AV):Option DO:=
 match x,y with
 |some a,some (.pv (.sc (.int _ i)))=>sZ P σ t a i
 |_,_=>none
@[go_sem] theorem akk {v:AV} :dIx P σ t (some v) (some (.pv (.sc (.int k a))))=sZ P σ t v a:=rfl
@[go_sem] theorem acM {x y:Operand} :vo P ops nx dr U K log ⟨d,.indexAddr t x y,ty,pos,zh,gd⟩ l i env σ=vD P ops nx dr U K log d l i env σ (dIx P σ t (ev env x) (ev env y)):=rfl
def dIs (st:Bool)(x y:Option AV):Option DO:=
 match x,y with
 |some (.pv (.sc (.string s))),some (.pv (.sc (.int _ i)))=>if st=true then some (.chk (0<=i/\i<s.size) (.pv (.sc (.int .u8 ((s[i.toNat]?).getD 0).toNat)))) else none
 |_,_=>none
@[go_sem] theorem akl:dIs true (some (.pv (.sc (.string s)))) (some (.pv (.sc (.int k a))))=some (.chk (0<=a/\a<s.size) (.pv (.sc (.int .u8 ((s[a.toNat]?).getD 0).toNat)))):=rfl
@[go_sem] theorem akm {x y:Operand} :vo P ops nx dr U K log ⟨d,.index t x y,ty,pos,zh,gd⟩ l i env σ=vD P ops nx dr U K log d l i env σ (dIs (SQ P t) (ev env x) (ev env y)):=rfl
def dEx (x:Option AV)(j:Nat):Option DO:=
 match x with
 |some (.tup vs)=>(vs[j]?).map DO.val
 |_=>none
@[go_sem] theorem akn {vs:List AV}{j:Nat} :dEx (some (.tup vs)) j=(vs[j]?).map DO.val:=rfl
@[go_sem] theorem af4 {x:Operand}{j:Nat} :vo P ops nx dr U K log ⟨d,.extract x j,ty,pos,zh,gd⟩ l i env σ=vD P ops nx dr U K log d l i env σ (dEx (ev env x) j):=rfl
@[go_sem] theorem ape {x:Operand} :vo P ops nx dr U K log ⟨d,.call { callee:= .builtin .len,args:=#[x],argTypes:=#[t] },ty,pos,zh,gd⟩ l i env σ=vD P ops nx dr U K log d l i env σ ((ev env x).bind λv=>(lenOf P t v).map λ(n:Nat)=>DO.val (.pv (.sc (.int .i64 (n:Int))))):=by
 show vD P ops nx dr U K log d l i env σ _=_;congr 1;simp only[dop,sJ]
 cases ev env x<;>rfl
def af5 (x y:Option AV):Option DO:=
 match x,y with
 |some (.pv (.sc (.int k a))),some (.pv (.sc (.int k' b)))=>if k=k' then some (.val (.pv (.sc (.int k (if b>a then b else a))))) else none
 |_,_=>none
@[go_sem] theorem ah7:af5 (some (.pv (.sc (.int k a)))) (some (.pv (.sc (.int k b))))=some (.val (.pv (.sc (.int k (if a<b then b else a))))):=by simp[af5]
@[go_sem] theorem apf {x y:Operand}{ats:Array TypeId} :vo P ops nx dr U K log ⟨d,.call { callee:= .builtin .max,args:=#[x,y],argTypes:=ats },ty,pos,zh,gd⟩ l i env σ=vD P ops nx dr U K log d l i env σ (af5 (ev env x) (ev env y)):=rfl
def SS (b:Bool)(P:Program)(σ:Sto)(lab:Nat)(t:TypeId)(x y:AV):Option DO:=
 match b with
 |true=>Jd P t x y
 |false=>tK P σ lab t x y
theorem acN {b:Bool}{x y:AV}{u:Nat} :SS b P σ u t x y=if b=true then Jd P t x y else tK P σ u t x y:=by cases b<;>rfl
@[go_sem] theorem apg {x y:AV}{u:Nat} :SS false P σ u t x y=tK P σ u t x y:=rfl
def ZM (el:Option (TypeId×Nat×Nat))(ys:List (List PV)):Option DO:=
 match el with
 |some (_,k,_)=>some (.chk (ys.length<=100000000/\∀row∈ys,row.length=k) (.pv (.sl ys)))
 |none=>none
@[go_sem] theorem ah8 {y u bb:Nat}{ys:List (List PV)} :ZM (some (y,u,bb)) ys=some (.chk (ys.length<=100000000/\∀row∈ys,row.length=u) (.pv (.sl ys))):=rfl
@[go_sem] theorem aph {ys:List (List PV)}{u:Nat} :SS true P σ u t .emp (.pv (.sl ys))=ZM (aZ P t) ys:=by
 unfold SS Jd ZM
 cases aZ P t with
 |none=>rfl
 |some q=>obtain ⟨y,B,D⟩:=q;rfl
@[go_sem] theorem am0 {u:Nat} :SS true P σ u t .emp .emp=ZM (aZ P t) []:=by
 unfold SS Jd ZM
 cases aZ P t with
 |none=>rfl
 |some q=>obtain ⟨y,B,D⟩:=q;rfl
@[go_sem] theorem ah9 {x y:Operand} :vo P ops nx dr U K log ⟨d,.call { callee:= .builtin .append,args:=#[x,y],argTypes:=#[t,t] },ty,pos,zh,gd⟩ l i env σ=vD P ops nx dr U K log d l i env σ ((ev env x).bind λa=>(ev env y).bind λb=>SS (fzA x y) P σ (nx+8*i) t a b):=by
 show vD P ops nx dr U K log d l i env σ _=_;congr 1;simp only[dop,sJ]
 cases ev env x<;>cases ev env y<;>simp[acN]
@[go_sem] theorem am1 {i j:Nat} :fzA (.tmp i) (.tmp j)=if i=31 then (if j=37 then true else false) else if i=23 then (if j=28 then true else false) else if i=123 then (if j=124 then true else false) else false:=rfl
@[go_sem] theorem am2 {f:FuncId}{args:Array Operand}{ats:Array TypeId} :vo P ops nx dr U K log ⟨d,.call { callee:= .value (.func f),args:=args,argTypes:=ats },ty,pos,zh,gd⟩ l i env σ=mX P dr f nx i (args.toList.map (ev env)) σ (λv G key=>GK nx U i key log/\vS P ops nx dr U K (WA U i key log) l (i+1) (env.put d v) (σ.upds G)):=rfl
@[go_sem] theorem apj {t:Nat} :ev env (.tmp t)=env t:=rfl
@[go_sem] theorem apk:ev env (.const (.int k a))=some (.pv (.sc (.int k a))):=rfl
@[go_sem] theorem am3:ev env (.const (.bool p))=some (.pv (.sc (.bool p))):=rfl
@[go_sem] theorem aia:ev env (.const (.string s))=some (.pv (.sc (.string s))):=rfl
@[go_sem] theorem apl:ev env (.const (.slice none 0 0))=some .emp:=rfl
@[go_sem] theorem apm {l:List Value} :ev env (.const (.agg l.toArray))=if l.all (·.oneCell')=true then some (.agg (l.map UM)) else none:=by show (if l.toArray.all (·.oneCell')=true then _ else none)=_;rw[List.all_toArray]
@[go_sem] theorem apn:Value.oneCell' (.int k a)=true:=rfl
@[go_sem] theorem apo:Value.oneCell' (.string s)=true:=rfl
@[go_sem] theorem apq:Value.oneCell' (.slice none 0 0)=true:=rfl
@[go_sem] theorem am4:UM (.slice none 0 0)= .emp:=rfl
@[go_sem] theorem am5:UM (.int k a)= .pv (.sc (.int k a)):=rfl
@[go_sem] theorem af6:UM (.string s)= .pv (.sc (.string s)):=rfl
@[go_sem] theorem ako {e t:Nat}{v:AV} :(env.put (some e) v) t=if t=e then some v else env t:=rfl
@[go_sem] theorem akp {v:AV} :env.put none v=env:=rfl
@[go_sem] theorem af7 {e:Nat}{v:AV}{r:List (Nat×AV)} :ku ((e,v)::r)=(ku r).put (some e) v:=rfl
@[go_sem] theorem aib {t:Nat} :ku [] t=none:=rfl
@[go_sem] theorem aic {e:Nat}{o:Option Obj}{r:List (Nat×Option Obj)} :σ.upds ((e,o)::r)=(σ.upd e o).upds r:=rfl
@[go_sem] theorem akq:σ.upds []=σ:=rfl
@[go_sem] theorem am6 {e t:Nat}{o:Option Obj} :(σ.upd e o) t=if t=e then o else σ t:=rfl
@[go_sem] theorem am7 {key:Key} :WA [] i key log=log:=rfl
@[go_sem] theorem akr {key:Key} :GK nx U i key []=True:=by simp[GK]
@[go_sem] theorem aks {off e j:Nat} :SN off (.ptr e j)=some (.ptr e (j+off)):=rfl
@[go_sem] theorem am8 {off r n j e:Nat} :SN off (.rp r n j e)=some (.rp r n j (e+off)):=rfl
@[go_sem] theorem am9 {off j:Nat}{row:List PV} :SN off (.fp row j)=some (.fp row (j+off)):=rfl
@[go_sem] theorem ana {off j:Nat}{cts:List CT} :SN off (.tp cts j)=some (.tp cts (j+off)):=rfl
@[go_sem] theorem aid {e j:Nat} :ZJ (.ptr e j)=true:=rfl
@[go_sem] theorem akt {els:List (List PV)} :lenOf P t (.pv (.sl els))=if (aZ P t).isSome=true then some els.length else none:=rfl
@[go_sem] theorem aie {r n:Nat} :lenOf P t (.own r n)=if (aZ P t).isSome=true then some n else none:=rfl
@[go_sem] theorem aku {cts:List CT}{n:Nat} :lenOf P t (.pv (.tr cts n))=if (aZ P t).isSome=true then some n else none:=rfl
@[go_sem] theorem aif:lenOf P t (.pv (.sc (.string s)))=if SQ P t=true then some s.size else none:=rfl
def ZN (el:Option (TypeId×Nat×Nat))(els:List (List PV))(i:Int):Option DO:=
 match el with
 |some (_,k,_)=>some (.row els i k)
 |none=>none
@[go_sem] theorem af8 {y u bb:Nat}{els:List (List PV)} :ZN (some (y,u,bb)) els a=some (.row els a u):=rfl
@[go_sem] theorem anb {els:List (List PV)} :sZ P σ t (.pv (.sl els)) a=ZN (aZ P t) els a:=by
 unfold sZ ZN
 cases aZ P t<;>rfl
def ZO (el:Option (TypeId×Nat×Nat))(o:Option Obj)(r n:Nat)(i:Int):Option DO:=
 match el,o with
 |some (_,k,_),some (.row ty k' els)=>if k'=k/\els.length=n then some (.eff (0<=i/\i<n) (.rp r k i.toNat 0) [r] []) else none
 |_,_=>none
@[go_sem] theorem af9 {B u bb r n ty y:Nat}{els:List (List PV)} :ZO (some (B,u,bb)) (some (.row ty y els)) r n a=if y=u/\els.length=n then some (.eff (0<=a/\a<n) (.rp r u a.toNat 0) [r] []) else none:=rfl
@[go_sem] theorem akv {r n:Nat} :sZ P σ t (.own r n) a=ZO (aZ P t) (σ r) r n a:=by
 unfold sZ ZO
 cases aZ P t with
 |none=>rfl
 |
  some q=>
  obtain⟨u,y,B⟩:=q;dsimp only
  cases σ r with
  |none=>rfl
  |some o=>cases o<;>rfl
def ZP (el:Option (TypeId×Nat×Nat))(cts:List CT)(n:Nat)(i:Int):Option DO:=
 match el with
 |some (_,k,_)=>if cts.length=k then some (.chk (0<=i/\i<n) (.tp cts 0)) else none
 |none=>none
@[go_sem] theorem aga {y u bb n:Nat}{cts:List CT} :ZP (some (y,u,bb)) cts n a=if cts.length=u then some (.chk (0<=a/\a<n) (.tp cts 0)) else none:=rfl
@[go_sem] theorem anc {cts:List CT}{n:Nat} :sZ P σ t (.pv (.tr cts n)) a=ZP (aZ P t) cts n a:=by
 unfold sZ ZP
 cases aZ P t<;>rfl
def agb (ly:Option (Bool×Nat))(o:Option Obj)(e off:Nat):Option DO:=
 match ly,o with
 |some (g,k),some (.box cs)=>(zV g k cs off).map λv=> .eff True v [e] []
 |_,_=>none
@[go_sem] theorem aih {g:Bool}{u e off:Nat}{cs:List AV} :agb (some (g,u)) (some (.box cs)) e off=(zV g u cs off).map λv=> .eff True v [e] []:=rfl
@[go_sem] theorem aii {e off:Nat} :kQ P σ t (.ptr e off)=agb (lay P t) (σ e) e off:=by
 unfold kQ agb
 cases lay P t with
 |none=>rfl
 |
  some q=>
  obtain⟨u,y⟩:=q;dsimp only
  cases σ e with
  |none=>rfl
  |some o=>cases o<;>rfl
def agc (ly:Option (Bool×Nat))(row:List PV)(off:Nat):Option DO:=
 match ly with
 |some (g,k)=>(zV g k (row.map .pv) off).map DO.val
 |none=>none
@[go_sem] theorem aij {g:Bool}{u off:Nat}{row:List PV} :agc (some (g,u)) row off=(zV g u (row.map .pv) off).map DO.val:=rfl
@[go_sem] theorem akw {row:List PV}{off:Nat} :kQ P σ t (.fp row off)=agc (lay P t) row off:=by
 unfold kQ agc
 cases lay P t<;>rfl
def agd (ly:Option (Bool×Nat))(o:Option Obj)(r k' j off:Nat):Option DO:=
 match ly,o with
 |some (g,k),some (.row ty k2 els)=>if k2=k' then some (.ld els j g k off r) else none
 |_,_=>none
@[go_sem] theorem aik {g:Bool}{u r y j off ty B:Nat}{els:List (List PV)} :agd (some (g,u)) (some (.row ty B els)) r y j off=if B=y then some (.ld els j g u off r) else none:=rfl
@[go_sem] theorem akx {r u j off:Nat} :kQ P σ t (.rp r u j off)=agd (lay P t) (σ r) r u j off:=by
 unfold kQ agd
 cases lay P t with
 |none=>rfl
 |
  some q=>
  obtain⟨y,B⟩:=q;dsimp only
  cases σ r with
  |none=>rfl
  |some o=>cases o<;>rfl
def ZQ (ly:Option (Bool×Nat))(cts:List CT)(j:Nat):Option DO:=
 match ly with
 |some (g,k)=>if g=false then (cts[j]?).map λct=> .tyc ct else if j=0/\k=cts.length then some (.tys cts) else none
 |none=>none
@[go_sem] theorem aky {u:Nat}{cts:List CT} :ZQ (some (true,u)) cts 0=if u=cts.length then some (.tys cts) else none:=by simp[ZQ]
@[go_sem] theorem ail {u j:Nat}{cts:List CT} :ZQ (some (false,u)) cts j=(cts[j]?).map λct=> .tyc ct:=rfl
@[go_sem] theorem akz {cts:List CT}{j:Nat} :kQ P σ t (.tp cts j)=ZQ (lay P t) cts j:=by
 unfold kQ ZQ
 cases lay P t<;>rfl
@[go_sem] theorem ane {u off:Nat}{cs:List AV} :zV false u cs off=cs[off]?:=rfl
@[go_sem] theorem anf {u off:Nat}{cs:List AV} :zV true u cs off=if off+u<=cs.length then some (.agg ((cs.drop off).take u)) else none:=rfl
def age (ly:Option (Bool×Nat))(o:Option Obj)(e off:Nat)(v:AV):Option DO:=
 match ly,o with
 |some (g,k),some (.box cs)=>if (bJ v).length=k/\(bJ v).all iI=true/\off+k<=cs.length then some (.eff True .emp [] [(e,some (.box (iV cs off (bJ v))))]) else none
 |_,_=>none
@[go_sem] theorem aim {g:Bool}{u e off:Nat}{cs:List AV}{v:AV} :age (some (g,u)) (some (.box cs)) e off v=if (bJ v).length=u/\(bJ v).all iI=true/\off+u<=cs.length then some (.eff True .emp [] [(e,some (.box (iV cs off (bJ v))))]) else none:=rfl
@[go_sem] theorem agf {e off:Nat}{v:AV} :jq P σ t (.ptr e off) v=age (lay P t) (σ e) e off v:=by
 unfold jq age
 cases lay P t with
 |none=>rfl
 |
  some q=>
  obtain⟨u,y⟩:=q;dsimp only
  cases σ e with
  |none=>rfl
  |some o=>cases o<;>rfl
def agh (ly:Option (Bool×Nat))(o:Option Obj)(ps:Option (List PV))(r k' j off:Nat):Option DO:=
 match ly,o,ps with
 |some (g,k),some (.row ty k2 els),some ps=>if k2=k'/\ps.length=k/\off+k<=k' then some (.eff (j<els.length) .emp [] [(r,some (.row ty k' (els.modify j (λrow=>iV row off ps))))]) else none
 |_,_,_=>none
@[go_sem] theorem ain {g:Bool}{y r u j off ty D:Nat}{els:List (List PV)}{B:List PV} :agh (some (g,y)) (some (.row ty D els)) (some B) r u j off=if D=u/\B.length=y/\off+y<=u then some (.eff (j<els.length) .emp [] [(r,some (.row ty u (els.modify j (λrow=>iV row off B))))]) else none:=rfl
@[go_sem] theorem aio {r u j off:Nat}{v:AV} :jq P σ t (.rp r u j off) v=agh (lay P t) (σ r) (xw (bJ v)) r u j off:=by
 unfold jq agh
 cases lay P t with
 |none=>rfl
 |
  some q=>
  obtain⟨y,B⟩:=q;dsimp only
  cases σ r with
  |none=>cases xw (bJ v)<;>rfl
  |some o=>cases o<;>cases xw (bJ v)<;>rfl
def agi (ly:Option (Bool×Nat))(ct:Option CT)(p:Option PV):Option DO:=
 match ly,ct,p with
 |some (false,1),some ct,some p=>some (.eff (ct.ok p) .emp [] [])
 |_,_,_=>none
@[go_sem] theorem aip {ct:CT}{p:PV} :agi (some (false,1)) (some ct) (some p)=some (.eff (ct.ok p) .emp [] []):=rfl
@[go_sem] theorem aiq {cts:List CT}{j:Nat}{v:AV} :jq P σ t (.tp cts j) v=agi (lay P t) cts[j]? (toP v):=by
 unfold jq agi
 cases lay P t with
 |none=>rfl
 |
  some q=>
  obtain⟨g,u⟩:=q;dsimp only
  cases g
  . by_cases hk:u=1
    . subst hk;simp only[and_self,qZ]
      cases cts[j]?<;>cases toP v<;>rfl
    rw[if_neg (λh=>hk h.2)];split<;>first|rfl|(rename_i h1 h2;simp_all)
  rw[if_neg (λh=>by cases h.1)]
def dAp (el:Option (TypeId×Nat×Nat))(o:Option Obj)(ys:Option PV)(lab r n:Nat):Option DO:=
 match el,o,ys with
 |some (el,k,_),some (.row ty k' els),some (.sl ys)=>if (k'=k/\ty=el)/\els.length=n then some (.eff (n+ys.length<=100000000/\∀row∈ys,row.length=k) (.own lab (n+ys.length)) [] [(r,none),(lab,some (.row ty k' (els++ys)))]) else none
 |_,_,_=>none
@[go_sem] theorem akA {D y bb u r n ty B:Nat}{els ys:List (List PV)} :dAp (some (D,y,bb)) (some (.row ty B els)) (some (.sl ys)) u r n=if (B=y/\ty=D)/\els.length=n then some (.eff (n+ys.length<=100000000/\∀row∈ys,row.length=y) (.own u (n+ys.length)) [] [(r,none),(u,some (.row ty B (els++ys)))]) else none:=rfl
@[go_sem] theorem akB {u r n:Nat}{v:AV} :tK P σ u t (.own r n) v=dAp (aZ P t) (σ r) (toP v) u r n:=by
 unfold tK dAp
 cases aZ P t with
 |none=>rfl
 |
  some q=>
  obtain⟨y,B,D⟩:=q;dsimp only
  cases σ r with
  |none=>cases toP v<;>rfl
  |
   some o=>cases o<;>(cases toP v with
   |none=>rfl
   |some p=>cases p<;>rfl)
def acO (el:Option (TypeId×Nat×Nat))(ys:PV)(lab:Nat):Option DO:=
 match el,ys with
 |some (el,k,_),.sl ys=>some (.eff (ys.length<=100000000/\∀row∈ys,row.length=k) (.own lab ys.length) [] [(lab,some (.row el k ys))])
 |some (el,k,_),.tr cts n=>if cts.length=k then some (.chk (n<=100000000) (.pv (.tr cts n))) else none
 |_,_=>none
@[go_sem] theorem ang {B y bb u:Nat}{ys:List (List PV)} :acO (some (B,y,bb)) (.sl ys) u=some (.eff (ys.length<=100000000/\∀row∈ys,row.length=y) (.own u ys.length) [] [(u,some (.row B y ys))]):=rfl
@[go_sem] theorem anh {B y bb u n:Nat}{cts:List CT} :acO (some (B,y,bb)) (.tr cts n) u=if cts.length=y then some (.chk (n<=100000000) (.pv (.tr cts n))) else none:=rfl
@[go_sem] theorem akC {u:Nat}{p:PV} :tK P σ u t .emp (.pv p)=acO (aZ P t) p u:=by
 unfold tK acO
 cases aZ P t with
 |none=>rfl
 |
  some q=>
  obtain⟨y,B,D⟩:=q
  cases p<;>rfl
def agj (el:Option (TypeId×Nat×Nat))(els:List (List PV))(lo hi:Option Int):Option DO:=
 match el,lo,hi with
 |some (_,k,_),some l,some h=>some (.chk (0<=l/\l<=h/\h<=els.length/\∀row∈els,row.length=k) (.pv (.sl ((els.take h.toNat).drop l.toNat))))
 |_,_,_=>none
@[go_sem] theorem air {y u bb:Nat}{els:List (List PV)} :agj (some (y,u,bb)) els (some a) (some b)=some (.chk (0<=a/\a<=b/\b<=els.length/\∀row∈els,row.length=u) (.pv (.sl ((els.take b.toNat).drop a.toNat)))):=rfl
@[go_sem] theorem akD {e:Operand->Option AV}{u:Nat}{els:List (List PV)}{lo hi:Option Operand} :nT P e σ u t (.pv (.sl els)) lo hi=agj (aZ P t) els (C9 e lo 0) (C9 e hi els.length):=by
 unfold nT agj
 cases aZ P t with
 |none=>rfl
 |
  some q=>
  obtain⟨y,B,D⟩:=q;dsimp only
  cases C9 e lo 0<;>cases C9 e hi els.length<;>rfl
def agk (el:Option (TypeId×Nat×Nat))(o:Option Obj)(hi:Option Int)(lab r n:Nat):Option DO:=
 match el,o,hi with
 |some _,some (.row ty k' els),some h=>if els.length=n then some (.eff (0<=h/\h<=n) (.own lab h.toNat) [] [(r,none),(lab,some (.row ty k' (els.take h.toNat)))]) else none
 |_,_,_=>none
@[go_sem] theorem ais {q:TypeId×Nat×Nat}{ty y u r n:Nat}{els:List (List PV)} :agk (some q) (some (.row ty y els)) (some a) u r n=if els.length=n then some (.eff (0<=a/\a<=n) (.own u a.toNat) [] [(r,none),(u,some (.row ty y (els.take a.toNat)))]) else none:=rfl
@[go_sem] theorem ait {e:Operand->Option AV}{u r n:Nat}{hi:Option Operand} :nT P e σ u t (.own r n) none hi=agk (aZ P t) (σ r) (C9 e hi n) u r n:=by
 unfold nT agk
 cases aZ P t with
 |none=>rfl
 |
  some q=>
  obtain⟨y,B,D⟩:=q;dsimp only
  cases σ r with
  |none=>cases C9 e hi n<;>rfl
  |some o=>cases o<;>cases C9 e hi n<;>rfl
def akE (x:Option AV):Option Int:=
 match x with
 |some (.pv (.sc (.int _ i)))=>some i
 |_=>none
@[go_sem] theorem aiu:akE (some (.pv (.sc (.int k a))))=some a:=rfl
@[go_sem] theorem akF {e:Operand->Option AV} :C9 e none a=some a:=rfl
@[go_sem] theorem akG {e:Operand->Option AV}{x:Operand} :C9 e (some x) a=akE (e x):=rfl
@[go_sem] theorem akH {o:Array Oper}{g:Nat} :U6 o g=(o[g]?).bind (·.dst):=rfl
end
