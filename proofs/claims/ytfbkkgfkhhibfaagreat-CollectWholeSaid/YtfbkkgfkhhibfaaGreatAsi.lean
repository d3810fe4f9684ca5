/- Words. -/
import Derived.Test.YtfbkkgfkhhibfaaGreatAdv
set_option linter.unusedVariables false
set_option linter.unusedSimpArgs false
namespace AM
open Go Go.RowKit
mutual
theorem Lp:∀(v:AV) (ρ:Nat→Nat),v.lb 0=true→v.ren ρ=v
 | .own r n,_,h=>by simp[AV.lb] at h
 | .ptr l o,_,h=>by simp[AV.lb] at h
 | .rp r k i o,_,h=>by simp[AV.lb] at h
 | .agg cs,ρ,h=>by simp only[AV.ren];rw[xu cs ρ (by simpa [AV.lb] using h)]
 | .tup cs,ρ,h=>by simp only[AV.ren];rw[xu cs ρ (by simpa [AV.lb] using h)]
 | .pv _,_,_=>rfl
 | .fp _ _,_,_=>rfl
 | .tp _ _,_,_=>rfl
 | .emp,_,_=>rfl
theorem xu:∀(vs:List AV) (ρ:Nat→Nat),AV.lbL 0 vs=true→AV.renL ρ vs=vs
 | [],_,_=>rfl
 |
  v :: r,ρ,h=>by
  simp only[AV.lbL,Bool.and_eq_true] at h
  simp only[AV.renL]
  rw[Lp v ρ h.1,xu r ρ h.2]
end
def jq (P:Program)(f:FuncId)(as:List AV)(Q:AV→Prop):Prop:=isGo P f=true∧AV.lbL 0 as=true∧ACall P f as [] (fun r g=>g= []∧r.lb 0=true∧Q r)
abbrev aaA:Key:=⟨[],[],true,false,true⟩
abbrev TQ:Key:=⟨[],[],false,true,true⟩
theorem Ei {P:Program}{dr:Bool}{f:FuncId}{nx i:Nat}{dF:List (Option AV)}{σ:Sto}{K:AV→List (Nat×Option Obj)→Key→Prop}{as:List AV}{Q:AV→Prop}(hf:jq P f as Q)(hv:dF=as.map some)(hi:dr=true→∃r:AV,r.lb 0=true∧Q r)(h:∀r,r.lb 0=true→Q r→K r [] TQ):jP P dr f nx i dF σ K:=by
 obtain⟨h1,h2,h3⟩:=hf;refine⟨as,[],_,[],h1,h3,by rw[xu as _ h2];exact hv,h2,rfl,rfl,List.nodup_nil,rfl,fun k o hk=>by simp at hk,fun hd=>?_,fun r g hp h4 h5=>?_⟩
 · obtain⟨r,q1,q2⟩:=hi hd;exact⟨r,[],⟨rfl,q1,q2⟩,by simp,by simp⟩
 · obtain⟨rfl,q1,q2⟩:=hp;rw[Lp r _ q1];exact h r q1 q2
def Ic (els:List (List PV))(i:Int)(k:Nat)(F:List PV→Prop):Prop:=(0≤i∧∃row,els[i.toNat]?=some row∧row.length=k)∧∀row,els[i.toNat]?=some row→F row
theorem aB {α:Type}{l:List α}{f:α→List PV}{i:Int}{k:Nat}{F:List PV→Prop}{x:α}(h0:0≤i)(hx:l[i.toNat]?=some x)(hk:(f x).length=k)(hF:F (f x)):Ic (l.map f) i k F:=by
 have h1:(l.map f)[i.toNat]?=some (f x):=by simp[hx]
 exact⟨⟨h0,_,h1,hk⟩,fun row hr=>by rw[h1] at hr;injection hr with hr;rw[←hr];exact hF⟩
theorem au {els:List (List PV)}{i:Int}{k:Nat}{F:List PV→Prop}{x:List PV}(h0:0≤i)(h1:els[i.toNat]?=some x)(hk:x.length=k)(hF:F x):Ic els i k F:=
 ⟨⟨h0,_,h1,hk⟩,fun row hr=>by rw[h1] at hr;injection hr with hr;rw[←hr];exact hF⟩
def Lr (ct:CT)(F:PV→Prop):Prop:=∀p,ct.ok p→F p
def aaB (els:List (List PV))(i:Nat)(g:Bool)(k off:Nat)(F:AV→Prop):Prop:=(∃row v,els[i]?=some row∧uy g k (row.map .pv) off=some v)∧∀v,(∃row,els[i]?=some row∧uy g k (row.map .pv) off=some v)→F v
theorem DY {els:List (List PV)}{i:Nat}{g:Bool}{k off:Nat}{F:AV→Prop}{x:List PV}{v:AV}(h1:els[i]?=some x)(hv:uy g k (x.map .pv) off=some v)(hF:F v):aaB els i g k off F:=
 ⟨⟨
  _,_,h1,hv⟩,fun v' hr=>by
  obtain⟨row,q1,q2⟩:=hr
  rw[h1] at q1
  injection q1 with q1
  rw[←q1,hv] at q2
  injection q2 with q2
  rw[←q2]
  exact hF⟩
@[congr] theorem Xk {P:Program}{dr:Bool}{f:FuncId}{nx i:Nat}{dF Y9:List (Option AV)}{σ:Sto}{K:AV→List (Nat×Option Obj)→Key→Prop}(h:dF=Y9):jP P dr f nx i dF σ K=jP P dr f nx i Y9 σ K:=by rw[h]
def Ej (b:Bool)(X Y:Prop):Prop:=(b=true→X)∧(b=false→Y)
section
variable {P : Program} {ops : Array Oper} {nx i : Nat} {dr : Bool} {U : List (Nat × Nat)} {K : Env → Sto → Nat → Prop} {log : List (Nat × Key)} {l : List Oper} {env : Env} {σ : Sto} {d : Option Nat} {ty : TypeId} {pos : String} {tJ : Array Edge} {gd : Option (Nat × Bool)}
def vo (P:Program)(ops:Array Oper)(nx:Nat)(dr:Bool)(U:List (Nat×Nat))(K:Env→Sto→Nat→Prop)(log:List (Nat×Key))(o:Oper)(l:List Oper)(i:Nat)(env:Env)(σ:Sto):Prop:=
 vX P dr nx i o env σ (fun v G key=>AA nx U i key log∧vS P ops nx dr U K (PO U i key log) l (i+1) (env.put o.dst v) (σ.upds G))
def aej (nx i:Nat)(d:DO):Key:=⟨d.rd,d.wr.filter (fun l=>!own nx i l),d.det,false,true⟩
def vD (P:Program)(ops:Array Oper)(nx:Nat)(dr:Bool)(U:List (Nat×Nat))(K:Env→Sto→Nat→Prop)(log:List (Nat×Key))(dst:Option Nat)(l:List Oper)(i:Nat)(env:Env)(σ:Sto)(x:Option DO):Prop:=
 match x with
 | none=>False
 | some d=>d.ok∧∀v,d.out v→AA nx U i (aej nx i d) log∧vS P ops nx dr U K (PO U i (aej nx i d) log) l (i+1) (env.put dst v) (σ.upds d.upd)
@[go_sem] theorem ajP:vS P ops nx dr U K log [] i env σ=K env σ (nx+8 * i):=rfl
@[go_sem] theorem amW {op:Op} :vS P ops nx dr U K log (⟨d,op,ty,pos,tJ,none⟩ :: l) i env σ=vo P ops nx dr U K log ⟨d,op,ty,pos,tJ,none⟩ l i env σ:=rfl
def Em (P:Program)(ops:Array Oper)(nx:Nat)(dr:Bool)(U:List (Nat×Nat))(K:Env→Sto→Nat→Prop)(log:List (Nat×Key))(o:Oper)(l:List Oper)(i:Nat)(env:Env)(σ:Sto)(want:Bool)(dg:Option Nat)(x:Option AV):Prop:=
 match x with
 | some (.pv (.sc (.bool b)))=>Ej b (if want=true then vo P ops nx dr U K log o l i (env.put dg (.pv (.sc (.bool true)))) σ else vS P ops nx dr U K log l (i+1) ((env.put dg (.pv (.sc (.bool true)))).put o.dst (.tup [])) σ)
  (if want=true then vS P ops nx dr U K log l (i+1) ((env.put dg (.pv (.sc (.bool false)))).put o.dst (.tup [])) σ else vo P ops nx dr U K log o l i (env.put dg (.pv (.sc (.bool false)))) σ)
 | some (.tup [])=>vS P ops nx dr U K log l (i+1) (env.put o.dst (.tup [])) σ
 | _=>False
def Oe (ops:Array Oper)(g:Nat):Option Nat:=(ops[g]?).bind (·.dst)
def evO (env:Env):Option Nat→Option AV
 | some d=>env d
 | none=>none
@[go_sem] theorem amY {op:Op}{g:Nat}{want:Bool} :vS P ops nx dr U K log (⟨d,op,ty,pos,tJ,some (g,want)⟩ :: l) i env σ=Em P ops nx dr U K log ⟨d,op,ty,pos,tJ,some (g,want)⟩ l i env σ want (Oe ops g) (evO env (Oe ops g)):=by
 simp only[vS,vG,Em,Oe,Ej,vo]
 cases (ops[g]?).bind (·.dst) with
 | none=>rfl
 | some q=>rfl
@[go_sem] theorem aek {q:Nat} :evO env (some q)=env q:=rfl
theorem TR {o:Oper}{want:Bool}{dg:Option Nat} :Em P ops nx dr U K log o l i env σ want dg (some (.pv (.sc (.bool true))))=if want=true then vo P ops nx dr U K log o l i (env.put dg (.pv (.sc (.bool true)))) σ else vS P ops nx dr U K log l (i+1) ((env.put dg (.pv (.sc (.bool true)))).put o.dst (.tup [])) σ:=by
 simp[Em,Ej]
theorem TS {o:Oper}{want:Bool}{dg:Option Nat} :Em P ops nx dr U K log o l i env σ want dg (some (.pv (.sc (.bool false))))=if want=true then vS P ops nx dr U K log l (i+1) ((env.put dg (.pv (.sc (.bool false)))).put o.dst (.tup [])) σ else vo P ops nx dr U K log o l i (env.put dg (.pv (.sc (.bool false)))) σ:=by
 simp[Em,Ej]
@[go_sem] theorem ajQ {o:Oper}{dg:Option Nat} :Em P ops nx dr U K log o l i env σ true dg (some (.pv (.sc (.bool true))))=vo P ops nx dr U K log o l i (env.put dg (.pv (.sc (.bool true)))) σ:=by rw[TR,if_pos rfl]
@[go_sem] theorem ajR {o:Oper}{dg:Option Nat} :Em P ops nx dr U K log o l i env σ false dg (some (.pv (.sc (.bool true))))=vS P ops nx dr U K log l (i+1) ((env.put dg (.pv (.sc (.bool true)))).put o.dst (.tup [])) σ:=by rw[TR,if_neg (by decide)]
@[go_sem] theorem ajS {o:Oper}{dg:Option Nat} :Em P ops nx dr U K log o l i env σ true dg (some (.pv (.sc (.bool false))))=vS P ops nx dr U K log l (i+1) ((env.put dg (.pv (.sc (.bool false)))).put o.dst (.tup [])) σ:=by rw[TS,if_pos rfl]
@[go_sem] theorem ajT {o:Oper}{dg:Option Nat} :Em P ops nx dr U K log o l i env σ false dg (some (.pv (.sc (.bool false))))=vo P ops nx dr U K log o l i (env.put dg (.pv (.sc (.bool false)))) σ:=by rw[TS,if_neg (by decide)]
@[go_sem] theorem ajU {o:Oper}{want:Bool}{dg:Option Nat} :Em P ops nx dr U K log o l i env σ want dg (some (.tup []))=vS P ops nx dr U K log l (i+1) (env.put o.dst (.tup [])) σ:=rfl
theorem Xl {o:Oper}{want:Bool}{dg:Option Nat}{b:Bool}(ht:b=true→Em P ops nx dr U K log o l i env σ want dg (some (.pv (.sc (.bool true)))))(hf:b=false→Em P ops nx dr U K log o l i env σ want dg (some (.pv (.sc (.bool false))))):Em P ops nx dr U K log o l i env σ want dg (some (.pv (.sc (.bool b)))):=by
 cases b
 · exact hf rfl
 · exact ht rfl
theorem TT {k:Key}(h1:k.rd= [])(h2:k.wr= [])(h3:k.isC=false):AA nx U i k log:=fun e _ _=>⟨fun l _=>by simp[h1,h2],fun l hl=>(by rw[h2] at hl;cases hl),fun _ l hl=>(by rw[h1,h2] at hl;cases hl),.inl h3⟩
@[go_sem] theorem ajV {v:AV} :vD P ops nx dr U K log d l i env σ (some (.val v))=vS P ops nx dr U K (PO U i aaA log) l (i+1) (env.put d v) σ:=by
 simp only[vD,DO.val,eq_iff_iff];exact⟨fun h=>(h.2 v rfl).2,fun h=>⟨trivial,fun u hu=>⟨TT rfl rfl rfl,by rw[hu];exact h⟩⟩⟩
@[go_sem] theorem ajW {p:Prop}{v:AV} :vD P ops nx dr U K log d l i env σ (some (.chk p v))=(p∧vS P ops nx dr U K (PO U i aaA log) l (i+1) (env.put d v) σ):=by
 simp only[vD,DO.chk,eq_iff_iff];exact⟨fun h=>⟨h.1,(h.2 v rfl).2⟩,fun h=>⟨h.1,fun u hu=>⟨TT rfl rfl rfl,by rw[hu];exact h.2⟩⟩⟩
def DO.eff (p:Prop)(v:AV)(rd:List Nat)(upd:List (Nat×Option Obj)):DO:=⟨p,fun u=>u=v,rd,true,upd⟩
def ael (nx i:Nat)(rd:List Nat)(upd:List (Nat×Option Obj)):Key:=⟨rd,(upd.map (·.1)).filter (fun l=>!own nx i l),true,false,true⟩
@[go_sem] theorem ajX {p:Prop}{v:AV}{rd:List Nat}{upd:List (Nat×Option Obj)} :vD P ops nx dr U K log d l i env σ (some (.eff p v rd upd))=(p∧AA nx U i (ael nx i rd upd) log∧vS P ops nx dr U K (PO U i (ael nx i rd upd) log) l (i+1) (env.put d v) (σ.upds upd)):=by
 simp only[vD,DO.eff,eq_iff_iff];exact⟨fun h=>⟨h.1,h.2 v rfl⟩,fun h=>⟨h.1,fun u hu=>by rw[hu];exact h.2⟩⟩
def PQ:List CT→(List PV→Prop)→Prop
 | [],F=>F []
 | ct :: r,F=>Lr ct fun p=>PQ r fun ps=>F (p :: ps)
@[go_sem] theorem aem {F:List PV→Prop} :PQ [] F=F []:=rfl
@[go_sem] theorem PR {ct:CT}{r:List CT}{F:List PV→Prop} :PQ (ct :: r) F=Lr ct fun p=>PQ r fun ps=>F (p :: ps):=rfl
theorem yK:∀ {cts:List CT} {F:List PV→Prop},PQ cts F ↔∀ps,TU cts ps→F ps
 | [],F=>⟨fun h ps hp=>by rw[List.length_eq_zero_iff.1 hp.1];exact h,fun h=>h [] ⟨rfl,fun j ct p hc=>by simp at hc⟩⟩
 |
  ct :: r,F=>by
  rw[PR]
  constructor
  · intro h ps hp
    cases ps with
    | nil=>cases hp.1
    | cons p s=>exact yK.1 (h p (hp.2 0 ct p rfl rfl)) s ⟨by simpa using hp.1,fun j c q h1 h2=>hp.2 (j+1) c q (by simpa using h1) (by simpa using h2)⟩
  · intro h p hp
    refine yK.2 fun ps hs=>h (p :: ps) ⟨by simp[hs.1],fun j c q h1 h2=>?_⟩
    cases j with
    | zero=>simp at h1 h2;subst h1 h2;exact hp
    | succ j=>exact hs.2 j c q (by simpa using h1) (by simpa using h2)
def DO.row (els:List (List PV))(i:Int)(k:Nat):DO:=⟨0≤i∧∃row,els[i.toNat]?=some row∧row.length=k,fun u=>∃row,els[i.toNat]?=some row∧u= .fp row 0,[],true,[]⟩
@[go_sem] theorem ajY {els:List (List PV)}{j:Int}{k:Nat} :vD P ops nx dr U K log d l i env σ (some (.row els j k))=Ic els j k (fun row=>vS P ops nx dr U K (PO U i aaA log) l (i+1) (env.put d (.fp row 0)) σ):=by
 simp only[vD,DO.row,Ic,eq_iff_iff];refine and_congr_right (fun _=>⟨fun h row hr=>(h _ ⟨row,hr,rfl⟩).2,fun h v ⟨row,hr,hv⟩=>⟨TT rfl rfl rfl,by rw[hv];exact h row hr⟩⟩)
def DO.tys (cts:List CT):DO:=⟨True,fun u=>∃ps,TU cts ps∧u= .agg (ps.map .pv),[],false,[]⟩
@[go_sem] theorem ajZ {cts:List CT} :vD P ops nx dr U K log d l i env σ (some (.tys cts))=PQ cts (fun ps=>vS P ops nx dr U K (PO U i ⟨[],[],false,false,true⟩ log) l (i+1) (env.put d (.agg (ps.map .pv))) σ):=by
 rw[eq_iff_iff,yK];simp only[vD,DO.tys];exact⟨fun h p hp=>(h.2 _ ⟨p,hp,rfl⟩).2,fun h=>⟨trivial,fun v ⟨p,hp,hv⟩=>⟨TT rfl rfl rfl,by rw[hv];exact h p hp⟩⟩⟩
def DO.tyc (ct:CT):DO:=⟨True,fun u=>∃p,ct.ok p∧u= .pv p,[],false,[]⟩
@[go_sem] theorem amZ {ct:CT} :vD P ops nx dr U K log d l i env σ (some (.tyc ct))=Lr ct (fun p=>vS P ops nx dr U K (PO U i ⟨[],[],false,false,true⟩ log) l (i+1) (env.put d (.pv p)) σ):=by
 simp only[vD,DO.tyc,Lr,eq_iff_iff];exact⟨fun h p hp=>(h.2 _ ⟨p,hp,rfl⟩).2,fun h=>⟨trivial,fun v ⟨p,hp,hv⟩=>⟨TT rfl rfl rfl,by rw[hv];exact h p hp⟩⟩⟩
def DO.ld (els:List (List PV))(i:Nat)(g:Bool)(k off r:Nat):DO:=⟨∃row v,els[i]?=some row∧uy g k (row.map .pv) off=some v,fun u=>∃row,els[i]?=some row∧uy g k (row.map .pv) off=some u,[r],true,[]⟩
@[go_sem] theorem am0 {els:List (List PV)}{j k off r:Nat}{g:Bool} :vD P ops nx dr U K log d l i env σ (some (.ld els j g k off r))=aaB els j g k off (fun v=>AA nx U i ⟨[r],[],true,false,true⟩ log∧vS P ops nx dr U K (PO U i ⟨[r],[],true,false,true⟩ log) l (i+1) (env.put d v) σ):=by
 simp only[vD,DO.ld,aaB,eq_iff_iff];exact and_congr_right (fun _=>Iff.rfl)
@[go_sem] theorem ahk {x:Operand} :vo P ops nx dr U K log ⟨d,.move x,ty,pos,tJ,gd⟩ l i env σ=vD P ops nx dr U K log d l i env σ ((ev env x).map DO.val):=rfl
@[go_sem] theorem acv {x:Operand} :vo P ops nx dr U K log ⟨d,.assign x,ty,pos,tJ,gd⟩ l i env σ=vD P ops nx dr U K log d l i env σ ((ev env x).map DO.val):=rfl
def TV (c a b:Option AV):Option DO:=
 match c with
 | some (.pv (.sc (.bool t)))=>(if t=true then a else b).map DO.val
 | _=>none
@[go_sem] theorem ahl {a b:Option AV} :TV (some (.pv (.sc (.bool true)))) a b=a.map DO.val:=rfl
@[go_sem] theorem ahm {a b:Option AV} :TV (some (.pv (.sc (.bool false)))) a b=b.map DO.val:=rfl
@[go_sem] theorem ahn {c a b:Operand} :vo P ops nx dr U K log ⟨d,.pick c a b,ty,pos,tJ,gd⟩ l i env σ=vD P ops nx dr U K log d l i env σ (TV (ev env c) (ev env a) (ev env b)):=rfl
@[go_sem] theorem aen {t:TypeId} :vo P ops nx dr U K log ⟨d,.alloc t,ty,pos,tJ,gd⟩ l i env σ=vD P ops nx dr U K log d l i env σ ((bY P t).map fun cs=> .eff True (.ptr (nx+8 * i) 0) [] [(nx+8 * i,some (.box cs))]):=rfl
@[go_sem] theorem aj0 {t:TypeId}{x:Operand} :vo P ops nx dr U K log ⟨d,.box t x,ty,pos,tJ,gd⟩ l i env σ=vD P ops nx dr U K log d l i env σ ((ev env x).bind fun v=>if (aV v).all fB=true then some (.eff True (.ptr (nx+8 * i) 0) [] [(nx+8 * i,some (.box (aV v)))]) else none):=rfl
def TW (z:Option (List AV))(pl:Option (List (Nat×Nat)))(ps:Option (List (Nat×AV))):Option DO:=
 match z,pl,ps with
 | some zs,some pl,some ps=>(oW (fun i=>pl[i]?) zs ps).map fun cs=> .val (.agg cs)
 | _,_,_=>none
@[go_sem] theorem Za {zs:List AV}{pl:List (Nat×Nat)}{ps:List (Nat×AV)} :TW (some zs) (some pl) (some ps)=(oW (fun i=>pl[i]?) zs ps).map fun cs=> .val (.agg cs):=rfl
@[go_sem] theorem aeo {t:TypeId}{parts:Array (Nat×Operand)} :vo P ops nx dr U K log ⟨d,.build t parts,ty,pos,tJ,gd⟩ l i env σ=vD P ops nx dr U K log d l i env σ (TW (bY P t) (bG P t) (evs (ev env) parts.toList)):=rfl
def dBs (el:Option (TypeId×Nat×Nat))(n:Nat)(e:Operand→Option AV)(parts:List (Nat×Operand)):Option DO:=
 match el with
 | some (_,k,_)=>if n=0 then (if parts.length=0 then some (.val .emp) else none) else if parts.length=n∧n * k≤2 ^ 24 then (rowsOf e k 0 parts).map fun rows=> .val (.pv (.sl rows)) else none
 | none=>none
@[go_sem] theorem aep {el k b n:Nat}{e:Operand→Option AV}{parts:List (Nat×Operand)} :dBs (some (el,k,b)) n e parts=if n=0 then (if parts.length=0 then some (.val .emp) else none) else if parts.length=n∧n * k≤2 ^ 24 then (rowsOf e k 0 parts).map fun rows=> .val (.pv (.sl rows)) else none:=rfl
def aeq (m k:Nat)(o:Option (List PV))(rest:Option (List (List PV))):Option (List (List PV)):=
 match o,rest with
 | some ps,some rs=>if ps.length=k then some (ps :: rs) else none
 | _,_=>none
@[go_sem] theorem acw {m k:Nat}{ps:List PV}{rs:List (List PV)} :aeq m k (some ps) (some rs)=if ps.length=k then some (ps :: rs) else none:=rfl
@[go_sem] theorem aaC {e:Operand→Option AV}{k m:Nat} :rowsOf e k m []=some []:=rfl
@[go_sem] theorem Zb {e:Operand→Option AV}{k m j:Nat}{x:Operand}{r:List (Nat×Operand)} :rowsOf e k m ((j,x) :: r)=if j=m then aeq m k ((e x).bind fun v=>qI (aV v)) (rowsOf e k (m+1) r) else none:=rfl
@[go_sem] theorem aho {e:Operand→Option AV} :evs e []=some []:=rfl
def evC (j:Nat)(x:Option AV)(r:Option (List (Nat×AV))):Option (List (Nat×AV)):=
 match x,r with
 | some v,some l=>some ((j,v) :: l)
 | _,_=>none
@[go_sem] theorem aer {j:Nat}{v:AV}{l:List (Nat×AV)} :evC j (some v) (some l)=some ((j,v) :: l):=rfl
@[go_sem] theorem aes {e:Operand→Option AV}{j:Nat}{x:Operand}{r:List (Nat×Operand)} :evs e ((j,x) :: r)=evC j (e x) (evs e r):=rfl
@[go_sem] theorem aaD {cs:List AV} :aV (.agg cs)=cs:=rfl
@[go_sem] theorem acx {p:PV} :aV (.pv p)= [.pv p]:=rfl
@[go_sem] theorem aaE {r n:Nat} :aV (.own r n)= [.own r n]:=rfl
@[go_sem] theorem aaF {r n:Nat} :aV (.ptr r n)= [.ptr r n]:=rfl
@[go_sem] theorem aj1 {p:PV} :toP (.pv p)=some p:=rfl
@[go_sem] theorem ahp:toP .emp=some (.sl []):=rfl
@[go_sem] theorem aet:qI []=some []:=rfl
def aeu (p:Option PV)(ps:Option (List PV)):Option (List PV):=
 match p,ps with
 | some p,some ps=>some (p :: ps)
 | _,_=>none
@[go_sem] theorem acy {p:PV}{ps:List PV} :aeu (some p) (some ps)=some (p :: ps):=rfl
@[go_sem] theorem acz {v:AV}{r:List AV} :qI (v :: r)=aeu (toP v) (qI r):=rfl
def Zc (f:Nat→Option (Nat×Nat))(cells:List AV)(v:AV)(q:Option (Nat×Nat))(r:List (Nat×AV)):Option (List AV):=
 match q with
 | none=>none
 | some (off,size)=>if (aV v).length=size∧off+size≤cells.length∧(aV v).all fB=true then oW f (fG cells off (aV v)) r else none
@[go_sem] theorem aaG {f:Nat→Option (Nat×Nat)}{cells:List AV}{v:AV}{off size:Nat}{r:List (Nat×AV)} :Zc f cells v (some (off,size)) r=if (aV v).length=size∧off+size≤cells.length∧(aV v).all fB=true then oW f (fG cells off (aV v)) r else none:=rfl
@[go_sem] theorem acA {f:Nat→Option (Nat×Nat)}{cells:List AV} :oW f cells []=some cells:=rfl
@[go_sem] theorem aaH {f:Nat→Option (Nat×Nat)}{cells:List AV}{j:Nat}{v:AV}{r:List (Nat×AV)} :oW f cells ((j,v) :: r)=Zc f cells v (f j) r:=rfl
@[go_sem] theorem acB {p:PV} :fB (.pv p)=true:=rfl
@[go_sem] theorem aaI:fB .emp=true:=rfl
@[go_sem] theorem aaJ {r n:Nat} :fB (.own r n)=true:=rfl
@[go_sem] theorem aaK {r n:Nat} :fB (.ptr r n)=true:=rfl
@[go_sem] theorem VZ {t:TypeId}{n:Nat}{parts:Array (Nat×Operand)} :vo P ops nx dr U K log ⟨d,.buildSlice t n parts,ty,pos,tJ,gd⟩ l i env σ=vD P ops nx dr U K log d l i env σ (dBs (aS P t) n (ev env) parts.toList):=rfl
@[go_sem] theorem ahq {t:TypeId}{x:Operand} :vo P ops nx dr U K log ⟨d,.load t x,ty,pos,tJ,gd⟩ l i env σ=vD P ops nx dr U K log d l i env σ ((ev env x).bind (jb P σ t)):=rfl
@[go_sem] theorem aev {t:TypeId}{x y:Operand} :vo P ops nx dr U K log ⟨none,.store t x y,ty,pos,tJ,gd⟩ l i env σ=vD P ops nx dr U K log none l i env σ ((ev env x).bind fun a=>(ev env y).bind fun v=>gm P σ t a v):=rfl
@[go_sem] theorem Zd {x:Operand} :vo P ops nx dr U K log ⟨d,.nilCheck x,ty,pos,tJ,gd⟩ l i env σ=vD P ops nx dr U K log d l i env σ ((ev env x).bind fun v=>if TY v=true then some (.val v) else none):=rfl
def nV (P:Program)(t:TypeId)(op:BinOp)(x y:Option AV):Option DO:=
 match x,y with
 |
  some (.pv (.sc a)),some (.pv (.sc b))=>match oZ op a b with
  | some (p,v)=>some (.chk p (.pv (.sc v)))
  | none=>(TZ P t op a b).map fun v=> .val (.pv (.sc v))
 | _,_=>none
@[go_sem] theorem aew {op:BinOp}{t t':TypeId}{x y:Operand} :vo P ops nx dr U K log ⟨d,.binOp op t x y t',ty,pos,tJ,gd⟩ l i env σ=vD P ops nx dr U K log d l i env σ (nV P t op (ev env x) (ev env y)):=rfl
variable {t : TypeId} {k : IntKind} {a b : Int} {s s' : ByteArray} {p q : Bool}
abbrev iv (k:IntKind)(n:Int):Option AV:=some (.pv (.sc (.int k n)))
theorem gQ {op:BinOp}{p:Prop}{v:Value}(h:oZ op (.int k a) (.int k b)=some (p,v)):nV P t op (iv k a) (iv k b)=some (.chk p (.pv (.sc v))):=by simp only[nV,iv,h]
@[go_sem] theorem aex:nV P t .add (some (.pv (.sc (.int k a)))) (some (.pv (.sc (.int k b))))=some (.val (.pv (.sc (.int k (k.wrap (a+b)))))):=gQ (p:=True) (v:= .int k (k.wrap (a+b))) (by simp[oZ])
@[go_sem] theorem aey:nV P t .sub (some (.pv (.sc (.int k a)))) (some (.pv (.sc (.int k b))))=some (.val (.pv (.sc (.int k (k.wrap (a - b)))))):=gQ (p:=True) (v:= .int k (k.wrap (a - b))) (by simp[oZ])
@[go_sem] theorem aez:nV P t .mul (some (.pv (.sc (.int k a)))) (some (.pv (.sc (.int k b))))=some (.val (.pv (.sc (.int k (k.wrap (a * b)))))):=gQ (p:=True) (v:= .int k (k.wrap (a * b))) (by simp[oZ])
@[go_sem] theorem aeA:nV P t .quo (some (.pv (.sc (.int k a)))) (some (.pv (.sc (.int k b))))=some (.chk (b≠0) (.pv (.sc (.int k (k.wrap (a.tdiv b)))))):=gQ (by simp[oZ])
@[go_sem] theorem aeB:nV P t .rem (some (.pv (.sc (.int k a)))) (some (.pv (.sc (.int k b))))=some (.chk (b≠0) (.pv (.sc (.int k (a.tmod b))))):=gQ (by simp[oZ])
@[go_sem] theorem aeC:nV P t .eql (some (.pv (.sc (.int k a)))) (some (.pv (.sc (.int k b))))=some (.val (.pv (.sc (.bool (a==b))))):=gQ (p:=True) (v:= .bool (a==b)) (by simp[oZ])
@[go_sem] theorem aeD:nV P t .neq (some (.pv (.sc (.int k a)))) (some (.pv (.sc (.int k b))))=some (.val (.pv (.sc (.bool (a !=b))))):=gQ (p:=True) (v:= .bool (a !=b)) (by simp[oZ])
@[go_sem] theorem aeE:nV P t .lss (some (.pv (.sc (.int k a)))) (some (.pv (.sc (.int k b))))=some (.val (.pv (.sc (.bool (decide (a < b)))))):=gQ (p:=True) (v:= .bool (decide (a < b))) (by simp[oZ])
@[go_sem] theorem aeF:nV P t .leq (some (.pv (.sc (.int k a)))) (some (.pv (.sc (.int k b))))=some (.val (.pv (.sc (.bool (decide (a≤b)))))):=gQ (p:=True) (v:= .bool (decide (a≤b))) (by simp[oZ])
@[go_sem] theorem aeG:nV P t .gtr (some (.pv (.sc (.int k a)))) (some (.pv (.sc (.int k b))))=some (.val (.pv (.sc (.bool (decide (b < a)))))):=gQ (p:=True) (v:= .bool (decide (b < a))) (by simp[oZ])
@[go_sem] theorem aeH:nV P t .geq (some (.pv (.sc (.int k a)))) (some (.pv (.sc (.int k b))))=some (.val (.pv (.sc (.bool (decide (b≤a)))))):=gQ (p:=True) (v:= .bool (decide (b≤a))) (by simp[oZ])
@[go_sem] theorem aeI:nV P t .eql (some (.pv (.sc (.string s)))) (some (.pv (.sc (.string s'))))=some (.val (.pv (.sc (.bool (s.toList==s'.toList))))):=rfl
@[go_sem] theorem aeJ:nV P t .neq (some (.pv (.sc (.string s)))) (some (.pv (.sc (.string s'))))=some (.val (.pv (.sc (.bool (!(s.toList==s'.toList)))))):=rfl
@[go_sem] theorem aeK:nV P t .neq (some (.pv (.sc (.bool p)))) (some (.pv (.sc (.bool q))))=if Ie P t=true then some (.val (.pv (.sc (.bool (!(p==q)))))) else none:=by simp only[nV,oZ,TZ];split <;> rfl
def dUn (op:UnOp)(x:Option AV):Option DO:=
 match op,x with
 | .not,some (.pv (.sc (.bool b)))=>some (.val (.pv (.sc (.bool (!b)))))
 | .neg,some (.pv (.sc (.int k n)))=>some (.val (.pv (.sc (.int k (k.wrap (0 - n))))))
 | _,_=>none
@[go_sem] theorem ahr:dUn .not (some (.pv (.sc (.bool p))))=some (.val (.pv (.sc (.bool (!p))))):=rfl
@[go_sem] theorem ahs {op:UnOp}{x:Operand} :vo P ops nx dr U K log ⟨d,.unOp op t x,ty,pos,tJ,gd⟩ l i env σ=vD P ops nx dr U K log d l i env σ (dUn op (ev env x)):=rfl
def Ze (s t:Option IntKind)(x:Option AV):Option DO:=
 match s,t,x with
 | some _,some k',some (.pv (.sc (.int k n)))=>some (.val (.pv (.sc (.int k' (k'.wrap n)))))
 | _,_,_=>none
@[go_sem] theorem aaL {k0 k':IntKind} :Ze (some k0) (some k') (some (.pv (.sc (.int k a))))=some (.val (.pv (.sc (.int k' (k'.wrap a))))):=rfl
@[go_sem] theorem aaM {s t:TypeId}{x:Operand} :vo P ops nx dr U K log ⟨d,.convert s t x,ty,pos,tJ,gd⟩ l i env σ=vD P ops nx dr U K log d l i env σ (Ze (Eo P s) (Eo P t) (ev env x)):=rfl
def Ua (el:Option (TypeId×Nat×Nat))(z:TypeId→Option (List AV))(x y:Option AV):Option DO:=
 match el,x,y with
 | some (el,k,_),some (.pv (.sc (.int ik n))),some (.pv (.sc (.int ik' n')))=>if n=n' then ((z el).bind sK).map fun cts=> .chk (0≤n∧n≤100000) (.pv (.tr cts n.toNat)) else none
 | _,_,_=>none
@[go_sem] theorem aaN {el kk bb:Nat}{z:TypeId→Option (List AV)}{k k':IntKind} :Ua (some (el,kk,bb)) z (some (.pv (.sc (.int k a)))) (some (.pv (.sc (.int k' a))))=((z el).bind sK).map fun cts=> .chk (0≤a∧a≤100000) (.pv (.tr cts a.toNat)):=by simp[Ua]
@[go_sem] theorem aht {x y:Operand} :vo P ops nx dr U K log ⟨d,.makeSlice t x y,ty,pos,tJ,gd⟩ l i env σ=vD P ops nx dr U K log d l i env σ (Ua (aS P t) (bY P) (ev env x) (ev env y)):=rfl
@[go_sem] theorem aeM {x:Operand}{lo hi:Option Operand} :vo P ops nx dr U K log ⟨d,.slice t x lo hi none,ty,pos,tJ,gd⟩ l i env σ=vD P ops nx dr U K log d l i env σ ((ev env x).bind fun a=>kD P (ev env) σ (nx+8 * i) t a lo hi):=rfl
def aeN (f:Option Nat)(x:Option AV):Option DO:=
 match f,x with
 | some off,some v=>(Ls off v).map DO.val
 | _,_=>none
@[go_sem] theorem acC {off:Nat}{v:AV} :aeN (some off) (some v)=(Ls off v).map DO.val:=rfl
@[go_sem] theorem Xm {x:Operand}{j:Nat} :vo P ops nx dr U K log ⟨d,.fieldAddr t x j,ty,pos,tJ,gd⟩ l i env σ=vD P ops nx dr U K log d l i env σ (aeN (aQ P t j) (ev env x)):=rfl
def dIx (P:Program)(σ:Sto)(t:TypeId)(x y:Option AV):Option DO:=
 match x,y with
 | some a,some (.pv (.sc (.int _ i)))=>nT P σ t a i
 | _,_=>none
@[go_sem] theorem aeO {v:AV} :dIx P σ t (some v) (some (.pv (.sc (.int k a))))=nT P σ t v a:=rfl
@[go_sem] theorem Xn {x y:Operand} :vo P ops nx dr U K log ⟨d,.indexAddr t x y,ty,pos,tJ,gd⟩ l i env σ=vD P ops nx dr U K log d l i env σ (dIx P σ t (ev env x) (ev env y)):=rfl
def dIs (st:Bool)(x y:Option AV):Option DO:=
 match x,y with
 | some (.pv (.sc (.string s))),some (.pv (.sc (.int _ i)))=>if st=true then some (.chk (0≤i∧i < s.size) (.pv (.sc (.int .u8 ((s[i.toNat]?).getD 0).toNat)))) else none
 | _,_=>none
@[go_sem] theorem aeP:dIs true (some (.pv (.sc (.string s)))) (some (.pv (.sc (.int k a))))=some (.chk (0≤a∧a < s.size) (.pv (.sc (.int .u8 ((s[a.toNat]?).getD 0).toNat)))):=rfl
@[go_sem] theorem aeQ {x y:Operand} :vo P ops nx dr U K log ⟨d,.index t x y,ty,pos,tJ,gd⟩ l i env σ=vD P ops nx dr U K log d l i env σ (dIs (Lt P t) (ev env x) (ev env y)):=rfl
def dEx (x:Option AV)(j:Nat):Option DO:=
 match x with
 | some (.tup vs)=>(vs[j]?).map DO.val
 | _=>none
@[go_sem] theorem aeR {vs:List AV}{j:Nat} :dEx (some (.tup vs)) j=(vs[j]?).map DO.val:=rfl
@[go_sem] theorem aaO {x:Operand}{j:Nat} :vo P ops nx dr U K log ⟨d,.extract x j,ty,pos,tJ,gd⟩ l i env σ=vD P ops nx dr U K log d l i env σ (dEx (ev env x) j):=rfl
@[go_sem] theorem aj2 {x:Operand} :vo P ops nx dr U K log ⟨d,.call { callee:= .builtin .len,args:=#[x],argTypes:=#[t] },ty,pos,tJ,gd⟩ l i env σ=vD P ops nx dr U K log d l i env σ ((ev env x).bind fun v=>(lenOf P t v).map fun (n:Nat)=>DO.val (.pv (.sc (.int .i64 (n:Int))))):=by
 show vD P ops nx dr U K log d l i env σ _=_;congr 1;simp only[dop,nK]
 cases ev env x <;> rfl
def aaP (x y:Option AV):Option DO:=
 match x,y with
 | some (.pv (.sc (.int k a))),some (.pv (.sc (.int k' b)))=>if k=k' then some (.val (.pv (.sc (.int k (if b > a then b else a))))) else none
 | _,_=>none
@[go_sem] theorem acD:aaP (some (.pv (.sc (.int k a)))) (some (.pv (.sc (.int k b))))=some (.val (.pv (.sc (.int k (if a < b then b else a))))):=by simp[aaP]
@[go_sem] theorem aj3 {x y:Operand}{ats:Array TypeId} :vo P ops nx dr U K log ⟨d,.call { callee:= .builtin .max,args:=#[x,y],argTypes:=ats },ty,pos,tJ,gd⟩ l i env σ=vD P ops nx dr U K log d l i env σ (aaP (ev env x) (ev env y)):=rfl
def Lu (b:Bool)(P:Program)(σ:Sto)(lab:Nat)(t:TypeId)(x y:AV):Option DO:=
 match b with
 | true=>Dq P t x y
 | false=>nZ P σ lab t x y
theorem Xo {b:Bool}{x y:AV}{lab:Nat} :Lu b P σ lab t x y=if b=true then Dq P t x y else nZ P σ lab t x y:=by cases b <;> rfl
@[go_sem] theorem aj6 {x y:AV}{lab:Nat} :Lu false P σ lab t x y=nZ P σ lab t x y:=rfl
def Ub (el:Option (TypeId×Nat×Nat))(ys:List (List PV)):Option DO:=
 match el with
 | some (_,k,_)=>some (.chk (ys.length≤1000000∧∀row∈ys,row.length=k) (.pv (.sl ys)))
 | none=>none
@[go_sem] theorem acE {el kk bb:Nat}{ys:List (List PV)} :Ub (some (el,kk,bb)) ys=some (.chk (ys.length≤1000000∧∀row∈ys,row.length=kk) (.pv (.sl ys))):=rfl
@[go_sem] theorem aj7 {ys:List (List PV)}{lab:Nat} :Lu true P σ lab t .emp (.pv (.sl ys))=Ub (aS P t) ys:=by
 unfold Lu Dq Ub
 cases aS P t with
 | none=>rfl
 | some q=>obtain ⟨x1,x2,x3⟩:=q;rfl
@[go_sem] theorem ahu {lab:Nat} :Lu true P σ lab t .emp .emp=Ub (aS P t) []:=by
 unfold Lu Dq Ub
 cases aS P t with
 | none=>rfl
 | some q=>obtain ⟨x1,x2,x3⟩:=q;rfl
@[go_sem] theorem acF {x y:Operand} :vo P ops nx dr U K log ⟨d,.call { callee:= .builtin .append,args:=#[x,y],argTypes:=#[t,t] },ty,pos,tJ,gd⟩ l i env σ=vD P ops nx dr U K log d l i env σ ((ev env x).bind fun a=>(ev env y).bind fun b=>Lu (fzA x y) P σ (nx+8 * i) t a b):=by
 show vD P ops nx dr U K log d l i env σ _=_;congr 1;simp only[dop,nK]
 cases ev env x <;> cases ev env y <;> simp[Xo]
@[go_sem] theorem ahv {i j:Nat} :fzA (.tmp i) (.tmp j)=if i=31 then (if j=37 then true else false) else if i=23 then (if j=28 then true else false) else if i=123 then (if j=124 then true else false) else false:=rfl
@[go_sem] theorem ahw {f:FuncId}{args:Array Operand}{ats:Array TypeId} :vo P ops nx dr U K log ⟨d,.call { callee:= .value (.func f),args:=args,argTypes:=ats },ty,pos,tJ,gd⟩ l i env σ=jP P dr f nx i (args.toList.map (ev env)) σ (fun v G key=>AA nx U i key log∧vS P ops nx dr U K (PO U i key log) l (i+1) (env.put d v) (σ.upds G)):=rfl
@[go_sem] theorem aj9 {t:Nat} :ev env (.tmp t)=env t:=rfl
@[go_sem] theorem aka:ev env (.const (.int k a))=some (.pv (.sc (.int k a))):=rfl
@[go_sem] theorem ahx:ev env (.const (.bool p))=some (.pv (.sc (.bool p))):=rfl
@[go_sem] theorem acG:ev env (.const (.string s))=some (.pv (.sc (.string s))):=rfl
@[go_sem] theorem akb:ev env (.const (.slice none 0 0))=some .emp:=rfl
@[go_sem] theorem akc {l:List Value} :ev env (.const (.agg l.toArray))=if l.all (·.oneCell')=true then some (.agg (l.map NM)) else none:=by
 show (if l.toArray.all (·.oneCell')=true then _ else none)=_;rw[List.all_toArray]
@[go_sem] theorem akd:Value.oneCell' (.int k a)=true:=rfl
@[go_sem] theorem ake:Value.oneCell' (.string s)=true:=rfl
@[go_sem] theorem akf:Value.oneCell' (.slice none 0 0)=true:=rfl
@[go_sem] theorem ahy:NM (.slice none 0 0)= .emp:=rfl
@[go_sem] theorem ahz:NM (.int k a)= .pv (.sc (.int k a)):=rfl
@[go_sem] theorem aaQ:NM (.string s)= .pv (.sc (.string s)):=rfl
@[go_sem] theorem aeS {e t:Nat}{v:AV} :(env.put (some e) v) t=if t=e then some v else env t:=rfl
@[go_sem] theorem aeT {v:AV} :env.put none v=env:=rfl
@[go_sem] theorem aaR {e:Nat}{v:AV}{r:List (Nat×AV)} :iH ((e,v) :: r)=(iH r).put (some e) v:=rfl
@[go_sem] theorem acH {t:Nat} :iH [] t=none:=rfl
@[go_sem] theorem acI {e:Nat}{o:Option Obj}{r:List (Nat×Option Obj)} :σ.upds ((e,o) :: r)=(σ.upd e o).upds r:=rfl
@[go_sem] theorem aeU:σ.upds []=σ:=rfl
@[go_sem] theorem ahA {e t:Nat}{o:Option Obj} :(σ.upd e o) t=if t=e then o else σ t:=rfl
@[go_sem] theorem ahB {key:Key} :PO [] i key log=log:=rfl
@[go_sem] theorem aeV {key:Key} :AA nx U i key []=True:=by simp[AA]
@[go_sem] theorem aeW {off e j:Nat} :Ls off (.ptr e j)=some (.ptr e (j+off)):=rfl
@[go_sem] theorem ahC {off r n j e:Nat} :Ls off (.rp r n j e)=some (.rp r n j (e+off)):=rfl
@[go_sem] theorem ahD {off j:Nat}{row:List PV} :Ls off (.fp row j)=some (.fp row (j+off)):=rfl
@[go_sem] theorem ahE {off j:Nat}{cts:List CT} :Ls off (.tp cts j)=some (.tp cts (j+off)):=rfl
@[go_sem] theorem acJ {e j:Nat} :TY (.ptr e j)=true:=rfl
@[go_sem] theorem aeX {els:List (List PV)} :lenOf P t (.pv (.sl els))=if (aS P t).isSome=true then some els.length else none:=rfl
@[go_sem] theorem acK {r n:Nat} :lenOf P t (.own r n)=if (aS P t).isSome=true then some n else none:=rfl
@[go_sem] theorem aeY {cts:List CT}{n:Nat} :lenOf P t (.pv (.tr cts n))=if (aS P t).isSome=true then some n else none:=rfl
@[go_sem] theorem acL:lenOf P t (.pv (.sc (.string s)))=if Lt P t=true then some s.size else none:=rfl
def Uc (el:Option (TypeId×Nat×Nat))(els:List (List PV))(i:Int):Option DO:=
 match el with
 | some (_,k,_)=>some (.row els i k)
 | none=>none
@[go_sem] theorem aaS {el kk bb:Nat}{els:List (List PV)} :Uc (some (el,kk,bb)) els a=some (.row els a kk):=rfl
@[go_sem] theorem ahF {els:List (List PV)} :nT P σ t (.pv (.sl els)) a=Uc (aS P t) els a:=by
 unfold nT Uc
 cases aS P t <;> rfl
def Ud (el:Option (TypeId×Nat×Nat))(o:Option Obj)(r n:Nat)(i:Int):Option DO:=
 match el,o with
 | some (_,k,_),some (.row ty k' els)=>if k'=k∧els.length=n then some (.eff (0≤i∧i < n) (.rp r k i.toNat 0) [r] []) else none
 | _,_=>none
@[go_sem] theorem aaT {el kk bb r n ty k':Nat}{els:List (List PV)} :Ud (some (el,kk,bb)) (some (.row ty k' els)) r n a=if k'=kk∧els.length=n then some (.eff (0≤a∧a < n) (.rp r kk a.toNat 0) [r] []) else none:=rfl
@[go_sem] theorem aeZ {r n:Nat} :nT P σ t (.own r n) a=Ud (aS P t) (σ r) r n a:=by
 unfold nT Ud
 cases aS P t with
 | none=>rfl
 |
  some q=>
  obtain⟨x1,x2,x3⟩:=q;dsimp only
  cases σ r with
  | none=>rfl
  | some o=>cases o <;> rfl
def Ue (el:Option (TypeId×Nat×Nat))(cts:List CT)(n:Nat)(i:Int):Option DO:=
 match el with
 | some (_,k,_)=>if cts.length=k then some (.chk (0≤i∧i < n) (.tp cts 0)) else none
 | none=>none
@[go_sem] theorem aaU {el kk bb n:Nat}{cts:List CT} :Ue (some (el,kk,bb)) cts n a=if cts.length=kk then some (.chk (0≤a∧a < n) (.tp cts 0)) else none:=rfl
@[go_sem] theorem ahG {cts:List CT}{n:Nat} :nT P σ t (.pv (.tr cts n)) a=Ue (aS P t) cts n a:=by
 unfold nT Ue
 cases aS P t <;> rfl
def aaV (ly:Option (Bool×Nat))(o:Option Obj)(e off:Nat):Option DO:=
 match ly,o with
 | some (g,k),some (.box cs)=>(uy g k cs off).map fun v=> .eff True v [e] []
 | _,_=>none
@[go_sem] theorem acM {g:Bool}{kk e off:Nat}{cs:List AV} :aaV (some (g,kk)) (some (.box cs)) e off=(uy g kk cs off).map fun v=> .eff True v [e] []:=rfl
@[go_sem] theorem acN {e off:Nat} :jb P σ t (.ptr e off)=aaV (lay P t) (σ e) e off:=by
 unfold jb aaV
 cases lay P t with
 | none=>rfl
 |
  some q=>
  obtain⟨x1,x2⟩:=q;dsimp only
  cases σ e with
  | none=>rfl
  | some o=>cases o <;> rfl
def aaW (ly:Option (Bool×Nat))(row:List PV)(off:Nat):Option DO:=
 match ly with
 | some (g,k)=>(uy g k (row.map .pv) off).map DO.val
 | none=>none
@[go_sem] theorem acO {g:Bool}{kk off:Nat}{row:List PV} :aaW (some (g,kk)) row off=(uy g kk (row.map .pv) off).map DO.val:=rfl
@[go_sem] theorem ae0 {row:List PV}{off:Nat} :jb P σ t (.fp row off)=aaW (lay P t) row off:=by
 unfold jb aaW
 cases lay P t <;> rfl
def aaX (ly:Option (Bool×Nat))(o:Option Obj)(r k' j off:Nat):Option DO:=
 match ly,o with
 | some (g,k),some (.row ty k2 els)=>if k2=k' then some (.ld els j g k off r) else none
 | _,_=>none
@[go_sem] theorem acP {g:Bool}{kk r k' j off ty k2:Nat}{els:List (List PV)} :aaX (some (g,kk)) (some (.row ty k2 els)) r k' j off=if k2=k' then some (.ld els j g kk off r) else none:=rfl
@[go_sem] theorem ae1 {r k' j off:Nat} :jb P σ t (.rp r k' j off)=aaX (lay P t) (σ r) r k' j off:=by
 unfold jb aaX
 cases lay P t with
 | none=>rfl
 |
  some q=>
  obtain⟨x1,x2⟩:=q;dsimp only
  cases σ r with
  | none=>rfl
  | some o=>cases o <;> rfl
def Uf (ly:Option (Bool×Nat))(cts:List CT)(j:Nat):Option DO:=
 match ly with
 | some (g,k)=>if g=false then (cts[j]?).map fun ct=> .tyc ct else if j=0∧k=cts.length then some (.tys cts) else none
 | none=>none
@[go_sem] theorem ae2 {kk:Nat}{cts:List CT} :Uf (some (true,kk)) cts 0=if kk=cts.length then some (.tys cts) else none:=by simp[Uf]
@[go_sem] theorem acQ {kk j:Nat}{cts:List CT} :Uf (some (false,kk)) cts j=(cts[j]?).map fun ct=> .tyc ct:=rfl
@[go_sem] theorem ae3 {cts:List CT}{j:Nat} :jb P σ t (.tp cts j)=Uf (lay P t) cts j:=by
 unfold jb Uf
 cases lay P t <;> rfl
@[go_sem] theorem ahH {kk off:Nat}{cs:List AV} :uy false kk cs off=cs[off]?:=rfl
@[go_sem] theorem ahI {kk off:Nat}{cs:List AV} :uy true kk cs off=if off+kk≤cs.length then some (.agg ((cs.drop off).take kk)) else none:=rfl
def aaY (ly:Option (Bool×Nat))(o:Option Obj)(e off:Nat)(v:AV):Option DO:=
 match ly,o with
 | some (g,k),some (.box cs)=>if (aV v).length=k∧(aV v).all fB=true∧off+k≤cs.length then some (.eff True .emp [] [(e,some (.box (fG cs off (aV v))))]) else none
 | _,_=>none
@[go_sem] theorem acR {g:Bool}{kk e off:Nat}{cs:List AV}{v:AV} :aaY (some (g,kk)) (some (.box cs)) e off v=if (aV v).length=kk∧(aV v).all fB=true∧off+kk≤cs.length then some (.eff True .emp [] [(e,some (.box (fG cs off (aV v))))]) else none:=rfl
@[go_sem] theorem aaZ {e off:Nat}{v:AV} :gm P σ t (.ptr e off) v=aaY (lay P t) (σ e) e off v:=by
 unfold gm aaY
 cases lay P t with
 | none=>rfl
 |
  some q=>
  obtain⟨x1,x2⟩:=q;dsimp only
  cases σ e with
  | none=>rfl
  | some o=>cases o <;> rfl
def aa0 (ly:Option (Bool×Nat))(o:Option Obj)(ps:Option (List PV))(r k' j off:Nat):Option DO:=
 match ly,o,ps with
 | some (g,k),some (.row ty k2 els),some ps=>if k2=k'∧ps.length=k∧off+k≤k' then some (.eff (j < els.length) .emp [] [(r,some (.row ty k' (els.modify j (fun row=>fG row off ps))))]) else none
 | _,_,_=>none
@[go_sem] theorem acS {g:Bool}{kk r k' j off ty k2:Nat}{els:List (List PV)}{ps:List PV} :aa0 (some (g,kk)) (some (.row ty k2 els)) (some ps) r k' j off=if k2=k'∧ps.length=kk∧off+kk≤k' then some (.eff (j < els.length) .emp [] [(r,some (.row ty k' (els.modify j (fun row=>fG row off ps))))]) else none:=rfl
@[go_sem] theorem acT {r k' j off:Nat}{v:AV} :gm P σ t (.rp r k' j off) v=aa0 (lay P t) (σ r) (qI (aV v)) r k' j off:=by
 unfold gm aa0
 cases lay P t with
 | none=>rfl
 |
  some q=>
  obtain⟨x1,x2⟩:=q;dsimp only
  cases σ r with
  | none=>cases qI (aV v) <;> rfl
  | some o=>cases o <;> cases qI (aV v) <;> rfl
def aa1 (ly:Option (Bool×Nat))(ct:Option CT)(p:Option PV):Option DO:=
 match ly,ct,p with
 | some (false,1),some ct,some p=>some (.eff (ct.ok p) .emp [] [])
 | _,_,_=>none
@[go_sem] theorem acU {ct:CT}{p:PV} :aa1 (some (false,1)) (some ct) (some p)=some (.eff (ct.ok p) .emp [] []):=rfl
@[go_sem] theorem acV {cts:List CT}{j:Nat}{v:AV} :gm P σ t (.tp cts j) v=aa1 (lay P t) cts[j]? (toP v):=by
 unfold gm aa1
 cases lay P t with
 | none=>rfl
 |
  some q=>
  obtain⟨g,kk⟩:=q;dsimp only
  cases g
  · by_cases hk:kk=1
    · subst hk;simp only[and_self,if_true]
      cases cts[j]? <;> cases toP v <;> rfl
    · rw[if_neg (fun h=>hk h.2)];split <;> first | rfl | (rename_i h1 h2;simp_all)
  · rw[if_neg (fun h=>by cases h.1)]
def dAp (el:Option (TypeId×Nat×Nat))(o:Option Obj)(ys:Option PV)(lab r n:Nat):Option DO:=
 match el,o,ys with
 | some (el,k,_),some (.row ty k' els),some (.sl ys)=>if (k'=k∧ty=el)∧els.length=n then some (.eff (n+ys.length≤1000000∧∀row∈ys,row.length=k) (.own lab (n+ys.length)) [] [(r,none),(lab,some (.row ty k' (els++ys)))]) else none
 | _,_,_=>none
@[go_sem] theorem ae4 {el kk bb lab r n ty k':Nat}{els ys:List (List PV)} :dAp (some (el,kk,bb)) (some (.row ty k' els)) (some (.sl ys)) lab r n=if (k'=kk∧ty=el)∧els.length=n then some (.eff (n+ys.length≤1000000∧∀row∈ys,row.length=kk) (.own lab (n+ys.length)) [] [(r,none),(lab,some (.row ty k' (els++ys)))]) else none:=rfl
@[go_sem] theorem ae5 {lab r n:Nat}{v:AV} :nZ P σ lab t (.own r n) v=dAp (aS P t) (σ r) (toP v) lab r n:=by
 unfold nZ dAp
 cases aS P t with
 | none=>rfl
 |
  some q=>
  obtain⟨x1,x2,x3⟩:=q;dsimp only
  cases σ r with
  | none=>cases toP v <;> rfl
  |
   some o=>cases o <;> (cases toP v with
   | none=>rfl
   | some p=>cases p <;> rfl)
def Xp (el:Option (TypeId×Nat×Nat))(ys:PV)(lab:Nat):Option DO:=
 match el,ys with
 | some (el,k,_),.sl ys=>some (.eff (ys.length≤1000000∧∀row∈ys,row.length=k) (.own lab ys.length) [] [(lab,some (.row el k ys))])
 | some (el,k,_),.tr cts n=>if cts.length=k then some (.chk (n≤1000000) (.pv (.tr cts n))) else none
 | _,_=>none
@[go_sem] theorem ahJ {el kk bb lab:Nat}{ys:List (List PV)} :Xp (some (el,kk,bb)) (.sl ys) lab=some (.eff (ys.length≤1000000∧∀row∈ys,row.length=kk) (.own lab ys.length) [] [(lab,some (.row el kk ys))]):=rfl
@[go_sem] theorem ahK {el kk bb lab n:Nat}{cts:List CT} :Xp (some (el,kk,bb)) (.tr cts n) lab=if cts.length=kk then some (.chk (n≤1000000) (.pv (.tr cts n))) else none:=rfl
@[go_sem] theorem ae6 {lab:Nat}{p:PV} :nZ P σ lab t .emp (.pv p)=Xp (aS P t) p lab:=by
 unfold nZ Xp
 cases aS P t with
 | none=>rfl
 |
  some q=>
  obtain⟨x1,x2,x3⟩:=q
  cases p <;> rfl
def aa2 (el:Option (TypeId×Nat×Nat))(els:List (List PV))(lo hi:Option Int):Option DO:=
 match el,lo,hi with
 | some (_,k,_),some l,some h=>some (.chk (0≤l∧l≤h∧h≤els.length∧∀row∈els,row.length=k) (.pv (.sl ((els.take h.toNat).drop l.toNat))))
 | _,_,_=>none
@[go_sem] theorem acW {el kk bb:Nat}{els:List (List PV)} :aa2 (some (el,kk,bb)) els (some a) (some b)=some (.chk (0≤a∧a≤b∧b≤els.length∧∀row∈els,row.length=kk) (.pv (.sl ((els.take b.toNat).drop a.toNat)))):=rfl
@[go_sem] theorem ae7 {e:Operand→Option AV}{lab:Nat}{els:List (List PV)}{lo hi:Option Operand} :kD P e σ lab t (.pv (.sl els)) lo hi=aa2 (aS P t) els (xe e lo 0) (xe e hi els.length):=by
 unfold kD aa2
 cases aS P t with
 | none=>rfl
 |
  some q=>
  obtain⟨x1,x2,x3⟩:=q;dsimp only
  cases xe e lo 0 <;> cases xe e hi els.length <;> rfl
def aa3 (el:Option (TypeId×Nat×Nat))(o:Option Obj)(hi:Option Int)(lab r n:Nat):Option DO:=
 match el,o,hi with
 | some _,some (.row ty k' els),some h=>if els.length=n then some (.eff (0≤h∧h≤n) (.own lab h.toNat) [] [(r,none),(lab,some (.row ty k' (els.take h.toNat)))]) else none
 | _,_,_=>none
@[go_sem] theorem acX {q:TypeId×Nat×Nat}{ty k' lab r n:Nat}{els:List (List PV)} :aa3 (some q) (some (.row ty k' els)) (some a) lab r n=if els.length=n then some (.eff (0≤a∧a≤n) (.own lab a.toNat) [] [(r,none),(lab,some (.row ty k' (els.take a.toNat)))]) else none:=rfl
@[go_sem] theorem acY {e:Operand→Option AV}{lab r n:Nat}{hi:Option Operand} :kD P e σ lab t (.own r n) none hi=aa3 (aS P t) (σ r) (xe e hi n) lab r n:=by
 unfold kD aa3
 cases aS P t with
 | none=>rfl
 |
  some q=>
  obtain⟨x1,x2,x3⟩:=q;dsimp only
  cases σ r with
  | none=>cases xe e hi n <;> rfl
  | some o=>cases o <;> cases xe e hi n <;> rfl
def ae8 (x:Option AV):Option Int:=
 match x with
 | some (.pv (.sc (.int _ i)))=>some i
 | _=>none
@[go_sem] theorem acZ:ae8 (some (.pv (.sc (.int k a))))=some a:=rfl
@[go_sem] theorem ae9 {e:Operand→Option AV} :xe e none a=some a:=rfl
@[go_sem] theorem afa {e:Operand→Option AV}{x:Operand} :xe e (some x) a=ae8 (e x):=rfl
@[go_sem] theorem afb {o:Array Oper}{g:Nat} :Oe o g=(o[g]?).bind (·.dst):=rfl
end
