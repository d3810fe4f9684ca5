/- Words. -/
import Derived.Test.YtfbkkgfkhhibfaaGreatAdv
set_option linter.unusedVariables false
set_option linter.unusedSimpArgs false
namespace AM
open Go Go.RowKit
mutual
theorem KU:∀(v:AV) (ρ:Nat→Nat),v.lb 0=true→v.ren ρ=v
 | .own r n,_,h=>by simp[AV.lb] at h
 | .ptr l o,_,h=>by simp[AV.lb] at h
 | .rp r k i o,_,h=>by simp[AV.lb] at h
 | .agg cs,ρ,h=>by simp only[AV.ren];rw[wY cs ρ (by simpa [AV.lb] using h)]
 | .tup cs,ρ,h=>by simp only[AV.ren];rw[wY cs ρ (by simpa [AV.lb] using h)]
 | .pv _,_,_=>rfl
 | .fp _ _,_,_=>rfl
 | .tp _ _,_,_=>rfl
 | .emp,_,_=>rfl
theorem wY:∀(vs:List AV) (ρ:Nat→Nat),AV.lbL 0 vs=true→AV.renL ρ vs=vs
 | [],_,_=>rfl
 |
  v :: r,ρ,h=>by
  simp only[AV.lbL,Bool.and_eq_true] at h
  simp only[AV.renL]
  rw[KU v ρ h.1,wY r ρ h.2]
end
def jo (P:Program)(f:FuncId)(as:List AV)(Q:AV→Prop):Prop:=isGo P f=true∧AV.lbL 0 as=true∧ACall P f as [] (fun r g=>g= []∧r.lb 0=true∧Q r)
abbrev aam:Key:=⟨[],[],true,false,true⟩
abbrev Tu:Key:=⟨[],[],false,true,true⟩
theorem D9 {P:Program}{dr:Bool}{f:FuncId}{nx i:Nat}{dD:List (Option AV)}{σ:Sto}{K:AV→List (Nat×Option Obj)→Key→Prop}{as:List AV}{Q:AV→Prop}(hf:jo P f as Q)(hv:dD=as.map some)(hi:dr=true→∃r:AV,r.lb 0=true∧Q r)(h:∀r,r.lb 0=true→Q r→K r [] Tu):jO P dr f nx i dD σ K:=by
 obtain⟨h1,h2,h3⟩:=hf;refine⟨as,[],_,[],h1,h3,by rw[wY as _ h2];exact hv,h2,rfl,rfl,List.nodup_nil,rfl,fun k o hk=>by simp at hk,fun hd=>?_,fun r g hp h4 h5=>?_⟩
 · obtain⟨r,q1,q2⟩:=hi hd;exact⟨r,[],⟨rfl,q1,q2⟩,by simp,by simp⟩
 · obtain⟨rfl,q1,q2⟩:=hp;rw[KU r _ q1];exact h r q1 q2
def Ht (els:List (List PV))(i:Int)(k:Nat)(F:List PV→Prop):Prop:=(0≤i∧∃row,els[i.toNat]?=some row∧row.length=k)∧∀row,els[i.toNat]?=some row→F row
theorem aB {α:Type}{l:List α}{f:α→List PV}{i:Int}{k:Nat}{F:List PV→Prop}{x:α}(h0:0≤i)(hx:l[i.toNat]?=some x)(hk:(f x).length=k)(hF:F (f x)):Ht (l.map f) i k F:=by
 have h1:(l.map f)[i.toNat]?=some (f x):=by simp[hx]
 exact⟨⟨h0,_,h1,hk⟩,fun row hr=>by rw[h1] at hr;injection hr with hr;rw[←hr];exact hF⟩
theorem au {els:List (List PV)}{i:Int}{k:Nat}{F:List PV→Prop}{x:List PV}(h0:0≤i)(h1:els[i.toNat]?=some x)(hk:x.length=k)(hF:F x):Ht els i k F:=
 ⟨⟨h0,_,h1,hk⟩,fun row hr=>by rw[h1] at hr;injection hr with hr;rw[←hr];exact hF⟩
def KW (ct:CT)(F:PV→Prop):Prop:=∀p,ct.ok p→F p
def aan (els:List (List PV))(i:Nat)(g:Bool)(k off:Nat)(F:AV→Prop):Prop:=(∃row v,els[i]?=some row∧uh g k (row.map .pv) off=some v)∧∀v,(∃row,els[i]?=some row∧uh g k (row.map .pv) off=some v)→F v
theorem DK {els:List (List PV)}{i:Nat}{g:Bool}{k off:Nat}{F:AV→Prop}{x:List PV}{v:AV}(h1:els[i]?=some x)(hv:uh g k (x.map .pv) off=some v)(hF:F v):aan els i g k off F:=
 ⟨⟨
  _,_,h1,hv⟩,fun v' hr=>by
  obtain⟨row,q1,q2⟩:=hr
  rw[h1] at q1
  injection q1 with q1
  rw[←q1,hv] at q2
  injection q2 with q2
  rw[←q2]
  exact hF⟩
@[congr] theorem WT {P:Program}{dr:Bool}{f:FuncId}{nx i:Nat}{dD YM:List (Option AV)}{σ:Sto}{K:AV→List (Nat×Option Obj)→Key→Prop}(h:dD=YM):jO P dr f nx i dD σ K=jO P dr f nx i YM σ K:=by rw[h]
def Ea (b:Bool)(X Y:Prop):Prop:=(b=true→X)∧(b=false→Y)
section
variable {P : Program} {ops : Array Oper} {nx i : Nat} {dr : Bool} {U : List (Nat × Nat)} {K : Env → Sto → Nat → Prop} {log : List (Nat × Key)} {l : List Oper} {env : Env} {σ : Sto} {d : Option Nat} {ty : TypeId} {pos : String} {sS : Array Edge} {gd : Option (Nat × Bool)}
def vo (P:Program)(ops:Array Oper)(nx:Nat)(dr:Bool)(U:List (Nat×Nat))(K:Env→Sto→Nat→Prop)(log:List (Nat×Key))(o:Oper)(l:List Oper)(i:Nat)(env:Env)(σ:Sto):Prop:=
 vX P dr nx i o env σ (fun v G key=>Aq nx U i key log∧vS P ops nx dr U K (Pm U i key log) l (i+1) (env.put o.dst v) (σ.upds G))
def adZ (nx i:Nat)(d:DO):Key:=⟨d.rd,d.wr.filter (fun l=>!own nx i l),d.det,false,true⟩
def vD (P:Program)(ops:Array Oper)(nx:Nat)(dr:Bool)(U:List (Nat×Nat))(K:Env→Sto→Nat→Prop)(log:List (Nat×Key))(dst:Option Nat)(l:List Oper)(i:Nat)(env:Env)(σ:Sto)(x:Option DO):Prop:=
 match x with
 | none=>False
 | some d=>d.ok∧∀v,d.out v→Aq nx U i (adZ nx i d) log∧vS P ops nx dr U K (Pm U i (adZ nx i d) log) l (i+1) (env.put dst v) (σ.upds d.upd)
@[go_sem] theorem ajv:vS P ops nx dr U K log [] i env σ=K env σ (nx+8 * i):=rfl
@[go_sem] theorem amB {op:Op} :vS P ops nx dr U K log (⟨d,op,ty,pos,sS,none⟩ :: l) i env σ=vo P ops nx dr U K log ⟨d,op,ty,pos,sS,none⟩ l i env σ:=rfl
def Eb (P:Program)(ops:Array Oper)(nx:Nat)(dr:Bool)(U:List (Nat×Nat))(K:Env→Sto→Nat→Prop)(log:List (Nat×Key))(o:Oper)(l:List Oper)(i:Nat)(env:Env)(σ:Sto)(want:Bool)(dg:Option Nat)(x:Option AV):Prop:=
 match x with
 | some (.pv (.sc (.bool b)))=>Ea b (if want=true then vo P ops nx dr U K log o l i (env.put dg (.pv (.sc (.bool true)))) σ else vS P ops nx dr U K log l (i+1) ((env.put dg (.pv (.sc (.bool true)))).put o.dst (.tup [])) σ)
  (if want=true then vS P ops nx dr U K log l (i+1) ((env.put dg (.pv (.sc (.bool false)))).put o.dst (.tup [])) σ else vo P ops nx dr U K log o l i (env.put dg (.pv (.sc (.bool false)))) σ)
 | some (.tup [])=>vS P ops nx dr U K log l (i+1) (env.put o.dst (.tup [])) σ
 | _=>False
def NQ (ops:Array Oper)(g:Nat):Option Nat:=(ops[g]?).bind (·.dst)
def evO (env:Env):Option Nat→Option AV
 | some d=>env d
 | none=>none
@[go_sem] theorem amD {op:Op}{g:Nat}{want:Bool} :vS P ops nx dr U K log (⟨d,op,ty,pos,sS,some (g,want)⟩ :: l) i env σ=Eb P ops nx dr U K log ⟨d,op,ty,pos,sS,some (g,want)⟩ l i env σ want (NQ ops g) (evO env (NQ ops g)):=by
 simp only[vS,vG,Eb,NQ,Ea,vo]
 cases (ops[g]?).bind (·.dst) with
 | none=>rfl
 | some q=>rfl
@[go_sem] theorem ad1 {q:Nat} :evO env (some q)=env q:=rfl
theorem Tv {o:Oper}{want:Bool}{dg:Option Nat} :Eb P ops nx dr U K log o l i env σ want dg (some (.pv (.sc (.bool true))))=if want=true then vo P ops nx dr U K log o l i (env.put dg (.pv (.sc (.bool true)))) σ else vS P ops nx dr U K log l (i+1) ((env.put dg (.pv (.sc (.bool true)))).put o.dst (.tup [])) σ:=by
 simp[Eb,Ea]
theorem Tz {o:Oper}{want:Bool}{dg:Option Nat} :Eb P ops nx dr U K log o l i env σ want dg (some (.pv (.sc (.bool false))))=if want=true then vS P ops nx dr U K log l (i+1) ((env.put dg (.pv (.sc (.bool false)))).put o.dst (.tup [])) σ else vo P ops nx dr U K log o l i (env.put dg (.pv (.sc (.bool false)))) σ:=by
 simp[Eb,Ea]
@[go_sem] theorem ajw {o:Oper}{dg:Option Nat} :Eb P ops nx dr U K log o l i env σ true dg (some (.pv (.sc (.bool true))))=vo P ops nx dr U K log o l i (env.put dg (.pv (.sc (.bool true)))) σ:=by rw[Tv,if_pos rfl]
@[go_sem] theorem ajx {o:Oper}{dg:Option Nat} :Eb P ops nx dr U K log o l i env σ false dg (some (.pv (.sc (.bool true))))=vS P ops nx dr U K log l (i+1) ((env.put dg (.pv (.sc (.bool true)))).put o.dst (.tup [])) σ:=by rw[Tv,if_neg (by decide)]
@[go_sem] theorem ajy {o:Oper}{dg:Option Nat} :Eb P ops nx dr U K log o l i env σ true dg (some (.pv (.sc (.bool false))))=vS P ops nx dr U K log l (i+1) ((env.put dg (.pv (.sc (.bool false)))).put o.dst (.tup [])) σ:=by rw[Tz,if_pos rfl]
@[go_sem] theorem ajz {o:Oper}{dg:Option Nat} :Eb P ops nx dr U K log o l i env σ false dg (some (.pv (.sc (.bool false))))=vo P ops nx dr U K log o l i (env.put dg (.pv (.sc (.bool false)))) σ:=by rw[Tz,if_neg (by decide)]
@[go_sem] theorem ajA {o:Oper}{want:Bool}{dg:Option Nat} :Eb P ops nx dr U K log o l i env σ want dg (some (.tup []))=vS P ops nx dr U K log l (i+1) (env.put o.dst (.tup [])) σ:=rfl
theorem WU {o:Oper}{want:Bool}{dg:Option Nat}{b:Bool}(ht:b=true→Eb P ops nx dr U K log o l i env σ want dg (some (.pv (.sc (.bool true)))))(hf:b=false→Eb P ops nx dr U K log o l i env σ want dg (some (.pv (.sc (.bool false))))):Eb P ops nx dr U K log o l i env σ want dg (some (.pv (.sc (.bool b)))):=by
 cases b
 · exact hf rfl
 · exact ht rfl
theorem TA {k:Key}(h1:k.rd= [])(h2:k.wr= [])(h3:k.isC=false):Aq nx U i k log:=fun e _ _=>⟨fun l _=>by simp[h1,h2],fun l hl=>(by rw[h2] at hl;cases hl),fun _ l hl=>(by rw[h1,h2] at hl;cases hl),.inl h3⟩
@[go_sem] theorem ajB {v:AV} :vD P ops nx dr U K log d l i env σ (some (.val v))=vS P ops nx dr U K (Pm U i aam log) l (i+1) (env.put d v) σ:=by
 simp only[vD,DO.val,eq_iff_iff];exact⟨fun h=>(h.2 v rfl).2,fun h=>⟨trivial,fun u hu=>⟨TA rfl rfl rfl,by rw[hu];exact h⟩⟩⟩
@[go_sem] theorem ajC {p:Prop}{v:AV} :vD P ops nx dr U K log d l i env σ (some (.chk p v))=(p∧vS P ops nx dr U K (Pm U i aam log) l (i+1) (env.put d v) σ):=by
 simp only[vD,DO.chk,eq_iff_iff];exact⟨fun h=>⟨h.1,(h.2 v rfl).2⟩,fun h=>⟨h.1,fun u hu=>⟨TA rfl rfl rfl,by rw[hu];exact h.2⟩⟩⟩
def DO.eff (p:Prop)(v:AV)(rd:List Nat)(upd:List (Nat×Option Obj)):DO:=⟨p,fun u=>u=v,rd,true,upd⟩
def ad3 (nx i:Nat)(rd:List Nat)(upd:List (Nat×Option Obj)):Key:=⟨rd,(upd.map (·.1)).filter (fun l=>!own nx i l),true,false,true⟩
@[go_sem] theorem ajD {p:Prop}{v:AV}{rd:List Nat}{upd:List (Nat×Option Obj)} :vD P ops nx dr U K log d l i env σ (some (.eff p v rd upd))=(p∧Aq nx U i (ad3 nx i rd upd) log∧vS P ops nx dr U K (Pm U i (ad3 nx i rd upd) log) l (i+1) (env.put d v) (σ.upds upd)):=by
 simp only[vD,DO.eff,eq_iff_iff];exact⟨fun h=>⟨h.1,h.2 v rfl⟩,fun h=>⟨h.1,fun u hu=>by rw[hu];exact h.2⟩⟩
def Pn:List CT→(List PV→Prop)→Prop
 | [],F=>F []
 | ct :: r,F=>KW ct fun p=>Pn r fun ps=>F (p :: ps)
@[go_sem] theorem ad4 {F:List PV→Prop} :Pn [] F=F []:=rfl
@[go_sem] theorem Po {ct:CT}{r:List CT}{F:List PV→Prop} :Pn (ct :: r) F=KW ct fun p=>Pn r fun ps=>F (p :: ps):=rfl
theorem yC:∀ {cts:List CT} {F:List PV→Prop},Pn cts F ↔∀ps,TB cts ps→F ps
 | [],F=>⟨fun h ps hp=>by rw[List.length_eq_zero_iff.1 hp.1];exact h,fun h=>h [] ⟨rfl,fun j ct p hc=>by simp at hc⟩⟩
 |
  ct :: r,F=>by
  rw[Po]
  constructor
  · intro h ps hp
    cases ps with
    | nil=>cases hp.1
    | cons p s=>exact yC.1 (h p (hp.2 0 ct p rfl rfl)) s ⟨by simpa using hp.1,fun j c q h1 h2=>hp.2 (j+1) c q (by simpa using h1) (by simpa using h2)⟩
  · intro h p hp
    refine yC.2 fun ps hs=>h (p :: ps) ⟨by simp[hs.1],fun j c q h1 h2=>?_⟩
    cases j with
    | zero=>simp at h1 h2;subst h1 h2;exact hp
    | succ j=>exact hs.2 j c q (by simpa using h1) (by simpa using h2)
def DO.row (els:List (List PV))(i:Int)(k:Nat):DO:=⟨0≤i∧∃row,els[i.toNat]?=some row∧row.length=k,fun u=>∃row,els[i.toNat]?=some row∧u= .fp row 0,[],true,[]⟩
@[go_sem] theorem ajE {els:List (List PV)}{j:Int}{k:Nat} :vD P ops nx dr U K log d l i env σ (some (.row els j k))=Ht els j k (fun row=>vS P ops nx dr U K (Pm U i aam log) l (i+1) (env.put d (.fp row 0)) σ):=by
 simp only[vD,DO.row,Ht,eq_iff_iff];refine and_congr_right (fun _=>⟨fun h row hr=>(h _ ⟨row,hr,rfl⟩).2,fun h v ⟨row,hr,hv⟩=>⟨TA rfl rfl rfl,by rw[hv];exact h row hr⟩⟩)
def DO.tys (cts:List CT):DO:=⟨True,fun u=>∃ps,TB cts ps∧u= .agg (ps.map .pv),[],false,[]⟩
@[go_sem] theorem ajF {cts:List CT} :vD P ops nx dr U K log d l i env σ (some (.tys cts))=Pn cts (fun ps=>vS P ops nx dr U K (Pm U i ⟨[],[],false,false,true⟩ log) l (i+1) (env.put d (.agg (ps.map .pv))) σ):=by
 rw[eq_iff_iff,yC];simp only[vD,DO.tys];exact⟨fun h p hp=>(h.2 _ ⟨p,hp,rfl⟩).2,fun h=>⟨trivial,fun v ⟨p,hp,hv⟩=>⟨TA rfl rfl rfl,by rw[hv];exact h p hp⟩⟩⟩
def DO.tyc (ct:CT):DO:=⟨True,fun u=>∃p,ct.ok p∧u= .pv p,[],false,[]⟩
@[go_sem] theorem amE {ct:CT} :vD P ops nx dr U K log d l i env σ (some (.tyc ct))=KW ct (fun p=>vS P ops nx dr U K (Pm U i ⟨[],[],false,false,true⟩ log) l (i+1) (env.put d (.pv p)) σ):=by
 simp only[vD,DO.tyc,KW,eq_iff_iff];exact⟨fun h p hp=>(h.2 _ ⟨p,hp,rfl⟩).2,fun h=>⟨trivial,fun v ⟨p,hp,hv⟩=>⟨TA rfl rfl rfl,by rw[hv];exact h p hp⟩⟩⟩
def DO.ld (els:List (List PV))(i:Nat)(g:Bool)(k off r:Nat):DO:=⟨∃row v,els[i]?=some row∧uh g k (row.map .pv) off=some v,fun u=>∃row,els[i]?=some row∧uh g k (row.map .pv) off=some u,[r],true,[]⟩
@[go_sem] theorem amF {els:List (List PV)}{j k off r:Nat}{g:Bool} :vD P ops nx dr U K log d l i env σ (some (.ld els j g k off r))=aan els j g k off (fun v=>Aq nx U i ⟨[r],[],true,false,true⟩ log∧vS P ops nx dr U K (Pm U i ⟨[r],[],true,false,true⟩ log) l (i+1) (env.put d v) σ):=by
 simp only[vD,DO.ld,aan,eq_iff_iff];exact and_congr_right (fun _=>Iff.rfl)
@[go_sem] theorem ag4 {x:Operand} :vo P ops nx dr U K log ⟨d,.move x,ty,pos,sS,gd⟩ l i env σ=vD P ops nx dr U K log d l i env σ ((ev env x).map DO.val):=rfl
@[go_sem] theorem acb {x:Operand} :vo P ops nx dr U K log ⟨d,.assign x,ty,pos,sS,gd⟩ l i env σ=vD P ops nx dr U K log d l i env σ ((ev env x).map DO.val):=rfl
def TC (c a b:Option AV):Option DO:=
 match c with
 | some (.pv (.sc (.bool t)))=>(if t=true then a else b).map DO.val
 | _=>none
@[go_sem] theorem ag5 {a b:Option AV} :TC (some (.pv (.sc (.bool true)))) a b=a.map DO.val:=rfl
@[go_sem] theorem ag6 {a b:Option AV} :TC (some (.pv (.sc (.bool false)))) a b=b.map DO.val:=rfl
@[go_sem] theorem ag7 {c a b:Operand} :vo P ops nx dr U K log ⟨d,.pick c a b,ty,pos,sS,gd⟩ l i env σ=vD P ops nx dr U K log d l i env σ (TC (ev env c) (ev env a) (ev env b)):=rfl
@[go_sem] theorem ad5 {t:TypeId} :vo P ops nx dr U K log ⟨d,.alloc t,ty,pos,sS,gd⟩ l i env σ=vD P ops nx dr U K log d l i env σ ((dn P t).map fun cs=> .eff True (.ptr (nx+8 * i) 0) [] [(nx+8 * i,some (.box cs))]):=rfl
@[go_sem] theorem ajG {t:TypeId}{x:Operand} :vo P ops nx dr U K log ⟨d,.box t x,ty,pos,sS,gd⟩ l i env σ=vD P ops nx dr U K log d l i env σ ((ev env x).bind fun v=>if (aW v).all fA=true then some (.eff True (.ptr (nx+8 * i) 0) [] [(nx+8 * i,some (.box (aW v)))]) else none):=rfl
def TD (z:Option (List AV))(pl:Option (List (Nat×Nat)))(ps:Option (List (Nat×AV))):Option DO:=
 match z,pl,ps with
 | some zs,some pl,some ps=>(oQ (fun i=>pl[i]?) zs ps).map fun cs=> .val (.agg cs)
 | _,_,_=>none
@[go_sem] theorem YN {zs:List AV}{pl:List (Nat×Nat)}{ps:List (Nat×AV)} :TD (some zs) (some pl) (some ps)=(oQ (fun i=>pl[i]?) zs ps).map fun cs=> .val (.agg cs):=rfl
@[go_sem] theorem ad6 {t:TypeId}{parts:Array (Nat×Operand)} :vo P ops nx dr U K log ⟨d,.build t parts,ty,pos,sS,gd⟩ l i env σ=vD P ops nx dr U K log d l i env σ (TD (dn P t) (bH P t) (evs (ev env) parts.toList)):=rfl
def dBs (el:Option (TypeId×Nat×Nat))(n:Nat)(e:Operand→Option AV)(parts:List (Nat×Operand)):Option DO:=
 match el with
 | some (_,k,_)=>if n=0 then (if parts.length=0 then some (.val .emp) else none) else if parts.length=n∧n * k≤2 ^ 24 then (rowsOf e k 0 parts).map fun rows=> .val (.pv (.sl rows)) else none
 | none=>none
@[go_sem] theorem ad7 {el k b n:Nat}{e:Operand→Option AV}{parts:List (Nat×Operand)} :dBs (some (el,k,b)) n e parts=if n=0 then (if parts.length=0 then some (.val .emp) else none) else if parts.length=n∧n * k≤2 ^ 24 then (rowsOf e k 0 parts).map fun rows=> .val (.pv (.sl rows)) else none:=rfl
def ad8 (m k:Nat)(o:Option (List PV))(rest:Option (List (List PV))):Option (List (List PV)):=
 match o,rest with
 | some ps,some rs=>if ps.length=k then some (ps :: rs) else none
 | _,_=>none
@[go_sem] theorem acd {m k:Nat}{ps:List PV}{rs:List (List PV)} :ad8 m k (some ps) (some rs)=if ps.length=k then some (ps :: rs) else none:=rfl
@[go_sem] theorem aao {e:Operand→Option AV}{k m:Nat} :rowsOf e k m []=some []:=rfl
@[go_sem] theorem YO {e:Operand→Option AV}{k m j:Nat}{x:Operand}{r:List (Nat×Operand)} :rowsOf e k m ((j,x) :: r)=if j=m then ad8 m k ((e x).bind fun v=>qy (aW v)) (rowsOf e k (m+1) r) else none:=rfl
@[go_sem] theorem ag8 {e:Operand→Option AV} :evs e []=some []:=rfl
def evC (j:Nat)(x:Option AV)(r:Option (List (Nat×AV))):Option (List (Nat×AV)):=
 match x,r with
 | some v,some l=>some ((j,v) :: l)
 | _,_=>none
@[go_sem] theorem ad9 {j:Nat}{v:AV}{l:List (Nat×AV)} :evC j (some v) (some l)=some ((j,v) :: l):=rfl
@[go_sem] theorem aea {e:Operand→Option AV}{j:Nat}{x:Operand}{r:List (Nat×Operand)} :evs e ((j,x) :: r)=evC j (e x) (evs e r):=rfl
@[go_sem] theorem aap {cs:List AV} :aW (.agg cs)=cs:=rfl
@[go_sem] theorem ace {p:PV} :aW (.pv p)= [.pv p]:=rfl
@[go_sem] theorem aaq {r n:Nat} :aW (.own r n)= [.own r n]:=rfl
@[go_sem] theorem aar {r n:Nat} :aW (.ptr r n)= [.ptr r n]:=rfl
@[go_sem] theorem ajH {p:PV} :toP (.pv p)=some p:=rfl
@[go_sem] theorem ag9:toP .emp=some (.sl []):=rfl
@[go_sem] theorem aeb:qy []=some []:=rfl
def aec (p:Option PV)(ps:Option (List PV)):Option (List PV):=
 match p,ps with
 | some p,some ps=>some (p :: ps)
 | _,_=>none
@[go_sem] theorem acf {p:PV}{ps:List PV} :aec (some p) (some ps)=some (p :: ps):=rfl
@[go_sem] theorem acg {v:AV}{r:List AV} :qy (v :: r)=aec (toP v) (qy r):=rfl
def YP (f:Nat→Option (Nat×Nat))(cells:List AV)(v:AV)(q:Option (Nat×Nat))(r:List (Nat×AV)):Option (List AV):=
 match q with
 | none=>none
 | some (off,size)=>if (aW v).length=size∧off+size≤cells.length∧(aW v).all fA=true then oQ f (fF cells off (aW v)) r else none
@[go_sem] theorem aas {f:Nat→Option (Nat×Nat)}{cells:List AV}{v:AV}{off size:Nat}{r:List (Nat×AV)} :YP f cells v (some (off,size)) r=if (aW v).length=size∧off+size≤cells.length∧(aW v).all fA=true then oQ f (fF cells off (aW v)) r else none:=rfl
@[go_sem] theorem ach {f:Nat→Option (Nat×Nat)}{cells:List AV} :oQ f cells []=some cells:=rfl
@[go_sem] theorem aat {f:Nat→Option (Nat×Nat)}{cells:List AV}{j:Nat}{v:AV}{r:List (Nat×AV)} :oQ f cells ((j,v) :: r)=YP f cells v (f j) r:=rfl
@[go_sem] theorem aci {p:PV} :fA (.pv p)=true:=rfl
@[go_sem] theorem aau:fA .emp=true:=rfl
@[go_sem] theorem aav {r n:Nat} :fA (.own r n)=true:=rfl
@[go_sem] theorem aaw {r n:Nat} :fA (.ptr r n)=true:=rfl
@[go_sem] theorem VI {t:TypeId}{n:Nat}{parts:Array (Nat×Operand)} :vo P ops nx dr U K log ⟨d,.buildSlice t n parts,ty,pos,sS,gd⟩ l i env σ=vD P ops nx dr U K log d l i env σ (dBs (aQ P t) n (ev env) parts.toList):=rfl
@[go_sem] theorem aha {t:TypeId}{x:Operand} :vo P ops nx dr U K log ⟨d,.load t x,ty,pos,sS,gd⟩ l i env σ=vD P ops nx dr U K log d l i env σ ((ev env x).bind (ja P σ t)):=rfl
@[go_sem] theorem aed {t:TypeId}{x y:Operand} :vo P ops nx dr U K log ⟨none,.store t x y,ty,pos,sS,gd⟩ l i env σ=vD P ops nx dr U K log none l i env σ ((ev env x).bind fun a=>(ev env y).bind fun v=>fZ P σ t a v):=rfl
@[go_sem] theorem YQ {x:Operand} :vo P ops nx dr U K log ⟨d,.nilCheck x,ty,pos,sS,gd⟩ l i env σ=vD P ops nx dr U K log d l i env σ ((ev env x).bind fun v=>if TE v=true then some (.val v) else none):=rfl
def nS (P:Program)(t:TypeId)(op:BinOp)(x y:Option AV):Option DO:=
 match x,y with
 |
  some (.pv (.sc a)),some (.pv (.sc b))=>match oU op a b with
  | some (p,v)=>some (.chk p (.pv (.sc v)))
  | none=>(TF P t op a b).map fun v=> .val (.pv (.sc v))
 | _,_=>none
@[go_sem] theorem aee {op:BinOp}{t t':TypeId}{x y:Operand} :vo P ops nx dr U K log ⟨d,.binOp op t x y t',ty,pos,sS,gd⟩ l i env σ=vD P ops nx dr U K log d l i env σ (nS P t op (ev env x) (ev env y)):=rfl
variable {t : TypeId} {k : IntKind} {a b : Int} {s s' : ByteArray} {p q : Bool}
abbrev iv (k:IntKind)(n:Int):Option AV:=some (.pv (.sc (.int k n)))
theorem gK {op:BinOp}{p:Prop}{v:Value}(h:oU op (.int k a) (.int k b)=some (p,v)):nS P t op (iv k a) (iv k b)=some (.chk p (.pv (.sc v))):=by simp only[nS,iv,h]
@[go_sem] theorem aef:nS P t .add (some (.pv (.sc (.int k a)))) (some (.pv (.sc (.int k b))))=some (.val (.pv (.sc (.int k (k.wrap (a+b)))))):=gK (p:=True) (v:= .int k (k.wrap (a+b))) (by simp[oU])
@[go_sem] theorem aeg:nS P t .sub (some (.pv (.sc (.int k a)))) (some (.pv (.sc (.int k b))))=some (.val (.pv (.sc (.int k (k.wrap (a - b)))))):=gK (p:=True) (v:= .int k (k.wrap (a - b))) (by simp[oU])
@[go_sem] theorem aeh:nS P t .mul (some (.pv (.sc (.int k a)))) (some (.pv (.sc (.int k b))))=some (.val (.pv (.sc (.int k (k.wrap (a * b)))))):=gK (p:=True) (v:= .int k (k.wrap (a * b))) (by simp[oU])
@[go_sem] theorem aei:nS P t .quo (some (.pv (.sc (.int k a)))) (some (.pv (.sc (.int k b))))=some (.chk (b≠0) (.pv (.sc (.int k (k.wrap (a.tdiv b)))))):=gK (by simp[oU])
@[go_sem] theorem aej:nS P t .rem (some (.pv (.sc (.int k a)))) (some (.pv (.sc (.int k b))))=some (.chk (b≠0) (.pv (.sc (.int k (a.tmod b))))):=gK (by simp[oU])
@[go_sem] theorem aek:nS P t .eql (some (.pv (.sc (.int k a)))) (some (.pv (.sc (.int k b))))=some (.val (.pv (.sc (.bool (a==b))))):=gK (p:=True) (v:= .bool (a==b)) (by simp[oU])
@[go_sem] theorem ael:nS P t .neq (some (.pv (.sc (.int k a)))) (some (.pv (.sc (.int k b))))=some (.val (.pv (.sc (.bool (a !=b))))):=gK (p:=True) (v:= .bool (a !=b)) (by simp[oU])
@[go_sem] theorem aem:nS P t .lss (some (.pv (.sc (.int k a)))) (some (.pv (.sc (.int k b))))=some (.val (.pv (.sc (.bool (decide (a < b)))))):=gK (p:=True) (v:= .bool (decide (a < b))) (by simp[oU])
@[go_sem] theorem aen:nS P t .leq (some (.pv (.sc (.int k a)))) (some (.pv (.sc (.int k b))))=some (.val (.pv (.sc (.bool (decide (a≤b)))))):=gK (p:=True) (v:= .bool (decide (a≤b))) (by simp[oU])
@[go_sem] theorem aeo:nS P t .gtr (some (.pv (.sc (.int k a)))) (some (.pv (.sc (.int k b))))=some (.val (.pv (.sc (.bool (decide (b < a)))))):=gK (p:=True) (v:= .bool (decide (b < a))) (by simp[oU])
@[go_sem] theorem aep:nS P t .geq (some (.pv (.sc (.int k a)))) (some (.pv (.sc (.int k b))))=some (.val (.pv (.sc (.bool (decide (b≤a)))))):=gK (p:=True) (v:= .bool (decide (b≤a))) (by simp[oU])
@[go_sem] theorem aeq:nS P t .eql (some (.pv (.sc (.string s)))) (some (.pv (.sc (.string s'))))=some (.val (.pv (.sc (.bool (s.toList==s'.toList))))):=rfl
@[go_sem] theorem aer:nS P t .neq (some (.pv (.sc (.string s)))) (some (.pv (.sc (.string s'))))=some (.val (.pv (.sc (.bool (!(s.toList==s'.toList)))))):=rfl
@[go_sem] theorem aes:nS P t .neq (some (.pv (.sc (.bool p)))) (some (.pv (.sc (.bool q))))=if Hu P t=true then some (.val (.pv (.sc (.bool (!(p==q)))))) else none:=by simp only[nS,oU,TF];split <;> rfl
def dUn (op:UnOp)(x:Option AV):Option DO:=
 match op,x with
 | .not,some (.pv (.sc (.bool b)))=>some (.val (.pv (.sc (.bool (!b)))))
 | .neg,some (.pv (.sc (.int k n)))=>some (.val (.pv (.sc (.int k (k.wrap (0 - n))))))
 | _,_=>none
@[go_sem] theorem ahb:dUn .not (some (.pv (.sc (.bool p))))=some (.val (.pv (.sc (.bool (!p))))):=rfl
@[go_sem] theorem ahc {op:UnOp}{x:Operand} :vo P ops nx dr U K log ⟨d,.unOp op t x,ty,pos,sS,gd⟩ l i env σ=vD P ops nx dr U K log d l i env σ (dUn op (ev env x)):=rfl
def YR (s t:Option IntKind)(x:Option AV):Option DO:=
 match s,t,x with
 | some _,some k',some (.pv (.sc (.int k n)))=>some (.val (.pv (.sc (.int k' (k'.wrap n)))))
 | _,_,_=>none
@[go_sem] theorem aax {k0 k':IntKind} :YR (some k0) (some k') (some (.pv (.sc (.int k a))))=some (.val (.pv (.sc (.int k' (k'.wrap a))))):=rfl
@[go_sem] theorem aay {s t:TypeId}{x:Operand} :vo P ops nx dr U K log ⟨d,.convert s t x,ty,pos,sS,gd⟩ l i env σ=vD P ops nx dr U K log d l i env σ (YR (Ec P s) (Ec P t) (ev env x)):=rfl
def TG (el:Option (TypeId×Nat×Nat))(z:TypeId→Option (List AV))(x y:Option AV):Option DO:=
 match el,x,y with
 | some (el,k,_),some (.pv (.sc (.int ik n))),some (.pv (.sc (.int ik' n')))=>if n=n' then ((z el).bind rW).map fun cts=> .chk (0≤n∧n≤100000) (.pv (.tr cts n.toNat)) else none
 | _,_,_=>none
@[go_sem] theorem aaz {el kk bb:Nat}{z:TypeId→Option (List AV)}{k k':IntKind} :TG (some (el,kk,bb)) z (some (.pv (.sc (.int k a)))) (some (.pv (.sc (.int k' a))))=((z el).bind rW).map fun cts=> .chk (0≤a∧a≤100000) (.pv (.tr cts a.toNat)):=by simp[TG]
@[go_sem] theorem ahd {x y:Operand} :vo P ops nx dr U K log ⟨d,.makeSlice t x y,ty,pos,sS,gd⟩ l i env σ=vD P ops nx dr U K log d l i env σ (TG (aQ P t) (dn P) (ev env x) (ev env y)):=rfl
@[go_sem] theorem aeu {x:Operand}{lo hi:Option Operand} :vo P ops nx dr U K log ⟨d,.slice t x lo hi none,ty,pos,sS,gd⟩ l i env σ=vD P ops nx dr U K log d l i env σ ((ev env x).bind fun a=>kD P (ev env) σ (nx+8 * i) t a lo hi):=rfl
def aev (f:Option Nat)(x:Option AV):Option DO:=
 match f,x with
 | some off,some v=>(KX off v).map DO.val
 | _,_=>none
@[go_sem] theorem acj {off:Nat}{v:AV} :aev (some off) (some v)=(KX off v).map DO.val:=rfl
@[go_sem] theorem WV {x:Operand}{j:Nat} :vo P ops nx dr U K log ⟨d,.fieldAddr t x j,ty,pos,sS,gd⟩ l i env σ=vD P ops nx dr U K log d l i env σ (aev (aU P t j) (ev env x)):=rfl
def dIx (P:Program)(σ:Sto)(t:TypeId)(x y:Option AV):Option DO:=
 match x,y with
 | some a,some (.pv (.sc (.int _ i)))=>nO P σ t a i
 | _,_=>none
@[go_sem] theorem aew {v:AV} :dIx P σ t (some v) (some (.pv (.sc (.int k a))))=nO P σ t v a:=rfl
@[go_sem] theorem WW {x y:Operand} :vo P ops nx dr U K log ⟨d,.indexAddr t x y,ty,pos,sS,gd⟩ l i env σ=vD P ops nx dr U K log d l i env σ (dIx P σ t (ev env x) (ev env y)):=rfl
def dIs (st:Bool)(x y:Option AV):Option DO:=
 match x,y with
 | some (.pv (.sc (.string s))),some (.pv (.sc (.int _ i)))=>if st=true then some (.chk (0≤i∧i < s.size) (.pv (.sc (.int .u8 ((s[i.toNat]?).getD 0).toNat)))) else none
 | _,_=>none
@[go_sem] theorem aex:dIs true (some (.pv (.sc (.string s)))) (some (.pv (.sc (.int k a))))=some (.chk (0≤a∧a < s.size) (.pv (.sc (.int .u8 ((s[a.toNat]?).getD 0).toNat)))):=rfl
@[go_sem] theorem aey {x y:Operand} :vo P ops nx dr U K log ⟨d,.index t x y,ty,pos,sS,gd⟩ l i env σ=vD P ops nx dr U K log d l i env σ (dIs (KY P t) (ev env x) (ev env y)):=rfl
def dEx (x:Option AV)(j:Nat):Option DO:=
 match x with
 | some (.tup vs)=>(vs[j]?).map DO.val
 | _=>none
@[go_sem] theorem aez {vs:List AV}{j:Nat} :dEx (some (.tup vs)) j=(vs[j]?).map DO.val:=rfl
@[go_sem] theorem aaA {x:Operand}{j:Nat} :vo P ops nx dr U K log ⟨d,.extract x j,ty,pos,sS,gd⟩ l i env σ=vD P ops nx dr U K log d l i env σ (dEx (ev env x) j):=rfl
@[go_sem] theorem ajI {x:Operand} :vo P ops nx dr U K log ⟨d,.call { callee:= .builtin .len,args:=#[x],argTypes:=#[t] },ty,pos,sS,gd⟩ l i env σ=vD P ops nx dr U K log d l i env σ ((ev env x).bind fun v=>(lenOf P t v).map fun (n:Nat)=>DO.val (.pv (.sc (.int .i64 (n:Int))))):=by
 show vD P ops nx dr U K log d l i env σ _=_;congr 1;simp only[dop,nH]
 cases ev env x <;> rfl
def aaB (x y:Option AV):Option DO:=
 match x,y with
 | some (.pv (.sc (.int k a))),some (.pv (.sc (.int k' b)))=>if k=k' then some (.val (.pv (.sc (.int k (if b > a then b else a))))) else none
 | _,_=>none
@[go_sem] theorem ack:aaB (some (.pv (.sc (.int k a)))) (some (.pv (.sc (.int k b))))=some (.val (.pv (.sc (.int k (if a < b then b else a))))):=by simp[aaB]
@[go_sem] theorem ajJ {x y:Operand}{ats:Array TypeId} :vo P ops nx dr U K log ⟨d,.call { callee:= .builtin .max,args:=#[x,y],argTypes:=ats },ty,pos,sS,gd⟩ l i env σ=vD P ops nx dr U K log d l i env σ (aaB (ev env x) (ev env y)):=rfl
def KZ (b:Bool)(P:Program)(σ:Sto)(lab:Nat)(t:TypeId)(x y:AV):Option DO:=
 match b with
 | true=>Dh P t x y
 | false=>nV P σ lab t x y
theorem WX {b:Bool}{x y:AV}{lab:Nat} :KZ b P σ lab t x y=if b=true then Dh P t x y else nV P σ lab t x y:=by cases b <;> rfl
@[go_sem] theorem ajK {x y:AV}{lab:Nat} :KZ false P σ lab t x y=nV P σ lab t x y:=rfl
def TI (el:Option (TypeId×Nat×Nat))(ys:List (List PV)):Option DO:=
 match el with
 | some (_,k,_)=>some (.chk (ys.length≤1000000∧∀row∈ys,row.length=k) (.pv (.sl ys)))
 | none=>none
@[go_sem] theorem acm {el kk bb:Nat}{ys:List (List PV)} :TI (some (el,kk,bb)) ys=some (.chk (ys.length≤1000000∧∀row∈ys,row.length=kk) (.pv (.sl ys))):=rfl
@[go_sem] theorem ajL {ys:List (List PV)}{lab:Nat} :KZ true P σ lab t .emp (.pv (.sl ys))=TI (aQ P t) ys:=by
 unfold KZ Dh TI
 cases aQ P t with
 | none=>rfl
 | some q=>obtain ⟨x1,x2,x3⟩:=q;rfl
@[go_sem] theorem ahe {lab:Nat} :KZ true P σ lab t .emp .emp=TI (aQ P t) []:=by
 unfold KZ Dh TI
 cases aQ P t with
 | none=>rfl
 | some q=>obtain ⟨x1,x2,x3⟩:=q;rfl
@[go_sem] theorem acn {x y:Operand} :vo P ops nx dr U K log ⟨d,.call { callee:= .builtin .append,args:=#[x,y],argTypes:=#[t,t] },ty,pos,sS,gd⟩ l i env σ=vD P ops nx dr U K log d l i env σ ((ev env x).bind fun a=>(ev env y).bind fun b=>KZ (fzA x y) P σ (nx+8 * i) t a b):=by
 show vD P ops nx dr U K log d l i env σ _=_;congr 1;simp only[dop,nH]
 cases ev env x <;> cases ev env y <;> simp[WX]
@[go_sem] theorem ahf {i j:Nat} :fzA (.tmp i) (.tmp j)=if i=31 then (if j=37 then true else false) else if i=23 then (if j=28 then true else false) else if i=123 then (if j=124 then true else false) else false:=rfl
@[go_sem] theorem ahg {f:FuncId}{args:Array Operand}{ats:Array TypeId} :vo P ops nx dr U K log ⟨d,.call { callee:= .value (.func f),args:=args,argTypes:=ats },ty,pos,sS,gd⟩ l i env σ=jO P dr f nx i (args.toList.map (ev env)) σ (fun v G key=>Aq nx U i key log∧vS P ops nx dr U K (Pm U i key log) l (i+1) (env.put d v) (σ.upds G)):=rfl
@[go_sem] theorem ajN {t:Nat} :ev env (.tmp t)=env t:=rfl
@[go_sem] theorem ajO:ev env (.const (.int k a))=some (.pv (.sc (.int k a))):=rfl
@[go_sem] theorem ahh:ev env (.const (.bool p))=some (.pv (.sc (.bool p))):=rfl
@[go_sem] theorem aco:ev env (.const (.string s))=some (.pv (.sc (.string s))):=rfl
@[go_sem] theorem ajP:ev env (.const (.slice none 0 0))=some .emp:=rfl
@[go_sem] theorem ajQ {l:List Value} :ev env (.const (.agg l.toArray))=if l.all (·.oneCell')=true then some (.agg (l.map Ns)) else none:=by
 show (if l.toArray.all (·.oneCell')=true then _ else none)=_;rw[List.all_toArray]
@[go_sem] theorem ajR:Value.oneCell' (.int k a)=true:=rfl
@[go_sem] theorem ajS:Value.oneCell' (.string s)=true:=rfl
@[go_sem] theorem ajT:Value.oneCell' (.slice none 0 0)=true:=rfl
@[go_sem] theorem ahi:Ns (.slice none 0 0)= .emp:=rfl
@[go_sem] theorem ahj:Ns (.int k a)= .pv (.sc (.int k a)):=rfl
@[go_sem] theorem aaC:Ns (.string s)= .pv (.sc (.string s)):=rfl
@[go_sem] theorem aeA {e t:Nat}{v:AV} :(env.put (some e) v) t=if t=e then some v else env t:=rfl
@[go_sem] theorem aeB {v:AV} :env.put none v=env:=rfl
@[go_sem] theorem aaD {e:Nat}{v:AV}{r:List (Nat×AV)} :iF ((e,v) :: r)=(iF r).put (some e) v:=rfl
@[go_sem] theorem acp {t:Nat} :iF [] t=none:=rfl
@[go_sem] theorem acr {e:Nat}{o:Option Obj}{r:List (Nat×Option Obj)} :σ.upds ((e,o) :: r)=(σ.upd e o).upds r:=rfl
@[go_sem] theorem aeC:σ.upds []=σ:=rfl
@[go_sem] theorem ahk {e t:Nat}{o:Option Obj} :(σ.upd e o) t=if t=e then o else σ t:=rfl
@[go_sem] theorem ahl {key:Key} :Pm [] i key log=log:=rfl
@[go_sem] theorem aeD {key:Key} :Aq nx U i key []=True:=by simp[Aq]
@[go_sem] theorem aeE {off e j:Nat} :KX off (.ptr e j)=some (.ptr e (j+off)):=rfl
@[go_sem] theorem ahm {off r n j e:Nat} :KX off (.rp r n j e)=some (.rp r n j (e+off)):=rfl
@[go_sem] theorem ahn {off j:Nat}{row:List PV} :KX off (.fp row j)=some (.fp row (j+off)):=rfl
@[go_sem] theorem aho {off j:Nat}{cts:List CT} :KX off (.tp cts j)=some (.tp cts (j+off)):=rfl
@[go_sem] theorem acs {e j:Nat} :TE (.ptr e j)=true:=rfl
@[go_sem] theorem aeF {els:List (List PV)} :lenOf P t (.pv (.sl els))=if (aQ P t).isSome=true then some els.length else none:=rfl
@[go_sem] theorem acu {r n:Nat} :lenOf P t (.own r n)=if (aQ P t).isSome=true then some n else none:=rfl
@[go_sem] theorem aeG {cts:List CT}{n:Nat} :lenOf P t (.pv (.tr cts n))=if (aQ P t).isSome=true then some n else none:=rfl
@[go_sem] theorem acv:lenOf P t (.pv (.sc (.string s)))=if KY P t=true then some s.size else none:=rfl
def TJ (el:Option (TypeId×Nat×Nat))(els:List (List PV))(i:Int):Option DO:=
 match el with
 | some (_,k,_)=>some (.row els i k)
 | none=>none
@[go_sem] theorem aaE {el kk bb:Nat}{els:List (List PV)} :TJ (some (el,kk,bb)) els a=some (.row els a kk):=rfl
@[go_sem] theorem ahp {els:List (List PV)} :nO P σ t (.pv (.sl els)) a=TJ (aQ P t) els a:=by
 unfold nO TJ
 cases aQ P t <;> rfl
def TK (el:Option (TypeId×Nat×Nat))(o:Option Obj)(r n:Nat)(i:Int):Option DO:=
 match el,o with
 | some (_,k,_),some (.row ty k' els)=>if k'=k∧els.length=n then some (.eff (0≤i∧i < n) (.rp r k i.toNat 0) [r] []) else none
 | _,_=>none
@[go_sem] theorem aaF {el kk bb r n ty k':Nat}{els:List (List PV)} :TK (some (el,kk,bb)) (some (.row ty k' els)) r n a=if k'=kk∧els.length=n then some (.eff (0≤a∧a < n) (.rp r kk a.toNat 0) [r] []) else none:=rfl
@[go_sem] theorem aeH {r n:Nat} :nO P σ t (.own r n) a=TK (aQ P t) (σ r) r n a:=by
 unfold nO TK
 cases aQ P t with
 | none=>rfl
 |
  some q=>
  obtain⟨x1,x2,x3⟩:=q;dsimp only
  cases σ r with
  | none=>rfl
  | some o=>cases o <;> rfl
def TL (el:Option (TypeId×Nat×Nat))(cts:List CT)(n:Nat)(i:Int):Option DO:=
 match el with
 | some (_,k,_)=>if cts.length=k then some (.chk (0≤i∧i < n) (.tp cts 0)) else none
 | none=>none
@[go_sem] theorem aaG {el kk bb n:Nat}{cts:List CT} :TL (some (el,kk,bb)) cts n a=if cts.length=kk then some (.chk (0≤a∧a < n) (.tp cts 0)) else none:=rfl
@[go_sem] theorem ahq {cts:List CT}{n:Nat} :nO P σ t (.pv (.tr cts n)) a=TL (aQ P t) cts n a:=by
 unfold nO TL
 cases aQ P t <;> rfl
def aaH (ly:Option (Bool×Nat))(o:Option Obj)(e off:Nat):Option DO:=
 match ly,o with
 | some (g,k),some (.box cs)=>(uh g k cs off).map fun v=> .eff True v [e] []
 | _,_=>none
@[go_sem] theorem acw {g:Bool}{kk e off:Nat}{cs:List AV} :aaH (some (g,kk)) (some (.box cs)) e off=(uh g kk cs off).map fun v=> .eff True v [e] []:=rfl
@[go_sem] theorem acx {e off:Nat} :ja P σ t (.ptr e off)=aaH (lay P t) (σ e) e off:=by
 unfold ja aaH
 cases lay P t with
 | none=>rfl
 |
  some q=>
  obtain⟨x1,x2⟩:=q;dsimp only
  cases σ e with
  | none=>rfl
  | some o=>cases o <;> rfl
def aaI (ly:Option (Bool×Nat))(row:List PV)(off:Nat):Option DO:=
 match ly with
 | some (g,k)=>(uh g k (row.map .pv) off).map DO.val
 | none=>none
@[go_sem] theorem acy {g:Bool}{kk off:Nat}{row:List PV} :aaI (some (g,kk)) row off=(uh g kk (row.map .pv) off).map DO.val:=rfl
@[go_sem] theorem aeI {row:List PV}{off:Nat} :ja P σ t (.fp row off)=aaI (lay P t) row off:=by
 unfold ja aaI
 cases lay P t <;> rfl
def aaJ (ly:Option (Bool×Nat))(o:Option Obj)(r k' j off:Nat):Option DO:=
 match ly,o with
 | some (g,k),some (.row ty k2 els)=>if k2=k' then some (.ld els j g k off r) else none
 | _,_=>none
@[go_sem] theorem acz {g:Bool}{kk r k' j off ty k2:Nat}{els:List (List PV)} :aaJ (some (g,kk)) (some (.row ty k2 els)) r k' j off=if k2=k' then some (.ld els j g kk off r) else none:=rfl
@[go_sem] theorem aeJ {r k' j off:Nat} :ja P σ t (.rp r k' j off)=aaJ (lay P t) (σ r) r k' j off:=by
 unfold ja aaJ
 cases lay P t with
 | none=>rfl
 |
  some q=>
  obtain⟨x1,x2⟩:=q;dsimp only
  cases σ r with
  | none=>rfl
  | some o=>cases o <;> rfl
def TM (ly:Option (Bool×Nat))(cts:List CT)(j:Nat):Option DO:=
 match ly with
 | some (g,k)=>if g=false then (cts[j]?).map fun ct=> .tyc ct else if j=0∧k=cts.length then some (.tys cts) else none
 | none=>none
@[go_sem] theorem aeK {kk:Nat}{cts:List CT} :TM (some (true,kk)) cts 0=if kk=cts.length then some (.tys cts) else none:=by simp[TM]
@[go_sem] theorem acA {kk j:Nat}{cts:List CT} :TM (some (false,kk)) cts j=(cts[j]?).map fun ct=> .tyc ct:=rfl
@[go_sem] theorem aeL {cts:List CT}{j:Nat} :ja P σ t (.tp cts j)=TM (lay P t) cts j:=by
 unfold ja TM
 cases lay P t <;> rfl
@[go_sem] theorem ahr {kk off:Nat}{cs:List AV} :uh false kk cs off=cs[off]?:=rfl
@[go_sem] theorem ahs {kk off:Nat}{cs:List AV} :uh true kk cs off=if off+kk≤cs.length then some (.agg ((cs.drop off).take kk)) else none:=rfl
def aaK (ly:Option (Bool×Nat))(o:Option Obj)(e off:Nat)(v:AV):Option DO:=
 match ly,o with
 | some (g,k),some (.box cs)=>if (aW v).length=k∧(aW v).all fA=true∧off+k≤cs.length then some (.eff True .emp [] [(e,some (.box (fF cs off (aW v))))]) else none
 | _,_=>none
@[go_sem] theorem acB {g:Bool}{kk e off:Nat}{cs:List AV}{v:AV} :aaK (some (g,kk)) (some (.box cs)) e off v=if (aW v).length=kk∧(aW v).all fA=true∧off+kk≤cs.length then some (.eff True .emp [] [(e,some (.box (fF cs off (aW v))))]) else none:=rfl
@[go_sem] theorem aaL {e off:Nat}{v:AV} :fZ P σ t (.ptr e off) v=aaK (lay P t) (σ e) e off v:=by
 unfold fZ aaK
 cases lay P t with
 | none=>rfl
 |
  some q=>
  obtain⟨x1,x2⟩:=q;dsimp only
  cases σ e with
  | none=>rfl
  | some o=>cases o <;> rfl
def aaM (ly:Option (Bool×Nat))(o:Option Obj)(ps:Option (List PV))(r k' j off:Nat):Option DO:=
 match ly,o,ps with
 | some (g,k),some (.row ty k2 els),some ps=>if k2=k'∧ps.length=k∧off+k≤k' then some (.eff (j < els.length) .emp [] [(r,some (.row ty k' (els.modify j (fun row=>fF row off ps))))]) else none
 | _,_,_=>none
@[go_sem] theorem acC {g:Bool}{kk r k' j off ty k2:Nat}{els:List (List PV)}{ps:List PV} :aaM (some (g,kk)) (some (.row ty k2 els)) (some ps) r k' j off=if k2=k'∧ps.length=kk∧off+kk≤k' then some (.eff (j < els.length) .emp [] [(r,some (.row ty k' (els.modify j (fun row=>fF row off ps))))]) else none:=rfl
@[go_sem] theorem acD {r k' j off:Nat}{v:AV} :fZ P σ t (.rp r k' j off) v=aaM (lay P t) (σ r) (qy (aW v)) r k' j off:=by
 unfold fZ aaM
 cases lay P t with
 | none=>rfl
 |
  some q=>
  obtain⟨x1,x2⟩:=q;dsimp only
  cases σ r with
  | none=>cases qy (aW v) <;> rfl
  | some o=>cases o <;> cases qy (aW v) <;> rfl
def aaN (ly:Option (Bool×Nat))(ct:Option CT)(p:Option PV):Option DO:=
 match ly,ct,p with
 | some (false,1),some ct,some p=>some (.eff (ct.ok p) .emp [] [])
 | _,_,_=>none
@[go_sem] theorem acE {ct:CT}{p:PV} :aaN (some (false,1)) (some ct) (some p)=some (.eff (ct.ok p) .emp [] []):=rfl
@[go_sem] theorem acF {cts:List CT}{j:Nat}{v:AV} :fZ P σ t (.tp cts j) v=aaN (lay P t) cts[j]? (toP v):=by
 unfold fZ aaN
 cases lay P t with
 | none=>rfl
 |
  some q=>
  obtain⟨g,kk⟩:=q;dsimp only
  cases g
  · by_cases hk:kk=1
    · subst hk;simp only[and_self,if_true]
      cases cts[j]? <;> cases toP v <;> rfl
    · rw[if_neg (fun h=>hk h.2)];split <;> first | rfl | (rename_i h1 h2;simp_all)
  · rw[if_neg (fun h=>by cases h.1)]
def dAp (el:Option (TypeId×Nat×Nat))(o:Option Obj)(ys:Option PV)(lab r n:Nat):Option DO:=
 match el,o,ys with
 | some (el,k,_),some (.row ty k' els),some (.sl ys)=>if (k'=k∧ty=el)∧els.length=n then some (.eff (n+ys.length≤1000000∧∀row∈ys,row.length=k) (.own lab (n+ys.length)) [] [(r,none),(lab,some (.row ty k' (els++ys)))]) else none
 | _,_,_=>none
@[go_sem] theorem aeM {el kk bb lab r n ty k':Nat}{els ys:List (List PV)} :dAp (some (el,kk,bb)) (some (.row ty k' els)) (some (.sl ys)) lab r n=if (k'=kk∧ty=el)∧els.length=n then some (.eff (n+ys.length≤1000000∧∀row∈ys,row.length=kk) (.own lab (n+ys.length)) [] [(r,none),(lab,some (.row ty k' (els++ys)))]) else none:=rfl
@[go_sem] theorem aeN {lab r n:Nat}{v:AV} :nV P σ lab t (.own r n) v=dAp (aQ P t) (σ r) (toP v) lab r n:=by
 unfold nV dAp
 cases aQ P t with
 | none=>rfl
 |
  some q=>
  obtain⟨x1,x2,x3⟩:=q;dsimp only
  cases σ r with
  | none=>cases toP v <;> rfl
  |
   some o=>cases o <;> (cases toP v with
   | none=>rfl
   | some p=>cases p <;> rfl)
def WY (el:Option (TypeId×Nat×Nat))(ys:PV)(lab:Nat):Option DO:=
 match el,ys with
 | some (el,k,_),.sl ys=>some (.eff (ys.length≤1000000∧∀row∈ys,row.length=k) (.own lab ys.length) [] [(lab,some (.row el k ys))])
 | some (el,k,_),.tr cts n=>if cts.length=k then some (.chk (n≤1000000) (.pv (.tr cts n))) else none
 | _,_=>none
@[go_sem] theorem aht {el kk bb lab:Nat}{ys:List (List PV)} :WY (some (el,kk,bb)) (.sl ys) lab=some (.eff (ys.length≤1000000∧∀row∈ys,row.length=kk) (.own lab ys.length) [] [(lab,some (.row el kk ys))]):=rfl
@[go_sem] theorem ahu {el kk bb lab n:Nat}{cts:List CT} :WY (some (el,kk,bb)) (.tr cts n) lab=if cts.length=kk then some (.chk (n≤1000000) (.pv (.tr cts n))) else none:=rfl
@[go_sem] theorem aeO {lab:Nat}{p:PV} :nV P σ lab t .emp (.pv p)=WY (aQ P t) p lab:=by
 unfold nV WY
 cases aQ P t with
 | none=>rfl
 |
  some q=>
  obtain⟨x1,x2,x3⟩:=q
  cases p <;> rfl
def aaO (el:Option (TypeId×Nat×Nat))(els:List (List PV))(lo hi:Option Int):Option DO:=
 match el,lo,hi with
 | some (_,k,_),some l,some h=>some (.chk (0≤l∧l≤h∧h≤els.length∧∀row∈els,row.length=k) (.pv (.sl ((els.take h.toNat).drop l.toNat))))
 | _,_,_=>none
@[go_sem] theorem acG {el kk bb:Nat}{els:List (List PV)} :aaO (some (el,kk,bb)) els (some a) (some b)=some (.chk (0≤a∧a≤b∧b≤els.length∧∀row∈els,row.length=kk) (.pv (.sl ((els.take b.toNat).drop a.toNat)))):=rfl
@[go_sem] theorem aeP {e:Operand→Option AV}{lab:Nat}{els:List (List PV)}{lo hi:Option Operand} :kD P e σ lab t (.pv (.sl els)) lo hi=aaO (aQ P t) els (wR e lo 0) (wR e hi els.length):=by
 unfold kD aaO
 cases aQ P t with
 | none=>rfl
 |
  some q=>
  obtain⟨x1,x2,x3⟩:=q;dsimp only
  cases wR e lo 0 <;> cases wR e hi els.length <;> rfl
def aaP (el:Option (TypeId×Nat×Nat))(o:Option Obj)(hi:Option Int)(lab r n:Nat):Option DO:=
 match el,o,hi with
 | some _,some (.row ty k' els),some h=>if els.length=n then some (.eff (0≤h∧h≤n) (.own lab h.toNat) [] [(r,none),(lab,some (.row ty k' (els.take h.toNat)))]) else none
 | _,_,_=>none
@[go_sem] theorem acH {q:TypeId×Nat×Nat}{ty k' lab r n:Nat}{els:List (List PV)} :aaP (some q) (some (.row ty k' els)) (some a) lab r n=if els.length=n then some (.eff (0≤a∧a≤n) (.own lab a.toNat) [] [(r,none),(lab,some (.row ty k' (els.take a.toNat)))]) else none:=rfl
@[go_sem] theorem acI {e:Operand→Option AV}{lab r n:Nat}{hi:Option Operand} :kD P e σ lab t (.own r n) none hi=aaP (aQ P t) (σ r) (wR e hi n) lab r n:=by
 unfold kD aaP
 cases aQ P t with
 | none=>rfl
 |
  some q=>
  obtain⟨x1,x2,x3⟩:=q;dsimp only
  cases σ r with
  | none=>cases wR e hi n <;> rfl
  | some o=>cases o <;> cases wR e hi n <;> rfl
def aeQ (x:Option AV):Option Int:=
 match x with
 | some (.pv (.sc (.int _ i)))=>some i
 | _=>none
@[go_sem] theorem acJ:aeQ (some (.pv (.sc (.int k a))))=some a:=rfl
@[go_sem] theorem aeR {e:Operand→Option AV} :wR e none a=some a:=rfl
@[go_sem] theorem aeS {e:Operand→Option AV}{x:Operand} :wR e (some x) a=aeQ (e x):=rfl
@[go_sem] theorem aeT {o:Array Oper}{g:Nat} :NQ o g=(o[g]?).bind (·.dst):=rfl
end
