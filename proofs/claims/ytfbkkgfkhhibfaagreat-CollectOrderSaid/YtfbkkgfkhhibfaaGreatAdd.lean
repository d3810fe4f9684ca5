/- Words. -/
import Derived.Test.YtfbkkgfkhhibfaaGreatAde
set_option linter.unusedVariables false
set_option linter.unusedSimpArgs false
namespace AM
open Go Go.RowKit
def KY (P:Program)(t:TypeId):Bool:=
 match P.underlying t with
 | some .string=>true
 | _=>false
def lenOf (P:Program)(t:TypeId):AV→Option Nat
 | .pv (.sl els)=>if (aQ P t).isSome=true then some els.length else none
 | .own _ n=>if (aQ P t).isSome=true then some n else none
 | .pv (.tr _ n)=>if (aQ P t).isSome=true then some n else none
 | .emp=>if (aQ P t).isSome=true then some 0 else none
 | .pv (.sc (.string s))=>if KY P t=true then some s.size else none
 | _=>none
def KX (off:Nat):AV→Option AV
 | .ptr l o=>some (.ptr l (o+off))
 | .rp r k i o=>some (.rp r k i (o+off))
 | .fp row o=>some (.fp row (o+off))
 | .tp cts j=>some (.tp cts (j+off))
 | _=>none
def TE:AV→Bool
 | .ptr .. | .rp .. | .fp .. | .tp .. =>true
 | _=>false
def ja (P:Program)(σ:Sto)(t:TypeId)(v:AV):Option DO:=
 match lay P t,v with
 |
  some (g,k),.ptr l off=>match σ l with
  | some (.box cs)=>(uh g k cs off).map fun v=>⟨True,fun u=>u=v,[l],true,[]⟩
  | _=>none
 | some (g,k),.fp row off=>(uh g k (row.map .pv) off).map DO.val
 |
  some (g,k),.rp r k' i off=>match σ r with
  | some (.row ty k2 els)=>if k2=k' then some ⟨∃row v,els[i]?=some row∧uh g k (row.map .pv) off=some v,fun u=>∃row,els[i]?=some row∧uh g k (row.map .pv) off=some u,[r],true,[]⟩ else none
  | _=>none
 | some (g,k),.tp cts j=>if g=false then (cts[j]?).map fun ct=>⟨True,fun u=>∃p,ct.ok p∧u= .pv p,[],false,[]⟩ else if j=0∧k=cts.length then some ⟨True,fun u=>∃ps,TB cts ps∧u= .agg (ps.map .pv),[],false,[]⟩ else none
 | _,_=>none
def fZ (P:Program)(σ:Sto)(t:TypeId)(a v:AV):Option DO:=
 match lay P t,a with
 |
  some (g,k),.ptr l off=>match σ l with
  | some (.box cs)=>if (aW v).length=k∧(aW v).all fA=true∧off+k≤cs.length then some ⟨True,fun u=>u= .emp,[],true,[(l,some (.box (fF cs off (aW v))))]⟩ else none
  | _=>none
 |
  some (g,k),.rp r k' i off=>match σ r,qy (aW v) with
  | some (.row ty k2 els),some ps=>if k2=k'∧ps.length=k∧off+k≤k' then some ⟨i < els.length,fun u=>u= .emp,[],true,[(r,some (.row ty k' (els.modify i (fun row=>fF row off ps))))]⟩ else none
  | _,_=>none
 |
  some (g,k),.tp cts j=>if g=false∧k=1 then match cts[j]?,toP v with
  | some ct,some p=>some ⟨ct.ok p,fun u=>u= .emp,[],true,[]⟩
  | _,_=>none else none
 | _,_=>none
def nO (P:Program)(σ:Sto)(t:TypeId)(a:AV)(i:Int):Option DO:=
 match aQ P t,a with
 | some (_,k,_),.pv (.sl els)=>some ⟨0≤i∧∃row,els[i.toNat]?=some row∧row.length=k,fun u=>∃row,els[i.toNat]?=some row∧u= .fp row 0,[],true,[]⟩
 |
  some (_,k,_),.own r n=>match σ r with
  | some (.row ty k' els)=>if k'=k∧els.length=n then some ⟨0≤i∧i < n,fun u=>u= .rp r k i.toNat 0,[r],true,[]⟩ else none
  | _=>none
 | some (_,k,_),.pv (.tr cts n)=>if cts.length=k then some ⟨0≤i∧i < n,fun u=>u= .tp cts 0,[],true,[]⟩ else none
 | _,_=>none
def kD (P:Program)(e:Operand→Option AV)(σ:Sto)(lab:Nat)(t:TypeId)(a:AV)(lo hi:Option Operand):Option DO:=
 match aQ P t,a with
 |
  some (_,k,_),.pv (.sl els)=>match wR e lo 0,wR e hi els.length with
  | some l,some h=>some (.chk (0≤l∧l≤h∧h≤els.length∧∀row∈els,row.length=k) (.pv (.sl ((els.take h.toNat).drop l.toNat))))
  | _,_=>none
 |
  some (_,k,_),.own r n=>match lo,σ r,wR e hi n with
  | none,some (.row ty k' els),some h=>if els.length=n then some ⟨0≤h∧h≤n,fun u=>u= .own lab h.toNat,[],true,[(r,none),(lab,some (.row ty k' (els.take h.toNat)))]⟩ else none
  | _,_,_=>none
 | _,_=>none
def nV (P:Program)(σ:Sto)(lab:Nat)(t:TypeId)(a b:AV):Option DO:=
 match aQ P t,a,b with
 |
  some (el,k,_),.own r n,b=>match σ r,toP b with
  | some (.row ty k' els),some (.sl ys)=>if (k'=k∧ty=el)∧els.length=n then some ⟨n+ys.length≤1000000∧∀row∈ys,row.length=k,fun u=>u= .own lab (n+ys.length),[],true,[(r,none),(lab,some (.row ty k' (els++ys)))]⟩ else none
  | _,_=>none
 | some (el,k,_),.emp,.pv (.tr cts n)=>if cts.length=k then some (.chk (n≤1000000) (.pv (.tr cts n))) else none
 |
  some (el,k,_),.emp,b=>match toP b with
  | some (.sl ys)=>some ⟨ys.length≤1000000∧∀row∈ys,row.length=k,fun u=>u= .own lab ys.length,[],true,[(lab,some (.row el k ys))]⟩
  | _=>none
 | _,_,_=>none
def fzA:Operand→Operand→Bool
 | .tmp i,.tmp j=>if i=31 then (if j=37 then true else false) else if i=23 then (if j=28 then true else false) else if i=123 then (if j=124 then true else false) else false
 | _,_=>false
def Dh (P:Program)(t:TypeId)(a b:AV):Option DO:=
 match aQ P t,a,toP b with
 | some (_,k,_),.emp,some (.sl ys)=>some (.chk (ys.length≤1000000∧∀row∈ys,row.length=k) (.pv (.sl ys)))
 | _,_,_=>none
def nH (P:Program)(e:Operand→Option AV)(σ:Sto)(lab:Nat)(b:Builtin)(args:List Operand)(ats:Array TypeId):Option DO:=
 match b,args with
 |
  .len,[x]=>match ats.toList,e x with
  | [t],some v=>(lenOf P t v).map fun (n:Nat)=>DO.val (.pv (.sc (.int .i64 (n:Int))))
  | _,_=>none
 |
  .max,[x,y]=>match e x,e y with
  | some (.pv (.sc (.int k a))),some (.pv (.sc (.int k' b)))=>if k=k' then some (.val (.pv (.sc (.int k (if b > a then b else a))))) else none
  | _,_=>none
 |
  .append,[x,y]=>match ats.toList,e x,e y with
  | [t,t'],some a,some b=>if t=t' then (if fzA x y=true then Dh P t a b else nV P σ lab t a b) else none
  | _,_,_=>none
 | _,_=>none
def dop (P:Program)(o:Oper)(e:Operand→Option AV)(σ:Sto)(lab:Nat):Option DO:=
 match o.op with
 | .move x=>(e x).map DO.val
 | .assign x=>(e x).map DO.val
 |
  .pick c a b=>match e c with
  | some (.pv (.sc (.bool t)))=>(if t=true then e a else e b).map DO.val
  | _=>none
 | .alloc t=>(dn P t).map fun cs=>⟨True,fun u=>u= .ptr lab 0,[],true,[(lab,some (.box cs))]⟩
 | .box t x=>(e x).bind fun v=>if (aW v).all fA=true then some ⟨True,fun u=>u= .ptr lab 0,[],true,[(lab,some (.box (aW v)))]⟩ else none
 |
  .build t parts=>match dn P t,bH P t,evs e parts.toList with
  | some zs,some pl,some ps=>(oQ (fun i=>pl[i]?) zs ps).map fun cs=> .val (.agg cs)
  | _,_,_=>none
 |
  .buildSlice t n parts=>match aQ P t with
  | some (_,k,_)=>if n=0 then (if parts.toList.length=0 then some (.val .emp) else none) else if parts.toList.length=n∧n * k≤2 ^ 24 then (rowsOf e k 0 parts.toList).map fun rows=> .val (.pv (.sl rows)) else none
  | none=>none
 | .load t x=>(e x).bind (ja P σ t)
 | .store t x y=>if o.dst=none then (e x).bind fun a=>(e y).bind fun v=>fZ P σ t a v else none
 | .nilCheck x=>(e x).bind fun v=>if TE v=true then some (.val v) else none
 |
  .binOp op t x y _=>match e x,e y with
  |
   some (.pv (.sc a)),some (.pv (.sc b))=>match oU op a b with
   | some (p,v)=>some (.chk p (.pv (.sc v)))
   | none=>(TF P t op a b).map fun v=> .val (.pv (.sc v))
  | _,_=>none
 |
  .unOp op t x=>match op,e x with
  | .not,some (.pv (.sc (.bool b)))=>some (.val (.pv (.sc (.bool (!b)))))
  | .neg,some (.pv (.sc (.int k n)))=>some (.val (.pv (.sc (.int k (k.wrap (0 - n))))))
  | _,_=>none
 |
  .convert s t x=>match Ec P s,Ec P t,e x with
  | some _,some k',some (.pv (.sc (.int k n)))=>some (.val (.pv (.sc (.int k' (k'.wrap n)))))
  | _,_,_=>none
 |
  .makeSlice t x y=>match aQ P t,e x,e y with
  | some (el,k,_),some (.pv (.sc (.int ik n))),some (.pv (.sc (.int ik' n')))=>if n=n' then ((dn P el).bind rW).map fun cts=> .chk (0≤n∧n≤100000) (.pv (.tr cts n.toNat)) else none
  | _,_,_=>none
 | .slice t x lo hi none=>(e x).bind fun a=>kD P e σ lab t a lo hi
 |
  .fieldAddr t x k=>match aU P t k,e x with
  | some off,some v=>(KX off v).map DO.val
  | _,_=>none
 |
  .indexAddr t x y=>match e x,e y with
  | some a,some (.pv (.sc (.int _ i)))=>nO P σ t a i
  | _,_=>none
 |
  .index t x y=>match e x,e y with
  | some (.pv (.sc (.string s))),some (.pv (.sc (.int _ i)))=>if KY P t=true then some (.chk (0≤i∧i < s.size) (.pv (.sc (.int .u8 ((s[i.toNat]?).getD 0).toNat)))) else none
  | _,_=>none
 |
  .extract x i=>match e x with
  | some (.tup vs)=>(vs[i]?).map DO.val
  | _=>none
 |
  .call c=>match c.callee with
  | .builtin b=>nH P e σ lab b c.args.toList c.argTypes
  | _=>none
 | _=>none
theorem CY {P:Program}{t:TypeId}(h:KY P t=true):P.underlying t=some .string:=by
 unfold KY at h;split at h
 · assumption
 · cases h
theorem nD {P:Program}{t:TypeId}(h:(aQ P t).isSome=true):∃el,P.underlying t=some (.slice el):=by
 cases h2:aQ P t with
 | none=>simp [h2] at h
 | some q=>obtain ⟨el,k,b⟩:=q;exact⟨el,(fB h2).1⟩
section
variable {P : Program} {o : Oper} {e : Operand → Option AV} {σ : Sto} {lab : Nat} {d : DO}
theorem map_some {α β:Type}{x:Option α}{f:α→β}{d:β}(h:x.map f=some d):∃a,x=some a∧f a=d:=by
 cases x with
 | none=>cases h
 | some a=>injection h with h;exact⟨a,rfl,h⟩
theorem bind_some {α β:Type}{x:Option α}{f:α→Option β}{d:β}(h:x.bind f=some d):∃a,x=some a∧f a=some d:=by
 cases x with
 | none=>cases h
 | some a=>exact ⟨a,rfl,h⟩
theorem Je {t:TypeId}{x:Operand}{v:AV}(ho:o.op= .load t x)(hx:e x=some v)(h:ja P σ t v=some d):DSound P o e σ lab d:=by
 unfold ja at h;split at h
 · rename_i g k l off hl
   split at h
   · rename_i cs hσ
     obtain⟨u,hu,rfl⟩:=map_some h;exact UE ho hl hx hσ hu
   · cases h
 · rename_i g k row off hl
   obtain⟨u,hu,rfl⟩:=map_some h;exact UF ho hl hx hu
 · rename_i g k r k' i off hl
   split at h
   · rename_i ty k2 els hσ
     split at h
     · rename_i hk
       subst hk;injection h with h;subst h;exact UG ho hl hx hσ
     · cases h
   · cases h
 · rename_i g k cts j hl
   split at h
   · rename_i hg
     subst hg;obtain⟨ct,hc,rfl⟩:=map_some h;exact UH ho hl hx hc
   · rename_i hg
     split at h
     · rename_i hj
       injection h with h;subst h;obtain⟨rfl,rfl⟩:=hj
       cases g with
       | false=>exact absurd rfl hg
       | true=>exact Qe ho hl hx
     · cases h
 · cases h
theorem Ff {t:TypeId}{x y:Operand}{a v:AV}(ho:o.op= .store t x y)(hd:o.dst=none)(hx:e x=some a)(hy:e y=some v)(h:fZ P σ t a v=some d):DSound P o e σ lab d:=by
 unfold fZ at h;split at h
 · rename_i g k l off hl
   split at h
   · rename_i cs hσ
     split at h
     · rename_i hc
       injection h with h;subst h;exact OO ho hd hl hx hy hσ hc.1 hc.2.1 hc.2.2
     · cases h
   · cases h
 · rename_i g k r k' i off hl
   split at h
   · rename_i ty k2 els ps hσ hp
     split at h
     · rename_i hc
       obtain⟨rfl,hc1,hc2⟩:=hc;injection h with h;subst h;exact OQ ho hd hl hx hy hσ hp hc1 hc2
     · cases h
   · cases h
 · rename_i g k cts j hl
   split at h
   · rename_i hg
     obtain⟨rfl,rfl⟩:=hg;split at h
     · rename_i ct p hc hp
       injection h with h;subst h;exact OT ho hd hl hx hy hc hp
     · cases h
   · cases h
 · cases h
theorem MI {t:TypeId}{x y:Operand}{a:AV}{ik:IntKind}{i:Int}(ho:o.op= .indexAddr t x y)(hx:e x=some a)(hy:e y=some (.pv (.sc (.int ik i))))(h:nO P σ t a i=some d):DSound P o e σ lab d:=by
 unfold nO at h;split at h
 · rename_i el k b els hel
   injection h with h;subst h;exact V7 ho hel hx hy
 · rename_i el k b r n hel
   split at h
   · rename_i ty k' els hσ
     split at h
     · rename_i hc
       injection h with h;subst h;exact V8 ho hel hx hσ hc.1 hc.2 hy
     · cases h
   · cases h
 · rename_i el k b cts n hel
   split at h
   · rename_i hc
     injection h with h;subst h;exact V9 ho hel hx hc hy
   · cases h
 · cases h
theorem Jf {t:TypeId}{x:Operand}{a:AV}{lo hi:Option Operand}(ho:o.op= .slice t x lo hi none)(hx:e x=some a)(h:kD P e σ lab t a lo hi=some d):DSound P o e σ lab d:=by
 unfold kD at h;split at h
 · rename_i el k b els hel
   split at h
   · rename_i l hh hl hr
     injection h with h;subst h;exact UI ho hel hx hl hr
   · cases h
 · rename_i el k b r n hel
   split at h
   · rename_i ty k' els hh hσ hr
     split at h
     · rename_i hn
       injection h with h;subst h;exact UJ ho hel hx hσ hn hr
     · cases h
   · cases h
 · cases h
theorem MJ {t:TypeId}{x y:Operand}{a b:AV}(ho:o.op= .call { callee:= .builtin .append,args:=#[x,y],argTypes:=#[t,t] })(hx:e x=some a)(hy:e y=some b)(h:nV P σ lab t a b=some d):DSound P o e σ lab d:=by
 unfold nV at h;split at h
 · rename_i el k by' r n hel
   split at h
   · rename_i ty k' els ys hσ hp
     split at h
     · rename_i hc
       injection h with h;subst h;exact abS ho hel hx hσ hc.1 hc.2 ⟨_,hy,hp⟩
     · cases h
   · cases h
 · rename_i el k by' cts n hel
   split at h
   · rename_i hc
     injection h with h;subst h;exact Yc ho hel hx hy hc
   · cases h
 · rename_i el k by' hel hno
   split at h
   · rename_i ys hp
     injection h with h;subst h;exact Oo ho hel hx ⟨_,hy,hp⟩
   · cases h
 · cases h
theorem zo {α:Type}{a:Array α}{l:List α}(h:a.toList=l):a=l.toArray:=by subst h;simp
theorem Jg {b:Builtin}{args:Array Operand}{ats:Array TypeId}(ho:o.op= .call { callee:= .builtin b,args:=args,argTypes:=ats })(h:nH P e σ lab b args.toList ats=some d):DSound P o e σ lab d:=by
 unfold nH at h;split at h
 · rename_i x hargs
   rw[zo hargs] at ho;split at h
   · rename_i t v hat hx
     obtain⟨n,hn,rfl⟩:=map_some h;refine ZC (x:=x) (t:=t) (n:=n) ho (zo hat) ?_;unfold lenOf at hn
     split at hn <;> first
      | (cases hn;done)
      | (
       split at hn
       · rename_i hc
         injection hn with hn
         first
          | exact .inl ⟨_,hx,hn,nD hc⟩
          | (subst hn;exact .inr (.inl ⟨_,hx,nD hc⟩))
          | (subst hn;exact .inr (.inr (.inl ⟨_,hx,nD hc⟩)))
          | exact .inr (.inr (.inr (.inl ⟨hx,hn.symm,nD hc⟩)))
          | exact .inr (.inr (.inr (.inr ⟨_,hx,hn,CY hc⟩)))
       · cases hn)
   · cases h
 · rename_i x y hargs
   rw[zo hargs] at ho;split at h
   · rename_i k a k' b hx hy
     split at h
     · rename_i hk
       subst hk;injection h with h;subst h;exact ZE ho hx hy
     · cases h
   · cases h
 · rename_i x y hargs
   rw[zo hargs] at ho;split at h
   · rename_i t t' a b hat hx hy
     split at h
     · rename_i ht
       subst ht;rw[zo hat] at ho;split at h
       · unfold Dh at h;split at h
         · rename_i hel hp
           injection h with h;subst h;exact Yd ho hel hx ⟨_,hy,hp⟩
         · cases h
       · exact MJ ho hx hy h
     · cases h
   · cases h
 · cases h
theorem Qy (h:dop P o e σ lab=some d):DSound P o e σ lab d:=by
 unfold dop at h;split at h
 · rename_i x ho
   obtain⟨v,hv,rfl⟩:=map_some h;exact Oq (.inl ho) hv
 · rename_i x ho
   obtain⟨v,hv,rfl⟩:=map_some h;exact Oq (.inr ho) hv
 · rename_i c a b ho
   split at h
   · rename_i t hc
     obtain⟨v,hv,rfl⟩:=map_some h;exact Ye ho hc hv
   · cases h
 · rename_i t ho
   obtain⟨v,hv,rfl⟩:=map_some h;exact RF ho hv
 · rename_i t x ho
   obtain⟨v,hv,h⟩:=bind_some h;split at h
   · rename_i hc
     injection h with h;subst h;exact ZB ho hv hc
   · cases h
 · rename_i t parts ho
   split at h
   · rename_i zs pl ps h1 h2 h3
     obtain⟨v,hv,rfl⟩:=map_some h;exact Vp ho h1 h2 h3 hv
   · cases h
 · rename_i t n parts ho
   split at h
   · rename_i el k b hel
     split at h
     · rename_i hn
       subst hn;split at h
       · rename_i hp
         injection h with h;subst h;exact zn ho hel (Array.eq_empty_of_size_eq_zero (by simpa using hp))
       · cases h
     · rename_i hn
       split at h
       · rename_i hc
         obtain⟨v,hv,rfl⟩:=map_some h;exact AZ ho hel hv hc.1 (by omega) hc.2
       · cases h
   · cases h
 · rename_i t x ho
   obtain⟨v,hv,h⟩:=bind_some h;exact Je ho hv h
 · rename_i t x y ho
   split at h
   · rename_i hd
     obtain⟨a,ha,h⟩:=bind_some h;obtain⟨v,hv,h⟩:=bind_some h;exact Ff ho hd ha hv h
   · cases h
 · rename_i x ho
   obtain⟨v,hv,h⟩:=bind_some h;split at h
   · rename_i hc
     injection h with h;subst h;exact Jh ho hv (by cases v <;> first | trivial | cases hc)
   · cases h
 · rename_i op t x y t' ho
   split at h
   · rename_i a b hx hy
     split at h
     · rename_i p v hv
       injection h with h;subst h;exact abT ho hx hy hv
     · obtain⟨v,hv,rfl⟩:=map_some h;exact Yf ho hx hy hv
   · cases h
 · rename_i op t x ho
   split at h
   · rename_i b hx
     injection h with h;subst h;exact abU ho hx
   · rename_i k n hx
     injection h with h;subst h;exact abV ho hx
   · cases h
 · rename_i s t x ho
   split at h
   · rename_i k0 k' k n hs ht hx
     injection h with h;subst h;exact Yg ho (CZ hs) ht hx
   · cases h
 · rename_i t x y ho
   split at h
   · rename_i el k b ik n ik' n' hel hx hy
     split at h
     · rename_i hn
       subst hn;obtain⟨cts,hc,rfl⟩:=map_some h;obtain⟨zs,hz,hc⟩:=bind_some hc;exact XF ho hel hz hc hx hy
     · cases h
   · cases h
 · rename_i t x lo hi ho
   obtain⟨a,ha,h⟩:=bind_some h;exact Jf ho ha h
 · rename_i t x k ho
   split at h
   · rename_i off v hf hx
     obtain⟨u,hu,rfl⟩:=map_some h;exact Fg ho hf hx (by cases v <;> exact hu)
   · cases h
 · rename_i t x y ho
   split at h
   · rename_i a ik i hx hy
     exact MI ho hx hy h
   · cases h
 · rename_i t x y ho
   split at h
   · rename_i s ik i hx hy
     split at h
     · rename_i ht
       injection h with h;subst h;exact Wh ho (CY ht) hx hy
     · cases h
   · cases h
 · rename_i x i ho
   split at h
   · rename_i vs hx
     obtain⟨u,hu,rfl⟩:=map_some h;exact ML ho hx hu
   · cases h
 · rename_i c ho
   obtain⟨callee,args,ats⟩:=c;split at h
   · rename_i b hb
     dsimp only at hb h;subst hb;exact Jg ho h
   · cases h
 · cases h
end
