/- Words. -/
import Derived.Test.YtfbkkgfkhhibfaaGreatAdj
set_option linter.unusedVariables false
set_option linter.unusedSimpArgs false
namespace AM
open Go Go.RowKit
def Qz (P:Program)(t:TypeId):Bool:=
 match P.underlying t with
 |some .string=>true
 |_=>false
def lenOf (P:Program)(t:TypeId):AV->Option Nat
 | .pv (.sl els)=>if (aS P t).isSome=true then some els.length else none
 | .own _ n=>if (aS P t).isSome=true then some n else none
 | .pv (.tr _ n)=>if (aS P t).isSome=true then some n else none
 | .emp=>if (aS P t).isSome=true then some 0 else none
 | .pv (.sc (.string s))=>if Qz P t=true then some s.size else none
 |_=>none
def UZ (off:Nat):AV->Option AV
 | .ptr l o=>some (.ptr l (o+off))
 | .rp r k i o=>some (.rp r k i (o+off))
 | .fp row o=>some (.fp row (o+off))
 | .tp cts j=>some (.tp cts (j+off))
 |_=>none
def Yi:AV->Bool
 | .ptr .. | .rp .. | .fp .. | .tp .. =>true
 |_=>false
def lH (P:Program)(σ:Sto)(t:TypeId)(v:AV):Option DO:=
 match lay P t,v with
 |
  some (g,k),.ptr l off=>match σ l with
  |some (.box cs)=>(vk g k cs off).map λv=>⟨True,λu=>u=v,[l],true,[]⟩
  |_=>none
 |some (g,k),.fp row off=>(vk g k (row.map .pv) off).map DO.val
 |
  some (g,k),.rp r k' i off=>match σ r with
  |some (.row ty k2 els)=>if k2=k' then some ⟨∃row v,els[i]?=some row/\vk g k (row.map .pv) off=some v,λu=>∃row,els[i]?=some row/\vk g k (row.map .pv) off=some u,[r],true,[]⟩ else none
  |some (.rov ty k2 els i2 cs)=>if k2=k'/\i2=i then (vk g k cs off).map λv=>⟨True,λu=>u=v,[r],true,[]⟩ else none
  |_=>none
 |some (g,k),.tp cts j=>if g=false then (cts[j]?).map λct=>⟨True,λu=>∃p,ct.ok p/\u= .pv p,[],false,[]⟩ else if j=0/\k=cts.length then some ⟨True,λu=>∃ps,afo cts ps/\u= .agg (ps.map .pv),[],false,[]⟩ else none
 |_,_=>none
def jV (P:Program)(σ:Sto)(t:TypeId)(a v:AV):Option DO:=
 match lay P t,a with
 |
  some (g,k),.ptr l off=>match σ l with
  |some (.box cs)=>if (aJ v).length=k/\(aJ v).all fB=true/\off+k<=cs.length then some ⟨True,λu=>u= .emp,[],true,[(l,some (.box (fG cs off (aJ v))))]⟩ else none
  |_=>none
 |
  some (g,k),.rp r k' i off=>match σ r,oq (aJ v) with
  |some (.row ty k2 els),some ps=>if k2=k'/\ps.length=k/\off+k<=k' then some ⟨i<els.length,λu=>u= .emp,[],true,[(r,some (.row ty k' (els.modify i (λrow=>fG row off ps))))]⟩ else none
  |some (.rov ty k2 els i2 cs),some ps=>if (k2=k'/\k'=k)/\i2=i/\off=0/\ps.length=k then some ⟨True,λu=>u= .emp,[],true,[(r,some (.row ty k' (els.set i ps)))]⟩ else none
  |_,_=>none
 |
  some (g,k),.tp cts j=>if g=false/\k=1 then match cts[j]?,toP v with
  |some ct,some p=>some ⟨ct.ok p,λu=>u= .emp,[],true,[]⟩
  |_,_=>none else none
 |_,_=>none
def uO (P:Program)(σ:Sto)(t:TypeId)(a:AV)(i:Int):Option DO:=
 match aS P t,a with
 |some (_,k,_),.pv (.sl els)=>some ⟨0<=i/\∃row,els[i.toNat]?=some row/\row.length=k,λu=>∃row,els[i.toNat]?=some row/\u= .fp row 0,[],true,[]⟩
 |
  some (_,k,_),.own r n=>match σ r with
  |some (.row ty k' els)=>if k'=k/\els.length=n then some ⟨0<=i/\i<n,λu=>u= .rp r k i.toNat 0,[r],true,[]⟩ else none
  |some (.rov ty k' els _ _)=>if k'=k/\els.length=n then some ⟨0<=i/\i<n,λu=>u= .rp r k i.toNat 0,[r],true,[]⟩ else none
  |_=>none
 |some (_,k,_),.pv (.tr cts n)=>if cts.length=k then some ⟨0<=i/\i<n,λu=>u= .tp cts 0,[],true,[]⟩ else none
 |_,_=>none
def mY (P:Program)(e:Operand->Option AV)(σ:Sto)(lab:Nat)(t:TypeId)(a:AV)(lo hi:Option Operand):Option DO:=
 match aS P t,a with
 |
  some (_,k,_),.pv (.sl els)=>match BI e lo 0,BI e hi els.length with
  |some l,some h=>some (.chk (0<=l/\l<=h/\h<=els.length/\∀row∈els,row.length=k) (.pv (.sl ((els.take h.toNat).drop l.toNat))))
  |_,_=>none
 |
  some (_,k,_),.own r n=>match lo,σ r,BI e hi n with
  |none,some (.row ty k' els),some h=>if els.length=n then some ⟨0<=h/\h<=n,λu=>u= .own lab h.toNat,[],true,[(r,none),(lab,some (.row ty k' (els.take h.toNat)))]⟩ else none
  |_,_,_=>none
 |_,_=>none
def qH (P:Program)(σ:Sto)(lab:Nat)(t:TypeId)(a b:AV):Option DO:=
 match aS P t,a,b with
 |
  some (el,k,_),.own r n,b=>match σ r,toP b with
  |some (.row ty k' els),some (.sl ys)=>if (k'=k/\ty=el)/\els.length=n then some ⟨n+ys.length<=100000000/\∀row∈ys,row.length=k,λu=>u= .own lab (n+ys.length),[],true,[(r,none),(lab,some (.row ty k' (els++ys)))]⟩ else none
  |some (.rov ty k' els i cs),some (.sl ys)=>if (k'=k/\ty=el)/\els.length=n then some ⟨0<ys.length/\n+ys.length<=100000000/\∀row∈ys,row.length=k,λu=>u= .own lab (n+ys.length),[],true,[(r,none),(lab,some (.rov ty k' (els++ys) i cs))]⟩ else none
  |
   some (.row ty k' els),none=>match b with
   | .tl cs=>if (k'=k/\ty=el)/\els.length=n/\cs.length=k then some ⟨n+1<=100000000,λu=>u= .own lab (n+1),[],true,[(r,none),(lab,some (.rov ty k' (els++[List.replicate k (.sl [])]) n cs))]⟩ else none
   |_=>none
  |_,_=>none
 |some (el,k,_),.emp,.pv (.tr cts n)=>if cts.length=k then some (.chk (n<=100000000) (.pv (.tr cts n))) else none
 |
  some (el,k,_),.emp,b=>match toP b with
  |some (.sl ys)=>some ⟨ys.length<=100000000/\∀row∈ys,row.length=k,λu=>u= .own lab ys.length,[],true,[(lab,some (.row el k ys))]⟩
  |_=>none
 |_,_,_=>none
def fzA:Operand->Operand->Bool
 | .tmp i,.tmp j=>if i=31 then (if j=37 then true else false) else if i=23 then (if j=28 then true else false) else if i=123 then (if j=124 then true else false) else false
 |_,_=>false
def Iq (P:Program)(t:TypeId)(a b:AV):Option DO:=
 match aS P t,a,toP b with
 |some (_,k,_),.emp,some (.sl ys)=>some (.chk (ys.length<=100000000/\∀row∈ys,row.length=k) (.pv (.sl ys)))
 |_,_,_=>none
def ry (P:Program)(e:Operand->Option AV)(σ:Sto)(lab:Nat)(b:Builtin)(args:List Operand)(ats:Array TypeId):Option DO:=
 match b,args with
 |
  .len,[x]=>match ats.toList,e x with
  | [t],some v=>(lenOf P t v).map λ(n:Nat)=>DO.val (.pv (.sc (.int .i64 (n:Int))))
  |_,_=>none
 |
  .max,[x,y]=>match e x,e y with
  |some (.pv (.sc (.int k a))),some (.pv (.sc (.int k' b)))=>if k=k' then some (.val (.pv (.sc (.int k (if b>a then b else a))))) else none
  |_,_=>none
 |
  .append,[x,y]=>match ats.toList,e x,e y with
  | [t,t'],some a,some b=>if t=t' then (if fzA x y=true then Iq P t a b else qH P σ lab t a b) else none
  |_,_,_=>none
 |_,_=>none
def Hr:AV->Bool
 | .own _ _=>true
 |_=>false
def aeo:Option AV->Bool
 |some v=>(aJ v).any Hr
 |none=>false
def Nu (e:Operand->Option AV):List (Nat×Operand)->Bool
 | [(_,x)]=>aeo (e x)
 |_=>false
def dBV (k n:Nat)(e:Operand->Option AV):List (Nat×Operand)->Option DO
 | [(0,x)]=>(e x).bind λv=>if (aJ v).length=k/\(aJ v).all fB=true/\k<=2^24/\n=1 then some (.val (.tl (aJ v))) else none
 |_=>none
def dop (P:Program)(o:Oper)(e:Operand->Option AV)(σ:Sto)(lab:Nat):Option DO:=
 match o.op with
 | .move x=>(e x).map DO.val
 | .assign x=>(e x).map DO.val
 |
  .pick c a b=>match e c with
  |some (.pv (.sc (.bool t)))=>(if t=true then e a else e b).map DO.val
  |_=>none
 | .alloc t=>(dE P t).map λcs=>⟨True,λu=>u= .ptr lab 0,[],true,[(lab,some (.box cs))]⟩
 | .box t x=>(e x).bind λv=>if (aJ v).all fB=true then some ⟨True,λu=>u= .ptr lab 0,[],true,[(lab,some (.box (aJ v)))]⟩ else none
 |
  .build t parts=>match dE P t,bU P t,evs e parts.toList with
  |some zs,some pl,some ps=>(tC (λi=>pl[i]?) zs ps).map λcs=> .val (.agg cs)
  |_,_,_=>none
 |
  .buildSlice t n parts=>match aS P t with
  |some (_,k,_)=>if n=0 then (if parts.toList.length=0 then some (.val .emp) else none) else if parts.toList.length=n/\n*k<=2^24 then (if Nu e parts.toList=true then dBV k n e parts.toList else (rowsOf e k 0 parts.toList).map λrows=> .val (.pv (.sl rows))) else none
  |none=>none
 | .load t x=>(e x).bind (lH P σ t)
 | .store t x y=>if o.dst=none then (e x).bind λa=>(e y).bind λv=>jV P σ t a v else none
 | .nilCheck x=>(e x).bind λv=>if Yi v=true then some (.val v) else none
 |
  .binOp op t x y _=>match e x,e y with
  |
   some (.pv (.sc a)),some (.pv (.sc b))=>match tH op a b with
   |some (p,v)=>some (.chk p (.pv (.sc v)))
   |none=>(Yj P t op a b).map λv=> .val (.pv (.sc v))
  |_,_=>none
 |
  .unOp op t x=>match op,e x with
  | .not,some (.pv (.sc (.bool b)))=>some (.val (.pv (.sc (.bool (!b)))))
  | .neg,some (.pv (.sc (.int k n)))=>some (.val (.pv (.sc (.int k (k.wrap (0-n))))))
  | .xor,some (.pv (.sc (.int k n)))=>some (.val (.pv (.sc (.int k (bits .xor k (if k.signed then -1 else k.max) n)))))
  |_,_=>none
 |
  .convert s t x=>match Ju P s,Ju P t,e x with
  |some _,some k',some (.pv (.sc (.int k n)))=>some (.val (.pv (.sc (.int k' (k'.wrap n)))))
  |_,_,_=>none
 |
  .makeSlice t x y=>match aS P t,e x,e y with
  |some (el,k,_),some (.pv (.sc (.int ik n))),some (.pv (.sc (.int ik' n')))=>if n=n' then ((dE P el).bind oq).map λps=> .chk (0<=n/\n<=100000) (.pv (.sl (List.replicate n.toNat ps))) else none
  |_,_,_=>none
 | .slice t x lo hi none=>(e x).bind λa=>mY P e σ lab t a lo hi
 |
  .fieldAddr t x k=>match aU P t k,e x with
  |some off,some v=>(UZ off v).map DO.val
  |_,_=>none
 |
  .indexAddr t x y=>match e x,e y with
  |some a,some (.pv (.sc (.int _ i)))=>uO P σ t a i
  |_,_=>none
 |
  .index t x y=>match e x,e y with
  |some (.pv (.sc (.string s))),some (.pv (.sc (.int _ i)))=>if Qz P t=true then some (.chk (0<=i/\i<s.size) (.pv (.sc (.int .u8 ((s[i.toNat]?).getD 0).toNat)))) else none
  |_,_=>none
 |
  .extract x i=>match e x with
  |some (.tup vs)=>(vs[i]?).map DO.val
  |_=>none
 |
  .call c=>match c.callee with
  | .builtin b=>ry P e σ lab b c.args.toList c.argTypes
  |_=>none
 |_=>none
theorem Ii {P:Program}{t:TypeId}(h:Qz P t=true):P.underlying t=some .string:=by
 unfold Qz at h;split at h;assumption
 cases h
theorem ru {P:Program}{t:TypeId}(h:(aS P t).isSome=true):∃a,P.underlying t=some (.slice a):=by
 cases h2:aS P t with
 |none=>simp [h2] at h
 |some q=>obtain ⟨a,k,b⟩:=q;exact⟨a,(dS h2).1⟩
section
variable {P : Program} {o : Oper} {e : Operand -> Option AV} {σ : Sto} {lab : Nat} {d : DO}
theorem map_some {α β:Type}{x:Option α}{f:α->β}{d:β}(h:x.map f=some d):∃a,x=some a/\f a=d:=by
 cases x with
 |none=>cases h
 |some a=>injection h with h;exact⟨a,rfl,h⟩
theorem bind_some {α β:Type}{x:Option α}{f:α->Option β}{d:β}(h:x.bind f=some d):∃a,x=some a/\f a=some d:=by
 cases x with
 |none=>cases h
 |some a=>exact ⟨a,rfl,h⟩
theorem BB {k n:Nat}{a:List (Nat×Operand)}(h:dBV k n e a=some d):∃v,d= .val v:=by
 unfold dBV at h;split at h
 . obtain⟨v,u,h⟩:=bind_some h;split at h;injection h with h;exact⟨_,h.symm⟩
   cases h
 cases h
theorem OE {t:TypeId}{x:Operand}{v:AV}(ho:o.op= .load t x)(hx:e x=some v)(h:lH P σ t v=some d):DSound P o e σ lab d:=by
 unfold lH at h;split at h
 . rename_i g k l off a;split at h;rename_i cs hσ;obtain⟨u,y,rfl⟩:=map_some h;exact Ze ho a hx hσ y
   cases h
 rename_i g k row off a;obtain⟨u,y,rfl⟩:=map_some h;exact Zf ho a hx y
 . rename_i g k r D i off a;split at h
   . rename_i ty A els hσ;split at h;rename_i hk;subst hk;injection h with h;subst h;exact Zg ho a hx hσ
     cases h
   . rename_i ty A els E cs hσ;split at h;rename_i hk;obtain⟨rfl,rfl⟩:=hk;obtain⟨u,y,rfl⟩:=map_some h;exact XU ho a hx hσ y
     cases h
   cases h
 . rename_i g k cts j a;split at h;rename_i hg;subst hg;obtain⟨ct,hc,rfl⟩:=map_some h;exact Zh ho a hx hc
   . rename_i hg;split at h
     . rename_i B;injection h with h;subst h;obtain⟨rfl,rfl⟩:=B
       cases g with
       |false=>exact absurd rfl hg
       |true=>exact Vz ho a hx
     cases h
 cases h
theorem KJ {t:TypeId}{x y:Operand}{a v:AV}(ho:o.op= .store t x y)(D:o.dst=none)(hx:e x=some a)(E:e y=some v)(h:jV P σ t a v=some d):DSound P o e σ lab d:=by
 unfold jV at h;split at h
 . rename_i g k l off A;split at h
   . rename_i cs hσ;split at h;rename_i hc;injection h with h;subst h;exact Uy ho D A hx E hσ hc.1 hc.2.1 hc.2.2
     cases h
   cases h
 . rename_i g k r J i off A;split at h
   . rename_i ty H els I hσ B;split at h;rename_i hc;obtain⟨rfl,G,u⟩:=hc;injection h with h;subst h;exact Uz ho D A hx E hσ B G u
     cases h
   . rename_i ty H els L cs I hσ B;split at h;rename_i hc;obtain⟨⟨rfl,rfl⟩,rfl,rfl,u⟩:=hc;injection h with h;subst h;exact UM ho D A hx E hσ B u
     cases h
   cases h
 . rename_i g k cts j A;split at h
   . rename_i hg;obtain⟨rfl,rfl⟩:=hg;split at h;rename_i ct p hc B;injection h with h;subst h;exact UA ho D A hx E hc B
     cases h
   cases h
 cases h
theorem RJ {t:TypeId}{x y:Operand}{a:AV}{D:IntKind}{i:Int}(ho:o.op= .indexAddr t x y)(hx:e x=some a)(A:e y=some (.pv (.sc (.int D i))))(h:uO P σ t a i=some d):DSound P o e σ lab d:=by
 unfold uO at h;split at h;rename_i B k b els u;injection h with h;subst h;exact aaL ho u hx A
 . rename_i B k b r n u;split at h
   . rename_i ty E els hσ;split at h;rename_i hc;injection h with h;subst h;exact aaM ho u hx hσ hc.1 hc.2 A
     cases h
   . rename_i ty E els G cs hσ;split at h;rename_i hc;injection h with h;subst h;exact aa4 ho u hx hσ hc.1 hc.2 A
     cases h
   cases h
 . rename_i B k b cts n u;split at h;rename_i hc;injection h with h;subst h;exact aaN ho u hx hc A
   cases h
 cases h
theorem OG {t:TypeId}{x:Operand}{a:AV}{lo hi:Option Operand}(ho:o.op= .slice t x lo hi none)(hx:e x=some a)(h:mY P e σ lab t a lo hi=some d):DSound P o e σ lab d:=by
 unfold mY at h;split at h
 . rename_i y k b els u;split at h;rename_i l A B hr;injection h with h;subst h;exact Zi ho u hx B hr
   cases h
 . rename_i y k b r n u;split at h
   . rename_i ty D els A hσ hr;split at h;rename_i hn;injection h with h;subst h;exact Zk ho u hx hσ hn hr
     cases h
   cases h
 cases h
theorem RQ {t:TypeId}{x y:Operand}{a b:AV}(ho:o.op= .call { callee:= .builtin .append,args:=#[x,y],argTypes:=#[t,t] })(hx:e x=some a)(B:e y=some b)(h:qH P σ lab t a b=some d):DSound P o e σ lab d:=by
 unfold qH at h;split at h
 . (rename_i E k D r n u);split at h
   . rename_i ty G els ys hσ A;split at h;rename_i hc;injection h with h;subst h;exact afJ ho u hx hσ hc.1 hc.2 ⟨_,B,A⟩
     cases h
   . rename_i ty G els i cs ys hσ A;split at h;rename_i hc;injection h with h;subst h;exact aa3 ho u hx hσ hc.1 hc.2 ⟨_,B,A⟩
     cases h
   . rename_i ty G els hσ A;split at h
     . rename_i cs;split at h;rename_i hc;injection h with h;subst h;exact aa1 ho u hx hσ hc.1 hc.2.1 B hc.2.2
       cases h
     cases h
   cases h
 . (rename_i E k D cts n u);split at h;rename_i hc;injection h with h;subst h;exact acm ho u hx B hc
   cases h
 . (rename_i E k D u hno);split at h;rename_i ys A;injection h with h;subst h;exact TW ho u hx ⟨_,B,A⟩
   cases h
 cases h
theorem EY {α:Type}{a:Array α}{l:List α}(h:a.toList=l):a=l.toArray:=by subst h;simp
theorem OH {b:Builtin}{args:Array Operand}{ats:Array TypeId}(ho:o.op= .call { callee:= .builtin b,args:=args,argTypes:=ats })(h:ry P e σ lab b args.toList ats=some d):DSound P o e σ lab d:=by
 unfold ry at h;split at h
 . rename_i x u;rw[EY u] at ho;split at h
   . rename_i t v A hx;obtain⟨n,hn,rfl⟩:=map_some h;refine adK (x:=x) (t:=t) (n:=n) ho (EY A) ?_;unfold lenOf at hn
     split at hn<;>first
      |(cases hn;done)
      |(
       split at hn
       . rename_i hc;injection hn with hn
         first
          |exact .inl ⟨_,hx,hn,ru hc⟩
          |(subst hn;exact .inr (.inl ⟨_,hx,ru hc⟩))
          |(subst hn;exact .inr (.inr (.inl ⟨_,hx,ru hc⟩)))
          |exact .inr (.inr (.inr (.inl ⟨hx,hn.symm,ru hc⟩)))
          |exact .inr (.inr (.inr (.inr ⟨_,hx,hn,Ii hc⟩)))
       . cases hn)
   cases h
 . rename_i x y u;rw[EY u] at ho;split at h
   . rename_i k a H b hx B;split at h;rename_i hk;subst hk;injection h with h;subst h;exact adL ho hx B
     cases h
   cases h
 . rename_i x y u;rw[EY u] at ho;split at h
   . rename_i t I a b A hx B;split at h
     . rename_i E;subst E;rw[EY A] at ho;split at h
       . unfold Iq at h;split at h;rename_i D G;injection h with h;subst h;exact acn ho D hx ⟨_,B,G⟩
         cases h
       exact RQ ho hx B h
     cases h
   cases h
 cases h
theorem VS (h:dop P o e σ lab=some d):DSound P o e σ lab d:=by
 unfold dop at h;split at h;rename_i x ho;obtain⟨v,A,rfl⟩:=map_some h;exact TY (.inl ho) A;rename_i x ho;obtain⟨v,A,rfl⟩:=map_some h;exact TY (.inr ho) A
 . rename_i c a b ho;split at h;rename_i t hc;obtain⟨v,A,rfl⟩:=map_some h;exact aco ho hc A
   cases h
 rename_i t ho;obtain⟨v,A,rfl⟩:=map_some h;exact Xm ho A
 . rename_i t x ho;obtain⟨v,A,h⟩:=bind_some h;split at h;rename_i hc;injection h with h;subst h;exact adJ ho A hc
   cases h
 . rename_i t parts ho;split at h;rename_i zs pl V h1 h2 h3;obtain⟨v,A,rfl⟩:=map_some h;exact ZW ho h1 h2 h3 A
   cases h
 . rename_i t n parts ho;split at h
   . rename_i J k b B;split at h
     . rename_i hn;subst hn;split at h;rename_i E;injection h with h;subst h;exact EW ho B (ZO (by simpa using E))
       cases h
     . rename_i hn;split at h
       . rename_i hc;split at h
         . unfold dBV at h;split at h
           . rename_i x E;obtain⟨v,A,h⟩:=bind_some h;split at h;rename_i L;injection h with h;subst h;obtain⟨h1,h2,h3,rfl⟩:=L;exact UN ho B E A h1 h2 h3
             cases h
           cases h
         obtain⟨v,A,rfl⟩:=map_some h;exact Gm ho B A hc.1 (by omega) hc.2
       cases h
   cases h
 rename_i t x ho;obtain⟨v,A,h⟩:=bind_some h;exact OE ho A h
 . rename_i t x y ho;split at h;rename_i N;obtain⟨a,ha,h⟩:=bind_some h;obtain⟨v,A,h⟩:=bind_some h;exact KJ ho N ha A h
   cases h
 . rename_i x ho;obtain⟨v,A,h⟩:=bind_some h;split at h;rename_i hc;injection h with h;subst h;exact OI ho A (by cases v<;>first|trivial|cases hc)
   cases h
 . rename_i op t x y X ho;split at h;rename_i a b hx D;split at h;rename_i p v A;injection h with h;subst h;exact afK ho hx D A;obtain⟨v,A,rfl⟩:=map_some h;exact acp ho hx D A
   cases h
 . rename_i op t x ho;split at h;rename_i b hx;injection h with h;subst h;exact afL ho hx;rename_i k n hx;injection h with h;subst h;exact afM ho hx;rename_i k n hx;injection h with h;subst h;exact afN ho hx
   cases h
 . rename_i s t x ho;split at h;rename_i k0 Y k n hs G hx;injection h with h;subst h;exact acr ho (Ij hs) G hx
   cases h
 . rename_i t x y ho;split at h
   . rename_i J k b I n O Z B hx D;split at h;rename_i hn;subst hn;obtain⟨cts,hc,rfl⟩:=map_some h;obtain⟨zs,U,hc⟩:=bind_some hc;exact abW ho B U hc hx D
     cases h
   cases h
 rename_i t x lo hi ho;obtain⟨a,ha,h⟩:=bind_some h;exact OG ho ha h
 . rename_i t x k ho;split at h;rename_i off v hf hx;obtain⟨u,H,rfl⟩:=map_some h;exact KL ho hf hx (by cases v<;>exact H)
   cases h
 . rename_i t x y ho;split at h;rename_i a I i hx D;exact RJ ho hx D h
   cases h
 . rename_i t x y ho;split at h
   . rename_i s I i hx D;split at h;rename_i G;injection h with h;subst h;exact aaO ho (Ii G) hx D
     cases h
   cases h
 . rename_i x i ho;split at h;rename_i vs hx;obtain⟨u,H,rfl⟩:=map_some h;exact RS ho hx H
   cases h
 . rename_i c ho;obtain⟨callee,args,ats⟩:=c;split at h;rename_i b hb;dsimp only at hb h;subst hb;exact OH ho h
   cases h
 cases h
end
def DO.wr (d:DO):List Nat:=d.upd.map (·.1)
section
variable {P : Program} {o : Oper} {e e' : Operand -> Option AV} {σ σ' : Sto} {lab : Nat} {d : DO}
theorem Oo {t:TypeId}{v:AV}(h:lH P σ t v=some d)(hσ:∀l,l∈d.rd\/l∈d.wr->σ' l=σ l):lH P σ' t v=some d:=by
 unfold lH at h|-;split at h
 . rename_i g k l off a;(try simp only[a]);split at h;rename_i cs hs;obtain⟨u,y,rfl⟩:=map_some h;rw[hσ l (.inl (by simp)),hs];simp[y]
   cases h
 . rename_i a;(try simp only[a]);exact h
 . rename_i g k r B i off a;(try simp only[a]);split at h
   . rename_i ty A els hs;split at h;rename_i hk;injection h with h;subst h;rw[hσ r (.inl (by simp)),hs];simp[hk]
     cases h
   . rename_i ty A els D cs hs;split at h;rename_i hk;obtain⟨u,y,rfl⟩:=map_some h;rw[hσ r (.inl (by simp)),hs];simp[hk,y]
     cases h
   cases h
 . rename_i a;(try simp only[a]);exact h
 cases h
theorem KE {t:TypeId}{a v:AV}(h:jV P σ t a v=some d)(hσ:∀l,l∈d.rd\/l∈d.wr->σ' l=σ l):jV P σ' t a v=some d:=by
 unfold jV at h|-;split at h
 . rename_i g k l off u;(try simp only[u]);split at h
   . rename_i cs hs;split at h;rename_i hc;injection h with h;subst h;rw[hσ l (.inr (by simp[DO.wr])),hs];dsimp only;rw[if_pos hc]
     cases h
   cases h
 . rename_i g k r D i off u;(try simp only[u]);split at h
   . rename_i ty A els B hs y;split at h;rename_i hc;injection h with h;subst h;rw[hσ r (.inr (by simp[DO.wr])),hs,y];dsimp only;rw[if_pos hc]
     cases h
   . rename_i ty A els E cs B hs y;split at h;rename_i hc;injection h with h;subst h;rw[hσ r (.inr (by simp[DO.wr])),hs,y];dsimp only;rw[if_pos hc]
     cases h
   cases h
 . rename_i u;(try simp only[u]);exact h
 cases h
theorem Rw {t:TypeId}{a:AV}{i:Int}(h:uO P σ t a i=some d)(hσ:∀l,l∈d.rd\/l∈d.wr->σ' l=σ l):uO P σ' t a i=some d:=by
 unfold uO at h|-;split at h
 . rename_i u;(try simp only[u]);exact h
 . rename_i B k b r n y;(try simp only[y]);split at h
   . rename_i ty A els hs;split at h;rename_i hc;injection h with h;subst h;rw[hσ r (.inl (by simp)),hs];dsimp only;rw[if_pos hc]
     cases h
   . rename_i ty A els D cs hs;split at h;rename_i hc;injection h with h;subst h;rw[hσ r (.inl (by simp)),hs];dsimp only;rw[if_pos hc]
     cases h
   cases h
 . rename_i u;(try simp only[u]);exact h
 cases h
theorem Ie {x:Option Operand}{n:Int}(he:∀y,x=some y->e' y=e y):BI e' x n=BI e x n:=by
 unfold BI
 cases x with
 |none=>rfl
 |some y=>simp only[he y rfl]
theorem Oq {t:TypeId}{a:AV}{lo hi:Option Operand}(he:∀y,lo=some y\/hi=some y->e' y=e y)(h:mY P e σ lab t a lo hi=some d)(hσ:∀l,l∈d.rd\/l∈d.wr->σ' l=σ l):mY P e' σ' lab t a lo hi=some d:=by
 have h1:∀n,BI e' lo n=BI e lo n:=λn=>Ie (λy u=>he y (.inl u));have h2:∀n,BI e' hi n=BI e hi n:=λn=>Ie (λy u=>he y (.inr u));unfold mY at h|-;simp only[h1,h2];split at h
 . rename_i B;(try simp only[B]);exact h
 . rename_i D k b r n A;(try simp only[A]);split at h
   . rename_i ty E els G hs hr;split at h;rename_i hn;injection h with h;subst h;rw[hσ r (.inr (by simp[DO.wr])),hs];simp only[hr];rw[if_pos hn]
     cases h
   cases h
 cases h
theorem Rx {t:TypeId}{a b:AV}(h:qH P σ lab t a b=some d)(hσ:∀l,l∈d.rd\/l∈d.wr->σ' l=σ l):qH P σ' lab t a b=some d:=by
 unfold qH at h|-;split at h
 . (rename_i D k A r n u);(try simp only[u]);split at h
   . rename_i ty B els ys hs y;split at h;rename_i hc;injection h with h;subst h;rw[hσ r (.inr (by simp[DO.wr])),hs];simp only[y];rw[if_pos hc]
     cases h
   . rename_i ty B els i cs ys hs y;split at h;rename_i hc;injection h with h;subst h;rw[hσ r (.inr (by simp[DO.wr])),hs];simp only[y];rw[if_pos hc]
     cases h
   . rename_i ty B els hs y;split at h
     . rename_i cs;split at h;rename_i hc;injection h with h;subst h;rw[hσ r (.inr (by simp[DO.wr])),hs];simp only[y];rw[if_pos hc]
       cases h
     cases h
   cases h
 . rename_i E;(try simp only[E]);exact h
 . (rename_i D k A u hno);(try simp only[u]);exact h
 cases h
theorem Ig:∀(a:List (Nat×Operand)),(∀p∈a,e' p.2=e p.2)->evs e' a=evs e a
 | [],_=>rfl
 |
  (i,x)::r,h=>by
  unfold evs
  rw[h (i,x) (by simp),Ig r (λp u=>h p (by simp[u]))]
theorem xZ {k:Nat} :∀(a:List (Nat×Operand)) (m:Nat),(∀p∈a,e' p.2=e p.2)->rowsOf e' k m a=rowsOf e k m a
 | [],_,_=>rfl
 |
  (i,x)::r,m,h=>by
  unfold rowsOf
  rw[h (i,x) (by simp),xZ r (m+1) (λp u=>h p (by simp[u]))]
theorem Ot {b:Builtin}{args:List Operand}{ats:Array TypeId}(he:∀y∈args,e' y=e y)(h:ry P e σ lab b args ats=some d)(hσ:∀l,l∈d.rd\/l∈d.wr->σ' l=σ l):ry P e' σ' lab b args ats=some d:=by
 unfold ry at h|-;split at h;rename_i x;simp only[he x (by simp)];exact h;rename_i x y;simp only[he x (by simp),he y (by simp)];exact h
 . rename_i x y;simp only[he x (by simp),he y (by simp)];split at h
   . rename_i t D a b u hx A;(try simp only[u,hx,A]);split at h;rename_i B;rw[if_pos B];split at h;rename_i hf;rw[if_pos hf];exact h;rename_i hf;rw[if_neg hf];exact Rx h hσ
     cases h
   cases h
 cases h
theorem Vu (he:∀x∈o.op.operands,e' x=e x)(h:dop P o e σ lab=some d)(hσ:∀l,l∈d.rd\/l∈d.wr->σ' l=σ l):dop P o e' σ' lab=some d:=by
 unfold dop at h|-;split at h;rename_i x ho;rw[ho] at he;simp only[he x (by simp[Op.operands])];exact h;rename_i x ho;rw[ho] at he;simp only[he x (by simp[Op.operands])];exact h;rename_i c a b ho;rw[ho] at he;simp only[he c (by simp[Op.operands]),he a (by simp[Op.operands]),he b (by simp[Op.operands])];exact h;exact h;rename_i t x ho;rw[ho] at he;simp only[he x (by simp[Op.operands])];exact h;rename_i t parts ho;rw[ho] at he;rw[Ig parts.toList (λp u=>he p.2 (by simp only[Op.operands];exact List.mem_toArray.2 (iV.2 ⟨p,u,rfl⟩)))];exact h
 . rename_i t n parts ho;rw[ho] at he;have u:∀p∈parts.toList,e' p.2=e p.2:=λp u=>he p.2 (by simp only[Op.operands];exact List.mem_toArray.2 (iV.2 ⟨p,u,rfl⟩));have:∀k,rowsOf e' k 0 parts.toList=rowsOf e k 0 parts.toList:=λk=>xZ parts.toList 0 u;have h2:Nu e' parts.toList=Nu e parts.toList:=by
    unfold Nu;split;rename_i q x hx;rw[u (q,x) (by rw[hx];exact ZH _)];rfl
   have h3:∀k n,dBV k n e' parts.toList=dBV k n e parts.toList:=(λk n=>by unfold dBV;split;rename_i x hx;rw[u (0,x) (by rw[hx];exact ZH _)];rfl);simp only[this,h2,h3];exact h
 rename_i t x ho;rw[ho] at he;rw[he x (by simp[Op.operands])];obtain⟨v,B,h⟩:=bind_some h;rw[B];exact Oo h hσ
 . rename_i t x y ho;rw[ho] at he;rw[he x (by simp[Op.operands]),he y (by simp[Op.operands])];split at h;rename_i D;rw[if_pos D];obtain⟨a,ha,h⟩:=bind_some h;obtain⟨v,B,h⟩:=bind_some h;rw[ha,B];exact KE h hσ
   cases h
 rename_i x ho;rw[ho] at he;simp only[he x (by simp[Op.operands])];exact h;rename_i op t x y E ho;rw[ho] at he;simp only[he x (by simp[Op.operands]),he y (by simp[Op.operands])];exact h;rename_i op t x ho;rw[ho] at he;simp only[he x (by simp[Op.operands])];exact h;rename_i s t x ho;rw[ho] at he;simp only[he x (by simp[Op.operands])];exact h;rename_i t x y ho;rw[ho] at he;simp only[he x (by simp[Op.operands]),he y (by simp[Op.operands])];exact h;rename_i t x lo hi ho;rw[ho] at he;rw[he x (by simp[Op.operands])];obtain⟨a,ha,h⟩:=bind_some h;rw[ha];exact Oq (λy A=>he y (by rcases A with rfl|rfl<;>simp[Op.operands])) h hσ;rename_i t x k ho;rw[ho] at he;simp only[he x (by simp[Op.operands])];exact h
 . rename_i t x y ho;rw[ho] at he;simp only[he x (by simp[Op.operands]),he y (by simp[Op.operands])];split at h
   . rename_i a G i hx A;(try simp only[hx,A]);exact Rw h hσ
   cases h
 rename_i t x y ho;rw[ho] at he;simp only[he x (by simp[Op.operands]),he y (by simp[Op.operands])];exact h;rename_i x i ho;rw[ho] at he;simp only[he x (by simp[Op.operands])];exact h
 . rename_i c ho;rw[ho] at he;obtain⟨callee,args,ats⟩:=c;split at h;rename_i b hb;dsimp only at hb h|-;subst hb;exact Ot (λy A=>he y (by simp[Op.operands,Call.operands];simpa using A)) h hσ
   cases h
 cases h
structure DOk (d:DO):Prop where
 inh:d.ok->∃v,d.out v
 det:d.det=true->∀v v',d.out v->d.out v'->v=v'
theorem lF {v:AV} :DOk (.val v):=⟨λ_=>⟨v,rfl⟩,λ_ a b h u=>(show a=v from h).trans (show b=v from u).symm⟩
theorem uJ {p:Prop}{v:AV} :DOk (.chk p v):=⟨λ_=>⟨v,rfl⟩,λ_ a b h u=>(show a=v from h).trans (show b=v from u).symm⟩
theorem jF {p:Prop}{v:AV}{rd:List Nat}{b:Bool}{u:List (Nat×Option Obj)} :DOk ⟨p,λx=>x=v,rd,b,u⟩:=⟨λ_=>⟨v,rfl⟩,λ_ a b h y=>(show a=v from h).trans (show b=v from y).symm⟩
theorem CT.inh (c:CT):∃p,c.ok p:=by
 cases c with
 |int k=>exact ⟨.sc (.int k 0),0,by cases k<;>rfl,rfl⟩
 |bool=>exact ⟨boolP true,true,rfl⟩
 |asc b=>exact ⟨.sl [],[],rfl,by simp,by simp⟩
theorem BO {α:Type}{x:Option α}{f:α->AV}(h:x.map (λa=>DO.val (f a))=some d):DOk d:=by obtain⟨a,_,rfl⟩:=map_some h;exact lF
theorem qC {x:Option AV}(h:x.map DO.val=some d):DOk d:=by obtain⟨a,_,rfl⟩:=map_some h;exact lF
theorem ZI (cts:List CT):∃a,afo cts a:=by obtain⟨a,h1,h2⟩:=afp (Q:=λj p=>∀ct,cts[j]?=some ct->ct.ok p) cts.length (λj y=>by obtain⟨p,u⟩:=cts[j].inh;exact⟨p,λct hc=>by rw[aV y] at hc;injection hc with hc;subst hc;exact u⟩);exact⟨a,h1,λj ct p hc u=>h2 j p u ct hc⟩
theorem JQ (h:dop P o e σ lab=some d):DOk d:=by
 unfold dop at h;split at h;exact qC h;exact qC h
 . split at h;exact qC h
   cases h
 obtain⟨v,y,rfl⟩:=map_some h;exact jF
 . obtain⟨v,y,h⟩:=bind_some h;split at h;injection h with h;subst h;exact jF
   cases h
 . split at h;exact BO h
   cases h
 . split at h
   . split at h
     . split at h;injection h with h;subst h;exact lF
       cases h
     . split at h;split at h;obtain⟨v,rfl⟩:=BB h;exact lF;exact BO h
       cases h
   cases h
 . obtain⟨v,y,h⟩:=bind_some h;unfold lH at h;split at h
   . split at h;obtain⟨u,A,rfl⟩:=map_some h;exact jF
     cases h
   exact qC h
   . split at h
     . split at h;injection h with h;subst h;exact⟨λ⟨row,v,h1,h2⟩=>⟨v,row,h1,h2⟩,λ_ a b ⟨r1,h1,h2⟩ ⟨B,h3,h4⟩=>by rw[h1] at h3;injection h3 with h3;subst h3;rw[h2] at h4;injection h4⟩
       cases h
     . split at h;obtain⟨u,A,rfl⟩:=map_some h;exact jF
       cases h
     cases h
   . split at h;obtain⟨ct,hc,rfl⟩:=map_some h;exact⟨λ_=>by obtain⟨p,D⟩:=ct.inh;exact⟨_,p,D,rfl⟩,λh=>by cases h⟩
     . split at h;injection h with h;subst h;refine⟨λ_=>?_,λh=>by cases h⟩;exact (ZI _).elim λE h=>⟨_,E,h,rfl⟩
       cases h
   cases h
 . split at h
   . obtain⟨a,ha,h⟩:=bind_some h;obtain⟨v,y,h⟩:=bind_some h;unfold jV at h;split at h
     . split at h
       . split at h;injection h with h;subst h;exact jF
         cases h
       cases h
     . split at h
       . split at h;injection h with h;subst h;exact jF
         cases h
       . split at h;injection h with h;subst h;exact jF
         cases h
       cases h
     . split at h
       . split at h;injection h with h;subst h;exact jF
         cases h
       cases h
     cases h
   cases h
 . obtain⟨v,y,h⟩:=bind_some h;split at h;injection h with h;subst h;exact lF
   cases h
 . split at h;split at h;injection h with h;subst h;exact uJ;exact BO h
   cases h
 . split at h;injection h with h;subst h;exact lF;injection h with h;subst h;exact lF;injection h with h;subst h;exact lF
   cases h
 . split at h;injection h with h;subst h;exact lF
   cases h
 . split at h
   . split at h;obtain⟨cts,hc,rfl⟩:=map_some h;exact uJ
     cases h
   cases h
 . obtain⟨a,ha,h⟩:=bind_some h;unfold mY at h;split at h
   . split at h;injection h with h;subst h;exact uJ
     cases h
   . split at h
     . split at h;injection h with h;subst h;exact jF
       cases h
     cases h
   cases h
 . split at h;exact qC h
   cases h
 . split at h
   . unfold uO at h;split at h;injection h with h;subst h;exact⟨λ⟨_,row,h1,_⟩=>⟨_,row,h1,rfl⟩,λ_ a b ⟨r1,h1,h2⟩ ⟨B,h3,h4⟩=>by rw[h1] at h3;injection h3 with h3;subst h3;rw[h2,h4]⟩
     . split at h
       . split at h;injection h with h;subst h;exact jF
         cases h
       . split at h;injection h with h;subst h;exact jF
         cases h
       cases h
     . split at h;injection h with h;subst h;exact jF
       cases h
     cases h
   cases h
 . split at h
   . split at h;injection h with h;subst h;exact uJ
     cases h
   cases h
 . split at h;exact qC h
   cases h
 . split at h
   . unfold ry at h;split at h
     . split at h;exact BO h
       cases h
     . split at h
       . split at h;injection h with h;subst h;exact lF
         cases h
       cases h
     . split at h
       . split at h
         . split at h
           . unfold Iq at h;split at h;injection h with h;subst h;exact uJ
             cases h
           unfold qH at h;split at h
           . split at h
             . split at h;injection h with h;subst h;exact jF
               cases h
             . split at h;injection h with h;subst h;exact jF
               cases h
             . split at h
               . split at h;injection h with h;subst h;exact jF
                 cases h
               cases h
             cases h
           . split at h;injection h with h;subst h;exact uJ
             cases h
           . split at h;injection h with h;subst h;exact jF
             cases h
           cases h
         cases h
       cases h
     cases h
   cases h
 cases h
end
