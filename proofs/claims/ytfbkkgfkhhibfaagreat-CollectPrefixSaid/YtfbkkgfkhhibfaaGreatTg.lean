/- Words. -/
set_option linter.unusedVariables false
namespace Mk
inductive Nm|a|b|x|y|v
inductive Lf|num (n:Fin 4)|var (k:Nm)
inductive Ex|leaf (l:Lf)|idx (l:Lf)|bin (k:Fin 6) (l r:Lf)
inductive Bk|m|n|rd|wr
inductive Sg|wait|one|all
inductive Sm
 |asg (k:Nm) (e:Ex)
 |asq (i:Lf) (e:Ex)
 |ite (e:Ex) (b c:List Sm)
 |whl (e:Ex) (b:List Sm)
 |blk (k:Bk) (b:List Sm)
 |tx (b:List Sm)
 |atm (b:List Sm)
 |sig (k:Sg)
 |spawn (k:Nat)
 |join
 |set (e:Ex)
 |get
def Ex.kids:Ex->List Lf
 | .leaf _=> []
 | .idx l=> [l]
 | .bin _ l r=> [l,r]
def Sm.body:Sm->List Sm
 | .ite _ b _ | .whl _ b | .blk _ b | .tx b | .atm b=>b
 |_=> []
def Sm.els:Sm->List Sm
 | .ite _ _ c=>c
 |_=> []
def Sm.index:Sm->List Lf
 | .asq i _=> [i]
 |_=> []
mutual
def fZ:Sm->Nat
 | .ite _ b c=>1+aH b+aH c
 | .whl _ b | .blk _ b | .tx b | .atm b=>1+aH b
 |_=>1
def aH:List Sm->Nat
 | []=>0
 |s::r=>fZ s+aH r
end
def nest (b:Bool):Int:=if b then 7 else 0
def Nm.str:Nm->ByteArray
 | .a=>⟨#[97]⟩
 | .b=>⟨#[98]⟩
 | .x=>⟨#[120]⟩
 | .y=>⟨#[121]⟩
 | .v=>⟨#[118]⟩
def Lf.op:Lf->Int
 | .num _=>1
 | .var _=>2
def Lf.n:Lf->Int
 | .num n=>(n.val:Int)
 | .var _=>0
def Lf.name:Lf->ByteArray
 | .num _=>⟨#[]⟩
 | .var k=>k.str
def binOp (k:Fin 6):Int:=#[6,7,8,11,13,17][k]
def Ex.op:Ex->Int
 | .leaf l=>l.op
 | .idx _=>3
 | .bin k _ _=>binOp k
def Ex.n:Ex->Int
 | .leaf l=>l.n
 |_=>0
def Ex.name:Ex->ByteArray
 | .leaf l=>l.name
 | .idx _=>⟨#[113]⟩
 | .bin _ _ _=>⟨#[]⟩
def Sm.op:Sm->Int
 | .asg _ _ | .asq _ _=>1
 | .ite _ _ _=>2
 | .whl _ _=>3
 | .blk .m _ | .blk .n _=>4
 | .blk .rd _=>5
 | .blk .wr _=>6
 | .tx _=>7
 | .atm _=>8
 | .sig .wait=>9
 | .sig .one=>10
 | .sig .all=>11
 | .spawn _=>12
 | .join=>13
 | .set _=>14
 | .get=>15
def aX:Nat->ByteArray
 |0=>⟨#[109,97,105,110]⟩
 |1=>⟨#[116,49]⟩
 |2=>⟨#[116,50]⟩
 |_=>⟨#[116,51]⟩
def Sm.name:Sm->ByteArray
 | .asg k _=>k.str
 | .asq _ _=>⟨#[113]⟩
 | .blk .m _=>⟨#[109]⟩
 | .blk .n _=>⟨#[110]⟩
 | .blk _ _=>⟨#[114]⟩
 | .sig _=>⟨#[99]⟩
 | .spawn k=>aX k
 | .join=>aX 1
 | .set _=>⟨#[102]⟩
 | .get=>⟨#[97]⟩
 |_=>⟨#[]⟩
def Sm.arg:Sm->ByteArray
 | .get=>⟨#[102]⟩
 |_=>⟨#[]⟩
def Sm.ex:Sm->Option Ex
 | .asg _ e | .asq _ e | .ite e _ _ | .whl e _ | .set e=>some e
 |_=>none
theorem lW (s:Sm):fZ s=1+aH s.body+aH s.els:=by cases s<;>simp[fZ,Sm.body,Sm.els,aH]
def xI:List Sm->Nat
 | []=>0
 |s::r=>aH s.body+aH s.els+xI r
theorem yI:∀l,aH l=l.length+xI l
 | []=>rfl
 |
  s::r=>by
  rw[aH,lW,yI r,xI,List.length_cons]
  omega
theorem Ic:∀(l:List Sm) (k:Nat) (s:Sm),l[k]?=some s->xI (l.take (k+1))=xI (l.take k)+(aH s.body+aH s.els)
 | [],k,s,h=>by simp at h
 |
  x::r,0,s,h=>by
  simp only[List.getElem?_cons_zero,Option.some.injEq] at h
  subst h
  simp[xI]
 |
  x::r,k+1,s,h=>by
  simp only[List.getElem?_cons_succ] at h
  rw[List.take_succ_cons,List.take_succ_cons,xI,xI,Ic r k s h]
  omega
theorem JP:∀(l:List Sm) (k:Nat),xI (l.take k)<=xI l
 | [],k=>by simp
 |x::r,0=>by simp[xI]
 |
  x::r,k+1=>by
  rw[List.take_succ_cons,xI,xI]
  have:=JP r k
  omega
def gK (s:ByteArray):Int->List ByteArray->Int
 |_,[]=> -1
 |i,x::r=>if x=s then i else gK s (i+1) r
def jl (l:List ByteArray)(s:ByteArray):Int:=gK s 0 l
theorem at_hit {s:ByteArray}{l:List ByteArray}{i:Nat}(hi:i<l.length)(he:l[i]=s)(h:jl l s=gK s i (l.drop i)):jl l s=i:=by rw[h,List.drop_eq_getElem_cons hi,gK,if_pos he]
theorem pM {s:ByteArray}{l:List ByteArray}{i:Nat}(hi:i<l.length)(he:l[i]≠s)(h:jl l s=gK s i (l.drop i)):jl l s=gK s (i+1:Nat) (l.drop (i+1)):=by rw[h,List.drop_eq_getElem_cons hi,gK,if_neg he];rfl
theorem uH {s:ByteArray}{l:List ByteArray}{i:Nat}(hi:¬i<l.length)(h:jl l s=gK s i (l.drop i)):jl l s= -1:=by rw[h,List.drop_eq_nil_of_le (by omega)];rfl
def thNames (n:Nat):List ByteArray:=(List.range n).map aX
def bQ:List ByteArray:=[⟨#[97]⟩,⟨#[98]⟩]
def zQ:List ByteArray:=[⟨#[120]⟩,⟨#[121]⟩,⟨#[118]⟩,⟨#[113]⟩,⟨#[109]⟩,⟨#[110]⟩,⟨#[114]⟩,⟨#[99]⟩,⟨#[102]⟩]
def afw:List Int:=[1,1,1,2,3,3,4,5,6]
def yJ (n:Nat)(s:ByteArray):Int:=
 if 0<=jl bQ s then 8 else if 0<=jl zQ s then afw[(jl zQ s).toNat]?.getD 9 else if 0<=jl (thNames n) s then 7 else 0
def mP (n:Nat)(s:ByteArray)(a b:Int):Int:=if yJ n s=0 then 5 else if yJ n s≠a/\yJ n s≠b then 6 else 0
def nH (ar:List Sm)(a b:Int)(s:ByteArray):Bool:=ar.any λx=>(decide (x.op=a) || decide (x.op=b)) &&(decide (s=⟨#[]⟩) || decide (x.name=s))
def jB (n t:Nat)(ar:List Sm)(sp st:List ByteArray):Sm->Int×List ByteArray×List ByteArray
 | .asg _ _ | .asq _ _ | .ite _ _ _ | .whl _ _=>(0,sp,st)
 | .blk .m _=>(nest (nH ar 7 7 ⟨#[]⟩ || nH ar 4 4 ⟨#[109]⟩),sp,st)
 | .blk .n _=>(nest (nH ar 7 7 ⟨#[]⟩ || nH ar 4 4 ⟨#[110]⟩),sp,st)
 | .blk .rd _ | .blk .wr _=>(nest (nH ar 7 7 ⟨#[]⟩ || nH ar 5 6 ⟨#[114]⟩),sp,st)
 | .tx _=>(nest (nH ar 7 7 ⟨#[]⟩),sp,st)
 | .atm _=>(nest (nH ar 7 7 ⟨#[]⟩ || nH ar 8 8 ⟨#[]⟩),sp,st)
 | .sig .wait=>(nest (nH ar 7 7 ⟨#[]⟩ || !nH ar 4 4 ⟨#[109]⟩ || nH ar 8 8 ⟨#[]⟩),sp,st)
 | .sig _=>(nest (nH ar 7 7 ⟨#[]⟩ || !nH ar 4 4 ⟨#[109]⟩),sp,st)
 |
  .spawn k=>
  if jl (thNames n) (aX k)<0 then (5,sp,st)
  else if nH ar 7 7 ⟨#[]⟩ || nH ar 8 8 ⟨#[]⟩ || nH ar 3 3 ⟨#[]⟩ || decide (jl (thNames n) (aX k)=t) || decide (jl (thNames n) (aX k)=0) then (7,sp,st)
  else if 0<=jl sp (aX k) then (8,sp,st) else (0,sp++[aX k],st)
 | .join=>(if jl (thNames n) (aX 1)<0 then 5 else nest (nH ar 7 7 ⟨#[]⟩ || nH ar 8 8 ⟨#[]⟩ || decide (jl (thNames n) (aX 1)=t)),sp,st)
 | .set _=>(if nH ar 7 7 ⟨#[]⟩ || nH ar 3 3 ⟨#[]⟩ then 7 else if 0<=jl st ⟨#[102]⟩ then 8 else 0,sp,st++[⟨#[102]⟩])
 | .get=>(nest (nH ar 7 7 ⟨#[]⟩),sp,st)
mutual
def allS (n t:Nat)(ar:List Sm)(sp st:List ByteArray):Sm->Int×List ByteArray×List ByteArray
 |
  .ite e b c=>
  let r:=jB n t ar sp st (.ite e b c)
  let x:=if 6<ar.length+1 then 2 else r.1
  if x≠0 then (x,r.2) else
  let y:=allL n t (ar++[.ite e b c]) r.2.1 r.2.2 b
  if y.1≠0 then y else allL n t (ar++[.ite e b c]) y.2.1 y.2.2 c
 |
  .whl e b=>
  let r:=jB n t ar sp st (.whl e b)
  let x:=if 6<ar.length+1 then 2 else r.1
  if x≠0 then (x,r.2) else allL n t (ar++[.whl e b]) r.2.1 r.2.2 b
 |
  .blk k b=>
  let r:=jB n t ar sp st (.blk k b)
  let x:=if 6<ar.length+1 then 2 else r.1
  if x≠0 then (x,r.2) else allL n t (ar++[.blk k b]) r.2.1 r.2.2 b
 |
  .tx b=>
  let r:=jB n t ar sp st (.tx b)
  let x:=if 6<ar.length+1 then 2 else r.1
  if x≠0 then (x,r.2) else allL n t (ar++[.tx b]) r.2.1 r.2.2 b
 |
  .atm b=>
  let r:=jB n t ar sp st (.atm b)
  let x:=if 6<ar.length+1 then 2 else r.1
  if x≠0 then (x,r.2) else allL n t (ar++[.atm b]) r.2.1 r.2.2 b
 |
  s=>
  let r:=jB n t ar sp st s
  (if 6<ar.length+1 then 2 else r.1,r.2)
def allL (n t:Nat)(ar:List Sm)(sp st:List ByteArray):List Sm->Int×List ByteArray×List ByteArray
 | []=>(0,sp,st)
 |
  s::r=>
  let x:=allS n t ar sp st s
  if x.1≠0 then x else allL n t ar x.2.1 x.2.2 r
end
def JQ (n t:Nat)(ar:List Sm)(sp st:List ByteArray)(s:Sm):Int:=if 6<ar.length+1 then 2 else (jB n t ar sp st s).1
theorem aoL {x:Int×List ByteArray×List ByteArray}(h:x.1=0):(0,x.2.1,x.2.2)=x:=by
 obtain⟨a,b,c⟩:=x
 cases h
 rfl
theorem JR (n t:Nat)(a:List Sm)(d q:List ByteArray)(s:Sm):allS n t a d q s=
 (if JQ n t a d q s≠0 then (JQ n t a d q s,(jB n t a d q s).2) else
  if (allL n t (a++[s]) (jB n t a d q s).2.1 (jB n t a d q s).2.2 s.body).1≠0 then allL n t (a++[s]) (jB n t a d q s).2.1 (jB n t a d q s).2.2 s.body
  else allL n t (a++[s]) (allL n t (a++[s]) (jB n t a d q s).2.1 (jB n t a d q s).2.2 s.body).2.1 (allL n t (a++[s]) (jB n t a d q s).2.1 (jB n t a d q s).2.2 s.body).2.2 s.els):=by cases s<;>simp only[allS,JQ,Sm.body,Sm.els,allL]<;>(try rfl)<;>(repeat' split)<;>simp_all<;>(try exact (aoL (by assumption)).symm)
def OA (n:Nat):Nat->List ByteArray->List ByteArray->List (List Sm)->Int
 |_,_,_,[]=>0
 |t,sp,st,b::r=>if (allL n t [] sp st b).1≠0 then (allL n t [] sp st b).1 else OA n (t+1) (allL n t [] sp st b).2.1 (allL n t [] sp st b).2.2 r
def gy:List (List Sm)->Nat
 | []=>0
 |b::r=>aH b+gy r
def qy (bs:List (List Sm)):Int:=if 60<gy bs then 2 else OA bs.length 0 [] [] bs
theorem Pn (n t:Nat)(q:List Sm)(a d:List ByteArray)(s:Sm):(jB n t q a d s).2.1.length<=a.length+1/\(jB n t q a d s).2.2.length<=d.length+1:=by unfold jB;split<;>(repeat' split)<;>simp
theorem qN (n t:Nat):∀(m:Nat) (l:List Sm),aH l<=m->∀(a:List Sm) (d q:List ByteArray),(allL n t a d q l).2.1.length<=d.length+aH l/\(allL n t a d q l).2.2.length<=q.length+aH l
 |m,[],_,a,d,q=>by simp[allL]
 |0,s::r,h,a,d,q=>by rw[aH,lW] at h;omega
 |
  m+1,s::r,h,a,d,q=>by
  rw[aH,lW] at h|-
  have h1:=Pn n t a d q s
  have h2:=qN n t m s.body (by omega) (a++[s]) (jB n t a d q s).2.1 (jB n t a d q s).2.2
  have h3:=qN n t m s.els (by omega) (a++[s]) (allL n t (a++[s]) (jB n t a d q s).2.1 (jB n t a d q s).2.2 s.body).2.1 (allL n t (a++[s]) (jB n t a d q s).2.1 (jB n t a d q s).2.2 s.body).2.2
  have u:(allS n t a d q s).2.1.length<=d.length+(1+aH s.body+aH s.els)/\(allS n t a d q s).2.2.length<=q.length+(1+aH s.body+aH s.els):=by
   rw[JR]
   split
   . exact⟨by show (jB n t a d q s).2.1.length<=_;omega,by show (jB n t a d q s).2.2.length<=_;omega⟩
   . split<;>omega
  have h4:=qN n t m r (by omega) a (allS n t a d q s).2.1 (allS n t a d q s).2.2
  simp only[allL]
  split<;>omega
structure In where
 op:Int
 a:Int
 b:Int
 c:Int
 n:Int
 site:Int
def kP (st:Int)(l:Lf)(d:Int):In:=match l with
 | .num n=>⟨1,d,0,0,(n.val:Int),st⟩
 | .var .a=>⟨2,d,0,0,0,st⟩
 | .var .b=>⟨2,d,1,0,0,st⟩
 | .var .x=>⟨6,d,0,0,0,st⟩
 | .var .y=>⟨6,d,1,0,0,st⟩
 | .var .v=>⟨6,d,2,0,0,st⟩
def aO (st:Int)(e:Ex)(d:Int):List In:=match e with
 | .leaf l=> [kP st l d]
 | .idx l=> [kP st l d,⟨7,d,3,d,2,st⟩]
 | .bin k l r=> [kP st l d,kP st r (d+1),⟨4,d,d,d+1,binOp k,st⟩]
def DT (st:Int):Nm->In
 | .a=>⟨2,0,2,0,0,st⟩
 | .b=>⟨2,1,2,0,0,st⟩
 | .x=>⟨8,0,2,0,0,st⟩
 | .y=>⟨8,1,2,0,0,st⟩
 | .v=>⟨8,2,2,0,0,st⟩
def Bk.fst:Bk->Int
 | .m=>11 | .n=>11 | .rd=>13 | .wr=>15
def Bk.obj:Bk->Int
 | .m=>0 | .n=>1 | .rd=>2 | .wr=>2
def Sg.op:Sg->Int
 | .wait=>21 | .one=>22 | .all=>23
mutual
def genS (nth base st:Nat):Sm->List In
 | .asg k e=>aO st e 2++[DT st k]
 | .asq i e=>kP st i 2::(aO st e 3++[⟨9,3,3,2,2,st⟩])
 | .ite e b []=>aO st e 2++⟨10,2,((base+(aO st e 2).length+1+(genL nth (base+(aO st e 2).length+1) (st+1) b).length:Nat):Int),0,0,st⟩::genL nth (base+(aO st e 2).length+1) (st+1) b
 |
  .ite e b (c::r)=>
  aO st e 2++⟨10,2,((base+(aO st e 2).length+1+(genL nth (base+(aO st e 2).length+1) (st+1) b).length+1:Nat):Int),0,0,st⟩::(genL nth (base+(aO st e 2).length+1) (st+1) b++
   ⟨5,((base+(aO st e 2).length+1+(genL nth (base+(aO st e 2).length+1) (st+1) b).length+1+(genL nth (base+(aO st e 2).length+1+(genL nth (base+(aO st e 2).length+1) (st+1) b).length+1) (st+1+aH b) (c::r)).length:Nat):Int),0,0,0,st⟩ ::
   genL nth (base+(aO st e 2).length+1+(genL nth (base+(aO st e 2).length+1) (st+1) b).length+1) (st+1+aH b) (c::r))
 | .whl e b=>aO st e 2++⟨10,2,((base+(aO st e 2).length+1+(genL nth (base+(aO st e 2).length+1) (st+1) b).length+1:Nat):Int),0,0,st⟩::(genL nth (base+(aO st e 2).length+1) (st+1) b++[⟨5,(base:Int),0,0,0,st⟩])
 | .blk k b=>⟨k.fst,k.obj,0,0,0,st⟩::(genL nth (base+1) (st+1) b++[⟨k.fst+1,k.obj,0,0,0,st⟩])
 | .tx b=>⟨17,0,0,0,0,st⟩::(genL nth (base+1) (st+1) b++[⟨18,0,0,0,0,st⟩])
 | .atm b=>⟨19,0,0,0,0,st⟩::(genL nth (base+1) (st+1) b++[⟨20,0,0,0,0,st⟩])
 | .sig k=> [⟨k.op,0,0,0,0,st⟩]
 | .spawn k=> [⟨24,jl (thNames nth) (aX k),0,0,0,st⟩]
 | .join=> [⟨25,jl (thNames nth) (aX 1),0,0,0,st⟩]
 | .set e=>aO st e 2++[⟨26,0,2,0,0,st⟩]
 | .get=> [⟨27,0,0,0,0,st⟩]
def genL (nth base st:Nat):List Sm->List In
 | []=> []
 |s::r=>genS nth base st s++genL nth (base+(genS nth base st s).length) (st+fZ s) r
end
def regsI (i:In):List Int:=
 if i.op=1\/i.op=6\/i.op=10\/i.op=27 then [i.a]
 else if i.op=2\/i.op=3 then [i.a,i.b]
 else if i.op=4 then [i.a,i.b,i.c]
 else if i.op=7 then [i.a,i.c]
 else if i.op=8\/i.op=26 then [i.b]
 else if i.op=9 then [i.b,i.c]
 else []
def kN (nth st:Nat)(b:List Sm):List In:=genL nth 0 st b++[⟨28,0,0,0,0,-1⟩]
def jw (m:Int)(l:List Int):Int:=l.foldl (λm r=>max m (r+1)) m
def DU (l:List In):Int:=l.foldl (λm i=>jw m (regsI i)) 2
def codeF (nth:Nat):Nat->List (List Sm)->List (Int×List In)
 |_,[]=> []
 |st,b::r=>(DU (kN nth st b),kN nth st b)::codeF nth (st+aH b) r
def DW (t:Nat)(b:List Sm):List (Nat×Nat):=(List.range (aH b)).map λk=>(t,k)
def ed:Nat->List (List Sm)->List (Nat×Nat)
 |_,[]=> []
 |t,b::r=>DW t b++ed (t+1) r
