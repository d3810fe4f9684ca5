/- Words. -/
import Derived.RowKit
set_option linter.unusedVariables false
set_option linter.unusedSimpArgs false
namespace Mk
inductive Nm|a|b|x|y|v
inductive Lf|num (n:Fin 4)|var (k:Nm)
inductive Ex|leaf (l:Lf)|idx (l:Lf)|bin (k:Fin 6) (l r:Lf)
inductive Bk|m|n|rd|wr
inductive Sg|wait|one|all
inductive Sm
 |asg (k:Nm) (e:Ex)
 |asq (i:Lf) (e:Ex)
 |ite (e:Ex) (b c:List Sm)
 |whl (e:Ex) (b:List Sm)
 |blk (k:Bk) (b:List Sm)
 |tx (b:List Sm)
 |atm (b:List Sm)
 |sig (k:Sg)
 |spawn (k:Nat)
 |join
 |set (e:Ex)
 |get
def Ex.kids:Ex->List Lf
 | .leaf _=> []
 | .idx l=> [l]
 | .bin _ l r=> [l,r]
def Sm.body:Sm->List Sm
 | .ite _ b _ | .whl _ b | .blk _ b | .tx b | .atm b=>b
 |_=> []
def Sm.els:Sm->List Sm
 | .ite _ _ c=>c
 |_=> []
def Sm.index:Sm->List Lf
 | .asq i _=> [i]
 |_=> []
mutual
def fK:Sm->Nat
 | .ite _ b c=>1+aF b+aF c
 | .whl _ b | .blk _ b | .tx b | .atm b=>1+aF b
 |_=>1
def aF:List Sm->Nat
 | []=>0
 |s::r=>fK s+aF r
end
def nest (b:Bool):Int:=if b then 7 else 0
def Nm.str:Nm->ByteArray
 | .a=>⟨#[97]⟩
 | .b=>⟨#[98]⟩
 | .x=>⟨#[120]⟩
 | .y=>⟨#[121]⟩
 | .v=>⟨#[118]⟩
def Lf.op:Lf->Int
 | .num _=>1
 | .var _=>2
def Lf.n:Lf->Int
 | .num n=>(n.val:Int)
 | .var _=>0
def Lf.name:Lf->ByteArray
 | .num _=>⟨#[]⟩
 | .var k=>k.str
def binOp (k:Fin 6):Int:=#[6,7,8,11,13,17][k]
def Ex.op:Ex->Int
 | .leaf l=>l.op
 | .idx _=>3
 | .bin k _ _=>binOp k
def Ex.n:Ex->Int
 | .leaf l=>l.n
 |_=>0
def Ex.name:Ex->ByteArray
 | .leaf l=>l.name
 | .idx _=>⟨#[113]⟩
 | .bin _ _ _=>⟨#[]⟩
def Sm.op:Sm->Int
 | .asg _ _ | .asq _ _=>1
 | .ite _ _ _=>2
 | .whl _ _=>3
 | .blk .m _ | .blk .n _=>4
 | .blk .rd _=>5
 | .blk .wr _=>6
 | .tx _=>7
 | .atm _=>8
 | .sig .wait=>9
 | .sig .one=>10
 | .sig .all=>11
 | .spawn _=>12
 | .join=>13
 | .set _=>14
 | .get=>15
def aS:Nat->ByteArray
 |0=>⟨#[109,97,105,110]⟩
 |1=>⟨#[116,49]⟩
 |2=>⟨#[116,50]⟩
 |_=>⟨#[116,51]⟩
def Sm.name:Sm->ByteArray
 | .asg k _=>k.str
 | .asq _ _=>⟨#[113]⟩
 | .blk .m _=>⟨#[109]⟩
 | .blk .n _=>⟨#[110]⟩
 | .blk _ _=>⟨#[114]⟩
 | .sig _=>⟨#[99]⟩
 | .spawn k=>aS k
 | .join=>aS 1
 | .set _=>⟨#[102]⟩
 | .get=>⟨#[97]⟩
 |_=>⟨#[]⟩
def Sm.arg:Sm->ByteArray
 | .get=>⟨#[102]⟩
 |_=>⟨#[]⟩
def Sm.ex:Sm->Option Ex
 | .asg _ e | .asq _ e | .ite e _ _ | .whl e _ | .set e=>some e
 |_=>none
theorem lJ (s:Sm):fK s=1+aF s.body+aF s.els:=by cases s<;>simp[fK,Sm.body,Sm.els,aF]
def xA:List Sm->Nat
 | []=>0
 |s::r=>aF s.body+aF s.els+xA r
theorem yC:∀l,aF l=l.length+xA l
 | []=>rfl
 |
  s::r=>by
  rw[aF,lJ,yC r,xA,List.length_cons]
  omega
theorem Ib:∀(l:List Sm) (k:Nat) (s:Sm),l[k]?=some s->xA (l.take (k+1))=xA (l.take k)+(aF s.body+aF s.els)
 | [],k,s,h=>by simp at h
 |
  x::r,0,s,h=>by
  simp only[List.getElem?_cons_zero,Option.some.injEq] at h
  subst h
  simp[xA]
 |
  x::r,k+1,s,h=>by
  simp only[List.getElem?_cons_succ] at h
  rw[List.take_succ_cons,List.take_succ_cons,xA,xA,Ib r k s h]
  omega
theorem JL:∀(l:List Sm) (k:Nat),xA (l.take k)<=xA l
 | [],k=>by simp
 |x::r,0=>by simp[xA]
 |
  x::r,k+1=>by
  rw[List.take_succ_cons,xA,xA]
  have:=JL r k
  omega
def gu (s:ByteArray):Int->List ByteArray->Int
 |_,[]=> -1
 |i,x::r=>if x=s then i else gu s (i+1) r
def jd (l:List ByteArray)(s:ByteArray):Int:=gu s 0 l
theorem at_hit {s:ByteArray}{l:List ByteArray}{i:Nat}(hi:i<l.length)(he:l[i]=s)(h:jd l s=gu s i (l.drop i)):jd l s=i:=by rw[h,List.drop_eq_getElem_cons hi,gu,if_pos he]
theorem oQ {s:ByteArray}{l:List ByteArray}{i:Nat}(hi:i<l.length)(he:l[i]≠s)(h:jd l s=gu s i (l.drop i)):jd l s=gu s (i+1:Nat) (l.drop (i+1)):=by rw[h,List.drop_eq_getElem_cons hi,gu,if_neg he];rfl
theorem uq {s:ByteArray}{l:List ByteArray}{i:Nat}(hi:¬i<l.length)(h:jd l s=gu s i (l.drop i)):jd l s= -1:=by rw[h,List.drop_eq_nil_of_le (by omega)];rfl
def thNames (n:Nat):List ByteArray:=(List.range n).map aS
def bK:List ByteArray:=[⟨#[97]⟩,⟨#[98]⟩]
def zG:List ByteArray:=[⟨#[120]⟩,⟨#[121]⟩,⟨#[118]⟩,⟨#[113]⟩,⟨#[109]⟩,⟨#[110]⟩,⟨#[114]⟩,⟨#[99]⟩,⟨#[102]⟩]
def afu:List Int:=[1,1,1,2,3,3,4,5,6]
def yD (n:Nat)(s:ByteArray):Int:=
 if 0<=jd bK s then 8 else if 0<=jd zG s then afu[(jd zG s).toNat]?.getD 9 else if 0<=jd (thNames n) s then 7 else 0
def mi (n:Nat)(s:ByteArray)(a b:Int):Int:=if yD n s=0 then 5 else if yD n s≠a/\yD n s≠b then 6 else 0
def ng (ar:List Sm)(a b:Int)(s:ByteArray):Bool:=ar.any λx=>(decide (x.op=a) || decide (x.op=b)) &&(decide (s=⟨#[]⟩) || decide (x.name=s))
def jl (n t:Nat)(ar:List Sm)(sp st:List ByteArray):Sm->Int×List ByteArray×List ByteArray
 | .asg _ _ | .asq _ _ | .ite _ _ _ | .whl _ _=>(0,sp,st)
 | .blk .m _=>(nest (ng ar 7 7 ⟨#[]⟩ || ng ar 4 4 ⟨#[109]⟩),sp,st)
 | .blk .n _=>(nest (ng ar 7 7 ⟨#[]⟩ || ng ar 4 4 ⟨#[110]⟩),sp,st)
 | .blk .rd _ | .blk .wr _=>(nest (ng ar 7 7 ⟨#[]⟩ || ng ar 5 6 ⟨#[114]⟩),sp,st)
 | .tx _=>(nest (ng ar 7 7 ⟨#[]⟩),sp,st)
 | .atm _=>(nest (ng ar 7 7 ⟨#[]⟩ || ng ar 8 8 ⟨#[]⟩),sp,st)
 | .sig .wait=>(nest (ng ar 7 7 ⟨#[]⟩ || !ng ar 4 4 ⟨#[109]⟩ || ng ar 8 8 ⟨#[]⟩),sp,st)
 | .sig _=>(nest (ng ar 7 7 ⟨#[]⟩ || !ng ar 4 4 ⟨#[109]⟩),sp,st)
 |
  .spawn k=>
  if jd (thNames n) (aS k)<0 then (5,sp,st)
  else if ng ar 7 7 ⟨#[]⟩ || ng ar 8 8 ⟨#[]⟩ || ng ar 3 3 ⟨#[]⟩ || decide (jd (thNames n) (aS k)=t) || decide (jd (thNames n) (aS k)=0) then (7,sp,st)
  else if 0<=jd sp (aS k) then (8,sp,st) else (0,sp++[aS k],st)
 | .join=>(if jd (thNames n) (aS 1)<0 then 5 else nest (ng ar 7 7 ⟨#[]⟩ || ng ar 8 8 ⟨#[]⟩ || decide (jd (thNames n) (aS 1)=t)),sp,st)
 | .set _=>(if ng ar 7 7 ⟨#[]⟩ || ng ar 3 3 ⟨#[]⟩ then 7 else if 0<=jd st ⟨#[102]⟩ then 8 else 0,sp,st++[⟨#[102]⟩])
 | .get=>(nest (ng ar 7 7 ⟨#[]⟩),sp,st)
mutual
def allS (n t:Nat)(ar:List Sm)(sp st:List ByteArray):Sm->Int×List ByteArray×List ByteArray
 |
  .ite e b c=>
  let r:=jl n t ar sp st (.ite e b c)
  let x:=if 6<ar.length+1 then 2 else r.1
  if x≠0 then (x,r.2) else
  let y:=allL n t (ar++[.ite e b c]) r.2.1 r.2.2 b
  if y.1≠0 then y else allL n t (ar++[.ite e b c]) y.2.1 y.2.2 c
 |
  .whl e b=>
  let r:=jl n t ar sp st (.whl e b)
  let x:=if 6<ar.length+1 then 2 else r.1
  if x≠0 then (x,r.2) else allL n t (ar++[.whl e b]) r.2.1 r.2.2 b
 |
  .blk k b=>
  let r:=jl n t ar sp st (.blk k b)
  let x:=if 6<ar.length+1 then 2 else r.1
  if x≠0 then (x,r.2) else allL n t (ar++[.blk k b]) r.2.1 r.2.2 b
 |
  .tx b=>
  let r:=jl n t ar sp st (.tx b)
  let x:=if 6<ar.length+1 then 2 else r.1
  if x≠0 then (x,r.2) else allL n t (ar++[.tx b]) r.2.1 r.2.2 b
 |
  .atm b=>
  let r:=jl n t ar sp st (.atm b)
  let x:=if 6<ar.length+1 then 2 else r.1
  if x≠0 then (x,r.2) else allL n t (ar++[.atm b]) r.2.1 r.2.2 b
 |
  s=>
  let r:=jl n t ar sp st s
  (if 6<ar.length+1 then 2 else r.1,r.2)
def allL (n t:Nat)(ar:List Sm)(sp st:List ByteArray):List Sm->Int×List ByteArray×List ByteArray
 | []=>(0,sp,st)
 |
  s::r=>
  let x:=allS n t ar sp st s
  if x.1≠0 then x else allL n t ar x.2.1 x.2.2 r
end
def JM (n t:Nat)(ar:List Sm)(sp st:List ByteArray)(s:Sm):Int:=if 6<ar.length+1 then 2 else (jl n t ar sp st s).1
theorem aoR {x:Int×List ByteArray×List ByteArray}(h:x.1=0):(0,x.2.1,x.2.2)=x:=by
 obtain⟨a,b,c⟩:=x
 cases h
 rfl
theorem JO (n t:Nat)(a:List Sm)(d q:List ByteArray)(s:Sm):allS n t a d q s=
 (if JM n t a d q s≠0 then (JM n t a d q s,(jl n t a d q s).2) else
  if (allL n t (a++[s]) (jl n t a d q s).2.1 (jl n t a d q s).2.2 s.body).1≠0 then allL n t (a++[s]) (jl n t a d q s).2.1 (jl n t a d q s).2.2 s.body
  else allL n t (a++[s]) (allL n t (a++[s]) (jl n t a d q s).2.1 (jl n t a d q s).2.2 s.body).2.1 (allL n t (a++[s]) (jl n t a d q s).2.1 (jl n t a d q s).2.2 s.body).2.2 s.els):=by cases s<;>simp only[allS,JM,Sm.body,Sm.els,allL]<;>(try rfl)<;>(repeat' split)<;>simp_all<;>(try exact (aoR (by assumption)).symm)
def Oe (n:Nat):Nat->List ByteArray->List ByteArray->List (List Sm)->Int
 |_,_,_,[]=>0
 |t,sp,st,b::r=>if (allL n t [] sp st b).1≠0 then (allL n t [] sp st b).1 else Oe n (t+1) (allL n t [] sp st b).2.1 (allL n t [] sp st b).2.2 r
def fP:List (List Sm)->Nat
 | []=>0
 |b::r=>aF b+fP r
def qf (bs:List (List Sm)):Int:=if 60<fP bs then 2 else Oe bs.length 0 [] [] bs
theorem OX (n t:Nat)(q:List Sm)(a d:List ByteArray)(s:Sm):(jl n t q a d s).2.1.length<=a.length+1/\(jl n t q a d s).2.2.length<=d.length+1:=by unfold jl;split<;>(repeat' split)<;>simp
theorem qB (n t:Nat):∀(m:Nat) (l:List Sm),aF l<=m->∀(a:List Sm) (d q:List ByteArray),(allL n t a d q l).2.1.length<=d.length+aF l/\(allL n t a d q l).2.2.length<=q.length+aF l
 |m,[],_,a,d,q=>by simp[allL]
 |0,s::r,h,a,d,q=>by rw[aF,lJ] at h;omega
 |
  m+1,s::r,h,a,d,q=>by
  rw[aF,lJ] at h|-
  have h1:=OX n t a d q s
  have h2:=qB n t m s.body (by omega) (a++[s]) (jl n t a d q s).2.1 (jl n t a d q s).2.2
  have h3:=qB n t m s.els (by omega) (a++[s]) (allL n t (a++[s]) (jl n t a d q s).2.1 (jl n t a d q s).2.2 s.body).2.1 (allL n t (a++[s]) (jl n t a d q s).2.1 (jl n t a d q s).2.2 s.body).2.2
  have u:(allS n t a d q s).2.1.length<=d.length+(1+aF s.body+aF s.els)/\(allS n t a d q s).2.2.length<=q.length+(1+aF s.body+aF s.els):=by
   rw[JO]
   split
   . exact⟨by show (jl n t a d q s).2.1.length<=_;omega,by show (jl n t a d q s).2.2.length<=_;omega⟩
   . split<;>omega
  have h4:=qB n t m r (by omega) a (allS n t a d q s).2.1 (allS n t a d q s).2.2
  simp only[allL]
  split<;>omega
structure In where
 op:Int
 a:Int
 b:Int
 c:Int
 n:Int
 site:Int
def kH (st:Int)(l:Lf)(d:Int):In:=match l with
 | .num n=>⟨1,d,0,0,(n.val:Int),st⟩
 | .var .a=>⟨2,d,0,0,0,st⟩
 | .var .b=>⟨2,d,1,0,0,st⟩
 | .var .x=>⟨6,d,0,0,0,st⟩
 | .var .y=>⟨6,d,1,0,0,st⟩
 | .var .v=>⟨6,d,2,0,0,st⟩
def aK (st:Int)(e:Ex)(d:Int):List In:=match e with
 | .leaf l=> [kH st l d]
 | .idx l=> [kH st l d,⟨7,d,3,d,2,st⟩]
 | .bin k l r=> [kH st l d,kH st r (d+1),⟨4,d,d,d+1,binOp k,st⟩]
def DI (st:Int):Nm->In
 | .a=>⟨2,0,2,0,0,st⟩
 | .b=>⟨2,1,2,0,0,st⟩
 | .x=>⟨8,0,2,0,0,st⟩
 | .y=>⟨8,1,2,0,0,st⟩
 | .v=>⟨8,2,2,0,0,st⟩
def Bk.fst:Bk->Int
 | .m=>11 | .n=>11 | .rd=>13 | .wr=>15
def Bk.obj:Bk->Int
 | .m=>0 | .n=>1 | .rd=>2 | .wr=>2
def Sg.op:Sg->Int
 | .wait=>21 | .one=>22 | .all=>23
mutual
def genS (nth base st:Nat):Sm->List In
 | .asg k e=>aK st e 2++[DI st k]
 | .asq i e=>kH st i 2::(aK st e 3++[⟨9,3,3,2,2,st⟩])
 | .ite e b []=>aK st e 2++⟨10,2,((base+(aK st e 2).length+1+(genL nth (base+(aK st e 2).length+1) (st+1) b).length:Nat):Int),0,0,st⟩::genL nth (base+(aK st e 2).length+1) (st+1) b
 |
  .ite e b (c::r)=>
  aK st e 2++⟨10,2,((base+(aK st e 2).length+1+(genL nth (base+(aK st e 2).length+1) (st+1) b).length+1:Nat):Int),0,0,st⟩::(genL nth (base+(aK st e 2).length+1) (st+1) b++
   ⟨5,((base+(aK st e 2).length+1+(genL nth (base+(aK st e 2).length+1) (st+1) b).length+1+(genL nth (base+(aK st e 2).length+1+(genL nth (base+(aK st e 2).length+1) (st+1) b).length+1) (st+1+aF b) (c::r)).length:Nat):Int),0,0,0,st⟩ ::
   genL nth (base+(aK st e 2).length+1+(genL nth (base+(aK st e 2).length+1) (st+1) b).length+1) (st+1+aF b) (c::r))
 | .whl e b=>aK st e 2++⟨10,2,((base+(aK st e 2).length+1+(genL nth (base+(aK st e 2).length+1) (st+1) b).length+1:Nat):Int),0,0,st⟩::(genL nth (base+(aK st e 2).length+1) (st+1) b++[⟨5,(base:Int),0,0,0,st⟩])
 | .blk k b=>⟨k.fst,k.obj,0,0,0,st⟩::(genL nth (base+1) (st+1) b++[⟨k.fst+1,k.obj,0,0,0,st⟩])
 | .tx b=>⟨17,0,0,0,0,st⟩::(genL nth (base+1) (st+1) b++[⟨18,0,0,0,0,st⟩])
 | .atm b=>⟨19,0,0,0,0,st⟩::(genL nth (base+1) (st+1) b++[⟨20,0,0,0,0,st⟩])
 | .sig k=> [⟨k.op,0,0,0,0,st⟩]
 | .spawn k=> [⟨24,jd (thNames nth) (aS k),0,0,0,st⟩]
 | .join=> [⟨25,jd (thNames nth) (aS 1),0,0,0,st⟩]
 | .set e=>aK st e 2++[⟨26,0,2,0,0,st⟩]
 | .get=> [⟨27,0,0,0,0,st⟩]
def genL (nth base st:Nat):List Sm->List In
 | []=> []
 |s::r=>genS nth base st s++genL nth (base+(genS nth base st s).length) (st+fK s) r
end
def regsI (i:In):List Int:=
 if i.op=1\/i.op=6\/i.op=10\/i.op=27 then [i.a]
 else if i.op=2\/i.op=3 then [i.a,i.b]
 else if i.op=4 then [i.a,i.b,i.c]
 else if i.op=7 then [i.a,i.c]
 else if i.op=8\/i.op=26 then [i.b]
 else if i.op=9 then [i.b,i.c]
 else []
def kG (nth st:Nat)(b:List Sm):List In:=genL nth 0 st b++[⟨28,0,0,0,0,-1⟩]
def jh (m:Int)(l:List Int):Int:=l.foldl (λm r=>max m (r+1)) m
def DJ (l:List In):Int:=l.foldl (λm i=>jh m (regsI i)) 2
def codeF (nth:Nat):Nat->List (List Sm)->List (Int×List In)
 |_,[]=> []
 |st,b::r=>(DJ (kG nth st b),kG nth st b)::codeF nth (st+aF b) r
def DK (t:Nat)(b:List Sm):List (Nat×Nat):=(List.range (aF b)).map λk=>(t,k)
def dR:Nat->List (List Sm)->List (Nat×Nat)
 |_,[]=> []
 |t,b::r=>DK t b++dR (t+1) r
end Mk
namespace Mk
open Go
theorem yQ (s:ByteArray):∀(l:List ByteArray) (i:Nat),gu s i l= -1\/∃k,k<l.length/\l[k]?=some s/\gu s i l=((i+k:Nat):Int)
 | [],i=> .inl rfl
 |
  x::r,i=>by
  unfold gu
  split
  . rename_i h
    exact .inr ⟨0,by simp,by simp[h],by simp⟩
  . rcases yQ s r (i+1) with h|⟨k,h1,h2,h3⟩
    . exact .inl (by rw[<-h];norm_cast)
    . exact .inr ⟨k+1,by simpa using h1,by simpa using h2,by rw[show ((i:Int)+1)=((i+1:Nat):Int) by omega,h3];omega⟩
theorem Xi (l:List ByteArray)(s:ByteArray):jd l s= -1\/∃k,k<l.length/\l[k]?=some s/\jd l s=(k:Int):=by have:=yQ s l 0;simpa [jd] using this
theorem thNames_len (n:Nat):(thNames n).length=n:=by simp[thNames]
theorem jV (q:Int)(x:Ex)(d:Int):(aK q x d).length<=3:=by cases x<;>simp[aK]
mutual
theorem genS_len (n base d:Nat):∀s:Sm,(genS n base d s).length<=8*fK s
 | .asg k e=>by have:=jV d e 2;simp[genS,fK];omega
 | .asq i e=>by have:=jV d e 3;simp[genS,fK];omega
 |
  .ite e b []=>by
  have:=jV d e 2
  have h1:=genL_len n (base+(aK d e 2).length+1) (d+1) b
  simp[genS,fK,aF];omega
 |
  .ite e b (c::r)=>by
  have:=jV d e 2
  have h1:=genL_len n (base+(aK d e 2).length+1) (d+1) b
  have h2:=genL_len n (base+(aK d e 2).length+1+(genL n (base+(aK d e 2).length+1) (d+1) b).length+1) (d+1+aF b) (c::r)
  simp only[genS,fK,List.length_append,List.length_cons];omega
 |
  .whl e b=>by
  have:=jV d e 2
  have h1:=genL_len n (base+(aK d e 2).length+1) (d+1) b
  simp[genS,fK];omega
 |
  .blk k b=>by
  have h1:=genL_len n (base+1) (d+1) b
  simp[genS,fK];omega
 |
  .tx b=>by
  have h1:=genL_len n (base+1) (d+1) b
  simp[genS,fK];omega
 |
  .atm b=>by
  have h1:=genL_len n (base+1) (d+1) b
  simp[genS,fK];omega
 | .sig k=>by simp[genS,fK]
 | .spawn k=>by simp[genS,fK]
 | .join=>by simp[genS,fK]
 | .set e=>by have:=jV d e 2;simp[genS,fK];omega
 | .get=>by simp[genS,fK]
theorem genL_len (n base d:Nat):∀l:List Sm,(genL n base d l).length<=8*aF l
 | []=>by simp[genL]
 |
  s::r=>by
  have h1:=genS_len n base d s
  have h2:=genL_len n (base+(genS n base d s).length) (d+fK s) r
  simp only[genL,aF,List.length_append];omega
end
structure ObjI (nth:Nat)(i:In):Prop where
 o3:i.op≠3
 o4:i.op=4->6<=i.n/\i.n<=18
 o6:i.op=6->0<=i.b/\i.b<=2
 o7:i.op=7->i.b=3/\i.n=2
 o8:i.op=8->0<=i.a/\i.a<=2
 o9:i.op=9->i.a=3/\i.n=2
 o11:i.op=11\/i.op=12->0<=i.a/\i.a<=1
 o13:13<=i.op/\i.op<=16->i.a=2
 o21:21<=i.op/\i.op<=23->i.a=0
 o24:i.op=24\/i.op=25->0<=i.a/\i.a<nth
 o26:i.op=26->i.a=0
 o27:i.op=27->i.b=0
structure LocI (nth s0 s1 lo hi:Nat)(i:In):Prop where
 op1:1<=i.op
 op2:i.op<=27
 obj:ObjI nth i
 site:∃k:Nat,i.site=k/\s0<=k/\k<s1
 jmp:i.op=5->∃k:Nat,i.a=k/\lo<=k/\k<=hi
 brn:i.op=10->∃k:Nat,i.b=k/\lo<=k/\k<=hi
 regs:∀r∈regsI i,0<=r/\r<=4
theorem LocI.weak {nth s0 s1 lo hi u y B D:Nat}{i:In}(h:LocI nth s0 s1 lo hi i)(a:u<=s0)(b:s1<=y)(c:B<=lo)(d:hi<=D):LocI nth u y B D i:=
 ⟨h.op1,h.op2,h.obj,by obtain⟨k,e,p,q⟩:=h.site;exact⟨k,e,by omega,by omega⟩,λx=>by obtain⟨k,e,p,q⟩:=h.jmp x;exact⟨k,e,by omega,by omega⟩,λx=>by obtain⟨k,e,p,q⟩:=h.brn x;exact⟨k,e,by omega,by omega⟩,h.regs⟩
theorem jw {nth s0 s1 lo hi:Nat}(op a b c n:Int)(d:Nat)(h1:1<=op/\op<=27)(ho:ObjI nth ⟨op,a,b,c,n,d⟩)(hs:s0<=d/\d<s1)(h5:op≠5)(q:op≠10)(hr:∀r∈regsI ⟨op,a,b,c,n,d⟩,0<=r/\r<=4):LocI nth s0 s1 lo hi ⟨op,a,b,c,n,d⟩:=
 ⟨h1.1,h1.2,ho,⟨d,rfl,hs.1,hs.2⟩,λe=>absurd e h5,λe=>absurd e q,hr⟩
theorem LK {nth s0 s1 lo hi:Nat}(k d:Nat)(hs:s0<=d/\d<s1)(hk:lo<=k/\k<=hi):LocI nth s0 s1 lo hi ⟨10,2,(k:Int),0,0,d⟩:=by refine⟨by show (1:Int)<=10;decide,by show (10:Int)<=27;decide,?_,⟨d,rfl,hs.1,hs.2⟩,λe=>absurd e (by show (10:Int)≠5;decide),λ_=>⟨k,rfl,hk.1,hk.2⟩,by simp[regsI]⟩;constructor<;>simp
theorem Va {nth s0 s1 lo hi:Nat}(k d:Nat)(hs:s0<=d/\d<s1)(hk:lo<=k/\k<=hi):LocI nth s0 s1 lo hi ⟨5,(k:Int),0,0,0,d⟩:=by refine⟨by show (1:Int)<=5;decide,by show (5:Int)<=27;decide,?_,⟨d,rfl,hs.1,hs.2⟩,λ_=>⟨k,rfl,hk.1,hk.2⟩,λe=>absurd e (by show (5:Int)≠10;decide),by simp[regsI]⟩;constructor<;>simp
theorem uP {nth s0 s1 lo hi:Nat}(q:Nat)(l:Lf)(d:Int)(u:0<=d/\d<=4)(hs:s0<=q/\q<s1):LocI nth s0 s1 lo hi (kH q l d):=by
 rcases l with m|k;exact jw _ _ _ _ _ _ (by decide) (by constructor<;>simp) hs (by decide) (by decide) (by simpa [regsI] using u)
 . cases k
   all_goals exact jw _ _ _ _ _ _ (by decide) (by constructor<;>simp) hs (by decide) (by decide) (by simp[regsI];omega)
theorem BI (k:Fin 6):6<=binOp k/\binOp k<=18:=by revert k;decide
theorem qC {nth s0 s1 lo hi:Nat}(q:Nat)(e:Ex)(d:Int)(u:0<=d/\d<=3)(hs:s0<=q/\q<s1):∀i∈aK q e d,LocI nth s0 s1 lo hi i:=by
 intro i hi
 cases e with
 |
  leaf l=>
  simp[aK] at hi;subst hi;exact uP q l d (by omega) hs
 |
  idx l=>
  simp[aK] at hi;rcases hi with rfl|rfl;exact uP q l d (by omega) hs;exact jw _ _ _ _ _ _ (by decide) (by constructor<;>simp) hs (by decide) (by decide) (by simp[regsI];omega)
 |
  bin k l r=>
  simp[aK] at hi;have hb:=BI k;rcases hi with rfl|rfl|rfl;exact uP q l d (by omega) hs;exact uP q r (d+1) (by omega) hs;exact jw _ _ _ _ _ _ (by decide) (by constructor<;>simp<;>omega) hs (by decide) (by decide) (by simp[regsI];omega)
mutual
def SpOkS (n:Nat):Sm->Prop
 | .ite _ b c=>SpOkL n b/\SpOkL n c
 | .whl _ b | .blk _ b | .tx b | .atm b=>SpOkL n b
 | .spawn k=>0<=jd (thNames n) (aS k)
 | .join=>0<=jd (thNames n) (aS 1)
 |_=>True
def SpOkL (n:Nat):List Sm->Prop
 | []=>True
 |s::r=>SpOkS n s/\SpOkL n r
end
theorem aaR {n:Nat}{s:ByteArray}(h:0<=jd (thNames n) s):jd (thNames n) s<n:=by rcases Xi (thNames n) s with h'|⟨k,hk,_,h'⟩;omega;rw[h'];rw[thNames_len] at hk;omega
mutual
theorem locS (n base d:Nat):∀s:Sm,SpOkS n s->∀i∈genS n base d s,LocI n d (d+fK s) base (base+(genS n base d s).length) i
 |
  .asg k e,_,i,hi=>by
  simp only[genS,List.mem_append,List.mem_singleton] at hi
  rcases hi with hi|rfl
  . exact qC d e 2 (by omega) (by simp[fK]) i hi
  . cases k
    all_goals exact jw _ _ _ _ _ _ (by decide) (by constructor<;>simp) (by simp[fK]) (by decide) (by decide) (by simp[regsI])
 |
  .asq x e,_,i,hi=>by
  simp only[genS,List.mem_append,List.mem_singleton,List.mem_cons] at hi
  rcases hi with rfl|hi|rfl|hi
  . exact uP d x 2 (by omega) (by simp[fK])
  . exact qC d e 3 (by omega) (by simp[fK]) i hi
  . exact jw _ _ _ _ _ _ (by decide) (by constructor<;>simp) (by simp[fK]) (by decide) (by decide) (by simp[regsI])
  . simp at hi
 |
  .ite e b [],h,i,hi=>by
  have q:=locL n (base+(aK d e 2).length+1) (d+1) b h.1
  simp only[genS,List.mem_append,List.mem_cons,fK,aF,List.length_append,List.length_cons] at hi|-
  rcases hi with hi|rfl|hi
  . exact qC d e 2 (by omega) (by omega) i hi
  . exact LK _ _ (by omega) (by omega)
  . exact (q i hi).weak (by omega) (by omega) (by omega) (by omega)
 |
  .ite e b (c::r),h,i,hi=>by
  have u:=locL n (base+(aK d e 2).length+1) (d+1) b h.1
  have y:=locL n (base+(aK d e 2).length+1+(genL n (base+(aK d e 2).length+1) (d+1) b).length+1) (d+1+aF b) (c::r) h.2
  simp only[genS,List.mem_append,List.mem_cons,fK,List.length_append,List.length_cons] at hi|-
  rcases hi with hi|rfl|hi|rfl|hi
  . exact qC d e 2 (by omega) (by omega) i hi
  . exact LK _ _ (by omega) (by omega)
  . exact (u i hi).weak (by omega) (by omega) (by omega) (by omega)
  . exact Va _ _ (by omega) (by omega)
  . exact (y i hi).weak (by omega) (by omega) (by omega) (by omega)
 |
  .whl e b,h,i,hi=>by
  have q:=locL n (base+(aK d e 2).length+1) (d+1) b h
  simp only[genS,List.mem_append,List.mem_cons,List.mem_singleton,fK,List.length_append,List.length_cons,List.length_nil] at hi|-
  rcases hi with hi|rfl|hi|rfl|hi
  . exact qC d e 2 (by omega) (by omega) i hi
  . exact LK _ _ (by omega) (by omega)
  . exact (q i hi).weak (by omega) (by omega) (by omega) (by omega)
  . exact Va _ _ (by omega) (by omega)
  . simp at hi
 |
  .blk k b,h,i,hi=>by
  have q:=locL n (base+1) (d+1) b h
  simp only[genS,List.mem_append,List.mem_cons,List.mem_singleton,fK,List.length_append,List.length_cons,List.length_nil] at hi|-
  rcases hi with rfl|hi|rfl|hi
  . cases k
    all_goals exact jw _ _ _ _ _ _ (by decide) (by constructor<;>simp[Bk.fst,Bk.obj]) (by omega) (by decide) (by decide) (by simp[regsI,Bk.fst])
  . exact (q i hi).weak (by omega) (by omega) (by omega) (by omega)
  . cases k
    all_goals exact jw _ _ _ _ _ _ (by decide) (by constructor<;>simp[Bk.fst,Bk.obj]) (by omega) (by decide) (by decide) (by simp[regsI,Bk.fst])
  . simp at hi
 |
  .tx b,h,i,hi=>by
  have q:=locL n (base+1) (d+1) b h
  simp only[genS,List.mem_append,List.mem_cons,List.mem_singleton,fK,List.length_append,List.length_cons,List.length_nil] at hi|-
  rcases hi with rfl|hi|rfl|hi
  . exact jw _ _ _ _ _ _ (by decide) (by constructor<;>simp) (by omega) (by decide) (by decide) (by simp[regsI])
  . exact (q i hi).weak (by omega) (by omega) (by omega) (by omega)
  . exact jw _ _ _ _ _ _ (by decide) (by constructor<;>simp) (by omega) (by decide) (by decide) (by simp[regsI])
  . simp at hi
 |
  .atm b,h,i,hi=>by
  have q:=locL n (base+1) (d+1) b h
  simp only[genS,List.mem_append,List.mem_cons,List.mem_singleton,fK,List.length_append,List.length_cons,List.length_nil] at hi|-
  rcases hi with rfl|hi|rfl|hi
  . exact jw _ _ _ _ _ _ (by decide) (by constructor<;>simp) (by omega) (by decide) (by decide) (by simp[regsI])
  . exact (q i hi).weak (by omega) (by omega) (by omega) (by omega)
  . exact jw _ _ _ _ _ _ (by decide) (by constructor<;>simp) (by omega) (by decide) (by decide) (by simp[regsI])
  . simp at hi
 |
  .sig k,_,i,hi=>by
  simp only[genS,List.mem_singleton] at hi
  subst hi
  cases k
  all_goals exact jw _ _ _ _ _ _ (by decide) (by constructor<;>simp[Sg.op]) (by simp[fK]) (by decide) (by decide) (by simp[regsI,Sg.op])
 |
  .spawn k,h,i,hi=>by
  simp only[genS,List.mem_singleton] at hi
  subst hi
  have h:0<=jd (thNames n) (aS k):=h
  have h2:=aaR h
  exact jw _ _ _ _ _ _ (by decide) (by constructor<;>simp<;>exact⟨h,h2⟩) (by simp[fK]) (by decide) (by decide) (by simp[regsI])
 |
  .join,h,i,hi=>by
  simp only[genS,List.mem_singleton] at hi
  subst hi
  have h:0<=jd (thNames n) (aS 1):=h
  have h2:=aaR h
  exact jw _ _ _ _ _ _ (by decide) (by constructor<;>simp<;>exact⟨h,h2⟩) (by simp[fK]) (by decide) (by decide) (by simp[regsI])
 |
  .set e,_,i,hi=>by
  simp only[genS,List.mem_append,List.mem_singleton] at hi
  rcases hi with hi|rfl
  . exact qC d e 2 (by omega) (by simp[fK]) i hi
  . exact jw _ _ _ _ _ _ (by decide) (by constructor<;>simp) (by simp[fK]) (by decide) (by decide) (by simp[regsI])
 |
  .get,_,i,hi=>by
  simp only[genS,List.mem_singleton] at hi
  subst hi
  exact jw _ _ _ _ _ _ (by decide) (by constructor<;>simp) (by simp[fK]) (by decide) (by decide) (by simp[regsI])
theorem locL (n base d:Nat):∀l:List Sm,SpOkL n l->∀i∈genL n base d l,LocI n d (d+aF l) base (base+(genL n base d l).length) i
 | [],_,i,hi=>by simp[genL] at hi
 |
  s::r,h,i,hi=>by
  have h1:=locS n base d s h.1
  have h2:=locL n (base+(genS n base d s).length) (d+fK s) r h.2
  simp only[genL,List.mem_append,aF,List.length_append] at hi|-
  rcases hi with hi|hi
  . exact (h1 i hi).weak (by omega) (by omega) (by omega) (by omega)
  . exact (h2 i hi).weak (by omega) (by omega) (by omega) (by omega)
end
def landsF (l:List In):Nat->Int->Bool
 |0,_=>false
 |f+1,k=>if k<0\/(l.length:Int)<=k then false else
  match l[k.toNat]? with
  |none=>false
  |some i=>if¬(1<=i.op/\i.op<=5) then true else landsF l f (if i.op=5 then i.a else k+1)
def Evt (l:List In)(k:Nat):Prop:=∃i,l[k]?=some i/\5<i.op
def Sil (l:List In)(k k':Nat):Prop:=∃i,l[k]?=some i/\1<=i.op/\i.op<=5/\(if i.op=5 then i.a=(k':Int) else k'=k+1)
def Rch (l:List In):Nat->Nat->Nat->Prop
 |0,a,b=>a=b
 |m+1,a,b=>∃c,Sil l a c/\Rch l m c b
theorem Rch.trans {l:List In} :∀ {m d:Nat}{a b c:Nat},Rch l m a b->Rch l d b c->Rch l (m+d) a c
 |0,d,a,b,c,h,k=>by rw[Nat.zero_add];cases h;exact k
 |m+1,d,a,b,c,⟨x,h1,h2⟩,k=>by rw[Nat.add_right_comm];exact⟨x,h1,h2.trans k⟩
theorem uQ {l:List In} :∀ {m:Nat}{a b f:Nat},Rch l m a b->Evt l b->m<f->landsF l f (a:Int)=true
 |0,a,b,0,_,_,h=>by omega
 |m+1,a,b,0,_,_,h=>by omega
 |
  0,a,b,f+1,h,⟨i,hi,ho⟩,hf=>by
  cases h
  have d:=(List.getElem?_eq_some_iff.1 hi).1
  unfold landsF
  rw[if_neg (by omega),show ((a:Int).toNat)=a by omega,hi]
  simp only
  rw[if_pos (by omega)]
 |
  m+1,a,b,f+1,⟨c,⟨i,hi,h1,h2,hc⟩,h⟩,he,hf=>by
  have d:=(List.getElem?_eq_some_iff.1 hi).1
  have q:=uQ (f:=f) h he (by omega)
  unfold landsF
  rw[if_neg (by omega),show ((a:Int).toNat)=a by omega,hi]
  simp only
  rw[if_neg (by omega)]
  split at hc
  . rename_i h5;rw[if_pos h5,hc];exact q
  . rename_i h5;rw[if_neg h5];subst hc;exact q
def LS (l:List In)(s e:Nat):Prop:=∀k,s<=k->k<e->(∃m b,Rch l m k b/\Evt l b/\m<=e-s)\/(∃m,Rch l m k e/\m<=e-k)
section
variable {l : List In} {s e f j b : Nat}
theorem LS.nil:LS l s s:=λk h1 h2=>by omega
theorem LS.evt (h:Evt l s):LS l s (s+1):=λk h1 h2=> .inl ⟨0,k,rfl,by rw[show k=s by omega];exact h,by omega⟩
theorem LS.sil (h:Sil l s (s+1)):LS l s (s+1):=λk h1 h2=> .inr ⟨1,by rw[show k=s by omega];exact⟨_,h,rfl⟩,by omega⟩
theorem LS.app (h:LS l s e)(k:LS l e f)(h1:s<=e)(h2:e<=f):LS l s f:=λx hx D=>by
 by_cases d:x<e
 . rcases h x hx d with ⟨m,b,r,ev,hm⟩|⟨m,r,hm⟩
   . exact .inl ⟨m,b,r,ev,by omega⟩
   . by_cases q:e<f
     . rcases k e (Nat.le_refl _) q with ⟨u,b,y,ev,B⟩|⟨u,y,B⟩
       . exact .inl ⟨m+u,b,r.trans y,ev,by omega⟩
       . exact .inr ⟨m+u,r.trans y,by omega⟩
     . have:e=f:=by omega
       subst this
       exact .inr ⟨m,r,hm⟩
 . rcases k x (by omega) D with ⟨m,b,r,ev,hm⟩|⟨m,r,hm⟩
   . exact .inl ⟨m,b,r,ev,by omega⟩
   . exact .inr ⟨m,r,hm⟩
theorem LS.loop (h:LS l s b)(hb:Evt l b)(k:LS l (b+1) j)(B:Sil l j s)(h1:s<=b)(h2:b+1<=j):LS l s (j+1):=by have hs:∃m c,Rch l m s c/\Evt l c/\m<=b-s:=(by by_cases d:s<b;rcases h s (Nat.le_refl _) d with ⟨m,c,r,ev,hm⟩|⟨m,r,hm⟩;exact⟨m,c,r,ev,hm⟩;exact⟨m,b,r,hb,hm⟩;exact⟨0,s,rfl,by rw[show s=b by omega];exact hb,by omega⟩);obtain⟨m0,c0,r0,e0,D⟩:=hs;intro x hx E;by_cases q:x<b;rcases h x hx q with ⟨m,c,r,ev,hm⟩|⟨m,r,hm⟩;exact .inl ⟨m,c,r,ev,by omega⟩;exact .inl ⟨m,b,r,hb,by omega⟩;by_cases u:x=b;subst u;exact .inl ⟨0,x,rfl,hb,by omega⟩;by_cases y:x<j;rcases k x (by omega) y with ⟨m,c,r,ev,hm⟩|⟨m,r,hm⟩;exact .inl ⟨m,c,r,ev,by omega⟩;exact .inl ⟨m+(m0+1),c0,r.trans ⟨s,B,r0⟩,e0,by omega⟩;have:x=j:=(by omega);subst this;exact .inl ⟨m0+1,c0,⟨s,B,r0⟩,e0,by omega⟩
theorem LS.over (h:LS l s j)(u:Sil l j e)(k:LS l (j+1) e)(h1:s<=j)(h2:j+1<=e):LS l s e:=by intro x hx y;by_cases d:x<j;rcases h x hx d with ⟨m,c,r,ev,hm⟩|⟨m,r,hm⟩;exact .inl ⟨m,c,r,ev,by omega⟩;exact .inr ⟨m+1,r.trans ⟨e,u,rfl⟩,by omega⟩;by_cases q:x=j;subst q;exact .inr ⟨1,⟨e,u,rfl⟩,by omega⟩;rcases k x (by omega) y with ⟨m,c,r,ev,hm⟩|⟨m,r,hm⟩;exact .inl ⟨m,c,r,ev,by omega⟩;exact .inr ⟨m,r,hm⟩
end
def AtL (l:List In)(base:Nat)(seg:List In):Prop:=∀j i,seg[j]?=some i->l[base+j]?=some i
section
variable {l a c : List In} {base : Nat} {i : In}
theorem AtL.left (h:AtL l base (a++c)):AtL l base a:=λj i d=>h j i (by rw[List.getElem?_append_left (List.getElem?_eq_some_iff.1 d).1];exact d)
theorem AtL.right (h:AtL l base (a++c)):AtL l (base+a.length) c:=λj i d=>by
 have:=h (a.length+j) i (by rw[List.getElem?_append_right (by omega),show a.length+j-a.length=j by omega];exact d)
 rw[Nat.add_assoc];exact this
theorem AtL.head (h:AtL l base (i::c)):l[base]?=some i:=h 0 i rfl
theorem AtL.tail (h:AtL l base (i::c)):AtL l (base+1) c:=λj i d=>by
 have:=h (j+1) i (by simpa using d)
 rw[show base+1+j=base+(j+1) by omega];exact this
theorem gG (h:l[base]?=some i)(ho:5<i.op):Evt l base:=⟨i,h,ho⟩
theorem zZ (h:l[base]?=some i)(h1:1<=i.op)(h2:i.op<=4):Sil l base (base+1):=⟨i,h,h1,by omega,by rw[if_neg (by omega)]⟩
theorem aaS {k:Nat}{d:Int}(h:l[base]?=some ⟨5,(k:Int),0,0,0,d⟩):Sil l base k:=⟨_,h,by show (1:Int)<=5;decide,by show (5:Int)<=5;decide,by simp⟩
end
theorem yR {l:List In}{base:Nat}{q:Int}{x:Lf}{d:Int}(h:l[base]?=some (kH q x d)):LS l base (base+1):=by
 rcases x with m|k;exact LS.sil (zZ h (by simp[kH]) (by simp[kH]))
 . cases k
   exact LS.sil (zZ h (by simp[kH]) (by simp[kH]));exact LS.sil (zZ h (by simp[kH]) (by simp[kH]));exact LS.evt (gG h (by simp[kH]));exact LS.evt (gG h (by simp[kH]));exact LS.evt (gG h (by simp[kH]))
theorem vJ {l:List In}{base:Nat}{q:Int}{x:Ex}{d:Int}(h:AtL l base (aK q x d)):LS l base (base+(aK q x d).length):=by
 cases x with
 |leaf x=>exact yR h.head
 |
  idx x=>
  show LS l base (base+1+1);exact (yR h.head).app (LS.evt (gG h.tail.head (by simp))) (by omega) (by omega)
 |
  bin k x y=>
  show LS l base (base+1+1+1);exact ((yR h.head).app (yR h.tail.head) (by omega) (by omega)).app (LS.sil (zZ h.tail.tail.head (by simp) (by simp))) (by omega) (by omega)
mutual
theorem lsS {l:List In}(n base d:Nat):∀s:Sm,AtL l base (genS n base d s)->LS l base (base+(genS n base d s).length)
 |
  .asg k e,h=>by
  simp only[genS] at h|-
  rw[List.length_append,<-Nat.add_assoc]
  refine (vJ h.left).app ?_ (by omega) (by simp)
  have:=h.right.head
  cases k
  . exact LS.sil (zZ this (by simp[DI]) (by simp[DI]))
  . exact LS.sil (zZ this (by simp[DI]) (by simp[DI]))
  . exact LS.evt (gG this (by simp[DI]))
  . exact LS.evt (gG this (by simp[DI]))
  . exact LS.evt (gG this (by simp[DI]))
 |
  .asq x e,h=>by
  simp only[genS] at h|-
  rw[List.length_cons,List.length_append,show base+((aK d e 3).length+[(⟨9,3,3,2,2,(d:Int)⟩:In)].length+1)=base+1+(aK d e 3).length+1 by simp;omega]
  exact (yR h.head).app ((vJ h.tail.left).app (LS.evt (gG h.tail.right.head (by simp))) (by omega) (by omega)) (by omega) (by omega)
 |
  .ite e b [],h=>by
  simp only[genS] at h|-
  have q:=lsL n (base+(aK d e 2).length+1) (d+1) b h.right.tail
  rw[List.length_append,List.length_cons,show base+((aK d e 2).length+((genL n (base+(aK d e 2).length+1) (d+1) b).length+1))=base+(aK d e 2).length+1+(genL n (base+(aK d e 2).length+1) (d+1) b).length by omega]
  exact (vJ h.left).app ((LS.evt (gG h.right.head (by simp))).app q (by omega) (by omega)) (by omega) (by omega)
 |
  .ite e b (c::r),h=>by
  simp only[genS] at h|-
  have y:=lsL n (base+(aK d e 2).length+1) (d+1) b h.right.tail.left
  have D:=lsL n (base+(aK d e 2).length+1+(genL n (base+(aK d e 2).length+1) (d+1) b).length+1) (d+1+aF b) (c::r) h.right.tail.right.tail
  have u:=aaS h.right.tail.right.head
  generalize hB:(genL n (base+(aK d e 2).length+1) (d+1) b).length=B at *
  generalize hE:(genL n (base+(aK d e 2).length+1+B+1) (d+1+aF b) (c::r)).length=E at *
  rw[List.length_append,List.length_cons,List.length_append,List.length_cons,hB,hE,show base+((aK d e 2).length+(B+(E+1)+1))=base+(aK d e 2).length+1+B+1+E by omega]
  exact ((vJ h.left).app ((LS.evt (gG h.right.head (by simp))).app y (by omega) (by omega)) (by omega) (by omega)).over u D (by omega) (by omega)
 |
  .whl e b,h=>by
  simp only[genS] at h|-
  have q:=lsL n (base+(aK d e 2).length+1) (d+1) b h.right.tail.left
  have u:=aaS h.right.tail.right.head
  rw[List.length_append,List.length_cons,List.length_append,show base+((aK d e 2).length+((genL n (base+(aK d e 2).length+1) (d+1) b).length+[(⟨5,(base:Int),0,0,0,(d:Int)⟩:In)].length+1))=base+(aK d e 2).length+1+(genL n (base+(aK d e 2).length+1) (d+1) b).length+1 by simp;omega]
  exact LS.loop (vJ h.left) (gG h.right.head (by simp)) q u (by omega) (by omega)
 |
  .blk k b,h=>by
  simp only[genS] at h|-
  have q:=lsL n (base+1) (d+1) b h.tail.left
  rw[List.length_cons,List.length_append,show base+((genL n (base+1) (d+1) b).length+[(⟨k.fst+1,k.obj,0,0,0,(d:Int)⟩:In)].length+1)=base+1+(genL n (base+1) (d+1) b).length+1 by simp;omega]
  exact (LS.evt (gG h.head (by cases k<;>simp[Bk.fst]))).app (q.app (LS.evt (gG h.tail.right.head (by cases k<;>simp[Bk.fst]))) (by omega) (by omega)) (by omega) (by omega)
 |
  .tx b,h=>by
  simp only[genS] at h|-
  have q:=lsL n (base+1) (d+1) b h.tail.left
  rw[List.length_cons,List.length_append,show base+((genL n (base+1) (d+1) b).length+[(⟨18,0,0,0,0,(d:Int)⟩:In)].length+1)=base+1+(genL n (base+1) (d+1) b).length+1 by simp;omega]
  exact (LS.evt (gG h.head (by simp))).app (q.app (LS.evt (gG h.tail.right.head (by simp))) (by omega) (by omega)) (by omega) (by omega)
 |
  .atm b,h=>by
  simp only[genS] at h|-
  have q:=lsL n (base+1) (d+1) b h.tail.left
  rw[List.length_cons,List.length_append,show base+((genL n (base+1) (d+1) b).length+[(⟨20,0,0,0,0,(d:Int)⟩:In)].length+1)=base+1+(genL n (base+1) (d+1) b).length+1 by simp;omega]
  exact (LS.evt (gG h.head (by simp))).app (q.app (LS.evt (gG h.tail.right.head (by simp))) (by omega) (by omega)) (by omega) (by omega)
 | .sig k,h=>LS.evt (gG h.head (by cases k<;>simp[Sg.op]))
 | .spawn k,h=>LS.evt (gG h.head (by simp))
 | .join,h=>LS.evt (gG h.head (by simp))
 |
  .set e,h=>by
  simp only[genS] at h|-
  rw[List.length_append,<-Nat.add_assoc]
  exact (vJ h.left).app (LS.evt (gG h.right.head (by simp))) (by omega) (by simp)
 | .get,h=>LS.evt (gG h.head (by simp))
theorem lsL {l:List In}(n base d:Nat):∀b:List Sm,AtL l base (genL n base d b)->LS l base (base+(genL n base d b).length)
 | [],h=>LS.nil
 |
  s::r,h=>by
  simp only[genL] at h|-
  rw[List.length_append,<-Nat.add_assoc]
  exact (lsS n base d s h.left).app (lsL n (base+(genS n base d s).length) (d+fK s) r h.right) (by omega) (by omega)
end
theorem TG (n d:Nat)(b:List Sm)(k:Nat)(hk:k<(kG n d b).length):landsF (kG n d b) ((kG n d b).length+1) (k:Int)=true:=by have h:AtL (kG n d b) 0 (kG n d b):=(λj i q=>by rw[Nat.zero_add];exact q);have h1:=lsL (l:=kG n d b) n 0 d b h.left;have h2:Evt (kG n d b) (0+(genL n 0 d b).length):=gG h.right.head (by simp);have u:(kG n d b).length=0+(genL n 0 d b).length+1:=(by unfold kG;rw[List.length_append];simp);rcases (h1.app (LS.evt h2) (by omega) (by omega)) k (by omega) (by omega) with ⟨m,c,r,ev,hm⟩|⟨m,r,hm⟩;exact uQ r ev (by omega);rcases Nat.lt_or_ge k (0+(genL n 0 d b).length) with hlt|hge;rcases h1 k (by omega) hlt with ⟨m,c,r,ev,hm⟩|⟨m,r,hm⟩;exact uQ r ev (by omega);exact uQ r h2 (by omega);have:k=0+(genL n 0 d b).length:=(by omega);subst this;exact uQ (m:=0) rfl h2 (by omega)
theorem lH {n t:Nat}{d:List Sm}{q u:List ByteArray}{s:Sm}(h:(allS n t d q u s).1=0):
 JM n t d q u s=0/\(∃d q u,(allL n t d q u s.body).1=0)/\(∃d q u,(allL n t d q u s.els).1=0):=by rw[JO] at h;split at h;rename_i he;exact absurd h he;rename_i he;split at h;rename_i hb;exact absurd h hb;rename_i hb;exact⟨Classical.not_not.1 he,⟨_,_,_,Classical.not_not.1 hb⟩,⟨_,_,_,h⟩⟩
theorem FC {n t:Nat}{u:List Sm}{d q:List ByteArray}{s:Sm}{r:List Sm}(h:(allL n t u d q (s::r)).1=0):
 (allS n t u d q s).1=0/\∃d q,(allL n t u d q r).1=0:=by simp only[allL] at h;split at h;rename_i he;exact absurd h he;rename_i he;exact⟨Classical.not_not.1 he,_,_,h⟩
theorem TI {n t:Nat}{d:List Sm}{q u:List ByteArray}{k:Nat}(h:JM n t d q u (.spawn k)=0):0<=jd (thNames n) (aS k):=by
 unfold JM at h;split at h
 cases h
 . simp only[jl] at h;split at h
   cases h
   omega
theorem Xj {n t:Nat}{d:List Sm}{q u:List ByteArray}(h:JM n t d q u .join=0):0<=jd (thNames n) (aS 1):=by
 unfold JM at h;split at h
 cases h
 . simp only[jl] at h;split at h
   cases h
   omega
mutual
theorem spokS (n t:Nat):∀(s:Sm) (q:List Sm) (u y:List ByteArray),(allS n t q u y s).1=0->SpOkS n s
 |
  .ite e b c,q,u,y,h=>by
  obtain⟨_,⟨a1,d,c1,h1⟩,⟨a2,b2,c2,h2⟩⟩:=lH h
  exact⟨spokL n t b a1 d c1 h1,spokL n t c a2 b2 c2 h2⟩
 |
  .whl e b,q,u,y,h=>by
  obtain⟨_,⟨a1,d,c1,h1⟩,_⟩:=lH h
  exact spokL n t b a1 d c1 h1
 |
  .blk k b,q,u,y,h=>by
  obtain⟨_,⟨a1,d,c1,h1⟩,_⟩:=lH h
  exact spokL n t b a1 d c1 h1
 |
  .tx b,q,u,y,h=>by
  obtain⟨_,⟨a1,d,c1,h1⟩,_⟩:=lH h
  exact spokL n t b a1 d c1 h1
 |
  .atm b,q,u,y,h=>by
  obtain⟨_,⟨a1,d,c1,h1⟩,_⟩:=lH h
  exact spokL n t b a1 d c1 h1
 | .spawn k,q,u,y,h=>TI (lH h).1
 | .join,q,u,y,h=>Xj (lH h).1
 | .asg _ _,_,_,_,_=>trivial
 | .asq _ _,_,_,_,_=>trivial
 | .sig _,_,_,_,_=>trivial
 | .set _,_,_,_,_=>trivial
 | .get,_,_,_,_=>trivial
theorem spokL (n t:Nat):∀(l:List Sm) (d:List Sm) (q u:List ByteArray),(allL n t d q u l).1=0->SpOkL n l
 | [],_,_,_,_=>trivial
 |
  s::r,d,q,u,h=>by
  obtain⟨h1,y,st2,h2⟩:=FC h
  exact⟨spokS n t s d q u h1,spokL n t r d y st2 h2⟩
end
theorem IG (n:Nat):∀(bs:List (List Sm)) (t:Nat) (d q:List ByteArray),Oe n t d q bs=0->∀b∈bs,SpOkL n b
 | [],_,_,_,_,b,hb=>by simp at hb
 |
  x::r,t,d,q,h,b,hb=>by
  simp only[Oe] at h
  split at h
  . rename_i he;exact absurd h he
  . rename_i he
    rcases List.mem_cons.1 hb with rfl|hb
    . exact spokL n t b [] d q (Classical.not_not.1 he)
    . exact IG n r _ _ _ h b hb
theorem xO {bs:List (List Sm)}(h:qf bs=0):fP bs<=60/\∀b∈bs,SpOkL bs.length b:=by
 unfold qf at h;split at h
 cases h
 exact⟨by omega,IG _ _ _ _ _ h⟩
def SiteOk (n:Nat)(ss:List (Nat×Nat)):Prop:=∀i x,ss[i]?=some x->x.1<n/\((i=0/\x.2=0)\/∃j y,i=j+1/\ss[j]?=some y/\((y.1=x.1/\x.2=y.2+1)\/(y.1<x.1/\x.2=0)))
theorem SiteOk.snoc {n:Nat}{ss:List (Nat×Nat)}{x:Nat×Nat}(h:SiteOk n ss)(hx:x.1<n)(B:(ss.length=0/\x.2=0)\/∃j y,ss.length=j+1/\ss[j]?=some y/\((y.1=x.1/\x.2=y.2+1)\/(y.1<x.1/\x.2=0))):SiteOk n (ss++[x]):=by intro i z d;by_cases hi:i<ss.length;rw[List.getElem?_append_left hi] at d;obtain⟨h1,h2⟩:=h i z d;refine⟨h1,?_⟩;rcases h2 with h2|⟨j,y,e,hy,h3⟩;exact .inl h2;exact .inr ⟨j,y,e,by rw[List.getElem?_append_left (by omega)];exact hy,h3⟩;have q:=(List.getElem?_eq_some_iff.1 d).1;have u:i=ss.length:=(by simp at q;omega);subst u;rw[List.getElem?_append_right (Nat.le_refl _)] at d;simp at d;subst d;refine⟨hx,?_⟩;rcases B with h2|⟨j,y,e,hy,h3⟩;exact .inl h2;exact .inr ⟨j,y,e,by rw[List.getElem?_append_left (by omega)];exact hy,h3⟩
theorem FD {n t:Nat}{ss:List (Nat×Nat)}(h:SiteOk n ss)(hb:∀x∈ss,x.1<t)(d:t<n):∀c:Nat,SiteOk n (ss++(List.range c).map λk=>(t,k))
 |0=>by simpa using h
 |
  c+1=>by
  rw[List.range_succ,List.map_append,<-List.append_assoc]
  refine (FD h hb d c).snoc d ?_
  rcases Nat.eq_zero_or_pos c with rfl|hc
  . rcases Nat.eq_zero_or_pos ss.length with h0|h0
    . exact .inl ⟨by simp[h0],rfl⟩
    . obtain⟨y,q⟩:∃y,ss[ss.length-1]?=some y:=⟨_,List.getElem?_eq_getElem (by omega)⟩
      exact .inr ⟨ss.length-1,y,by simp;omega,by rw[List.getElem?_append_left (by omega)];exact q,.inr ⟨hb y (List.mem_of_getElem? q),rfl⟩⟩
  . refine .inr ⟨ss.length+(c-1),(t,c-1),by simp;omega,?_,.inl ⟨rfl,by simp;omega⟩⟩
    rw[List.getElem?_append_right (by omega),show ss.length+(c-1)-ss.length=c-1 by omega,List.getElem?_map,List.getElem?_range (by omega)]
    rfl
theorem Ph {n:Nat} :∀(bs:List (List Sm)) (t:Nat) (ss:List (Nat×Nat)),SiteOk n ss->(∀x∈ss,x.1<t)->t+bs.length<=n->SiteOk n (ss++dR t bs)
 | [],t,ss,h,_,_=>by simpa [dR] using h
 |
  b::r,t,ss,h,hb,hn=>by
  simp only[List.length_cons] at hn
  rw[dR,<-List.append_assoc]
  refine Ph r (t+1) _ (FD h hb (by omega) _) (λx hx=>?_) (by omega)
  rcases List.mem_append.1 hx with hx|hx
  . have:=hb x hx;omega
  . simp[DK] at hx
    obtain⟨a,_,rfl⟩:=hx
    show t<t+1
    omega
theorem aaT (bs:List (List Sm)):SiteOk bs.length (dR 0 bs):=by have:=Ph (n:=bs.length) bs 0 [] (λi x h=>by simp at h) (λx h=>by simp at h) (by omega);simpa using this
theorem Aa (t:Nat)(b:List Sm):(DK t b).length=aF b:=by simp[DK]
theorem Ag:∀(bs:List (List Sm)) (t:Nat),(dR t bs).length=fP bs
 | [],t=>rfl
 |b::r,t=>by rw[dR,List.length_append,Aa,Ag r,fP]
structure GoodC (nth:Nat)(ss:List (Nat×Nat))(t:Nat)(r:Int)(l:List In):Prop where
 r0:2<=r
 r1:r<=5
 pos:0<l.length
 len:l.length<=481
 op:∀(k:Nat) (i:In),l[k]?=some i->1<=i.op/\i.op<=28
 last:∀(k:Nat) (i:In),l[k]?=some i->(i.op=28 ↔ k+1=l.length)
 obj:∀(k:Nat) (i:In),l[k]?=some i->ObjI nth i
 lands:∀k,k<l.length->landsF l (l.length+1) (k:Int)=true
 site:∀(k:Nat) (i:In),l[k]?=some i->(i.op=28/\i.site= -1)\/(i.op≠28/\∃(q:Nat) (m:Nat),i.site=(q:Int)/\ss[q]?=some (t,m))
 jmp:∀(k:Nat) (i:In),l[k]?=some i->i.op=5->∃k:Nat,i.a=k/\k<l.length
 brn:∀(k:Nat) (i:In),l[k]?=some i->i.op=10->∃k:Nat,i.b=k/\k<l.length
 regs:∀(k:Nat) (i:In),l[k]?=some i->∀x∈regsI i,0<=x/\x<r
theorem Ah:∀(l:List Int) (m:Int),m<=jh m l
 | [],m=>by simp[jh]
 |
  x::r,m=>by
  have:=Ah r (max m (x+1))
  simp only[jh,List.foldl_cons] at this|-
  omega
theorem FH:∀(l:List Int) (m:Int),∀x∈l,x+1<=jh m l
 | [],m,x,hx=>by simp at hx
 |
  y::r,m,x,hx=>by
  have h1:=Ah r (max m (y+1))
  simp only[jh,List.foldl_cons] at h1|-
  rcases List.mem_cons.1 hx with rfl|hx
  . omega
  . exact FH r _ x hx
theorem II:∀(l:List Int) (m:Int),m<=5->(∀x∈l,x<=4)->jh m l<=5
 | [],m,h,_=>by simpa [jh] using h
 |
  y::r,m,h,hx=>by
  have:=hx y (by simp)
  simp only[jh,List.foldl_cons]
  exact II r _ (by omega) (λx h=>hx x (by simp[h]))
def oC (m:Int)(l:List In):Int:=l.foldl (λm i=>jh m (regsI i)) m
theorem FI:∀(l:List In) (m:Int),m<=oC m l
 | [],m=>by simp[oC]
 |
  x::r,m=>by
  have h1:=Ah (regsI x) m
  have h2:=FI r (jh m (regsI x))
  simp only[oC,List.foldl_cons] at h2|-
  omega
theorem IJ:∀(l:List In) (m:Int),∀i∈l,∀x∈regsI i,x+1<=oC m l
 | [],m,i,hi,x,hx=>by simp at hi
 |
  y::r,m,i,hi,x,hx=>by
  have h2:=FI r (jh m (regsI y))
  simp only[oC,List.foldl_cons] at h2|-
  rcases List.mem_cons.1 hi with rfl|hi
  . have:=FH (regsI i) m x hx;omega
  . exact IJ r _ i hi x hx
theorem Pj:∀(l:List In) (m:Int),m<=5->(∀i∈l,∀x∈regsI i,x<=4)->oC m l<=5
 | [],m,h,_=>by simpa [oC] using h
 |
  y::r,m,h,hx=>by
  simp only[oC,List.foldl_cons]
  exact Pj r _ (II _ _ h (hx y (by simp))) (λi h=>hx i (by simp[h]))
theorem Xk {n d t:Nat}{b:List Sm}{ss:List (Nat×Nat)}(hb:SpOkL n b)(hc:aF b<=60)(hs:∀k,k<aF b->ss[d+k]?=some (t,k)):GoodC n ss t (DJ (kG n d b)) (kG n d b):=by
 have y:=locL n 0 d b hb;have D:(kG n d b).length=(genL n 0 d b).length+1:=(by unfold kG;rw[List.length_append];rfl);have hlen:=genL_len n 0 d b;have hg:∀k i,(kG n d b)[k]?=some i->(k<(genL n 0 d b).length/\LocI n d (d+aF b) 0 (genL n 0 d b).length i)\/(k=(genL n 0 d b).length/\i=⟨28,0,0,0,0,-1⟩):=(by intro k i hk;unfold kG at hk;by_cases B:k<(genL n 0 d b).length;rw[List.getElem?_append_left B] at hk;have:=y i (List.mem_of_getElem? hk);rw[Nat.zero_add] at this;exact .inl ⟨B,this⟩;rw[List.getElem?_append_right (by omega)] at hk;have h1:=(List.getElem?_eq_some_iff.1 hk).1;simp at h1;have h0:k-(genL n 0 d b).length=0:=(by omega);rw[h0] at hk;simp at hk;exact .inr ⟨by omega,hk.symm⟩);have u:∀i∈kG n d b,∀x∈regsI i,0<=x/\x<=4:=(by intro i hi x hx;obtain⟨k,hk⟩:=List.getElem?_of_mem hi;rcases hg k i hk with ⟨_,h⟩|⟨_,rfl⟩;exact h.regs x hx;simp[regsI] at hx);refine⟨FI _ 2,Pj _ 2 (by decide) (λi hi x hx=>(u i hi x hx).2),by omega,by omega,?_,?_,?_,λk hk=>TG n d b k hk,?_,?_,?_,?_⟩;intro k i hk;rcases hg k i hk with ⟨_,h⟩|⟨_,rfl⟩;have:=h.op1;have:=h.op2;omega;decide;intro k i hk;rcases hg k i hk with ⟨h1,h⟩|⟨h1,rfl⟩;have:=h.op2;exact⟨λe=>by omega,λe=>by omega⟩;exact⟨λ_=>by omega,λ_=>rfl⟩;intro k i hk;rcases hg k i hk with ⟨_,h⟩|⟨_,rfl⟩;exact h.obj;constructor<;>simp;intro k i hk;rcases hg k i hk with ⟨_,h⟩|⟨_,rfl⟩;have:=h.op2;obtain⟨q,e,h1,h2⟩:=h.site;have:=hs (q-d) (by omega);rw[show d+(q-d)=q by omega] at this;exact .inr ⟨by omega,q,_,e,this⟩;exact .inl ⟨rfl,rfl⟩
 . intro k i hk h5;rcases hg k i hk with ⟨_,h⟩|⟨_,rfl⟩;obtain⟨q,e,h1,h2⟩:=h.jmp h5;exact⟨q,e,by omega⟩
   cases h5
 . intro k i hk h5;rcases hg k i hk with ⟨_,h⟩|⟨_,rfl⟩;obtain⟨q,e,h1,h2⟩:=h.brn h5;exact⟨q,e,by omega⟩
   cases h5
 intro k i hk x hx;have h1:=u i (List.mem_of_getElem? hk) x hx;have h2:x+1<=DJ (kG n d b):=IJ _ 2 i (List.mem_of_getElem? hk) x hx;omega
theorem IK {n:Nat} :∀(bs:List (List Sm)) (t:Nat) (pre:List (Nat×Nat)),(∀b∈bs,SpOkL n b)->fP bs<=60->∀j r l,(codeF n pre.length bs)[j]?=some (r,l)->GoodC n (pre++dR t bs) (t+j) r l
 | [],t,pre,_,_,j,r,l,h=>by simp[codeF] at h
 |
  b::q,t,pre,hb,hc,0,r,l,h=>by
  simp only[codeF,List.getElem?_cons_zero,Option.some.injEq,Prod.mk.injEq] at h
  obtain⟨rfl,rfl⟩:=h
  simp only[fP] at hc
  refine Xk (hb b (by simp)) (by omega) (λk hk=>?_)
  rw[List.getElem?_append_right (by omega),show pre.length+k-pre.length=k by omega,dR,List.getElem?_append_left (by rw[Aa];exact hk)]
  unfold DK
  rw[List.getElem?_map,List.getElem?_range hk]
  rfl
 |
  b::q,t,pre,hb,hc,j+1,r,l,h=>by
  simp only[codeF,List.getElem?_cons_succ] at h
  simp only[fP] at hc
  have:=IK q (t+1) (pre++DK t b) (λb h=>hb b (by simp[h])) (by omega) j r l (by rw[List.length_append,Aa];exact h)
  rw[List.append_assoc] at this
  rw[dR,show t+(j+1)=t+1+j by omega]
  exact this
theorem uY (n:Nat):∀(bs:List (List Sm)) (d:Nat),(codeF n d bs).length=bs.length
 | [],d=>rfl
 |b::r,d=>by simp[codeF,uY n r]
theorem yZ {bs:List (List Sm)}(h:qf bs=0):(dR 0 bs).length<=60/\SiteOk bs.length (dR 0 bs)/\∀t r l,(codeF bs.length 0 bs)[t]?=some (r,l)->GoodC bs.length (dR 0 bs) t r l:=by obtain⟨h1,h2⟩:=xO h;refine⟨by rw[Ag];exact h1,aaT bs,λt r l hc=>?_⟩;have:=IK bs 0 [] h2 h1 t r l hc;simpa using this
def NumI (i:In):Prop:=0<=i.n/\i.n<=18
theorem rF (op a b c d:Int):NumI ⟨op,a,b,c,0,d⟩:=⟨by show (0:Int)<=0;decide,by show (0:Int)<=18;decide⟩
theorem uS (q:Int)(l:Lf)(d:Int):NumI (kH q l d):=by
 cases l with
 |num n=>have:=n.isLt;exact⟨by show (0:Int)<=(n.val:Int);omega,by show (n.val:Int)<=18;omega⟩
 |var k=>cases k<;>exact rF _ _ _ _ _
theorem qE (q:Int)(e:Ex)(d:Int):∀i∈aK q e d,NumI i:=by
 intro i hi
 cases e with
 |leaf l=>simp only[aK,List.mem_singleton] at hi;subst hi;exact uS _ _ _
 |idx l=>simp only[aK,List.mem_cons,List.not_mem_nil,or_false] at hi;rcases hi with rfl|rfl;exact uS _ _ _;exact⟨by show (0:Int)<=2;decide,by show (2:Int)<=18;decide⟩
 |
  bin k l r=>
  simp only[aK,List.mem_cons,List.not_mem_nil,or_false] at hi;rcases hi with rfl|rfl|rfl;exact uS _ _ _;exact uS _ _ _;have:=BI k;exact⟨by show 0<=binOp k;omega,by show binOp k<=18;omega⟩
theorem adu (d:Int)(k:Nm):NumI (DI d k):=by cases k<;>exact rF _ _ _ _ _
mutual
theorem numS (n base d:Nat):∀s:Sm,∀i∈genS n base d s,NumI i
 |
  .asg k e,i,hi=>by
  simp only[genS,List.mem_append,List.mem_singleton] at hi
  rcases hi with hi|rfl
  . exact qE _ _ _ i hi
  . exact adu _ _
 |
  .asq x e,i,hi=>by
  simp only[genS,List.mem_cons,List.mem_append,List.mem_singleton,List.not_mem_nil,or_false] at hi
  rcases hi with rfl|hi|rfl
  . exact uS _ _ _
  . exact qE _ _ _ i hi
  . exact⟨by show (0:Int)<=2;decide,by show (2:Int)<=18;decide⟩
 |
  .ite e b [],i,hi=>by
  simp only[genS,List.mem_cons,List.mem_append] at hi
  rcases hi with hi|rfl|hi
  . exact qE _ _ _ i hi
  . exact rF _ _ _ _ _
  . exact numL _ _ _ b i hi
 |
  .ite e b (c::r),i,hi=>by
  simp only[genS,List.mem_cons,List.mem_append] at hi
  rcases hi with hi|rfl|hi|rfl|hi
  . exact qE _ _ _ i hi
  . exact rF _ _ _ _ _
  . exact numL _ _ _ b i hi
  . exact rF _ _ _ _ _
  . exact numL _ _ _ (c::r) i hi
 |
  .whl e b,i,hi=>by
  simp only[genS,List.mem_cons,List.mem_append,List.not_mem_nil,or_false] at hi
  rcases hi with hi|rfl|hi|rfl
  . exact qE _ _ _ i hi
  . exact rF _ _ _ _ _
  . exact numL _ _ _ b i hi
  . exact rF _ _ _ _ _
 |
  .blk k b,i,hi=>by
  simp only[genS,List.mem_cons,List.mem_append,List.not_mem_nil,or_false] at hi
  rcases hi with rfl|hi|rfl
  . exact rF _ _ _ _ _
  . exact numL _ _ _ b i hi
  . exact rF _ _ _ _ _
 |
  .tx b,i,hi=>by
  simp only[genS,List.mem_cons,List.mem_append,List.not_mem_nil,or_false] at hi
  rcases hi with rfl|hi|rfl
  . exact rF _ _ _ _ _
  . exact numL _ _ _ b i hi
  . exact rF _ _ _ _ _
 |
  .atm b,i,hi=>by
  simp only[genS,List.mem_cons,List.mem_append,List.not_mem_nil,or_false] at hi
  rcases hi with rfl|hi|rfl
  . exact rF _ _ _ _ _
  . exact numL _ _ _ b i hi
  . exact rF _ _ _ _ _
 | .sig k,i,hi=>by simp only[genS,List.mem_singleton] at hi;subst hi;exact rF _ _ _ _ _
 | .spawn k,i,hi=>by simp only[genS,List.mem_singleton] at hi;subst hi;exact rF _ _ _ _ _
 | .join,i,hi=>by simp only[genS,List.mem_singleton] at hi;subst hi;exact rF _ _ _ _ _
 |
  .set e,i,hi=>by
  simp only[genS,List.mem_append,List.mem_singleton] at hi
  rcases hi with hi|rfl
  . exact qE _ _ _ i hi
  . exact rF _ _ _ _ _
 | .get,i,hi=>by simp only[genS,List.mem_singleton] at hi;subst hi;exact rF _ _ _ _ _
theorem numL (n base d:Nat):∀l:List Sm,∀i∈genL n base d l,NumI i
 | [],i,hi=>by simp[genL] at hi
 |
  s::r,i,hi=>by
  simp only[genL,List.mem_append] at hi
  rcases hi with hi|hi
  . exact numS _ _ _ s i hi
  . exact numL _ _ _ r i hi
end
theorem aaU (n d:Nat)(b:List Sm):∀i∈kG n d b,NumI i:=by intro i hi;unfold kG at hi;rcases List.mem_append.1 hi with hi|hi;exact numL _ _ _ b i hi;simp only[List.mem_singleton] at hi;subst hi;exact rF _ _ _ _ _
theorem Hl (n:Nat):∀(bs:List (List Sm)) (d:Nat),∀x∈codeF n d bs,∀i∈x.2,NumI i
 | [],d,x,hx=>by simp[codeF] at hx
 |
  b::r,d,x,hx=>by
  simp only[codeF,List.mem_cons] at hx
  rcases hx with rfl|hx
  . exact aaU n d b
  . exact Hl n r _ x hx
theorem FK (n:Nat)(b:List Sm):∀(l:List (List Sm)) (d:Nat),codeF n d (l++[b])=codeF n d l++[(DJ (kG n (d+fP l) b),kG n (d+fP l) b)]
 | [],d=>by simp[codeF,fP]
 |
  x::r,d=>by
  rw[List.cons_append,codeF,codeF,FK n b r,List.cons_append,fP,Nat.add_assoc]
theorem TJ (i:In)(l:List In)(m:Int):oC m (l++[i])=jh (oC m l) (regsI i):=by simp[oC,List.foldl_append]
theorem Pm (x:Int)(l:List Int)(m:Int):jh m (l++[x])=max (jh m l) (x+1):=by simp[jh,List.foldl_append]
theorem nG (i:In):(regsI i).length<=3:=by unfold regsI;(repeat' split);all_goals simp
theorem xP {α:Type}{l:List α}{k:Nat}{s:α}(h:l[k]?=some s):l.take (k+1)=l.take k++[s]:=by rw[List.take_add_one,h];rfl
theorem IL (n:Nat):∀(bs:List (List Sm)) (d i:Nat) (l:List Sm),bs[i]?=some l->(codeF n d bs)[i]?=some (DJ (kG n (d+fP (bs.take i)) l),kG n (d+fP (bs.take i)) l)
 | [],d,i,l,h=>by simp at h
 |
  b::r,d,0,l,h=>by
  simp only[List.getElem?_cons_zero,Option.some.injEq] at h
  subst h
  simp[codeF,fP]
 |
  b::r,d,i+1,l,h=>by
  simp only[List.getElem?_cons_succ] at h
  have:=IL n r (d+aF b) i l h
  simp only[codeF,List.getElem?_cons_succ,List.take_succ_cons,fP,this,Nat.add_assoc]
