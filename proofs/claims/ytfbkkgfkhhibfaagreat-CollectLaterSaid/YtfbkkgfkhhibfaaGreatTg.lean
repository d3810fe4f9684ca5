/- Words. -/
set_option linter.unusedVariables false
namespace Mk
inductive Nm|a|b|x|y|v
inductive Lf|num (n:Fin 4)|var (k:Nm)
inductive Ex|leaf (l:Lf)|idx (l:Lf)|bin (k:Fin 6) (l r:Lf)
inductive Bk|m|n|rd|wr
inductive Sg|wait|one|all
inductive Sm
 |asg (k:Nm) (e:Ex)
 |asq (i:Lf) (e:Ex)
 |ite (e:Ex) (b c:List Sm)
 |whl (e:Ex) (b:List Sm)
 |blk (k:Bk) (b:List Sm)
 |tx (b:List Sm)
 |atm (b:List Sm)
 |sig (k:Sg)
 |spawn (k:Nat)
 |join
 |set (e:Ex)
 |get
def Ex.kids:Ex->List Lf
 | .leaf _=> []
 | .idx l=> [l]
 | .bin _ l r=> [l,r]
def Sm.body:Sm->List Sm
 | .ite _ b _ | .whl _ b | .blk _ b | .tx b | .atm b=>b
 |_=> []
def Sm.els:Sm->List Sm
 | .ite _ _ c=>c
 |_=> []
def Sm.index:Sm->List Lf
 | .asq i _=> [i]
 |_=> []
mutual
def eQ:Sm->Nat
 | .ite _ b c=>1+az b+az c
 | .whl _ b | .blk _ b | .tx b | .atm b=>1+az b
 |_=>1
def az:List Sm->Nat
 | []=>0
 |s::r=>eQ s+az r
end
def nest (b:Bool):Int:=if b then 7 else 0
def Nm.str:Nm->ByteArray
 | .a=>⟨#[97]⟩
 | .b=>⟨#[98]⟩
 | .x=>⟨#[120]⟩
 | .y=>⟨#[121]⟩
 | .v=>⟨#[118]⟩
def Lf.op:Lf->Int
 | .num _=>1
 | .var _=>2
def Lf.n:Lf->Int
 | .num n=>(n.val:Int)
 | .var _=>0
def Lf.name:Lf->ByteArray
 | .num _=>⟨#[]⟩
 | .var k=>k.str
def binOp (k:Fin 6):Int:=#[6,7,8,11,13,17][k]
def Ex.op:Ex->Int
 | .leaf l=>l.op
 | .idx _=>3
 | .bin k _ _=>binOp k
def Ex.n:Ex->Int
 | .leaf l=>l.n
 |_=>0
def Ex.name:Ex->ByteArray
 | .leaf l=>l.name
 | .idx _=>⟨#[113]⟩
 | .bin _ _ _=>⟨#[]⟩
def Sm.op:Sm->Int
 | .asg _ _ | .asq _ _=>1
 | .ite _ _ _=>2
 | .whl _ _=>3
 | .blk .m _ | .blk .n _=>4
 | .blk .rd _=>5
 | .blk .wr _=>6
 | .tx _=>7
 | .atm _=>8
 | .sig .wait=>9
 | .sig .one=>10
 | .sig .all=>11
 | .spawn _=>12
 | .join=>13
 | .set _=>14
 | .get=>15
def aQ:Nat->ByteArray
 |0=>⟨#[109,97,105,110]⟩
 |1=>⟨#[116,49]⟩
 |2=>⟨#[116,50]⟩
 |_=>⟨#[116,51]⟩
def Sm.name:Sm->ByteArray
 | .asg k _=>k.str
 | .asq _ _=>⟨#[113]⟩
 | .blk .m _=>⟨#[109]⟩
 | .blk .n _=>⟨#[110]⟩
 | .blk _ _=>⟨#[114]⟩
 | .sig _=>⟨#[99]⟩
 | .spawn k=>aQ k
 | .join=>aQ 1
 | .set _=>⟨#[102]⟩
 | .get=>⟨#[97]⟩
 |_=>⟨#[]⟩
def Sm.arg:Sm->ByteArray
 | .get=>⟨#[102]⟩
 |_=>⟨#[]⟩
def Sm.ex:Sm->Option Ex
 | .asg _ e | .asq _ e | .ite e _ _ | .whl e _ | .set e=>some e
 |_=>none
theorem lD (s:Sm):eQ s=1+az s.body+az s.els:=by cases s<;>simp[eQ,Sm.body,Sm.els,az]
def vY:List Sm->Nat
 | []=>0
 |s::r=>az s.body+az s.els+vY r
theorem xE:∀l,az l=l.length+vY l
 | []=>rfl
 |
  s::r=>by
  rw[az,lD,xE r,vY,List.length_cons]
  omega
theorem G8:∀(l:List Sm) (k:Nat) (s:Sm),l[k]?=some s->vY (l.take (k+1))=vY (l.take k)+(az s.body+az s.els)
 | [],k,s,h=>by simp at h
 |
  x::r,0,s,h=>by
  simp only[List.getElem?_cons_zero,Option.some.injEq] at h
  subst h
  simp[vY]
 |
  x::r,k+1,s,h=>by
  simp only[List.getElem?_cons_succ] at h
  rw[List.take_succ_cons,List.take_succ_cons,vY,vY,G8 r k s h]
  omega
theorem IZ:∀(l:List Sm) (k:Nat),vY (l.take k)<=vY l
 | [],k=>by simp
 |x::r,0=>by simp[vY]
 |
  x::r,k+1=>by
  rw[List.take_succ_cons,vY,vY]
  have:=IZ r k
  omega
def fH (s:ByteArray):Int->List ByteArray->Int
 |_,[]=> -1
 |i,x::r=>if x=s then i else fH s (i+1) r
def iR (l:List ByteArray)(s:ByteArray):Int:=fH s 0 l
theorem at_hit {s:ByteArray}{l:List ByteArray}{i:Nat}(hi:i<l.length)(he:l[i]=s)(h:iR l s=fH s i (l.drop i)):iR l s=i:=by rw[h,List.drop_eq_getElem_cons hi,fH,if_pos he]
theorem oN {s:ByteArray}{l:List ByteArray}{i:Nat}(hi:i<l.length)(he:l[i]≠s)(h:iR l s=fH s i (l.drop i)):iR l s=fH s (i+1:Nat) (l.drop (i+1)):=by rw[h,List.drop_eq_getElem_cons hi,fH,if_neg he];rfl
theorem sW {s:ByteArray}{l:List ByteArray}{i:Nat}(hi:¬i<l.length)(h:iR l s=fH s i (l.drop i)):iR l s= -1:=by rw[h,List.drop_eq_nil_of_le (by omega)];rfl
def thNames (n:Nat):List ByteArray:=(List.range n).map aQ
def bC:List ByteArray:=[⟨#[97]⟩,⟨#[98]⟩]
def yP:List ByteArray:=[⟨#[120]⟩,⟨#[121]⟩,⟨#[118]⟩,⟨#[113]⟩,⟨#[109]⟩,⟨#[110]⟩,⟨#[114]⟩,⟨#[99]⟩,⟨#[102]⟩]
def adX:List Int:=[1,1,1,2,3,3,4,5,6]
def xG (n:Nat)(s:ByteArray):Int:=
 if 0<=iR bC s then 8 else if 0<=iR yP s then adX[(iR yP s).toNat]?.getD 9 else if 0<=iR (thNames n) s then 7 else 0
def lQ (n:Nat)(s:ByteArray)(a b:Int):Int:=if xG n s=0 then 5 else if xG n s≠a/\xG n s≠b then 6 else 0
def mJ (ar:List Sm)(a b:Int)(s:ByteArray):Bool:=ar.any λx=>(decide (x.op=a) || decide (x.op=b)) &&(decide (s=⟨#[]⟩) || decide (x.name=s))
def jd (n t:Nat)(ar:List Sm)(sp st:List ByteArray):Sm->Int×List ByteArray×List ByteArray
 | .asg _ _ | .asq _ _ | .ite _ _ _ | .whl _ _=>(0,sp,st)
 | .blk .m _=>(nest (mJ ar 7 7 ⟨#[]⟩ || mJ ar 4 4 ⟨#[109]⟩),sp,st)
 | .blk .n _=>(nest (mJ ar 7 7 ⟨#[]⟩ || mJ ar 4 4 ⟨#[110]⟩),sp,st)
 | .blk .rd _ | .blk .wr _=>(nest (mJ ar 7 7 ⟨#[]⟩ || mJ ar 5 6 ⟨#[114]⟩),sp,st)
 | .tx _=>(nest (mJ ar 7 7 ⟨#[]⟩),sp,st)
 | .atm _=>(nest (mJ ar 7 7 ⟨#[]⟩ || mJ ar 8 8 ⟨#[]⟩),sp,st)
 | .sig .wait=>(nest (mJ ar 7 7 ⟨#[]⟩ || !mJ ar 4 4 ⟨#[109]⟩ || mJ ar 8 8 ⟨#[]⟩),sp,st)
 | .sig _=>(nest (mJ ar 7 7 ⟨#[]⟩ || !mJ ar 4 4 ⟨#[109]⟩),sp,st)
 |
  .spawn k=>
  if iR (thNames n) (aQ k)<0 then (5,sp,st)
  else if mJ ar 7 7 ⟨#[]⟩ || mJ ar 8 8 ⟨#[]⟩ || mJ ar 3 3 ⟨#[]⟩ || decide (iR (thNames n) (aQ k)=t) || decide (iR (thNames n) (aQ k)=0) then (7,sp,st)
  else if 0<=iR sp (aQ k) then (8,sp,st) else (0,sp++[aQ k],st)
 | .join=>(if iR (thNames n) (aQ 1)<0 then 5 else nest (mJ ar 7 7 ⟨#[]⟩ || mJ ar 8 8 ⟨#[]⟩ || decide (iR (thNames n) (aQ 1)=t)),sp,st)
 | .set _=>(if mJ ar 7 7 ⟨#[]⟩ || mJ ar 3 3 ⟨#[]⟩ then 7 else if 0<=iR st ⟨#[102]⟩ then 8 else 0,sp,st++[⟨#[102]⟩])
 | .get=>(nest (mJ ar 7 7 ⟨#[]⟩),sp,st)
mutual
def allS (n t:Nat)(ar:List Sm)(sp st:List ByteArray):Sm->Int×List ByteArray×List ByteArray
 |
  .ite e b c=>
  let r:=jd n t ar sp st (.ite e b c)
  let x:=if 6<ar.length+1 then 2 else r.1
  if x≠0 then (x,r.2) else
  let y:=allL n t (ar++[.ite e b c]) r.2.1 r.2.2 b
  if y.1≠0 then y else allL n t (ar++[.ite e b c]) y.2.1 y.2.2 c
 |
  .whl e b=>
  let r:=jd n t ar sp st (.whl e b)
  let x:=if 6<ar.length+1 then 2 else r.1
  if x≠0 then (x,r.2) else allL n t (ar++[.whl e b]) r.2.1 r.2.2 b
 |
  .blk k b=>
  let r:=jd n t ar sp st (.blk k b)
  let x:=if 6<ar.length+1 then 2 else r.1
  if x≠0 then (x,r.2) else allL n t (ar++[.blk k b]) r.2.1 r.2.2 b
 |
  .tx b=>
  let r:=jd n t ar sp st (.tx b)
  let x:=if 6<ar.length+1 then 2 else r.1
  if x≠0 then (x,r.2) else allL n t (ar++[.tx b]) r.2.1 r.2.2 b
 |
  .atm b=>
  let r:=jd n t ar sp st (.atm b)
  let x:=if 6<ar.length+1 then 2 else r.1
  if x≠0 then (x,r.2) else allL n t (ar++[.atm b]) r.2.1 r.2.2 b
 |
  s=>
  let r:=jd n t ar sp st s
  (if 6<ar.length+1 then 2 else r.1,r.2)
def allL (n t:Nat)(ar:List Sm)(sp st:List ByteArray):List Sm->Int×List ByteArray×List ByteArray
 | []=>(0,sp,st)
 |
  s::r=>
  let x:=allS n t ar sp st s
  if x.1≠0 then x else allL n t ar x.2.1 x.2.2 r
end
def I8 (n t:Nat)(ar:List Sm)(sp st:List ByteArray)(s:Sm):Int:=if 6<ar.length+1 then 2 else (jd n t ar sp st s).1
theorem anq {x:Int×List ByteArray×List ByteArray}(h:x.1=0):(0,x.2.1,x.2.2)=x:=by
 obtain⟨a,b,c⟩:=x
 cases h
 rfl
theorem I9 (n t:Nat)(a:List Sm)(d st:List ByteArray)(s:Sm):allS n t a d st s=
 (if I8 n t a d st s≠0 then (I8 n t a d st s,(jd n t a d st s).2) else
  if (allL n t (a++[s]) (jd n t a d st s).2.1 (jd n t a d st s).2.2 s.body).1≠0 then allL n t (a++[s]) (jd n t a d st s).2.1 (jd n t a d st s).2.2 s.body
  else allL n t (a++[s]) (allL n t (a++[s]) (jd n t a d st s).2.1 (jd n t a d st s).2.2 s.body).2.1 (allL n t (a++[s]) (jd n t a d st s).2.1 (jd n t a d st s).2.2 s.body).2.2 s.els):=by cases s<;>simp only[allS,I8,Sm.body,Sm.els,allL]<;>(try rfl)<;>(repeat' split)<;>simp_all<;>(try exact (anq (by assumption)).symm)
def MO (n:Nat):Nat->List ByteArray->List ByteArray->List (List Sm)->Int
 |_,_,_,[]=>0
 |t,sp,st,b::r=>if (allL n t [] sp st b).1≠0 then (allL n t [] sp st b).1 else MO n (t+1) (allL n t [] sp st b).2.1 (allL n t [] sp st b).2.2 r
def fD:List (List Sm)->Nat
 | []=>0
 |b::r=>az b+fD r
def pO (bs:List (List Sm)):Int:=if 60<fD bs then 2 else MO bs.length 0 [] [] bs
theorem NQ (n t:Nat)(d:List Sm)(a st:List ByteArray)(s:Sm):(jd n t d a st s).2.1.length<=a.length+1/\(jd n t d a st s).2.2.length<=st.length+1:=by unfold jd;split<;>(repeat' split)<;>simp
theorem qx (n t:Nat):∀(m:Nat) (l:List Sm),az l<=m->∀(a:List Sm) (d st:List ByteArray),(allL n t a d st l).2.1.length<=d.length+az l/\(allL n t a d st l).2.2.length<=st.length+az l
 |m,[],_,a,d,st=>by simp[allL]
 |0,s::r,h,a,d,st=>by rw[az,lD] at h;omega
 |
  m+1,s::r,h,a,d,st=>by
  rw[az,lD] at h|-
  have h1:=NQ n t a d st s
  have h2:=qx n t m s.body (by omega) (a++[s]) (jd n t a d st s).2.1 (jd n t a d st s).2.2
  have h3:=qx n t m s.els (by omega) (a++[s]) (allL n t (a++[s]) (jd n t a d st s).2.1 (jd n t a d st s).2.2 s.body).2.1 (allL n t (a++[s]) (jd n t a d st s).2.1 (jd n t a d st s).2.2 s.body).2.2
  have u:(allS n t a d st s).2.1.length<=d.length+(1+az s.body+az s.els)/\(allS n t a d st s).2.2.length<=st.length+(1+az s.body+az s.els):=by
   rw[I9]
   split
   . exact⟨by show (jd n t a d st s).2.1.length<=_;omega,by show (jd n t a d st s).2.2.length<=_;omega⟩
   . split<;>omega
  have h4:=qx n t m r (by omega) a (allS n t a d st s).2.1 (allS n t a d st s).2.2
  simp only[allL]
  split<;>omega
structure In where
 op:Int
 a:Int
 b:Int
 c:Int
 n:Int
 site:Int
def kG (st:Int)(l:Lf)(d:Int):In:=match l with
 | .num n=>⟨1,d,0,0,(n.val:Int),st⟩
 | .var .a=>⟨2,d,0,0,0,st⟩
 | .var .b=>⟨2,d,1,0,0,st⟩
 | .var .x=>⟨6,d,0,0,0,st⟩
 | .var .y=>⟨6,d,1,0,0,st⟩
 | .var .v=>⟨6,d,2,0,0,st⟩
def aC (st:Int)(e:Ex)(d:Int):List In:=match e with
 | .leaf l=> [kG st l d]
 | .idx l=> [kG st l d,⟨7,d,3,d,2,st⟩]
 | .bin k l r=> [kG st l d,kG st r (d+1),⟨4,d,d,d+1,binOp k,st⟩]
def Ce (st:Int):Nm->In
 | .a=>⟨2,0,2,0,0,st⟩
 | .b=>⟨2,1,2,0,0,st⟩
 | .x=>⟨8,0,2,0,0,st⟩
 | .y=>⟨8,1,2,0,0,st⟩
 | .v=>⟨8,2,2,0,0,st⟩
def Bk.fst:Bk->Int
 | .m=>11 | .n=>11 | .rd=>13 | .wr=>15
def Bk.obj:Bk->Int
 | .m=>0 | .n=>1 | .rd=>2 | .wr=>2
def Sg.op:Sg->Int
 | .wait=>21 | .one=>22 | .all=>23
mutual
def genS (nth base st:Nat):Sm->List In
 | .asg k e=>aC st e 2++[Ce st k]
 | .asq i e=>kG st i 2::(aC st e 3++[⟨9,3,3,2,2,st⟩])
 | .ite e b []=>aC st e 2++⟨10,2,((base+(aC st e 2).length+1+(genL nth (base+(aC st e 2).length+1) (st+1) b).length:Nat):Int),0,0,st⟩::genL nth (base+(aC st e 2).length+1) (st+1) b
 |
  .ite e b (c::r)=>
  aC st e 2++⟨10,2,((base+(aC st e 2).length+1+(genL nth (base+(aC st e 2).length+1) (st+1) b).length+1:Nat):Int),0,0,st⟩::(genL nth (base+(aC st e 2).length+1) (st+1) b++
   ⟨5,((base+(aC st e 2).length+1+(genL nth (base+(aC st e 2).length+1) (st+1) b).length+1+(genL nth (base+(aC st e 2).length+1+(genL nth (base+(aC st e 2).length+1) (st+1) b).length+1) (st+1+az b) (c::r)).length:Nat):Int),0,0,0,st⟩ ::
   genL nth (base+(aC st e 2).length+1+(genL nth (base+(aC st e 2).length+1) (st+1) b).length+1) (st+1+az b) (c::r))
 | .whl e b=>aC st e 2++⟨10,2,((base+(aC st e 2).length+1+(genL nth (base+(aC st e 2).length+1) (st+1) b).length+1:Nat):Int),0,0,st⟩::(genL nth (base+(aC st e 2).length+1) (st+1) b++[⟨5,(base:Int),0,0,0,st⟩])
 | .blk k b=>⟨k.fst,k.obj,0,0,0,st⟩::(genL nth (base+1) (st+1) b++[⟨k.fst+1,k.obj,0,0,0,st⟩])
 | .tx b=>⟨17,0,0,0,0,st⟩::(genL nth (base+1) (st+1) b++[⟨18,0,0,0,0,st⟩])
 | .atm b=>⟨19,0,0,0,0,st⟩::(genL nth (base+1) (st+1) b++[⟨20,0,0,0,0,st⟩])
 | .sig k=> [⟨k.op,0,0,0,0,st⟩]
 | .spawn k=> [⟨24,iR (thNames nth) (aQ k),0,0,0,st⟩]
 | .join=> [⟨25,iR (thNames nth) (aQ 1),0,0,0,st⟩]
 | .set e=>aC st e 2++[⟨26,0,2,0,0,st⟩]
 | .get=> [⟨27,0,0,0,0,st⟩]
def genL (nth base st:Nat):List Sm->List In
 | []=> []
 |s::r=>genS nth base st s++genL nth (base+(genS nth base st s).length) (st+eQ s) r
end
def regsI (i:In):List Int:=
 if i.op=1\/i.op=6\/i.op=10\/i.op=27 then [i.a]
 else if i.op=2\/i.op=3 then [i.a,i.b]
 else if i.op=4 then [i.a,i.b,i.c]
 else if i.op=7 then [i.a,i.c]
 else if i.op=8\/i.op=26 then [i.b]
 else if i.op=9 then [i.b,i.c]
 else []
def kD (nth st:Nat)(b:List Sm):List In:=genL nth 0 st b++[⟨28,0,0,0,0,-1⟩]
def iZ (m:Int)(l:List Int):Int:=l.foldl (λm r=>max m (r+1)) m
def Cf (l:List In):Int:=l.foldl (λm i=>iZ m (regsI i)) 2
def codeF (nth:Nat):Nat->List (List Sm)->List (Int×List In)
 |_,[]=> []
 |st,b::r=>(Cf (kD nth st b),kD nth st b)::codeF nth (st+az b) r
def Ci (t:Nat)(b:List Sm):List (Nat×Nat):=(List.range (az b)).map λk=>(t,k)
def dB:Nat->List (List Sm)->List (Nat×Nat)
 |_,[]=> []
 |t,b::r=>Ci t b++dB (t+1) r
