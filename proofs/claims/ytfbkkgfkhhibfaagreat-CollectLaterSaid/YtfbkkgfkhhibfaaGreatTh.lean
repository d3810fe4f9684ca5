/- Words. -/
import Derived.Test.YtfbkkgfkhhibfaaGreatTg
import Derived.RowKit
set_option linter.unusedVariables false
set_option linter.unusedSimpArgs false
namespace Mk
open Go
theorem xR (s:ByteArray):∀(l:List ByteArray) (i:Nat),fH s i l= -1\/∃k,k<l.length/\l[k]?=some s/\fH s i l=((i+k:Nat):Int)
 | [],i=> .inl rfl
 |
  x::r,i=>by
  unfold fH
  split
  . rename_i h
    exact .inr ⟨0,by simp,by simp[h],by simp⟩
  . rcases xR s r (i+1) with h|⟨k,h1,h2,h3⟩
    . exact .inl (by rw[<-h];norm_cast)
    . exact .inr ⟨k+1,by simpa using h1,by simpa using h2,by rw[show ((i:Int)+1)=((i+1:Nat):Int) by omega,h3];omega⟩
theorem VA (l:List ByteArray)(s:ByteArray):iR l s= -1\/∃k,k<l.length/\l[k]?=some s/\iR l s=(k:Int):=by have:=xR s l 0;simpa [iR] using this
theorem thNames_len (n:Nat):(thNames n).length=n:=by simp[thNames]
theorem jU (st:Int)(x:Ex)(d:Int):(aC st x d).length<=3:=by cases x<;>simp[aC]
mutual
theorem genS_len (n base st:Nat):∀s:Sm,(genS n base st s).length<=8*eQ s
 | .asg k e=>by have:=jU st e 2;simp[genS,eQ];omega
 | .asq i e=>by have:=jU st e 3;simp[genS,eQ];omega
 |
  .ite e b []=>by
  have:=jU st e 2
  have h1:=genL_len n (base+(aC st e 2).length+1) (st+1) b
  simp[genS,eQ,az];omega
 |
  .ite e b (c::r)=>by
  have:=jU st e 2
  have h1:=genL_len n (base+(aC st e 2).length+1) (st+1) b
  have h2:=genL_len n (base+(aC st e 2).length+1+(genL n (base+(aC st e 2).length+1) (st+1) b).length+1) (st+1+az b) (c::r)
  simp only[genS,eQ,List.length_append,List.length_cons];omega
 |
  .whl e b=>by
  have:=jU st e 2
  have h1:=genL_len n (base+(aC st e 2).length+1) (st+1) b
  simp[genS,eQ];omega
 |
  .blk k b=>by
  have h1:=genL_len n (base+1) (st+1) b
  simp[genS,eQ];omega
 |
  .tx b=>by
  have h1:=genL_len n (base+1) (st+1) b
  simp[genS,eQ];omega
 |
  .atm b=>by
  have h1:=genL_len n (base+1) (st+1) b
  simp[genS,eQ];omega
 | .sig k=>by simp[genS,eQ]
 | .spawn k=>by simp[genS,eQ]
 | .join=>by simp[genS,eQ]
 | .set e=>by have:=jU st e 2;simp[genS,eQ];omega
 | .get=>by simp[genS,eQ]
theorem genL_len (n base st:Nat):∀l:List Sm,(genL n base st l).length<=8*az l
 | []=>by simp[genL]
 |
  s::r=>by
  have h1:=genS_len n base st s
  have h2:=genL_len n (base+(genS n base st s).length) (st+eQ s) r
  simp only[genL,az,List.length_append];omega
end
structure ObjI (nth:Nat)(i:In):Prop where
 o3:i.op≠3
 o4:i.op=4->6<=i.n/\i.n<=18
 o6:i.op=6->0<=i.b/\i.b<=2
 o7:i.op=7->i.b=3/\i.n=2
 o8:i.op=8->0<=i.a/\i.a<=2
 o9:i.op=9->i.a=3/\i.n=2
 o11:i.op=11\/i.op=12->0<=i.a/\i.a<=1
 o13:13<=i.op/\i.op<=16->i.a=2
 o21:21<=i.op/\i.op<=23->i.a=0
 o24:i.op=24\/i.op=25->0<=i.a/\i.a<nth
 o26:i.op=26->i.a=0
 o27:i.op=27->i.b=0
structure LocI (nth s0 s1 lo hi:Nat)(i:In):Prop where
 op1:1<=i.op
 op2:i.op<=27
 obj:ObjI nth i
 site:∃k:Nat,i.site=k/\s0<=k/\k<s1
 jmp:i.op=5->∃k:Nat,i.a=k/\lo<=k/\k<=hi
 brn:i.op=10->∃k:Nat,i.b=k/\lo<=k/\k<=hi
 regs:∀r∈regsI i,0<=r/\r<=4
theorem LocI.weak {nth s0 s1 lo hi u y A B:Nat}{i:In}(h:LocI nth s0 s1 lo hi i)(a:u<=s0)(b:s1<=y)(c:A<=lo)(d:hi<=B):LocI nth u y A B i:=
 ⟨h.op1,h.op2,h.obj,by obtain⟨k,e,p,q⟩:=h.site;exact⟨k,e,by omega,by omega⟩,λx=>by obtain⟨k,e,p,q⟩:=h.jmp x;exact⟨k,e,by omega,by omega⟩,λx=>by obtain⟨k,e,p,q⟩:=h.brn x;exact⟨k,e,by omega,by omega⟩,h.regs⟩
theorem jk {nth s0 s1 lo hi:Nat}(op a b c n:Int)(st:Nat)(h1:1<=op/\op<=27)(ho:ObjI nth ⟨op,a,b,c,n,st⟩)(hs:s0<=st/\st<s1)(h5:op≠5)(d:op≠10)(hr:∀r∈regsI ⟨op,a,b,c,n,st⟩,0<=r/\r<=4):LocI nth s0 s1 lo hi ⟨op,a,b,c,n,st⟩:=
 ⟨h1.1,h1.2,ho,⟨st,rfl,hs.1,hs.2⟩,λe=>absurd e h5,λe=>absurd e d,hr⟩
theorem Kv {nth s0 s1 lo hi:Nat}(k st:Nat)(hs:s0<=st/\st<s1)(hk:lo<=k/\k<=hi):LocI nth s0 s1 lo hi ⟨10,2,(k:Int),0,0,st⟩:=by refine⟨by show (1:Int)<=10;decide,by show (10:Int)<=27;decide,?_,⟨st,rfl,hs.1,hs.2⟩,λe=>absurd e (by show (10:Int)≠5;decide),λ_=>⟨k,rfl,hk.1,hk.2⟩,by simp[regsI]⟩;constructor<;>simp
theorem TK {nth s0 s1 lo hi:Nat}(k st:Nat)(hs:s0<=st/\st<s1)(hk:lo<=k/\k<=hi):LocI nth s0 s1 lo hi ⟨5,(k:Int),0,0,0,st⟩:=by refine⟨by show (1:Int)<=5;decide,by show (5:Int)<=27;decide,?_,⟨st,rfl,hs.1,hs.2⟩,λ_=>⟨k,rfl,hk.1,hk.2⟩,λe=>absurd e (by show (5:Int)≠10;decide),by simp[regsI]⟩;constructor<;>simp
theorem uh {nth s0 s1 lo hi:Nat}(st:Nat)(l:Lf)(d:Int)(u:0<=d/\d<=4)(hs:s0<=st/\st<s1):LocI nth s0 s1 lo hi (kG st l d):=by
 rcases l with m|k;exact jk _ _ _ _ _ _ (by decide) (by constructor<;>simp) hs (by decide) (by decide) (by simpa [regsI] using u)
 . cases k
   all_goals exact jk _ _ _ _ _ _ (by decide) (by constructor<;>simp) hs (by decide) (by decide) (by simp[regsI];omega)
theorem Az (k:Fin 6):6<=binOp k/\binOp k<=18:=by revert k;decide
theorem qy {nth s0 s1 lo hi:Nat}(st:Nat)(e:Ex)(d:Int)(u:0<=d/\d<=3)(hs:s0<=st/\st<s1):∀i∈aC st e d,LocI nth s0 s1 lo hi i:=by
 intro i hi
 cases e with
 |
  leaf l=>
  simp[aC] at hi;subst hi;exact uh st l d (by omega) hs
 |
  idx l=>
  simp[aC] at hi;rcases hi with rfl|rfl;exact uh st l d (by omega) hs;exact jk _ _ _ _ _ _ (by decide) (by constructor<;>simp) hs (by decide) (by decide) (by simp[regsI];omega)
 |
  bin k l r=>
  simp[aC] at hi;have hb:=Az k;rcases hi with rfl|rfl|rfl;exact uh st l d (by omega) hs;exact uh st r (d+1) (by omega) hs;exact jk _ _ _ _ _ _ (by decide) (by constructor<;>simp<;>omega) hs (by decide) (by decide) (by simp[regsI];omega)
mutual
def SpOkS (n:Nat):Sm->Prop
 | .ite _ b c=>SpOkL n b/\SpOkL n c
 | .whl _ b | .blk _ b | .tx b | .atm b=>SpOkL n b
 | .spawn k=>0<=iR (thNames n) (aQ k)
 | .join=>0<=iR (thNames n) (aQ 1)
 |_=>True
def SpOkL (n:Nat):List Sm->Prop
 | []=>True
 |s::r=>SpOkS n s/\SpOkL n r
end
theorem Zn {n:Nat}{s:ByteArray}(h:0<=iR (thNames n) s):iR (thNames n) s<n:=by rcases VA (thNames n) s with h'|⟨k,hk,_,h'⟩;omega;rw[h'];rw[thNames_len] at hk;omega
mutual
theorem locS (n base st:Nat):∀s:Sm,SpOkS n s->∀i∈genS n base st s,LocI n st (st+eQ s) base (base+(genS n base st s).length) i
 |
  .asg k e,_,i,hi=>by
  simp only[genS,List.mem_append,List.mem_singleton] at hi
  rcases hi with hi|rfl
  . exact qy st e 2 (by omega) (by simp[eQ]) i hi
  . cases k
    all_goals exact jk _ _ _ _ _ _ (by decide) (by constructor<;>simp) (by simp[eQ]) (by decide) (by decide) (by simp[regsI])
 |
  .asq x e,_,i,hi=>by
  simp only[genS,List.mem_append,List.mem_singleton,List.mem_cons] at hi
  rcases hi with rfl|hi|rfl|hi
  . exact uh st x 2 (by omega) (by simp[eQ])
  . exact qy st e 3 (by omega) (by simp[eQ]) i hi
  . exact jk _ _ _ _ _ _ (by decide) (by constructor<;>simp) (by simp[eQ]) (by decide) (by decide) (by simp[regsI])
  . simp at hi
 |
  .ite e b [],h,i,hi=>by
  have d:=locL n (base+(aC st e 2).length+1) (st+1) b h.1
  simp only[genS,List.mem_append,List.mem_cons,eQ,az,List.length_append,List.length_cons] at hi|-
  rcases hi with hi|rfl|hi
  . exact qy st e 2 (by omega) (by omega) i hi
  . exact Kv _ _ (by omega) (by omega)
  . exact (d i hi).weak (by omega) (by omega) (by omega) (by omega)
 |
  .ite e b (c::r),h,i,hi=>by
  have u:=locL n (base+(aC st e 2).length+1) (st+1) b h.1
  have y:=locL n (base+(aC st e 2).length+1+(genL n (base+(aC st e 2).length+1) (st+1) b).length+1) (st+1+az b) (c::r) h.2
  simp only[genS,List.mem_append,List.mem_cons,eQ,List.length_append,List.length_cons] at hi|-
  rcases hi with hi|rfl|hi|rfl|hi
  . exact qy st e 2 (by omega) (by omega) i hi
  . exact Kv _ _ (by omega) (by omega)
  . exact (u i hi).weak (by omega) (by omega) (by omega) (by omega)
  . exact TK _ _ (by omega) (by omega)
  . exact (y i hi).weak (by omega) (by omega) (by omega) (by omega)
 |
  .whl e b,h,i,hi=>by
  have d:=locL n (base+(aC st e 2).length+1) (st+1) b h
  simp only[genS,List.mem_append,List.mem_cons,List.mem_singleton,eQ,List.length_append,List.length_cons,List.length_nil] at hi|-
  rcases hi with hi|rfl|hi|rfl|hi
  . exact qy st e 2 (by omega) (by omega) i hi
  . exact Kv _ _ (by omega) (by omega)
  . exact (d i hi).weak (by omega) (by omega) (by omega) (by omega)
  . exact TK _ _ (by omega) (by omega)
  . simp at hi
 |
  .blk k b,h,i,hi=>by
  have d:=locL n (base+1) (st+1) b h
  simp only[genS,List.mem_append,List.mem_cons,List.mem_singleton,eQ,List.length_append,List.length_cons,List.length_nil] at hi|-
  rcases hi with rfl|hi|rfl|hi
  . cases k
    all_goals exact jk _ _ _ _ _ _ (by decide) (by constructor<;>simp[Bk.fst,Bk.obj]) (by omega) (by decide) (by decide) (by simp[regsI,Bk.fst])
  . exact (d i hi).weak (by omega) (by omega) (by omega) (by omega)
  . cases k
    all_goals exact jk _ _ _ _ _ _ (by decide) (by constructor<;>simp[Bk.fst,Bk.obj]) (by omega) (by decide) (by decide) (by simp[regsI,Bk.fst])
  . simp at hi
 |
  .tx b,h,i,hi=>by
  have d:=locL n (base+1) (st+1) b h
  simp only[genS,List.mem_append,List.mem_cons,List.mem_singleton,eQ,List.length_append,List.length_cons,List.length_nil] at hi|-
  rcases hi with rfl|hi|rfl|hi
  . exact jk _ _ _ _ _ _ (by decide) (by constructor<;>simp) (by omega) (by decide) (by decide) (by simp[regsI])
  . exact (d i hi).weak (by omega) (by omega) (by omega) (by omega)
  . exact jk _ _ _ _ _ _ (by decide) (by constructor<;>simp) (by omega) (by decide) (by decide) (by simp[regsI])
  . simp at hi
 |
  .atm b,h,i,hi=>by
  have d:=locL n (base+1) (st+1) b h
  simp only[genS,List.mem_append,List.mem_cons,List.mem_singleton,eQ,List.length_append,List.length_cons,List.length_nil] at hi|-
  rcases hi with rfl|hi|rfl|hi
  . exact jk _ _ _ _ _ _ (by decide) (by constructor<;>simp) (by omega) (by decide) (by decide) (by simp[regsI])
  . exact (d i hi).weak (by omega) (by omega) (by omega) (by omega)
  . exact jk _ _ _ _ _ _ (by decide) (by constructor<;>simp) (by omega) (by decide) (by decide) (by simp[regsI])
  . simp at hi
 |
  .sig k,_,i,hi=>by
  simp only[genS,List.mem_singleton] at hi
  subst hi
  cases k
  all_goals exact jk _ _ _ _ _ _ (by decide) (by constructor<;>simp[Sg.op]) (by simp[eQ]) (by decide) (by decide) (by simp[regsI,Sg.op])
 |
  .spawn k,h,i,hi=>by
  simp only[genS,List.mem_singleton] at hi
  subst hi
  have h:0<=iR (thNames n) (aQ k):=h
  have h2:=Zn h
  exact jk _ _ _ _ _ _ (by decide) (by constructor<;>simp<;>exact⟨h,h2⟩) (by simp[eQ]) (by decide) (by decide) (by simp[regsI])
 |
  .join,h,i,hi=>by
  simp only[genS,List.mem_singleton] at hi
  subst hi
  have h:0<=iR (thNames n) (aQ 1):=h
  have h2:=Zn h
  exact jk _ _ _ _ _ _ (by decide) (by constructor<;>simp<;>exact⟨h,h2⟩) (by simp[eQ]) (by decide) (by decide) (by simp[regsI])
 |
  .set e,_,i,hi=>by
  simp only[genS,List.mem_append,List.mem_singleton] at hi
  rcases hi with hi|rfl
  . exact qy st e 2 (by omega) (by simp[eQ]) i hi
  . exact jk _ _ _ _ _ _ (by decide) (by constructor<;>simp) (by simp[eQ]) (by decide) (by decide) (by simp[regsI])
 |
  .get,_,i,hi=>by
  simp only[genS,List.mem_singleton] at hi
  subst hi
  exact jk _ _ _ _ _ _ (by decide) (by constructor<;>simp) (by simp[eQ]) (by decide) (by decide) (by simp[regsI])
theorem locL (n base st:Nat):∀l:List Sm,SpOkL n l->∀i∈genL n base st l,LocI n st (st+az l) base (base+(genL n base st l).length) i
 | [],_,i,hi=>by simp[genL] at hi
 |
  s::r,h,i,hi=>by
  have h1:=locS n base st s h.1
  have h2:=locL n (base+(genS n base st s).length) (st+eQ s) r h.2
  simp only[genL,List.mem_append,az,List.length_append] at hi|-
  rcases hi with hi|hi
  . exact (h1 i hi).weak (by omega) (by omega) (by omega) (by omega)
  . exact (h2 i hi).weak (by omega) (by omega) (by omega) (by omega)
end
def landsF (l:List In):Nat->Int->Bool
 |0,_=>false
 |f+1,k=>if k<0\/(l.length:Int)<=k then false else
  match l[k.toNat]? with
  |none=>false
  |some i=>if¬(1<=i.op/\i.op<=5) then true else landsF l f (if i.op=5 then i.a else k+1)
def Evt (l:List In)(k:Nat):Prop:=∃i,l[k]?=some i/\5<i.op
def Sil (l:List In)(k k':Nat):Prop:=∃i,l[k]?=some i/\1<=i.op/\i.op<=5/\(if i.op=5 then i.a=(k':Int) else k'=k+1)
def Rch (l:List In):Nat->Nat->Nat->Prop
 |0,a,b=>a=b
 |m+1,a,b=>∃c,Sil l a c/\Rch l m c b
theorem Rch.trans {l:List In} :∀ {m m':Nat}{a b c:Nat},Rch l m a b->Rch l m' b c->Rch l (m+m') a c
 |0,m',a,b,c,h,k=>by rw[Nat.zero_add];cases h;exact k
 |m+1,m',a,b,c,⟨x,h1,h2⟩,k=>by rw[Nat.add_right_comm];exact⟨x,h1,h2.trans k⟩
theorem ui {l:List In} :∀ {m:Nat}{a b f:Nat},Rch l m a b->Evt l b->m<f->landsF l f (a:Int)=true
 |0,a,b,0,_,_,h=>by omega
 |m+1,a,b,0,_,_,h=>by omega
 |
  0,a,b,f+1,h,⟨i,hi,ho⟩,hf=>by
  cases h
  have d:=(List.getElem?_eq_some_iff.1 hi).1
  unfold landsF
  rw[if_neg (by omega),show ((a:Int).toNat)=a by omega,hi]
  simp only
  rw[if_pos (by omega)]
 |
  m+1,a,b,f+1,⟨c,⟨i,hi,h1,h2,hc⟩,h⟩,he,hf=>by
  have d:=(List.getElem?_eq_some_iff.1 hi).1
  have u:=ui (f:=f) h he (by omega)
  unfold landsF
  rw[if_neg (by omega),show ((a:Int).toNat)=a by omega,hi]
  simp only
  rw[if_neg (by omega)]
  split at hc
  . rename_i h5;rw[if_pos h5,hc];exact u
  . rename_i h5;rw[if_neg h5];subst hc;exact u
def LS (l:List In)(s e:Nat):Prop:=∀k,s<=k->k<e->(∃m b,Rch l m k b/\Evt l b/\m<=e-s)\/(∃m,Rch l m k e/\m<=e-k)
section
variable {l : List In} {s e f j b : Nat}
theorem LS.nil:LS l s s:=λk h1 h2=>by omega
theorem LS.evt (h:Evt l s):LS l s (s+1):=λk h1 h2=> .inl ⟨0,k,rfl,by rw[show k=s by omega];exact h,by omega⟩
theorem LS.sil (h:Sil l s (s+1)):LS l s (s+1):=λk h1 h2=> .inr ⟨1,by rw[show k=s by omega];exact⟨_,h,rfl⟩,by omega⟩
theorem LS.app (h:LS l s e)(k:LS l e f)(h1:s<=e)(h2:e<=f):LS l s f:=λx hx B=>by
 by_cases d:x<e
 . rcases h x hx d with ⟨m,b,r,ev,hm⟩|⟨m,r,hm⟩
   . exact .inl ⟨m,b,r,ev,by omega⟩
   . by_cases u:e<f
     . rcases k e (Nat.le_refl _) u with ⟨m',b,y,ev,A⟩|⟨m',y,A⟩
       . exact .inl ⟨m+m',b,r.trans y,ev,by omega⟩
       . exact .inr ⟨m+m',r.trans y,by omega⟩
     . have:e=f:=by omega
       subst this
       exact .inr ⟨m,r,hm⟩
 . rcases k x (by omega) B with ⟨m,b,r,ev,hm⟩|⟨m,r,hm⟩
   . exact .inl ⟨m,b,r,ev,by omega⟩
   . exact .inr ⟨m,r,hm⟩
theorem LS.loop (h:LS l s b)(hb:Evt l b)(k:LS l (b+1) j)(B:Sil l j s)(h1:s<=b)(h2:b+1<=j):LS l s (j+1):=by have hs:∃m c,Rch l m s c/\Evt l c/\m<=b-s:=(by by_cases d:s<b;rcases h s (Nat.le_refl _) d with ⟨m,c,r,ev,hm⟩|⟨m,r,hm⟩;exact⟨m,c,r,ev,hm⟩;exact⟨m,b,r,hb,hm⟩;exact⟨0,s,rfl,by rw[show s=b by omega];exact hb,by omega⟩);obtain⟨m0,c0,r0,e0,D⟩:=hs;intro x hx E;by_cases u:x<b;rcases h x hx u with ⟨m,c,r,ev,hm⟩|⟨m,r,hm⟩;exact .inl ⟨m,c,r,ev,by omega⟩;exact .inl ⟨m,b,r,hb,by omega⟩;by_cases y:x=b;subst y;exact .inl ⟨0,x,rfl,hb,by omega⟩;by_cases A:x<j;rcases k x (by omega) A with ⟨m,c,r,ev,hm⟩|⟨m,r,hm⟩;exact .inl ⟨m,c,r,ev,by omega⟩;exact .inl ⟨m+(m0+1),c0,r.trans ⟨s,B,r0⟩,e0,by omega⟩;have:x=j:=(by omega);subst this;exact .inl ⟨m0+1,c0,⟨s,B,r0⟩,e0,by omega⟩
theorem LS.over (h:LS l s j)(y:Sil l j e)(k:LS l (j+1) e)(h1:s<=j)(h2:j+1<=e):LS l s e:=by intro x hx A;by_cases d:x<j;rcases h x hx d with ⟨m,c,r,ev,hm⟩|⟨m,r,hm⟩;exact .inl ⟨m,c,r,ev,by omega⟩;exact .inr ⟨m+1,r.trans ⟨e,y,rfl⟩,by omega⟩;by_cases u:x=j;subst u;exact .inr ⟨1,⟨e,y,rfl⟩,by omega⟩;rcases k x (by omega) A with ⟨m,c,r,ev,hm⟩|⟨m,r,hm⟩;exact .inl ⟨m,c,r,ev,by omega⟩;exact .inr ⟨m,r,hm⟩
end
def AtL (l:List In)(base:Nat)(seg:List In):Prop:=∀j i,seg[j]?=some i->l[base+j]?=some i
section
variable {l a c : List In} {base : Nat} {i : In}
theorem AtL.left (h:AtL l base (a++c)):AtL l base a:=λj i d=>h j i (by rw[List.getElem?_append_left (List.getElem?_eq_some_iff.1 d).1];exact d)
theorem AtL.right (h:AtL l base (a++c)):AtL l (base+a.length) c:=λj i d=>by
 have:=h (a.length+j) i (by rw[List.getElem?_append_right (by omega),show a.length+j-a.length=j by omega];exact d)
 rw[Nat.add_assoc];exact this
theorem AtL.head (h:AtL l base (i::c)):l[base]?=some i:=h 0 i rfl
theorem AtL.tail (h:AtL l base (i::c)):AtL l (base+1) c:=λj i d=>by
 have:=h (j+1) i (by simpa using d)
 rw[show base+1+j=base+(j+1) by omega];exact this
theorem fO (h:l[base]?=some i)(ho:5<i.op):Evt l base:=⟨i,h,ho⟩
theorem zf (h:l[base]?=some i)(h1:1<=i.op)(h2:i.op<=4):Sil l base (base+1):=⟨i,h,h1,by omega,by rw[if_neg (by omega)]⟩
theorem Zo {k:Nat}{st:Int}(h:l[base]?=some ⟨5,(k:Int),0,0,0,st⟩):Sil l base k:=⟨_,h,by show (1:Int)<=5;decide,by show (5:Int)<=5;decide,by simp⟩
end
theorem xU {l:List In}{base:Nat}{st:Int}{x:Lf}{d:Int}(h:l[base]?=some (kG st x d)):LS l base (base+1):=by
 rcases x with m|k;exact LS.sil (zf h (by simp[kG]) (by simp[kG]))
 . cases k
   exact LS.sil (zf h (by simp[kG]) (by simp[kG]));exact LS.sil (zf h (by simp[kG]) (by simp[kG]));exact LS.evt (fO h (by simp[kG]));exact LS.evt (fO h (by simp[kG]));exact LS.evt (fO h (by simp[kG]))
theorem uI {l:List In}{base:Nat}{st:Int}{x:Ex}{d:Int}(h:AtL l base (aC st x d)):LS l base (base+(aC st x d).length):=by
 cases x with
 |leaf x=>exact xU h.head
 |
  idx x=>
  show LS l base (base+1+1);exact (xU h.head).app (LS.evt (fO h.tail.head (by simp))) (by omega) (by omega)
 |
  bin k x y=>
  show LS l base (base+1+1+1);exact ((xU h.head).app (xU h.tail.head) (by omega) (by omega)).app (LS.sil (zf h.tail.tail.head (by simp) (by simp))) (by omega) (by omega)
mutual
theorem lsS {l:List In}(n base st:Nat):∀s:Sm,AtL l base (genS n base st s)->LS l base (base+(genS n base st s).length)
 |
  .asg k e,h=>by
  simp only[genS] at h|-
  rw[List.length_append,<-Nat.add_assoc]
  refine (uI h.left).app ?_ (by omega) (by simp)
  have:=h.right.head
  cases k
  . exact LS.sil (zf this (by simp[Ce]) (by simp[Ce]))
  . exact LS.sil (zf this (by simp[Ce]) (by simp[Ce]))
  . exact LS.evt (fO this (by simp[Ce]))
  . exact LS.evt (fO this (by simp[Ce]))
  . exact LS.evt (fO this (by simp[Ce]))
 |
  .asq x e,h=>by
  simp only[genS] at h|-
  rw[List.length_cons,List.length_append,show base+((aC st e 3).length+[(⟨9,3,3,2,2,(st:Int)⟩:In)].length+1)=base+1+(aC st e 3).length+1 by simp;omega]
  exact (xU h.head).app ((uI h.tail.left).app (LS.evt (fO h.tail.right.head (by simp))) (by omega) (by omega)) (by omega) (by omega)
 |
  .ite e b [],h=>by
  simp only[genS] at h|-
  have d:=lsL n (base+(aC st e 2).length+1) (st+1) b h.right.tail
  rw[List.length_append,List.length_cons,show base+((aC st e 2).length+((genL n (base+(aC st e 2).length+1) (st+1) b).length+1))=base+(aC st e 2).length+1+(genL n (base+(aC st e 2).length+1) (st+1) b).length by omega]
  exact (uI h.left).app ((LS.evt (fO h.right.head (by simp))).app d (by omega) (by omega)) (by omega) (by omega)
 |
  .ite e b (c::r),h=>by
  simp only[genS] at h|-
  have y:=lsL n (base+(aC st e 2).length+1) (st+1) b h.right.tail.left
  have A:=lsL n (base+(aC st e 2).length+1+(genL n (base+(aC st e 2).length+1) (st+1) b).length+1) (st+1+az b) (c::r) h.right.tail.right.tail
  have u:=Zo h.right.tail.right.head
  generalize hB:(genL n (base+(aC st e 2).length+1) (st+1) b).length=B at *
  generalize hE:(genL n (base+(aC st e 2).length+1+B+1) (st+1+az b) (c::r)).length=E at *
  rw[List.length_append,List.length_cons,List.length_append,List.length_cons,hB,hE,show base+((aC st e 2).length+(B+(E+1)+1))=base+(aC st e 2).length+1+B+1+E by omega]
  exact ((uI h.left).app ((LS.evt (fO h.right.head (by simp))).app y (by omega) (by omega)) (by omega) (by omega)).over u A (by omega) (by omega)
 |
  .whl e b,h=>by
  simp only[genS] at h|-
  have d:=lsL n (base+(aC st e 2).length+1) (st+1) b h.right.tail.left
  have u:=Zo h.right.tail.right.head
  rw[List.length_append,List.length_cons,List.length_append,show base+((aC st e 2).length+((genL n (base+(aC st e 2).length+1) (st+1) b).length+[(⟨5,(base:Int),0,0,0,(st:Int)⟩:In)].length+1))=base+(aC st e 2).length+1+(genL n (base+(aC st e 2).length+1) (st+1) b).length+1 by simp;omega]
  exact LS.loop (uI h.left) (fO h.right.head (by simp)) d u (by omega) (by omega)
 |
  .blk k b,h=>by
  simp only[genS] at h|-
  have d:=lsL n (base+1) (st+1) b h.tail.left
  rw[List.length_cons,List.length_append,show base+((genL n (base+1) (st+1) b).length+[(⟨k.fst+1,k.obj,0,0,0,(st:Int)⟩:In)].length+1)=base+1+(genL n (base+1) (st+1) b).length+1 by simp;omega]
  exact (LS.evt (fO h.head (by cases k<;>simp[Bk.fst]))).app (d.app (LS.evt (fO h.tail.right.head (by cases k<;>simp[Bk.fst]))) (by omega) (by omega)) (by omega) (by omega)
 |
  .tx b,h=>by
  simp only[genS] at h|-
  have d:=lsL n (base+1) (st+1) b h.tail.left
  rw[List.length_cons,List.length_append,show base+((genL n (base+1) (st+1) b).length+[(⟨18,0,0,0,0,(st:Int)⟩:In)].length+1)=base+1+(genL n (base+1) (st+1) b).length+1 by simp;omega]
  exact (LS.evt (fO h.head (by simp))).app (d.app (LS.evt (fO h.tail.right.head (by simp))) (by omega) (by omega)) (by omega) (by omega)
 |
  .atm b,h=>by
  simp only[genS] at h|-
  have d:=lsL n (base+1) (st+1) b h.tail.left
  rw[List.length_cons,List.length_append,show base+((genL n (base+1) (st+1) b).length+[(⟨20,0,0,0,0,(st:Int)⟩:In)].length+1)=base+1+(genL n (base+1) (st+1) b).length+1 by simp;omega]
  exact (LS.evt (fO h.head (by simp))).app (d.app (LS.evt (fO h.tail.right.head (by simp))) (by omega) (by omega)) (by omega) (by omega)
 | .sig k,h=>LS.evt (fO h.head (by cases k<;>simp[Sg.op]))
 | .spawn k,h=>LS.evt (fO h.head (by simp))
 | .join,h=>LS.evt (fO h.head (by simp))
 |
  .set e,h=>by
  simp only[genS] at h|-
  rw[List.length_append,<-Nat.add_assoc]
  exact (uI h.left).app (LS.evt (fO h.right.head (by simp))) (by omega) (by simp)
 | .get,h=>LS.evt (fO h.head (by simp))
theorem lsL {l:List In}(n base st:Nat):∀b:List Sm,AtL l base (genL n base st b)->LS l base (base+(genL n base st b).length)
 | [],h=>LS.nil
 |
  s::r,h=>by
  simp only[genL] at h|-
  rw[List.length_append,<-Nat.add_assoc]
  exact (lsS n base st s h.left).app (lsL n (base+(genS n base st s).length) (st+eQ s) r h.right) (by omega) (by omega)
end
theorem Q5 (n st:Nat)(b:List Sm)(k:Nat)(hk:k<(kD n st b).length):landsF (kD n st b) ((kD n st b).length+1) (k:Int)=true:=by have h:AtL (kD n st b) 0 (kD n st b):=(λj i d=>by rw[Nat.zero_add];exact d);have h1:=lsL (l:=kD n st b) n 0 st b h.left;have h2:Evt (kD n st b) (0+(genL n 0 st b).length):=fO h.right.head (by simp);have u:(kD n st b).length=0+(genL n 0 st b).length+1:=(by unfold kD;rw[List.length_append];simp);rcases (h1.app (LS.evt h2) (by omega) (by omega)) k (by omega) (by omega) with ⟨m,c,r,ev,hm⟩|⟨m,r,hm⟩;exact ui r ev (by omega);rcases Nat.lt_or_ge k (0+(genL n 0 st b).length) with hlt|hge;rcases h1 k (by omega) hlt with ⟨m,c,r,ev,hm⟩|⟨m,r,hm⟩;exact ui r ev (by omega);exact ui r h2 (by omega);have:k=0+(genL n 0 st b).length:=(by omega);subst this;exact ui (m:=0) rfl h2 (by omega)
theorem lh {n t:Nat}{d:List Sm}{u st:List ByteArray}{s:Sm}(h:(allS n t d u st s).1=0):
 I8 n t d u st s=0/\(∃d u st,(allL n t d u st s.body).1=0)/\(∃d u st,(allL n t d u st s.els).1=0):=by rw[I9] at h;split at h;rename_i he;exact absurd h he;rename_i he;split at h;rename_i hb;exact absurd h hb;rename_i hb;exact⟨Classical.not_not.1 he,⟨_,_,_,Classical.not_not.1 hb⟩,⟨_,_,_,h⟩⟩
theorem EL {n t:Nat}{u:List Sm}{d st:List ByteArray}{s:Sm}{r:List Sm}(h:(allL n t u d st (s::r)).1=0):
 (allS n t u d st s).1=0/\∃d st,(allL n t u d st r).1=0:=by simp only[allL] at h;split at h;rename_i he;exact absurd h he;rename_i he;exact⟨Classical.not_not.1 he,_,_,h⟩
theorem Q7 {n t:Nat}{d:List Sm}{u st:List ByteArray}{k:Nat}(h:I8 n t d u st (.spawn k)=0):0<=iR (thNames n) (aQ k):=by
 unfold I8 at h;split at h
 cases h
 . simp only[jd] at h;split at h
   cases h
   omega
theorem VC {n t:Nat}{d:List Sm}{u st:List ByteArray}(h:I8 n t d u st .join=0):0<=iR (thNames n) (aQ 1):=by
 unfold I8 at h;split at h
 cases h
 . simp only[jd] at h;split at h
   cases h
   omega
mutual
theorem spokS (n t:Nat):∀(s:Sm) (u:List Sm) (y st:List ByteArray),(allS n t u y st s).1=0->SpOkS n s
 |
  .ite e b c,u,y,st,h=>by
  obtain⟨_,⟨a1,d,c1,h1⟩,⟨a2,b2,c2,h2⟩⟩:=lh h
  exact⟨spokL n t b a1 d c1 h1,spokL n t c a2 b2 c2 h2⟩
 |
  .whl e b,u,y,st,h=>by
  obtain⟨_,⟨a1,d,c1,h1⟩,_⟩:=lh h
  exact spokL n t b a1 d c1 h1
 |
  .blk k b,u,y,st,h=>by
  obtain⟨_,⟨a1,d,c1,h1⟩,_⟩:=lh h
  exact spokL n t b a1 d c1 h1
 |
  .tx b,u,y,st,h=>by
  obtain⟨_,⟨a1,d,c1,h1⟩,_⟩:=lh h
  exact spokL n t b a1 d c1 h1
 |
  .atm b,u,y,st,h=>by
  obtain⟨_,⟨a1,d,c1,h1⟩,_⟩:=lh h
  exact spokL n t b a1 d c1 h1
 | .spawn k,u,y,st,h=>Q7 (lh h).1
 | .join,u,y,st,h=>VC (lh h).1
 | .asg _ _,_,_,_,_=>trivial
 | .asq _ _,_,_,_,_=>trivial
 | .sig _,_,_,_,_=>trivial
 | .set _,_,_,_,_=>trivial
 | .get,_,_,_,_=>trivial
theorem spokL (n t:Nat):∀(l:List Sm) (d:List Sm) (u st:List ByteArray),(allL n t d u st l).1=0->SpOkL n l
 | [],_,_,_,_=>trivial
 |
  s::r,d,u,st,h=>by
  obtain⟨h1,y,st2,h2⟩:=EL h
  exact⟨spokS n t s d u st h1,spokL n t r d y st2 h2⟩
end
theorem H5 (n:Nat):∀(bs:List (List Sm)) (t:Nat) (d st:List ByteArray),MO n t d st bs=0->∀b∈bs,SpOkL n b
 | [],_,_,_,_,b,hb=>by simp at hb
 |
  x::r,t,d,st,h,b,hb=>by
  simp only[MO] at h
  split at h
  . rename_i he;exact absurd h he
  . rename_i he
    rcases List.mem_cons.1 hb with rfl|hb
    . exact spokL n t b [] d st (Classical.not_not.1 he)
    . exact H5 n r _ _ _ h b hb
theorem wR {bs:List (List Sm)}(h:pO bs=0):fD bs<=60/\∀b∈bs,SpOkL bs.length b:=by
 unfold pO at h;split at h
 cases h
 exact⟨by omega,H5 _ _ _ _ _ h⟩
def SiteOk (n:Nat)(ss:List (Nat×Nat)):Prop:=∀i x,ss[i]?=some x->x.1<n/\((i=0/\x.2=0)\/∃j y,i=j+1/\ss[j]?=some y/\((y.1=x.1/\x.2=y.2+1)\/(y.1<x.1/\x.2=0)))
theorem SiteOk.snoc {n:Nat}{ss:List (Nat×Nat)}{x:Nat×Nat}(h:SiteOk n ss)(hx:x.1<n)(B:(ss.length=0/\x.2=0)\/∃j y,ss.length=j+1/\ss[j]?=some y/\((y.1=x.1/\x.2=y.2+1)\/(y.1<x.1/\x.2=0))):SiteOk n (ss++[x]):=by intro i z d;by_cases hi:i<ss.length;rw[List.getElem?_append_left hi] at d;obtain⟨h1,h2⟩:=h i z d;refine⟨h1,?_⟩;rcases h2 with h2|⟨j,y,e,hy,h3⟩;exact .inl h2;exact .inr ⟨j,y,e,by rw[List.getElem?_append_left (by omega)];exact hy,h3⟩;have u:=(List.getElem?_eq_some_iff.1 d).1;have A:i=ss.length:=(by simp at u;omega);subst A;rw[List.getElem?_append_right (Nat.le_refl _)] at d;simp at d;subst d;refine⟨hx,?_⟩;rcases B with h2|⟨j,y,e,hy,h3⟩;exact .inl h2;exact .inr ⟨j,y,e,by rw[List.getElem?_append_left (by omega)];exact hy,h3⟩
theorem EM {n t:Nat}{ss:List (Nat×Nat)}(h:SiteOk n ss)(hb:∀x∈ss,x.1<t)(d:t<n):∀c:Nat,SiteOk n (ss++(List.range c).map λk=>(t,k))
 |0=>by simpa using h
 |
  c+1=>by
  rw[List.range_succ,List.map_append,<-List.append_assoc]
  refine (EM h hb d c).snoc d ?_
  rcases Nat.eq_zero_or_pos c with rfl|hc
  . rcases Nat.eq_zero_or_pos ss.length with h0|h0
    . exact .inl ⟨by simp[h0],rfl⟩
    . obtain⟨y,u⟩:∃y,ss[ss.length-1]?=some y:=⟨_,List.getElem?_eq_getElem (by omega)⟩
      exact .inr ⟨ss.length-1,y,by simp;omega,by rw[List.getElem?_append_left (by omega)];exact u,.inr ⟨hb y (List.mem_of_getElem? u),rfl⟩⟩
  . refine .inr ⟨ss.length+(c-1),(t,c-1),by simp;omega,?_,.inl ⟨rfl,by simp;omega⟩⟩
    rw[List.getElem?_append_right (by omega),show ss.length+(c-1)-ss.length=c-1 by omega,List.getElem?_map,List.getElem?_range (by omega)]
    rfl
theorem N7 {n:Nat} :∀(bs:List (List Sm)) (t:Nat) (ss:List (Nat×Nat)),SiteOk n ss->(∀x∈ss,x.1<t)->t+bs.length<=n->SiteOk n (ss++dB t bs)
 | [],t,ss,h,_,_=>by simpa [dB] using h
 |
  b::r,t,ss,h,hb,hn=>by
  simp only[List.length_cons] at hn
  rw[dB,<-List.append_assoc]
  refine N7 r (t+1) _ (EM h hb (by omega) _) (λx hx=>?_) (by omega)
  rcases List.mem_append.1 hx with hx|hx
  . have:=hb x hx;omega
  . simp[Ci] at hx
    obtain⟨a,_,rfl⟩:=hx
    show t<t+1
    omega
theorem Zp (bs:List (List Sm)):SiteOk bs.length (dB 0 bs):=by have:=N7 (n:=bs.length) bs 0 [] (λi x h=>by simp at h) (λx h=>by simp at h) (by omega);simpa using this
theorem zg (t:Nat)(b:List Sm):(Ci t b).length=az b:=by simp[Ci]
theorem zh:∀(bs:List (List Sm)) (t:Nat),(dB t bs).length=fD bs
 | [],t=>rfl
 |b::r,t=>by rw[dB,List.length_append,zg,zh r,fD]
structure GoodC (nth:Nat)(ss:List (Nat×Nat))(t:Nat)(r:Int)(l:List In):Prop where
 r0:2<=r
 r1:r<=5
 pos:0<l.length
 len:l.length<=481
 op:∀(k:Nat) (i:In),l[k]?=some i->1<=i.op/\i.op<=28
 last:∀(k:Nat) (i:In),l[k]?=some i->(i.op=28 ↔ k+1=l.length)
 obj:∀(k:Nat) (i:In),l[k]?=some i->ObjI nth i
 lands:∀k,k<l.length->landsF l (l.length+1) (k:Int)=true
 site:∀(k:Nat) (i:In),l[k]?=some i->(i.op=28/\i.site= -1)\/(i.op≠28/\∃(q:Nat) (m:Nat),i.site=(q:Int)/\ss[q]?=some (t,m))
 jmp:∀(k:Nat) (i:In),l[k]?=some i->i.op=5->∃k:Nat,i.a=k/\k<l.length
 brn:∀(k:Nat) (i:In),l[k]?=some i->i.op=10->∃k:Nat,i.b=k/\k<l.length
 regs:∀(k:Nat) (i:In),l[k]?=some i->∀x∈regsI i,0<=x/\x<r
theorem zi:∀(l:List Int) (m:Int),m<=iZ m l
 | [],m=>by simp[iZ]
 |
  x::r,m=>by
  have:=zi r (max m (x+1))
  simp only[iZ,List.foldl_cons] at this|-
  omega
theorem EN:∀(l:List Int) (m:Int),∀x∈l,x+1<=iZ m l
 | [],m,x,hx=>by simp at hx
 |
  y::r,m,x,hx=>by
  have h1:=zi r (max m (y+1))
  simp only[iZ,List.foldl_cons] at h1|-
  rcases List.mem_cons.1 hx with rfl|hx
  . omega
  . exact EN r _ x hx
theorem H6:∀(l:List Int) (m:Int),m<=5->(∀x∈l,x<=4)->iZ m l<=5
 | [],m,h,_=>by simpa [iZ] using h
 |
  y::r,m,h,hx=>by
  have:=hx y (by simp)
  simp only[iZ,List.foldl_cons]
  exact H6 r _ (by omega) (λx h=>hx x (by simp[h]))
def nY (m:Int)(l:List In):Int:=l.foldl (λm i=>iZ m (regsI i)) m
theorem EO:∀(l:List In) (m:Int),m<=nY m l
 | [],m=>by simp[nY]
 |
  x::r,m=>by
  have h1:=zi (regsI x) m
  have h2:=EO r (iZ m (regsI x))
  simp only[nY,List.foldl_cons] at h2|-
  omega
theorem H7:∀(l:List In) (m:Int),∀i∈l,∀x∈regsI i,x+1<=nY m l
 | [],m,i,hi,x,hx=>by simp at hi
 |
  y::r,m,i,hi,x,hx=>by
  have h2:=EO r (iZ m (regsI y))
  simp only[nY,List.foldl_cons] at h2|-
  rcases List.mem_cons.1 hi with rfl|hi
  . have:=EN (regsI i) m x hx;omega
  . exact H7 r _ i hi x hx
theorem N8:∀(l:List In) (m:Int),m<=5->(∀i∈l,∀x∈regsI i,x<=4)->nY m l<=5
 | [],m,h,_=>by simpa [nY] using h
 |
  y::r,m,h,hx=>by
  simp only[nY,List.foldl_cons]
  exact N8 r _ (H6 _ _ h (hx y (by simp))) (λi h=>hx i (by simp[h]))
theorem VD {n st t:Nat}{b:List Sm}{ss:List (Nat×Nat)}(hb:SpOkL n b)(hc:az b<=60)(hs:∀k,k<az b->ss[st+k]?=some (t,k)):GoodC n ss t (Cf (kD n st b)) (kD n st b):=by
 have u:=locL n 0 st b hb;have A:(kD n st b).length=(genL n 0 st b).length+1:=(by unfold kD;rw[List.length_append];rfl);have hlen:=genL_len n 0 st b;have hg:∀k i,(kD n st b)[k]?=some i->(k<(genL n 0 st b).length/\LocI n st (st+az b) 0 (genL n 0 st b).length i)\/(k=(genL n 0 st b).length/\i=⟨28,0,0,0,0,-1⟩):=(by intro k i hk;unfold kD at hk;by_cases y:k<(genL n 0 st b).length;rw[List.getElem?_append_left y] at hk;have:=u i (List.mem_of_getElem? hk);rw[Nat.zero_add] at this;exact .inl ⟨y,this⟩;rw[List.getElem?_append_right (by omega)] at hk;have h1:=(List.getElem?_eq_some_iff.1 hk).1;simp at h1;have h0:k-(genL n 0 st b).length=0:=(by omega);rw[h0] at hk;simp at hk;exact .inr ⟨by omega,hk.symm⟩);have d:∀i∈kD n st b,∀x∈regsI i,0<=x/\x<=4:=(by intro i hi x hx;obtain⟨k,hk⟩:=List.getElem?_of_mem hi;rcases hg k i hk with ⟨_,h⟩|⟨_,rfl⟩;exact h.regs x hx;simp[regsI] at hx);refine⟨EO _ 2,N8 _ 2 (by decide) (λi hi x hx=>(d i hi x hx).2),by omega,by omega,?_,?_,?_,λk hk=>Q5 n st b k hk,?_,?_,?_,?_⟩;intro k i hk;rcases hg k i hk with ⟨_,h⟩|⟨_,rfl⟩;have:=h.op1;have:=h.op2;omega;decide;intro k i hk;rcases hg k i hk with ⟨h1,h⟩|⟨h1,rfl⟩;have:=h.op2;exact⟨λe=>by omega,λe=>by omega⟩;exact⟨λ_=>by omega,λ_=>rfl⟩;intro k i hk;rcases hg k i hk with ⟨_,h⟩|⟨_,rfl⟩;exact h.obj;constructor<;>simp;intro k i hk;rcases hg k i hk with ⟨_,h⟩|⟨_,rfl⟩;have:=h.op2;obtain⟨q,e,h1,h2⟩:=h.site;have:=hs (q-st) (by omega);rw[show st+(q-st)=q by omega] at this;exact .inr ⟨by omega,q,_,e,this⟩;exact .inl ⟨rfl,rfl⟩
 . intro k i hk h5;rcases hg k i hk with ⟨_,h⟩|⟨_,rfl⟩;obtain⟨q,e,h1,h2⟩:=h.jmp h5;exact⟨q,e,by omega⟩
   cases h5
 . intro k i hk h5;rcases hg k i hk with ⟨_,h⟩|⟨_,rfl⟩;obtain⟨q,e,h1,h2⟩:=h.brn h5;exact⟨q,e,by omega⟩
   cases h5
 intro k i hk x hx;have h1:=d i (List.mem_of_getElem? hk) x hx;have h2:x+1<=Cf (kD n st b):=H7 _ 2 i (List.mem_of_getElem? hk) x hx;omega
theorem H8 {n:Nat} :∀(bs:List (List Sm)) (t:Nat) (pre:List (Nat×Nat)),(∀b∈bs,SpOkL n b)->fD bs<=60->∀j r l,(codeF n pre.length bs)[j]?=some (r,l)->GoodC n (pre++dB t bs) (t+j) r l
 | [],t,pre,_,_,j,r,l,h=>by simp[codeF] at h
 |
  b::q,t,pre,hb,hc,0,r,l,h=>by
  simp only[codeF,List.getElem?_cons_zero,Option.some.injEq,Prod.mk.injEq] at h
  obtain⟨rfl,rfl⟩:=h
  simp only[fD] at hc
  refine VD (hb b (by simp)) (by omega) (λk hk=>?_)
  rw[List.getElem?_append_right (by omega),show pre.length+k-pre.length=k by omega,dB,List.getElem?_append_left (by rw[zg];exact hk)]
  unfold Ci
  rw[List.getElem?_map,List.getElem?_range hk]
  rfl
 |
  b::q,t,pre,hb,hc,j+1,r,l,h=>by
  simp only[codeF,List.getElem?_cons_succ] at h
  simp only[fD] at hc
  have:=H8 q (t+1) (pre++Ci t b) (λb h=>hb b (by simp[h])) (by omega) j r l (by rw[List.length_append,zg];exact h)
  rw[List.append_assoc] at this
  rw[dB,show t+(j+1)=t+1+j by omega]
  exact this
theorem uu (n:Nat):∀(bs:List (List Sm)) (st:Nat),(codeF n st bs).length=bs.length
 | [],st=>rfl
 |b::r,st=>by simp[codeF,uu n r]
theorem yh {bs:List (List Sm)}(h:pO bs=0):(dB 0 bs).length<=60/\SiteOk bs.length (dB 0 bs)/\∀t r l,(codeF bs.length 0 bs)[t]?=some (r,l)->GoodC bs.length (dB 0 bs) t r l:=by obtain⟨h1,h2⟩:=wR h;refine⟨by rw[zh];exact h1,Zp bs,λt r l hc=>?_⟩;have:=H8 bs 0 [] h2 h1 t r l hc;simpa using this
def NumI (i:In):Prop:=0<=i.n/\i.n<=18
theorem rf (op a b c st:Int):NumI ⟨op,a,b,c,0,st⟩:=⟨by show (0:Int)<=0;decide,by show (0:Int)<=18;decide⟩
theorem uj (st:Int)(l:Lf)(d:Int):NumI (kG st l d):=by
 cases l with
 |num n=>have:=n.isLt;exact⟨by show (0:Int)<=(n.val:Int);omega,by show (n.val:Int)<=18;omega⟩
 |var k=>cases k<;>exact rf _ _ _ _ _
theorem qA (st:Int)(e:Ex)(d:Int):∀i∈aC st e d,NumI i:=by
 intro i hi
 cases e with
 |leaf l=>simp only[aC,List.mem_singleton] at hi;subst hi;exact uj _ _ _
 |idx l=>simp only[aC,List.mem_cons,List.not_mem_nil,or_false] at hi;rcases hi with rfl|rfl;exact uj _ _ _;exact⟨by show (0:Int)<=2;decide,by show (2:Int)<=18;decide⟩
 |
  bin k l r=>
  simp only[aC,List.mem_cons,List.not_mem_nil,or_false] at hi;rcases hi with rfl|rfl|rfl;exact uj _ _ _;exact uj _ _ _;have:=Az k;exact⟨by show 0<=binOp k;omega,by show binOp k<=18;omega⟩
theorem abZ (st:Int)(k:Nm):NumI (Ce st k):=by cases k<;>exact rf _ _ _ _ _
mutual
theorem numS (n base st:Nat):∀s:Sm,∀i∈genS n base st s,NumI i
 |
  .asg k e,i,hi=>by
  simp only[genS,List.mem_append,List.mem_singleton] at hi
  rcases hi with hi|rfl
  . exact qA _ _ _ i hi
  . exact abZ _ _
 |
  .asq x e,i,hi=>by
  simp only[genS,List.mem_cons,List.mem_append,List.mem_singleton,List.not_mem_nil,or_false] at hi
  rcases hi with rfl|hi|rfl
  . exact uj _ _ _
  . exact qA _ _ _ i hi
  . exact⟨by show (0:Int)<=2;decide,by show (2:Int)<=18;decide⟩
 |
  .ite e b [],i,hi=>by
  simp only[genS,List.mem_cons,List.mem_append] at hi
  rcases hi with hi|rfl|hi
  . exact qA _ _ _ i hi
  . exact rf _ _ _ _ _
  . exact numL _ _ _ b i hi
 |
  .ite e b (c::r),i,hi=>by
  simp only[genS,List.mem_cons,List.mem_append] at hi
  rcases hi with hi|rfl|hi|rfl|hi
  . exact qA _ _ _ i hi
  . exact rf _ _ _ _ _
  . exact numL _ _ _ b i hi
  . exact rf _ _ _ _ _
  . exact numL _ _ _ (c::r) i hi
 |
  .whl e b,i,hi=>by
  simp only[genS,List.mem_cons,List.mem_append,List.not_mem_nil,or_false] at hi
  rcases hi with hi|rfl|hi|rfl
  . exact qA _ _ _ i hi
  . exact rf _ _ _ _ _
  . exact numL _ _ _ b i hi
  . exact rf _ _ _ _ _
 |
  .blk k b,i,hi=>by
  simp only[genS,List.mem_cons,List.mem_append,List.not_mem_nil,or_false] at hi
  rcases hi with rfl|hi|rfl
  . exact rf _ _ _ _ _
  . exact numL _ _ _ b i hi
  . exact rf _ _ _ _ _
 |
  .tx b,i,hi=>by
  simp only[genS,List.mem_cons,List.mem_append,List.not_mem_nil,or_false] at hi
  rcases hi with rfl|hi|rfl
  . exact rf _ _ _ _ _
  . exact numL _ _ _ b i hi
  . exact rf _ _ _ _ _
 |
  .atm b,i,hi=>by
  simp only[genS,List.mem_cons,List.mem_append,List.not_mem_nil,or_false] at hi
  rcases hi with rfl|hi|rfl
  . exact rf _ _ _ _ _
  . exact numL _ _ _ b i hi
  . exact rf _ _ _ _ _
 | .sig k,i,hi=>by simp only[genS,List.mem_singleton] at hi;subst hi;exact rf _ _ _ _ _
 | .spawn k,i,hi=>by simp only[genS,List.mem_singleton] at hi;subst hi;exact rf _ _ _ _ _
 | .join,i,hi=>by simp only[genS,List.mem_singleton] at hi;subst hi;exact rf _ _ _ _ _
 |
  .set e,i,hi=>by
  simp only[genS,List.mem_append,List.mem_singleton] at hi
  rcases hi with hi|rfl
  . exact qA _ _ _ i hi
  . exact rf _ _ _ _ _
 | .get,i,hi=>by simp only[genS,List.mem_singleton] at hi;subst hi;exact rf _ _ _ _ _
theorem numL (n base st:Nat):∀l:List Sm,∀i∈genL n base st l,NumI i
 | [],i,hi=>by simp[genL] at hi
 |
  s::r,i,hi=>by
  simp only[genL,List.mem_append] at hi
  rcases hi with hi|hi
  . exact numS _ _ _ s i hi
  . exact numL _ _ _ r i hi
end
theorem Zq (n st:Nat)(b:List Sm):∀i∈kD n st b,NumI i:=by intro i hi;unfold kD at hi;rcases List.mem_append.1 hi with hi|hi;exact numL _ _ _ b i hi;simp only[List.mem_singleton] at hi;subst hi;exact rf _ _ _ _ _
theorem Gs (n:Nat):∀(bs:List (List Sm)) (st:Nat),∀x∈codeF n st bs,∀i∈x.2,NumI i
 | [],st,x,hx=>by simp[codeF] at hx
 |
  b::r,st,x,hx=>by
  simp only[codeF,List.mem_cons] at hx
  rcases hx with rfl|hx
  . exact Zq n st b
  . exact Gs n r _ x hx
theorem EP (n:Nat)(b:List Sm):∀(l:List (List Sm)) (st:Nat),codeF n st (l++[b])=codeF n st l++[(Cf (kD n (st+fD l) b),kD n (st+fD l) b)]
 | [],st=>by simp[codeF,fD]
 |
  x::r,st=>by
  rw[List.cons_append,codeF,codeF,EP n b r,List.cons_append,fD,Nat.add_assoc]
theorem Q8 (i:In)(l:List In)(m:Int):nY m (l++[i])=iZ (nY m l) (regsI i):=by simp[nY,List.foldl_append]
theorem N9 (x:Int)(l:List Int)(m:Int):iZ m (l++[x])=max (iZ m l) (x+1):=by simp[iZ,List.foldl_append]
theorem mQ (i:In):(regsI i).length<=3:=by unfold regsI;(repeat' split);all_goals simp
theorem wS {α:Type}{l:List α}{k:Nat}{s:α}(h:l[k]?=some s):l.take (k+1)=l.take k++[s]:=by rw[List.take_add_one,h];rfl
theorem H9 (n:Nat):∀(bs:List (List Sm)) (st i:Nat) (l:List Sm),bs[i]?=some l->(codeF n st bs)[i]?=some (Cf (kD n (st+fD (bs.take i)) l),kD n (st+fD (bs.take i)) l)
 | [],st,i,l,h=>by simp at h
 |
  b::r,st,0,l,h=>by
  simp only[List.getElem?_cons_zero,Option.some.injEq] at h
  subst h
  simp[codeF,fD]
 |
  b::r,st,i+1,l,h=>by
  simp only[List.getElem?_cons_succ] at h
  have:=H9 n r (st+az b) i l h
  simp only[codeF,List.getElem?_cons_succ,List.take_succ_cons,fD,this,Nat.add_assoc]
