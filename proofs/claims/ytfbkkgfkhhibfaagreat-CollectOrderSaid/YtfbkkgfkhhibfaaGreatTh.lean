/- Words. -/
import Derived.Test.YtfbkkgfkhhibfaaGreatTg
import Derived.RowKit
set_option linter.unusedVariables false
set_option linter.unusedSimpArgs false
namespace Mk
open Go
theorem su (s:ByteArray):∀(l:List ByteArray) (i:Nat),dU s i l= -1∨∃k,k < l.length∧l[k]?=some s∧dU s i l=((i+k:Nat):Int)
 | [],i=> .inl rfl
 |
  x :: r,i=>by
  unfold dU
  split
  · rename_i h
    exact .inr ⟨0,by simp,by simp[h],by simp⟩
  · rcases su s r (i+1) with h | ⟨k,h1,h2,h3⟩
    · exact .inl (by rw[←h];norm_cast)
    · exact .inr ⟨k+1,by simpa using h1,by simpa using h2,by rw[show ((i:Int)+1)=((i+1:Nat):Int) by omega,h3];omega⟩
theorem Qh (l:List ByteArray)(s:ByteArray):fU l s= -1∨∃k,k < l.length∧l[k]?=some s∧fU l s=(k:Int):=by
 have:=su s l 0;simpa [fU] using this
theorem thNames_len (n:Nat):(thNames n).length=n:=by simp[thNames]
theorem iM (st:Int)(x:Ex)(d:Int):(aC st x d).length≤3:=by cases x <;> simp[aC]
mutual
theorem genS_len (n base st:Nat):∀s:Sm,(genS n base st s).length≤8 * dM s
 | .asg k e=>by have:=iM st e 2;simp[genS,dM];omega
 | .asq i e=>by have:=iM st e 3;simp[genS,dM];omega
 |
  .ite e b []=>by
  have:=iM st e 2
  have h1:=genL_len n (base+(aC st e 2).length+1) (st+1) b
  simp[genS,dM,az];omega
 |
  .ite e b (c :: r)=>by
  have:=iM st e 2
  have h1:=genL_len n (base+(aC st e 2).length+1) (st+1) b
  have h2:=genL_len n (base+(aC st e 2).length+1+(genL n (base+(aC st e 2).length+1) (st+1) b).length+1) (st+1+az b) (c :: r)
  simp only[genS,dM,List.length_append,List.length_cons];omega
 |
  .whl e b=>by
  have:=iM st e 2
  have h1:=genL_len n (base+(aC st e 2).length+1) (st+1) b
  simp[genS,dM];omega
 |
  .blk k b=>by
  have h1:=genL_len n (base+1) (st+1) b
  simp[genS,dM];omega
 |
  .tx b=>by
  have h1:=genL_len n (base+1) (st+1) b
  simp[genS,dM];omega
 |
  .atm b=>by
  have h1:=genL_len n (base+1) (st+1) b
  simp[genS,dM];omega
 | .sig k=>by simp[genS,dM]
 | .spawn k=>by simp[genS,dM]
 | .join=>by simp[genS,dM]
 | .set e=>by have:=iM st e 2;simp[genS,dM];omega
 | .get=>by simp[genS,dM]
theorem genL_len (n base st:Nat):∀l:List Sm,(genL n base st l).length≤8 * az l
 | []=>by simp[genL]
 |
  s :: r=>by
  have h1:=genS_len n base st s
  have h2:=genL_len n (base+(genS n base st s).length) (st+dM s) r
  simp only[genL,az,List.length_append];omega
end
structure ObjI (nth:Nat)(i:In):Prop where
 o3:i.op≠3
 o4:i.op=4→6≤i.n∧i.n≤18
 o6:i.op=6→0≤i.b∧i.b≤2
 o7:i.op=7→i.b=3∧i.n=2
 o8:i.op=8→0≤i.a∧i.a≤2
 o9:i.op=9→i.a=3∧i.n=2
 o11:i.op=11∨i.op=12→0≤i.a∧i.a≤1
 o13:13≤i.op∧i.op≤16→i.a=2
 o21:21≤i.op∧i.op≤23→i.a=0
 o24:i.op=24∨i.op=25→0≤i.a∧i.a < nth
 o26:i.op=26→i.a=0
 o27:i.op=27→i.b=0
structure LocI (nth s0 s1 lo hi:Nat)(i:In):Prop where
 op1:1≤i.op
 op2:i.op≤27
 obj:ObjI nth i
 site:∃k:Nat,i.site=k∧s0≤k∧k < s1
 jmp:i.op=5→∃k:Nat,i.a=k∧lo≤k∧k≤hi
 brn:i.op=10→∃k:Nat,i.b=k∧lo≤k∧k≤hi
 regs:∀r∈regsI i,0≤r∧r≤4
theorem LocI.weak {nth s0 s1 lo hi s0' s1' lo' hi':Nat}{i:In}(h:LocI nth s0 s1 lo hi i)(a:s0'≤s0)(b:s1≤s1')(c:lo'≤lo)(d:hi≤hi'):LocI nth s0' s1' lo' hi' i:=
 ⟨h.op1,h.op2,h.obj,by obtain⟨k,e,p,q⟩:=h.site;exact⟨k,e,by omega,by omega⟩,fun x=>by obtain⟨k,e,p,q⟩:=h.jmp x;exact⟨k,e,by omega,by omega⟩,fun x=>by obtain⟨k,e,p,q⟩:=h.brn x;exact⟨k,e,by omega,by omega⟩,h.regs⟩
theorem gX {nth s0 s1 lo hi:Nat}(op a b c n:Int)(st:Nat)(h1:1≤op∧op≤27)(ho:ObjI nth ⟨op,a,b,c,n,st⟩)(hs:s0≤st∧st < s1)(h5:op≠5)(h10:op≠10)(hr:∀r∈regsI ⟨op,a,b,c,n,st⟩,0≤r∧r≤4):LocI nth s0 s1 lo hi ⟨op,a,b,c,n,st⟩:=
 ⟨h1.1,h1.2,ho,⟨st,rfl,hs.1,hs.2⟩,fun e=>absurd e h5,fun e=>absurd e h10,hr⟩
theorem ES {nth s0 s1 lo hi:Nat}(k st:Nat)(hs:s0≤st∧st < s1)(hk:lo≤k∧k≤hi):LocI nth s0 s1 lo hi ⟨10,2,(k:Int),0,0,st⟩:=by
 refine⟨by show (1:Int)≤10;decide,by show (10:Int)≤27;decide,?_,⟨st,rfl,hs.1,hs.2⟩,fun e=>absurd e (by show (10:Int)≠5;decide),fun _=>⟨k,rfl,hk.1,hk.2⟩,by simp[regsI]⟩;constructor <;> simp
theorem N9 {nth s0 s1 lo hi:Nat}(k st:Nat)(hs:s0≤st∧st < s1)(hk:lo≤k∧k≤hi):LocI nth s0 s1 lo hi ⟨5,(k:Int),0,0,0,st⟩:=by
 refine⟨by show (1:Int)≤5;decide,by show (5:Int)≤27;decide,?_,⟨st,rfl,hs.1,hs.2⟩,fun _=>⟨k,rfl,hk.1,hk.2⟩,fun e=>absurd e (by show (5:Int)≠10;decide),by simp[regsI]⟩;constructor <;> simp
theorem pg {nth s0 s1 lo hi:Nat}(st:Nat)(l:Lf)(d:Int)(hd:0≤d∧d≤4)(hs:s0≤st∧st < s1):LocI nth s0 s1 lo hi (iZ st l d):=by
 rcases l with m | k
 · exact gX _ _ _ _ _ _ (by decide) (by constructor <;> simp) hs (by decide) (by decide) (by simpa [regsI] using hd)
 · cases k
   all_goals exact gX _ _ _ _ _ _ (by decide) (by constructor <;> simp) hs (by decide) (by decide) (by simp[regsI];omega)
theorem vJ (k:Fin 6):6≤binOp k∧binOp k≤18:=by
 revert k;decide
theorem mi {nth s0 s1 lo hi:Nat}(st:Nat)(e:Ex)(d:Int)(hd:0≤d∧d≤3)(hs:s0≤st∧st < s1):∀i∈aC st e d,LocI nth s0 s1 lo hi i:=by
 intro i hi
 cases e with
 |
  leaf l=>
  simp[aC] at hi;subst hi;exact pg st l d (by omega) hs
 |
  idx l=>
  simp[aC] at hi;rcases hi with rfl | rfl
  · exact pg st l d (by omega) hs
  · exact gX _ _ _ _ _ _ (by decide) (by constructor <;> simp) hs (by decide) (by decide) (by simp[regsI];omega)
 |
  bin k l r=>
  simp[aC] at hi;have hb:=vJ k;rcases hi with rfl | rfl | rfl
  · exact pg st l d (by omega) hs
  · exact pg st r (d+1) (by omega) hs
  · exact gX _ _ _ _ _ _ (by decide) (by constructor <;> simp <;> omega) hs (by decide) (by decide) (by simp[regsI];omega)
mutual
def SpOkS (n:Nat):Sm→Prop
 | .ite _ b c=>SpOkL n b∧SpOkL n c
 | .whl _ b | .blk _ b | .tx b | .atm b=>SpOkL n b
 | .spawn k=>0≤fU (thNames n) (aO k)
 | .join=>0≤fU (thNames n) (aO 1)
 | _=>True
def SpOkL (n:Nat):List Sm→Prop
 | []=>True
 | s :: r=>SpOkS n s∧SpOkL n r
end
theorem UN {n:Nat}{s:ByteArray}(h:0≤fU (thNames n) s):fU (thNames n) s < n:=by
 rcases Qh (thNames n) s with h' | ⟨k,hk,_,h'⟩
 · omega
 · rw[h'];rw[thNames_len] at hk;omega
mutual
theorem locS (n base st:Nat):∀s:Sm,SpOkS n s→∀i∈genS n base st s,LocI n st (st+dM s) base (base+(genS n base st s).length) i
 |
  .asg k e,_,i,hi=>by
  simp only[genS,List.mem_append,List.mem_singleton] at hi
  rcases hi with hi | rfl
  · exact mi st e 2 (by omega) (by simp[dM]) i hi
  · cases k
    all_goals exact gX _ _ _ _ _ _ (by decide) (by constructor <;> simp) (by simp[dM]) (by decide) (by decide) (by simp[regsI])
 |
  .asq x e,_,i,hi=>by
  simp only[genS,List.mem_append,List.mem_singleton,List.mem_cons] at hi
  rcases hi with rfl | hi | rfl | hi
  · exact pg st x 2 (by omega) (by simp[dM])
  · exact mi st e 3 (by omega) (by simp[dM]) i hi
  · exact gX _ _ _ _ _ _ (by decide) (by constructor <;> simp) (by simp[dM]) (by decide) (by decide) (by simp[regsI])
  · simp at hi
 |
  .ite e b [],h,i,hi=>by
  have ih:=locL n (base+(aC st e 2).length+1) (st+1) b h.1
  simp only[genS,List.mem_append,List.mem_cons,dM,az,List.length_append,List.length_cons] at hi⊢
  rcases hi with hi | rfl | hi
  · exact mi st e 2 (by omega) (by omega) i hi
  · exact ES _ _ (by omega) (by omega)
  · exact (ih i hi).weak (by omega) (by omega) (by omega) (by omega)
 |
  .ite e b (c :: r),h,i,hi=>by
  have i1:=locL n (base+(aC st e 2).length+1) (st+1) b h.1
  have i2:=locL n (base+(aC st e 2).length+1+(genL n (base+(aC st e 2).length+1) (st+1) b).length+1) (st+1+az b) (c :: r) h.2
  simp only[genS,List.mem_append,List.mem_cons,dM,List.length_append,List.length_cons] at hi⊢
  rcases hi with hi | rfl | hi | rfl | hi
  · exact mi st e 2 (by omega) (by omega) i hi
  · exact ES _ _ (by omega) (by omega)
  · exact (i1 i hi).weak (by omega) (by omega) (by omega) (by omega)
  · exact N9 _ _ (by omega) (by omega)
  · exact (i2 i hi).weak (by omega) (by omega) (by omega) (by omega)
 |
  .whl e b,h,i,hi=>by
  have ih:=locL n (base+(aC st e 2).length+1) (st+1) b h
  simp only[genS,List.mem_append,List.mem_cons,List.mem_singleton,dM,List.length_append,List.length_cons,List.length_nil] at hi⊢
  rcases hi with hi | rfl | hi | rfl | hi
  · exact mi st e 2 (by omega) (by omega) i hi
  · exact ES _ _ (by omega) (by omega)
  · exact (ih i hi).weak (by omega) (by omega) (by omega) (by omega)
  · exact N9 _ _ (by omega) (by omega)
  · simp at hi
 |
  .blk k b,h,i,hi=>by
  have ih:=locL n (base+1) (st+1) b h
  simp only[genS,List.mem_append,List.mem_cons,List.mem_singleton,dM,List.length_append,List.length_cons,List.length_nil] at hi⊢
  rcases hi with rfl | hi | rfl | hi
  · cases k
    all_goals exact gX _ _ _ _ _ _ (by decide) (by constructor <;> simp[Bk.fst,Bk.obj]) (by omega) (by decide) (by decide) (by simp[regsI,Bk.fst])
  · exact (ih i hi).weak (by omega) (by omega) (by omega) (by omega)
  · cases k
    all_goals exact gX _ _ _ _ _ _ (by decide) (by constructor <;> simp[Bk.fst,Bk.obj]) (by omega) (by decide) (by decide) (by simp[regsI,Bk.fst])
  · simp at hi
 |
  .tx b,h,i,hi=>by
  have ih:=locL n (base+1) (st+1) b h
  simp only[genS,List.mem_append,List.mem_cons,List.mem_singleton,dM,List.length_append,List.length_cons,List.length_nil] at hi⊢
  rcases hi with rfl | hi | rfl | hi
  · exact gX _ _ _ _ _ _ (by decide) (by constructor <;> simp) (by omega) (by decide) (by decide) (by simp[regsI])
  · exact (ih i hi).weak (by omega) (by omega) (by omega) (by omega)
  · exact gX _ _ _ _ _ _ (by decide) (by constructor <;> simp) (by omega) (by decide) (by decide) (by simp[regsI])
  · simp at hi
 |
  .atm b,h,i,hi=>by
  have ih:=locL n (base+1) (st+1) b h
  simp only[genS,List.mem_append,List.mem_cons,List.mem_singleton,dM,List.length_append,List.length_cons,List.length_nil] at hi⊢
  rcases hi with rfl | hi | rfl | hi
  · exact gX _ _ _ _ _ _ (by decide) (by constructor <;> simp) (by omega) (by decide) (by decide) (by simp[regsI])
  · exact (ih i hi).weak (by omega) (by omega) (by omega) (by omega)
  · exact gX _ _ _ _ _ _ (by decide) (by constructor <;> simp) (by omega) (by decide) (by decide) (by simp[regsI])
  · simp at hi
 |
  .sig k,_,i,hi=>by
  simp only[genS,List.mem_singleton] at hi
  subst hi
  cases k
  all_goals exact gX _ _ _ _ _ _ (by decide) (by constructor <;> simp[Sg.op]) (by simp[dM]) (by decide) (by decide) (by simp[regsI,Sg.op])
 |
  .spawn k,h,i,hi=>by
  simp only[genS,List.mem_singleton] at hi
  subst hi
  have h:0≤fU (thNames n) (aO k):=h
  have h2:=UN h
  exact gX _ _ _ _ _ _ (by decide) (by constructor <;> simp <;> exact⟨h,h2⟩) (by simp[dM]) (by decide) (by decide) (by simp[regsI])
 |
  .join,h,i,hi=>by
  simp only[genS,List.mem_singleton] at hi
  subst hi
  have h:0≤fU (thNames n) (aO 1):=h
  have h2:=UN h
  exact gX _ _ _ _ _ _ (by decide) (by constructor <;> simp <;> exact⟨h,h2⟩) (by simp[dM]) (by decide) (by decide) (by simp[regsI])
 |
  .set e,_,i,hi=>by
  simp only[genS,List.mem_append,List.mem_singleton] at hi
  rcases hi with hi | rfl
  · exact mi st e 2 (by omega) (by simp[dM]) i hi
  · exact gX _ _ _ _ _ _ (by decide) (by constructor <;> simp) (by simp[dM]) (by decide) (by decide) (by simp[regsI])
 |
  .get,_,i,hi=>by
  simp only[genS,List.mem_singleton] at hi
  subst hi
  exact gX _ _ _ _ _ _ (by decide) (by constructor <;> simp) (by simp[dM]) (by decide) (by decide) (by simp[regsI])
theorem locL (n base st:Nat):∀l:List Sm,SpOkL n l→∀i∈genL n base st l,LocI n st (st+az l) base (base+(genL n base st l).length) i
 | [],_,i,hi=>by simp[genL] at hi
 |
  s :: r,h,i,hi=>by
  have h1:=locS n base st s h.1
  have h2:=locL n (base+(genS n base st s).length) (st+dM s) r h.2
  simp only[genL,List.mem_append,az,List.length_append] at hi⊢
  rcases hi with hi | hi
  · exact (h1 i hi).weak (by omega) (by omega) (by omega) (by omega)
  · exact (h2 i hi).weak (by omega) (by omega) (by omega) (by omega)
end
def landsF (l:List In):Nat→Int→Bool
 | 0,_=>false
 | f+1,k=>if k < 0∨(l.length:Int)≤k then false else
  match l[k.toNat]? with
  | none=>false
  | some i=>if¬(1≤i.op∧i.op≤5) then true else landsF l f (if i.op=5 then i.a else k+1)
def Evt (l:List In)(k:Nat):Prop:=∃i,l[k]?=some i∧5 < i.op
def Sil (l:List In)(k k':Nat):Prop:=∃i,l[k]?=some i∧1≤i.op∧i.op≤5∧(if i.op=5 then i.a=(k':Int) else k'=k+1)
def Rch (l:List In):Nat→Nat→Nat→Prop
 | 0,a,b=>a=b
 | m+1,a,b=>∃c,Sil l a c∧Rch l m c b
theorem Rch.trans {l:List In} :∀ {m m':Nat} {a b c:Nat},Rch l m a b→Rch l m' b c→Rch l (m+m') a c
 | 0,m',a,b,c,h,k=>by rw[Nat.zero_add];cases h;exact k
 | m+1,m',a,b,c,⟨x,h1,h2⟩,k=>by rw[Nat.add_right_comm];exact⟨x,h1,h2.trans k⟩
theorem pq {l:List In} :∀ {m:Nat} {a b f:Nat},Rch l m a b→Evt l b→m < f→landsF l f (a:Int)=true
 | 0,a,b,0,_,_,h=>by omega
 | m+1,a,b,0,_,_,h=>by omega
 |
  0,a,b,f+1,h,⟨i,hi,ho⟩,hf=>by
  cases h
  have hlt:=(List.getElem?_eq_some_iff.1 hi).1
  unfold landsF
  rw[if_neg (by omega),show ((a:Int).toNat)=a by omega,hi]
  simp only
  rw[if_pos (by omega)]
 |
  m+1,a,b,f+1,⟨c,⟨i,hi,h1,h2,hc⟩,h⟩,he,hf=>by
  have hlt:=(List.getElem?_eq_some_iff.1 hi).1
  have ih:=pq (f:=f) h he (by omega)
  unfold landsF
  rw[if_neg (by omega),show ((a:Int).toNat)=a by omega,hi]
  simp only
  rw[if_neg (by omega)]
  split at hc
  · rename_i h5;rw[if_pos h5,hc];exact ih
  · rename_i h5;rw[if_neg h5];subst hc;exact ih
def LS (l:List In)(s e:Nat):Prop:=∀k,s≤k→k < e→(∃m b,Rch l m k b∧Evt l b∧m≤e - s)∨(∃m,Rch l m k e∧m≤e - k)
section
variable {l : List In} {s e f j b : Nat}
theorem LS.nil:LS l s s:=fun k h1 h2=>by omega
theorem LS.evt (h:Evt l s):LS l s (s+1):=fun k h1 h2=> .inl ⟨0,k,rfl,by rw[show k=s by omega];exact h,by omega⟩
theorem LS.sil (h:Sil l s (s+1)):LS l s (s+1):=fun k h1 h2=> .inr ⟨1,by rw[show k=s by omega];exact⟨_,h,rfl⟩,by omega⟩
theorem LS.app (h:LS l s e)(k:LS l e f)(h1:s≤e)(h2:e≤f):LS l s f:=fun x hx hy=>by
 by_cases hxe:x < e
 · rcases h x hx hxe with ⟨m,b,r,ev,hm⟩ | ⟨m,r,hm⟩
   · exact .inl ⟨m,b,r,ev,by omega⟩
   · by_cases hef:e < f
     · rcases k e (Nat.le_refl _) hef with ⟨m',b,r',ev,hm'⟩ | ⟨m',r',hm'⟩
       · exact .inl ⟨m+m',b,r.trans r',ev,by omega⟩
       · exact .inr ⟨m+m',r.trans r',by omega⟩
     · have:e=f:=by omega
       subst this
       exact .inr ⟨m,r,hm⟩
 · rcases k x (by omega) hy with ⟨m,b,r,ev,hm⟩ | ⟨m,r,hm⟩
   · exact .inl ⟨m,b,r,ev,by omega⟩
   · exact .inr ⟨m,r,hm⟩
theorem LS.loop (h:LS l s b)(hb:Evt l b)(k:LS l (b+1) j)(hj:Sil l j s)(h1:s≤b)(h2:b+1≤j):LS l s (j+1):=by
 have hs:∃m c,Rch l m s c∧Evt l c∧m≤b - s:=by
  by_cases hsb:s < b
  · rcases h s (Nat.le_refl _) hsb with ⟨m,c,r,ev,hm⟩ | ⟨m,r,hm⟩
    · exact⟨m,c,r,ev,hm⟩
    · exact⟨m,b,r,hb,hm⟩
  · exact⟨0,s,rfl,by rw[show s=b by omega];exact hb,by omega⟩
 obtain⟨m0,c0,r0,e0,hm0⟩:=hs;intro x hx hy;by_cases hxb:x < b
 · rcases h x hx hxb with ⟨m,c,r,ev,hm⟩ | ⟨m,r,hm⟩
   · exact .inl ⟨m,c,r,ev,by omega⟩
   · exact .inl ⟨m,b,r,hb,by omega⟩
 by_cases hx2:x=b
 · subst hx2;exact .inl ⟨0,x,rfl,hb,by omega⟩
 by_cases hxj:x < j
 · rcases k x (by omega) hxj with ⟨m,c,r,ev,hm⟩ | ⟨m,r,hm⟩
   · exact .inl ⟨m,c,r,ev,by omega⟩
   · exact .inl ⟨m+(m0+1),c0,r.trans ⟨s,hj,r0⟩,e0,by omega⟩
 · have:x=j:=by omega
   subst this;exact .inl ⟨m0+1,c0,⟨s,hj,r0⟩,e0,by omega⟩
theorem LS.over (h:LS l s j)(hj:Sil l j e)(k:LS l (j+1) e)(h1:s≤j)(h2:j+1≤e):LS l s e:=by
 intro x hx hy;by_cases hxj:x < j
 · rcases h x hx hxj with ⟨m,c,r,ev,hm⟩ | ⟨m,r,hm⟩
   · exact .inl ⟨m,c,r,ev,by omega⟩
   · exact .inr ⟨m+1,r.trans ⟨e,hj,rfl⟩,by omega⟩
 by_cases hx2:x=j
 · subst hx2;exact .inr ⟨1,⟨e,hj,rfl⟩,by omega⟩
 · rcases k x (by omega) hy with ⟨m,c,r,ev,hm⟩ | ⟨m,r,hm⟩
   · exact .inl ⟨m,c,r,ev,by omega⟩
   · exact .inr ⟨m,r,hm⟩
end
def AtL (l:List In)(base:Nat)(seg:List In):Prop:=∀j i,seg[j]?=some i→l[base+j]?=some i
section
variable {l a c : List In} {base : Nat} {i : In}
theorem AtL.left (h:AtL l base (a++c)):AtL l base a:=fun j i hj=>h j i (by rw[List.getElem?_append_left (List.getElem?_eq_some_iff.1 hj).1];exact hj)
theorem AtL.right (h:AtL l base (a++c)):AtL l (base+a.length) c:=fun j i hj=>by
 have:=h (a.length+j) i (by rw[List.getElem?_append_right (by omega),show a.length+j - a.length=j by omega];exact hj)
 rw[Nat.add_assoc];exact this
theorem AtL.head (h:AtL l base (i :: c)):l[base]?=some i:=h 0 i rfl
theorem AtL.tail (h:AtL l base (i :: c)):AtL l (base+1) c:=fun j i hj=>by
 have:=h (j+1) i (by simpa using hj)
 rw[show base+1+j=base+(j+1) by omega];exact this
theorem dZ (h:l[base]?=some i)(ho:5 < i.op):Evt l base:=⟨i,h,ho⟩
theorem uq (h:l[base]?=some i)(h1:1≤i.op)(h2:i.op≤4):Sil l base (base+1):=⟨i,h,h1,by omega,by rw[if_neg (by omega)]⟩
theorem UO {k:Nat}{st:Int}(h:l[base]?=some ⟨5,(k:Int),0,0,0,st⟩):Sil l base k:=⟨_,h,by show (1:Int)≤5;decide,by show (5:Int)≤5;decide,by simp⟩
end
theorem sD {l:List In}{base:Nat}{st:Int}{x:Lf}{d:Int}(h:l[base]?=some (iZ st x d)):LS l base (base+1):=by
 rcases x with m | k
 · exact LS.sil (uq h (by simp[iZ]) (by simp[iZ]))
 · cases k
   · exact LS.sil (uq h (by simp[iZ]) (by simp[iZ]))
   · exact LS.sil (uq h (by simp[iZ]) (by simp[iZ]))
   · exact LS.evt (dZ h (by simp[iZ]))
   · exact LS.evt (dZ h (by simp[iZ]))
   · exact LS.evt (dZ h (by simp[iZ]))
theorem pY {l:List In}{base:Nat}{st:Int}{x:Ex}{d:Int}(h:AtL l base (aC st x d)):LS l base (base+(aC st x d).length):=by
 cases x with
 | leaf x=>exact sD h.head
 |
  idx x=>
  show LS l base (base+1+1);exact (sD h.head).app (LS.evt (dZ h.tail.head (by simp))) (by omega) (by omega)
 |
  bin k x y=>
  show LS l base (base+1+1+1);exact ((sD h.head).app (sD h.tail.head) (by omega) (by omega)).app (LS.sil (uq h.tail.tail.head (by simp) (by simp))) (by omega) (by omega)
mutual
theorem lsS {l:List In}(n base st:Nat):∀s:Sm,AtL l base (genS n base st s)→LS l base (base+(genS n base st s).length)
 |
  .asg k e,h=>by
  simp only[genS] at h⊢
  rw[List.length_append,←Nat.add_assoc]
  refine (pY h.left).app ?_ (by omega) (by simp)
  have:=h.right.head
  cases k
  · exact LS.sil (uq this (by simp[xE]) (by simp[xE]))
  · exact LS.sil (uq this (by simp[xE]) (by simp[xE]))
  · exact LS.evt (dZ this (by simp[xE]))
  · exact LS.evt (dZ this (by simp[xE]))
  · exact LS.evt (dZ this (by simp[xE]))
 |
  .asq x e,h=>by
  simp only[genS] at h⊢
  rw[List.length_cons,List.length_append,show base+((aC st e 3).length+ [(⟨9,3,3,2,2,(st:Int)⟩:In)].length+1)=base+1+(aC st e 3).length+1 by simp;omega]
  exact (sD h.head).app ((pY h.tail.left).app (LS.evt (dZ h.tail.right.head (by simp))) (by omega) (by omega)) (by omega) (by omega)
 |
  .ite e b [],h=>by
  simp only[genS] at h⊢
  have ih:=lsL n (base+(aC st e 2).length+1) (st+1) b h.right.tail
  rw[List.length_append,List.length_cons,show base+((aC st e 2).length+((genL n (base+(aC st e 2).length+1) (st+1) b).length+1))=base+(aC st e 2).length+1+(genL n (base+(aC st e 2).length+1) (st+1) b).length by omega]
  exact (pY h.left).app ((LS.evt (dZ h.right.head (by simp))).app ih (by omega) (by omega)) (by omega) (by omega)
 |
  .ite e b (c :: r),h=>by
  simp only[genS] at h⊢
  have i1:=lsL n (base+(aC st e 2).length+1) (st+1) b h.right.tail.left
  have i2:=lsL n (base+(aC st e 2).length+1+(genL n (base+(aC st e 2).length+1) (st+1) b).length+1) (st+1+az b) (c :: r) h.right.tail.right.tail
  have hj:=UO h.right.tail.right.head
  generalize hB:(genL n (base+(aC st e 2).length+1) (st+1) b).length=B at *
  generalize hE:(genL n (base+(aC st e 2).length+1+B+1) (st+1+az b) (c :: r)).length=E at *
  rw[List.length_append,List.length_cons,List.length_append,List.length_cons,hB,hE,show base+((aC st e 2).length+(B+(E+1)+1))=base+(aC st e 2).length+1+B+1+E by omega]
  exact ((pY h.left).app ((LS.evt (dZ h.right.head (by simp))).app i1 (by omega) (by omega)) (by omega) (by omega)).over hj i2 (by omega) (by omega)
 |
  .whl e b,h=>by
  simp only[genS] at h⊢
  have ih:=lsL n (base+(aC st e 2).length+1) (st+1) b h.right.tail.left
  have hj:=UO h.right.tail.right.head
  rw[List.length_append,List.length_cons,List.length_append,show base+((aC st e 2).length+((genL n (base+(aC st e 2).length+1) (st+1) b).length+ [(⟨5,(base:Int),0,0,0,(st:Int)⟩:In)].length+1))=base+(aC st e 2).length+1+(genL n (base+(aC st e 2).length+1) (st+1) b).length+1 by simp;omega]
  exact LS.loop (pY h.left) (dZ h.right.head (by simp)) ih hj (by omega) (by omega)
 |
  .blk k b,h=>by
  simp only[genS] at h⊢
  have ih:=lsL n (base+1) (st+1) b h.tail.left
  rw[List.length_cons,List.length_append,show base+((genL n (base+1) (st+1) b).length+ [(⟨k.fst+1,k.obj,0,0,0,(st:Int)⟩:In)].length+1)=base+1+(genL n (base+1) (st+1) b).length+1 by simp;omega]
  exact (LS.evt (dZ h.head (by cases k <;> simp[Bk.fst]))).app (ih.app (LS.evt (dZ h.tail.right.head (by cases k <;> simp[Bk.fst]))) (by omega) (by omega)) (by omega) (by omega)
 |
  .tx b,h=>by
  simp only[genS] at h⊢
  have ih:=lsL n (base+1) (st+1) b h.tail.left
  rw[List.length_cons,List.length_append,show base+((genL n (base+1) (st+1) b).length+ [(⟨18,0,0,0,0,(st:Int)⟩:In)].length+1)=base+1+(genL n (base+1) (st+1) b).length+1 by simp;omega]
  exact (LS.evt (dZ h.head (by simp))).app (ih.app (LS.evt (dZ h.tail.right.head (by simp))) (by omega) (by omega)) (by omega) (by omega)
 |
  .atm b,h=>by
  simp only[genS] at h⊢
  have ih:=lsL n (base+1) (st+1) b h.tail.left
  rw[List.length_cons,List.length_append,show base+((genL n (base+1) (st+1) b).length+ [(⟨20,0,0,0,0,(st:Int)⟩:In)].length+1)=base+1+(genL n (base+1) (st+1) b).length+1 by simp;omega]
  exact (LS.evt (dZ h.head (by simp))).app (ih.app (LS.evt (dZ h.tail.right.head (by simp))) (by omega) (by omega)) (by omega) (by omega)
 | .sig k,h=>LS.evt (dZ h.head (by cases k <;> simp[Sg.op]))
 | .spawn k,h=>LS.evt (dZ h.head (by simp))
 | .join,h=>LS.evt (dZ h.head (by simp))
 |
  .set e,h=>by
  simp only[genS] at h⊢
  rw[List.length_append,←Nat.add_assoc]
  exact (pY h.left).app (LS.evt (dZ h.right.head (by simp))) (by omega) (by simp)
 | .get,h=>LS.evt (dZ h.head (by simp))
theorem lsL {l:List In}(n base st:Nat):∀b:List Sm,AtL l base (genL n base st b)→LS l base (base+(genL n base st b).length)
 | [],h=>LS.nil
 |
  s :: r,h=>by
  simp only[genL] at h⊢
  rw[List.length_append,←Nat.add_assoc]
  exact (lsS n base st s h.left).app (lsL n (base+(genS n base st s).length) (st+dM s) r h.right) (by omega) (by omega)
end
theorem LY (n st:Nat)(b:List Sm)(k:Nat)(hk:k < (iY n st b).length):landsF (iY n st b) ((iY n st b).length+1) (k:Int)=true:=by
 have h:AtL (iY n st b) 0 (iY n st b):=fun j i hj=>by rw[Nat.zero_add];exact hj
 have h1:=lsL (l:=iY n st b) n 0 st b h.left;have h2:Evt (iY n st b) (0+(genL n 0 st b).length):=dZ h.right.head (by simp);have hl:(iY n st b).length=0+(genL n 0 st b).length+1:=by unfold iY;rw[List.length_append];simp
 rcases (h1.app (LS.evt h2) (by omega) (by omega)) k (by omega) (by omega) with ⟨m,c,r,ev,hm⟩ | ⟨m,r,hm⟩
 · exact pq r ev (by omega)
 · rcases Nat.lt_or_ge k (0+(genL n 0 st b).length) with hlt | hge
   · rcases h1 k (by omega) hlt with ⟨m,c,r,ev,hm⟩ | ⟨m,r,hm⟩
     · exact pq r ev (by omega)
     · exact pq r h2 (by omega)
   · have:k=0+(genL n 0 st b).length:=by omega
     subst this;exact pq (m:=0) rfl h2 (by omega)
theorem jC {n t:Nat}{ar:List Sm}{sp st:List ByteArray}{s:Sm}(h:(allS n t ar sp st s).1=0):
 DN n t ar sp st s=0∧(∃ar sp st,(allL n t ar sp st s.body).1=0)∧(∃ar sp st,(allL n t ar sp st s.els).1=0):=by
 rw[DT] at h;split at h
 · rename_i he;exact absurd h he
 · rename_i he
   split at h
   · rename_i hb;exact absurd h hb
   · rename_i hb
     exact⟨Classical.not_not.1 he,⟨_,_,_,Classical.not_not.1 hb⟩,⟨_,_,_,h⟩⟩
theorem y8 {n t:Nat}{ar:List Sm}{sp st:List ByteArray}{s:Sm}{r:List Sm}(h:(allL n t ar sp st (s :: r)).1=0):
 (allS n t ar sp st s).1=0∧∃sp st,(allL n t ar sp st r).1=0:=by
 simp only[allL] at h;split at h
 · rename_i he;exact absurd h he
 · rename_i he
   exact⟨Classical.not_not.1 he,_,_,h⟩
theorem LZ {n t:Nat}{ar:List Sm}{sp st:List ByteArray}{k:Nat}(h:DN n t ar sp st (.spawn k)=0):0≤fU (thNames n) (aO k):=by
 unfold DN at h;split at h
 · cases h
 · simp only[gG] at h;split at h
   · cases h
   · omega
theorem Qi {n t:Nat}{ar:List Sm}{sp st:List ByteArray}(h:DN n t ar sp st .join=0):0≤fU (thNames n) (aO 1):=by
 unfold DN at h;split at h
 · cases h
 · simp only[gG] at h;split at h
   · cases h
   · omega
mutual
theorem spokS (n t:Nat):∀(s:Sm) (ar:List Sm) (sp st:List ByteArray),(allS n t ar sp st s).1=0→SpOkS n s
 |
  .ite e b c,ar,sp,st,h=>by
  obtain⟨_,⟨a1,b1,c1,h1⟩,⟨a2,b2,c2,h2⟩⟩:=jC h
  exact⟨spokL n t b a1 b1 c1 h1,spokL n t c a2 b2 c2 h2⟩
 |
  .whl e b,ar,sp,st,h=>by
  obtain⟨_,⟨a1,b1,c1,h1⟩,_⟩:=jC h
  exact spokL n t b a1 b1 c1 h1
 |
  .blk k b,ar,sp,st,h=>by
  obtain⟨_,⟨a1,b1,c1,h1⟩,_⟩:=jC h
  exact spokL n t b a1 b1 c1 h1
 |
  .tx b,ar,sp,st,h=>by
  obtain⟨_,⟨a1,b1,c1,h1⟩,_⟩:=jC h
  exact spokL n t b a1 b1 c1 h1
 |
  .atm b,ar,sp,st,h=>by
  obtain⟨_,⟨a1,b1,c1,h1⟩,_⟩:=jC h
  exact spokL n t b a1 b1 c1 h1
 | .spawn k,ar,sp,st,h=>LZ (jC h).1
 | .join,ar,sp,st,h=>Qi (jC h).1
 | .asg _ _,_,_,_,_=>trivial
 | .asq _ _,_,_,_,_=>trivial
 | .sig _,_,_,_,_=>trivial
 | .set _,_,_,_,_=>trivial
 | .get,_,_,_,_=>trivial
theorem spokL (n t:Nat):∀(l:List Sm) (ar:List Sm) (sp st:List ByteArray),(allL n t ar sp st l).1=0→SpOkL n l
 | [],_,_,_,_=>trivial
 |
  s :: r,ar,sp,st,h=>by
  obtain⟨h1,sp2,st2,h2⟩:=y8 h
  exact⟨spokS n t s ar sp st h1,spokL n t r ar sp2 st2 h2⟩
end
theorem Cc (n:Nat):∀(bs:List (List Sm)) (t:Nat) (sp st:List ByteArray),GU n t sp st bs=0→∀b∈bs,SpOkL n b
 | [],_,_,_,_,b,hb=>by simp at hb
 |
  x :: r,t,sp,st,h,b,hb=>by
  simp only[GU] at h
  split at h
  · rename_i he;exact absurd h he
  · rename_i he
    rcases List.mem_cons.1 hb with rfl | hb
    · exact spokL n t b [] sp st (Classical.not_not.1 he)
    · exact Cc n r _ _ _ h b hb
theorem qP {bs:List (List Sm)}(h:lT bs=0):dP bs≤60∧∀b∈bs,SpOkL bs.length b:=by
 unfold lT at h;split at h
 · cases h
 · exact⟨by omega,Cc _ _ _ _ _ h⟩
def SiteOk (n:Nat)(ss:List (Nat×Nat)):Prop:=∀i x,ss[i]?=some x→x.1 < n∧((i=0∧x.2=0)∨∃j y,i=j+1∧ss[j]?=some y∧((y.1=x.1∧x.2=y.2+1)∨(y.1 < x.1∧x.2=0)))
theorem SiteOk.snoc {n:Nat}{ss:List (Nat×Nat)}{x:Nat×Nat}(h:SiteOk n ss)(hx:x.1 < n)(hl:(ss.length=0∧x.2=0)∨∃j y,ss.length=j+1∧ss[j]?=some y∧((y.1=x.1∧x.2=y.2+1)∨(y.1 < x.1∧x.2=0))):SiteOk n (ss++ [x]):=by
 intro i z hz;by_cases hi:i < ss.length
 · rw[List.getElem?_append_left hi] at hz;obtain⟨h1,h2⟩:=h i z hz;refine⟨h1,?_⟩;rcases h2 with h2 | ⟨j,y,e,hy,h3⟩
   · exact .inl h2
   · exact .inr ⟨j,y,e,by rw[List.getElem?_append_left (by omega)];exact hy,h3⟩
 · have hlt:=(List.getElem?_eq_some_iff.1 hz).1;have hi2:i=ss.length:=by simp at hlt;omega
   subst hi2;rw[List.getElem?_append_right (Nat.le_refl _)] at hz;simp at hz;subst hz;refine⟨hx,?_⟩;rcases hl with h2 | ⟨j,y,e,hy,h3⟩
   · exact .inl h2
   · exact .inr ⟨j,y,e,by rw[List.getElem?_append_left (by omega)];exact hy,h3⟩
theorem y9 {n t:Nat}{ss:List (Nat×Nat)}(h:SiteOk n ss)(hb:∀x∈ss,x.1 < t)(ht:t < n):∀c:Nat,SiteOk n (ss++(List.range c).map fun k=>(t,k))
 | 0=>by simpa using h
 |
  c+1=>by
  rw[List.range_succ,List.map_append,←List.append_assoc]
  refine (y9 h hb ht c).snoc ht ?_
  rcases Nat.eq_zero_or_pos c with rfl | hc
  · rcases Nat.eq_zero_or_pos ss.length with h0 | h0
    · exact .inl ⟨by simp[h0],rfl⟩
    · obtain⟨y,hy⟩:∃y,ss[ss.length - 1]?=some y:=⟨_,List.getElem?_eq_getElem (by omega)⟩
      exact .inr ⟨ss.length - 1,y,by simp;omega,by rw[List.getElem?_append_left (by omega)];exact hy,.inr ⟨hb y (List.mem_of_getElem? hy),rfl⟩⟩
  · refine .inr ⟨ss.length+(c - 1),(t,c - 1),by simp;omega,?_,.inl ⟨rfl,by simp;omega⟩⟩
    rw[List.getElem?_append_right (by omega),show ss.length+(c - 1) - ss.length=c - 1 by omega,List.getElem?_map,List.getElem?_range (by omega)]
    rfl
theorem Ir {n:Nat} :∀(bs:List (List Sm)) (t:Nat) (ss:List (Nat×Nat)),SiteOk n ss→(∀x∈ss,x.1 < t)→t+bs.length≤n→SiteOk n (ss++bU t bs)
 | [],t,ss,h,_,_=>by simpa [bU] using h
 |
  b :: r,t,ss,h,hb,hn=>by
  simp only[List.length_cons] at hn
  rw[bU,←List.append_assoc]
  refine Ir r (t+1) _ (y9 h hb (by omega) _) (fun x hx=>?_) (by omega)
  rcases List.mem_append.1 hx with hx | hx
  · have:=hb x hx;omega
  · simp[xH] at hx
    obtain⟨a,_,rfl⟩:=hx
    show t < t+1
    omega
theorem UQ (bs:List (List Sm)):SiteOk bs.length (bU 0 bs):=by
 have:=Ir (n:=bs.length) bs 0 [] (fun i x h=>by simp at h) (fun x h=>by simp at h) (by omega);simpa using this
theorem uu (t:Nat)(b:List Sm):(xH t b).length=az b:=by simp[xH]
theorem uw:∀(bs:List (List Sm)) (t:Nat),(bU t bs).length=dP bs
 | [],t=>rfl
 | b :: r,t=>by rw[bU,List.length_append,uu,uw r,dP]
structure GoodC (nth:Nat)(ss:List (Nat×Nat))(t:Nat)(r:Int)(l:List In):Prop where
 r0:2≤r
 r1:r≤5
 pos:0 < l.length
 len:l.length≤481
 op:∀(k:Nat) (i:In),l[k]?=some i→1≤i.op∧i.op≤28
 last:∀(k:Nat) (i:In),l[k]?=some i→(i.op=28 ↔ k+1=l.length)
 obj:∀(k:Nat) (i:In),l[k]?=some i→ObjI nth i
 lands:∀k,k < l.length→landsF l (l.length+1) (k:Int)=true
 site:∀(k:Nat) (i:In),l[k]?=some i→(i.op=28∧i.site= -1)∨(i.op≠28∧∃(q:Nat) (m:Nat),i.site=(q:Int)∧ss[q]?=some (t,m))
 jmp:∀(k:Nat) (i:In),l[k]?=some i→i.op=5→∃k:Nat,i.a=k∧k < l.length
 brn:∀(k:Nat) (i:In),l[k]?=some i→i.op=10→∃k:Nat,i.b=k∧k < l.length
 regs:∀(k:Nat) (i:In),l[k]?=some i→∀x∈regsI i,0≤x∧x < r
theorem uy:∀(l:List Int) (m:Int),m≤gq m l
 | [],m=>by simp[gq]
 |
  x :: r,m=>by
  have:=uy r (max m (x+1))
  simp only[gq,List.foldl_cons] at this⊢
  omega
theorem zf:∀(l:List Int) (m:Int),∀x∈l,x+1≤gq m l
 | [],m,x,hx=>by simp at hx
 |
  y :: r,m,x,hx=>by
  have h1:=uy r (max m (y+1))
  simp only[gq,List.foldl_cons] at h1⊢
  rcases List.mem_cons.1 hx with rfl | hx
  · omega
  · exact zf r _ x hx
theorem Ce:∀(l:List Int) (m:Int),m≤5→(∀x∈l,x≤4)→gq m l≤5
 | [],m,h,_=>by simpa [gq] using h
 |
  y :: r,m,h,hx=>by
  have:=hx y (by simp)
  simp only[gq,List.foldl_cons]
  exact Ce r _ (by omega) (fun x h=>hx x (by simp[h]))
def kV (m:Int)(l:List In):Int:=l.foldl (fun m i=>gq m (regsI i)) m
theorem zg:∀(l:List In) (m:Int),m≤kV m l
 | [],m=>by simp[kV]
 |
  x :: r,m=>by
  have h1:=uy (regsI x) m
  have h2:=zg r (gq m (regsI x))
  simp only[kV,List.foldl_cons] at h2⊢
  omega
theorem Cf:∀(l:List In) (m:Int),∀i∈l,∀x∈regsI i,x+1≤kV m l
 | [],m,i,hi,x,hx=>by simp at hi
 |
  y :: r,m,i,hi,x,hx=>by
  have h2:=zg r (gq m (regsI y))
  simp only[kV,List.foldl_cons] at h2⊢
  rcases List.mem_cons.1 hi with rfl | hi
  · have:=zf (regsI i) m x hx;omega
  · exact Cf r _ i hi x hx
theorem Iu:∀(l:List In) (m:Int),m≤5→(∀i∈l,∀x∈regsI i,x≤4)→kV m l≤5
 | [],m,h,_=>by simpa [kV] using h
 |
  y :: r,m,h,hx=>by
  simp only[kV,List.foldl_cons]
  exact Iu r _ (Ce _ _ h (hx y (by simp))) (fun i h=>hx i (by simp[h]))
theorem Qj {n st t:Nat}{b:List Sm}{ss:List (Nat×Nat)}(hb:SpOkL n b)(hc:az b≤60)(hs:∀k,k < az b→ss[st+k]?=some (t,k)):GoodC n ss t (xG (iY n st b)) (iY n st b):=by
 have hloc:=locL n 0 st b hb;have hl:(iY n st b).length=(genL n 0 st b).length+1:=by unfold iY;rw[List.length_append];rfl
 have hlen:=genL_len n 0 st b
 have hg:∀k i,(iY n st b)[k]?=some i→(k < (genL n 0 st b).length∧LocI n st (st+az b) 0 (genL n 0 st b).length i)∨(k=(genL n 0 st b).length∧i=⟨28,0,0,0,0,-1⟩):=by
  intro k i hk;unfold iY at hk;by_cases hlt:k < (genL n 0 st b).length
  · rw[List.getElem?_append_left hlt] at hk;have:=hloc i (List.mem_of_getElem? hk);rw[Nat.zero_add] at this;exact .inl ⟨hlt,this⟩
  · rw[List.getElem?_append_right (by omega)] at hk;have h1:=(List.getElem?_eq_some_iff.1 hk).1;simp at h1;have h0:k - (genL n 0 st b).length=0:=by omega
    rw[h0] at hk;simp at hk;exact .inr ⟨by omega,hk.symm⟩
 have hmem:∀i∈iY n st b,∀x∈regsI i,0≤x∧x≤4:=by
  intro i hi x hx;obtain⟨k,hk⟩:=List.getElem?_of_mem hi;rcases hg k i hk with ⟨_,h⟩ | ⟨_,rfl⟩
  · exact h.regs x hx
  · simp[regsI] at hx
 refine⟨zg _ 2,Iu _ 2 (by decide) (fun i hi x hx=>(hmem i hi x hx).2),by omega,by omega,?_,?_,?_,fun k hk=>LY n st b k hk,?_,?_,?_,?_⟩
 · intro k i hk;rcases hg k i hk with ⟨_,h⟩ | ⟨_,rfl⟩
   · have:=h.op1;have:=h.op2;omega
   · decide
 · intro k i hk;rcases hg k i hk with ⟨h1,h⟩ | ⟨h1,rfl⟩
   · have:=h.op2;exact⟨fun e=>by omega,fun e=>by omega⟩
   · exact⟨fun _=>by omega,fun _=>rfl⟩
 · intro k i hk;rcases hg k i hk with ⟨_,h⟩ | ⟨_,rfl⟩
   · exact h.obj
   · constructor <;> simp
 · intro k i hk;rcases hg k i hk with ⟨_,h⟩ | ⟨_,rfl⟩
   · have:=h.op2;obtain⟨q,e,h1,h2⟩:=h.site;have:=hs (q - st) (by omega);rw[show st+(q - st)=q by omega] at this;exact .inr ⟨by omega,q,_,e,this⟩
   · exact .inl ⟨rfl,rfl⟩
 · intro k i hk h5;rcases hg k i hk with ⟨_,h⟩ | ⟨_,rfl⟩
   · obtain⟨q,e,h1,h2⟩:=h.jmp h5;exact⟨q,e,by omega⟩
   · cases h5
 · intro k i hk h5;rcases hg k i hk with ⟨_,h⟩ | ⟨_,rfl⟩
   · obtain⟨q,e,h1,h2⟩:=h.brn h5;exact⟨q,e,by omega⟩
   · cases h5
 · intro k i hk x hx;have h1:=hmem i (List.mem_of_getElem? hk) x hx;have h2:x+1≤xG (iY n st b):=Cf _ 2 i (List.mem_of_getElem? hk) x hx;omega
theorem Ci {n:Nat} :∀(bs:List (List Sm)) (t:Nat) (pre:List (Nat×Nat)),(∀b∈bs,SpOkL n b)→dP bs≤60→∀j r l,(codeF n pre.length bs)[j]?=some (r,l)→GoodC n (pre++bU t bs) (t+j) r l
 | [],t,pre,_,_,j,r,l,h=>by simp[codeF] at h
 |
  b :: q,t,pre,hb,hc,0,r,l,h=>by
  simp only[codeF,List.getElem?_cons_zero,Option.some.injEq,Prod.mk.injEq] at h
  obtain⟨rfl,rfl⟩:=h
  simp only[dP] at hc
  refine Qj (hb b (by simp)) (by omega) (fun k hk=>?_)
  rw[List.getElem?_append_right (by omega),show pre.length+k - pre.length=k by omega,bU,List.getElem?_append_left (by rw[uu];exact hk)]
  unfold xH
  rw[List.getElem?_map,List.getElem?_range hk]
  rfl
 |
  b :: q,t,pre,hb,hc,j+1,r,l,h=>by
  simp only[codeF,List.getElem?_cons_succ] at h
  simp only[dP] at hc
  have:=Ci q (t+1) (pre++xH t b) (fun b h=>hb b (by simp[h])) (by omega) j r l (by rw[List.length_append,uu];exact h)
  rw[List.append_assoc] at this
  rw[bU,show t+(j+1)=t+1+j by omega]
  exact this
theorem pM (n:Nat):∀(bs:List (List Sm)) (st:Nat),(codeF n st bs).length=bs.length
 | [],st=>rfl
 | b :: r,st=>by simp[codeF,pM n r]
theorem sU {bs:List (List Sm)}(h:lT bs=0):(bU 0 bs).length≤60∧SiteOk bs.length (bU 0 bs)∧∀t r l,(codeF bs.length 0 bs)[t]?=some (r,l)→GoodC bs.length (bU 0 bs) t r l:=by
 obtain⟨h1,h2⟩:=qP h;refine⟨by rw[uw];exact h1,UQ bs,fun t r l hc=>?_⟩;have:=Ci bs 0 [] h2 h1 t r l hc;simpa using this
def NumI (i:In):Prop:=0≤i.n∧i.n≤18
theorem nC (op a b c st:Int):NumI ⟨op,a,b,c,0,st⟩:=⟨by show (0:Int)≤0;decide,by show (0:Int)≤18;decide⟩
theorem pF (st:Int)(l:Lf)(d:Int):NumI (iZ st l d):=by
 cases l with
 | num n=>have:=n.isLt;exact⟨by show (0:Int)≤(n.val:Int);omega,by show (n.val:Int)≤18;omega⟩
 | var k=>cases k <;> exact nC _ _ _ _ _
theorem mr (st:Int)(e:Ex)(d:Int):∀i∈aC st e d,NumI i:=by
 intro i hi
 cases e with
 | leaf l=>simp only[aC,List.mem_singleton] at hi;subst hi;exact pF _ _ _
 | idx l=>simp only[aC,List.mem_cons,List.not_mem_nil,or_false] at hi;rcases hi with rfl | rfl;exact pF _ _ _;exact⟨by show (0:Int)≤2;decide,by show (2:Int)≤18;decide⟩
 |
  bin k l r=>
  simp only[aC,List.mem_cons,List.not_mem_nil,or_false] at hi;rcases hi with rfl | rfl | rfl
  · exact pF _ _ _
  · exact pF _ _ _
  · have:=vJ k;exact⟨by show 0≤binOp k;omega,by show binOp k≤18;omega⟩
theorem XK (st:Int)(k:Nm):NumI (xE st k):=by cases k <;> exact nC _ _ _ _ _
mutual
theorem numS (n base st:Nat):∀s:Sm,∀i∈genS n base st s,NumI i
 |
  .asg k e,i,hi=>by
  simp only[genS,List.mem_append,List.mem_singleton] at hi
  rcases hi with hi | rfl
  · exact mr _ _ _ i hi
  · exact XK _ _
 |
  .asq x e,i,hi=>by
  simp only[genS,List.mem_cons,List.mem_append,List.mem_singleton,List.not_mem_nil,or_false] at hi
  rcases hi with rfl | hi | rfl
  · exact pF _ _ _
  · exact mr _ _ _ i hi
  · exact⟨by show (0:Int)≤2;decide,by show (2:Int)≤18;decide⟩
 |
  .ite e b [],i,hi=>by
  simp only[genS,List.mem_cons,List.mem_append] at hi
  rcases hi with hi | rfl | hi
  · exact mr _ _ _ i hi
  · exact nC _ _ _ _ _
  · exact numL _ _ _ b i hi
 |
  .ite e b (c :: r),i,hi=>by
  simp only[genS,List.mem_cons,List.mem_append] at hi
  rcases hi with hi | rfl | hi | rfl | hi
  · exact mr _ _ _ i hi
  · exact nC _ _ _ _ _
  · exact numL _ _ _ b i hi
  · exact nC _ _ _ _ _
  · exact numL _ _ _ (c :: r) i hi
 |
  .whl e b,i,hi=>by
  simp only[genS,List.mem_cons,List.mem_append,List.not_mem_nil,or_false] at hi
  rcases hi with hi | rfl | hi | rfl
  · exact mr _ _ _ i hi
  · exact nC _ _ _ _ _
  · exact numL _ _ _ b i hi
  · exact nC _ _ _ _ _
 |
  .blk k b,i,hi=>by
  simp only[genS,List.mem_cons,List.mem_append,List.not_mem_nil,or_false] at hi
  rcases hi with rfl | hi | rfl
  · exact nC _ _ _ _ _
  · exact numL _ _ _ b i hi
  · exact nC _ _ _ _ _
 |
  .tx b,i,hi=>by
  simp only[genS,List.mem_cons,List.mem_append,List.not_mem_nil,or_false] at hi
  rcases hi with rfl | hi | rfl
  · exact nC _ _ _ _ _
  · exact numL _ _ _ b i hi
  · exact nC _ _ _ _ _
 |
  .atm b,i,hi=>by
  simp only[genS,List.mem_cons,List.mem_append,List.not_mem_nil,or_false] at hi
  rcases hi with rfl | hi | rfl
  · exact nC _ _ _ _ _
  · exact numL _ _ _ b i hi
  · exact nC _ _ _ _ _
 | .sig k,i,hi=>by simp only[genS,List.mem_singleton] at hi;subst hi;exact nC _ _ _ _ _
 | .spawn k,i,hi=>by simp only[genS,List.mem_singleton] at hi;subst hi;exact nC _ _ _ _ _
 | .join,i,hi=>by simp only[genS,List.mem_singleton] at hi;subst hi;exact nC _ _ _ _ _
 |
  .set e,i,hi=>by
  simp only[genS,List.mem_append,List.mem_singleton] at hi
  rcases hi with hi | rfl
  · exact mr _ _ _ i hi
  · exact nC _ _ _ _ _
 | .get,i,hi=>by simp only[genS,List.mem_singleton] at hi;subst hi;exact nC _ _ _ _ _
theorem numL (n base st:Nat):∀l:List Sm,∀i∈genL n base st l,NumI i
 | [],i,hi=>by simp[genL] at hi
 |
  s :: r,i,hi=>by
  simp only[genL,List.mem_append] at hi
  rcases hi with hi | hi
  · exact numS _ _ _ s i hi
  · exact numL _ _ _ r i hi
end
theorem UR (n st:Nat)(b:List Sm):∀i∈iY n st b,NumI i:=by
 intro i hi;unfold iY at hi;rcases List.mem_append.1 hi with hi | hi
 · exact numL _ _ _ b i hi
 · simp only[List.mem_singleton] at hi;subst hi;exact nC _ _ _ _ _
theorem Be (n:Nat):∀(bs:List (List Sm)) (st:Nat),∀x∈codeF n st bs,∀i∈x.2,NumI i
 | [],st,x,hx=>by simp[codeF] at hx
 |
  b :: r,st,x,hx=>by
  simp only[codeF,List.mem_cons] at hx
  rcases hx with rfl | hx
  · exact UR n st b
  · exact Be n r _ x hx
theorem zh (n:Nat)(b:List Sm):∀(l:List (List Sm)) (st:Nat),codeF n st (l++ [b])=codeF n st l++ [(xG (iY n (st+dP l) b),iY n (st+dP l) b)]
 | [],st=>by simp[codeF,dP]
 |
  x :: r,st=>by
  rw[List.cons_append,codeF,codeF,zh n b r,List.cons_append,dP,Nat.add_assoc]
theorem L8 (i:In)(l:List In)(m:Int):kV m (l++ [i])=gq (kV m l) (regsI i):=by simp[kV,List.foldl_append]
theorem Iw (x:Int)(l:List Int)(m:Int):gq m (l++ [x])=max (gq m l) (x+1):=by simp[gq,List.foldl_append]
theorem ku (i:In):(regsI i).length≤3:=by
 unfold regsI;repeat' split
 all_goals simp
theorem qQ {α:Type}{l:List α}{k:Nat}{s:α}(h:l[k]?=some s):l.take (k+1)=l.take k++ [s]:=by
 rw[List.take_add_one,h];rfl
theorem Cj (n:Nat):∀(bs:List (List Sm)) (st i:Nat) (l:List Sm),bs[i]?=some l→(codeF n st bs)[i]?=some (xG (iY n (st+dP (bs.take i)) l),iY n (st+dP (bs.take i)) l)
 | [],st,i,l,h=>by simp at h
 |
  b :: r,st,0,l,h=>by
  simp only[List.getElem?_cons_zero,Option.some.injEq] at h
  subst h
  simp[codeF,dP]
 |
  b :: r,st,i+1,l,h=>by
  simp only[List.getElem?_cons_succ] at h
  have:=Cj n r (st+az b) i l h
  simp only[codeF,List.getElem?_cons_succ,List.take_succ_cons,dP,this,Nat.add_assoc]
