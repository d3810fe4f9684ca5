/- Words. -/
import Derived.Test.YtfbkkgfkhhibfaaGreatAdd
set_option linter.unusedVariables false
set_option linter.unusedSimpArgs false
namespace AM
open Go Go.RowKit
def DO.wr (d:DO):List Nat:=d.upd.map (·.1)
section
variable {P : Program} {o : Oper} {e e' : Operand -> Option AV} {σ σ' : Sto} {lab : Nat} {d : DO}
theorem PE {t:TypeId}{v:AV}(h:kJ P σ t v=some d)(hσ:∀l,l∈d.rd\/l∈d.wr->σ' l=σ l):kJ P σ' t v=some d:=by
 unfold kJ at h|-;split at h
 . rename_i g k l off a;(try simp only[a]);split at h;rename_i cs hs;obtain⟨u,q,rfl⟩:=map_some h;rw[hσ l (.inl (by simp)),hs];simp[q]
   cases h
 . rename_i a;(try simp only[a]);exact h
 . rename_i g k r y i off a;(try simp only[a]);split at h
   . rename_i ty B els hs;split at h;rename_i hk;injection h with h;subst h;rw[hσ r (.inl (by simp)),hs];simp[hk]
     cases h
   cases h
 . rename_i a;(try simp only[a]);exact h
 cases h
theorem LX {t:TypeId}{a v:AV}(h:jf P σ t a v=some d)(hσ:∀l,l∈d.rd\/l∈d.wr->σ' l=σ l):jf P σ' t a v=some d:=by
 unfold jf at h|-;split at h
 . rename_i g k l off q;(try simp only[q]);split at h
   . rename_i cs hs;split at h;rename_i hc;injection h with h;subst h;rw[hσ l (.inr (by simp[DO.wr])),hs];dsimp only;rw[if_pos hc]
     cases h
   cases h
 . rename_i g k r y i off q;(try simp only[q]);split at h
   . rename_i ty B els D hs u;split at h;rename_i hc;injection h with h;subst h;rw[hσ r (.inr (by simp[DO.wr])),hs,u];dsimp only;rw[if_pos hc]
     cases h
   cases h
 . rename_i q;(try simp only[q]);exact h
 cases h
theorem TR {t:TypeId}{a:AV}{i:Int}(h:sD P σ t a i=some d)(hσ:∀l,l∈d.rd\/l∈d.wr->σ' l=σ l):sD P σ' t a i=some d:=by
 unfold sD at h|-;split at h
 . rename_i q;(try simp only[q]);exact h
 . rename_i y k b r n u;(try simp only[u]);split at h
   . rename_i ty B els hs;split at h;rename_i hc;injection h with h;subst h;rw[hσ r (.inl (by simp)),hs];dsimp only;rw[if_pos hc]
     cases h
   cases h
 . rename_i q;(try simp only[q]);exact h
 cases h
theorem IQ {x:Option Operand}{n:Int}(he:∀y,x=some y->e' y=e y):CJ e' x n=CJ e x n:=by
 unfold CJ
 cases x with
 |none=>rfl
 |some y=>simp only[he y rfl]
theorem PG {t:TypeId}{a:AV}{lo hi:Option Operand}(he:∀y,lo=some y\/hi=some y->e' y=e y)(h:nI P e σ lab t a lo hi=some d)(hσ:∀l,l∈d.rd\/l∈d.wr->σ' l=σ l):nI P e' σ' lab t a lo hi=some d:=by
 have h1:∀n,CJ e' lo n=CJ e lo n:=λn=>IQ (λy q=>he y (.inl q));have h2:∀n,CJ e' hi n=CJ e hi n:=λn=>IQ (λy q=>he y (.inr q));unfold nI at h|-;simp only[h1,h2];split at h
 . rename_i B;(try simp only[B]);exact h
 . rename_i D k b r n u;(try simp only[u]);split at h
   . rename_i ty E els G hs hr;split at h;rename_i hn;injection h with h;subst h;rw[hσ r (.inr (by simp[DO.wr])),hs];simp only[hr];rw[if_pos hn]
     cases h
   cases h
 cases h
theorem TS {t:TypeId}{a b:AV}(h:sN P σ lab t a b=some d)(hσ:∀l,l∈d.rd\/l∈d.wr->σ' l=σ l):sN P σ' lab t a b=some d:=by
 unfold sN at h|-;split at h
 . (rename_i y k u r n q);(try simp only[q]);split at h
   . rename_i ty E els ys hs B;split at h;rename_i hc;injection h with h;subst h;rw[hσ r (.inr (by simp[DO.wr])),hs];simp only[B];rw[if_pos hc]
     cases h
   cases h
 . rename_i D;(try simp only[D]);exact h
 . (rename_i y k u q hno);(try simp only[q]);exact h
 cases h
theorem IU:∀(a:List (Nat×Operand)),(∀p∈a,e' p.2=e p.2)->evs e' a=evs e a
 | [],_=>rfl
 |
  (i,x)::r,h=>by
  unfold evs
  rw[h (i,x) (by simp),IU r (λp q=>h p (by simp[q]))]
theorem yV {k:Nat} :∀(a:List (Nat×Operand)) (m:Nat),(∀p∈a,e' p.2=e p.2)->rowsOf e' k m a=rowsOf e k m a
 | [],_,_=>rfl
 |
  (i,x)::r,m,h=>by
  unfold rowsOf
  rw[h (i,x) (by simp),yV r (m+1) (λp q=>h p (by simp[q]))]
theorem PH {b:Builtin}{args:List Operand}{ats:Array TypeId}(he:∀y∈args,e' y=e y)(h:rP P e σ lab b args ats=some d)(hσ:∀l,l∈d.rd\/l∈d.wr->σ' l=σ l):rP P e' σ' lab b args ats=some d:=by
 unfold rP at h|-;split at h;rename_i x;simp only[he x (by simp)];exact h;rename_i x y;simp only[he x (by simp),he y (by simp)];exact h
 . rename_i x y;simp only[he x (by simp),he y (by simp)];split at h
   . rename_i t D a b q hx u;(try simp only[q,hx,u]);split at h;rename_i B;rw[if_pos B];split at h;rename_i hf;rw[if_pos hf];exact h;rename_i hf;rw[if_neg hf];exact TS h hσ
     cases h
   cases h
 cases h
theorem Xb (he:∀x∈o.op.operands,e' x=e x)(h:dop P o e σ lab=some d)(hσ:∀l,l∈d.rd\/l∈d.wr->σ' l=σ l):dop P o e' σ' lab=some d:=by
 unfold dop at h|-;split at h;rename_i x ho;rw[ho] at he;simp only[he x (by simp[Op.operands])];exact h;rename_i x ho;rw[ho] at he;simp only[he x (by simp[Op.operands])];exact h;rename_i c a b ho;rw[ho] at he;simp only[he c (by simp[Op.operands]),he a (by simp[Op.operands]),he b (by simp[Op.operands])];exact h;exact h;rename_i t x ho;rw[ho] at he;simp only[he x (by simp[Op.operands])];exact h;rename_i t parts ho;rw[ho] at he;rw[IU parts.toList (λp u=>he p.2 (by simp only[Op.operands];exact List.mem_toArray.2 (iK.2 ⟨p,u,rfl⟩)))];exact h;rename_i t n parts ho;rw[ho] at he;have:∀k,rowsOf e' k 0 parts.toList=rowsOf e k 0 parts.toList:=λk=>yV parts.toList 0 (λp u=>he p.2 (by simp only[Op.operands];exact List.mem_toArray.2 (iK.2 ⟨p,u,rfl⟩)));simp only[this];exact h;rename_i t x ho;rw[ho] at he;rw[he x (by simp[Op.operands])];obtain⟨v,B,h⟩:=bind_some h;rw[B];exact PE h hσ
 . rename_i t x y ho;rw[ho] at he;rw[he x (by simp[Op.operands]),he y (by simp[Op.operands])];split at h;rename_i D;rw[if_pos D];obtain⟨a,ha,h⟩:=bind_some h;obtain⟨v,B,h⟩:=bind_some h;rw[ha,B];exact LX h hσ
   cases h
 rename_i x ho;rw[ho] at he;simp only[he x (by simp[Op.operands])];exact h;rename_i op t x y E ho;rw[ho] at he;simp only[he x (by simp[Op.operands]),he y (by simp[Op.operands])];exact h;rename_i op t x ho;rw[ho] at he;simp only[he x (by simp[Op.operands])];exact h;rename_i s t x ho;rw[ho] at he;simp only[he x (by simp[Op.operands])];exact h;rename_i t x y ho;rw[ho] at he;simp only[he x (by simp[Op.operands]),he y (by simp[Op.operands])];exact h;rename_i t x lo hi ho;rw[ho] at he;rw[he x (by simp[Op.operands])];obtain⟨a,ha,h⟩:=bind_some h;rw[ha];exact PG (λy q=>he y (by rcases q with rfl|rfl<;>simp[Op.operands])) h hσ;rename_i t x k ho;rw[ho] at he;simp only[he x (by simp[Op.operands])];exact h
 . rename_i t x y ho;rw[ho] at he;simp only[he x (by simp[Op.operands]),he y (by simp[Op.operands])];split at h
   . rename_i a G i hx q;(try simp only[hx,q]);exact TR h hσ
   cases h
 rename_i t x y ho;rw[ho] at he;simp only[he x (by simp[Op.operands]),he y (by simp[Op.operands])];exact h;rename_i x i ho;rw[ho] at he;simp only[he x (by simp[Op.operands])];exact h
 . rename_i c ho;rw[ho] at he;obtain⟨callee,args,ats⟩:=c;split at h;rename_i b hb;dsimp only at hb h|-;subst hb;exact PH (λy q=>he y (by simp[Op.operands,Call.operands];simpa using q)) h hσ
   cases h
 cases h
structure DOk (d:DO):Prop where
 inh:d.ok->∃v,d.out v
 det:d.det=true->∀v v',d.out v->d.out v'->v=v'
theorem nz {v:AV} :DOk (.val v):=⟨λ_=>⟨v,rfl⟩,λ_ a b h q=>(show a=v from h).trans (show b=v from q).symm⟩
theorem vK {p:Prop}{v:AV} :DOk (.chk p v):=⟨λ_=>⟨v,rfl⟩,λ_ a b h q=>(show a=v from h).trans (show b=v from q).symm⟩
theorem oD {p:Prop}{v:AV}{rd:List Nat}{b:Bool}{u:List (Nat×Option Obj)} :DOk ⟨p,λx=>x=v,rd,b,u⟩:=⟨λ_=>⟨v,rfl⟩,λ_ a b h q=>(show a=v from h).trans (show b=v from q).symm⟩
theorem CT.inh (c:CT):∃p,c.ok p:=by
 cases c with
 |int k=>exact ⟨.sc (.int k 0),0,by cases k<;>rfl,rfl⟩
 |bool=>exact ⟨boolP true,true,rfl⟩
 |asc b=>exact ⟨.sl [],[],rfl,by simp,by simp⟩
theorem Dk {α:Type}{x:Option α}{f:α->AV}(h:x.map (λa=>DO.val (f a))=some d):DOk d:=by obtain⟨a,_,rfl⟩:=map_some h;exact nz
theorem qG {x:Option AV}(h:x.map DO.val=some d):DOk d:=by obtain⟨a,_,rfl⟩:=map_some h;exact nz
theorem aa7 (cts:List CT):∃a,Zu cts a:=by obtain⟨a,h1,h2⟩:=ahf (Q:=λj p=>∀ct,cts[j]?=some ct->ct.ok p) cts.length (λj u=>by obtain⟨p,q⟩:=cts[j].inh;exact⟨p,λct hc=>by rw[aX u] at hc;injection hc with hc;subst hc;exact q⟩);exact⟨a,h1,λj ct p hc q=>h2 j p q ct hc⟩
theorem aak (h:dop P o e σ lab=some d):DOk d:=by
 unfold dop at h;split at h;exact qG h;exact qG h
 . split at h;exact qG h
   cases h
 obtain⟨v,q,rfl⟩:=map_some h;exact oD
 . obtain⟨v,q,h⟩:=bind_some h;split at h;injection h with h;subst h;exact oD
   cases h
 . split at h;exact Dk h
   cases h
 . split at h
   . split at h
     . split at h;injection h with h;subst h;exact nz
       cases h
     . split at h;exact Dk h
       cases h
   cases h
 . obtain⟨v,q,h⟩:=bind_some h;unfold kJ at h;split at h
   . split at h;obtain⟨u,E,rfl⟩:=map_some h;exact oD
     cases h
   exact qG h
   . split at h
     . split at h;injection h with h;subst h;exact⟨λ⟨row,v,h1,h2⟩=>⟨v,row,h1,h2⟩,λ_ a b ⟨r1,h1,h2⟩ ⟨y,h3,h4⟩=>by rw[h1] at h3;injection h3 with h3;subst h3;rw[h2] at h4;injection h4⟩
       cases h
     cases h
   . split at h;obtain⟨ct,hc,rfl⟩:=map_some h;exact⟨λ_=>by obtain⟨p,B⟩:=ct.inh;exact⟨_,p,B,rfl⟩,λh=>by cases h⟩
     . split at h;injection h with h;subst h;refine⟨λ_=>?_,λh=>by cases h⟩;exact (aa7 _).elim λD h=>⟨_,D,h,rfl⟩
       cases h
   cases h
 . split at h
   . obtain⟨a,ha,h⟩:=bind_some h;obtain⟨v,q,h⟩:=bind_some h;unfold jf at h;split at h
     . split at h
       . split at h;injection h with h;subst h;exact oD
         cases h
       cases h
     . split at h
       . split at h;injection h with h;subst h;exact oD
         cases h
       cases h
     . split at h
       . split at h;injection h with h;subst h;exact oD
         cases h
       cases h
     cases h
   cases h
 . obtain⟨v,q,h⟩:=bind_some h;split at h;injection h with h;subst h;exact nz
   cases h
 . split at h;split at h;injection h with h;subst h;exact vK;exact Dk h
   cases h
 . split at h;injection h with h;subst h;exact nz;injection h with h;subst h;exact nz;injection h with h;subst h;exact nz
   cases h
 . split at h;injection h with h;subst h;exact nz
   cases h
 . split at h
   . split at h;obtain⟨cts,hc,rfl⟩:=map_some h;exact vK
     cases h
   cases h
 . obtain⟨a,ha,h⟩:=bind_some h;unfold nI at h;split at h
   . split at h;injection h with h;subst h;exact vK
     cases h
   . split at h
     . split at h;injection h with h;subst h;exact oD
       cases h
     cases h
   cases h
 . split at h;exact qG h
   cases h
 . split at h
   . unfold sD at h;split at h;injection h with h;subst h;exact⟨λ⟨_,row,h1,_⟩=>⟨_,row,h1,rfl⟩,λ_ a b ⟨r1,h1,h2⟩ ⟨y,h3,h4⟩=>by rw[h1] at h3;injection h3 with h3;subst h3;rw[h2,h4]⟩
     . split at h
       . split at h;injection h with h;subst h;exact oD
         cases h
       cases h
     . split at h;injection h with h;subst h;exact oD
       cases h
     cases h
   cases h
 . split at h
   . split at h;injection h with h;subst h;exact vK
     cases h
   cases h
 . split at h;exact qG h
   cases h
 . split at h
   . unfold rP at h;split at h
     . split at h;exact Dk h
       cases h
     . split at h
       . split at h;injection h with h;subst h;exact nz
         cases h
       cases h
     . split at h
       . split at h
         . split at h
           . unfold Jd at h;split at h;injection h with h;subst h;exact vK
             cases h
           unfold sN at h;split at h
           . split at h
             . split at h;injection h with h;subst h;exact oD
               cases h
             cases h
           . split at h;injection h with h;subst h;exact vK
             cases h
           . split at h;injection h with h;subst h;exact oD
             cases h
           cases h
         cases h
       cases h
     cases h
   cases h
 cases h
end
mutual
def AV.ren (ρ:Nat->Nat):AV->AV
 | .own r n=> .own (ρ r) n
 | .ptr l o=> .ptr (ρ l) o
 | .rp r k i o=> .rp (ρ r) k i o
 | .agg cs=> .agg (AV.renL ρ cs)
 | .tup cs=> .tup (AV.renL ρ cs)
 | .pv p=> .pv p
 | .fp row o=> .fp row o
 | .tp cts j=> .tp cts j
 | .emp=> .emp
def AV.renL (ρ:Nat->Nat):List AV->List AV
 | []=> []
 |v::r=>AV.ren ρ v::AV.renL ρ r
end
mutual
def AV.lb (n:Nat):AV->Bool
 | .own r _=>decide (r<n)
 | .ptr l _=>decide (l<n)
 | .rp r _ _ _=>decide (r<n)
 | .agg cs=>AV.lbL n cs
 | .tup cs=>AV.lbL n cs
 | .pv _=>true
 | .fp _ _=>true
 | .tp _ _=>true
 | .emp=>true
def AV.lbL (n:Nat):List AV->Bool
 | []=>true
 |v::r=>AV.lb n v && AV.lbL n r
end
theorem xY (ρ:Nat->Nat):∀(cs:List AV) (j:Nat),(AV.renL ρ cs)[j]?=(cs[j]?).map (AV.ren ρ)
 | [],j=>by simp[AV.renL]
 |v::r,0=>by simp[AV.renL]
 |v::r,j+1=>by simp[AV.renL,xY ρ r j]
theorem iQ (ρ:Nat->Nat):∀(cs:List AV),(AV.renL ρ cs).length=cs.length
 | []=>rfl
 |v::r=>by simp[AV.renL,iQ ρ r]
theorem Jf {n:Nat} :∀ {cs:List AV}{j:Nat}{v:AV},AV.lbL n cs=true->cs[j]?=some v->v.lb n=true
 | [],j,v,_,h=>by simp at h
 |u::r,0,v,hb,h=>by simp at h;subst h;simp[AV.lbL] at hb;exact hb.1
 |u::r,j+1,v,hb,h=>by simp[AV.lbL] at hb;exact Jf hb.2 (by simpa using h)
mutual
theorem rep_in {Ψ:Psi}{loc a:Loc}{ρ:Nat->Nat}{n:Nat}(d:∀l,l<n->a l=loc (ρ l)):∀(v:AV) (x:Value),RepA Ψ loc (v.ren ρ) x->v.lb n=true->RepA Ψ a v x
 |
  .own r m,x,h,hb=>by
  unfold AV.ren at h
  cases h with
  |own h1 hn=>exact .own (by rw[d r (by simpa [AV.lb] using hb)];exact h1) hn
 |
  .ptr l o,x,h,hb=>by
  unfold AV.ren at h
  cases h with
  |ptr h1=>exact .ptr (by rw[d l (by simpa [AV.lb] using hb)];exact h1)
 |
  .rp r k i o,x,h,hb=>by
  unfold AV.ren at h
  cases h with
  |rp h1=>exact .rp (by rw[d r (by simpa [AV.lb] using hb)];exact h1)
 |
  .agg cs,x,h,hb=>by
  unfold AV.ren at h
  cases h with
  |agg f hs hx hr=>exact .agg f (by rw[hs,iQ]) (λj q=>hx j (by rw[iQ];exact q)) (rep_inL d cs f hr (by simpa [AV.lb] using hb))
 |
  .tup cs,x,h,hb=>by
  unfold AV.ren at h
  cases h with
  |tup f hs hx hr=>exact .tup f (by rw[hs,iQ]) (λj q=>hx j (by rw[iQ];exact q)) (rep_inL d cs f hr (by simpa [AV.lb] using hb))
 | .pv p,x,h,hb=>by unfold AV.ren at h;cases h with|pv h=>exact .pv h
 | .fp row o,x,h,hb=>by unfold AV.ren at h;cases h with|fp f h1 h2=>exact .fp f h1 h2
 | .tp cts j,x,h,hb=>by unfold AV.ren at h;cases h with|tp h1 h2 h3 h4=>exact .tp h1 h2 h3 h4
 | .emp,x,h,hb=>by unfold AV.ren at h;cases h with|emp=>exact .emp
theorem rep_inL {Ψ:Psi}{loc a:Loc}{ρ:Nat->Nat}{n:Nat}(q:∀l,l<n->a l=loc (ρ l)):∀(cs:List AV) (f:Nat->Value),(∀j v,(AV.renL ρ cs)[j]?=some v->RepA Ψ loc v (f j))->AV.lbL n cs=true->∀(j:Nat) v,cs[j]?=some v->RepA Ψ a v (f j)
 | [],f,h,hb,j,v,d=>by simp at d
 |
  u::r,f,h,hb,0,v,d=>by
  simp at d
  subst d
  simp only[AV.lbL,dH] at hb
  exact rep_in q u _ (h 0 _ (by simp[AV.renL])) hb.1
 |
  u::r,f,h,hb,j+1,v,d=>by
  simp only[AV.lbL,dH] at hb
  exact rep_inL q r (λj=>f (j+1)) (λj v d=>h (j+1) v (by simpa [AV.renL] using d)) hb.2 j v (by simpa using d)
end
mutual
theorem rep_out {Ψ:Psi}{loc a:Loc}{ρ:Nat->Nat}(d:∀l e,a l=some e->loc (ρ l)=some e):∀(v:AV) (x:Value),RepA Ψ a v x->RepA Ψ loc (v.ren ρ) x
 | .own r m,x,h=>by unfold AV.ren;cases h with|own h1 hn=>exact .own (d _ _ h1) hn
 | .ptr l o,x,h=>by unfold AV.ren;cases h with|ptr h1=>exact .ptr (d _ _ h1)
 | .rp r k i o,x,h=>by unfold AV.ren;cases h with|rp h1=>exact .rp (d _ _ h1)
 |
  .agg cs,x,h=>by
  unfold AV.ren
  cases h with
  |agg f hs hx hr=>exact .agg f (by rw[hs,iQ]) (λj q=>hx j (by rw[iQ] at q;exact q)) (rep_outL d cs f hr)
 |
  .tup cs,x,h=>by
  unfold AV.ren
  cases h with
  |tup f hs hx hr=>exact .tup f (by rw[hs,iQ]) (λj q=>hx j (by rw[iQ] at q;exact q)) (rep_outL d cs f hr)
 | .pv p,x,h=>by unfold AV.ren;cases h with|pv h=>exact .pv h
 | .fp row o,x,h=>by unfold AV.ren;cases h with|fp f h1 h2=>exact .fp f h1 h2
 | .tp cts j,x,h=>by unfold AV.ren;cases h with|tp h1 h2 h3 h4=>exact .tp h1 h2 h3 h4
 | .emp,x,h=>by unfold AV.ren;cases h with|emp=>exact .emp
theorem rep_outL {Ψ:Psi}{loc a:Loc}{ρ:Nat->Nat}(q:∀l e,a l=some e->loc (ρ l)=some e):∀(cs:List AV) (f:Nat->Value),(∀j v,cs[j]?=some v->RepA Ψ a v (f j))->∀(j:Nat) v,(AV.renL ρ cs)[j]?=some v->RepA Ψ loc v (f j)
 | [],f,h,j,v,d=>by simp[AV.renL] at d
 |
  u::r,f,h,0,v,d=>by
  simp[AV.renL] at d
  subst d
  exact rep_out q u _ (h 0 _ rfl)
 |u::r,f,h,j+1,v,d=>rep_outL q r (λj=>f (j+1)) (λj v d=>h (j+1) v (by simpa using d)) j v (by simpa [AV.renL] using d)
end
def Obj.ren (ρ:Nat->Nat):Obj->Obj
 | .box cs=> .box (AV.renL ρ cs)
 | .row e k els=> .row e k els
def Obj.lb (n:Nat):Obj->Bool
 | .box cs=>AV.lbL n cs
 | .row .. =>true
theorem Nc {Ψ:Psi}{loc a:Loc}{ρ:Nat->Nat}{n l:Nat}{w:World}(q:∀l,l<n->a l=loc (ρ l))(d:l<n){o:Obj}(h:Holds Ψ loc w (ρ l) (o.ren ρ))(hb:o.lb n=true):Holds Ψ a w l o:=by
 cases o with
 |
  box cs=>
  obtain⟨b,c,arr,ty,h1,h2,h3,h4⟩:=h;refine⟨b,c,arr,ty,by rw[q l d];exact h1,h2,by rw[h3,iQ],λj v u=>?_⟩;obtain⟨x,y,B,D⟩:=h4 j (v.ren ρ) (by rw[xY,u];rfl);exact⟨x,y,B,rep_in q v x D (Jf hb u)⟩
 |
  row e k els=>
  obtain⟨A,c,h1,h2⟩:=h;exact⟨A,c,by rw[q l d];exact h1,h2⟩
theorem VC {Ψ:Psi}{loc a:Loc}{ρ:Nat->Nat}{l:Nat}{w:World}(q:∀l e,a l=some e->loc (ρ l)=some e){o:Obj}(h:Holds Ψ a w l o):Holds Ψ loc w (ρ l) (o.ren ρ):=by
 cases o with
 |
  box cs=>
  obtain⟨b,c,arr,ty,h1,h2,h3,h4⟩:=h;refine⟨b,c,arr,ty,q _ _ h1,h2,by rw[h3,iQ],λj v d=>?_⟩;rw[xY] at d
  cases hc:cs[j]? with
  |none=>simp [hc] at d
  |
   some u=>
   simp[hc] at d;subst d;obtain⟨x,y,B,D⟩:=h4 j u hc;exact⟨x,y,B,rep_out q u x D⟩
 |
  row e k els=>
  obtain⟨A,c,h1,h2⟩:=h;exact⟨A,c,q _ _ h1,h2⟩
def Yd (Ψ:Psi)(loc:Loc)(args:List AV)(vs:List Value):Prop:=vs.length=args.length/\∀(j:Nat) v,args[j]?=some v->∃x,vs[j]?=some x/\RepA Ψ loc v x
def pX (os:List (Option Obj)):Sto:=λl=>(os[l]?).bind id
def ACall (P:Program)(f:FuncId)(args:List AV)(pre:List Obj)(post:AV->List (Option Obj)->Prop):Prop:=
 ∀(fr:Fr) (Ψ:Psi) (loc:Loc) (w:World) (vs:Array Value),Ok fr Ψ loc (pX (pre.map some)) w->fr.n0=pre.length->(∀l,pre.length<=l->loc l=none)->Yd Ψ loc args vs.toList->
  Calls P f vs w λe w'=>∃r v g Ψ' loc',e= .returned r/\post v g/\pre.length<=g.length/\g.length<=pre.length+8/\RepA Ψ' loc' v r/\Ok fr Ψ' loc' (pX g) w'/\(∀l,g.length<=l->loc' l=none)
abbrev Env:=Nat->Option AV
def ev (env:Env):Operand->Option AV
 | .tmp t=>env t
 | .const v=>ofV v
 |_=>none
def Env.put (env:Env)(dst:Option Nat)(v:AV):Env:=
 match dst with
 |none=>env
 |some d=>λt=>if t=d then some v else env t
structure RelE (Ψ:Psi)(loc:Loc)(env:Env)(ts:Array Value):Prop where
 rep:∀t v,env t=some v->∃x,ts[t]?=some x/\RepA Ψ loc v x
theorem abO {Ψ:Psi}{loc:Loc}{v:Value}{u:AV}(h:ofV v=some u):RepA Ψ loc u v:=by
 unfold ofV at h;split at h
 . rename_i cs;split at h;rename_i hc;injection h with h;subst h;have hx:∀j,∃x,j<cs.size->cs[j]?=some x:=(λj=>by by_cases a:j<cs.size;exact⟨cs[j],λ_=>AA a⟩;exact⟨undef,λh=>absurd h a⟩);refine .agg (λj=>(hx j).choose) (by simp) (λj a=>(hx j).choose_spec (by simpa using a)) (λj u q=>?_);rw[bM,fQ] at q;obtain⟨y,d,rfl⟩:=mO.1 q;have h1:=(hx j).choose_spec (iW.1 d).1;exact Eq.subst (motive:=λz=>RepA Ψ loc (Uy y) z) (Dv (d.symm.trans h1)) (Cj ((Uz.1 hc) y (Jc d)))
   cases h
 cases h
 rename_i h1 h2;injection h with h;subst h;exact Cj (by cases v<;>first|rfl|exact absurd rfl (h1 _)|exact absurd rfl (h2 _))
theorem RelE.ev {Ψ:Psi}{loc:Loc}{env:Env}{a:Act}(h:RelE Ψ loc env a.tmps):∀x v,ev env x=some v->RepA Ψ loc v (a.eval x):=λx v hx=>by
 cases x with
 |
  tmp t=>
  obtain⟨y,d,q⟩:=h.rep t v hx
  simp[Act.eval,d]
  exact q
 |const c=>exact abO hx
 |_=>cases hx
theorem RelE.mono {Ψ Ψ':Psi}{loc a:Loc}{env:Env}{ts:Array Value}(h:RelE Ψ loc env ts)(h1:Ψ.le Ψ')(h2:Loc.le loc a):RelE Ψ' a env ts:=
 ⟨λt v e=>by obtain⟨x,d,q⟩:=h.rep t v e;exact⟨x,d,q.mono h1 h2⟩⟩
theorem RelE.put {Ψ:Psi}{loc:Loc}{env:Env}{a:Act}{dst:Option Nat}{v:AV}{x:Value}(h:RelE Ψ loc env a.tmps)(D:RepA Ψ loc v x)(E:∀d,dst=some d->d<a.tmps.size):RelE Ψ loc (env.put dst v) (a.put dst x).tmps:=by
 refine⟨λt u q=>?_⟩
 cases dst with
 |none=>exact h.rep t u q
 |
  some d=>
  simp only[Env.put] at q;simp only[Act.put];split at q;rename_i B;subst B;injection q with q;subst q;exact⟨x,by rw[Qq,if_pos rfl,if_pos (E t rfl)],D⟩;rename_i B;obtain⟨y,G,H⟩:=h.rep t u q;exact⟨y,by rw[Qr (λe=>B e.symm)];exact G,H⟩
def own (nx i l:Nat):Bool:=decide (nx+8*i<=l) && decide (l<nx+8*i+8)
def rho (ls:List Nat)(lab:Nat):Nat->Nat:=λl=>if l<ls.length then ls.getD l 0 else lab+(l-ls.length)
structure Key where
 rd:List Nat
 wr:List Nat
 det:Bool
 isC:Bool
 mks:Bool
structure EX where
 ok:Prop
 out:AV->List (Nat×Option Obj)->Prop
 key:Key
def gate (ops:Array Oper)(o:Oper)(env:Env):Option Bool:=
 match o.guard with
 |none=>some true
 |
  some (g,want)=>match (ops[g]?).bind (·.dst) with
  |none=>none
  |
   some d=>match env d with
   |some (.pv (.sc (.bool b)))=>some (b==want)
   |some (.tup [])=>some false
   |_=>none
def renG (ρ:Nat->Nat)(g:List (Option Obj)):List (Nat×Option Obj):=g.zipIdx.map λp=>(ρ p.2,p.1.map (Obj.ren ρ))
def isGo (P:Program)(f:FuncId):Bool:=
 match P.funcs[f]? with
 |some fn=>fn.name !="runtime.NumGoroutine" && fn.body.isSome
 |none=>false
inductive Sp (P:Program)(ops:Array Oper)(nx i:Nat)(o:Oper)(env:Env)(σ:Sto):EX->Prop
 |skip (hg:gate ops o env=some false):Sp P ops nx i o env σ ⟨True,λv G=>v= .tup []/\G=[],⟨[],[],true,false,false⟩⟩
 |op {d:DO} (hg:gate ops o env=some true) (h:dop P o (ev env) σ (nx+8*i)=some d):Sp P ops nx i o env σ ⟨d.ok,λv G=>d.out v/\G=d.upd,⟨d.rd,d.wr.filter (λl=>!own nx i l),d.det,false,true⟩⟩
 |call {f:FuncId} {args:Array Operand} {ats:Array TypeId} {asl:List AV} {pre:List Obj} {post:AV->List (Option Obj)->Prop} {ls:List Nat} (hg:gate ops o env=some true) (ho:o.op= .call { callee:= .value (.func f),args:=args,argTypes:=ats }) (hgo:isGo P f=true) (hc:ACall P f asl pre post)
  (ha:args.toList.map (ev env)=(AV.renL (rho ls (nx+8*i)) asl).map some) (hb:AV.lbL pre.length asl=true) (hbo:pre.all (Obj.lb pre.length)=true) (hls:ls.length=pre.length) (hnd:ls.Nodup) (hno:ls.all (λl=>!own nx i l)=true)
  (hpre:∀k o,pre[k]?=some o->σ (ls.getD k 0)=some (o.ren (rho ls (nx+8*i)))):
  Sp P ops nx i o env σ ⟨True,λv G=>∃r g,post r g/\pre.length<=g.length/\g.length<=pre.length+8/\v=r.ren (rho ls (nx+8*i))/\G=renG (rho ls (nx+8*i)) g,⟨[],ls,false,true,true⟩⟩
def exec (P:Program)(ops:Array Oper)(nx i:Nat)(o:Oper)(K:Env->Sto->Key->Prop)(env:Env)(σ:Sto):Prop:=
 ∃x,Sp P ops nx i o env σ x/\x.ok/\(∃v G,x.out v G)/\∀v G,x.out v G->K (env.put o.dst v) (σ.upds G) x.key
def X8 (P:Program)(ops:Array Oper)(nx i:Nat)(o:Oper)(K:Env->Sto->Key->Prop)(env:Env)(σ:Sto):Prop:=
 ∃x,Sp P ops nx i o env σ x/\x.ok/\∀v G,x.out v G->K (env.put o.dst v) (σ.upds G) x.key
theorem aeR {P:Program}{ops:Array Oper}{nx i:Nat}{o:Oper}{K:Env->Sto->Key->Prop}{env:Env}{σ:Sto}(h:exec P ops nx i o K env σ):X8 P ops nx i o K env σ:=
 let ⟨x,h1,h2,_,h4⟩:=h;⟨x,h1,h2,h4⟩
theorem nC {P:Program}{ops:Array Oper}{nx i:Nat}{o:Oper}{K a:Env->Sto->Key->Prop}{env:Env}{σ:Sto}(h:exec P ops nx i o K env σ)(hk:∀env σ k,K env σ k->a env σ k):exec P ops nx i o a env σ:=
 let ⟨x,h1,h2,h3,h4⟩:=h;⟨x,h1,h2,h3,λv G d=>hk _ _ _ (h4 v G d)⟩
structure Rel (fr:Fr)(Ψ:Psi)(loc:Loc)(nt:Nat)(env:Env)(σ:Sto)(a:Act)(w:World):Prop where
 env:RelE Ψ loc env a.tmps
 ok:Ok fr Ψ loc σ w
 sz:a.tmps.size=nt
 df:a.defers=[]
theorem fE (l:Nat):∀(G:List (Nat×Option Obj)) (σ:Sto),l∉G.map (·.1)->σ.upds G l=σ l
 | [],σ,_=>rfl
 |
  (r,o)::G,σ,h=>by
  simp only[kD,fV,not_or] at h
  rw[Sto.upds,fE l G _ h.2,upd_ne _ _ h.1]
theorem Nb (l:Nat)(o:Option Obj):∀(G:List (Nat×Option Obj)) (σ:Sto),(G.map (·.1)).Nodup->(l,o)∈G->σ.upds G l=o
 | [],σ,_,h=>by cases h
 |
  (r,q)::G,σ,hn,h=>by
  simp only[kD,vY] at hn
  rcases fV.1 h with h|h
  . injection h with h1 h2
    subst h1 h2
    rw[Sto.upds,fE _ G _ hn.1,upd_eq]
  . exact Nb l o G _ hn.2 h
theorem X9 {P:Program}{e:Operand->Option AV}{σ:Sto}{q:Nat}{t:TypeId}{a:AV}{lo hi:Option Operand}{d:DO}(h:nI P e σ q t a lo hi=some d):∀l∈d.wr,l=q\/σ l≠none:=by
 unfold nI at h;split at h
 . split at h;injection h with h;subst h;intro l u;simp[DO.wr,DO.chk] at u
   cases h
 . split at h
   . rename_i ty y els B hs hr;split at h;injection h with h;subst h;intro l u;simp[DO.wr] at u;rcases u with rfl|rfl;exact .inr (by rw[hs];simp);exact .inl rfl
     cases h
   cases h
 cases h
theorem abP {P:Program}{σ:Sto}{u:Nat}{t:TypeId}{a b:AV}{d:DO}(h:sN P σ u t a b=some d):∀l∈d.wr,l=u\/σ l≠none:=by
 unfold sN at h;split at h
 . split at h
   . rename_i ty y els ys hs B;split at h;injection h with h;subst h;intro l q;simp[DO.wr] at q;rcases q with rfl|rfl;exact .inr (by rw[hs];simp);exact .inl rfl
     cases h
   cases h
 . split at h;injection h with h;subst h;intro l q;simp[DO.wr,DO.chk] at q
   cases h
 . split at h;injection h with h;subst h;intro l q;simp[DO.wr] at q;exact .inl q
   cases h
 cases h
theorem VA {P:Program}{σ:Sto}{u:Nat}{t:TypeId}{a v:AV}{d:DO}(h:jf P σ t a v=some d):∀l∈d.wr,l=u\/σ l≠none:=by
 unfold jf at h;split at h
 . split at h
   . rename_i cs hs;split at h;injection h with h;subst h;intro l q;simp[DO.wr] at q;subst q;exact .inr (by rw[hs];simp)
     cases h
   cases h
 . split at h
   . rename_i ty y els B hs D;split at h;injection h with h;subst h;intro l q;simp[DO.wr] at q;subst q;exact .inr (by rw[hs];simp)
     cases h
   cases h
 . split at h
   . split at h;injection h with h;subst h;intro l q;simp[DO.wr] at q
     cases h
   cases h
 cases h
theorem wV {v:AV} :∀l∈(DO.val v).wr,False:=λl a=>by simp[DO.wr,DO.val] at a
theorem lq {α:Type}{x:Option α}{f:α->DO}{d:DO}(h:x.map f=some d)(hf:∀a,(f a).upd=[]):∀l∈d.wr,False:=λl q=>by
 obtain⟨a,_,rfl⟩:=map_some h
 simp[DO.wr,hf] at q
theorem Ya {P:Program}{o:Oper}{e:Operand->Option AV}{σ:Sto}{u:Nat}{d:DO}(h:dop P o e σ u=some d):∀l∈d.wr,l=u\/σ l≠none:=by
 unfold dop at h;split at h;exactλl q=>(lq h (λ_=>rfl) l q).elim;exactλl q=>(lq h (λ_=>rfl) l q).elim
 . split at h;exactλl q=>(lq h (λ_=>rfl) l q).elim
   cases h
 obtain⟨v,y,rfl⟩:=map_some h;intro l q;simp[DO.wr] at q;exact .inl q
 . obtain⟨v,y,h⟩:=bind_some h;split at h;injection h with h;subst h;intro l q;simp[DO.wr] at q;exact .inl q
   cases h
 . split at h;exactλl q=>(lq h (λ_=>rfl) l q).elim
   cases h
 . split at h
   . split at h
     . split at h;injection h with h;subst h;exactλl q=>(wV l q).elim
       cases h
     . split at h;exactλl q=>(lq h (λ_=>rfl) l q).elim
       cases h
   cases h
 . obtain⟨v,y,h⟩:=bind_some h;unfold kJ at h;split at h
   . split at h;exactλl q=>(lq h (λ_=>rfl) l q).elim
     cases h
   exactλl q=>(lq h (λ_=>rfl) l q).elim
   . split at h
     . split at h;injection h with h;subst h;intro l q;simp[DO.wr] at q
       cases h
     cases h
   . split at h;exactλl q=>(lq h (λ_=>rfl) l q).elim
     . split at h;injection h with h;subst h;intro l q;simp[DO.wr] at q
       cases h
   cases h
 . split at h;obtain⟨a,ha,h⟩:=bind_some h;obtain⟨v,y,h⟩:=bind_some h;exact VA h
   cases h
 . obtain⟨v,y,h⟩:=bind_some h;split at h;injection h with h;subst h;exactλl q=>(wV l q).elim
   cases h
 . split at h;split at h;injection h with h;subst h;intro l q;simp[DO.wr,DO.chk] at q;exactλl q=>(lq h (λ_=>rfl) l q).elim
   cases h
 . split at h;injection h with h;subst h;exactλl q=>(wV l q).elim;injection h with h;subst h;exactλl q=>(wV l q).elim;injection h with h;subst h;exactλl q=>(wV l q).elim
   cases h
 . split at h;injection h with h;subst h;exactλl q=>(wV l q).elim
   cases h
 . split at h
   . split at h;exactλl q=>(lq h (λ_=>rfl) l q).elim
     cases h
   cases h
 obtain⟨a,ha,h⟩:=bind_some h;exact X9 h
 . split at h;exactλl q=>(lq h (λ_=>rfl) l q).elim
   cases h
 . split at h
   . unfold sD at h;split at h;injection h with h;subst h;intro l q;simp[DO.wr] at q
     . split at h
       . split at h;injection h with h;subst h;intro l q;simp[DO.wr] at q
         cases h
       cases h
     . split at h;injection h with h;subst h;intro l q;simp[DO.wr] at q
       cases h
     cases h
   cases h
 . split at h
   . split at h;injection h with h;subst h;intro l q;simp[DO.wr,DO.chk] at q
     cases h
   cases h
 . split at h;exactλl q=>(lq h (λ_=>rfl) l q).elim
   cases h
 . split at h
   . unfold rP at h;split at h
     . split at h;exactλl q=>(lq h (λ_=>rfl) l q).elim
       cases h
     . split at h
       . split at h;injection h with h;subst h;exactλl q=>(wV l q).elim
         cases h
       cases h
     . split at h
       . split at h
         . split at h
           . unfold Jd at h;split at h;injection h with h;subst h;exactλl q=>(by simp[DO.chk,DO.wr] at q)
             cases h
           exact abP h
         cases h
       cases h
     cases h
   cases h
 cases h
theorem Yb {P:Program}{ops:Array Oper}{nx i:Nat}{o:Oper}{env:Env}{σ:Sto}{x:EX}(h:Sp P ops nx i o env σ x){v:AV}{G:List (Nat×Option Obj)}(ho:x.out v G){l:Nat}(a:l∈G.map (·.1)):x.key.mks=true:=by
 cases h with
 |skip hg=>obtain ⟨_,rfl⟩:=ho;simp at a
 |op=>rfl
 |call=>rfl
theorem uZ {P:Program}{ops:Array Oper}{nx i:Nat}{o:Oper}{env:Env}{σ:Sto}{x:EX}(h:Sp P ops nx i o env σ x){v:AV}{G:List (Nat×Option Obj)}(ho:x.out v G):∀l∈G.map (·.1),own nx i l=true\/(l∈x.key.wr/\(own nx i l=true\/σ l≠none)):=by
 cases h with
 |skip hg=>obtain ⟨_,rfl⟩:=ho;intro l a;simp at a
 |
  op hg h=>
  obtain⟨_,rfl⟩:=ho;intro l a
  cases hown:own nx i l with
  |true=>exact .inl rfl
  |
   false=>
   refine .inr ⟨Je.2 ⟨a,by simp[hown]⟩,?_⟩;rcases Ya h l a with rfl|h;simp[own] at hown;exact .inr h
 |
  call hg ho' hgo hc ha hb hbo hls hnd hno hpre=>
  rename_i f args ats asl pre post ls;obtain⟨r,g,_,h1,h2,_,rfl⟩:=ho;intro l a;simp only[renG,wW] at a;obtain⟨p,q,rfl⟩:=iK.1 a;simp only[Function.comp];have u:p.2<g.length:=(by have:=Yc q;simpa using this);unfold rho;split;rename_i hk;have d:p.2<pre.length:=(by omega);refine .inr ⟨?_,.inr (by rw[hpre p.2 _ (aX d)];simp)⟩;show ls.getD p.2 0∈ls;rw[qi,aX hk];exact eu hk;left;simp[own];omega
