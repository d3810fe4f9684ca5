/- Words. -/
import Derived.Test.YtfbkkgfkhhibfaaGreatAdd
set_option linter.unusedVariables false
set_option linter.unusedSimpArgs false
namespace AM
open Go Go.RowKit
def DO.wr (d:DO):List Nat:=d.upd.map (·.1)
section
variable {P : Program} {o : Oper} {e e' : Operand → Option AV} {σ σ' : Sto} {lab : Nat} {d : DO}
theorem IL {t:TypeId}{v:AV}(h:ja P σ t v=some d)(hσ:∀l,l∈d.rd∨l∈d.wr→σ' l=σ l):ja P σ' t v=some d:=by
 unfold ja at h⊢;split at h
 · rename_i g k l off hl
   (try simp only[hl])
   split at h
   · rename_i cs hs
     obtain⟨u,hu,rfl⟩:=map_some h;rw[hσ l (.inl (by simp)),hs];simp[hu]
   · cases h
 · rename_i hl;(try simp only[hl]);exact h
 · rename_i g k r k' i off hl
   (try simp only[hl])
   split at h
   · rename_i ty k2 els hs
     split at h
     · rename_i hk
       injection h with h;subst h;rw[hσ r (.inl (by simp)),hs];simp[hk]
     · cases h
   · cases h
 · rename_i hl;(try simp only[hl]);exact h
 · cases h
theorem EZ {t:TypeId}{a v:AV}(h:fZ P σ t a v=some d)(hσ:∀l,l∈d.rd∨l∈d.wr→σ' l=σ l):fZ P σ' t a v=some d:=by
 unfold fZ at h⊢;split at h
 · rename_i g k l off hl
   (try simp only[hl])
   split at h
   · rename_i cs hs
     split at h
     · rename_i hc
       injection h with h;subst h;rw[hσ l (.inr (by simp[DO.wr])),hs];dsimp only;rw[if_pos hc]
     · cases h
   · cases h
 · rename_i g k r k' i off hl
   (try simp only[hl])
   split at h
   · rename_i ty k2 els ps hs hp
     split at h
     · rename_i hc
       injection h with h;subst h;rw[hσ r (.inr (by simp[DO.wr])),hs,hp];dsimp only;rw[if_pos hc]
     · cases h
   · cases h
 · rename_i hl;(try simp only[hl]);exact h
 · cases h
theorem MB {t:TypeId}{a:AV}{i:Int}(h:nO P σ t a i=some d)(hσ:∀l,l∈d.rd∨l∈d.wr→σ' l=σ l):nO P σ' t a i=some d:=by
 unfold nO at h⊢;split at h
 · rename_i hl;(try simp only[hl]);exact h
 · rename_i el k b r n hel
   (try simp only[hel])
   split at h
   · rename_i ty k' els hs
     split at h
     · rename_i hc
       injection h with h;subst h;rw[hσ r (.inl (by simp)),hs];dsimp only;rw[if_pos hc]
     · cases h
   · cases h
 · rename_i hl;(try simp only[hl]);exact h
 · cases h
theorem CJ {x:Option Operand}{n:Int}(he:∀y,x=some y→e' y=e y):wR e' x n=wR e x n:=by
 unfold wR
 cases x with
 | none=>rfl
 | some y=>simp only[he y rfl]
theorem IM {t:TypeId}{a:AV}{lo hi:Option Operand}(he:∀y,lo=some y∨hi=some y→e' y=e y)(h:kD P e σ lab t a lo hi=some d)(hσ:∀l,l∈d.rd∨l∈d.wr→σ' l=σ l):kD P e' σ' lab t a lo hi=some d:=by
 have h1:∀n,wR e' lo n=wR e lo n:=fun n=>CJ (fun y hy=>he y (.inl hy))
 have h2:∀n,wR e' hi n=wR e hi n:=fun n=>CJ (fun y hy=>he y (.inr hy))
 unfold kD at h⊢;simp only[h1,h2];split at h
 · rename_i hl;(try simp only[hl]);exact h
 · rename_i el k b r n hel
   (try simp only[hel])
   split at h
   · rename_i ty k' els hh hs hr
     split at h
     · rename_i hn
       injection h with h;subst h;rw[hσ r (.inr (by simp[DO.wr])),hs];simp only[hr];rw[if_pos hn]
     · cases h
   · cases h
 · cases h
theorem MC {t:TypeId}{a b:AV}(h:nV P σ lab t a b=some d)(hσ:∀l,l∈d.rd∨l∈d.wr→σ' l=σ l):nV P σ' lab t a b=some d:=by
 unfold nV at h⊢;split at h
 · rename_i el k by' r n hel
   (try simp only[hel])
   split at h
   · rename_i ty k' els ys hs hp
     split at h
     · rename_i hc
       injection h with h;subst h;rw[hσ r (.inr (by simp[DO.wr])),hs];simp only[hp];rw[if_pos hc]
     · cases h
   · cases h
 · rename_i hl;(try simp only[hl]);exact h
 · rename_i el k by' hel hno
   (try simp only[hel])
   exact h
 · cases h
theorem CO:∀(ps:List (Nat×Operand)),(∀p∈ps,e' p.2=e p.2)→evs e' ps=evs e ps
 | [],_=>rfl
 |
  (i,x) :: r,h=>by
  unfold evs
  rw[h (i,x) (by simp),CO r (fun p hp=>h p (by simp[hp]))]
theorem sK {k:Nat} :∀(ps:List (Nat×Operand)) (m:Nat),(∀p∈ps,e' p.2=e p.2)→rowsOf e' k m ps=rowsOf e k m ps
 | [],_,_=>rfl
 |
  (i,x) :: r,m,h=>by
  unfold rowsOf
  rw[h (i,x) (by simp),sK r (m+1) (fun p hp=>h p (by simp[hp]))]
theorem IP {b:Builtin}{args:List Operand}{ats:Array TypeId}(he:∀y∈args,e' y=e y)(h:nH P e σ lab b args ats=some d)(hσ:∀l,l∈d.rd∨l∈d.wr→σ' l=σ l):nH P e' σ' lab b args ats=some d:=by
 unfold nH at h⊢;split at h
 · rename_i x
   simp only[he x (by simp)];exact h
 · rename_i x y
   simp only[he x (by simp),he y (by simp)];exact h
 · rename_i x y
   simp only[he x (by simp),he y (by simp)];split at h
   · rename_i t t' a b hat hx hy
     (try simp only[hat,hx,hy])
     split at h
     · rename_i ht
       rw[if_pos ht];split at h
       · rename_i hf;rw[if_pos hf];exact h
       · rename_i hf;rw[if_neg hf];exact MC h hσ
     · cases h
   · cases h
 · cases h
theorem Qa (he:∀x∈o.op.operands,e' x=e x)(h:dop P o e σ lab=some d)(hσ:∀l,l∈d.rd∨l∈d.wr→σ' l=σ l):dop P o e' σ' lab=some d:=by
 unfold dop at h⊢;split at h
 · rename_i x ho;rw[ho] at he;simp only[he x (by simp[Op.operands])];exact h
 · rename_i x ho;rw[ho] at he;simp only[he x (by simp[Op.operands])];exact h
 · rename_i c a b ho;rw[ho] at he;simp only[he c (by simp[Op.operands]),he a (by simp[Op.operands]),he b (by simp[Op.operands])];exact h
 · exact h
 · rename_i t x ho;rw[ho] at he;simp only[he x (by simp[Op.operands])];exact h
 · rename_i t parts ho
   rw[ho] at he;rw[CO parts.toList (fun p hp=>he p.2 (by simp only[Op.operands];exact List.mem_toArray.2 (List.mem_map.2 ⟨p,hp,rfl⟩)))];exact h
 · rename_i t n parts ho
   rw[ho] at he;have:∀k,rowsOf e' k 0 parts.toList=rowsOf e k 0 parts.toList:=fun k=>sK parts.toList 0 (fun p hp=>he p.2 (by simp only[Op.operands];exact List.mem_toArray.2 (List.mem_map.2 ⟨p,hp,rfl⟩)))
   simp only[this];exact h
 · rename_i t x ho
   rw[ho] at he;rw[he x (by simp[Op.operands])];obtain⟨v,hv,h⟩:=bind_some h;rw[hv];exact IL h hσ
 · rename_i t x y ho
   rw[ho] at he;rw[he x (by simp[Op.operands]),he y (by simp[Op.operands])];split at h
   · rename_i hd
     rw[if_pos hd];obtain⟨a,ha,h⟩:=bind_some h;obtain⟨v,hv,h⟩:=bind_some h;rw[ha,hv];exact EZ h hσ
   · cases h
 · rename_i x ho;rw[ho] at he;simp only[he x (by simp[Op.operands])];exact h
 · rename_i op t x y t' ho;rw[ho] at he;simp only[he x (by simp[Op.operands]),he y (by simp[Op.operands])];exact h
 · rename_i op t x ho;rw[ho] at he;simp only[he x (by simp[Op.operands])];exact h
 · rename_i s t x ho;rw[ho] at he;simp only[he x (by simp[Op.operands])];exact h
 · rename_i t x y ho;rw[ho] at he;simp only[he x (by simp[Op.operands]),he y (by simp[Op.operands])];exact h
 · rename_i t x lo hi ho
   rw[ho] at he;rw[he x (by simp[Op.operands])];obtain⟨a,ha,h⟩:=bind_some h;rw[ha];exact IM (fun y hy=>he y (by rcases hy with rfl | rfl <;> simp[Op.operands])) h hσ
 · rename_i t x k ho;rw[ho] at he;simp only[he x (by simp[Op.operands])];exact h
 · rename_i t x y ho
   rw[ho] at he;simp only[he x (by simp[Op.operands]),he y (by simp[Op.operands])];split at h
   · rename_i a ik i hx hy
     (try simp only[hx,hy])
     exact MB h hσ
   · cases h
 · rename_i t x y ho;rw[ho] at he;simp only[he x (by simp[Op.operands]),he y (by simp[Op.operands])];exact h
 · rename_i x i ho;rw[ho] at he;simp only[he x (by simp[Op.operands])];exact h
 · rename_i c ho
   rw[ho] at he;obtain⟨callee,args,ats⟩:=c;split at h
   · rename_i b hb
     dsimp only at hb h⊢;subst hb;exact IP (fun y hy=>he y (by simp[Op.operands,Call.operands];simpa using hy)) h hσ
   · cases h
 · cases h
structure DOk (d:DO):Prop where
 inh:d.ok→∃v,d.out v
 det:d.det=true→∀v v',d.out v→d.out v'→v=v'
theorem lI {v:AV} :DOk (.val v):=⟨fun _=>⟨v,rfl⟩,fun _ a b h h'=>(show a=v from h).trans (show b=v from h').symm⟩
theorem qf {p:Prop}{v:AV} :DOk (.chk p v):=⟨fun _=>⟨v,rfl⟩,fun _ a b h h'=>(show a=v from h).trans (show b=v from h').symm⟩
theorem kW {p:Prop}{v:AV}{rd:List Nat}{b:Bool}{u:List (Nat×Option Obj)} :DOk ⟨p,fun x=>x=v,rd,b,u⟩:=⟨fun _=>⟨v,rfl⟩,fun _ a b h h'=>(show a=v from h).trans (show b=v from h').symm⟩
theorem CT.inh (c:CT):∃p,c.ok p:=by
 cases c with
 | int k=>exact ⟨.sc (.int k 0),0,by cases k <;> rfl,rfl⟩
 | bool=>exact ⟨boolP true,true,rfl⟩
 | asc b=>exact ⟨.sl [],[],rfl,by simp,by simp⟩
theorem xe {α:Type}{x:Option α}{f:α→AV}(h:x.map (fun a=>DO.val (f a))=some d):DOk d:=by
 obtain⟨a,_,rfl⟩:=map_some h;exact lI
theorem mF {x:Option AV}(h:x.map DO.val=some d):DOk d:=by
 obtain⟨a,_,rfl⟩:=map_some h;exact lI
theorem U8 (cts:List CT):∃ps,TB cts ps:=by
 obtain⟨ps,h1,h2⟩:=abw (Q:=fun j p=>∀ct,cts[j]?=some ct→ct.ok p) cts.length (fun j hj=>by
  obtain⟨p,hp⟩:=cts[j].inh;exact⟨p,fun ct hc=>by rw[List.getElem?_eq_getElem hj] at hc;injection hc with hc;subst hc;exact hp⟩)
 exact⟨ps,h1,fun j ct p hc hp=>h2 j p hp ct hc⟩
theorem Uh (h:dop P o e σ lab=some d):DOk d:=by
 unfold dop at h;split at h
 · exact mF h
 · exact mF h
 · split at h
   · exact mF h
   · cases h
 · obtain⟨v,hv,rfl⟩:=map_some h;exact kW
 · obtain⟨v,hv,h⟩:=bind_some h;split at h
   · injection h with h;subst h;exact kW
   · cases h
 · split at h
   · exact xe h
   · cases h
 · split at h
   · split at h
     · split at h
       · injection h with h;subst h;exact lI
       · cases h
     · split at h
       · exact xe h
       · cases h
   · cases h
 · obtain⟨v,hv,h⟩:=bind_some h;unfold ja at h;split at h
   · split at h
     · obtain⟨u,hu,rfl⟩:=map_some h;exact kW
     · cases h
   · exact mF h
   · split at h
     · split at h
       · injection h with h;subst h
         exact⟨fun ⟨row,v,h1,h2⟩=>⟨v,row,h1,h2⟩,fun _ a b ⟨r1,h1,h2⟩ ⟨r2,h3,h4⟩=>by
          rw[h1] at h3;injection h3 with h3;subst h3;rw[h2] at h4;injection h4⟩
       · cases h
     · cases h
   · split at h
     · obtain⟨ct,hc,rfl⟩:=map_some h;exact⟨fun _=>by obtain⟨p,hp⟩:=ct.inh;exact⟨_,p,hp,rfl⟩,fun h=>by cases h⟩
     · split at h
       · injection h with h;subst h;refine⟨fun _=>?_,fun h=>by cases h⟩;exact (U8 _).elim fun ps h=>⟨_,ps,h,rfl⟩
       · cases h
   · cases h
 · split at h
   · obtain⟨a,ha,h⟩:=bind_some h;obtain⟨v,hv,h⟩:=bind_some h;unfold fZ at h;split at h
     · split at h
       · split at h
         · injection h with h;subst h;exact kW
         · cases h
       · cases h
     · split at h
       · split at h
         · injection h with h;subst h;exact kW
         · cases h
       · cases h
     · split at h
       · split at h
         · injection h with h;subst h;exact kW
         · cases h
       · cases h
     · cases h
   · cases h
 · obtain⟨v,hv,h⟩:=bind_some h;split at h
   · injection h with h;subst h;exact lI
   · cases h
 · split at h
   · split at h
     · injection h with h;subst h;exact qf
     · exact xe h
   · cases h
 · split at h
   · injection h with h;subst h;exact lI
   · injection h with h;subst h;exact lI
   · cases h
 · split at h
   · injection h with h;subst h;exact lI
   · cases h
 · split at h
   · split at h
     · obtain⟨cts,hc,rfl⟩:=map_some h;exact qf
     · cases h
   · cases h
 · obtain⟨a,ha,h⟩:=bind_some h;unfold kD at h;split at h
   · split at h
     · injection h with h;subst h;exact qf
     · cases h
   · split at h
     · split at h
       · injection h with h;subst h;exact kW
       · cases h
     · cases h
   · cases h
 · split at h
   · exact mF h
   · cases h
 · split at h
   · unfold nO at h;split at h
     · injection h with h;subst h
       exact⟨fun ⟨_,row,h1,_⟩=>⟨_,row,h1,rfl⟩,fun _ a b ⟨r1,h1,h2⟩ ⟨r2,h3,h4⟩=>by
        rw[h1] at h3;injection h3 with h3;subst h3;rw[h2,h4]⟩
     · split at h
       · split at h
         · injection h with h;subst h;exact kW
         · cases h
       · cases h
     · split at h
       · injection h with h;subst h;exact kW
       · cases h
     · cases h
   · cases h
 · split at h
   · split at h
     · injection h with h;subst h;exact qf
     · cases h
   · cases h
 · split at h
   · exact mF h
   · cases h
 · split at h
   · unfold nH at h;split at h
     · split at h
       · exact xe h
       · cases h
     · split at h
       · split at h
         · injection h with h;subst h;exact lI
         · cases h
       · cases h
     · split at h
       · split at h
         · split at h
           · unfold Dh at h;split at h
             · injection h with h;subst h;exact qf
             · cases h
           unfold nV at h;split at h
           · split at h
             · split at h
               · injection h with h;subst h;exact kW
               · cases h
             · cases h
           · split at h
             · injection h with h;subst h;exact qf
             · cases h
           · split at h
             · injection h with h;subst h;exact kW
             · cases h
           · cases h
         · cases h
       · cases h
     · cases h
   · cases h
 · cases h
end
mutual
def AV.ren (ρ:Nat→Nat):AV→AV
 | .own r n=> .own (ρ r) n
 | .ptr l o=> .ptr (ρ l) o
 | .rp r k i o=> .rp (ρ r) k i o
 | .agg cs=> .agg (AV.renL ρ cs)
 | .tup cs=> .tup (AV.renL ρ cs)
 | .pv p=> .pv p
 | .fp row o=> .fp row o
 | .tp cts j=> .tp cts j
 | .emp=> .emp
def AV.renL (ρ:Nat→Nat):List AV→List AV
 | []=> []
 | v :: r=>AV.ren ρ v :: AV.renL ρ r
end
mutual
def AV.lb (n:Nat):AV→Bool
 | .own r _=>decide (r < n)
 | .ptr l _=>decide (l < n)
 | .rp r _ _ _=>decide (r < n)
 | .agg cs=>AV.lbL n cs
 | .tup cs=>AV.lbL n cs
 | .pv _=>true
 | .fp _ _=>true
 | .tp _ _=>true
 | .emp=>true
def AV.lbL (n:Nat):List AV→Bool
 | []=>true
 | v :: r=>AV.lb n v && AV.lbL n r
end
theorem qZ (ρ:Nat→Nat):∀(cs:List AV) (j:Nat),(AV.renL ρ cs)[j]?=(cs[j]?).map (AV.ren ρ)
 | [],j=>by simp[AV.renL]
 | v :: r,0=>by simp[AV.renL]
 | v :: r,j+1=>by simp[AV.renL,qZ ρ r j]
theorem fH (ρ:Nat→Nat):∀(cs:List AV),(AV.renL ρ cs).length=cs.length
 | []=>rfl
 | v :: r=>by simp[AV.renL,fH ρ r]
theorem Di {n:Nat} :∀ {cs:List AV} {j:Nat} {v:AV},AV.lbL n cs=true→cs[j]?=some v→v.lb n=true
 | [],j,v,_,h=>by simp at h
 | u :: r,0,v,hb,h=>by simp at h;subst h;simp[AV.lbL] at hb;exact hb.1
 | u :: r,j+1,v,hb,h=>by simp[AV.lbL] at hb;exact Di hb.2 (by simpa using h)
mutual
theorem rep_in {Ψ:Psi}{loc loc':Loc}{ρ:Nat→Nat}{n:Nat}(hl:∀l,l < n→loc' l=loc (ρ l)):∀(v:AV) (x:Value),RepA Ψ loc (v.ren ρ) x→v.lb n=true→RepA Ψ loc' v x
 |
  .own r m,x,h,hb=>by
  unfold AV.ren at h
  cases h with
  | own h1 hn=>exact .own (by rw[hl r (by simpa [AV.lb] using hb)];exact h1) hn
 |
  .ptr l o,x,h,hb=>by
  unfold AV.ren at h
  cases h with
  | ptr h1=>exact .ptr (by rw[hl l (by simpa [AV.lb] using hb)];exact h1)
 |
  .rp r k i o,x,h,hb=>by
  unfold AV.ren at h
  cases h with
  | rp h1=>exact .rp (by rw[hl r (by simpa [AV.lb] using hb)];exact h1)
 |
  .agg cs,x,h,hb=>by
  unfold AV.ren at h
  cases h with
  | agg f hs hx hr=>exact .agg f (by rw[hs,fH]) (fun j hj=>hx j (by rw[fH];exact hj)) (rep_inL hl cs f hr (by simpa [AV.lb] using hb))
 |
  .tup cs,x,h,hb=>by
  unfold AV.ren at h
  cases h with
  | tup f hs hx hr=>exact .tup f (by rw[hs,fH]) (fun j hj=>hx j (by rw[fH];exact hj)) (rep_inL hl cs f hr (by simpa [AV.lb] using hb))
 | .pv p,x,h,hb=>by unfold AV.ren at h;cases h with | pv h=>exact .pv h
 | .fp row o,x,h,hb=>by unfold AV.ren at h;cases h with | fp f h1 h2=>exact .fp f h1 h2
 | .tp cts j,x,h,hb=>by unfold AV.ren at h;cases h with | tp h1 h2 h3 h4=>exact .tp h1 h2 h3 h4
 | .emp,x,h,hb=>by unfold AV.ren at h;cases h with | emp=>exact .emp
theorem rep_inL {Ψ:Psi}{loc loc':Loc}{ρ:Nat→Nat}{n:Nat}(hl:∀l,l < n→loc' l=loc (ρ l)):∀(cs:List AV) (f:Nat→Value),(∀j v,(AV.renL ρ cs)[j]?=some v→RepA Ψ loc v (f j))→AV.lbL n cs=true→∀(j:Nat) v,cs[j]?=some v→RepA Ψ loc' v (f j)
 | [],f,h,hb,j,v,hv=>by simp at hv
 |
  u :: r,f,h,hb,0,v,hv=>by
  simp at hv
  subst hv
  simp only[AV.lbL,Bool.and_eq_true] at hb
  exact rep_in hl u _ (h 0 _ (by simp[AV.renL])) hb.1
 |
  u :: r,f,h,hb,j+1,v,hv=>by
  simp only[AV.lbL,Bool.and_eq_true] at hb
  exact rep_inL hl r (fun j=>f (j+1)) (fun j v hv=>h (j+1) v (by simpa [AV.renL] using hv)) hb.2 j v (by simpa using hv)
end
mutual
theorem rep_out {Ψ:Psi}{loc loc':Loc}{ρ:Nat→Nat}(hl:∀l e,loc' l=some e→loc (ρ l)=some e):∀(v:AV) (x:Value),RepA Ψ loc' v x→RepA Ψ loc (v.ren ρ) x
 | .own r m,x,h=>by unfold AV.ren;cases h with | own h1 hn=>exact .own (hl _ _ h1) hn
 | .ptr l o,x,h=>by unfold AV.ren;cases h with | ptr h1=>exact .ptr (hl _ _ h1)
 | .rp r k i o,x,h=>by unfold AV.ren;cases h with | rp h1=>exact .rp (hl _ _ h1)
 |
  .agg cs,x,h=>by
  unfold AV.ren
  cases h with
  | agg f hs hx hr=>exact .agg f (by rw[hs,fH]) (fun j hj=>hx j (by rw[fH] at hj;exact hj)) (rep_outL hl cs f hr)
 |
  .tup cs,x,h=>by
  unfold AV.ren
  cases h with
  | tup f hs hx hr=>exact .tup f (by rw[hs,fH]) (fun j hj=>hx j (by rw[fH] at hj;exact hj)) (rep_outL hl cs f hr)
 | .pv p,x,h=>by unfold AV.ren;cases h with | pv h=>exact .pv h
 | .fp row o,x,h=>by unfold AV.ren;cases h with | fp f h1 h2=>exact .fp f h1 h2
 | .tp cts j,x,h=>by unfold AV.ren;cases h with | tp h1 h2 h3 h4=>exact .tp h1 h2 h3 h4
 | .emp,x,h=>by unfold AV.ren;cases h with | emp=>exact .emp
theorem rep_outL {Ψ:Psi}{loc loc':Loc}{ρ:Nat→Nat}(hl:∀l e,loc' l=some e→loc (ρ l)=some e):∀(cs:List AV) (f:Nat→Value),(∀j v,cs[j]?=some v→RepA Ψ loc' v (f j))→∀(j:Nat) v,(AV.renL ρ cs)[j]?=some v→RepA Ψ loc v (f j)
 | [],f,h,j,v,hv=>by simp[AV.renL] at hv
 |
  u :: r,f,h,0,v,hv=>by
  simp[AV.renL] at hv
  subst hv
  exact rep_out hl u _ (h 0 _ rfl)
 | u :: r,f,h,j+1,v,hv=>rep_outL hl r (fun j=>f (j+1)) (fun j v hv=>h (j+1) v (by simpa using hv)) j v (by simpa [AV.renL] using hv)
end
def Obj.ren (ρ:Nat→Nat):Obj→Obj
 | .box cs=> .box (AV.renL ρ cs)
 | .row e k els=> .row e k els
def Obj.lb (n:Nat):Obj→Bool
 | .box cs=>AV.lbL n cs
 | .row .. =>true
theorem FZ {Ψ:Psi}{loc loc':Loc}{ρ:Nat→Nat}{n l:Nat}{w:World}(hl:∀l,l < n→loc' l=loc (ρ l))(hln:l < n){o:Obj}(h:Holds Ψ loc w (ρ l) (o.ren ρ))(hb:o.lb n=true):Holds Ψ loc' w l o:=by
 cases o with
 |
  box cs=>
  obtain⟨b,c,arr,ty,h1,h2,h3,h4⟩:=h;refine⟨b,c,arr,ty,by rw[hl l hln];exact h1,h2,by rw[h3,fH],fun j v hv=>?_⟩;obtain⟨x,q1,q2,q3⟩:=h4 j (v.ren ρ) (by rw[qZ,hv];rfl);exact⟨x,q1,q2,rep_in hl v x q3 (Di hb hv)⟩
 |
  row e k els=>
  obtain⟨A,c,h1,h2⟩:=h;exact⟨A,c,by rw[hl l hln];exact h1,h2⟩
theorem OG {Ψ:Psi}{loc loc':Loc}{ρ:Nat→Nat}{l:Nat}{w:World}(hl:∀l e,loc' l=some e→loc (ρ l)=some e){o:Obj}(h:Holds Ψ loc' w l o):Holds Ψ loc w (ρ l) (o.ren ρ):=by
 cases o with
 |
  box cs=>
  obtain⟨b,c,arr,ty,h1,h2,h3,h4⟩:=h;refine⟨b,c,arr,ty,hl _ _ h1,h2,by rw[h3,fH],fun j v hv=>?_⟩;rw[qZ] at hv
  cases hc:cs[j]? with
  | none=>simp [hc] at hv
  |
   some u=>
   simp[hc] at hv;subst hv;obtain⟨x,q1,q2,q3⟩:=h4 j u hc;exact⟨x,q1,q2,rep_out hl u x q3⟩
 |
  row e k els=>
  obtain⟨A,c,h1,h2⟩:=h;exact⟨A,c,hl _ _ h1,h2⟩
def Q7 (Ψ:Psi)(loc:Loc)(args:List AV)(vs:List Value):Prop:=vs.length=args.length∧∀(j:Nat) v,args[j]?=some v→∃x,vs[j]?=some x∧RepA Ψ loc v x
def lQ (os:List (Option Obj)):Sto:=fun l=>(os[l]?).bind id
def ACall (P:Program)(f:FuncId)(args:List AV)(pre:List Obj)(post:AV→List (Option Obj)→Prop):Prop:=
 ∀(fr:Fr) (Ψ:Psi) (loc:Loc) (w:World) (vs:Array Value),Ok fr Ψ loc (lQ (pre.map some)) w→fr.n0=pre.length→(∀l,pre.length≤l→loc l=none)→Q7 Ψ loc args vs.toList→
  Calls P f vs w fun e w'=>∃r v g Ψ' loc',e= .returned r∧post v g∧pre.length≤g.length∧g.length≤pre.length+8∧RepA Ψ' loc' v r∧Ok fr Ψ' loc' (lQ g) w'∧(∀l,g.length≤l→loc' l=none)
abbrev Env:=Nat→Option AV
def ev (env:Env):Operand→Option AV
 | .tmp t=>env t
 | .const v=>ofV v
 | _=>none
def Env.put (env:Env)(dst:Option Nat)(v:AV):Env:=
 match dst with
 | none=>env
 | some d=>fun t=>if t=d then some v else env t
structure RelE (Ψ:Psi)(loc:Loc)(env:Env)(ts:Array Value):Prop where
 rep:∀t v,env t=some v→∃x,ts[t]?=some x∧RepA Ψ loc v x
theorem VO {Ψ:Psi}{loc:Loc}{v:Value}{u:AV}(h:ofV v=some u):RepA Ψ loc u v:=by
 unfold ofV at h;split at h
 · rename_i cs
   split at h
   · rename_i hc
     injection h with h;subst h
     have hx:∀j,∃x,j < cs.size→cs[j]?=some x:=fun j=>by
      by_cases hj:j < cs.size
      · exact⟨cs[j],fun _=>Array.getElem?_eq_getElem hj⟩
      · exact⟨undef,fun h=>absurd h hj⟩
     refine .agg (fun j=>(hx j).choose) (by simp) (fun j hj=>(hx j).choose_spec (by simpa using hj)) (fun j u hu=>?_);rw[List.getElem?_map,Array.getElem?_toList] at hu;obtain⟨y,hq,rfl⟩:=Option.map_eq_some_iff.1 hu;have h1:=(hx j).choose_spec (Array.getElem?_eq_some_iff.1 hq).1;exact Eq.subst (motive:=fun z=>RepA Ψ loc (Ns y) z) (Option.some.inj (hq.symm.trans h1)) (wM ((Array.all_eq_true_iff_forall_mem.1 hc) y (Array.mem_of_getElem? hq)))
   · cases h
 · cases h
 · rename_i h1 h2
   injection h with h;subst h;exact wM (by cases v <;> first | rfl | exact absurd rfl (h1 _) | exact absurd rfl (h2 _))
theorem RelE.ev {Ψ:Psi}{loc:Loc}{env:Env}{a:Act}(h:RelE Ψ loc env a.tmps):∀x v,ev env x=some v→RepA Ψ loc v (a.eval x):=fun x v hx=>by
 cases x with
 |
  tmp t=>
  obtain⟨y,q1,q2⟩:=h.rep t v hx
  simp[Act.eval,q1]
  exact q2
 | const c=>exact VO hx
 | _=>cases hx
theorem RelE.mono {Ψ Ψ':Psi}{loc loc':Loc}{env:Env}{ts:Array Value}(h:RelE Ψ loc env ts)(h1:Ψ.le Ψ')(h2:Loc.le loc loc'):RelE Ψ' loc' env ts:=
 ⟨fun t v e=>by obtain⟨x,q1,q2⟩:=h.rep t v e;exact⟨x,q1,q2.mono h1 h2⟩⟩
theorem RelE.put {Ψ:Psi}{loc:Loc}{env:Env}{a:Act}{dst:Option Nat}{v:AV}{x:Value}(h:RelE Ψ loc env a.tmps)(hv:RepA Ψ loc v x)(hd:∀d,dst=some d→d < a.tmps.size):RelE Ψ loc (env.put dst v) (a.put dst x).tmps:=by
 refine⟨fun t u hu=>?_⟩
 cases dst with
 | none=>exact h.rep t u hu
 |
  some d=>
  simp only[Env.put] at hu;simp only[Act.put];split at hu
  · rename_i ht
    subst ht;injection hu with hu;subst hu;exact⟨x,by rw[Array.getElem?_setIfInBounds,if_pos rfl,if_pos (hd t rfl)],hv⟩
  · rename_i ht
    obtain⟨y,q1,q2⟩:=h.rep t u hu;exact⟨y,by rw[Array.getElem?_setIfInBounds_ne (fun e=>ht e.symm)];exact q1,q2⟩
def own (nx i l:Nat):Bool:=decide (nx+8 * i≤l) && decide (l < nx+8 * i+8)
def rho (ls:List Nat)(lab:Nat):Nat→Nat:=fun l=>if l < ls.length then ls.getD l 0 else lab+(l - ls.length)
structure Key where
 rd:List Nat
 wr:List Nat
 det:Bool
 isC:Bool
 mks:Bool
structure EX where
 ok:Prop
 out:AV→List (Nat×Option Obj)→Prop
 key:Key
def gate (ops:Array Oper)(o:Oper)(env:Env):Option Bool:=
 match o.guard with
 | none=>some true
 |
  some (g,want)=>match (ops[g]?).bind (·.dst) with
  | none=>none
  |
   some d=>match env d with
   | some (.pv (.sc (.bool b)))=>some (b==want)
   | some (.tup [])=>some false
   | _=>none
def renG (ρ:Nat→Nat)(g:List (Option Obj)):List (Nat×Option Obj):=g.zipIdx.map fun p=>(ρ p.2,p.1.map (Obj.ren ρ))
def isGo (P:Program)(f:FuncId):Bool:=
 match P.funcs[f]? with
 | some fn=>fn.name !="runtime.NumGoroutine" && fn.body.isSome
 | none=>false
inductive Sp (P:Program)(ops:Array Oper)(nx i:Nat)(o:Oper)(env:Env)(σ:Sto):EX→Prop
 | skip (hg:gate ops o env=some false):Sp P ops nx i o env σ ⟨True,fun v G=>v= .tup []∧G= [],⟨[],[],true,false,false⟩⟩
 | op {d:DO} (hg:gate ops o env=some true) (h:dop P o (ev env) σ (nx+8 * i)=some d):Sp P ops nx i o env σ ⟨d.ok,fun v G=>d.out v∧G=d.upd,⟨d.rd,d.wr.filter (fun l=>!own nx i l),d.det,false,true⟩⟩
 | call {f:FuncId} {args:Array Operand} {ats:Array TypeId} {as:List AV} {pre:List Obj} {post:AV→List (Option Obj)→Prop} {ls:List Nat} (hg:gate ops o env=some true) (ho:o.op= .call { callee:= .value (.func f),args:=args,argTypes:=ats }) (hgo:isGo P f=true) (hc:ACall P f as pre post)
  (ha:args.toList.map (ev env)=(AV.renL (rho ls (nx+8 * i)) as).map some) (hb:AV.lbL pre.length as=true) (hbo:pre.all (Obj.lb pre.length)=true) (hls:ls.length=pre.length) (hnd:ls.Nodup) (hno:ls.all (fun l=>!own nx i l)=true)
  (hpre:∀k o,pre[k]?=some o→σ (ls.getD k 0)=some (o.ren (rho ls (nx+8 * i)))):
  Sp P ops nx i o env σ ⟨True,fun v G=>∃r g,post r g∧pre.length≤g.length∧g.length≤pre.length+8∧v=r.ren (rho ls (nx+8 * i))∧G=renG (rho ls (nx+8 * i)) g,⟨[],ls,false,true,true⟩⟩
def exec (P:Program)(ops:Array Oper)(nx i:Nat)(o:Oper)(K:Env→Sto→Key→Prop)(env:Env)(σ:Sto):Prop:=
 ∃x,Sp P ops nx i o env σ x∧x.ok∧(∃v G,x.out v G)∧∀v G,x.out v G→K (env.put o.dst v) (σ.upds G) x.key
def QZ (P:Program)(ops:Array Oper)(nx i:Nat)(o:Oper)(K:Env→Sto→Key→Prop)(env:Env)(σ:Sto):Prop:=
 ∃x,Sp P ops nx i o env σ x∧x.ok∧∀v G,x.out v G→K (env.put o.dst v) (σ.upds G) x.key
theorem Zp {P:Program}{ops:Array Oper}{nx i:Nat}{o:Oper}{K:Env→Sto→Key→Prop}{env:Env}{σ:Sto}(h:exec P ops nx i o K env σ):QZ P ops nx i o K env σ:=
 let ⟨x,h1,h2,_,h4⟩:=h;⟨x,h1,h2,h4⟩
theorem jX {P:Program}{ops:Array Oper}{nx i:Nat}{o:Oper}{K K':Env→Sto→Key→Prop}{env:Env}{σ:Sto}(h:exec P ops nx i o K env σ)(hk:∀env σ k,K env σ k→K' env σ k):exec P ops nx i o K' env σ:=
 let ⟨x,h1,h2,h3,h4⟩:=h;⟨x,h1,h2,h3,fun v G hv=>hk _ _ _ (h4 v G hv)⟩
structure Rel (fr:Fr)(Ψ:Psi)(loc:Loc)(nt:Nat)(env:Env)(σ:Sto)(a:Act)(w:World):Prop where
 env:RelE Ψ loc env a.tmps
 ok:Ok fr Ψ loc σ w
 sz:a.tmps.size=nt
 df:a.defers= []
theorem dE (l:Nat):∀(G:List (Nat×Option Obj)) (σ:Sto),l∉G.map (·.1)→σ.upds G l=σ l
 | [],σ,_=>rfl
 |
  (r,o) :: G,σ,h=>by
  simp only[List.map_cons,List.mem_cons,not_or] at h
  rw[Sto.upds,dE l G _ h.2,upd_ne _ _ h.1]
theorem FY (l:Nat)(o:Option Obj):∀(G:List (Nat×Option Obj)) (σ:Sto),(G.map (·.1)).Nodup→(l,o)∈G→σ.upds G l=o
 | [],σ,_,h=>by cases h
 |
  (r,q) :: G,σ,hn,h=>by
  simp only[List.map_cons,List.nodup_cons] at hn
  rcases List.mem_cons.1 h with h | h
  · injection h with h1 h2
    subst h1 h2
    rw[Sto.upds,dE _ G _ hn.1,upd_eq]
  · exact FY l o G _ hn.2 h
theorem Q3 {P:Program}{e:Operand→Option AV}{σ:Sto}{lab:Nat}{t:TypeId}{a:AV}{lo hi:Option Operand}{d:DO}(h:kD P e σ lab t a lo hi=some d):∀l∈d.wr,l=lab∨σ l≠none:=by
 unfold kD at h;split at h
 · split at h
   · injection h with h;subst h;intro l hl;simp[DO.wr,DO.chk] at hl
   · cases h
 · split at h
   · rename_i ty k' els hh hs hr
     split at h
     · injection h with h;subst h;intro l hl;simp[DO.wr] at hl;rcases hl with rfl | rfl
       · exact .inr (by rw[hs];simp)
       · exact .inl rfl
     · cases h
   · cases h
 · cases h
theorem VP {P:Program}{σ:Sto}{lab:Nat}{t:TypeId}{a b:AV}{d:DO}(h:nV P σ lab t a b=some d):∀l∈d.wr,l=lab∨σ l≠none:=by
 unfold nV at h;split at h
 · split at h
   · rename_i ty k' els ys hs hp
     split at h
     · injection h with h;subst h;intro l hl;simp[DO.wr] at hl;rcases hl with rfl | rfl
       · exact .inr (by rw[hs];simp)
       · exact .inl rfl
     · cases h
   · cases h
 · split at h
   · injection h with h;subst h;intro l hl;simp[DO.wr,DO.chk] at hl
   · cases h
 · split at h
   · injection h with h;subst h;intro l hl;simp[DO.wr] at hl;exact .inl hl
   · cases h
 · cases h
theorem OE {P:Program}{σ:Sto}{lab:Nat}{t:TypeId}{a v:AV}{d:DO}(h:fZ P σ t a v=some d):∀l∈d.wr,l=lab∨σ l≠none:=by
 unfold fZ at h;split at h
 · split at h
   · rename_i cs hs
     split at h
     · injection h with h;subst h;intro l hl;simp[DO.wr] at hl;subst hl;exact .inr (by rw[hs];simp)
     · cases h
   · cases h
 · split at h
   · rename_i ty k2 els ps hs hp
     split at h
     · injection h with h;subst h;intro l hl;simp[DO.wr] at hl;subst hl;exact .inr (by rw[hs];simp)
     · cases h
   · cases h
 · split at h
   · split at h
     · injection h with h;subst h;intro l hl;simp[DO.wr] at hl
     · cases h
   · cases h
 · cases h
theorem sZ {v:AV} :∀l∈(DO.val v).wr,False:=fun l hl=>by simp[DO.wr,DO.val] at hl
theorem jy {α:Type}{x:Option α}{f:α→DO}{d:DO}(h:x.map f=some d)(hf:∀a,(f a).upd= []):∀l∈d.wr,False:=fun l hl=>by
 obtain⟨a,_,rfl⟩:=map_some h
 simp[DO.wr,hf] at hl
theorem Q4 {P:Program}{o:Oper}{e:Operand→Option AV}{σ:Sto}{lab:Nat}{d:DO}(h:dop P o e σ lab=some d):∀l∈d.wr,l=lab∨σ l≠none:=by
 unfold dop at h;split at h
 · exact fun l hl=>(jy h (fun _=>rfl) l hl).elim
 · exact fun l hl=>(jy h (fun _=>rfl) l hl).elim
 · split at h
   · exact fun l hl=>(jy h (fun _=>rfl) l hl).elim
   · cases h
 · obtain⟨v,hv,rfl⟩:=map_some h;intro l hl;simp[DO.wr] at hl;exact .inl hl
 · obtain⟨v,hv,h⟩:=bind_some h;split at h
   · injection h with h;subst h;intro l hl;simp[DO.wr] at hl;exact .inl hl
   · cases h
 · split at h
   · exact fun l hl=>(jy h (fun _=>rfl) l hl).elim
   · cases h
 · split at h
   · split at h
     · split at h
       · injection h with h;subst h;exact fun l hl=>(sZ l hl).elim
       · cases h
     · split at h
       · exact fun l hl=>(jy h (fun _=>rfl) l hl).elim
       · cases h
   · cases h
 · obtain⟨v,hv,h⟩:=bind_some h;unfold ja at h;split at h
   · split at h
     · exact fun l hl=>(jy h (fun _=>rfl) l hl).elim
     · cases h
   · exact fun l hl=>(jy h (fun _=>rfl) l hl).elim
   · split at h
     · split at h
       · injection h with h;subst h;intro l hl;simp[DO.wr] at hl
       · cases h
     · cases h
   · split at h
     · exact fun l hl=>(jy h (fun _=>rfl) l hl).elim
     · split at h
       · injection h with h;subst h;intro l hl;simp[DO.wr] at hl
       · cases h
   · cases h
 · split at h
   · obtain⟨a,ha,h⟩:=bind_some h;obtain⟨v,hv,h⟩:=bind_some h;exact OE h
   · cases h
 · obtain⟨v,hv,h⟩:=bind_some h;split at h
   · injection h with h;subst h;exact fun l hl=>(sZ l hl).elim
   · cases h
 · split at h
   · split at h
     · injection h with h;subst h;intro l hl;simp[DO.wr,DO.chk] at hl
     · exact fun l hl=>(jy h (fun _=>rfl) l hl).elim
   · cases h
 · split at h
   · injection h with h;subst h;exact fun l hl=>(sZ l hl).elim
   · injection h with h;subst h;exact fun l hl=>(sZ l hl).elim
   · cases h
 · split at h
   · injection h with h;subst h;exact fun l hl=>(sZ l hl).elim
   · cases h
 · split at h
   · split at h
     · exact fun l hl=>(jy h (fun _=>rfl) l hl).elim
     · cases h
   · cases h
 · obtain⟨a,ha,h⟩:=bind_some h;exact Q3 h
 · split at h
   · exact fun l hl=>(jy h (fun _=>rfl) l hl).elim
   · cases h
 · split at h
   · unfold nO at h;split at h
     · injection h with h;subst h;intro l hl;simp[DO.wr] at hl
     · split at h
       · split at h
         · injection h with h;subst h;intro l hl;simp[DO.wr] at hl
         · cases h
       · cases h
     · split at h
       · injection h with h;subst h;intro l hl;simp[DO.wr] at hl
       · cases h
     · cases h
   · cases h
 · split at h
   · split at h
     · injection h with h;subst h;intro l hl;simp[DO.wr,DO.chk] at hl
     · cases h
   · cases h
 · split at h
   · exact fun l hl=>(jy h (fun _=>rfl) l hl).elim
   · cases h
 · split at h
   · unfold nH at h;split at h
     · split at h
       · exact fun l hl=>(jy h (fun _=>rfl) l hl).elim
       · cases h
     · split at h
       · split at h
         · injection h with h;subst h;exact fun l hl=>(sZ l hl).elim
         · cases h
       · cases h
     · split at h
       · split at h
         · split at h
           · unfold Dh at h;split at h
             · injection h with h;subst h;exact fun l hl=>(by simp[DO.chk,DO.wr] at hl)
             · cases h
           · exact VP h
         · cases h
       · cases h
     · cases h
   · cases h
 · cases h
theorem Q5 {P:Program}{ops:Array Oper}{nx i:Nat}{o:Oper}{env:Env}{σ:Sto}{x:EX}(h:Sp P ops nx i o env σ x){v:AV}{G:List (Nat×Option Obj)}(ho:x.out v G){l:Nat}(hl:l∈G.map (·.1)):x.key.mks=true:=by
 cases h with
 | skip hg=>obtain ⟨_,rfl⟩:=ho;simp at hl
 | op=>rfl
 | call=>rfl
theorem pO {P:Program}{ops:Array Oper}{nx i:Nat}{o:Oper}{env:Env}{σ:Sto}{x:EX}(h:Sp P ops nx i o env σ x){v:AV}{G:List (Nat×Option Obj)}(ho:x.out v G):∀l∈G.map (·.1),own nx i l=true∨(l∈x.key.wr∧(own nx i l=true∨σ l≠none)):=by
 cases h with
 | skip hg=>obtain ⟨_,rfl⟩:=ho;intro l hl;simp at hl
 |
  op hg h=>
  obtain⟨_,rfl⟩:=ho;intro l hl
  cases hown:own nx i l with
  | true=>exact .inl rfl
  |
   false=>
   refine .inr ⟨List.mem_filter.2 ⟨hl,by simp[hown]⟩,?_⟩;rcases Q4 h l hl with rfl | h
   · simp[own] at hown
   · exact .inr h
 |
  call hg ho' hgo hc ha hb hbo hls hnd hno hpre=>
  rename_i f args ats as pre post ls
  obtain⟨r,g,_,h1,h2,_,rfl⟩:=ho;intro l hl;simp only[renG,List.map_map] at hl;obtain⟨p,hp,rfl⟩:=List.mem_map.1 hl;simp only[Function.comp]
  have hlt:p.2 < g.length:=by
   have:=List.snd_lt_of_mem_zipIdx hp;simpa using this
  unfold rho;split
  · rename_i hk
    have hk':p.2 < pre.length:=by omega
    refine .inr ⟨?_,.inr (by rw[hpre p.2 _ (List.getElem?_eq_getElem hk')];simp)⟩;show ls.getD p.2 0∈ls;rw[List.getD_eq_getElem?_getD,List.getElem?_eq_getElem hk];exact List.getElem_mem hk
  · left;simp[own];omega
