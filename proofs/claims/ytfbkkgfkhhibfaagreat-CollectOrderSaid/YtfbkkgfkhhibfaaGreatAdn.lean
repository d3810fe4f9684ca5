/- Words. -/
import Derived.Test.YtfbkkgfkhhibfaaGreatAdf
set_option linter.unusedVariables false
set_option linter.unusedSimpArgs false
namespace AM
open Go Go.RowKit
inductive AX where
 | normal
 | exit (id:Nat)
 | ret
abbrev Ew:=AX→Env→Sto→Nat→Prop
def aa4 (fr:Fr)(nt:Nat)(K:Ew)(x:AX)(a:Act)(w:World):Prop:=
 ∃env σ nx Ψ loc,Rel fr Ψ loc nt env σ a w∧(∀l,nx≤l→loc l=none∧σ l=none)∧K x env σ nx
def akt (fr:Fr)(nt:Nat)(K:Ew):Exit→Act→World→Prop
 | .normal=>aa4 fr nt K .normal
 | .exit id=>aa4 fr nt K (.exit id)
 | .ret=>aa4 fr nt K .ret
 | _=>fun _ _=>False
def jB (ls:List Nat):Nat→Nat:=fun l=>ls.getD l 0
def iF:List (Nat×AV)→Env
 | []=>fun _=>none
 | (t,v) :: r=>(iF r).put (some t) v
def nT (σ:Sto)(fl:List (Nat×Option (List CT)))(r:Nat):Option PV:=
 match fl.find? (fun p=>p.1==r),σ r with
 | some (_,none),some (.row _ _ els)=>some (.sl els)
 | some (_,some cts),some (.row _ _ els)=>some (.tr cts els.length)
 | _,_=>none
def nM (p:PV)(n:Nat):Prop:=
 match p with
 | .sl els=>els.length=n
 | .tr _ m=>m=n
 | _=>False
mutual
def wk (F:Nat→Option PV):AV→AV→Prop
 | .emp,.pv p=>p= .sl []∨∃cts,p= .tr cts 0
 | .own r n,.pv p=>F r=some p∧nM p n
 | .agg cs,.agg ds=>wkL F cs ds
 | .tup cs,.tup ds=>wkL F cs ds
 | v,u=>v=u
def wkL (F:Nat→Option PV):List AV→List AV→Prop
 | [],[]=>True
 | v :: r,u :: s=>wk F v u∧wkL F r s
 | _,_=>False
end
def PT (F:Nat→Option PV):Obj→Obj→Prop
 | .box cs,.box ds=>wkL F cs ds
 | o,o'=>o=o'
def rY (σ:Sto)(p:Nat×Option (List CT)):Prop:=
 match p.2,σ p.1 with
 | none,some (.row ..)=>True
 | some cts,some (.row _ k els)=>cts.length=k∧cts≠ []∧∀row∈els,∀(j:Nat) ct q,cts[j]?=some ct→row[j]?=some q→ct.ok q
 | _,_=>False
def Xm (S:List (Option Obj))(ls:List Nat):Prop:=∀k k' o o',S[k]?=some (some o)→S[k']?=some (some o')→jB ls k=jB ls k'→k=k'
def View (n0:Nat)(env:Env)(σ:Sto)(E:List (Nat×AV))(S:List (Option Obj)):Prop:=
 ∃(ls:List Nat) (fl:List (Nat×Option (List CT))),ls.length=S.length∧Xm S ls∧(∀k,k < n0→jB ls k=k)∧n0≤S.length∧(∀p∈fl,rY σ p)∧(fl.map (·.1)).Nodup∧
  (∀p∈E,p.2.lb S.length=true∧∃v,env p.1=some v∧wk (nT σ fl) v (p.2.ren (jB ls)))∧
  ∀p∈S.zipIdx,∀o,p.1=some o→o.lb S.length=true∧jB ls p.2∉fl.map (·.1)∧∃o',σ (jB ls p.2)=some o'∧PT (nT σ fl) o' (o.ren (jB ls))
theorem BQ {E:List (Nat×AV)}{t:Nat}{v:AV}(h:iF E t=some v):(t,v)∈E:=by
 induction E with
 | nil=>cases h
 |
  cons p r ih=>
  obtain⟨t',v'⟩:=p;simp only[iF,Env.put] at h;split at h
  · rename_i he;injection h with h;subst he h;simp
  · exact List.mem_cons_of_mem _ (ih h)
theorem yO {S:List (Option Obj)}{l:Nat}{o:Obj}(h:lQ S l=some o):S[l]?=some (some o):=by
 unfold lQ at h
 cases hs:S[l]? with
 | none=>simp [hs] at h
 | some q=>simp [hs] at h;rw[h]
section
variable {P : Program} {fr : Fr} {Ψ : Psi} {loc : Loc} {nt n0 : Nat} {env : Env} {σ : Sto} {a : Act} {w : World}
theorem Xn {S:List (Option Obj)}{ls:List Nat}(h:Ok fr Ψ loc σ w)(h1:ls.length=S.length)(h2:Xm S ls)(hn:fr.n0=n0)(h3:∀k,k < n0→jB ls k=k)(h4:n0≤S.length)(h5:∀p∈S.zipIdx,∀o,p.1=some o→o.lb S.length=true∧σ (jB ls p.2)=some (o.ren (jB ls))):
 Ok fr Ψ (fun l=>if l < S.length then loc (jB ls l) else none) (lQ S) w:=by
 have hl:∀l,l < S.length→(fun l=>if l < S.length then loc (jB ls l) else none) l=loc (jB ls l):=fun l hl=>by dsimp only;rw[if_pos hl]
 have hS:∀l o,lQ S l=some o→l < S.length∧o.lb S.length=true∧σ (jB ls l)=some (o.ren (jB ls)):=fun l o ho=>by
  have hq:=yO ho;have:=h5 (some o,l) (by rw[List.mem_zipIdx_iff_getElem?];exact hq) o rfl;exact⟨(List.getElem?_eq_some_iff.1 hq).1,this⟩
 have hb:∀l,l < S.length→blk (fun l=>if l < S.length then loc (jB ls l) else none) l=blk loc (jB ls l):=fun l hl2=>by unfold blk;rw[hl l hl2]
 have hin:=h2;refine⟨h.fz,h.tb,fun l o ho=>?_,fun l l' o o' b ho ho' h1 h2=>?_,fun l o b ho h1=>?_,h.tf,h.pr,h.sz,h.os,h.pz,h.le0,fun l hl2=>?_⟩
 · obtain⟨q1,q2,q3⟩:=hS l o ho;exact FZ (ρ:=jB ls) hl q1 (h.ob _ _ q3) q2
 · obtain⟨q1,_,q3⟩:=hS l o ho;obtain⟨q1',_,q3'⟩:=hS l' o' ho';rw[hb l q1] at h1;rw[hb l' q1'] at h2;exact hin l l' _ _ (yO ho) (yO ho') (h.dj _ _ _ _ b q3 q3' h1 h2)
 · obtain⟨q1,_,q3⟩:=hS l o ho;rw[hb l q1] at h1;exact h.ow _ _ b q3 h1
 · have hlt:l < n0:=by omega
   obtain⟨e,r1,r2⟩:=h.l0 l hl2;refine⟨e,r1,?_⟩;rw[if_pos (by omega),h3 l hlt];exact r2
mutual
theorem wk_rep {F:Nat→Option PV}{Ψ Ψ':Psi}{loc:Loc}(hΨ:Ψ.le Ψ')(hF:∀r p n,F r=some p→nM p n→∀x,RepA Ψ loc (.own r n) x→Rep Ψ' p x):∀(v u:AV) (x:Value),wk F v u→RepA Ψ loc v x→RepA Ψ' loc u x
 |
  .emp,u,x,h,hr=>by
  cases u with
  |
   pv p=>
   simp only[wk] at h
   cases hr with
   |
    emp=>
    rcases h with rfl | ⟨cts,rfl⟩
    · exact .pv (.nil fun _=>rfl)
    · exact .pv .tr0
  | emp=>exact hr.mono hΨ (.refl _)
  | _=>simp only[wk] at h;cases h
 |
  .own r n,u,x,h,hr=>by
  cases u with
  | pv p=>simp only[wk] at h;exact .pv (hF r p n h.1 h.2 x hr)
  | _=>simp only[wk] at h;first | (rw[←h];exact hr.mono hΨ (.refl _)) | cases h
 |
  .agg cs,u,x,h,hr=>by
  cases u with
  |
   agg ds=>
   simp only[wk] at h
   cases hr with
   |
    agg f hs hx hr2=>
    obtain⟨h1,h2⟩:=wk_repL hΨ hF cs ds f h hr2
    exact .agg f (by rw[hs,h1]) (fun j hj=>hx j (by rw[h1];exact hj)) h2
  | _=>simp only[wk] at h;first | (rw[←h];exact hr.mono hΨ (.refl _)) | cases h
 |
  .tup cs,u,x,h,hr=>by
  cases u with
  |
   tup ds=>
   simp only[wk] at h
   cases hr with
   |
    tup f hs hx hr2=>
    obtain⟨h1,h2⟩:=wk_repL hΨ hF cs ds f h hr2
    exact .tup f (by rw[hs,h1]) (fun j hj=>hx j (by rw[h1];exact hj)) h2
  | _=>simp only[wk] at h;first | (rw[←h];exact hr.mono hΨ (.refl _)) | cases h
 | .pv p,u,x,h,hr=>by cases u <;> simp only[wk] at h <;> first | (rw[←h];exact hr.mono hΨ (.refl _)) | cases h
 | .ptr l o,u,x,h,hr=>by cases u <;> simp only[wk] at h <;> first | (rw[←h];exact hr.mono hΨ (.refl _)) | cases h
 | .rp r k i o,u,x,h,hr=>by cases u <;> simp only[wk] at h <;> first | (rw[←h];exact hr.mono hΨ (.refl _)) | cases h
 | .fp row o,u,x,h,hr=>by cases u <;> simp only[wk] at h <;> first | (rw[←h];exact hr.mono hΨ (.refl _)) | cases h
 | .tp cts j,u,x,h,hr=>by cases u <;> simp only[wk] at h <;> first | (rw[←h];exact hr.mono hΨ (.refl _)) | cases h
theorem wk_repL {F:Nat→Option PV}{Ψ Ψ':Psi}{loc:Loc}(hΨ:Ψ.le Ψ')(hF:∀r p n,F r=some p→nM p n→∀x,RepA Ψ loc (.own r n) x→Rep Ψ' p x):∀(cs ds:List AV) (f:Nat→Value),wkL F cs ds→(∀j v,cs[j]?=some v→RepA Ψ loc v (f j))→cs.length=ds.length∧∀(j:Nat) v,ds[j]?=some v→RepA Ψ' loc v (f j)
 | [],[],f,h,hr=>⟨rfl,fun j v hv=>by simp at hv⟩
 | [],u :: s,f,h,hr=>by simp only[wkL] at h
 | v :: r,[],f,h,hr=>by simp only[wkL] at h
 |
  v :: r,u :: s,f,h,hr=>by
  simp only[wkL] at h
  obtain⟨h1,h2⟩:=wk_repL hΨ hF r s (fun j=>f (j+1)) h.2 (fun j v hv=>hr (j+1) v (by simpa using hv))
  refine⟨by simp[h1],fun j u' hu=>?_⟩
  cases j with
  | zero=>simp at hu;subst hu;exact wk_rep hΨ hF v u _ h.1 (hr 0 v rfl)
  | succ j=>exact h2 j u' (by simpa using hu)
end
theorem Ok.give {r:Nat}{p:Nat×Option (List CT)}(h:Ok fr Ψ loc σ w)(hp:p.1=r)(hok:rY σ p):∃Ψ',Ψ.le Ψ'∧Ok fr Ψ' loc (σ.upd r none) w∧∀q n,nT σ [p] r=some q→nM q n→∀x,RepA Ψ loc (.own r n) x→Rep Ψ' q x:=by
 obtain⟨p1,p2⟩:=p;dsimp only at hp;subst hp;unfold rY at hok;dsimp only at hok
 cases hσ:σ p1 with
 | none=>rw [hσ] at hok;cases p2 <;> exact hok.elim
 |
  some o=>
  cases o with
  | box cs=>rw [hσ] at hok;cases p2 <;> exact hok.elim
  |
   row e k els=>
   obtain⟨A,c,h1,h2⟩:=h.ob _ _ hσ;have hd:=h.drop p1;rcases h2 with ⟨rfl,rfl⟩ | ⟨h0,g,cur,rfl,hh,hec,hcm,hcs,hrk,hcr⟩
   · refine⟨Ψ,.refl _,hd,fun q n hq hn x hx=>?_⟩
     cases hx with
     |
      own hl hn'=>
      rw[h1] at hl;injection hl with hl;injection hl with hl1 hl2;subst hl1 hl2;have hn0:n=0:=by omega
      subst hn0
      cases p2 with
      | none=>simp [nT,hσ] at hq;subst hq;exact .nil fun _=>rfl
      | some cts=>simp [nT,hσ] at hq;subst hq;exact .tr0
   · obtain⟨c',rfl⟩:∃c',c=c'+1:=⟨c - 1,by omega⟩;have hb:=oG h1;have hf:=h.free hσ hb
     cases p2 with
     |
      none=>
      have hle:=hf.le_fz cur;refine⟨Ψ.addFz g cur,hle,hd.freeze hf hh,fun q n hq hn x hx=>?_⟩;simp[nT,hσ] at hq;subst hq
      cases hx with
      |
       own hl hn'=>
       rw[h1] at hl;injection hl with hl;injection hl with hl1 hl2;subst hl1 hl2;simp only[nM] at hn
       have hF:∀i' j,∃y,∀p,cellOf els i' j=some p→cur[i' * k+j]?=some y∧Rep Ψ p y:=fun i' j=>by
        cases hc:cellOf els i' j with
        | none=>exact ⟨undef,fun p h=>by cases h⟩
        |
         some p0=>
         obtain⟨y,q1,q2⟩:=hcr i' j p0 hc;exact⟨y,fun p h=>by injection h with h;subst h;exact⟨q1,q2⟩⟩
       refine .sl (k:=k) (fun a b=>(hF a b).choose) hn hn' hrk (fun i' j p hc=>?_) (fun i' j p hc=>((hF i' j).choose_spec p hc).2.mono hle);show (if g=g then cur[0+(i' * k+j)]? else _)=_;rw[if_pos rfl,Nat.zero_add];exact ((hF i' j).choose_spec p hc).1
     |
      some cts=>
      rw[hσ] at hok;obtain⟨hk,hne,hct⟩:=hok;have hk0:0 < k:=by rw[←hk];exact List.length_pos_iff.2 hne
      have hle:=hf.le_tb (cts,els.length * k);have hmul:els.length * k≤cur.size:=by rw[hcs];exact Nat.mul_le_mul_right _ hec
      refine⟨Ψ.addTb g (cts,els.length * k),hle,hd.typed hf hmul hh (fun o ct ho hc=>?_),fun q n hq hn x hx=>?_⟩
      · rw[hk] at hc;have hi:o / k < els.length:=(Nat.div_lt_iff_lt_mul hk0).2 ho;have hrow:=hrk els[o / k] (List.getElem_mem hi);have hj:o % k < els[o / k].length:=by rw[hrow];exact Nat.mod_lt _ hk0
        have hcell:cellOf els (o / k) (o % k)=some els[o / k][o % k]:=by simp[cellOf,List.getElem?_eq_getElem hi,List.getElem?_eq_getElem hj]
        obtain⟨y,q1,q2⟩:=hcr _ _ _ hcell;have hdm:o / k * k+o % k=o:=by rw[Nat.mul_comm];exact Nat.div_add_mod o k
        rw[hdm] at q1;exact⟨_,y,q1,hct _ (List.getElem_mem hi) _ ct _ hc (List.getElem?_eq_getElem hj),q2⟩
      · simp[nT,hσ] at hq;subst hq
        cases hx with
        |
         own hl hn'=>
         rw[h1] at hl;injection hl with hl;injection hl with hl1 hl2;subst hl1 hl2;simp only[nM] at hn;subst hn;exact .tr (m:=els.length * k) (by simp[Psi.addTb]) hne (Nat.zero_mod _) hn' (by rw[hk];omega)
theorem Xo {p:Nat×Option (List CT)}{r:List (Nat×Option (List CT))}{l:Nat}{q:PV}{o:Option Obj}(hne:p.1∉r.map (·.1))(h:nT σ (p :: r) l=some q):(l=p.1∧nT σ [p] p.1=some q)∨(l≠p.1∧nT (σ.upd p.1 none) r l=some q):=by
 by_cases hl:l=p.1
 · subst hl;exact .inl ⟨rfl,by simpa [nT] using h⟩
 · refine .inr ⟨hl,?_⟩;have hb:(p.1==l)=false:=by simpa using fun e=>hl e.symm
   simp only[nT,List.find?_cons,hb] at h;unfold nT;rw[upd_ne _ _ hl];exact h
theorem Ok.gives:∀(fl:List (Nat×Option (List CT))) {Ψ:Psi} {σ:Sto},Ok fr Ψ loc σ w→(fl.map (·.1)).Nodup→(∀p∈fl,rY σ p)→∃Ψ',Ψ.le Ψ'∧Ok fr Ψ' loc (fun l=>if l∈fl.map (·.1) then none else σ l) w∧∀r p n,nT σ fl r=some p→nM p n→∀x,RepA Ψ loc (.own r n) x→Rep Ψ' p x
 | [],Ψ,σ,h,_,_=>⟨Ψ,.refl _,by simpa using h,fun r p n hq=>by simp[nT] at hq⟩
 |
  p :: fl,Ψ,σ,h,hn,hok=>by
  simp only[List.map_cons,List.nodup_cons] at hn
  obtain⟨Ψ1,h1,h2,h3⟩:=h.give rfl (hok p (by simp))
  obtain⟨Ψ2,g1,g2,g3⟩:=Ok.gives fl h2 hn.2 (fun q hq=>by
   have hne:q.1≠p.1:=fun e=>hn.1 (List.mem_map.2 ⟨q,hq,e⟩)
   have:=hok q (by simp[hq])
   unfold rY at this⊢
   rw[upd_ne _ _ hne]
   exact this)
  refine⟨Ψ2,h1.trans g1,?_,fun r q n hq hm x hx=>?_⟩
  · have he:(fun l=>if l∈fl.map (·.1) then none else (σ.upd p.1 none) l)=fun l=>if l∈(p :: fl).map (·.1) then none else σ l:=by
     funext l
     simp only[List.map_cons,List.mem_cons]
     by_cases hl:l=p.1
     · subst hl;simp[upd_eq]
     · rw[upd_ne _ _ hl]
       simp only[hl,false_or]
    rw[←he]
    exact g2
  · rcases Xo (o:=none) hn.1 hq with ⟨rfl,hq'⟩ | ⟨hne,hq'⟩
    · exact (h3 q n hq' hm x hx).mono g1
    · exact g3 r q n hq' hm x (hx.mono h1 (.refl _))
theorem PU {F:Nat→Option PV}{Ψ Ψ':Psi}{l:Nat}(hΨ:Ψ.le Ψ')(hF:∀r p n,F r=some p→nM p n→∀x,RepA Ψ loc (.own r n) x→Rep Ψ' p x){o o':Obj}(hw:PT F o o')(h:Holds Ψ loc w l o):Holds Ψ' loc w l o':=by
 cases o with
 |
  row e k els=>
  have:o'= .row e k els:=by cases o' <;> simp only[PT] at hw <;> first | exact hw.symm | cases hw
  subst this;exact h.same hΨ (.refl _) (fun _ _=>rfl)
 |
  box cs=>
  cases o' with
  | row e k els=>simp only[PT] at hw;cases hw
  |
   box ds=>
   simp only[PT] at hw;obtain⟨b,c,arr,ty,h1,h2,h3,h4⟩:=h
   have hf:∀j:Nat,∃x,∀v,cs[j]?=some v→arr[j]?=some x∧x.oneCell'=true∧RepA Ψ loc v x:=fun j=>by
    cases hc:cs[j]? with
    | none=>exact ⟨undef,fun v h=>by cases h⟩
    |
     some v0=>
     obtain⟨x,q⟩:=h4 j v0 hc;exact⟨x,fun v h=>by injection h with h;subst h;exact q⟩
   obtain⟨k1,k2⟩:=wk_repL hΨ hF cs ds (fun j=>(hf j).choose) hw (fun j v hv=>((hf j).choose_spec v hv).2.2);refine⟨b,c,arr,ty,h1,h2,by rw[h3,k1],fun j v hv=>?_⟩;have hj:j < cs.length:=by rw[k1];exact (List.getElem?_eq_some_iff.1 hv).1
   have:=(hf j).choose_spec _ (List.getElem?_eq_getElem hj);exact⟨_,this.1,this.2.1,k2 j v hv⟩
theorem NU {S:List (Option Obj)}{ls:List Nat}{fl:List (Nat×Option (List CT))}(h:Ok fr Ψ loc σ w)(h1:ls.length=S.length)(h2:Xm S ls)(hn:fr.n0=n0)(h3:∀k,k < n0→jB ls k=k)(h4:n0≤S.length)(hfl:∀p∈fl,rY σ p)(hnd:(fl.map (·.1)).Nodup)
 (h6:∀p∈S.zipIdx,∀o,p.1=some o→o.lb S.length=true∧jB ls p.2∉fl.map (·.1)∧∃o',σ (jB ls p.2)=some o'∧PT (nT σ fl) o' (o.ren (jB ls))):
 ∃Ψ',Ψ.le Ψ'∧Ok fr Ψ' (fun l=>if l < S.length then loc (jB ls l) else none) (lQ S) w∧∀r p n,nT σ fl r=some p→nM p n→∀x,RepA Ψ loc (.own r n) x→Rep Ψ' p x:=by
 obtain⟨Ψ',g1,g2,g3⟩:=h.gives fl hnd hfl;refine⟨Ψ',g1,?_,g3⟩;let τ:Sto:=fun q=>((S.zipIdx.find? (fun p=>p.1.isSome && jB ls p.2==q)).bind (·.1)).map (Obj.ren (jB ls))
 have hτ:∀k o,S[k]?=some (some o)→τ (jB ls k)=some (o.ren (jB ls)):=fun k o hk=>by
  have hlt:k < S.length:=(List.getElem?_eq_some_iff.1 hk).1
  have:S.zipIdx.find? (fun p=>p.1.isSome && jB ls p.2==jB ls k)=some (some o,k):=by
   rw[List.find?_eq_some_iff_append];have hk2:S[k]=some o:=(List.getElem?_eq_some_iff.1 hk).2;refine⟨by simp,S.zipIdx.take k,S.zipIdx.drop (k+1),?_,fun p hp=>?_⟩
   · have hz:S.zipIdx[k]?=some (some o,k):=by simp[hk]
     have hzl:k < S.zipIdx.length:=by simpa using hlt
     rw[List.getElem?_eq_getElem hzl] at hz;injection hz with hz;rw[←hz,←List.drop_eq_getElem_cons hzl,List.take_append_drop]
   · obtain⟨n,hn⟩:=List.mem_iff_getElem?.1 hp;rw[List.getElem?_take] at hn;split at hn
     · rename_i hnk
       simp only[List.getElem?_zipIdx] at hn;obtain⟨q,hq,rfl⟩:=Option.map_eq_some_iff.1 hn;simp only[Nat.zero_add,Bool.not_eq_true',Bool.and_eq_false_iff,beq_eq_false_iff_ne,ne_eq]
       cases q with
       | none=>exact .inl rfl
       |
        some o1=>
        refine .inr fun e=>?_
        have:=h2 n k _ _ hq hk e;omega
     · cases hn
  show ((S.zipIdx.find? (fun p=>p.1.isSome && jB ls p.2==jB ls k)).bind (·.1)).map _=_;rw[this];rfl
 have hτ2:∀q o,τ q=some o→∃k o0,S[k]?=some (some o0)∧q=jB ls k∧o=o0.ren (jB ls):=fun q o hq=>by
  obtain⟨o0,ho0,rfl⟩:=Option.map_eq_some_iff.1 hq;obtain⟨p,hp,hp1⟩:=Option.bind_eq_some_iff.1 ho0;have hmem:=List.mem_of_find?_eq_some hp;have hpr:=List.find?_some hp;obtain⟨po,pk⟩:=p;dsimp only at hp1 hpr;subst hp1;simp only[Option.isSome_some,Bool.true_and,beq_iff_eq] at hpr;exact⟨pk,o0,List.mem_zipIdx_iff_getElem?.1 hmem,hpr.symm,rfl⟩
 have hsrc:∀q o,τ q=some o→∃o',σ q=some o'∧q∉fl.map (·.1)∧PT (nT σ fl) o' o:=fun q o hq=>by
  obtain⟨k,o0,hk,rfl,rfl⟩:=hτ2 q o hq;obtain⟨_,r2,o',r3,r4⟩:=h6 (some o0,k) (List.mem_zipIdx_iff_getElem?.2 hk) o0 rfl;exact⟨o',r3,r2,r4⟩
 have hokτ:Ok fr Ψ' loc τ w:=by
  have hin:∀q o,τ q=some o→∃o',(fun l=>if l∈fl.map (·.1) then none else σ l) q=some o':=fun q o hq=>by
   obtain⟨o',r1,r2,_⟩:=hsrc q o hq;exact⟨o',by dsimp only;rw[if_neg r2];exact r1⟩
  refine⟨g2.fz,g2.tb,fun q o hq=>?_,fun q q' o o' b hq hq'=>?_,fun q o b hq=>?_,g2.tf,g2.pr,g2.sz,g2.os,g2.pz,g2.le0,g2.l0⟩
  · obtain⟨o',r1,_,r3⟩:=hsrc q o hq;exact PU g1 g3 r3 (h.ob q o' r1)
  · obtain⟨_,s1⟩:=hin q o hq;obtain⟨_,s2⟩:=hin q' o' hq';exact g2.dj q q' _ _ b s1 s2
  · obtain⟨_,s1⟩:=hin q o hq;exact g2.ow q _ b s1
 exact Xn hokτ h1 h2 hn h3 h4 (fun p hp o ho=>by
  obtain⟨po,pk⟩:=p;dsimp only at ho;subst ho;exact⟨(h6 _ hp o rfl).1,hτ pk o (List.mem_zipIdx_iff_getElem?.1 hp)⟩)
theorem rX {E:List (Nat×AV)}{S:List (Option Obj)}(hr:Rel fr Ψ loc nt env σ a w)(hn:fr.n0=n0)(h:View n0 env σ E S):∃Ψ' loc',Rel fr Ψ' loc' nt (iF E) (lQ S) a w∧∀l,S.length≤l→loc' l=none∧lQ S l=none:=by
 obtain⟨ls,fl,h1,h2,h3,h4,h5,h6,h7,h8⟩:=h;obtain⟨Ψ',g1,g2,g3⟩:=NU hr.ok h1 h2 hn h3 h4 h5 h6 h8;refine⟨Ψ',_,⟨⟨fun t v hv=>?_⟩,g2,hr.sz,hr.df⟩,fun l hl=>⟨if_neg (by omega),by simp[lQ,List.getElem?_eq_none hl]⟩⟩;obtain⟨q1,u,q2,q3⟩:=h7 _ (BQ hv);obtain⟨x,r1,r2⟩:=hr.env.rep t _ q2;exact⟨x,r1,rep_in (ρ:=jB ls) (fun l hl=>if_pos hl) v x (wk_rep g1 g3 u _ x q3 r2) q1⟩
def jO (P:Program)(dr:Bool)(f:FuncId)(nx i:Nat)(dD:List (Option AV))(σ:Sto)(K:AV→List (Nat×Option Obj)→Key→Prop):Prop:=
 ∃(as:List AV) (pre:List Obj) (post:AV→List (Option Obj)→Prop) (ls:List Nat),isGo P f=true∧ACall P f as pre post∧dD=(AV.renL (rho ls (nx+8 * i)) as).map some∧AV.lbL pre.length as=true∧pre.all (Obj.lb pre.length)=true∧ls.length=pre.length∧ls.Nodup∧ls.all (fun l=>!own nx i l)=true∧
  (∀k o,pre[k]?=some o→σ (ls.getD k 0)=some (o.ren (rho ls (nx+8 * i))))∧(dr=true→∃r g,post r g∧pre.length≤g.length∧g.length≤pre.length+8)∧
  ∀r g,post r g→pre.length≤g.length→g.length≤pre.length+8→K (r.ren (rho ls (nx+8 * i))) (renG (rho ls (nx+8 * i)) g) ⟨[],ls,false,true,true⟩
def aa5 (d:Option DO)(nx i:Nat)(K:AV→List (Nat×Option Obj)→Key→Prop):Prop:=
 match d with
 | none=>False
 | some d=>d.ok∧∀v,d.out v→K v d.upd ⟨d.rd,d.wr.filter (fun l=>!own nx i l),d.det,false,true⟩
def vX (P:Program)(dr:Bool)(nx i:Nat)(o:Oper)(env:Env)(σ:Sto)(K:AV→List (Nat×Option Obj)→Key→Prop):Prop:=
 match o.op with
 | .call { callee:= .value (.func f),args:=args,argTypes:=_ } =>jO P dr f nx i (args.toList.map (ev env)) σ K
 | _=>aa5 (dop P o (ev env) σ (nx+8 * i)) nx i K
def vG (ops:Array Oper)(o:Oper)(env:Env)(X Y:Env→Prop):Prop:=
 match o.guard with
 | none=>X env
 |
  some (g,want)=>match (ops[g]?).bind (·.dst) with
  | none=>False
  |
   some d=>match env d with
   | some (.pv (.sc (.bool b)))=>(b=true→if want=true then X (env.put (some d) (.pv (.sc (.bool true)))) else Y (env.put (some d) (.pv (.sc (.bool true)))))∧(b=false→if want=true then Y (env.put (some d) (.pv (.sc (.bool false)))) else X (env.put (some d) (.pv (.sc (.bool false)))))
   | some (.tup [])=>Y env
   | _=>False
def vL (P:Program)(ops:Array Oper)(nx:Nat)(K:Env→Sto→Nat→Prop):List Oper→Nat→Env→Sto→Prop
 | [],i,env,σ=>K env σ (nx+8 * i)
 | o :: l,i,env,σ=>vG ops o env (fun env=>vX P false nx i o env σ (fun v G _=>vL P ops nx K l (i+1) (env.put o.dst v) (σ.upds G))) (fun env=>vL P ops nx K l (i+1) (env.put o.dst (.tup [])) σ)
def vLD (P:Program)(ops:Array Oper)(nx:Nat)(U:List (Nat×Nat))(K:Env→Sto→Nat→Prop):List (Nat×Key)→List Oper→Nat→Env→Sto→Prop
 | _,[],i,env,σ=>K env σ (nx+8 * i)
 | log,o :: l,i,env,σ=>vG ops o env (fun env=>vX P true nx i o env σ (fun v G k=>(∀e∈log,(e.1,i)∈U→mZ (nx+8 * e.1) e.2 k)∧vLD P ops nx U K (log++ [(i,k)]) l (i+1) (env.put o.dst v) (σ.upds G))) (fun env=>vLD P ops nx U K log l (i+1) (env.put o.dst (.tup [])) σ)
theorem Ib {d:Nat}{v:AV}(h:env d=some v):env.put (some d) v=env:=by
 funext t;simp only[Env.put];split
 · rename_i e;rw[e,h]
 · rfl
theorem Y6 {dr:Bool}{ops:Array Oper}{nx i:Nat}{o:Oper}{K:AV→List (Nat×Option Obj)→Key→Prop}(hg:gate ops o env=some true)(h:vX P dr nx i o env σ K):∃x,Sp P ops nx i o env σ x∧x.ok∧(dr=true→∃v G,x.out v G)∧∀v G,x.out v G→K v G x.key:=by
 unfold vX at h;split at h
 · rename_i f args ats ho
   obtain⟨as,pre,post,ls,h1,h2,h3,h4,h5,h6,h7,h8,h9,h10,h11⟩:=h;refine⟨_,.call hg ho h1 h2 h3 h4 h5 h6 h7 h8 h9,trivial,fun hd=>?_,fun v G hv=>?_⟩
   · obtain⟨r,g,q1,q2,q3⟩:=h10 hd;exact⟨_,_,r,g,q1,q2,q3,rfl,rfl⟩
   · obtain⟨r,g,q1,q2,q3,rfl,rfl⟩:=hv;exact h11 r g q1 q2 q3
 · unfold aa5 at h;split at h
   · exact h.elim
   · rename_i d hd
     refine⟨_,.op hg hd,h.1,fun _=>?_,fun v G hv=>?_⟩
     · obtain⟨v,hv⟩:=(Uh hd).inh h.1;exact⟨v,_,hv,rfl⟩
     · obtain⟨q1,rfl⟩:=hv;exact h.2 v q1
theorem Ic {ops:Array Oper}{o:Oper}{X Y:Env→Prop}(h:vG ops o env X Y):(gate ops o env=some true∧X env)∨(gate ops o env=some false∧Y env):=by
 unfold vG at h;split at h
 · rename_i hg
   exact .inl ⟨by simp[gate,hg],h⟩
 · rename_i g want hg
   split at h
   · exact h.elim
   · rename_i d hd
     split at h
     · rename_i b hb
       have hgate:gate ops o env=some (b==want):=by simp only[gate,hg,hd,hb]
       rw[hgate]
       cases b
       · have h2:=h.2 rfl;rw[Ib hb] at h2
         cases want
         · exact .inl ⟨rfl,by simpa using h2⟩
         · exact .inr ⟨rfl,by simpa using h2⟩
       · have h2:=h.1 rfl;rw[Ib hb] at h2
         cases want
         · exact .inr ⟨rfl,by simpa using h2⟩
         · exact .inl ⟨rfl,by simpa using h2⟩
     · rename_i hb
       exact .inr ⟨by simp only[gate,hg,hd,hb],h⟩
     · exact h.elim
theorem uk {ops:Array Oper}{nx i:Nat}{U:List (Nat×Nat)}{K:Env→Sto→Prop} :∀(l:List Nat) (log rQ:List (Nat×Key)) (env:Env) (σ:Sto),iw P ops nx U K (log++rQ) l env σ→iw P ops nx U K (log++(i,⟨[],[],true,false,false⟩) :: rQ) l env σ
 | [],_,_,_,_,h=>h
 |
  j :: l,log,rQ,env,σ,h=>by
  unfold iw at h⊢
  cases hj:ops[j]? with
  | none=>simp only[hj] at h⊢;exact uk l log rQ env σ h
  |
   some o=>
   simp only[hj] at h⊢
   refine jX h (fun e s k hk=>⟨fun x hx hu=>?_,?_⟩)
   · rcases List.mem_append.1 hx with hx | hx
     · exact hk.1 x (List.mem_append_left _ hx) hu
     · rcases List.mem_cons.1 hx with rfl | hx
       · exact⟨(fun l hl=>by simp at hl),(fun l _=>by simp),(fun h=>by cases h),.inr rfl⟩
       · exact hk.1 x (List.mem_append_right _ hx) hu
   · have:=uk (i:=i) l log (rQ++ [(j,k)]) e s (by rw[←List.append_assoc];exact hk.2)
     simpa using this
theorem LJ {ops:Array Oper}{nx i:Nat}{U:List (Nat×Nat)}{K:Env→Sto→Prop} :∀(l:List Nat) (log:List (Nat×Key)) (env:Env) (σ:Sto),iw P ops nx U K log l env σ→iw P ops nx U K (log++ [(i,⟨[],[],true,false,false⟩)]) l env σ:=fun l log env σ h=>uk l log [] env σ (by simpa using h)
theorem LK {ops:Array Oper}{nx:Nat}{K:Env→Sto→Nat→Prop} :∀(l:List Oper) (i:Nat) (env:Env) (σ:Sto),(∀k o,l[k]?=some o→ops[i+k]?=some o)→vL P ops nx K l i env σ→G7 P ops nx (fun env σ=>K env σ (nx+8 *(i+l.length))) (List.range' i l.length) env σ
 | [],i,env,σ,_,h=>by simpa [G7,vL] using h
 |
  o :: l,i,env,σ,ho,h=>by
  have hi:ops[i]?=some o:=by simpa using ho 0 o rfl
  have hl:∀k o',l[k]?=some o'→ops[i+1+k]?=some o':=fun k o' hk=>by
   rw[show i+1+k=i+(k+1) by omega];exact ho (k+1) o' (by simpa using hk)
  have hlen:i+(o :: l).length=i+1+l.length:=by simp;omega
  simp only[List.length_cons,List.range'_succ]
  unfold G7
  rw[hi]
  dsimp only
  have hlen2:i+(l.length+1)=i+1+l.length:=by omega
  rw[hlen2]
  rcases Ic h with ⟨hg,hx⟩ | ⟨hg,hy⟩
  · obtain⟨x,h1,h2,_,h3⟩:=Y6 hg hx
    exact⟨x,h1,h2,fun v G hv=>LK l (i+1) _ _ hl (h3 v G hv)⟩
  · exact⟨_,.skip hg,trivial,fun v G hv=>by
     obtain⟨rfl,rfl⟩:=hv
     exact LK l (i+1) _ _ hl hy⟩
theorem Ey {ops:Array Oper}{nx:Nat}{U:List (Nat×Nat)}{K:Env→Sto→Nat→Prop} :∀(l:List Oper) (i:Nat) (log:List (Nat×Key)) (env:Env) (σ:Sto),(∀k o,l[k]?=some o→ops[i+k]?=some o)→vLD P ops nx U K log l i env σ→iw P ops nx U (fun env σ=>K env σ (nx+8 *(i+l.length))) log (List.range' i l.length) env σ
 | [],i,log,env,σ,_,h=>by simpa [iw,vLD] using h
 |
  o :: l,i,log,env,σ,ho,h=>by
  have hi:ops[i]?=some o:=by simpa using ho 0 o rfl
  have hl:∀k o',l[k]?=some o'→ops[i+1+k]?=some o':=fun k o' hk=>by
   rw[show i+1+k=i+(k+1) by omega];exact ho (k+1) o' (by simpa using hk)
  simp only[List.length_cons,List.range'_succ]
  unfold iw
  rw[hi]
  dsimp only
  have hlen2:i+(l.length+1)=i+1+l.length:=by omega
  rw[hlen2]
  rcases Ic h with ⟨hg,hx⟩ | ⟨hg,hy⟩
  · obtain⟨x,h1,h2,h3,h4⟩:=Y6 hg hx
    exact⟨x,h1,h2,h3 rfl,fun v G hv=>⟨(h4 v G hv).1,Ey l (i+1) _ _ _ hl (h4 v G hv).2⟩⟩
  · refine⟨_,.skip hg,trivial,⟨_,_,rfl,rfl⟩,fun v G hv=>?_⟩
    obtain⟨rfl,rfl⟩:=hv
    refine⟨fun e he hu=>?_,?_⟩
    · exact⟨(fun l hl=>by simp),(fun l hl=>by simp at hl),(fun _ l hl=>by simp at hl),.inl rfl⟩
    · exact LJ _ _ _ _ (Ey l (i+1) log _ _ hl hy)
def Y7 (id:Nat):Code→Nat×Nat
 | .skip=>(1,0)
 | .region .. =>(1,0)
 | .seq a b=>let x:=Y7 id a;let y:=Y7 id b;(x.1 * y.1,x.2+x.1 * y.2)
 | .cond _ t e=>let x:=Y7 id t;let y:=Y7 id e;(x.1+y.1,x.2+y.2)
 | .exit i=>(0,if i=id then 1 else 0)
 | .block j b=>let x:=Y7 id b;let y:=Y7 j b;(x.1+y.2,x.2)
 | .loop b=>(0,(Y7 id b).2)
 | _=>(0,0)
def aa7 (n0:Nat)(X:Ew→Env→Sto→Nat→Prop)(Y:Env→Sto→Nat→Prop)(K:Ew)(env:Env)(σ:Sto)(nx:Nat):Prop:=
 X (fun x env σ nx=>match x with | .normal=>Y env σ nx | .exit id=>K (.exit id) env σ nx | .ret=>K .ret env σ nx) env σ nx∨
 ∃(T:Type) (E:T→List (Nat×AV)) (S:T→List (Option Obj)) (f:T→Prop),X (fun x env σ nx=>match x with | .normal=>∃t,f t∧View n0 env σ (E t) (S t) | .exit id=>K (.exit id) env σ nx | .ret=>K .ret env σ nx) env σ nx∧∀t,f t→Y (iF (E t)) (lQ (S t)) (S t).length
def aa8 (n0:Nat)(X:Ew→Env→Sto→Nat→Prop)(K:Ew)(env:Env)(σ:Sto):Prop:=
 ∃(T:Type) (E:T→List (Nat×AV)) (S:T→List (Option Obj)) (f:T→Prop) (μ:T→Nat),(∃t,f t∧View n0 env σ (E t) (S t))∧
  ∀t,f t→X (fun x env σ nx=>match x with | .normal=>∃u,f u∧μ u < μ t∧View n0 env σ (E u) (S u) | .exit id=>K (.exit id) env σ nx | .ret=>K .ret env σ nx) (iF (E t)) (lQ (S t)) (S t).length
def vc (P:Program)(us:Nat→List (Nat×Nat))(n0:Nat):Code→Ew→Env→Sto→Nat→Prop
 | .skip,K,env,σ,nx=>K .normal env σ nx
 | .region id ops draw,K,env,σ,nx=>if draw=true then vLD P ops nx (us id) (fun env σ nx=>K .normal env σ nx) [] ops.toList 0 env σ else vL P ops nx (fun env σ nx=>K .normal env σ nx) ops.toList 0 env σ
 |
  .seq a b,K,env,σ,nx=>if (Y7 0 a).1≤1 then vc P us n0 a (fun x env σ nx=>match x with | .normal=>vc P us n0 b K env σ nx | .exit id=>K (.exit id) env σ nx | .ret=>K .ret env σ nx) env σ nx
  else aa7 n0 (vc P us n0 a) (vc P us n0 b K) K env σ nx
 |
  .cond c t e,K,env,σ,nx=>match ev env c with
  | some (.pv (.sc (.bool b)))=>(b=true→vc P us n0 t K env σ nx)∧(b=false→vc P us n0 e K env σ nx)
  | _=>False
 | .block id b,K,env,σ,nx=>vc P us n0 b (fun x env σ nx=>match x with | .normal=>K .normal env σ nx | .exit i=>if i=id then K .normal env σ nx else K (.exit i) env σ nx | .ret=>K .ret env σ nx) env σ nx
 | .loop b,K,env,σ,nx=>aa8 n0 (vc P us n0 b) K env σ
 | .exit id,K,env,σ,nx=>K (.exit id) env σ nx
 | .ret,K,env,σ,nx=>K .ret env σ nx
 | _,_,_,_,_=>False
def nz (nt:Nat)(us:Nat→List (Nat×Nat)):Code→Bool
 | .region id ops draw=>yj nt ops &&(!draw || WE ops (us id))
 | .seq a b=>nz nt us a && nz nt us b
 | .cond _ t e=>nz nt us t && nz nt us e
 | .block _ b=>nz nt us b
 | .loop b=>nz nt us b
 | _=>true
def afc (P:Program)(nt n0:Nat)(X:Ew→Env→Sto→Nat→Prop)(c:Code):Prop:=
 ∀(K:Ew) (env:Env) (σ:Sto) (nx:Nat) (fr:Fr) (Ψ:Psi) (loc:Loc) (a:Act) (w:World),fr.n0=n0→Rel fr Ψ loc nt env σ a w→(∀l,nx≤l→loc l=none∧σ l=none)→X K env σ nx→c.wp P (akt fr nt K) a w
theorem PW {us:Nat→List (Nat×Nat)}{id:Nat}{ops:Array Oper}{draw:Bool}(hm:P.follows .mixedOrders=true)(hc:nz nt us (.region id ops draw)=true):afc P nt n0 (vc P us n0 (.region id ops draw)) (.region id ops draw):=by
 intro K env σ nx fr Ψ loc a w hn hr hf h;simp only[nz,Bool.and_eq_true,Bool.or_eq_true,Bool.not_eq_true'] at hc;have hget:∀k o,ops.toList[k]?=some o→ops[0+k]?=some o:=fun k o hk=>by rw[Nat.zero_add,←Array.getElem?_toList];exact hk
 unfold vc at h
 cases draw with
 |
  false=>
  simp only[Bool.false_eq_true,if_false] at h;have h2:=LK ops.toList 0 env σ hget h;rw[Nat.zero_add,Array.length_toList] at h2;refine DY hc.1 hr hf (by rw[List.range_eq_range'];exact h2) (fun a w hfin=>?_);obtain⟨env,σ,Ψ,loc,q1,q2,q3⟩:=hfin;exact⟨env,σ,_,Ψ,loc,q1,q2,q3⟩
 |
  true=>
  simp only[if_true] at h;have h2:=Ey ops.toList 0 [] env σ hget h;rw[Nat.zero_add,Array.length_toList] at h2;refine DZ hm hc.1 (by simpa using hc.2) hr hf (by rw[List.range_eq_range'];exact h2) (fun a w hfin=>?_);obtain⟨env,σ,Ψ,loc,q1,q2,q3⟩:=hfin;exact⟨env,σ,_,Ψ,loc,q1,q2,q3⟩
def wu (P:Program)(env:Env)(σ:Sto):List ResultVar→Option (List AV)
 | []=>some []
 |
  .tmp t :: r=>match env t,wu P env σ r with
  | some v,some l=>some (v :: l)
  | _,_=>none
 |
  .cell a t :: r=>match lay P t,env a,wu P env σ r with
  |
   some (g,k),some (.ptr l off),some vs=>match σ l with
   | some (.box cs)=>(uh g k cs off).map fun v=>v :: vs
   | _=>none
  | _,_,_=>none
def Ah:List AV→AV
 | [v]=>v
 | vs=> .tup vs
def jL (P:Program)(n0:Nat)(rs:List ResultVar)(post:AV→List (Option Obj)→Prop)(env:Env)(σ:Sto):Prop:=
 match wu P env σ rs with
 | none=>False
 | some vs=>∃(r:AV) (g:List (Option Obj)),post r g∧g.length≤n0+8∧View n0 (iF [(0,Ah vs)]) σ [(0,r)] g
def PX (ts:Array Value)(r:ResultVar):Sem Value:=
 match r with
 | .tmp t=>Pure.pure (ts.getD t undef)
 | .cell q t=>do loadVar t (←asAddr (ts.getD q undef))
theorem Ie {rs:List ResultVar}{vs:List AV}(hr:Rel fr Ψ loc nt env σ a w)(h:wu P env σ rs=some vs):∃xs:List Value,(rs.mapM (PX a.tmps)).run P w= .ok xs w∧xs.length=vs.length∧∀(j:Nat) v,vs[j]?=some v→∃x,xs[j]?=some x∧RepA Ψ loc v x:=by
 induction rs generalizing vs with
 | nil=>injection h with h;subst h;exact⟨[],by simp,rfl,fun j v hv=>by simp at hv⟩
 |
  cons r rs ih=>
  cases r with
  |
   tmp t=>
   simp only[wu] at h;split at h
   · rename_i v l hv hl
     injection h with h;subst h;obtain⟨xs,q1,q2,q3⟩:=ih hl;obtain⟨x,r1,r2⟩:=hr.env.rep t v hv;have hh:(PX a.tmps (.tmp t)).run P w= .ok x w:=by simp[PX,r1]
     refine⟨x :: xs,by simp only[List.mapM_cons,Sem.run_bind,hh,Result.andThen_ok,q1,Sem.run_pure],by simp[q2],fun j u hu=>?_⟩
     cases j with
     | zero=>simp at hu;subst hu;exact⟨x,rfl,r2⟩
     | succ j=>simpa using q3 j u (by simpa using hu)
   · cases h
  |
   cell q t=>
   simp only[wu] at h;split at h
   · rename_i g k l off vs' hl hq hvs
     split at h
     · rename_i cs hσ
       obtain⟨v,hv,rfl⟩:=map_some h;obtain⟨xs,q1,q2,q3⟩:=ih hvs;obtain⟨x,r1,r2⟩:=hr.env.rep q _ hq
       cases r2 with
       |
        ptr hp=>
        obtain⟨b',c',h1,hc⟩:=BR (fr:=fr) (hr.ok.ob l _ hσ);rw[hp] at h1;injection h1 with h1;injection h1 with h1 h2;injection h1 with h1;injection h1 with h1;subst h1;obtain⟨y,s1,s2⟩:=gU (P:=P) hl hv hc;rw[Nat.zero_add] at s1;simp only[Instr.loadAt,Instr.sureAddr,Sem.run_bind,Sem.run_pure,Result.andThen_ok] at s1;have hh:(PX a.tmps (.cell q t)).run P w= .ok y w:=by simp[PX,r1,asAddr,s1]
        refine⟨y :: xs,by simp only[List.mapM_cons,Sem.run_bind,hh,Result.andThen_ok,q1,Sem.run_pure],by simp[q2],fun j u hu=>?_⟩
        cases j with
        | zero=>simp at hu;subst hu;exact⟨y,rfl,s2⟩
        | succ j=>simpa using q3 j u (by simpa using hu)
     · cases h
   · cases h
theorem Xp {vs:List AV}{xs:List Value}(h1:xs.length=vs.length)(h2:∀(j:Nat) v,vs[j]?=some v→∃x,xs[j]?=some x∧RepA Ψ loc v x):RepA Ψ loc (Ah vs) (if h:xs.toArray.size=1 then xs.toArray[0] else .tuple xs.toArray):=by
 have tup:RepA Ψ loc (.tup vs) (.tuple xs.toArray):=by
  have hf:∀j,∃x,j < vs.length→∃u,vs[j]?=some u∧xs[j]?=some x∧RepA Ψ loc u x:=fun j=>by
   by_cases hj:j < vs.length
   · obtain⟨y,q1,q3⟩:=h2 j _ (List.getElem?_eq_getElem hj);exact⟨y,fun _=>⟨_,List.getElem?_eq_getElem hj,q1,q3⟩⟩
   · exact⟨undef,fun h=>absurd h hj⟩
  refine .tup (fun j=>(hf j).choose) (by simpa using h1) (fun j hj=>?_) (fun j u hu=>?_)
  · obtain⟨u,_,q,_⟩:=(hf j).choose_spec hj;simpa using q
  · obtain⟨u',q1,_,q⟩:=(hf j).choose_spec (List.getElem?_eq_some_iff.1 hu).1;rw[hu] at q1;injection q1 with q1;rw[q1];exact q
 match vs,xs,h1,h2,tup with
 |
  [v],[x],_,h2,_=>
  obtain⟨y,q1,q2⟩:=h2 0 v rfl;simp at q1;subst q1;exact q2
 | [],[],_,_,tup=>exact tup
 |
  v :: u :: r,x :: y :: s,_,_,tup=>
  rw[dif_neg (by simp)];exact tup
def um (args:List AV):List (Nat×AV):=args.zipIdx.map fun p=>(p.2,p.1)
theorem PY {f:FuncId}{fn:Func}{body:Code}{args:List AV}{pre:List Obj}{post:AV→List (Option Obj)→Prop}(hf:P.funcs[f]?=some fn)(hb:fn.body=some body)(hargs:args.length≤fn.ntmps)
 (h:∀(fr:Fr) (Ψ:Psi) (loc:Loc) (a:Act) (w:World),fr.n0=pre.length→Rel fr Ψ loc fn.ntmps (iF (um args)) (lQ (pre.map some)) a w→(∀l,pre.length≤l→loc l=none∧lQ (pre.map some) l=none)→body.wp P (fun e a w=>match e with
  | .normal | .ret=>∃env σ nx Ψ loc,Rel fr Ψ loc fn.ntmps env σ a w∧(∀l,nx≤l→loc l=none∧σ l=none)∧jL P pre.length fn.results.toList post env σ
  | _=>False) a w):ACall P f args pre post:=by
 intro fr Ψ loc w vs hok hn hnone NV
 have hvl:vs.size=args.length:=by simpa using NV.1
 refine calls_of_wp hf hb (wp_mono (h fr Ψ loc _ w hn (⟨⟨fun t v hv=>?_⟩,hok,?_,rfl⟩:Rel fr Ψ loc fn.ntmps _ _ _ w) (fun l hl=>⟨hnone l hl,by simp[lQ,List.getElem?_eq_none (show (pre.map some).length≤l by simpa using hl)]⟩)) (fun e a' w' hq=>?_))
 · have hmem:=BQ hv
   unfold um at hmem
   obtain⟨p,hp,hpe⟩:=List.mem_map.1 hmem
   obtain⟨u,k⟩:=p
   injection hpe with h1 h2
   subst h1 h2
   have hk:=List.mem_zipIdx_iff_getElem?.1 hp
   obtain⟨x,q1,q2⟩:=NV.2 k u hk
   refine⟨x,?_,q2⟩
   have hlt:k < vs.size:=by rw[hvl];exact (List.getElem?_eq_some_iff.1 hk).1
   rw[Array.getElem?_append_left hlt,←Array.getElem?_toList]
   exact q1
 · simp[hvl]
   omega
 · have fin:(∃env σ nx Ψ loc,Rel fr Ψ loc fn.ntmps env σ a' w'∧(∀l,nx≤l→loc l=none∧σ l=none)∧jL P pre.length fn.results.toList post env σ)→bodyPost P fn (fun e w'=>∃r v g Ψ' loc',e= .returned r∧post v g∧pre.length≤g.length∧g.length≤pre.length+8∧RepA Ψ' loc' v r∧Ok fr Ψ' loc' (lQ g) w'∧(∀l,g.length≤l→loc' l=none)) .ret a' w':=fun hq=>by
    obtain⟨env,σ,nx,Ψ',loc',hr,_,hret⟩:=hq
    unfold jL at hret
    split at hret
    · exact hret.elim
    · rename_i ws hws
      obtain⟨r,g,q3,q4,ls,fl,v1,v2,v3,v4,v5,v6,v7,v8⟩:=hret
      obtain⟨Ψ2,g1,g2,g3⟩:=NU hr.ok v1 v2 hn v3 v4 v5 v6 v8
      obtain⟨xs,r1,r2,r3⟩:=Ie hr hws
      refine⟨hr.df,(if h:xs.toArray.size=1 then xs.toArray[0] else .tuple xs.toArray),?_,?_⟩
      · show ((fn.results.mapM (PX a'.tmps)) >>=fun vs=>Pure.pure (if h:vs.size=1 then vs[0] else .tuple vs)).run P w'=_
        rw[Array.mapM_eq_mapM_toList,Sem.run_bind]
        simp only[map_eq_pure_bind,Sem.run_bind,r1,Result.andThen_ok,Sem.run_pure]
      · have hrep:=Xp (Ψ:=Ψ') (loc:=loc') r2 r3
        obtain⟨u1,u,u2,u3⟩:=v7 (0,r) (by simp)
        simp only[iF,Env.put,if_true] at u2
        injection u2 with u2
        subst u2
        exact⟨_,r,g,Ψ2,_,rfl,q3,v4,q4,rep_in (ρ:=jB ls) (n:=g.length) (fun l hl=>if_pos hl) r _ (wk_rep g1 g3 _ _ _ u3 hrep) u1,g2,fun l hl=>if_neg (by omega)⟩
   cases e with
   | normal=>exact fin hq
   | ret=>exact fin hq
   | _=>exact hq.elim
end
