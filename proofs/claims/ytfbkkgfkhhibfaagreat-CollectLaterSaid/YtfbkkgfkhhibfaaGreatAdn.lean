/- Words. -/
import Derived.Test.YtfbkkgfkhhibfaaGreatAdf
set_option linter.unusedVariables false
set_option linter.unusedSimpArgs false
namespace AM
open Go Go.RowKit
inductive AX where
 |normal
 |exit (id:Nat)
 |ret
abbrev JM:=AX->Env->Sto->Nat->Prop
def ae1 (fr:Fr)(nt:Nat)(K:JM)(x:AX)(a:Act)(w:World):Prop:=
 ∃env σ nx Ψ loc,Rel fr Ψ loc nt env σ a w/\(∀l,nx<=l->loc l=none/\σ l=none)/\K x env σ nx
def aoH (fr:Fr)(nt:Nat)(K:JM):Exit->Act->World->Prop
 | .normal=>ae1 fr nt K .normal
 | .exit id=>ae1 fr nt K (.exit id)
 | .ret=>ae1 fr nt K .ret
 |_=>λ_ _=>False
def lg (ls:List Nat):Nat->Nat:=λl=>ls.getD l 0
def jh:List (Nat×AV)->Env
 | []=>λ_=>none
 |(t,v)::r=>(jh r).put (some t) v
def rQ (σ:Sto)(fl:List (Nat×Option (List CT)))(r:Nat):Option PV:=
 match fl.find? (λp=>p.1==r),σ r with
 |some (_,none),some (.row _ _ els)=>some (.sl els)
 |some (_,some cts),some (.row _ _ els)=>some (.tr cts els.length)
 |_,_=>none
def tN (p:PV)(n:Nat):Prop:=
 match p with
 | .sl els=>els.length=n
 | .tr _ m=>m=n
 |_=>False
mutual
def wk (F:Nat->Option PV):AV->AV->Prop
 | .emp,.pv p=>p= .sl []\/∃cts,p= .tr cts 0
 | .own r n,.pv p=>F r=some p/\tN p n
 | .agg cs,.agg ds=>wkL F cs ds
 | .tup cs,.tup ds=>wkL F cs ds
 |v,u=>v=u
def wkL (F:Nat->Option PV):List AV->List AV->Prop
 | [],[]=>True
 |v::r,u::s=>wk F v u/\wkL F r s
 |_,_=>False
end
def NI (F:Nat->Option PV):Obj->Obj->Prop
 | .box cs,.box ds=>wkL F cs ds
 | .rov e k els i cs,.rov e' k' els' i' ds=>(e=e'/\k=k'/\els=els'/\i=i')/\wkL F cs ds
 |o,o'=>o=o'
def FY (σ:Sto)(p:Nat×Option (List CT)):Prop:=
 match p.2,σ p.1 with
 |none,some (.row ..)=>True
 |some cts,some (.row _ k els)=>cts.length=k/\cts≠ []/\∀row∈els,∀(j:Nat) ct q,cts[j]?=some ct->row[j]?=some q->ct.ok q
 |_,_=>False
def abE (S:List (Option Obj))(ls:List Nat):Prop:=∀k k' o o',S[k]?=some (some o)->S[k']?=some (some o')->lg ls k=lg ls k'->k=k'
def View (n0:Nat)(env:Env)(σ:Sto)(E:List (Nat×AV))(S:List (Option Obj)):Prop:=
 ∃(ls:List Nat) (fl:List (Nat×Option (List CT))),ls.length=S.length/\abE S ls/\(∀k,k<n0->lg ls k=k)/\n0<=S.length/\(∀p∈fl,FY σ p)/\(fl.map (·.1)).Nodup/\
  (∀p∈E,p.2.lb S.length=true/\∃v,env p.1=some v/\wk (rQ σ fl) v (p.2.ren (lg ls)))/\
  ∀p∈S.zipIdx,∀o,p.1=some o->o.lb S.length=true/\lg ls p.2∉fl.map (·.1)/\∃o',σ (lg ls p.2)=some o'/\NI (rQ σ fl) o' (o.ren (lg ls))
theorem Ht {E:List (Nat×AV)}{t:Nat}{v:AV}(h:jh E t=some v):(t,v)∈E:=by
 induction E with
 |nil=>cases h
 |
  cons p r ih=>
  obtain⟨d,v'⟩:=p;simp only[jh,Env.put] at h;split at h;rename_i he;injection h with h;subst he h;simp;exact JO _ (ih h)
theorem Es {S:List (Option Obj)}{l:Nat}{o:Obj}(h:oZ S l=some o):S[l]?=some (some o):=by
 unfold oZ at h
 cases hs:S[l]? with
 |none=>simp [hs] at h
 |some q=>simp [hs] at h;rw[h]
section
variable {P : Program} {fr : Fr} {Ψ : Psi} {loc : Loc} {nt n0 : Nat} {env : Env} {σ : Sto} {a : Act} {w : World}
theorem abG {S:List (Option Obj)}{ls:List Nat}(h:Ok fr Ψ loc σ w)(h1:ls.length=S.length)(h2:abE S ls)(hn:fr.n0=n0)(h3:∀k,k<n0->lg ls k=k)(h4:n0<=S.length)(h5:∀p∈S.zipIdx,∀o,p.1=some o->o.lb S.length=true/\σ (lg ls p.2)=some (o.ren (lg ls))):
 Ok fr Ψ (λl=>if l<S.length then loc (lg ls l) else none) (oZ S) w:=by have B:∀l,l<S.length->(λl=>if l<S.length then loc (lg ls l) else none) l=loc (lg ls l):=(λl B=>by dsimp only;rw[if_pos B]);have D:∀l o,oZ S l=some o->l<S.length/\o.lb S.length=true/\σ (lg ls l)=some (o.ren (lg ls)):=(λl o ho=>by have J:=Es ho;have:=h5 (some o,l) (by rw[Et];exact J) o rfl;exact⟨(bV.1 J).1,this⟩);have hb:∀l,l<S.length->blk (λl=>if l<S.length then loc (lg ls l) else none) l=blk loc (lg ls l):=(λl d=>by unfold blk;rw[B l d]);have E:=h2;refine⟨h.fz,h.tb,λl o ho=>?_,λl l' o o' b ho u h1 h2=>?_,λl o b ho h1=>?_,h.tf,h.pr,h.sz,h.os,h.pz,h.le0,λl d=>?_⟩;obtain⟨y,L,A⟩:=D l o ho;exact Lu (ρ:=lg ls) B y (h.ob _ _ A) L;obtain⟨y,_,A⟩:=D l o ho;obtain⟨G,_,H⟩:=D l' o' u;rw[hb l y] at h1;rw[hb l' G] at h2;exact E l l' _ _ (Es ho) (Es u) (h.dj _ _ _ _ b A H h1 h2);obtain⟨y,_,A⟩:=D l o ho;rw[hb l y] at h1;exact h.ow _ _ b A h1;have I:l<n0:=(by omega);obtain⟨e,r1,N⟩:=h.l0 l d;refine⟨e,r1,?_⟩;rw[if_pos (by omega),h3 l I];exact N
mutual
theorem wk_rep {F:Nat->Option PV}{Ψ Ψ':Psi}{loc:Loc}(hΨ:Ψ.le Ψ')(hF:∀r p n,F r=some p->tN p n->∀x,RepA Ψ loc (.own r n) x->Rep Ψ' p x):∀(v u:AV) (x:Value),wk F v u->RepA Ψ loc v x->RepA Ψ' loc u x
 |
  .emp,u,x,h,hr=>by
  cases u with
  |
   pv p=>
   simp only[wk] at h
   cases hr with
   |
    emp=>
    rcases h with rfl|⟨cts,rfl⟩
    . exact .pv (.nil λ_=>rfl)
    . exact .pv .tr0
  |emp=>exact hr.mono hΨ (.refl _)
  |_=>simp only[wk] at h;cases h
 |
  .own r n,u,x,h,hr=>by
  cases u with
  |pv p=>simp only[wk] at h;exact .pv (hF r p n h.1 h.2 x hr)
  |_=>simp only[wk] at h;first|(rw[<-h];exact hr.mono hΨ (.refl _))|cases h
 |
  .agg cs,u,x,h,hr=>by
  cases u with
  |
   agg ds=>
   simp only[wk] at h
   cases hr with
   |
    agg f hs hx hr2=>
    obtain⟨h1,h2⟩:=wk_repL hΨ hF cs ds f h hr2
    exact .agg f (by rw[hs,h1]) (λj d=>hx j (by rw[h1];exact d)) h2
  |_=>simp only[wk] at h;first|(rw[<-h];exact hr.mono hΨ (.refl _))|cases h
 |
  .tup cs,u,x,h,hr=>by
  cases u with
  |
   tup ds=>
   simp only[wk] at h
   cases hr with
   |
    tup f hs hx hr2=>
    obtain⟨h1,h2⟩:=wk_repL hΨ hF cs ds f h hr2
    exact .tup f (by rw[hs,h1]) (λj d=>hx j (by rw[h1];exact d)) h2
  |_=>simp only[wk] at h;first|(rw[<-h];exact hr.mono hΨ (.refl _))|cases h
 | .pv p,u,x,h,hr=>by cases u<;>simp only[wk] at h<;>first|(rw[<-h];exact hr.mono hΨ (.refl _))|cases h
 | .ptr l o,u,x,h,hr=>by cases u<;>simp only[wk] at h<;>first|(rw[<-h];exact hr.mono hΨ (.refl _))|cases h
 | .rp r k i o,u,x,h,hr=>by cases u<;>simp only[wk] at h<;>first|(rw[<-h];exact hr.mono hΨ (.refl _))|cases h
 | .fp row o,u,x,h,hr=>by cases u<;>simp only[wk] at h<;>first|(rw[<-h];exact hr.mono hΨ (.refl _))|cases h
 | .tp cts j,u,x,h,hr=>by cases u<;>simp only[wk] at h<;>first|(rw[<-h];exact hr.mono hΨ (.refl _))|cases h
 | .tl cs,u,x,h,hr=>by cases u<;>simp only[wk] at h<;>first|(rw[<-h];exact hr.mono hΨ (.refl _))|cases h
theorem wk_repL {F:Nat->Option PV}{Ψ Ψ':Psi}{loc:Loc}(hΨ:Ψ.le Ψ')(hF:∀r p n,F r=some p->tN p n->∀x,RepA Ψ loc (.own r n) x->Rep Ψ' p x):∀(cs d:List AV) (f:Nat->Value),wkL F cs d->(∀j v,cs[j]?=some v->RepA Ψ loc v (f j))->cs.length=d.length/\∀(j:Nat) v,d[j]?=some v->RepA Ψ' loc v (f j)
 | [],[],f,h,hr=>⟨rfl,λj v y=>by simp at y⟩
 | [],u::s,f,h,hr=>by simp only[wkL] at h
 |v::r,[],f,h,hr=>by simp only[wkL] at h
 |
  v::r,u::s,f,h,hr=>by
  simp only[wkL] at h
  obtain⟨h1,h2⟩:=wk_repL hΨ hF r s (λj=>f (j+1)) h.2 (λj v y=>hr (j+1) v (by simpa using y))
  refine⟨by simp[h1],λj B A=>?_⟩
  cases j with
  |zero=>simp at A;subst A;exact wk_rep hΨ hF v u _ h.1 (hr 0 v rfl)
  |succ j=>exact h2 j B (by simpa using A)
end
theorem Ok.give {r:Nat}{p:Nat×Option (List CT)}(h:Ok fr Ψ loc σ w)(Z:p.1=r)(d:FY σ p):∃Ψ',Ψ.le Ψ'/\Ok fr Ψ' loc (σ.upd r none) w/\∀q n,rQ σ [p] r=some q->tN q n->∀x,RepA Ψ loc (.own r n) x->Rep Ψ' q x:=by
 obtain⟨p1,H⟩:=p;dsimp only at Z;subst Z;unfold FY at d;dsimp only at d
 cases hσ:σ p1 with
 |none=>rw [hσ] at d;cases H<;>exact d.elim
 |
  some o=>
  cases o with
  |box cs=>rw [hσ] at d;cases H<;>exact d.elim
  |rov e k els i cs=>rw [hσ] at d;cases H<;>exact d.elim
  |
   row e k els=>
   obtain⟨A,c,h1,h2⟩:=h.ob _ _ hσ;have O:=h.drop p1;rcases h2 with ⟨rfl,rfl⟩|⟨h0,g,cur,rfl,hh,hec,hcm,hcs,hrk,hcr⟩
   . refine⟨Ψ,.refl _,O,λq n D hn x hx=>?_⟩
     cases hx with
     |
      own u hn'=>
      rw[h1] at u;injection u with u;injection u with B hl2;subst B hl2;have U:n=0:=(by omega);subst U
      cases H with
      |none=>simp [rQ,hσ] at D;subst D;exact .nil λ_=>rfl
      |some cts=>simp [rQ,hσ] at D;subst D;exact .tr0
   . obtain⟨c',rfl⟩:∃c',c=c'+1:=⟨c-1,by omega⟩;have hb:=qg h1;have hf:=h.free hσ hb
     cases H with
     |
      none=>
      have hle:=hf.le_fz cur;refine⟨Ψ.addFz g cur,hle,O.freeze hf hh,λq n D hn x hx=>?_⟩;simp[rQ,hσ] at D;subst D
      cases hx with
      |
       own u hn'=>
       rw[h1] at u;injection u with u;injection u with B hl2;subst B hl2;simp only[tN] at hn
       have hF:∀E j,∃y,∀p,cellOf els E j=some p->cur[E*k+j]?=some y/\Rep Ψ p y:=λE j=>by
        cases hc:cellOf els E j with
        |none=>exact ⟨undef,λp h=>by cases h⟩
        |
         some p0=>
         obtain⟨y,N,V⟩:=hcr E j p0 hc;exact⟨y,λp h=>by injection h with h;subst h;exact⟨N,V⟩⟩
       refine .sl (k:=k) (λa b=>(hF a b).choose) hn hn' hrk (λE j p hc=>?_) (λE j p hc=>((hF E j).choose_spec p hc).2.mono hle);show (if g=g then cur[0+(E*k+j)]? else _)=_;rw[if_pos rfl,dJ];exact ((hF E j).choose_spec p hc).1
     |
      some cts=>
      rw[hσ] at d;obtain⟨hk,I,X⟩:=d;have J:0<k:=(by rw[<-hk];exact List.length_pos_iff.2 I);have hle:=hf.le_tb (cts,els.length*k);have hmul:els.length*k<=cur.size:=(by rw[hcs];exact iW _ hec);refine⟨Ψ.addTb g (cts,els.length*k),hle,O.typed hf hmul hh (λo ct ho hc=>?_),λq n D hn x hx=>?_⟩;rw[hk] at hc;have hi:o/k<els.length:=(YL J).2 ho;have L:=hrk els[o/k] (dm hi);have hj:o%k<els[o/k].length:=(by rw[L];exact yE _ J);have G:cellOf els (o/k) (o%k)=some els[o/k][o%k]:=(by simp[cellOf,aV hi,aV hj]);obtain⟨y,N,V⟩:=hcr _ _ _ G;have Y:o/k*k+o%k=o:=(by rw[JP];exact Nat.div_add_mod o k);rw[Y] at N;exact⟨_,y,N,X _ (dm hi) _ ct _ hc (aV hj),V⟩
      . simp[rQ,hσ] at D;subst D
        cases hx with
        |
         own u hn'=>
         rw[h1] at u;injection u with u;injection u with B hl2;subst B hl2;simp only[tN] at hn;subst hn;exact .tr (m:=els.length*k) (by simp[Psi.addTb]) I (Nat.zero_mod _) hn' (by rw[hk];omega)
theorem abH {p:Nat×Option (List CT)}{r:List (Nat×Option (List CT))}{l:Nat}{q:PV}{o:Option Obj}(u:p.1∉r.map (·.1))(h:rQ σ (p::r) l=some q):(l=p.1/\rQ σ [p] p.1=some q)\/(l≠p.1/\rQ (σ.upd p.1 none) r l=some q):=by by_cases d:l=p.1;subst d;exact .inl ⟨rfl,by simpa [rQ] using h⟩;refine .inr ⟨d,?_⟩;have hb:(p.1==l)=false:=(by simpa using λe=>d e.symm);simp only[rQ,QJ,hb] at h;unfold rQ;rw[upd_ne _ _ d];exact h
theorem Ok.gives:∀(fl:List (Nat×Option (List CT))) {Ψ:Psi}{σ:Sto},Ok fr Ψ loc σ w->(fl.map (·.1)).Nodup->(∀p∈fl,FY σ p)->∃Ψ',Ψ.le Ψ'/\Ok fr Ψ' loc (λl=>if l∈fl.map (·.1) then none else σ l) w/\∀r p n,rQ σ fl r=some p->tN p n->∀x,RepA Ψ loc (.own r n) x->Rep Ψ' p x
 | [],Ψ,σ,h,_,_=>⟨Ψ,.refl _,by simpa using h,λr p n u=>by simp[rQ] at u⟩
 |
  p::fl,Ψ,σ,h,hn,hok=>by
  simp only[kH,uS] at hn
  obtain⟨Ψ1,h1,h2,h3⟩:=h.give rfl (hok p (by simp))
  obtain⟨Ψ2,B,D,E⟩:=Ok.gives fl h2 hn.2 (λq u=>by
   have y:q.1≠p.1:=λe=>hn.1 (iV.2 ⟨q,u,e⟩)
   have:=hok q (by simp[u])
   unfold FY at this|-
   rw[upd_ne _ _ y]
   exact this)
  refine⟨Ψ2,h1.trans B,?_,λr q n u hm x hx=>?_⟩
  . have he:(λl=>if l∈fl.map (·.1) then none else (σ.upd p.1 none) l)=λl=>if l∈(p::fl).map (·.1) then none else σ l:=by
     funext l
     simp only[kH,dV]
     by_cases A:l=p.1
     . subst A;simp[upd_eq]
     . rw[upd_ne _ _ A]
       simp only[A,false_or]
    rw[<-he]
    exact D
  . rcases abH (o:=none) hn.1 u with ⟨rfl,d⟩|⟨y,d⟩
    . exact (h3 q n d hm x hx).mono B
    . exact E r q n d hm x (hx.mono h1 (.refl _))
theorem Vk {F:Nat->Option PV}{Ψ Ψ':Psi}{l:Nat}(hΨ:Ψ.le Ψ')(hF:∀r p n,F r=some p->tN p n->∀x,RepA Ψ loc (.own r n) x->Rep Ψ' p x){o o':Obj}(hw:NI F o o')(h:Holds Ψ loc w l o):Holds Ψ' loc w l o':=by
 cases o with
 |
  row e k els=>
  ((have:o'= .row e k els:=by cases o'<;>simp only[NI] at hw<;>first|exact hw.symm|cases hw);subst this);exact h.same hΨ (.refl _) (λ_ _=>rfl)
 |
  rov e k els i cs=>
  cases o' with
  |
   rov e' k' els' i' ds=>
   simp only[NI] at hw;obtain⟨⟨rfl,rfl,rfl,rfl⟩,hw⟩:=hw;obtain⟨g,c,cur,h1,B,D,E,G,H,I,J,L,N⟩:=h
   have hf:∀j:Nat,∃x,∀v,cs[j]?=some v->cur[i*k+j]?=some x/\x.oneCell'=true/\RepA Ψ loc v x:=λj=>by
    cases hc:cs[j]? with
    |none=>exact ⟨undef,λv h=>by cases h⟩
    |
     some v0=>
     obtain⟨x,q⟩:=N j v0 hc;exact⟨x,λv h=>by injection h with h;subst h;exact q⟩
   obtain⟨u,y⟩:=wk_repL hΨ hF cs ds (λj=>(hf j).choose) hw (λj v d=>((hf j).choose_spec v d).2.2);refine⟨g,c,cur,h1,B,D,E,G,H,λa j p ha e=>?_,J,by rw[<-u];exact L,λj v d=>?_⟩;obtain⟨x,r1,O⟩:=I a j p ha e;exact⟨x,r1,O.mono hΨ⟩;have A:j<cs.length:=(by rw[u];exact (bV.1 d).1);have:=(hf j).choose_spec _ (aV A);exact⟨_,this.1,this.2.1,y j v d⟩
  |_=>simp only[NI] at hw;cases hw
 |
  box cs=>
  cases o' with
  |row e k els=>simp only[NI] at hw;cases hw
  |rov e k els i cs=>simp only[NI] at hw;cases hw
  |
   box ds=>
   simp only[NI] at hw;obtain⟨b,c,arr,ty,h1,h2,h3,h4⟩:=h
   have hf:∀j:Nat,∃x,∀v,cs[j]?=some v->arr[j]?=some x/\x.oneCell'=true/\RepA Ψ loc v x:=λj=>by
    cases hc:cs[j]? with
    |none=>exact ⟨undef,λv h=>by cases h⟩
    |
     some v0=>
     obtain⟨x,q⟩:=h4 j v0 hc;exact⟨x,λv h=>by injection h with h;subst h;exact q⟩
   obtain⟨u,y⟩:=wk_repL hΨ hF cs ds (λj=>(hf j).choose) hw (λj v d=>((hf j).choose_spec v d).2.2);refine⟨b,c,arr,ty,h1,h2,by rw[h3,u],λj v d=>?_⟩;have A:j<cs.length:=(by rw[u];exact (bV.1 d).1);have:=(hf j).choose_spec _ (aV A);exact⟨_,this.1,this.2.1,y j v d⟩
theorem TE {S:List (Option Obj)}{ls:List Nat}{fl:List (Nat×Option (List CT))}(h:Ok fr Ψ loc σ w)(h1:ls.length=S.length)(h2:abE S ls)(hn:fr.n0=n0)(h3:∀k,k<n0->lg ls k=k)(h4:n0<=S.length)(J:∀p∈fl,FY σ p)(hnd:(fl.map (·.1)).Nodup)
 (Y:∀p∈S.zipIdx,∀o,p.1=some o->o.lb S.length=true/\lg ls p.2∉fl.map (·.1)/\∃o',σ (lg ls p.2)=some o'/\NI (rQ σ fl) o' (o.ren (lg ls))):
 ∃Ψ',Ψ.le Ψ'/\Ok fr Ψ' (λl=>if l<S.length then loc (lg ls l) else none) (oZ S) w/\∀r p n,rQ σ fl r=some p->tN p n->∀x,RepA Ψ loc (.own r n) x->Rep Ψ' p x:=by
 obtain⟨Ψ',Z,u,g3⟩:=h.gives fl hnd J;refine⟨Ψ',Z,?_,g3⟩;let τ:Sto:=λq=>((S.zipIdx.find? (λp=>p.1.isSome && lg ls p.2==q)).bind (·.1)).map (Obj.ren (lg ls))
 have hτ:∀k o,S[k]?=some (some o)->τ (lg ls k)=some (o.ren (lg ls)):=λk o hk=>by
  have L:k<S.length:=(bV.1 hk).1;have:S.zipIdx.find? (λp=>p.1.isSome && lg ls p.2==lg ls k)=some (some o,k):=by
   rw[List.find?_eq_some_iff_append];have a6:S[k]=some o:=(bV.1 hk).2;refine⟨by simp,S.zipIdx.take k,S.zipIdx.drop (k+1),?_,λp A=>?_⟩;have I:S.zipIdx[k]?=some (some o,k):=(by simp[hk]);have E:k<S.zipIdx.length:=(by simpa using L);rw[aV E] at I;injection I with I;rw[<-I,<-oG E,JK]
   . obtain⟨n,hn⟩:=mg.1 A;rw[mi] at hn;split at hn
     . rename_i a7;simp only[List.getElem?_zipIdx] at hn;obtain⟨q,d,rfl⟩:=mX.1 hn;simp only[dJ,DZ,zQ,iJ,ne_eq]
       cases q with
       |none=>exact .inl rfl
       |
        some o1=>
        refine .inr λe=>?_;have:=h2 n k _ _ d hk e;omega
     cases hn
  show ((S.zipIdx.find? (λp=>p.1.isSome && lg ls p.2==lg ls k)).bind (·.1)).map _=_;rw[this];rfl
 have hτ2:∀q o,τ q=some o->∃k o0,S[k]?=some (some o0)/\q=lg ls k/\o=o0.ren (lg ls):=(λq o d=>by obtain⟨o0,N,rfl⟩:=mX.1 d;obtain⟨p,A,G⟩:=Option.bind_eq_some_iff.1 N;have H:=List.mem_of_find?_eq_some A;have B:=List.find?_some A;obtain⟨po,pk⟩:=p;dsimp only at G B;subst G;simp only[Option.isSome_some,vK,gI] at B;exact⟨pk,o0,Et.1 H,B.symm,rfl⟩);have y:∀q o,τ q=some o->∃o',σ q=some o'/\q∉fl.map (·.1)/\NI (rQ σ fl) o' o:=(λq o d=>by obtain⟨k,o0,hk,rfl,rfl⟩:=hτ2 q o d;obtain⟨_,O,o',U,r4⟩:=Y (some o0,k) (Et.2 hk) o0 rfl;exact⟨o',U,O,r4⟩);have Vτ:Ok fr Ψ' loc τ w:=(by have D:∀q o,τ q=some o->∃o',(λl=>if l∈fl.map (·.1) then none else σ l) q=some o':=(λq o d=>by obtain⟨o',r1,O,_⟩:=y q o d;exact⟨o',by dsimp only;rw[if_neg O];exact r1⟩);refine⟨u.fz,u.tb,λq o d=>?_,λq q' o o' b d X=>?_,λq o b d=>?_,u.tf,u.pr,u.sz,u.os,u.pz,u.le0,u.l0⟩;obtain⟨o',r1,_,U⟩:=y q o d;exact Vk Z g3 U (h.ob q o' r1);obtain⟨_,s1⟩:=D q o d;obtain⟨_,s2⟩:=D q' o' X;exact u.dj q q' _ _ b s1 s2;obtain⟨_,s1⟩:=D q o d;exact u.ow q _ b s1);exact abG Vτ h1 h2 hn h3 h4 (λp A o ho=>by obtain⟨po,pk⟩:=p;dsimp only at ho;subst ho;exact⟨(Y _ A o rfl).1,hτ pk o (Et.1 A)⟩)
theorem YM {E:List (Nat×AV)}{S:List (Option Obj)}(hr:Rel fr Ψ loc nt env σ a w)(hn:fr.n0=n0)(h:View n0 env σ E S):∃Ψ' loc',Rel fr Ψ' loc' nt (jh E) (oZ S) a w/\∀l,S.length<=l->loc' l=none/\oZ S l=none:=by obtain⟨ls,fl,h1,h2,h3,h4,h5,y,A,B⟩:=h;obtain⟨Ψ',D,G,H⟩:=TE hr.ok h1 h2 hn h3 h4 h5 y B;refine⟨Ψ',_,⟨⟨λt v I=>?_⟩,G,hr.sz,hr.df⟩,λl d=>⟨if_neg (by omega),by simp[oZ,rF d]⟩⟩;obtain⟨J,u,L,N⟩:=A _ (Ht I);obtain⟨x,r1,O⟩:=hr.env.rep t _ L;exact⟨x,r1,rep_in (ρ:=lg ls) (λl d=>if_pos d) v x (wk_rep D H u _ x N O) J⟩
def abI (P:Program)(dr:Bool)(f:FuncId)(nx i:Nat)(dA:List (Option AV))(σ:Sto)(K:AV->List (Nat×Option Obj)->Key->Prop):Prop:=
 ∃(as:List AV) (pre:List Obj) (post:AV->List (Option Obj)->Prop) (ls:List Nat),isGo P f=true/\ACallO P f as pre post/\dA=(AV.renL (rho ls (nx+8*i)) as).map some/\AV.lbL pre.length as=true/\pre.all (Obj.lb pre.length)=true/\ls.length=pre.length/\ls.Nodup/\ls.all (λl=>!own nx i l)=true/\
  (∀k o,pre[k]?=some o->σ (ls.getD k 0)=some (o.ren (rho ls (nx+8*i))))/\(dr=true->∃r g,post r g/\pre.length<=g.length/\g.length<=pre.length+8)/\
  ∀r g,post r g->pre.length<=g.length->g.length<=pre.length+8->K (r.ren (rho ls (nx+8*i))) (renG (rho ls (nx+8*i)) g) ⟨[],ls,false,true,true⟩
def abJ (d:Option DO)(nx i:Nat)(K:AV->List (Nat×Option Obj)->Key->Prop):Prop:=
 match d with
 |none=>False
 |some d=>d.ok/\∀v,d.out v->K v d.upd ⟨d.rd,d.wr.filter (λl=>!own nx i l),d.det,false,true⟩
def YN (P:Program)(dr:Bool)(nx i:Nat)(o:Oper)(env:Env)(σ:Sto)(K:AV->List (Nat×Option Obj)->Key->Prop):Prop:=
 match o.op with
 | .call { callee:= .value (.func f),args:=args,argTypes:=_ } =>abI P dr f nx i (args.toList.map (ev env)) σ K
 |_=>abJ (dop P o (ev env) σ (nx+8*i)) nx i K
def vG (ops:Array Oper)(o:Oper)(env:Env)(X Y:Env->Prop):Prop:=
 match o.guard with
 |none=>X env
 |
  some (g,want)=>match (ops[g]?).bind (·.dst) with
  |none=>False
  |
   some d=>match env d with
   |some (.pv (.sc (.bool b)))=>(b=true->if want=true then X (env.put (some d) (.pv (.sc (.bool true)))) else Y (env.put (some d) (.pv (.sc (.bool true)))))/\(b=false->if want=true then Y (env.put (some d) (.pv (.sc (.bool false)))) else X (env.put (some d) (.pv (.sc (.bool false)))))
   |some (.tup [])=>Y env
   |_=>False
def vL (P:Program)(ops:Array Oper)(nx:Nat)(K:Env->Sto->Nat->Prop):List Oper->Nat->Env->Sto->Prop
 | [],i,env,σ=>K env σ (nx+8*i)
 |o::l,i,env,σ=>vG ops o env (λenv=>YN P false nx i o env σ (λv G _=>vL P ops nx K l (i+1) (env.put o.dst v) (σ.upds G))) (λenv=>vL P ops nx K l (i+1) (env.put o.dst (.tup [])) σ)
def vLD (P:Program)(ops:Array Oper)(nx:Nat)(U:List (Nat×Nat))(K:Env->Sto->Nat->Prop):List (Nat×Key)->List Oper->Nat->Env->Sto->Prop
 |_,[],i,env,σ=>K env σ (nx+8*i)
 |log,o::l,i,env,σ=>vG ops o env (λenv=>YN P true nx i o env σ (λv G k=>(∀e∈log,(e.1,i)∈U->qU (nx+8*e.1) e.2 k)/\vLD P ops nx U K (log++[(i,k)]) l (i+1) (env.put o.dst v) (σ.upds G))) (λenv=>vLD P ops nx U K log l (i+1) (env.put o.dst (.tup [])) σ)
theorem NJ {d:Nat}{v:AV}(h:env d=some v):env.put (some d) v=env:=by funext t;simp only[Env.put];split;rename_i e;rw[e,h];rfl
theorem YO {I:Bool}{ops:Array Oper}{nx i:Nat}{o:Oper}{K:AV->List (Nat×Option Obj)->Key->Prop}(hg:gate ops o env=some true)(h:YN P I nx i o env σ K):∃x,Sp P ops nx i o env σ x/\x.ok/\(I=true->∃v G,x.out v G)/\∀v G,x.out v G->K v G x.key:=by unfold YN at h;split at h;rename_i f args ats ho;obtain⟨as,pre,post,ls,h1,h2,h3,h4,h5,J,L,N,O,B,D⟩:=h;refine⟨_,.call hg ho h1 h2 h3 h4 h5 J L N O,trivial,λA=>?_,λv G u=>?_⟩;obtain⟨r,g,y,E,H⟩:=B A;exact⟨_,_,r,g,y,E,H,rfl,rfl⟩;obtain⟨r,g,y,E,H,rfl,rfl⟩:=u;exact D r g y E H;unfold abJ at h;split at h;exact h.elim;rename_i d A;refine⟨_,.op hg A,h.1,λ_=>?_,λv G u=>?_⟩;obtain⟨v,u⟩:=(JQ A).inh h.1;exact⟨v,_,u,rfl⟩;obtain⟨y,rfl⟩:=u;exact h.2 v y
theorem NK {ops:Array Oper}{o:Oper}{X Y:Env->Prop}(h:vG ops o env X Y):(gate ops o env=some true/\X env)\/(gate ops o env=some false/\Y env):=by
 unfold vG at h;split at h;rename_i hg;exact .inl ⟨by simp[gate,hg],h⟩
 . rename_i g want hg;split at h;exact h.elim
   . rename_i d u;split at h
     . rename_i b hb;have hgate:gate ops o env=some (b==want):=(by simp only[gate,hg,u,hb]);rw[hgate]
       cases b
       . have h2:=h.2 rfl;rw[NJ hb] at h2
         cases want
         exact .inl ⟨rfl,by simpa using h2⟩;exact .inr ⟨rfl,by simpa using h2⟩
       . have h2:=h.1 rfl;rw[NJ hb] at h2
         cases want
         exact .inr ⟨rfl,by simpa using h2⟩;exact .inl ⟨rfl,by simpa using h2⟩
     rename_i hb;exact .inr ⟨by simp only[gate,hg,u,hb],h⟩;exact h.elim
theorem yY {ops:Array Oper}{nx i:Nat}{U:List (Nat×Nat)}{K:Env->Sto->Prop} :∀(l:List Nat) (log d:List (Nat×Key)) (env:Env) (σ:Sto),jB P ops nx U K (log++d) l env σ->jB P ops nx U K (log++(i,⟨[],[],true,false,false⟩)::d) l env σ
 | [],_,_,_,_,h=>h
 |
  j::l,log,d,env,σ,h=>by
  unfold jB at h|-
  cases hj:ops[j]? with
  |none=>simp only[hj] at h|-;exact yY l log d env σ h
  |
   some o=>
   simp only[hj] at h|-
   refine mO h (λe s k hk=>⟨λx hx u=>?_,?_⟩)
   . rcases jM.1 hx with hx|hx
     . exact hk.1 x (DK _ hx) u
     . rcases dV.1 hx with rfl|hx
       . exact⟨(λl y=>by simp at y),(λl _=>by simp),(λh=>by cases h),.inr rfl⟩
       . exact hk.1 x (DL _ hx) u
   . have:=yY (i:=i) l log (d++[(j,k)]) e s (by rw[<-fU];exact hk.2)
     simpa using this
theorem QQ {ops:Array Oper}{nx i:Nat}{U:List (Nat×Nat)}{K:Env->Sto->Prop} :∀(l:List Nat) (log:List (Nat×Key)) (env:Env) (σ:Sto),jB P ops nx U K log l env σ->jB P ops nx U K (log++[(i,⟨[],[],true,false,false⟩)]) l env σ:=λl log env σ h=>yY l log [] env σ (by simpa using h)
theorem QR {ops:Array Oper}{nx:Nat}{K:Env->Sto->Nat->Prop} :∀(l:List Oper) (i:Nat) (env:Env) (σ:Sto),(∀k o,l[k]?=some o->ops[i+k]?=some o)->vL P ops nx K l i env σ->MW P ops nx (λenv σ=>K env σ (nx+8 *(i+l.length))) (List.range' i l.length) env σ
 | [],i,env,σ,_,h=>by simpa [MW,vL] using h
 |
  o::l,i,env,σ,ho,h=>by
  have hi:ops[i]?=some o:=by simpa using ho 0 o rfl
  have y:∀k o',l[k]?=some o'->ops[i+1+k]?=some o':=λk o' hk=>by
   rw[show i+1+k=i+(k+1) by omega];exact ho (k+1) o' (by simpa using hk)
  have hlen:i+(o::l).length=i+1+l.length:=by simp;omega
  simp only[iO,QS]
  unfold MW
  rw[hi]
  dsimp only
  have d:i+(l.length+1)=i+1+l.length:=by omega
  rw[d]
  rcases NK h with ⟨hg,hx⟩|⟨hg,hy⟩
  . obtain⟨x,h1,h2,_,h3⟩:=YO hg hx
    exact⟨x,h1,h2,λv G u=>QR l (i+1) _ _ y (h3 v G u)⟩
  . exact⟨_,.skip hg,trivial,λv G u=>by
     obtain⟨rfl,rfl⟩:=u
     exact QR l (i+1) _ _ y hy⟩
theorem JR {ops:Array Oper}{nx:Nat}{U:List (Nat×Nat)}{K:Env->Sto->Nat->Prop} :∀(l:List Oper) (i:Nat) (log:List (Nat×Key)) (env:Env) (σ:Sto),(∀k o,l[k]?=some o->ops[i+k]?=some o)->vLD P ops nx U K log l i env σ->jB P ops nx U (λenv σ=>K env σ (nx+8 *(i+l.length))) log (List.range' i l.length) env σ
 | [],i,log,env,σ,_,h=>by simpa [jB,vLD] using h
 |
  o::l,i,log,env,σ,ho,h=>by
  have hi:ops[i]?=some o:=by simpa using ho 0 o rfl
  have d:∀k o',l[k]?=some o'->ops[i+1+k]?=some o':=λk o' hk=>by
   rw[show i+1+k=i+(k+1) by omega];exact ho (k+1) o' (by simpa using hk)
  simp only[iO,QS]
  unfold jB
  rw[hi]
  dsimp only
  have u:i+(l.length+1)=i+1+l.length:=by omega
  rw[u]
  rcases NK h with ⟨hg,hx⟩|⟨hg,hy⟩
  . obtain⟨x,h1,h2,h3,h4⟩:=YO hg hx
    exact⟨x,h1,h2,h3 rfl,λv G y=>⟨(h4 v G y).1,JR l (i+1) _ _ _ d (h4 v G y).2⟩⟩
  . refine⟨_,.skip hg,trivial,⟨_,_,rfl,rfl⟩,λv G y=>?_⟩
    obtain⟨rfl,rfl⟩:=y
    refine⟨λe he A=>?_,?_⟩
    . exact⟨(λl d=>by simp),(λl d=>by simp at d),(λ_ l d=>by simp at d),.inl rfl⟩
    . exact QQ _ _ _ _ (JR l (i+1) log _ _ d hy)
def exN (id:Nat):Code->Nat×Nat
 | .skip=>(1,0)
 | .region .. =>(1,0)
 | .seq a b=>let x:=exN id a;let y:=exN id b;(x.1*y.1,x.2+x.1*y.2)
 | .cond _ t e=>let x:=exN id t;let y:=exN id e;(x.1+y.1,x.2+y.2)
 | .exit i=>(0,if i=id then 1 else 0)
 | .block j b=>let x:=exN id b;let y:=exN j b;(x.1+y.2,x.2)
 | .loop b=>(0,(exN id b).2)
 |_=>(0,0)
def ae3 (n0:Nat)(X:JM->Env->Sto->Nat->Prop)(Y:Env->Sto->Nat->Prop)(K:JM)(env:Env)(σ:Sto)(nx:Nat):Prop:=
 X (λx env σ nx=>match x with | .normal=>Y env σ nx | .exit id=>K (.exit id) env σ nx | .ret=>K .ret env σ nx) env σ nx\/
 ∃(T:Type) (E:T->List (Nat×AV)) (S:T->List (Option Obj)) (f:T->Prop),X (λx env σ nx=>match x with | .normal=>∃t,f t/\View n0 env σ (E t) (S t) | .exit id=>K (.exit id) env σ nx | .ret=>K .ret env σ nx) env σ nx/\∀t,f t->Y (jh (E t)) (oZ (S t)) (S t).length
def ae4 (n0:Nat)(X:JM->Env->Sto->Nat->Prop)(K:JM)(env:Env)(σ:Sto):Prop:=
 ∃(T:Type) (E:T->List (Nat×AV)) (S:T->List (Option Obj)) (f:T->Prop) (μ:T->Nat),(∃t,f t/\View n0 env σ (E t) (S t))/\
  ∀t,f t->X (λx env σ nx=>match x with | .normal=>∃u,f u/\μ u<μ t/\View n0 env σ (E u) (S u) | .exit id=>K (.exit id) env σ nx | .ret=>K .ret env σ nx) (jh (E t)) (oZ (S t)) (S t).length
def vc (P:Program)(us:Nat->List (Nat×Nat))(n0:Nat):Code->JM->Env->Sto->Nat->Prop
 | .skip,K,env,σ,nx=>K .normal env σ nx
 | .region id ops draw,K,env,σ,nx=>if draw=true then vLD P ops nx (us id) (λenv σ nx=>K .normal env σ nx) [] ops.toList 0 env σ else vL P ops nx (λenv σ nx=>K .normal env σ nx) ops.toList 0 env σ
 |
  .seq a b,K,env,σ,nx=>if (exN 0 a).1<=1 then vc P us n0 a (λx env σ nx=>match x with | .normal=>vc P us n0 b K env σ nx | .exit id=>K (.exit id) env σ nx | .ret=>K .ret env σ nx) env σ nx
  else ae3 n0 (vc P us n0 a) (vc P us n0 b K) K env σ nx
 |
  .cond c t e,K,env,σ,nx=>match ev env c with
  |some (.pv (.sc (.bool b)))=>(b=true->vc P us n0 t K env σ nx)/\(b=false->vc P us n0 e K env σ nx)
  |_=>False
 | .block id b,K,env,σ,nx=>vc P us n0 b (λx env σ nx=>match x with | .normal=>K .normal env σ nx | .exit i=>if i=id then K .normal env σ nx else K (.exit i) env σ nx | .ret=>K .ret env σ nx) env σ nx
 | .loop b,K,env,σ,nx=>ae4 n0 (vc P us n0 b) K env σ
 | .exit id,K,env,σ,nx=>K (.exit id) env σ nx
 | .ret,K,env,σ,nx=>K .ret env σ nx
 |_,_,_,_,_=>False
def nU (nt:Nat)(us:Nat->List (Nat×Nat)):Code->Bool
 | .region id ops draw=>DJ nt ops &&(!draw || aaX ops (us id))
 | .seq a b=>nU nt us a && nU nt us b
 | .cond _ t e=>nU nt us t && nU nt us e
 | .block _ b=>nU nt us b
 | .loop b=>nU nt us b
 |_=>true
def aji (P:Program)(nt n0:Nat)(X:JM->Env->Sto->Nat->Prop)(c:Code):Prop:=
 ∀(K:JM) (env:Env) (σ:Sto) (nx:Nat) (fr:Fr) (Ψ:Psi) (loc:Loc) (a:Act) (w:World),fr.n0=n0->Rel fr Ψ loc nt env σ a w->(∀l,nx<=l->loc l=none/\σ l=none)->X K env σ nx->c.wp P (aoH fr nt K) a w
theorem Vl {us:Nat->List (Nat×Nat)}{id:Nat}{ops:Array Oper}{draw:Bool}(hm:P.follows .mixedOrders=true)(hc:nU nt us (.region id ops draw)=true):aji P nt n0 (vc P us n0 (.region id ops draw)) (.region id ops draw):=by
 intro K env σ nx fr Ψ loc a w hn hr hf h;simp only[nU,cZ,xH,DZ] at hc;have u:∀k o,ops.toList[k]?=some o->ops[0+k]?=some o:=(λk o hk=>by rw[dJ,<-dH];exact hk);unfold vc at h
 cases draw with
 |
  false=>
  simp only[lS,tq] at h;have h2:=QR ops.toList 0 env σ u h;rw[dJ,nH] at h2;refine Jd hc.1 hr hf (by rw[JS];exact h2) (λa w d=>?_);obtain⟨env,σ,Ψ,loc,y,A,B⟩:=d;exact⟨env,σ,_,Ψ,loc,y,A,B⟩
 |
  true=>
  simp only[su] at h;have h2:=JR ops.toList 0 [] env σ u h;rw[dJ,nH] at h2;refine Jf hm hc.1 (by simpa using hc.2) hr hf (by rw[JS];exact h2) (λa w d=>?_);obtain⟨env,σ,Ψ,loc,y,A,B⟩:=d;exact⟨env,σ,_,Ψ,loc,y,A,B⟩
def Bg (P:Program)(env:Env)(σ:Sto):List ResultVar->Option (List AV)
 | []=>some []
 |
  .tmp t::r=>match env t,Bg P env σ r with
  |some v,some l=>some (v::l)
  |_,_=>none
 |
  .cell a t::r=>match lay P t,env a,Bg P env σ r with
  |
   some (g,k),some (.ptr l off),some vs=>match σ l with
   |some (.box cs)=>(vk g k cs off).map λv=>v::vs
   |_=>none
  |_,_,_=>none
def FP:List AV->AV
 | [v]=>v
 |vs=> .tup vs
def jC (P:Program)(n0:Nat)(rs:List ResultVar)(post:AV->List (Option Obj)->Prop)(env:Env)(σ:Sto):Prop:=
 match Bg P env σ rs with
 |none=>False
 |some vs=>∃(r:AV) (g:List (Option Obj)),post r g/\g.length<=n0+8/\View n0 (jh [(0,FP vs)]) σ [(0,r)] g
def Vm (ts:Array Value)(r:ResultVar):Sem Value:=
 match r with
 | .tmp t=>Pure.pure (ts.getD t undef)
 | .cell q t=>do loadVar t (<-asAddr (ts.getD q undef))
theorem NL {rs:List ResultVar}{vs:List AV}(hr:Rel fr Ψ loc nt env σ a w)(h:Bg P env σ rs=some vs):∃xs:List Value,(rs.mapM (Vm a.tmps)).run P w= .ok xs w/\xs.length=vs.length/\∀(j:Nat) v,vs[j]?=some v->∃x,xs[j]?=some x/\RepA Ψ loc v x:=by
 induction rs generalizing vs with
 |nil=>injection h with h;subst h;exact⟨[],by simp,rfl,λj v A=>by simp at A⟩
 |
  cons r rs ih=>
  cases r with
  |
   tmp t=>
   simp only[Bg] at h;split at h
   . rename_i v l A B;injection h with h;subst h;obtain⟨xs,D,E,G⟩:=ih B;obtain⟨x,r1,H⟩:=hr.env.rep t v A;have I:(Vm a.tmps (.tmp t)).run P w= .ok x w:=(by simp[Vm,r1]);refine⟨x::xs,by simp only[List.mapM_cons,tX,I,Eu,D,Ee],by simp[E],λj u d=>?_⟩
     cases j with
     |zero=>simp at d;subst d;exact⟨x,rfl,H⟩
     |succ j=>simpa using G j u (by simpa using d)
   cases h
  |
   cell q t=>
   simp only[Bg] at h;split at h
   . rename_i g k l off L B N J;split at h
     . rename_i cs hσ;obtain⟨v,A,rfl⟩:=map_some h;obtain⟨xs,D,E,G⟩:=ih J;obtain⟨x,r1,H⟩:=hr.env.rep q _ N
       cases H with
       |
        ptr hp=>
        obtain⟨O,U,h1,hc⟩:=Hu (fr:=fr) (hr.ok.ob l _ hσ);rw[hp] at h1;injection h1 with h1;injection h1 with h1 h2;injection h1 with h1;injection h1 with h1;subst h1;obtain⟨y,s1,s2⟩:=iE (P:=P) B A hc;rw[dJ] at s1;simp only[Instr.loadAt,Instr.sureAddr,tX,Ee,Eu] at s1;have I:(Vm a.tmps (.cell q t)).run P w= .ok y w:=(by simp[Vm,r1,asAddr,s1]);refine⟨y::xs,by simp only[List.mapM_cons,tX,I,Eu,D,Ee],by simp[E],λj u d=>?_⟩
        cases j with
        |zero=>simp at d;subst d;exact⟨y,rfl,s2⟩
        |succ j=>simpa using G j u (by simpa using d)
     cases h
   cases h
theorem abK {vs:List AV}{xs:List Value}(h1:xs.length=vs.length)(h2:∀(j:Nat) v,vs[j]?=some v->∃x,xs[j]?=some x/\RepA Ψ loc v x):RepA Ψ loc (FP vs) (if h:xs.toArray.size=1 then xs.toArray[0] else .tuple xs.toArray):=by
 have tup:RepA Ψ loc (.tup vs) (.tuple xs.toArray):=by have hf:∀j,∃x,j<vs.length->∃u,vs[j]?=some u/\xs[j]?=some x/\RepA Ψ loc u x:=(λj=>by by_cases A:j<vs.length;obtain⟨y,d,D⟩:=h2 j _ (aV A);exact⟨y,λ_=>⟨_,aV A,d,D⟩⟩;exact⟨undef,λh=>absurd h A⟩);refine .tup (λj=>(hf j).choose) (by simpa using h1) (λj A=>?_) (λj u B=>?_);obtain⟨u,_,q,_⟩:=(hf j).choose_spec A;simpa using q;obtain⟨G,d,_,q⟩:=(hf j).choose_spec (bV.1 B).1;rw[B] at d;injection d with d;rw[d];exact q
 match vs,xs,h1,h2,tup with
 |
  [v],[x],_,h2,_=>
  obtain⟨y,d,E⟩:=h2 0 v rfl;simp at d;subst d;exact E
 | [],[],_,_,tup=>exact tup
 |
  v::u::r,x::y::s,_,_,tup=>
  rw[dif_neg (by simp)];exact tup
def wL (args:List AV):List (Nat×AV):=args.zipIdx.map λp=>(p.2,p.1)
theorem Vo {f:FuncId}{fn:Func}{body:Code}{args:List AV}{pre:List Obj}{post:AV->List (Option Obj)->Prop}(hf:P.funcs[f]?=some fn)(hb:fn.body=some body)(I:args.length<=fn.ntmps)
 (h:∀(fr:Fr) (Ψ:Psi) (loc:Loc) (a:Act) (w:World),fr.n0=pre.length->Rel fr Ψ loc fn.ntmps (jh (wL args)) (oZ (pre.map some)) a w->(∀l,pre.length<=l->loc l=none/\oZ (pre.map some) l=none)->body.wp P (λe a w=>match e with
  | .normal | .ret=>∃env σ nx Ψ loc,Rel fr Ψ loc fn.ntmps env σ a w/\(∀l,nx<=l->loc l=none/\σ l=none)/\jC P pre.length fn.results.toList post env σ
  |_=>False) a w):ACallO P f args pre post:=by
 intro fr Ψ loc w vs J hn B U
 have D:vs.size=args.length:=by simpa using U.1
 refine calls_of_wp hf hb (qY (h fr Ψ loc _ w hn (⟨⟨λt v V=>?_⟩,J,?_,rfl⟩:Rel fr Ψ loc fn.ntmps _ _ _ w) (λl E=>⟨B l E,by simp[oZ,rF (show (pre.map some).length<=l by simpa using E)]⟩)) (λe a' w' G=>?_))
 . have A:=Ht V
   unfold wL at A
   obtain⟨p,X,L⟩:=iV.1 A
   obtain⟨u,k⟩:=p
   injection L with h1 h2
   subst h1 h2
   have hk:=Et.1 X
   obtain⟨x,Y,Z⟩:=U.2 k u hk
   refine⟨x,?_,Z⟩
   have N:k<vs.size:=by rw[D];exact (bV.1 hk).1
   rw[Array.getElem?_append_left N,<-dH]
   exact Y
 . simp[D]
   omega
 . have fin:(∃env σ nx Ψ loc,Rel fr Ψ loc fn.ntmps env σ a' w'/\(∀l,nx<=l->loc l=none/\σ l=none)/\jC P pre.length fn.results.toList post env σ)->bodyPost P fn (λe w'=>∃r v g Ψ' d,e= .returned r/\post v g/\pre.length<=g.length/\g.length<=pre.length+8/\RepA Ψ' d v r/\Ok fr Ψ' d (oZ g) w'/\(∀l,g.length<=l->d l=none)) .ret a' w':=λG=>by
    obtain⟨env,σ,nx,Ψ',d,hr,_,y⟩:=G
    unfold jC at y
    split at y
    . exact y.elim
    . rename_i ws O
      obtain⟨r,g,q3,q4,ls,fl,v1,v2,v3,v4,v5,v6,v7,v8⟩:=y
      obtain⟨Ψ2,g1,g2,g3⟩:=TE hr.ok v1 v2 hn v3 v4 v5 v6 v8
      obtain⟨xs,r1,r2,r3⟩:=NL hr O
      refine⟨hr.df,(if h:xs.toArray.size=1 then xs.toArray[0] else .tuple xs.toArray),?_,?_⟩
      . show ((fn.results.mapM (Vm a'.tmps)) >>=λvs=>Pure.pure (if h:vs.size=1 then vs[0] else .tuple vs)).run P w'=_
        rw[Array.mapM_eq_mapM_toList,tX]
        simp only[map_eq_pure_bind,tX,r1,Eu,Ee]
      . have H:=abK (Ψ:=Ψ') (loc:=d) r2 r3
        obtain⟨u1,u,u2,u3⟩:=v7 (0,r) (by simp)
        simp only[jh,Env.put,su] at u2
        injection u2 with u2
        subst u2
        exact⟨_,r,g,Ψ2,_,rfl,q3,v4,q4,rep_in (ρ:=lg ls) (n:=g.length) (λl E=>if_pos E) r _ (wk_rep g1 g3 _ _ _ u3 H) u1,g2,λl E=>if_neg (by omega)⟩
   cases e with
   |normal=>exact fin G
   |ret=>exact fin G
   |_=>exact G.elim
end
