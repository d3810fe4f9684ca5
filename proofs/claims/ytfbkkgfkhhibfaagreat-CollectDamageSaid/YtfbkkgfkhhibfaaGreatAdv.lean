/- Words. -/
import Derived.Test.YtfbkkgfkhhibfaaGreatAdf
set_option linter.unusedVariables false
set_option linter.unusedSimpArgs false
namespace AM
open Go Go.RowKit
inductive AX where
 |normal
 |exit (id:Nat)
 |ret
abbrev KR:=AX->Env->Sto->Nat->Prop
def agN (fr:Fr)(nt:Nat)(K:KR)(x:AX)(a:Act)(w:World):Prop:=
 ∃env σ nx Ψ loc,Rel fr Ψ loc nt env σ a w/\(∀l,nx<=l->loc l=none/\σ l=none)/\K x env σ nx
def aqB (fr:Fr)(nt:Nat)(K:KR):Exit->Act->World->Prop
 | .normal=>agN fr nt K .normal
 | .exit id=>agN fr nt K (.exit id)
 | .ret=>agN fr nt K .ret
 |_=>λ_ _=>False
def lG (ls:List Nat):Nat->Nat:=λl=>ls.getD l 0
def jR:List (Nat×AV)->Env
 | []=>λ_=>none
 |(t,v)::r=>(jR r).put (some t) v
def sH (σ:Sto)(fl:List (Nat×Option (List CT)))(r:Nat):Option PV:=
 match fl.find? (λp=>p.1==r),σ r with
 |some (_,none),some (.row _ _ els)=>some (.sl els)
 |some (_,some cts),some (.row _ _ els)=>some (.tr cts els.length)
 |_,_=>none
def rY (p:PV)(n:Nat):Prop:=
 match p with
 | .sl els=>els.length=n
 | .tr _ m=>m=n
 |_=>False
mutual
def wk (F:Nat->Option PV):AV->AV->Prop
 | .emp,.pv p=>p= .sl []\/∃cts,p= .tr cts 0
 | .own r n,.pv p=>F r=some p/\rY p n
 | .agg cs,.agg ds=>wkL F cs ds
 | .tup cs,.tup ds=>wkL F cs ds
 |v,u=>v=u
def wkL (F:Nat->Option PV):List AV->List AV->Prop
 | [],[]=>True
 |v::r,u::s=>wk F v u/\wkL F r s
 |_,_=>False
end
def WO (F:Nat->Option PV):Obj->Obj->Prop
 | .box cs,.box ds=>wkL F cs ds
 |o,o'=>o=o'
def yL (σ:Sto)(p:Nat×Option (List CT)):Prop:=
 match p.2,σ p.1 with
 |none,some (.row ..)=>True
 |some cts,some (.row _ k els)=>cts.length=k/\cts≠ []/\∀row∈els,∀(j:Nat) ct q,cts[j]?=some ct->row[j]?=some q->ct.ok q
 |_,_=>False
def acZ (S:List (Option Obj))(ls:List Nat):Prop:=∀k k' o o',S[k]?=some (some o)->S[k']?=some (some o')->lG ls k=lG ls k'->k=k'
def View (n0:Nat)(env:Env)(σ:Sto)(E:List (Nat×AV))(S:List (Option Obj)):Prop:=
 ∃(ls:List Nat) (fl:List (Nat×Option (List CT))),ls.length=S.length/\acZ S ls/\(∀k,k<n0->lG ls k=k)/\n0<=S.length/\(∀p∈fl,yL σ p)/\(fl.map (·.1)).Nodup/\
  (∀p∈E,p.2.lb S.length=true/\∃v,env p.1=some v/\wk (sH σ fl) v (p.2.ren (lG ls)))/\
  ∀p∈S.zipIdx,∀o,p.1=some o->o.lb S.length=true/\lG ls p.2∉fl.map (·.1)/\∃o',σ (lG ls p.2)=some o'/\WO (sH σ fl) o' (o.ren (lG ls))
theorem Iu {E:List (Nat×AV)}{t:Nat}{v:AV}(h:jR E t=some v):(t,v)∈E:=by
 induction E with
 |nil=>cases h
 |
  cons p r ih=>
  obtain⟨d,v'⟩:=p;simp only[jR,Env.put] at h;split at h;rename_i he;injection h with h;subst he h;simp;exact KT _ (ih h)
theorem EY {S:List (Option Obj)}{l:Nat}{o:Obj}(h:pX S l=some o):S[l]?=some (some o):=by
 unfold pX at h
 cases hs:S[l]? with
 |none=>simp [hs] at h
 |some q=>simp [hs] at h;rw[h]
section
variable {P : Program} {fr : Fr} {Ψ : Psi} {loc : Loc} {nt n0 : Nat} {env : Env} {σ : Sto} {a : Act} {w : World}
theorem ac0 {S:List (Option Obj)}{ls:List Nat}(h:Ok fr Ψ loc σ w)(h1:ls.length=S.length)(h2:acZ S ls)(hn:fr.n0=n0)(h3:∀k,k<n0->lG ls k=k)(h4:n0<=S.length)(h5:∀p∈S.zipIdx,∀o,p.1=some o->o.lb S.length=true/\σ (lG ls p.2)=some (o.ren (lG ls))):
 Ok fr Ψ (λl=>if l<S.length then loc (lG ls l) else none) (pX S) w:=by have B:∀l,l<S.length->(λl=>if l<S.length then loc (lG ls l) else none) l=loc (lG ls l):=(λl B=>by dsimp only;rw[if_pos B]);have D:∀l o,pX S l=some o->l<S.length/\o.lb S.length=true/\σ (lG ls l)=some (o.ren (lG ls)):=(λl o ho=>by have J:=EY ho;have:=h5 (some o,l) (by rw[EZ];exact J) o rfl;exact⟨(dD.1 J).1,this⟩);have hb:∀l,l<S.length->blk (λl=>if l<S.length then loc (lG ls l) else none) l=blk loc (lG ls l):=(λl d=>by unfold blk;rw[B l d]);have E:=h2;refine⟨h.fz,h.tb,λl o ho=>?_,λl l' o o' b ho q h1 h2=>?_,λl o b ho h1=>?_,h.tf,h.pr,h.sz,h.os,h.pz,h.le0,λl d=>?_⟩;obtain⟨u,L,y⟩:=D l o ho;exact Nc (ρ:=lG ls) B u (h.ob _ _ y) L;obtain⟨u,_,y⟩:=D l o ho;obtain⟨G,_,H⟩:=D l' o' q;rw[hb l u] at h1;rw[hb l' G] at h2;exact E l l' _ _ (EY ho) (EY q) (h.dj _ _ _ _ b y H h1 h2);obtain⟨u,_,y⟩:=D l o ho;rw[hb l u] at h1;exact h.ow _ _ b y h1;have I:l<n0:=(by omega);obtain⟨e,r1,M⟩:=h.l0 l d;refine⟨e,r1,?_⟩;rw[if_pos (by omega),h3 l I];exact M
mutual
theorem wk_rep {F:Nat->Option PV}{Ψ Ψ':Psi}{loc:Loc}(hΨ:Ψ.le Ψ')(hF:∀r p n,F r=some p->rY p n->∀x,RepA Ψ loc (.own r n) x->Rep Ψ' p x):∀(v u:AV) (x:Value),wk F v u->RepA Ψ loc v x->RepA Ψ' loc u x
 |
  .emp,u,x,h,hr=>by
  cases u with
  |
   pv p=>
   simp only[wk] at h
   cases hr with
   |
    emp=>
    rcases h with rfl|⟨cts,rfl⟩
    . exact .pv (.nil λ_=>rfl)
    . exact .pv .tr0
  |emp=>exact hr.mono hΨ (.refl _)
  |_=>simp only[wk] at h;cases h
 |
  .own r n,u,x,h,hr=>by
  cases u with
  |pv p=>simp only[wk] at h;exact .pv (hF r p n h.1 h.2 x hr)
  |_=>simp only[wk] at h;first|(rw[<-h];exact hr.mono hΨ (.refl _))|cases h
 |
  .agg cs,u,x,h,hr=>by
  cases u with
  |
   agg ds=>
   simp only[wk] at h
   cases hr with
   |
    agg f hs hx hr2=>
    obtain⟨h1,h2⟩:=wk_repL hΨ hF cs ds f h hr2
    exact .agg f (by rw[hs,h1]) (λj d=>hx j (by rw[h1];exact d)) h2
  |_=>simp only[wk] at h;first|(rw[<-h];exact hr.mono hΨ (.refl _))|cases h
 |
  .tup cs,u,x,h,hr=>by
  cases u with
  |
   tup ds=>
   simp only[wk] at h
   cases hr with
   |
    tup f hs hx hr2=>
    obtain⟨h1,h2⟩:=wk_repL hΨ hF cs ds f h hr2
    exact .tup f (by rw[hs,h1]) (λj d=>hx j (by rw[h1];exact d)) h2
  |_=>simp only[wk] at h;first|(rw[<-h];exact hr.mono hΨ (.refl _))|cases h
 | .pv p,u,x,h,hr=>by cases u<;>simp only[wk] at h<;>first|(rw[<-h];exact hr.mono hΨ (.refl _))|cases h
 | .ptr l o,u,x,h,hr=>by cases u<;>simp only[wk] at h<;>first|(rw[<-h];exact hr.mono hΨ (.refl _))|cases h
 | .rp r k i o,u,x,h,hr=>by cases u<;>simp only[wk] at h<;>first|(rw[<-h];exact hr.mono hΨ (.refl _))|cases h
 | .fp row o,u,x,h,hr=>by cases u<;>simp only[wk] at h<;>first|(rw[<-h];exact hr.mono hΨ (.refl _))|cases h
 | .tp cts j,u,x,h,hr=>by cases u<;>simp only[wk] at h<;>first|(rw[<-h];exact hr.mono hΨ (.refl _))|cases h
theorem wk_repL {F:Nat->Option PV}{Ψ Ψ':Psi}{loc:Loc}(hΨ:Ψ.le Ψ')(hF:∀r p n,F r=some p->rY p n->∀x,RepA Ψ loc (.own r n) x->Rep Ψ' p x):∀(cs d:List AV) (f:Nat->Value),wkL F cs d->(∀j v,cs[j]?=some v->RepA Ψ loc v (f j))->cs.length=d.length/\∀(j:Nat) v,d[j]?=some v->RepA Ψ' loc v (f j)
 | [],[],f,h,hr=>⟨rfl,λj v q=>by simp at q⟩
 | [],u::s,f,h,hr=>by simp only[wkL] at h
 |v::r,[],f,h,hr=>by simp only[wkL] at h
 |
  v::r,u::s,f,h,hr=>by
  simp only[wkL] at h
  obtain⟨h1,h2⟩:=wk_repL hΨ hF r s (λj=>f (j+1)) h.2 (λj v q=>hr (j+1) v (by simpa using q))
  refine⟨by simp[h1],λj B y=>?_⟩
  cases j with
  |zero=>simp at y;subst y;exact wk_rep hΨ hF v u _ h.1 (hr 0 v rfl)
  |succ j=>exact h2 j B (by simpa using y)
end
theorem Ok.give {r:Nat}{p:Nat×Option (List CT)}(h:Ok fr Ψ loc σ w)(X:p.1=r)(d:yL σ p):∃Ψ',Ψ.le Ψ'/\Ok fr Ψ' loc (σ.upd r none) w/\∀q n,sH σ [p] r=some q->rY q n->∀x,RepA Ψ loc (.own r n) x->Rep Ψ' q x:=by
 obtain⟨Y,L⟩:=p;dsimp only at X;subst X;unfold yL at d;dsimp only at d
 cases hσ:σ Y with
 |none=>rw [hσ] at d;cases L<;>exact d.elim
 |
  some o=>
  cases o with
  |box cs=>rw [hσ] at d;cases L<;>exact d.elim
  |
   row e k els=>
   obtain⟨A,c,h1,h2⟩:=h.ob _ _ hσ;have N:=h.drop Y;rcases h2 with ⟨rfl,rfl⟩|⟨h0,g,cur,rfl,hh,hec,hcm,hcs,hrk,hcr⟩
   . refine⟨Ψ,.refl _,N,λq n D hn x hx=>?_⟩
     cases hx with
     |
      own u hn'=>
      rw[h1] at u;injection u with u;injection u with B hl2;subst B hl2;have O:n=0:=(by omega);subst O
      cases L with
      |none=>simp [sH,hσ] at D;subst D;exact .nil λ_=>rfl
      |some cts=>simp [sH,hσ] at D;subst D;exact .tr0
   . obtain⟨Z,rfl⟩:∃Z,c=Z+1:=⟨c-1,by omega⟩;have hb:=tK h1;have hf:=h.free hσ hb
     cases L with
     |
      none=>
      have hle:=hf.le_fz cur;refine⟨Ψ.addFz g cur,hle,N.freeze hf hh,λq n D hn x hx=>?_⟩;simp[sH,hσ] at D;subst D
      cases hx with
      |
       own u hn'=>
       rw[h1] at u;injection u with u;injection u with B hl2;subst B hl2;simp only[rY] at hn
       have hF:∀E j,∃y,∀p,cellOf els E j=some p->cur[E*k+j]?=some y/\Rep Ψ p y:=λE j=>by
        cases hc:cellOf els E j with
        |none=>exact ⟨undef,λp h=>by cases h⟩
        |
         some p0=>
         obtain⟨y,M,R⟩:=hcr E j p0 hc;exact⟨y,λp h=>by injection h with h;subst h;exact⟨M,R⟩⟩
       refine .sl (k:=k) (λa b=>(hF a b).choose) hn hn' hrk (λE j p hc=>?_) (λE j p hc=>((hF E j).choose_spec p hc).2.mono hle);show (if g=g then cur[0+(E*k+j)]? else _)=_;rw[if_pos rfl,eX];exact ((hF E j).choose_spec p hc).1
     |
      some cts=>
      rw[hσ] at d;obtain⟨hk,H,U⟩:=d;have I:0<k:=(by rw[<-hk];exact List.length_pos_iff.2 H);have hle:=hf.le_tb (cts,els.length*k);have hmul:els.length*k<=cur.size:=(by rw[hcs];exact lN _ hec);refine⟨Ψ.addTb g (cts,els.length*k),hle,N.typed hf hmul hh (λo ct ho hc=>?_),λq n D hn x hx=>?_⟩;rw[hk] at hc;have hi:o/k<els.length:=(aaj I).2 ho;have J:=hrk els[o/k] (eu hi);have hj:o%k<els[o/k].length:=(by rw[J];exact tq _ I);have G:cellOf els (o/k) (o%k)=some els[o/k][o%k]:=(by simp[cellOf,aX hi,aX hj]);obtain⟨y,M,R⟩:=hcr _ _ _ G;have V:o/k*k+o%k=o:=(by rw[S9];exact Nat.div_add_mod o k);rw[V] at M;exact⟨_,y,M,U _ (eu hi) _ ct _ hc (aX hj),R⟩
      . simp[sH,hσ] at D;subst D
        cases hx with
        |
         own u hn'=>
         rw[h1] at u;injection u with u;injection u with B hl2;subst B hl2;simp only[rY] at hn;subst hn;exact .tr (m:=els.length*k) (by simp[Psi.addTb]) H (Tc _) hn' (by rw[hk];omega)
theorem ac1 {p:Nat×Option (List CT)}{r:List (Nat×Option (List CT))}{l:Nat}{q:PV}{o:Option Obj}(u:p.1∉r.map (·.1))(h:sH σ (p::r) l=some q):(l=p.1/\sH σ [p] p.1=some q)\/(l≠p.1/\sH (σ.upd p.1 none) r l=some q):=by by_cases d:l=p.1;subst d;exact .inl ⟨rfl,by simpa [sH] using h⟩;refine .inr ⟨d,?_⟩;have hb:(p.1==l)=false:=(by simpa using λe=>d e.symm);simp only[sH,SK,hb] at h;unfold sH;rw[upd_ne _ _ d];exact h
theorem Ok.gives:∀(fl:List (Nat×Option (List CT))) {Ψ:Psi}{σ:Sto},Ok fr Ψ loc σ w->(fl.map (·.1)).Nodup->(∀p∈fl,yL σ p)->∃Ψ',Ψ.le Ψ'/\Ok fr Ψ' loc (λl=>if l∈fl.map (·.1) then none else σ l) w/\∀r p n,sH σ fl r=some p->rY p n->∀x,RepA Ψ loc (.own r n) x->Rep Ψ' p x
 | [],Ψ,σ,h,_,_=>⟨Ψ,.refl _,by simpa using h,λr p n u=>by simp[sH] at u⟩
 |
  p::fl,Ψ,σ,h,hn,hok=>by
  simp only[kD,vY] at hn
  obtain⟨Ψ1,h1,h2,h3⟩:=h.give rfl (hok p (by simp))
  obtain⟨Ψ2,D,E,G⟩:=Ok.gives fl h2 hn.2 (λq u=>by
   have y:q.1≠p.1:=λe=>hn.1 (iK.2 ⟨q,u,e⟩)
   have:=hok q (by simp[u])
   unfold yL at this|-
   rw[upd_ne _ _ y]
   exact this)
  refine⟨Ψ2,h1.trans D,?_,λr q n u hm x hx=>?_⟩
  . have he:(λl=>if l∈fl.map (·.1) then none else (σ.upd p.1 none) l)=λl=>if l∈(p::fl).map (·.1) then none else σ l:=by
     funext l
     simp only[kD,fV]
     by_cases B:l=p.1
     . subst B;simp[upd_eq]
     . rw[upd_ne _ _ B]
       simp only[B,false_or]
    rw[<-he]
    exact E
  . rcases ac1 (o:=none) hn.1 u with ⟨rfl,d⟩|⟨y,d⟩
    . exact (h3 q n d hm x hx).mono D
    . exact G r q n d hm x (hx.mono h1 (.refl _))
theorem WQ {F:Nat->Option PV}{Ψ Ψ':Psi}{l:Nat}(hΨ:Ψ.le Ψ')(hF:∀r p n,F r=some p->rY p n->∀x,RepA Ψ loc (.own r n) x->Rep Ψ' p x){o o':Obj}(hw:WO F o o')(h:Holds Ψ loc w l o):Holds Ψ' loc w l o':=by
 cases o with
 |
  row e k els=>
  ((have:o'= .row e k els:=by cases o'<;>simp only[WO] at hw<;>first|exact hw.symm|cases hw);subst this);exact h.same hΨ (.refl _) (λ_ _=>rfl)
 |
  box cs=>
  cases o' with
  |row e k els=>simp only[WO] at hw;cases hw
  |
   box ds=>
   simp only[WO] at hw;obtain⟨b,c,arr,ty,h1,h2,h3,h4⟩:=h
   have hf:∀j:Nat,∃x,∀v,cs[j]?=some v->arr[j]?=some x/\x.oneCell'=true/\RepA Ψ loc v x:=λj=>by
    cases hc:cs[j]? with
    |none=>exact ⟨undef,λv h=>by cases h⟩
    |
     some v0=>
     obtain⟨x,q⟩:=h4 j v0 hc;exact⟨x,λv h=>by injection h with h;subst h;exact q⟩
   obtain⟨u,y⟩:=wk_repL hΨ hF cs ds (λj=>(hf j).choose) hw (λj v d=>((hf j).choose_spec v d).2.2);refine⟨b,c,arr,ty,h1,h2,by rw[h3,u],λj v d=>?_⟩;have B:j<cs.length:=(by rw[u];exact (dD.1 d).1);have:=(hf j).choose_spec _ (aX B);exact⟨_,this.1,this.2.1,y j v d⟩
theorem UZ {S:List (Option Obj)}{ls:List Nat}{fl:List (Nat×Option (List CT))}(h:Ok fr Ψ loc σ w)(h1:ls.length=S.length)(h2:acZ S ls)(hn:fr.n0=n0)(h3:∀k,k<n0->lG ls k=k)(h4:n0<=S.length)(L:∀p∈fl,yL σ p)(hnd:(fl.map (·.1)).Nodup)
 (X:∀p∈S.zipIdx,∀o,p.1=some o->o.lb S.length=true/\lG ls p.2∉fl.map (·.1)/\∃o',σ (lG ls p.2)=some o'/\WO (sH σ fl) o' (o.ren (lG ls))):
 ∃Ψ',Ψ.le Ψ'/\Ok fr Ψ' (λl=>if l<S.length then loc (lG ls l) else none) (pX S) w/\∀r p n,sH σ fl r=some p->rY p n->∀x,RepA Ψ loc (.own r n) x->Rep Ψ' p x:=by
 obtain⟨Ψ',Y,u,Z⟩:=h.gives fl hnd L;refine⟨Ψ',Y,?_,Z⟩;let τ:Sto:=λq=>((S.zipIdx.find? (λp=>p.1.isSome && lG ls p.2==q)).bind (·.1)).map (Obj.ren (lG ls))
 have hτ:∀k o,S[k]?=some (some o)->τ (lG ls k)=some (o.ren (lG ls)):=λk o hk=>by
  have M:k<S.length:=(dD.1 hk).1;have:S.zipIdx.find? (λp=>p.1.isSome && lG ls p.2==lG ls k)=some (some o,k):=by
   rw[List.find?_eq_some_iff_append];have a6:S[k]=some o:=(dD.1 hk).2;refine⟨by simp,S.zipIdx.take k,S.zipIdx.drop (k+1),?_,λp B=>?_⟩;have J:S.zipIdx[k]?=some (some o,k):=(by simp[hk]);have G:k<S.zipIdx.length:=(by simpa using M);rw[aX G] at J;injection J with J;rw[<-J,<-nM G,ES]
   . obtain⟨n,hn⟩:=rM.1 B;rw[rZ] at hn;split at hn
     . rename_i a7;simp only[List.getElem?_zipIdx] at hn;obtain⟨q,d,rfl⟩:=mO.1 hn;simp only[eX,Et,AY,fO,ne_eq]
       cases q with
       |none=>exact .inl rfl
       |
        some o1=>
        refine .inr λe=>?_;have:=h2 n k _ _ d hk e;omega
     cases hn
  show ((S.zipIdx.find? (λp=>p.1.isSome && lG ls p.2==lG ls k)).bind (·.1)).map _=_;rw[this];rfl
 have hτ2:∀q o,τ q=some o->∃k o0,S[k]?=some (some o0)/\q=lG ls k/\o=o0.ren (lG ls):=(λq o d=>by obtain⟨o0,N,rfl⟩:=mO.1 d;obtain⟨p,B,H⟩:=Option.bind_eq_some_iff.1 N;have I:=List.mem_of_find?_eq_some B;have D:=List.find?_some B;obtain⟨po,pk⟩:=p;dsimp only at H D;subst H;simp only[Option.isSome_some,xh,eG] at D;exact⟨pk,o0,EZ.1 I,D.symm,rfl⟩);have y:∀q o,τ q=some o->∃o',σ q=some o'/\q∉fl.map (·.1)/\WO (sH σ fl) o' o:=(λq o d=>by obtain⟨k,o0,hk,rfl,rfl⟩:=hτ2 q o d;obtain⟨_,O,o',R,r4⟩:=X (some o0,k) (EZ.2 hk) o0 rfl;exact⟨o',R,O,r4⟩);have Uτ:Ok fr Ψ' loc τ w:=(by have E:∀q o,τ q=some o->∃o',(λl=>if l∈fl.map (·.1) then none else σ l) q=some o':=(λq o d=>by obtain⟨o',r1,O,_⟩:=y q o d;exact⟨o',by dsimp only;rw[if_neg O];exact r1⟩);refine⟨u.fz,u.tb,λq o d=>?_,λq q' o o' b d V=>?_,λq o b d=>?_,u.tf,u.pr,u.sz,u.os,u.pz,u.le0,u.l0⟩;obtain⟨o',r1,_,R⟩:=y q o d;exact WQ Y Z R (h.ob q o' r1);obtain⟨_,s1⟩:=E q o d;obtain⟨_,s2⟩:=E q' o' V;exact u.dj q q' _ _ b s1 s2;obtain⟨_,s1⟩:=E q o d;exact u.ow q _ b s1);exact ac0 Uτ h1 h2 hn h3 h4 (λp B o ho=>by obtain⟨po,pk⟩:=p;dsimp only at ho;subst ho;exact⟨(X _ B o rfl).1,hτ pk o (EZ.1 B)⟩)
theorem yK {E:List (Nat×AV)}{S:List (Option Obj)}(hr:Rel fr Ψ loc nt env σ a w)(hn:fr.n0=n0)(h:View n0 env σ E S):∃Ψ' loc',Rel fr Ψ' loc' nt (jR E) (pX S) a w/\∀l,S.length<=l->loc' l=none/\pX S l=none:=by obtain⟨ls,fl,h1,h2,h3,h4,h5,q,y,B⟩:=h;obtain⟨Ψ',D,G,H⟩:=UZ hr.ok h1 h2 hn h3 h4 h5 q B;refine⟨Ψ',_,⟨⟨λt v I=>?_⟩,G,hr.sz,hr.df⟩,λl d=>⟨if_neg (by omega),by simp[pX,uw d]⟩⟩;obtain⟨J,u,L,M⟩:=y _ (Iu I);obtain⟨x,r1,N⟩:=hr.env.rep t _ L;exact⟨x,r1,rep_in (ρ:=lG ls) (λl d=>if_pos d) v x (wk_rep D H u _ x M N) J⟩
def mJ (P:Program)(dr:Bool)(f:FuncId)(nx i:Nat)(fD:List (Option AV))(σ:Sto)(K:AV->List (Nat×Option Obj)->Key->Prop):Prop:=
 ∃(asl:List AV) (pre:List Obj) (post:AV->List (Option Obj)->Prop) (ls:List Nat),isGo P f=true/\ACall P f asl pre post/\fD=(AV.renL (rho ls (nx+8*i)) asl).map some/\AV.lbL pre.length asl=true/\pre.all (Obj.lb pre.length)=true/\ls.length=pre.length/\ls.Nodup/\ls.all (λl=>!own nx i l)=true/\
  (∀k o,pre[k]?=some o->σ (ls.getD k 0)=some (o.ren (rho ls (nx+8*i))))/\(dr=true->∃r g,post r g/\pre.length<=g.length/\g.length<=pre.length+8)/\
  ∀r g,post r g->pre.length<=g.length->g.length<=pre.length+8->K (r.ren (rho ls (nx+8*i))) (renG (rho ls (nx+8*i)) g) ⟨[],ls,false,true,true⟩
def agO (d:Option DO)(nx i:Nat)(K:AV->List (Nat×Option Obj)->Key->Prop):Prop:=
 match d with
 |none=>False
 |some d=>d.ok/\∀v,d.out v->K v d.upd ⟨d.rd,d.wr.filter (λl=>!own nx i l),d.det,false,true⟩
def vX (P:Program)(dr:Bool)(nx i:Nat)(o:Oper)(env:Env)(σ:Sto)(K:AV->List (Nat×Option Obj)->Key->Prop):Prop:=
 match o.op with
 | .call { callee:= .value (.func f),args:=args,argTypes:=_ } =>mJ P dr f nx i (args.toList.map (ev env)) σ K
 |_=>agO (dop P o (ev env) σ (nx+8*i)) nx i K
def vG (ops:Array Oper)(o:Oper)(env:Env)(X Y:Env->Prop):Prop:=
 match o.guard with
 |none=>X env
 |
  some (g,want)=>match (ops[g]?).bind (·.dst) with
  |none=>False
  |
   some d=>match env d with
   |some (.pv (.sc (.bool b)))=>(b=true->if want=true then X (env.put (some d) (.pv (.sc (.bool true)))) else Y (env.put (some d) (.pv (.sc (.bool true)))))/\(b=false->if want=true then Y (env.put (some d) (.pv (.sc (.bool false)))) else X (env.put (some d) (.pv (.sc (.bool false)))))
   |some (.tup [])=>Y env
   |_=>False
def vL (P:Program)(ops:Array Oper)(nx:Nat)(K:Env->Sto->Nat->Prop):List Oper->Nat->Env->Sto->Prop
 | [],i,env,σ=>K env σ (nx+8*i)
 |o::l,i,env,σ=>vG ops o env (λenv=>vX P false nx i o env σ (λv G _=>vL P ops nx K l (i+1) (env.put o.dst v) (σ.upds G))) (λenv=>vL P ops nx K l (i+1) (env.put o.dst (.tup [])) σ)
def vLD (P:Program)(ops:Array Oper)(nx:Nat)(U:List (Nat×Nat))(K:Env->Sto->Nat->Prop):List (Nat×Key)->List Oper->Nat->Env->Sto->Prop
 |_,[],i,env,σ=>K env σ (nx+8*i)
 |log,o::l,i,env,σ=>vG ops o env (λenv=>vX P true nx i o env σ (λv G k=>(∀e∈log,(e.1,i)∈U->qW (nx+8*e.1) e.2 k)/\vLD P ops nx U K (log++[(i,k)]) l (i+1) (env.put o.dst v) (σ.upds G))) (λenv=>vLD P ops nx U K log l (i+1) (env.put o.dst (.tup [])) σ)
theorem OQ {d:Nat}{v:AV}(h:env d=some v):env.put (some d) v=env:=by funext t;simp only[Env.put];split;rename_i e;rw[e,h];rfl
theorem aeD {I:Bool}{ops:Array Oper}{nx i:Nat}{o:Oper}{K:AV->List (Nat×Option Obj)->Key->Prop}(hg:gate ops o env=some true)(h:vX P I nx i o env σ K):∃x,Sp P ops nx i o env σ x/\x.ok/\(I=true->∃v G,x.out v G)/\∀v G,x.out v G->K v G x.key:=by unfold vX at h;split at h;rename_i f args ats ho;obtain⟨asl,pre,post,ls,h1,h2,h3,h4,h5,J,L,M,N,B,D⟩:=h;refine⟨_,.call hg ho h1 h2 h3 h4 h5 J L M N,trivial,λy=>?_,λv G q=>?_⟩;obtain⟨r,g,u,E,H⟩:=B y;exact⟨_,_,r,g,u,E,H,rfl,rfl⟩;obtain⟨r,g,u,E,H,rfl,rfl⟩:=q;exact D r g u E H;unfold agO at h;split at h;exact h.elim;rename_i d y;refine⟨_,.op hg y,h.1,λ_=>?_,λv G q=>?_⟩;obtain⟨v,q⟩:=(aak y).inh h.1;exact⟨v,_,q,rfl⟩;obtain⟨u,rfl⟩:=q;exact h.2 v u
theorem OT {ops:Array Oper}{o:Oper}{X Y:Env->Prop}(h:vG ops o env X Y):(gate ops o env=some true/\X env)\/(gate ops o env=some false/\Y env):=by
 unfold vG at h;split at h;rename_i hg;exact .inl ⟨by simp[gate,hg],h⟩
 . rename_i g want hg;split at h;exact h.elim
   . rename_i d q;split at h
     . rename_i b hb;have hgate:gate ops o env=some (b==want):=(by simp only[gate,hg,q,hb]);rw[hgate]
       cases b
       . have h2:=h.2 rfl;rw[OQ hb] at h2
         cases want
         exact .inl ⟨rfl,by simpa using h2⟩;exact .inr ⟨rfl,by simpa using h2⟩
       . have h2:=h.1 rfl;rw[OQ hb] at h2
         cases want
         exact .inr ⟨rfl,by simpa using h2⟩;exact .inl ⟨rfl,by simpa using h2⟩
     rename_i hb;exact .inr ⟨by simp only[gate,hg,q,hb],h⟩;exact h.elim
theorem zS {ops:Array Oper}{nx i:Nat}{U:List (Nat×Nat)}{K:Env->Sto->Prop} :∀(l:List Nat) (log d:List (Nat×Key)) (env:Env) (σ:Sto),jG P ops nx U K (log++d) l env σ->jG P ops nx U K (log++(i,⟨[],[],true,false,false⟩)::d) l env σ
 | [],_,_,_,_,h=>h
 |
  j::l,log,d,env,σ,h=>by
  unfold jG at h|-
  cases hj:ops[j]? with
  |none=>simp only[hj] at h|-;exact zS l log d env σ h
  |
   some o=>
   simp only[hj] at h|-
   refine nC h (λe s k hk=>⟨λx hx q=>?_,?_⟩)
   . rcases ja.1 hx with hx|hx
     . exact hk.1 x (Eh _ hx) q
     . rcases fV.1 hx with rfl|hx
       . exact⟨(λl u=>by simp at u),(λl _=>by simp),(λh=>by cases h),.inr rfl⟩
       . exact hk.1 x (Ei _ hx) q
   . have:=zS (i:=i) l log (d++[(j,k)]) e s (by rw[<-fM];exact hk.2)
     simpa using this
theorem Td {ops:Array Oper}{nx i:Nat}{U:List (Nat×Nat)}{K:Env->Sto->Prop} :∀(l:List Nat) (log:List (Nat×Key)) (env:Env) (σ:Sto),jG P ops nx U K log l env σ->jG P ops nx U K (log++[(i,⟨[],[],true,false,false⟩)]) l env σ:=λl log env σ h=>zS l log [] env σ (by simpa using h)
theorem Tf {ops:Array Oper}{nx:Nat}{K:Env->Sto->Nat->Prop} :∀(l:List Oper) (i:Nat) (env:Env) (σ:Sto),(∀k o,l[k]?=some o->ops[i+k]?=some o)->vL P ops nx K l i env σ->Om P ops nx (λenv σ=>K env σ (nx+8 *(i+l.length))) (List.range' i l.length) env σ
 | [],i,env,σ,_,h=>by simpa [Om,vL] using h
 |
  o::l,i,env,σ,ho,h=>by
  have hi:ops[i]?=some o:=by simpa using ho 0 o rfl
  have u:∀k o',l[k]?=some o'->ops[i+1+k]?=some o':=λk o' hk=>by
   rw[show i+1+k=i+(k+1) by omega];exact ho (k+1) o' (by simpa using hk)
  have hlen:i+(o::l).length=i+1+l.length:=by simp;omega
  simp only[iR,Ti]
  unfold Om
  rw[hi]
  dsimp only
  have d:i+(l.length+1)=i+1+l.length:=by omega
  rw[d]
  rcases OT h with ⟨hg,hx⟩|⟨hg,hy⟩
  . obtain⟨x,h1,h2,_,h3⟩:=aeD hg hx
    exact⟨x,h1,h2,λv G q=>Tf l (i+1) _ _ u (h3 v G q)⟩
  . exact⟨_,.skip hg,trivial,λv G q=>by
     obtain⟨rfl,rfl⟩:=q
     exact Tf l (i+1) _ _ u hy⟩
theorem KU {ops:Array Oper}{nx:Nat}{U:List (Nat×Nat)}{K:Env->Sto->Nat->Prop} :∀(l:List Oper) (i:Nat) (log:List (Nat×Key)) (env:Env) (σ:Sto),(∀k o,l[k]?=some o->ops[i+k]?=some o)->vLD P ops nx U K log l i env σ->jG P ops nx U (λenv σ=>K env σ (nx+8 *(i+l.length))) log (List.range' i l.length) env σ
 | [],i,log,env,σ,_,h=>by simpa [jG,vLD] using h
 |
  o::l,i,log,env,σ,ho,h=>by
  have hi:ops[i]?=some o:=by simpa using ho 0 o rfl
  have d:∀k o',l[k]?=some o'->ops[i+1+k]?=some o':=λk o' hk=>by
   rw[show i+1+k=i+(k+1) by omega];exact ho (k+1) o' (by simpa using hk)
  simp only[iR,Ti]
  unfold jG
  rw[hi]
  dsimp only
  have q:i+(l.length+1)=i+1+l.length:=by omega
  rw[q]
  rcases OT h with ⟨hg,hx⟩|⟨hg,hy⟩
  . obtain⟨x,h1,h2,h3,h4⟩:=aeD hg hx
    exact⟨x,h1,h2,h3 rfl,λv G u=>⟨(h4 v G u).1,KU l (i+1) _ _ _ d (h4 v G u).2⟩⟩
  . refine⟨_,.skip hg,trivial,⟨_,_,rfl,rfl⟩,λv G u=>?_⟩
    obtain⟨rfl,rfl⟩:=u
    refine⟨λe he y=>?_,?_⟩
    . exact⟨(λl d=>by simp),(λl d=>by simp at d),(λ_ l d=>by simp at d),.inl rfl⟩
    . exact Td _ _ _ _ (KU l (i+1) log _ _ d hy)
def exN (id:Nat):Code->Nat×Nat
 | .skip=>(1,0)
 | .region .. =>(1,0)
 | .seq a b=>let x:=exN id a;let y:=exN id b;(x.1*y.1,x.2+x.1*y.2)
 | .cond _ t e=>let x:=exN id t;let y:=exN id e;(x.1+y.1,x.2+y.2)
 | .exit i=>(0,if i=id then 1 else 0)
 | .block j b=>let x:=exN id b;let y:=exN j b;(x.1+y.2,x.2)
 | .loop b=>(0,(exN id b).2)
 |_=>(0,0)
def agQ (n0:Nat)(X:KR->Env->Sto->Nat->Prop)(Y:Env->Sto->Nat->Prop)(K:KR)(env:Env)(σ:Sto)(nx:Nat):Prop:=
 X (λx env σ nx=>match x with | .normal=>Y env σ nx | .exit id=>K (.exit id) env σ nx | .ret=>K .ret env σ nx) env σ nx\/
 ∃(T:Type) (E:T->List (Nat×AV)) (S:T->List (Option Obj)) (f:T->Prop),X (λx env σ nx=>match x with | .normal=>∃t,f t/\View n0 env σ (E t) (S t) | .exit id=>K (.exit id) env σ nx | .ret=>K .ret env σ nx) env σ nx/\∀t,f t->Y (jR (E t)) (pX (S t)) (S t).length
def agR (n0:Nat)(X:KR->Env->Sto->Nat->Prop)(K:KR)(env:Env)(σ:Sto):Prop:=
 ∃(T:Type) (E:T->List (Nat×AV)) (S:T->List (Option Obj)) (f:T->Prop) (μ:T->Nat),(∃t,f t/\View n0 env σ (E t) (S t))/\
  ∀t,f t->X (λx env σ nx=>match x with | .normal=>∃u,f u/\μ u<μ t/\View n0 env σ (E u) (S u) | .exit id=>K (.exit id) env σ nx | .ret=>K .ret env σ nx) (jR (E t)) (pX (S t)) (S t).length
def vc (P:Program)(us:Nat->List (Nat×Nat))(n0:Nat):Code->KR->Env->Sto->Nat->Prop
 | .skip,K,env,σ,nx=>K .normal env σ nx
 | .region id ops draw,K,env,σ,nx=>if draw=true then vLD P ops nx (us id) (λenv σ nx=>K .normal env σ nx) [] ops.toList 0 env σ else vL P ops nx (λenv σ nx=>K .normal env σ nx) ops.toList 0 env σ
 |
  .seq a b,K,env,σ,nx=>if (exN 0 a).1<=1 then vc P us n0 a (λx env σ nx=>match x with | .normal=>vc P us n0 b K env σ nx | .exit id=>K (.exit id) env σ nx | .ret=>K .ret env σ nx) env σ nx
  else agQ n0 (vc P us n0 a) (vc P us n0 b K) K env σ nx
 |
  .cond c t e,K,env,σ,nx=>match ev env c with
  |some (.pv (.sc (.bool b)))=>(b=true->vc P us n0 t K env σ nx)/\(b=false->vc P us n0 e K env σ nx)
  |_=>False
 | .block id b,K,env,σ,nx=>vc P us n0 b (λx env σ nx=>match x with | .normal=>K .normal env σ nx | .exit i=>if i=id then K .normal env σ nx else K (.exit i) env σ nx | .ret=>K .ret env σ nx) env σ nx
 | .loop b,K,env,σ,nx=>agR n0 (vc P us n0 b) K env σ
 | .exit id,K,env,σ,nx=>K (.exit id) env σ nx
 | .ret,K,env,σ,nx=>K .ret env σ nx
 |_,_,_,_,_=>False
def ry (nt:Nat)(us:Nat->List (Nat×Nat)):Code->Bool
 | .region id ops draw=>Eg nt ops &&(!draw || acj ops (us id))
 | .seq a b=>ry nt us a && ry nt us b
 | .cond _ t e=>ry nt us t && ry nt us e
 | .block _ b=>ry nt us b
 | .loop b=>ry nt us b
 |_=>true
def alc (P:Program)(nt n0:Nat)(X:KR->Env->Sto->Nat->Prop)(c:Code):Prop:=
 ∀(K:KR) (env:Env) (σ:Sto) (nx:Nat) (fr:Fr) (Ψ:Psi) (loc:Loc) (a:Act) (w:World),fr.n0=n0->Rel fr Ψ loc nt env σ a w->(∀l,nx<=l->loc l=none/\σ l=none)->X K env σ nx->c.wp P (aqB fr nt K) a w
theorem WR {us:Nat->List (Nat×Nat)}{id:Nat}{ops:Array Oper}{draw:Bool}(hm:P.follows .mixedOrders=true)(hc:ry nt us (.region id ops draw)=true):alc P nt n0 (vc P us n0 (.region id ops draw)) (.region id ops draw):=by
 intro K env σ nx fr Ψ loc a w hn hr hf h;simp only[ry,dH,wO,Et] at hc;have q:∀k o,ops.toList[k]?=some o->ops[0+k]?=some o:=(λk o hk=>by rw[eX,<-fQ];exact hk);unfold vc at h
 cases draw with
 |
  false=>
  simp only[mD,rD] at h;have h2:=Tf ops.toList 0 env σ q h;rw[eX,tN] at h2;refine JS hc.1 hr hf (by rw[KW];exact h2) (λa w d=>?_);obtain⟨env,σ,Ψ,loc,u,y,B⟩:=d;exact⟨env,σ,_,Ψ,loc,u,y,B⟩
 |
  true=>
  simp only[qM] at h;have h2:=KU ops.toList 0 [] env σ q h;rw[eX,tN] at h2;refine JV hm hc.1 (by simpa using hc.2) hr hf (by rw[KW];exact h2) (λa w d=>?_);obtain⟨env,σ,Ψ,loc,u,y,B⟩:=d;exact⟨env,σ,_,Ψ,loc,u,y,B⟩
def BU (P:Program)(env:Env)(σ:Sto):List ResultVar->Option (List AV)
 | []=>some []
 |
  .tmp t::r=>match env t,BU P env σ r with
  |some v,some l=>some (v::l)
  |_,_=>none
 |
  .cell a t::r=>match lay P t,env a,BU P env σ r with
  |
   some (g,k),some (.ptr l off),some vs=>match σ l with
   |some (.box cs)=>(zK g k cs off).map λv=>v::vs
   |_=>none
  |_,_,_=>none
def Gx:List AV->AV
 | [v]=>v
 |vs=> .tup vs
def mr (P:Program)(n0:Nat)(rs:List ResultVar)(post:AV->List (Option Obj)->Prop)(env:Env)(σ:Sto):Prop:=
 match BU P env σ rs with
 |none=>False
 |some vs=>∃(r:AV) (g:List (Option Obj)),post r g/\g.length<=n0+8/\View n0 (jR [(0,Gx vs)]) σ [(0,r)] g
def WT (ts:Array Value)(r:ResultVar):Sem Value:=
 match r with
 | .tmp t=>Pure.pure (ts.getD t undef)
 | .cell q t=>do loadVar t (<-asAddr (ts.getD q undef))
theorem OU {rs:List ResultVar}{vs:List AV}(hr:Rel fr Ψ loc nt env σ a w)(h:BU P env σ rs=some vs):∃xs:List Value,(rs.mapM (WT a.tmps)).run P w= .ok xs w/\xs.length=vs.length/\∀(j:Nat) v,vs[j]?=some v->∃x,xs[j]?=some x/\RepA Ψ loc v x:=by
 induction rs generalizing vs with
 |nil=>injection h with h;subst h;exact⟨[],by simp,rfl,λj v B=>by simp at B⟩
 |
  cons r rs ih=>
  cases r with
  |
   tmp t=>
   simp only[BU] at h;split at h
   . rename_i v l B D;injection h with h;subst h;obtain⟨xs,E,G,H⟩:=ih D;obtain⟨x,r1,I⟩:=hr.env.rep t v B;have J:(WT a.tmps (.tmp t)).run P w= .ok x w:=(by simp[WT,r1]);refine⟨x::xs,by simp only[List.mapM_cons,uI,J,E5,E,EK],by simp[G],λj u d=>?_⟩
     cases j with
     |zero=>simp at d;subst d;exact⟨x,rfl,I⟩
     |succ j=>simpa using H j u (by simpa using d)
   cases h
  |
   cell q t=>
   simp only[BU] at h;split at h
   . rename_i g k l off M D N L;split at h
     . rename_i cs hσ;obtain⟨v,B,rfl⟩:=map_some h;obtain⟨xs,E,G,H⟩:=ih L;obtain⟨x,r1,I⟩:=hr.env.rep q _ N
       cases I with
       |
        ptr hp=>
        obtain⟨O,R,h1,hc⟩:=Iw (fr:=fr) (hr.ok.ob l _ hσ);rw[hp] at h1;injection h1 with h1;injection h1 with h1 h2;injection h1 with h1;injection h1 with h1;subst h1;obtain⟨y,s1,s2⟩:=jq (P:=P) D B hc;rw[eX] at s1;simp only[Instr.loadAt,Instr.sureAddr,uI,EK,E5] at s1;have J:(WT a.tmps (.cell q t)).run P w= .ok y w:=(by simp[WT,r1,asAddr,s1]);refine⟨y::xs,by simp only[List.mapM_cons,uI,J,E5,E,EK],by simp[G],λj u d=>?_⟩
        cases j with
        |zero=>simp at d;subst d;exact⟨y,rfl,s2⟩
        |succ j=>simpa using H j u (by simpa using d)
     cases h
   cases h
theorem ac2 {vs:List AV}{xs:List Value}(h1:xs.length=vs.length)(h2:∀(j:Nat) v,vs[j]?=some v->∃x,xs[j]?=some x/\RepA Ψ loc v x):RepA Ψ loc (Gx vs) (if h:xs.toArray.size=1 then xs.toArray[0] else .tuple xs.toArray):=by
 have tup:RepA Ψ loc (.tup vs) (.tuple xs.toArray):=by have hf:∀j,∃x,j<vs.length->∃u,vs[j]?=some u/\xs[j]?=some x/\RepA Ψ loc u x:=(λj=>by by_cases B:j<vs.length;obtain⟨y,d,E⟩:=h2 j _ (aX B);exact⟨y,λ_=>⟨_,aX B,d,E⟩⟩;exact⟨undef,λh=>absurd h B⟩);refine .tup (λj=>(hf j).choose) (by simpa using h1) (λj B=>?_) (λj u D=>?_);obtain⟨u,_,q,_⟩:=(hf j).choose_spec B;simpa using q;obtain⟨H,d,_,q⟩:=(hf j).choose_spec (dD.1 D).1;rw[D] at d;injection d with d;rw[d];exact q
 match vs,xs,h1,h2,tup with
 |
  [v],[x],_,h2,_=>
  obtain⟨y,d,G⟩:=h2 0 v rfl;simp at d;subst d;exact G
 | [],[],_,_,tup=>exact tup
 |
  v::u::r,x::y::s,_,_,tup=>
  rw[dif_neg (by simp)];exact tup
def zT (args:List AV):List (Nat×AV):=args.zipIdx.map λp=>(p.2,p.1)
theorem WU {f:FuncId}{fn:Func}{body:Code}{args:List AV}{pre:List Obj}{post:AV->List (Option Obj)->Prop}(hf:P.funcs[f]?=some fn)(hb:fn.body=some body)(I:args.length<=fn.ntmps)
 (h:∀(fr:Fr) (Ψ:Psi) (loc:Loc) (a:Act) (w:World),fr.n0=pre.length->Rel fr Ψ loc fn.ntmps (jR (zT args)) (pX (pre.map some)) a w->(∀l,pre.length<=l->loc l=none/\pX (pre.map some) l=none)->body.wp P (λe a w=>match e with
  | .normal | .ret=>∃env σ nx Ψ loc,Rel fr Ψ loc fn.ntmps env σ a w/\(∀l,nx<=l->loc l=none/\σ l=none)/\mr P pre.length fn.results.toList post env σ
  |_=>False) a w):ACall P f args pre post:=by
 intro fr Ψ loc w vs J hn B O
 have D:vs.size=args.length:=by simpa using O.1
 refine calls_of_wp hf hb (xH (h fr Ψ loc _ w hn (⟨⟨λt v R=>?_⟩,J,?_,rfl⟩:Rel fr Ψ loc fn.ntmps _ _ _ w) (λl E=>⟨B l E,by simp[pX,uw (show (pre.map some).length<=l by simpa using E)]⟩)) (λe a' w' G=>?_))
 . have y:=Iu R
   unfold zT at y
   obtain⟨p,U,L⟩:=iK.1 y
   obtain⟨u,k⟩:=p
   injection L with h1 h2
   subst h1 h2
   have hk:=EZ.1 U
   obtain⟨x,V,X⟩:=O.2 k u hk
   refine⟨x,?_,X⟩
   have M:k<vs.size:=by rw[D];exact (dD.1 hk).1
   rw[Array.getElem?_append_left M,<-fQ]
   exact V
 . simp[D]
   omega
 . have fin:(∃env σ nx Ψ loc,Rel fr Ψ loc fn.ntmps env σ a' w'/\(∀l,nx<=l->loc l=none/\σ l=none)/\mr P pre.length fn.results.toList post env σ)->bodyPost P fn (λe w'=>∃r v g Ψ' d,e= .returned r/\post v g/\pre.length<=g.length/\g.length<=pre.length+8/\RepA Ψ' d v r/\Ok fr Ψ' d (pX g) w'/\(∀l,g.length<=l->d l=none)) .ret a' w':=λG=>by
    obtain⟨env,σ,nx,Ψ',d,hr,_,q⟩:=G
    unfold mr at q
    split at q
    . exact q.elim
    . rename_i ws N
      obtain⟨r,g,Y,Z,ls,fl,v1,v2,v3,v4,v5,v6,v7,v8⟩:=q
      obtain⟨Ψ2,g1,g2,g3⟩:=UZ hr.ok v1 v2 hn v3 v4 v5 v6 v8
      obtain⟨xs,r1,r2,r3⟩:=OU hr N
      refine⟨hr.df,(if h:xs.toArray.size=1 then xs.toArray[0] else .tuple xs.toArray),?_,?_⟩
      . show ((fn.results.mapM (WT a'.tmps)) >>=λvs=>Pure.pure (if h:vs.size=1 then vs[0] else .tuple vs)).run P w'=_
        rw[Array.mapM_eq_mapM_toList,uI]
        simp only[map_eq_pure_bind,uI,r1,E5,EK]
      . have H:=ac2 (Ψ:=Ψ') (loc:=d) r2 r3
        obtain⟨u1,u,u2,u3⟩:=v7 (0,r) (by simp)
        simp only[jR,Env.put,qM] at u2
        injection u2 with u2
        subst u2
        exact⟨_,r,g,Ψ2,_,rfl,Y,v4,Z,rep_in (ρ:=lG ls) (n:=g.length) (λl E=>if_pos E) r _ (wk_rep g1 g3 _ _ _ u3 H) u1,g2,λl E=>if_neg (by omega)⟩
   cases e with
   |normal=>exact fin G
   |ret=>exact fin G
   |_=>exact G.elim
end
inductive It where
 |code (c:Code)
 |blk (id:Nat)
 |mark (G:Env->Sto->Prop)
structure Mc where
 P:Program
 us:Nat->List (Nat×Nat)
 nt:Nat
 n0:Nat
 R:Env->Sto->Prop
 hm:P.follows .mixedOrders=true
def AtK (fr:Fr)(nt:Nat)(G:Env->Sto->Prop)(a:Act)(w:World):Prop:=
 ∃env σ nx Ψ loc,Rel fr Ψ loc nt env σ a w/\(∀l,nx<=l->loc l=none/\σ l=none)/\G env σ
def Ct (M:Mc)(fr:Fr):List It->Exit->Act->World->Prop
 | [],.normal,a,w=>AtK fr M.nt M.R a w
 | [],.ret,a,w=>AtK fr M.nt M.R a w
 | [],_,_,_=>False
 | .code c::k,.normal,a,w=>c.wp M.P (Ct M fr k) a w
 | .code _::k,e,a,w=>Ct M fr k e a w
 | .blk id::k,.exit i,a,w=>if i=id then Ct M fr k .normal a w else Ct M fr k (.exit i) a w
 | .blk _::k,e,a,w=>Ct M fr k e a w
 | .mark G::_,.normal,a,w=>AtK fr M.nt G a w
 | .mark _::k,e,a,w=>Ct M fr k e a w
def uC (M:Mc):List It->Bool
 | []=>true
 | .code c::k=>ry M.nt M.us c && uC M k
 |_::k=>uC M k
def sr (M:Mc)(k:List It)(env:Env)(σ:Sto)(nx:Nat):Prop:=
 uC M k=true->∀(fr:Fr) (Ψ:Psi) (loc:Loc) (a:Act) (w:World),fr.n0=M.n0->Rel fr Ψ loc M.nt env σ a w->(∀l,nx<=l->loc l=none/\σ l=none)->Ct M fr k .normal a w
def sx (M:Mc)(id:Nat)(k:List It)(env:Env)(σ:Sto)(nx:Nat):Prop:=
 uC M k=true->∀(fr:Fr) (Ψ:Psi) (loc:Loc) (a:Act) (w:World),fr.n0=M.n0->Rel fr Ψ loc M.nt env σ a w->(∀l,nx<=l->loc l=none/\σ l=none)->Ct M fr k (.exit id) a w
section
variable {M : Mc} {k : List It} {env : Env} {σ : Sto} {nx : Nat}
theorem ahD (h:M.R env σ):sr M [] env σ nx:=λ_ fr Ψ loc a w hn hr hf=>⟨env,σ,nx,Ψ,loc,hr,hf,h⟩
theorem aj {G:Env->Sto->Prop}(h:G env σ):sr M (.mark G::k) env σ nx:=λ_ fr Ψ loc a w hn hr hf=>⟨env,σ,nx,Ψ,loc,hr,hf,h⟩
theorem TE {id:Nat}(h:sr M k env σ nx):sr M (.blk id::k) env σ nx:=λhc fr Ψ loc a w hn hr hf=>h hc fr Ψ loc a w hn hr hf
theorem jS {c:Code}(h:uC M (.code c::k)=true):ry M.nt M.us c=true/\uC M k=true:=by simpa [uC] using h
theorem adr (h:sr M k env σ nx):sr M (.code .skip::k) env σ nx:=λhc fr Ψ loc a w hn hr hf=>wp_skip (h (jS hc).2 fr Ψ loc a w hn hr hf)
theorem ahq {a b:Code}(h:sr M (.code a :: .code b::k) env σ nx):sr M (.code (.seq a b)::k) env σ nx:=λhc fr Ψ loc d w hn hr hf=>by
 obtain⟨h1,h2⟩:=jS hc
 simp only[ry,dH] at h1
 have:=h (by simp[uC,h1,h2]) fr Ψ loc d w hn hr hf
 refine wp_seq (xH this (λe a w q=>?_))
 cases e<;>exact q
theorem aaO {id:Nat}{b:Code}(h:sr M (.code b :: .blk id::k) env σ nx):sr M (.code (.block id b)::k) env σ nx:=λhc fr Ψ loc d w hn hr hf=>by
 obtain⟨h1,h2⟩:=jS hc
 have:=h (by simp only[uC,dH];exact⟨by simpa [ry] using h1,h2⟩) fr Ψ loc d w hn hr hf
 refine wp_block (xH this (λe a w q=>?_))
 cases e<;>exact q
theorem adq {id:Nat}(h:sx M id k env σ nx):sr M (.code (.exit id)::k) env σ nx:=λhc fr Ψ loc a w hn hr hf=>wp_exit (h (jS hc).2 fr Ψ loc a w hn hr hf)
theorem LD {id:Nat}{c:Code}(h:sx M id k env σ nx):sx M id (.code c::k) env σ nx:=λhc fr Ψ loc a w hn hr hf=>h (jS hc).2 fr Ψ loc a w hn hr hf
theorem LH {id:Nat}{G:Env->Sto->Prop}(h:sx M id k env σ nx):sx M id (.mark G::k) env σ nx:=λhc fr Ψ loc a w hn hr hf=>h hc fr Ψ loc a w hn hr hf
theorem TD {id:Nat}(h:sr M k env σ nx):sx M id (.blk id::k) env σ nx:=λhc fr Ψ loc a w hn hr hf=>by
 show (if id=id then _ else _)
 rw[if_pos rfl]
 exact h hc fr Ψ loc a w hn hr hf
theorem LG {id j:Nat}(a:(id==j)=false)(h:sx M id k env σ nx):sx M id (.blk j::k) env σ nx:=λhc fr Ψ loc d w hn hr hf=>by
 show (if id=j then _ else _)
 rw[if_neg (by simpa using a)]
 exact h hc fr Ψ loc d w hn hr hf
theorem MF {fr:Fr}{a:Act}{w:World}(h:AtK fr M.nt M.R a w):∀k,Ct M fr k .ret a w
 | []=>h
 | .code _::k=>MF h k
 | .blk _::k=>MF h k
 | .mark _::k=>MF h k
theorem ahr (h:M.R env σ):sr M (.code .ret::k) env σ nx:=λhc fr Ψ loc a w hn hr hf=>wp_ret (MF ⟨env,σ,nx,Ψ,loc,hr,hf,h⟩ k)
theorem adf {c:Operand}{t e:Code}{b:Bool}(hb:ev env c=some (.pv (.sc (.bool b))))(q:b=true->sr M (.code t::k) env σ nx)(he:b=false->sr M (.code e::k) env σ nx):sr M (.code (.cond c t e)::k) env σ nx:=λhc fr Ψ loc d w hn hr hf=>by
 obtain⟨h1,h2⟩:=jS hc
 simp only[ry,dH] at h1
 obtain⟨hx,_⟩:=eH (hr.env.ev c _ hb)
 refine wp_cond_split hx (λa=>?_) (λa=>?_)
 . exact q a (by simp[uC,h1,h2]) fr Ψ loc d w hn hr hf
 . exact he a (by simp[uC,h1,h2]) fr Ψ loc d w hn hr hf
theorem adJ (E:List (Nat×AV))(S:List (Option Obj))(d:View M.n0 env σ E S)(h:sr M k (jR E) (pX S) S.length):sr M k env σ nx:=λhc fr Ψ loc q w hn hr hf=>by
 obtain⟨Ψ',a,r1,u⟩:=yK hr hn d
 exact h hc fr Ψ' a q w hn r1 u
theorem ads {b:Code}{T:Type}(E:T->List (Nat×AV))(S:T->List (Option Obj))(f:T->Prop)(μ:T->Nat)(t0:T)(h0:f t0)(J:View M.n0 env σ (E t0) (S t0))
 (h:∀t,f t->sr M (.code b :: .mark (λenv σ=>∃u,f u/\μ u<μ t/\View M.n0 env σ (E u) (S u))::k) (jR (E t)) (pX (S t)) (S t).length):sr M (.code (.loop b)::k) env σ nx:=λhc fr Ψ loc L w hn hr hf=>by
 obtain⟨c1,c2⟩:=jS hc
 obtain⟨Ψ',B,r1,N⟩:=yK hr hn J
 let I:Nat->Act->World->Prop:=λn a w=>∃t Ψ loc,μ t=n/\f t/\Rel fr Ψ loc M.nt (jR (E t)) (pX (S t)) a w/\∀l,(S t).length<=l->loc l=none/\pX (S t) l=none
 have key:∀n a w,I n a w->∀(D:Frame) (q:List Item) (cs:List Frame),∃e a' w',Ct M fr k e a' w'/\Arrives M.P (lone (D.at a (.code b :: .inLoop b::q)) cs w) D q cs e a' w':=by
  intro n;induction n using Nat.strongRecOn with
  |
   _ n ih=>
   intro a w O D q cs;obtain⟨t,Ψ,loc,hμ,hf,hr,G⟩:=O;have hw:b.wp M.P (Ct M fr (.mark (λenv σ=>∃u,f u/\μ u<μ t/\View M.n0 env σ (E u) (S u))::k)) a w:=h t hf (by simp only[uC,dH];exact⟨by simpa [ry] using c1,c2⟩) fr Ψ loc a w hn hr G;obtain⟨e,a₁,w₁,y,d⟩:=hw D (.inLoop b::q) cs
   cases e with
   |
    normal=>
    obtain⟨env,σ,nx,Ψ',B,R,Z,u,V,X,Y⟩:=y;obtain⟨Ψ'',H,s1,s2⟩:=yK R hn Y;obtain⟨e₂,a₂,w₂,y₂,d₂⟩:=ih (μ u) (hμ▸X) a₁ w₁ ⟨u,Ψ'',H,rfl,V,s1,s2⟩ D q cs;exact⟨e₂,a₂,w₂,y₂,.of_steps (Steps.trans d (.one step_inLoop)) d₂⟩
   |exit id=>exact ⟨.exit id,a₁,w₁,y,.pass (x:= .inLoop b) rfl (λ_ _=> .inl (by simp)) d⟩
   |ret=>exact ⟨.ret,a₁,w₁,y,.pass (x:= .inLoop b) rfl (λ_ _=> .inl (by simp)) d⟩
   |goto l=>exact ⟨.goto l,a₁,w₁,y,.pass (x:= .inLoop b) rfl (λ_ _=> .inl (by simp)) d⟩
   |panic c=>exact ⟨.panic c,a₁,w₁,y,.pass (x:= .inLoop b) rfl (λ_ _=> .inl (by simp)) d⟩
   |outgrown=>exact ⟨.outgrown,a₁,w₁,y,.pass (x:= .inLoop b) rfl (λ_ _=> .inl (by simp)) d⟩
 intro D q cs;obtain⟨e,a',w',y,d⟩:=key _ L w ⟨t0,Ψ',B,rfl,h0,r1,N⟩ D q cs;exact⟨e,a',w',y,.of_steps (.one step_loop) d⟩
end
def V6 (U:List (Nat×Nat))(i:Nat)(key:Key)(log:List (Nat×Key)):List (Nat×Key):=if U.any (λp=>p.1==i)=true then log++[(i,key)] else log
def GG (nx:Nat)(U:List (Nat×Nat))(i:Nat)(key:Key)(log:List (Nat×Key)):Prop:=∀e∈log,(e.1,i)∈U->qW (nx+8*e.1) e.2 key
def vS (P:Program)(ops:Array Oper)(nx:Nat)(dr:Bool)(U:List (Nat×Nat))(K:Env->Sto->Nat->Prop):List (Nat×Key)->List Oper->Nat->Env->Sto->Prop
 |_,[],i,env,σ=>K env σ (nx+8*i)
 |log,o::l,i,env,σ=>vG ops o env (λenv=>vX P dr nx i o env σ (λv G key=>GG nx U i key log/\vS P ops nx dr U K (V6 U i key log) l (i+1) (env.put o.dst v) (σ.upds G))) (λenv=>vS P ops nx dr U K log l (i+1) (env.put o.dst (.tup [])) σ)
section
variable {P : Program} {ops : Array Oper} {nx : Nat} {U : List (Nat × Nat)} {K : Env -> Sto -> Nat -> Prop}
theorem Vo {q:Bool}{i:Nat}{o:Oper}{env:Env}{σ:Sto}{K u:AV->List (Nat×Option Obj)->Key->Prop}(h:vX P q nx i o env σ K)(hk:∀v G k,K v G k->u v G k):vX P q nx i o env σ u:=by unfold vX at h|-;split at h;obtain⟨asl,pre,post,ls,h1,h2,h3,h4,h5,y,B,D,E,a,d⟩:=h;exact⟨asl,pre,post,ls,h1,h2,h3,h4,h5,y,B,D,E,a,λr g H I J=>hk _ _ _ (d r g H I J)⟩;unfold agO at h|-;split at h;exact h.elim;exact⟨h.1,λv L=>hk _ _ _ (h.2 v L)⟩
theorem Vp {o:Oper}{env:Env}{X Y q u:Env->Prop}(h:vG ops o env X Y)(hx:∀e,X e->q e)(a:∀e,Y e->u e):vG ops o env q u:=by unfold vG at h|-;split at h;exact hx _ h;rename_i g want hg;split at h;exact h.elim;rename_i d y;split at h;rename_i b hb;refine⟨λe=>?_,λe=>?_⟩;have:=h.1 e;split at this;rename_i hw;rw[if_pos hw];exact hx _ this;rename_i hw;rw[if_neg hw];exact a _ this;have:=h.2 e;split at this;rename_i hw;rw[if_pos hw];exact a _ this;rename_i hw;rw[if_neg hw];exact hx _ this;exact a _ h;exact h.elim
theorem FV:∀(l:List Oper) (log:List (Nat×Key)) (i:Nat) (env:Env) (σ:Sto),vS P ops nx false U K log l i env σ->vL P ops nx K l i env σ
 | [],_,_,_,_,h=>h
 |
  o::l,log,i,env,σ,h=>by
  unfold vS at h
  unfold vL
  exact Vp h (λe he=>Vo he (λv G k hk=>FV l _ _ _ _ hk.2)) (λe he=>FV l _ _ _ _ he)
theorem FW:∀(l:List Oper) (log d:List (Nat×Key)) (i:Nat) (env:Env) (σ:Sto),(∀e∈d,(∃j,(e.1,j)∈U)->e∈log)->vS P ops nx true U K log l i env σ->vLD P ops nx U K d l i env σ
 | [],_,_,_,_,_,_,h=>h
 |
  o::l,log,d,i,env,σ,hl,h=>by
  unfold vS at h
  unfold vLD
  refine Vp h (λe he=>Vo he (λv G k hk=>⟨λx hx a=>hk.1 x (hl x hx ⟨i,a⟩) a,FW l _ _ _ _ _ (λx hx a=>?_) hk.2⟩)) (λe he=>FW l _ _ _ _ _ hl he)
  unfold V6
  rcases ja.1 hx with hx|hx
  . have:=hl x hx a
    split
    . exact Eh _ this
    . exact this
  . simp only[lM] at hx
    subst hx
    obtain⟨j,q⟩:=a
    rw[if_pos (List.any_eq_true.2 ⟨(i,j),q,by simp⟩)]
    simp
end
theorem Xa {M:Mc}{k:List It}{env:Env}{σ:Sto}{nx id:Nat}{ops:Array Oper}{d:Bool}(h:vS M.P ops nx d (if d=true then M.us id else []) (sr M k) [] ops.toList 0 env σ):sr M (.code (.region id ops d)::k) env σ nx:=λhc fr Ψ loc a w hn hr hf=>by
 obtain⟨h1,h2⟩:=jS hc
 have D:vc M.P M.us M.n0 (.region id ops d) (λx env σ nx=>match x with | .normal=>sr M k env σ nx|_=>False) env σ nx:=by
  unfold vc
  cases d with
  |true=>exact FW _ _ _ _ _ _ (λe he=>by cases he) h
  |false=>exact FV _ _ _ _ _ h
 refine xH (WR M.hm h1 _ env σ nx fr Ψ loc a w hn hr hf D) (λe a w u=>?_)
 cases e with
 |
  normal=>
  obtain⟨env,σ,nx,Ψ,loc,y,B,q⟩:=u;exact q h2 fr Ψ loc a w hn y B
 |exit id=>obtain ⟨env,σ,nx,Ψ,loc,y,B,q⟩:=u;exact q.elim
 |ret=>obtain ⟨env,σ,nx,Ψ,loc,y,B,q⟩:=u;exact q.elim
 |_=>exact u.elim
theorem aai {P:Program}{us:Nat->List (Nat×Nat)}{f:FuncId}{fn:Func}{body:Code}{args:List AV}{pre:List Obj}{post:AV->List (Option Obj)->Prop}(hm:P.follows .mixedOrders=true)(hf:P.funcs[f]?=some fn)(hb:fn.body=some body)(d:args.length<=fn.ntmps)(hc:ry fn.ntmps us body=true)
 (h:∀R:Env->Sto->Prop,(∀env σ,mr P pre.length fn.results.toList post env σ->R env σ)->sr ⟨P,us,fn.ntmps,pre.length,R,hm⟩ [.code body] (jR (zT args)) (pX (pre.map some)) pre.length):ACall P f args pre post:=by
 refine WU hf hb d (λfr Ψ loc a w hn hr q=>?_);have hs:=h (λenv σ=>mr P pre.length fn.results.toList post env σ) (λ_ _ h=>h) (by simp[uC,hc]) fr Ψ loc a w hn hr q;refine xH hs (λe a w u=>?_)
 cases e with
 |normal=>exact u
 |ret=>exact u
 |_=>exact u.elim
attribute [irreducible] sr sx
