/- Words. -/
import Derived.Test.YtfbkkgfkhhibfaaGreatAdo
set_option linter.unusedVariables false
set_option linter.unusedSimpArgs false
namespace AM
open Go Go.RowKit
def fB:AV->Bool
 | .agg _ | .tup _=>false
 |_=>true
def aJ:AV->List AV
 | .agg cs=>cs
 |v=> [v]
def fG {α:Type}(cs:List α)(off:Nat)(vs:List α):List α:=cs.take off++vs++cs.drop (off+vs.length)
theorem lK {α:Type}{cs vs:List α}{off:Nat}(h:off+vs.length<=cs.length):(fG cs off vs).length=cs.length:=by simp only[fG,bG,mZ,qp];omega
theorem iI {α:Type}{cs vs:List α}{off:Nat}(h:off+vs.length<=cs.length)(j:Nat):(fG cs off vs)[j]?=if off<=j/\j<off+vs.length then vs[j-off]? else cs[j]?:=by unfold fG;rw[fU];have a:(cs.take off).length=off:=(by rw[mZ];omega);by_cases h1:j<off;rw[jI (by omega),if_neg (by omega),mi,if_pos h1];rw[jJ (by omega),a];by_cases h2:j<off+vs.length;rw[if_pos ⟨by omega,h2⟩,jI (by omega)];rw[if_neg (by omega),jJ (by omega),y9];congr 1;omega
def vk (g:Bool)(k:Nat)(cs:List AV)(off:Nat):Option AV:=
 if g=true then (if off+k<=cs.length then some (.agg ((cs.drop off).take k)) else none) else cs[off]?
theorem RepA.one {Ψ:Psi}{loc:Loc}{v:AV}{x:Value}(h:RepA Ψ loc v x)(hc:fB v=true):x.oneCell'=true:=by cases h<;>first|rfl|(cases hc;done)|(rename_i h;exact h.one)
section
variable {P : Program} {o : Oper} {e : Operand -> Option AV} {σ : Sto} {lab : Nat}
theorem iE {t:TypeId}{g:Bool}{k b off:Nat}{w:World}{Ψ:Psi}{loc:Loc}{cs:List AV}{v:AV}(L:lay P t=some (g,k))(B:vk g k cs off=some v){base:Nat}
 (hc:∀j u,cs[j]?=some u->∃x,w.cell? ⟨b,base+j,none⟩=some x/\RepA Ψ loc u x):∃x,(Instr.loadAt t (.pointer (some ⟨b,base+off,none⟩))).run P w= .ok x w/\RepA Ψ loc v x:=by
 obtain⟨d,i,h1,h2,h3,h4⟩:=yI L
 cases g with
 |
  false=>
  obtain⟨x,D,H⟩:=hc off v (by simpa [vk] using B);refine⟨x,?_,H⟩;have y:=NV (i:=i) h1 w;rw[h3] at y;simp[Instr.loadAt,Instr.sureAddr,loadVar,y,D]
 |
  true=>
  have I:off+k<=cs.length/\v= .agg ((cs.drop off).take k):=by
   simp only[vk,su] at B;split at B;rename_i h;injection B with B;exact⟨h,B.symm⟩
   cases B
  obtain⟨hle,rfl⟩:=I;have hf:∀j,∃x,j<k->∃u,cs[off+j]?=some u/\w.cell? ⟨b,base+off+j,none⟩=some x/\RepA Ψ loc u x:=(λj=>by by_cases a:j<k;have E:off+j<cs.length:=(by omega);obtain⟨x,D,H⟩:=hc (off+j) _ (aV E);exact⟨x,λ_=>⟨_,aV E,by rw[nz];exact D,H⟩⟩;exact⟨undef,λh=>absurd h a⟩);let f:Nat->Value:=λj=>(hf j).choose
  have G:∀j,j<k->∃u,cs[off+j]?=some u/\w.cell? ⟨b,base+off+j,none⟩=some (f j)/\RepA Ψ loc u (f j):=λj a=>(hf j).choose_spec a;refine⟨.agg ((List.range k).map f).toArray,run_loadAt_mid w b (base+off) t ((List.range k).map f) d (λj x hx=>?_) h1 h3 (by simp[h2,h4]),?_⟩
  . rw[bK] at hx;have a:j<k:=by
     apply NW;intro a;rw[rF (by simpa using a)] at hx
     cases hx
    rw[aV (by simpa using a)] at hx;simp at hx;obtain⟨u,_,q,_⟩:=G j a;rw[<-hx];exact q
  . refine .agg f (by simp;omega) (λj a=>?_) (λj u A=>?_);have J:j<k:=(by simp at a;omega);simp[J]
    . rw[mi] at A;split at A;rename_i a;rw[y9] at A;obtain⟨O,D,_,N⟩:=G j a;rw[D] at A;injection A with A;rw[<-A];exact N
      cases A
theorem Hu {fr:Fr}{Ψ:Psi}{loc:Loc}{w:World}{l:Nat}{cs:List AV}(h:BU Ψ loc w l cs):∃b c,loc l=some (some ⟨b,0,none⟩,c+1)/\∀j u,cs[j]?=some u->∃x,w.cell? ⟨b,0+j,none⟩=some x/\RepA Ψ loc u x:=by obtain⟨b,c,arr,ty,h1,h2,h3,h4⟩:=h;refine⟨b,c,h1,λj u a=>?_⟩;obtain⟨x,d,_,y⟩:=h4 j u a;exact⟨x,by rw[dJ,jl h2];exact d,y⟩
theorem Ze {t:TypeId}{x:Operand}{g:Bool}{k l off:Nat}{cs:List AV}{v:AV}(ho:o.op= .load t x)(d:lay P t=some (g,k))(hx:e x=some (.ptr l off))(hσ:σ l=some (.box cs))(A:vk g k cs off=some v):DSound P o e σ lab ⟨True,λu=>u=v,[l],true,[]⟩:=
 .pure rfl λΨ loc fr w ρ he a E=>by
  have h:=he x _ hx
  generalize B:ρ x=y at h
  cases h with
  |
   ptr hp=>
   obtain⟨G,H,h1,hc⟩:=Hu (fr:=fr) (a.ob l _ hσ)
   rw[hp] at h1
   injection h1 with h1
   injection h1 with h1 h2
   injection h1 with h1
   injection h1 with h1
   subst h1
   obtain⟨y,r1,D⟩:=iE (P:=P) d A hc
   rw[dJ] at r1
   exact⟨y,v,by simp[execOp,ho,B,r1],D,rfl⟩
theorem Zf {t:TypeId}{x:Operand}{g:Bool}{k off:Nat}{row:List PV}{v:AV}(ho:o.op= .load t x)(A:lay P t=some (g,k))(hx:e x=some (.fp row off))(B:vk g k (row.map .pv) off=some v):DSound P o e σ lab (.val v):=
 .pure rfl λΨ loc fr w ρ he d G=>by
  have h:=he x _ hx
  generalize D:ρ x=y at h
  cases h with
  |
   fp f hf hr=>
   rename_i b q
   obtain⟨y,r1,E⟩:=iE (P:=P) (w:=w) (b:=b) (base:=q) (Ψ:=Ψ) (loc:=loc) A B (λj u a=>by
    rw[bK] at a
    cases hj:row[j]? with
    |none=>simp [hj] at a
    |
     some p=>
     simp[hj] at a
     subst a
     exact⟨f j,d.fz _ _ _ (hf j p hj),.pv (hr j p hj)⟩)
   exact⟨y,v,by simp[execOp,ho,D,r1],E,rfl⟩
theorem Vy {Ψ:Psi}{loc:Loc}{w:World}{l ty k:Nat}{els:List (List PV)}(h:mW Ψ loc w l ty k els){i:Nat}{row:List PV}(hi:els[i]?=some row):
 ∃b c,loc l=some (some ⟨b,0,none⟩,c)/\row.length=k/\∀j u,(row.map AV.pv)[j]?=some u->∃x,w.cell? ⟨b,i*k+j,none⟩=some x/\RepA Ψ loc u x:=by
 obtain⟨A,c,h1,h2⟩:=h;rcases h2 with ⟨rfl,_⟩|⟨h0,b,cur,rfl,hh,q1,q2,q3,q4,q5⟩;simp at hi
 . refine⟨b,c,h1,q4 row (iC hi),λj u a=>?_⟩;rw[bK] at a
   cases hj:row[j]? with
   |none=>simp [hj] at a
   |
    some p=>
    simp[hj] at a;subst a;obtain⟨x,r1,d⟩:=q5 i j p (by simp[cellOf,hi,hj]);exact⟨x,by rw[jl hh];exact r1,.pv d⟩
theorem Zg {t:TypeId}{x:Operand}{g:Bool}{k r ty d i off:Nat}{els:List (List PV)}(ho:o.op= .load t x)(B:lay P t=some (g,k))(hx:e x=some (.rp r d i off))(hσ:σ r=some (.row ty d els)):
 DSound P o e σ lab ⟨∃row v,els[i]?=some row/\vk g k (row.map .pv) off=some v,λu=>∃row,els[i]?=some row/\vk g k (row.map .pv) off=some u,[r],true,[]⟩:=
 .pure rfl λΨ loc fr w ρ he a D=>by
  obtain⟨row,v,hi,A⟩:=D
  have h:=he x _ hx
  generalize E:ρ x=y at h
  cases h with
  |
   rp hp=>
   obtain⟨H,I,h1,_,hc⟩:=Vy (a.ob r _ hσ) hi
   rw[hp] at h1
   injection h1 with h1
   injection h1 with h1 h2
   injection h1 with h1
   injection h1 with h1
   subst h1
   obtain⟨y,r1,G⟩:=iE (P:=P) B A hc
   exact⟨y,v,by simp[execOp,ho,E,r1],G,row,hi,A⟩
theorem Zh {t:TypeId}{x:Operand}{k j:Nat}{cts:List CT}{ct:CT}(ho:o.op= .load t x)(E:lay P t=some (false,k))(hx:e x=some (.tp cts j))(hc:cts[j]?=some ct):
 DSound P o e σ lab ⟨True,λu=>∃p,ct.ok p/\u= .pv p,[],false,[]⟩:=
 .pure rfl λΨ loc fr w ρ he D N=>by
  have h:=he x _ hx
  generalize G:ρ x=y at h
  cases h with
  |
   tp ht h0 hm hle=>
   rename_i b q m
   obtain⟨arr,ty,H,hs,B⟩:=D.tb _ _ _ ht
   have I:j<cts.length:=(bV.1 hc).1
   obtain⟨p,y,r1,J,L⟩:=B (q+j) ct (by omega) (by rw[IG,hm,dJ,II,Dj I];exact hc)
   obtain⟨d,i,h1,h2,h3,h4⟩:=yI E
   have a:=NV (i:=i) h1 w
   rw[h3] at a
   have A:w.cell? ⟨b,q+j,none⟩=some y:=by rw[jl H];exact r1
   exact⟨y,.pv p,by simp[execOp,ho,G,Instr.loadAt,Instr.sureAddr,loadVar,a,A],.pv L,p,J,rfl⟩
def afo (cts:List CT)(ps:List PV):Prop:=ps.length=cts.length/\∀(j:Nat) ct p,cts[j]?=some ct->ps[j]?=some p->ct.ok p
theorem afp {Q:Nat->PV->Prop} :∀n:Nat,(∀j,j<n->∃p,Q j p)->∃d:List PV,d.length=n/\∀j p,d[j]?=some p->Q j p
 |0,_=>⟨[],rfl,λj p h=>by simp at h⟩
 |
  n+1,h=>by
  obtain⟨d,h1,h2⟩:=afp n (λj A=>h j (Nat.lt_succ_of_lt A))
  obtain⟨p,B⟩:=h n (EE n)
  refine⟨d++[p],by simp[h1],λj q a=>?_⟩
  by_cases A:j<n
  . rw[jI (by omega)] at a
    exact h2 j q a
  . rw[jJ (by omega)] at a
    have u:=(bV.1 a).1
    simp at u
    have y:j=n:=by omega
    subst y
    rw[h1,rD] at a
    injection a with a
    subst a
    exact B
theorem Vz {t:TypeId}{x:Operand}{cts:List CT}(ho:o.op= .load t x)(G:lay P t=some (true,cts.length))(hx:e x=some (.tp cts 0)):
 DSound P o e σ lab ⟨True,λu=>∃a,afo cts a/\u= .agg (a.map .pv),[],false,[]⟩:=
 .pure rfl λΨ loc fr w ρ he D V=>by
  have h:=he x _ hx
  generalize H:ρ x=y at h
  cases h with
  |
   tp ht h0 hm hle=>
   rename_i b q m
   obtain⟨arr,ty,I,hs,A⟩:=D.tb _ _ _ ht
   obtain⟨a,h1,h2⟩:=afp (Q:=λj p=>(∀ct,cts[j]?=some ct->ct.ok p)/\∃y,arr[q+j]?=some y/\Rep Ψ p y) cts.length (λj d=>by
    obtain⟨p,y,r1,E,J⟩:=A (q+j) cts[j] (by omega) (by rw[IG,hm,dJ,II,Dj d];exact aV d)
    exact⟨p,λct hc=>by rw[aV d] at hc;injection hc with hc;subst hc;exact E,y,r1,J⟩)
   have L:vk true cts.length (a.map AV.pv) 0=some (.agg (a.map AV.pv)):=by
    rw[<-h1]
    simp[vk,<-oC]
   obtain⟨y,r1,E⟩:=iE (P:=P) (base:=q) (b:=b) (w:=w) (Ψ:=Ψ) (loc:=loc) G L (λj u B=>by
    rw[bK] at B
    cases d:a[j]? with
    |none=>simp [d] at B
    |
     some p=>
     simp[d] at B
     subst B
     obtain⟨_,x,N,O⟩:=h2 j p d
     exact⟨x,by rw[jl I];exact N,.pv O⟩)
   rw[oD] at r1
   exact⟨y,.agg (a.map AV.pv),by simp[execOp,ho,H,r1],E,a,⟨h1,λj ct p hc U=>(h2 j p U).1 ct hc⟩,rfl⟩
end
def toP:AV->Option PV
 | .pv p=>some p
 | .emp=>some (.sl [])
 |_=>none
def oq:List AV->Option (List PV)
 | []=>some []
 |
  v::r=>match toP v,oq r with
  |some p,some ps=>some (p::ps)
  |_,_=>none
theorem oI {Ψ:Psi}{loc:Loc}{v:AV}{p:PV}{x:Value}(h:RepA Ψ loc v x)(a:toP v=some p):Rep Ψ p x:=by
 cases h<;>first
  |(cases a;done)
  |(injection a with a;subst a;first|assumption|exact .nil (λ_=>rfl))
theorem gG:∀ {vs:List AV}{a:List PV},oq vs=some a->a.length=vs.length/\∀(j:Nat) p,a[j]?=some p->∃v,vs[j]?=some v/\toP v=some p
 | [],a,h=>by injection h with h;subst h;exact⟨rfl,λj p h=>by simp at h⟩
 |
  v::r,a,h=>by
  unfold oq at h
  split at h
  . rename_i p A h1 h2
    injection h with h
    subst h
    have u:=gG h2
    refine⟨by simp[u.1],λj y d=>?_⟩
    cases j with
    |zero=>simp at d;subst d;exact⟨v,rfl,h1⟩
    |succ j=>simpa using u.2 j y (by simpa using d)
  . cases h
theorem nG {Ψ:Psi}{loc:Loc}{v:AV}{x:Value}(h:RepA Ψ loc v x)(hc:(aJ v).all fB=true):x.cells.size=(aJ v).length/\∀(j:Nat) u,(aJ v)[j]?=some u->∃y,x.cells[j]?=some y/\y.oneCell'=true/\RepA Ψ loc u y:=by
 by_cases d:fB v=true
 . have h1:=h.one d;(((have h2:aJ v=[v]:=by cases v<;>first|rfl|cases d);have h3:x.cells=#[x]:=by cases x<;>first|rfl|cases h1);rw[h2,h3]);refine⟨rfl,λj u a=>?_⟩
   cases j with
   |zero=>simp at a;subst a;exact⟨x,rfl,h1,h⟩
   |succ j=>simp at a
 . cases h with
   |
    agg f hs hx hr=>
    refine⟨hs,λj u a=>⟨f j,hx j (bV.1 a).1,?_,hr j u a⟩⟩;exact (hr j u a).one (mf.1 hc u (iC a))
   |tup f hs hx hr=>simp [aJ,fB] at hc
   |_=>exact absurd rfl d
section
variable {P : Program} {o : Oper} {e : Operand -> Option AV} {σ : Sto} {lab : Nat}
theorem oJ {t:TypeId}{g:Bool}{k b off:Nat}{arr:Array Value}{ty:TypeId}{w:World}{x:Value}(a:lay P t=some (g,k))(u:w.heap[b]?=some (.cells arr ty (0,0)))(hk:x.cells.size=k)(hle:off+k<=arr.size)(h1:∀y∈x.cells.toList,y.oneCell'=true):
 (Instr.storeAt t (.pointer (some ⟨b,off,none⟩)) x).run P w= .ok () (w.setRow b (fG arr.toList off x.cells.toList).toArray):=by obtain⟨d,i,D,A,E,B⟩:=yI a;have hs:=run_storeCells_at (P:=P) b off ty x.cells.toList 0 arr w u (by simp[hk];omega) h1;simp only[oD] at hs;simp[Instr.storeAt,Instr.sureAddr,storeVar,Go.sizeOf,typeInfo,A,B,hk,hs,fG]
theorem qg {loc:Loc}{l b c:Nat}(h:loc l=some (some ⟨b,0,none⟩,c+1)):blk loc l=some b:=by simp[blk,h]
theorem IC (σ:Sto)(l:Nat)(a b:Option Obj):(σ.upd l a).upd l b=σ.upd l b:=by funext r;unfold Sto.upd;split<;>rfl
theorem upd_eq (σ:Sto)(l:Nat)(a:Option Obj):(σ.upd l a) l=a:=by simp[Sto.upd]
theorem upd_ne (σ:Sto){l r:Nat}(a:Option Obj)(h:r≠l):(σ.upd l a) r=σ r:=by simp[Sto.upd,h]
theorem Uy {t:TypeId}{x y:Operand}{g:Bool}{k l off:Nat}{cs:List AV}{v:AV}(ho:o.op= .store t x y)(E:o.dst=none)(Y:lay P t=some (g,k))(hx:e x=some (.ptr l off))(Z:e y=some v)(hσ:σ l=some (.box cs))
 (hk:(aJ v).length=k) (hc:(aJ v).all fB=true) (hle:off+k<=cs.length):
 DSound P o e σ lab ⟨True,λu=>u= .emp,[],true,[(l,some (.box (fG cs off (aJ v))))]⟩:=by
 intro fr Ψ loc w ρ he a V _ hd;have h:=he x _ hx;generalize hq:ρ x=z at h;obtain⟨b,c,arr,ty,h1,X,hs,hr⟩:BU Ψ loc w l cs:=a.ob l _ hσ;obtain⟨c1,c2⟩:=nG (he y v Z) hc
 cases h with
 |
  ptr d=>
  rename_i b' c';rw[h1] at d;injection d with d;injection d with d h2;injection d with d;injection d with d;subst d;have G:=oJ (P:=P) (t:=t) (x:=ρ y) Y X (c1.trans hk) (off:=off) (by omega) (λu D=>by obtain⟨j,A⟩:=mg.1 D;have O:j<(aJ v).length:=(by have:=(bV.1 A).1;rw[nH,c1] at this;exact this);obtain⟨N,H,I,_⟩:=c2 j _ (aV O);rw[dH,H] at A;injection A with A;rw[<-A];exact I);have hb:=qg h1;have J:=(a.drop l).chg (Same.row (K:=Free fr Ψ loc (σ.upd l none)) (a.free hσ hb) (fG arr.toList off (ρ y).cells.toList).toArray);refine⟨undef,w.setRow b (fG arr.toList off (ρ y).cells.toList).toArray,Ψ,loc,.emp,.inr ⟨by simp[execOp,ho,hq,G],E⟩,rfl,?_,.refl _,λ_ _=>rfl,?_⟩;show Ok fr Ψ loc (σ.upd l _) _;rw[<-IC σ l none];have L:off+(ρ y).cells.toList.length<=arr.toList.length:=(by simp[c1,hs];omega);refine J.claim (upd_eq _ _ _) ⟨b,c,_,ty,h1,yw w b arr _ ty _ X,?_,λj u D=>?_⟩ (λb' B=>by rw[hb] at B;injection B with B;rw[<-B];exact a.free hσ hb);simp only[uX];rw[lK L,lK (by omega)];simpa using hs;rw[iI (by omega)] at D;have hg:=iI L j;rw[nH,c1] at hg;split at D;rename_i A;obtain⟨N,H,I,U⟩:=c2 _ u D;exact⟨N,by rw[oK,hg,if_pos A,dH];exact H,I,U⟩;rename_i A;obtain⟨N,H,I,U⟩:=hr j u D;exact⟨N,by rw[oK,hg,if_neg A,dH];exact H,I,U⟩;exact Same.row (K:=λk=>¬fr.pr k) (a.ow l _ b hσ hb).1 _
theorem GK {fr:Fr}{Ψ:Psi}{loc:Loc}{w:World}(a:Ok fr Ψ loc σ w)(d:loc lab=none)(hs:σ lab=none){cs:List AV}{xs:Array Value}{ty:TypeId}(hn:xs.size=cs.length)(hr:∀(j:Nat) u,cs[j]?=some u->∃y,xs[j]?=some y/\y.oneCell'=true/\RepA Ψ loc u y):
 Ok fr Ψ (loc.upd lab (some ⟨w.heap.size,0,none⟩,1)) (σ.upd lab (some (.box cs))) (w.alloc (.cells xs ty)):=by have hle:Loc.le loc (loc.upd lab (some ⟨w.heap.size,0,none⟩,1)):=Loc.le_upd d;have h1:=a.chg (w':=w.alloc (.cells xs ty)) (Same.of (aY w _ none) nofun);have h2:=h1.locs hle (λl o e=>Loc.upd_ne (λq=>by rw[q,hs] at e;cases e));refine h2.claim hs ⟨w.heap.size,0,xs,ty,Loc.upd_eq,heap_alloc_new w _,hn,λj u A=>?_⟩ (λb hb=>?_);obtain⟨y,B,D,E⟩:=hr j u A;exact⟨y,B,D,E.mono (.refl _) hle⟩;have:b=w.heap.size:=(by simp[blk,Loc.upd_eq] at hb;exact hb.symm);subst this;have hf:=a.new (ax _);exact⟨hf.pr,hf.tb,hf.fz,λl o e q=>by rw[jm (Loc.upd_ne (λq=>by rw[q,hs] at e;cases e))] at q;exact hf.ob l o e q⟩
theorem Xm {t:TypeId}{cs:List AV}(ho:o.op= .alloc t)(B:dE P t=some cs):DSound P o e σ lab ⟨True,λu=>u= .ptr lab 0,[],true,[(lab,some (.box cs))]⟩:=by
 intro fr Ψ loc w ρ he A a hs E;obtain⟨i,z,h1,h2,h3,rfl⟩:=vJ B;refine⟨.pointer (some ⟨w.heap.size,0,none⟩),w.alloc (.cells z.cells t),Ψ,loc.upd lab (some ⟨w.heap.size,0,none⟩,1),_,.inl ⟨?_,.ptr Loc.upd_eq⟩,rfl,GK A a hs (by simp) (λj u d=>?_),.refl _,λl D=>Loc.upd_ne D,Same.of (aY w _ none) nofun⟩;simp[execOp,ho,Instr.alloc,zeroValue,typeInfo,h1,h2,newVar,newRow]
 . rw[bK,dH] at d
   cases hj:z.cells[j]? with
   |none=>simp [hj] at d
   |
    some y=>
    simp[hj] at d;subst d;have:=(SV.1 h3) y (Ip hj);exact⟨y,rfl,this,wZ this⟩
theorem adJ {t:TypeId}{x:Operand}{v:AV}(ho:o.op= .box t x)(hx:e x=some v)(hc:(aJ v).all fB=true):DSound P o e σ lab ⟨True,λu=>u= .ptr lab 0,[],true,[(lab,some (.box (aJ v)))]⟩:=by intro fr Ψ loc w ρ he d a hs A;obtain⟨c1,c2⟩:=nG (he x v hx) hc;exact⟨.pointer (some ⟨w.heap.size,0,none⟩),w.alloc (.cells (ρ x).cells t),Ψ,loc.upd lab (some ⟨w.heap.size,0,none⟩,1),_,.inl ⟨by simp[execOp,ho,Instr.box,newVar,newRow],.ptr Loc.upd_eq⟩,rfl,GK d a hs c1 c2,.refl _,λl y=>Loc.upd_ne y,Same.of (aY w _ none) nofun⟩
theorem Uz {t:TypeId}{x y:Operand}{g:Bool}{k d r ty i off:Nat}{els:List (List PV)}{v:AV}{ps:List PV}(ho:o.op= .store t x y)(U:o.dst=none)(hl:lay P t=some (g,k))(hx:e x=some (.rp r d i off))(hy:e y=some v)(hσ:σ r=some (.row ty d els))
 (hp:oq (aJ v)=some ps) (hk:ps.length=k) (hle:off+k<=d):
 DSound P o e σ lab ⟨i<els.length,λu=>u= .emp,[],true,[(r,some (.row ty d (els.modify i (λrow=>fG row off ps))))]⟩:=by
 intro fr Ψ loc w ρ he D al _ hi;have hi:i<els.length:=hi;have h:=he x _ hx;generalize hq:ρ x=z at h;obtain⟨A,c,h1,h2⟩:mW Ψ loc w r ty d els:=D.ob r _ hσ;have I:(aJ v).all fB=true:=by
  rw[mf];intro u hu;obtain⟨j,E⟩:=mg.1 hu;have ao:=(gG hp).1;obtain⟨u',H,V⟩:=(gG hp).2 j (ps[j]'(by have:=(bV.1 E).1;omega)) (aV _);rw[E] at H;injection H with H;subst H
  cases u<;>first|rfl|cases V
 obtain⟨c1,c2⟩:=nG (he y v hy) I;have J:(aJ v).length=k:=by rw[<-(gG hp).1];exact hk
 cases h with
 |
  rp B=>
  rename_i b' c';rcases h2 with ⟨rfl,_⟩|⟨h0,b,cur,rfl,hh,H,V,q3,q4,q5⟩;simp at hi;rw[h1] at B;injection B with B;injection B with B h2;injection B with B;injection B with B;subst B;have aa:(i+1)* d<=c*d:=iW _ (by omega);rw[iq,qh] at aa;have ab:i*d+off+k<=cur.size:=(by omega);have X:=oJ (P:=P) (t:=t) (x:=ρ y) hl hh (c1.trans J) (off:=i*d+off) ab (λu hu=>by obtain⟨j,E⟩:=mg.1 hu;have Y:j<(aJ v).length:=(by have:=(bV.1 E).1;rw[nH,c1] at this;exact this);obtain⟨O,H,V,_⟩:=c2 j _ (aV Y);rw[dH,H] at E;injection E with E;rw[<-E];exact V);obtain⟨c',rfl⟩:∃c',c=c'+1:=⟨c-1,by omega⟩;have hb:=qg h1;have Z:=(D.drop r).chg (Same.row (K:=Free fr Ψ loc (σ.upd r none)) (D.free hσ hb) (fG cur.toList (i*d+off) (ρ y).cells.toList).toArray);refine⟨undef,w.setRow b (fG cur.toList (i*d+off) (ρ y).cells.toList).toArray,Ψ,loc,.emp,.inr ⟨by simp[execOp,ho,hq,X],U⟩,rfl,?_,.refl _,λ_ _=>rfl,?_⟩
  . show Ok fr Ψ loc (σ.upd r _) _;rw[<-IC σ r none];have a8:i*d+off+(ρ y).cells.toList.length<=cur.toList.length:=(by simp[c1,J];omega);refine Z.claim (upd_eq _ _ _) ⟨_,_,h1,.inr ⟨h0,b,_,rfl,yw w b cur _ ty _ hh,by simpa using H,V,?_,λrow a6=>?_,λL j p a=>?_⟩⟩ (λb' G=>by rw[hb] at G;injection G with G;rw[<-G];exact D.free hσ hb);simp only[uX];rw[lK a8];simpa using q3
    . obtain⟨n,hn⟩:=mg.1 a6;rw[IE] at hn
      cases hm:els[n]? with
      |none=>simp [hm] at hn
      |
       some row0=>
       have:=q4 row0 (iC hm);simp only[hm,Option.map_eq_map,ng,jA] at hn;split at hn;subst hn;rw[lK (by omega)];exact this;subst hn;exact this
    . unfold cellOf at a;rw[IE] at a
      cases hm:els[L]? with
      |none=>simp [hm] at a
      |
       some row0=>
       have ad:=q4 row0 (iC hm);have aq:=(bV.1 hm).1;have hg:=iI a8 (L*d+j);rw[nH,c1,J] at hg;simp only[hm,Option.map_eq_map,ng,uT] at a;split at a;rename_i N;subst N;rw[iI (by omega)] at a;split at a;rename_i E;obtain⟨u,r1,r2⟩:=(gG hp).2 _ _ a;obtain⟨O,s1,s2,s3⟩:=c2 _ u r1;refine⟨O,?_,oI s3 r2⟩;rw[oK,hg,if_pos (by omega),dH,show i*d+j-(i*d+off)=j-off by omega];exact s1;rename_i E;obtain⟨O,s1,s2⟩:=q5 i j p (by simp[cellOf,hm,a]);refine⟨O,?_,s2⟩;rw[oK,hg,if_neg (by omega),dH];exact s1
       . rename_i N;have ar:j<d:=(by rw[<-ad];exact (bV.1 a).1);obtain⟨O,s1,s2⟩:=q5 L j p (by simp[cellOf,hm,a]);refine⟨O,?_,s2⟩;have a7:¬(i*d+off<=L*d+j/\L*d+j<i*d+off+k):=by
          intro an;rcases Xn N with Y|hgt;have:=iW d (show i+1<=L by omega);rw[iq,qh] at this;omega;have:=iW d (show L+1<=i by omega);rw[iq,qh] at this;omega
         rw[oK,hg,if_neg a7,dH];exact s1
  exact Same.row (K:=λk=>¬fr.pr k) (D.ow r _ b hσ hb).1 _
theorem UA {t:TypeId}{x y:Operand}{j:Nat}{cts:List CT}{ct:CT}{v:AV}{p:PV}(ho:o.op= .store t x y)(B:o.dst=none)(L:lay P t=some (false,1))(hx:e x=some (.tp cts j))(N:e y=some v)(hc:cts[j]?=some ct)(O:toP v=some p):
 DSound P o e σ lab ⟨ct.ok p,λu=>u= .emp,[],true,[]⟩:=by
 intro fr Ψ loc w ρ he A H _ E;have E:ct.ok p:=E;have h:=he x _ hx;generalize U:ρ x=z at h;have a:=oI (he y v N) O;have h1:=a.one;have h3:(ρ y).cells=#[ρ y]:=by
  generalize ρ y=q at h1|-
  cases q<;>first|rfl|cases h1
 cases h with
 |
  tp ht h0 hm hle=>
  rename_i b q m;obtain⟨arr,ty,I,hs,J⟩:=A.tb _ _ _ ht;have V:j<cts.length:=(bV.1 hc).1;have d:=oJ (P:=P) (t:=t) (x:=ρ y) L I (by rw[h3];rfl) (off:=q+j) (by omega) (λu G=>by rw[h3] at G;simp at G;rw[G];exact h1);have D:(fG arr.toList (q+j) (ρ y).cells.toList).toArray=arr.setIfInBounds (q+j) (ρ y):=(by apply Xo;intro n;rw[oK,iI (by rw[h3];simp;omega),h3,Pz];simp only[iO,yJ,dH];by_cases hn:q+j=n;subst hn;rw[if_pos (by omega),if_pos rfl,if_pos (by omega)];simp;rw[if_neg (by omega),if_neg hn]);rw[D] at d;exact⟨undef,w.setRow b (arr.setIfInBounds (q+j) (ρ y)),Ψ,loc,.emp,.inr ⟨by simp[execOp,ho,U,d],B⟩,rfl,A.storeTyped ht (by omega) (by rw[IG,hm,dJ,II,Dj V];exact hc) E a I,.refl _,λ_ _=>rfl,Same.row (K:=λk=>¬fr.pr k) (A.tf b _ ht).1 _⟩
end
theorem uF:∀(xs:List Value) (off k:Nat) (cs:Array Value),off+k+xs.length<=cs.size->(xs.zipIdx k).foldl (λcs (c:Value×Nat)=>cs.setIfInBounds (off+c.2) c.1) cs=(fG cs.toList (off+k) xs).toArray
 | [],off,k,cs,h=>by simp[fG]
 |
  x::r,off,k,cs,h=>by
  simp only[List.zipIdx_cons,List.foldl_cons]
  rw[uF r off (k+1) _ (by simp at h|-;omega)]
  simp only[iO] at h
  apply Xo
  intro j
  rw[oK,oK,iI (by simp;omega),iI (by simp;omega)]
  simp only[iO,Array.toList_setIfInBounds,Jk,nH]
  by_cases h1:j=off+k
  . subst h1
    rw[if_neg (by omega),if_pos rfl,if_pos (by omega),if_pos (by omega)]
    simp
  . by_cases h2:off+k<=j/\j<off+k+(r.length+1)
    . rw[if_pos (by omega),if_pos h2,show j-(off+k)=(j-(off+(k+1)))+1 by omega,Q4]
    . rw[if_neg (by omega),if_neg h2,if_neg (by omega)]
def tC (place:Nat->Option (Nat×Nat))(cells:List AV):List (Nat×AV)->Option (List AV)
 | []=>some cells
 |
  (i,v)::r=>
  match place i with
  |none=>none
  |some (off,size)=>if (aJ v).length=size/\off+size<=cells.length/\(aJ v).all fB=true then tC place (fG cells off (aJ v)) r else none
def nZ (Ψ:Psi)(loc:Loc)(cs:List AV)(xs:Array Value):Prop:=xs.size=cs.length/\∀(j:Nat) u,cs[j]?=some u->∃y,xs[j]?=some y/\y.oneCell'=true/\RepA Ψ loc u y
theorem ZV {Ψ:Psi}{loc:Loc}{cs vs:List AV}{xs ys:Array Value}{off:Nat}(h:nZ Ψ loc cs xs)(y:nZ Ψ loc vs ys)(hle:off+vs.length<=cs.length):nZ Ψ loc (fG cs off vs) (fG xs.toList off ys.toList).toArray:=by have A:ys.toList.length=vs.length:=(by simpa using y.1);have hx:xs.toList.length=cs.length:=(by simpa using h.1);refine⟨by simp only[uX];rw[lK (by omega),lK hle];exact hx,λj u a=>?_⟩;rw[iI hle] at a;rw[oK,iI (by omega),A];split at a;rename_i d;rw[if_pos d,dH];exact y.2 _ u a;rename_i d;rw[if_neg d,dH];exact h.2 _ u a
theorem OD {Ψ:Psi}{loc:Loc}{place:Nat->Option (Nat×Nat)} :∀(A:List (Nat×AV)) (u:List (Nat×Value)) (cs a:List AV) (xs:Array Value),tC place cs A=some a->nZ Ψ loc cs xs->A.length=u.length->(∀(j:Nat) i v,A[j]?=some (i,v)->∃x,u[j]?=some (i,x)/\RepA Ψ loc v x)->
 ∃B,Instr.fill place xs u=some B/\nZ Ψ loc a B
 |
  [],u,cs,a,xs,h,hc,hl,hr=>by
  have:u=[]:=lZ hl.symm
  subst this
  injection h with h
  subst h
  exact⟨xs,rfl,hc⟩
 |
  (i,v)::A,u,cs,a,xs,h,hc,hl,hr=>by
  obtain⟨x,E,G⟩:=hr 0 i v rfl
  cases u with
  |nil=>simp at E
  |
   cons q u=>
   simp at E
   subst E
   unfold tC at h
   unfold Instr.fill
   cases hp:place i with
   |none=>simp [hp] at h
   |
    some w=>
    obtain⟨off,size⟩:=w
    simp only[hp] at h|-
    split at h
    . rename_i y
      obtain⟨h1,h2,h3⟩:=y
      obtain⟨c1,c2⟩:=nG G h3
      have D:off+x.cells.size<=xs.size:=by rw[c1,hc.1,h1];exact h2
      have hno:(x.cells.size≠size || decide (off+x.cells.size>xs.size))=false:=by
       simp only[DW,lL,ne_eq]
       refine⟨by simp[c1,h1],by omega⟩
      rw[hno]
      simp only[lS,tq]
      have d:=uF x.cells.toList off 0 xs (by simpa using D)
      simp only[oD] at d
      rw[show (Array.foldl (λcs x=>match x with|(c,j)=>cs.setIfInBounds (off+j) c) xs x.cells.zipIdx)=(x.cells.toList.zipIdx 0).foldl (λcs (c:Value×Nat)=>cs.setIfInBounds (off+c.2) c.1) xs from by rw[<-Qo,Qp],d]
      exact OD A u _ a _ h (ZV hc ⟨c1,c2⟩ (by omega)) (by simpa using hl) (λj H v' I=>by simpa using hr (j+1) H v' (by simpa using I))
    . cases h
def bU (P:Program)(t:TypeId):Option (List (Nat×Nat)):=
 match P.underlying t with
 |some (.struct fields)=>fields.toList.mapM (λf=>(P.info? f.type).map λi=>(f.offset,i.size))
 |_=>none
def evs (e:Operand->Option AV):List (Nat×Operand)->Option (List (Nat×AV))
 | []=>some []
 |
  (i,x)::r=>match e x,evs e r with
  |some v,some l=>some ((i,v)::l)
  |_,_=>none
theorem TV {e:Operand->Option AV}{Ψ:Psi}{loc:Loc}{ρ:Operand->Value}(he:∀x v,e x=some v->RepA Ψ loc v (ρ x)):∀(d:List (Nat×Operand)) (a:List (Nat×AV)),evs e d=some a->a.length=(d.map λ(i,x)=>(i,ρ x)).length/\∀(j:Nat) i v,a[j]?=some (i,v)->∃x,(d.map λ(i,x)=>(i,ρ x))[j]?=some (i,x)/\RepA Ψ loc v x
 | [],a,h=>by injection h with h;subst h;exact⟨rfl,λj i v h=>by simp at h⟩
 |
  (i,x)::r,a,h=>by
  unfold evs at h
  split at h
  . rename_i v l h1 h2
    injection h with h
    subst h
    have y:=TV he r l h2
    refine⟨by simpa using y.1,λj A v' u=>?_⟩
    cases j with
    |zero=>simp at u;obtain⟨rfl,rfl⟩:=u;exact⟨ρ x,rfl,he x v h1⟩
    |succ j=>simpa using y.2 j A v' (by simpa using u)
  . cases h
theorem ack {Ψ:Psi}{loc:Loc}{cs:List AV}{xs:Array Value}(h:nZ Ψ loc cs xs):RepA Ψ loc (.agg cs) (.agg xs):=by have hf:∀j,∃x,j<cs.length->∃u,cs[j]?=some u/\xs[j]?=some x/\RepA Ψ loc u x:=(λj=>by by_cases d:j<cs.length;obtain⟨y,a,_,B⟩:=h.2 j _ (aV d);exact⟨y,λ_=>⟨_,aV d,a,B⟩⟩;exact⟨undef,λh=>absurd h d⟩);refine .agg (λj=>(hf j).choose) h.1 (λj d=>?_) (λj u A=>?_);obtain⟨u,_,q,_⟩:=(hf j).choose_spec d;exact q;obtain⟨D,a,_,q⟩:=(hf j).choose_spec (bV.1 A).1;rw[A] at a;injection a with a;rw[a];exact q
section
variable {P : Program} {o : Oper} {e : Operand -> Option AV} {σ : Sto} {lab : Nat}
theorem ZW {t:TypeId}{parts:Array (Nat×Operand)}{zs cs:List AV}{pl:List (Nat×Nat)}{B:List (Nat×AV)}(ho:o.op= .build t parts)(E:dE P t=some zs)(a:bU P t=some pl)(G:evs e parts.toList=some B)(hf:tC (pl[·]?) zs B=some cs):
 DSound P o e σ lab (.val (.agg cs)):=
 .pure rfl λΨ loc fr w ρ he H J=>by
  obtain⟨i,z,h1,h2,h3,rfl⟩:=vJ E
  obtain⟨l1,l2⟩:=TV he _ _ G
  have D:nZ Ψ loc (z.cells.toList.map Um) z.cells:=⟨by simp,λj u d=>by
   rw[bK,dH] at d
   cases hj:z.cells[j]? with
   |none=>simp [hj] at d
   |
    some y=>
    simp[hj] at d
    subst d
    have:=(SV.1 h3) y (Ip hj)
    exact⟨y,rfl,this,wZ this⟩⟩
  obtain⟨A,r1,I⟩:=OD B _ _ cs z.cells hf D l1 l2
  refine⟨.agg A,_,?_,ack I,rfl⟩
  have hb:P.built t ((parts.map λ(i,x)=>(i,ρ x)).toList)=some A:=by
   unfold bU at a
   split at a
   . rename_i fields d
     unfold Program.built
     simp only[h1,d,h2,a]
     rw[Jm]
     simp only[oK]
     exact r1
   . cases a
  have:=run_build w t _ _ hb
  simp[execOp,ho,this]
def rowsOf (e:Operand->Option AV)(k:Nat):Nat->List (Nat×Operand)->Option (List (List PV))
 |_,[]=>some []
 |m,(i,x)::r=>if i=m then
  match (e x).bind λv=>oq (aJ v),rowsOf e k (m+1) r with
  |some ps,some rs=>if ps.length=k then some (ps::rs) else none
  |_,_=>none
  else none
theorem Ih {Ψ:Psi}{loc:Loc}{ρ:Operand->Value}(he:∀x v,e x=some v->RepA Ψ loc v (ρ x)){k n:Nat} :∀(H:List (Nat×Operand)) (m:Nat) (rows:List (List PV)) (xs:Array Value),rowsOf e k m H=some rows->m+H.length=n->xs.size=n*k->
 ∃a,Instr.fill (λi=>some (i*k,k)) xs (H.map λ(i,x)=>(i,ρ x))=some a/\a.size=n*k/\rows.length=H.length/\(∀row∈rows,row.length=k)/\(∀q,q<m*k->a[q]?=xs[q]?)/\∀i j p,cellOf rows i j=some p->∃y,a[(m+i)* k+j]?=some y/\Rep Ψ p y
 |
  [],m,rows,xs,h,hm,hs=>by
  injection h with h
  subst h
  exact⟨xs,rfl,hs,rfl,(λ_ h=>by cases h),λ_ _=>rfl,λi j p h=>by simp[cellOf] at h⟩
 |
  (i,x)::r,m,rows,xs,h,hm,hs=>by
  unfold rowsOf at h
  split at h
  . rename_i L
    subst L
    split at h
    . rename_i V rs h1 h2
      split at h
      . rename_i hk
        injection h with h
        subst h
        cases hev:e x with
        |none=>simp [hev] at h1
        |
         some v=>
         simp only[hev,uT] at h1
         have E:(aJ v).all fB=true:=by
          rw[mf]
          intro u X
          obtain⟨j,N⟩:=mg.1 X
          have Y:=(gG h1).1
          obtain⟨u',I,Z⟩:=(gG h1).2 j (V[j]'(by have:=(bV.1 N).1;omega)) (aV _)
          rw[N] at I
          injection I with I
          subst I
          cases u<;>first|rfl|cases Z
         obtain⟨c1,c2⟩:=nG (he x v hev) E
         have d:(ρ x).cells.size=k:=by rw[c1,<-(gG h1).1,hk]
         simp only[iO] at hm
         have hle:i*k+k<=xs.size:=by
          rw[hs]
          have:=iW k (show i+1<=n by omega)
          rw[iq,qh] at this
          exact this
         obtain⟨a,f1,f2,f3,f4,U,f6⟩:=Ih (n:=n) he r (i+1) rs (fG xs.toList (i*k) (ρ x).cells.toList).toArray h2 (by omega) (by
          simp only[uX]
          rw[lK (by simp[d];exact hle)]
          simpa using hs)
         have D:∀q,(fG xs.toList (i*k) (ρ x).cells.toList).toArray[q]?=if i*k<=q/\q<i*k+k then (ρ x).cells[q-i*k]? else xs[q]?:=λq=>by
          rw[oK,iI (by simp[d];exact hle)]
          simp only[nH,d,dH]
         refine⟨a,?_,f2,by simp[f3],λrow A=>?_,λq hq=>?_,λG j p J=>?_⟩
         . simp only[kH]
           unfold Instr.fill
           dsimp only
           have hno:((ρ x).cells.size≠k || decide (i*k+(ρ x).cells.size>xs.size))=false:=by
            simp only[DW,lL,ne_eq]
            refine⟨by simp[d],by omega⟩
           rw[hno]
           simp only[lS,tq]
           have B:=uF (ρ x).cells.toList (i*k) 0 xs (by simp[d];exact hle)
           simp only[oD] at B
           rw[show (Array.foldl (λcs x=>match x with|(c,j)=>cs.setIfInBounds (i*k+j) c) xs (ρ x).cells.zipIdx)=((ρ x).cells.toList.zipIdx 0).foldl (λcs (c:Value×Nat)=>cs.setIfInBounds (i*k+c.2) c.1) xs from by rw[<-Qo,Qp],B]
           exact f1
         . rcases dV.1 A with rfl|A
           . exact hk
           . exact f4 row A
         . rw[U q (by rw[iq,qh];omega),D,if_neg (by omega)]
         . cases G with
           |
            zero=>
            simp[cellOf] at J
            have N:j<k:=by rw[<-hk];exact (bV.1 J).1
            obtain⟨u,s1,s2⟩:=(gG h1).2 j p J
            obtain⟨y,O,_,t3⟩:=c2 j u s1
            refine⟨y,?_,oI t3 s2⟩
            rw[oD,U _ (by rw[iq,qh];omega),D,if_pos (by omega),show i*k+j-i*k=j by omega]
            exact O
           |
            succ G=>
            obtain⟨y,O,t2⟩:=f6 G j p (by simpa [cellOf] using J)
            exact⟨y,by rw[show i+(G+1)=i+1+G by omega];exact O,t2⟩
      . cases h
    . cases h
  . cases h
theorem XW {fr:Fr}{Ψ:Psi}{loc:Loc}{w:World}(a:Ok fr Ψ loc σ w)(xs:Array Value)(ty:TypeId):Ok fr (Ψ.addFz w.heap.size xs) loc σ (w.alloc (.cells xs ty))/\Ψ.le (Ψ.addFz w.heap.size xs):=by have hf:=a.new (ax _);exact⟨(a.chg (w':=w.alloc (.cells xs ty)) (Same.of (aY w _ none) nofun)).freeze hf (heap_alloc_new w _),hf.le_fz xs⟩
theorem Gm {t D:TypeId}{n k E:Nat}{parts:Array (Nat×Operand)}{rows:List (List PV)}(ho:o.op= .buildSlice t n parts)(G:aS P t=some (D,k,E))(N:rowsOf e k 0 parts.toList=some rows)(hn:parts.toList.length=n)(h0:0<n)(O:n*k<=2^24):
 DSound P o e σ lab (.val (.pv (.sl rows))):=by
 intro fr Ψ loc w ρ he H I hs Z;obtain⟨h1,i,z,h2,h3,h4,h5,h6,h7,h8⟩:=dS G;subst h4;obtain⟨d,U,f2,f3,f4,_,V⟩:=Ih (n:=n) he parts.toList 0 rows ((Array.range (n*i.size)).map (z.cells[· % z.cells.size]!)) N (by omega) (by simp);have A:¬n*i.size=0:=(by intro h;rcases Nat.mul_eq_zero.1 h with h|h<;>omega);have B:=run_buildSlice w t D n (parts.map λ(i,x)=>(i,ρ x)) d i z h1 h2 h3 (by omega) A (by rw[Jm];exact U);obtain⟨X,J⟩:=XW H d D
 have hF:∀u j,∃y,∀p,cellOf rows u j=some p->d[u*i.size+j]?=some y/\Rep Ψ p y:=λu j=>by
  cases hc:cellOf rows u j with
  |none=>exact ⟨undef,λp h=>by cases h⟩
  |
   some p0=>
   obtain⟨y,L,Y⟩:=V u j p0 hc;exact⟨y,λp h=>by injection h with h;subst h;exact⟨by rw[dJ] at L;exact L,Y⟩⟩
 refine⟨.slice (some ⟨w.heap.size,0,none⟩) n n,w.alloc (.cells d D),_,loc,_,.inl ⟨by simp[execOp,ho,B],.pv (.sl (k:=i.size) (λa b=>(hF a b).choose) (by omega) (ax _) f4 (λu j p hc=>?_) (λu j p hc=>?_))⟩,rfl,X,J,λ_ _=>rfl,Same.of (aY w _ none) nofun⟩;have:=((hF u j).choose_spec p hc).1;show (if w.heap.size=w.heap.size then d[0+(u*i.size+j)]? else _)=_;rw[if_pos rfl,dJ];exact this;exact ((hF u j).choose_spec p hc).2.mono J
theorem EW {t y:TypeId}{k a:Nat}{parts:Array (Nat×Operand)}(ho:o.op= .buildSlice t 0 parts)(d:aS P t=some (y,k,a))(B:parts=#[]):
 DSound P o e σ lab (.val .emp):=by intro fr Ψ loc w ρ he u A hs D;obtain⟨h1,i,z,h2,h3,h4,h5,E,G,H⟩:=dS d;refine⟨.slice (some ⟨w.heap.size,0,none⟩) 0 0,w.alloc (.cells #[] y),Ψ,loc,_,.inl ⟨?_,.emp⟩,rfl,u.chg (Same.of (aY w _ none) nofun),.refl _,λ_ _=>rfl,Same.of (aY w _ none) nofun⟩;simp[execOp,ho,B,Instr.buildSlice,jy h1,Go.sizeOf,typeInfo,h2,Instr.fill,newRow];congr 2;apply ZO;simp
end
section
variable {P : Program} {o : Oper} {e : Operand -> Option AV} {σ : Sto} {lab : Nat}
theorem BH {t u:TypeId}{k a:Nat}(d:aS P t=some (u,k,a))(b q n c:Nat)(y:IntKind)(i:Int)(w:World)(h0:0<=i)(h1:i<n):
 (Instr.indexAt t (.slice (some ⟨b,q,none⟩) n c) (.int y i)).run P w= .ok (.pointer (some ⟨b,q+i.toNat*k,none⟩)) w:=by obtain⟨A,ti,z,B,E,D,_⟩:=dS d;simp[Instr.indexAt,jy A,asIntOf,h0,h1,Go.sizeOf,typeInfo,B,D,sJ]
theorem aaL {t H:TypeId}{x y:Operand}{k d:Nat}{els:List (List PV)}{E:IntKind}{i:Int}(ho:o.op= .indexAddr t x y)(A:aS P t=some (H,k,d))(hx:e x=some (.pv (.sl els)))(I:e y=some (.pv (.sc (.int E i)))):
 DSound P o e σ lab ⟨0<=i/\∃row,els[i.toNat]?=some row/\row.length=k,λu=>∃row,els[i.toNat]?=some row/\u= .fp row 0,[],true,[]⟩:=
 .pure rfl λΨ loc fr w ρ he J L=>by
  obtain⟨h0,row,hi,hk⟩:=L
  obtain⟨B,_⟩:=dK (he y _ I)
  have h:=he x _ hx
  generalize N:ρ x=z at h
  have O:=(bV.1 hi).1
  cases h with
  |
   pv h=>cases h with
   |nil=>simp at hi
   |
    sl f hn hnc hk' hf hr=>
    rename_i b q c n G
    have D:G=k:=(hk' row (iC hi)).symm.trans hk
    subst D
    have hc:∀j p,row[j]?=some p->cellOf els i.toNat j=some p:=λj p a=>by simp[cellOf,hi,a]
    exact⟨.pointer (some ⟨b,q+i.toNat*G+0,none⟩),_,by simp[execOp,ho,N,B,BH A b q n c E i w h0 (by omega)],.fp (f i.toNat) (λj p a=>by rw[nz];exact hf _ j p (hc j p a)) (λj p a=>hr _ j p (hc j p a)),row,hi,rfl⟩
theorem aaM {t J:TypeId}{x y:Operand}{k d r n ty B:Nat}{els:List (List PV)}{I:IntKind}{i:Int}(ho:o.op= .indexAddr t x y)(D:aS P t=some (J,k,d))(hx:e x=some (.own r n))(hσ:σ r=some (.row ty B els))(hk:B=k)(hn:els.length=n)(L:e y=some (.pv (.sc (.int I i)))):
 DSound P o e σ lab ⟨0<=i/\i<n,λu=>u= .rp r k i.toNat 0,[r],true,[]⟩:=
 .pure rfl λΨ loc fr w ρ he E N=>by
  obtain⟨h0,hi⟩:0<=i/\i<n:=N
  obtain⟨G,_⟩:=dK (he y _ L)
  have h:=he x _ hx
  generalize O:ρ x=z at h
  obtain⟨A,c,h1,h2⟩:mW Ψ loc w r ty B els:=E.ob r _ hσ
  cases h with
  |
   own a hnc=>
   rename_i U A'
   rw[h1] at a
   injection a with a
   injection a with H hl2
   subst H hl2
   rcases h2 with ⟨_,rfl⟩|⟨h0',b,cur,rfl,_⟩
   . omega
   . exact⟨.pointer (some ⟨b,0+i.toNat*k,none⟩),_,by simp[execOp,ho,O,G,BH D b 0 n c I i w h0 hi],by rw[dJ];exact .rp (off:=0) h1,rfl⟩
theorem aaN {t E:TypeId}{x y:Operand}{k a n:Nat}{cts:List CT}{D:IntKind}{i:Int}(ho:o.op= .indexAddr t x y)(d:aS P t=some (E,k,a))(hx:e x=some (.pv (.tr cts n)))(hk:cts.length=k)(G:e y=some (.pv (.sc (.int D i)))):
 DSound P o e σ lab ⟨0<=i/\i<n,λu=>u= .tp cts 0,[],true,[]⟩:=
 .pure rfl λΨ loc fr w ρ he H I=>by
  obtain⟨h0,hi⟩:0<=i/\i<n:=I
  obtain⟨A,_⟩:=dK (he y _ G)
  have h:=he x _ hx
  generalize J:ρ x=z at h
  cases h with
  |
   pv h=>cases h with
   |tr0=>omega
   |
    tr ht h0' hm hnc hle=>
    rename_i b q c m
    have B:(i.toNat+1)* cts.length<=n*cts.length:=iW _ (by omega)
    rw[iq,qh] at B
    exact⟨.pointer (some ⟨b,q+i.toNat*k+0,none⟩),_,by simp[execOp,ho,J,A,BH d b q n c D i w h0 hi],.tp ht h0' (by rw[<-hk,Nat.add_mul_mod_self_right];exact hm) (by rw[<-hk];omega),rfl⟩
theorem aaO {t:TypeId}{x y:Operand}{s:ByteArray}{u:IntKind}{i:Int}(ho:o.op= .index t x y)(A:P.underlying t=some .string)(hx:e x=some (.pv (.sc (.string s))))(B:e y=some (.pv (.sc (.int u i)))):
 DSound P o e σ lab (.chk (0<=i/\i<s.size) (.pv (.sc (.int .u8 ((s[i.toNat]?).getD 0).toNat)))):=
 .pure rfl λΨ loc fr w ρ he D E=>by
  obtain⟨h0,hi⟩:0<=i/\i<s.size:=E
  obtain⟨a,_⟩:=dK (he y _ B)
  obtain⟨d,_⟩:=dK (he x _ hx)
  have hg:s[i.toNat]?=some s[i.toNat]:=getElem?_pos s i.toNat (by omega)
  exact⟨_,_,by simp[execOp,ho,d,a,Instr.index,asIntOf,jy A,h0,hg],.pv (.sc rfl),rfl⟩
theorem adK {x:Operand}{ats:Array TypeId}{t:TypeId}{n:Nat}(ho:o.op= .call { callee:= .builtin .len,args:=#[x],argTypes:=ats })(u:ats=#[t])
 (hx:(∃els,e x=some (.pv (.sl els))/\els.length=n/\(∃d,P.underlying t=some (.slice d)))\/(∃r,e x=some (.own r n)/\(∃d,P.underlying t=some (.slice d)))\/(∃cts,e x=some (.pv (.tr cts n))/\(∃d,P.underlying t=some (.slice d)))\/(e x=some .emp/\n=0/\(∃d,P.underlying t=some (.slice d)))\/(∃s,e x=some (.pv (.sc (.string s)))/\s.size=n/\P.underlying t=some .string)):
 DSound P o e σ lab (.val (.pv (.sc (.int .i64 n)))):=
 .pure rfl λΨ loc fr w ρ he B D=>by
  subst u
  refine⟨.int .i64 n,_,?_,.pv (.sc rfl),rfl⟩
  have key:(∃d,P.underlying t=some (.slice d))->(∃A c,ρ x= .slice A n c)->(execOp ρ o).run P w= .ok (.value (.int .i64 n)) w:=λ⟨d,a⟩ ⟨A,c,y⟩=>by
   simp[execOp,ho,resolve,invoke,builtin,y,Builtin.len_,jy a,goInt]
  rcases hx with ⟨els,h1,h2,a⟩|⟨r,h1,a⟩|⟨cts,h1,a⟩|⟨h1,rfl,a⟩|⟨s,h1,rfl,a⟩
  . refine key a ?_
    have h:=he x _ h1
    generalize ρ x=z at h
    cases h with
    |
     pv h=>cases h with
     |nil=>subst h2;exact⟨_,_,rfl⟩
     |sl f hn=>rw [h2] at hn;subst hn;exact⟨_,_,rfl⟩
  . refine key a ?_
    have h:=he x _ h1
    generalize ρ x=z at h
    cases h with
    |own hl hnc=>exact ⟨_,_,rfl⟩
  . refine key a ?_
    have h:=he x _ h1
    generalize ρ x=z at h
    cases h with
    |pv h=>cases h<;>exact⟨_,_,rfl⟩
  . refine key a ?_
    have h:=he x _ h1
    generalize ρ x=z at h
    cases h with
    |emp=>exact ⟨_,_,rfl⟩
  . obtain⟨y,_⟩:=dK (he x _ h1)
    simp[execOp,ho,resolve,invoke,builtin,y,Builtin.len_,jy a,goInt]
theorem adL {x y:Operand}{ats:Array TypeId}{k:IntKind}{a b:Int}(ho:o.op= .call { callee:= .builtin .max,args:=#[x,y],argTypes:=ats })(hx:e x=some (.pv (.sc (.int k a))))(A:e y=some (.pv (.sc (.int k b)))):
 DSound P o e σ lab (.val (.pv (.sc (.int k (if b>a then b else a))))):=
 .pure rfl λΨ loc fr w ρ he B D=>by
  obtain⟨d,_⟩:=dK (he y _ A)
  obtain⟨u,_⟩:=dK (he x _ hx)
  exact⟨_,_,by simp[execOp,ho,resolve,invoke,builtin,u,d,Builtin.max_,Builtin.max2],.pv (.sc rfl),rfl⟩
def BI (e:Operand->Option AV)(x:Option Operand)(d:Int):Option Int:=
 match x with
 |none=>some d
 |
  some x=>match e x with
  |some (.pv (.sc (.int _ i)))=>some i
  |_=>none
theorem IJ {x:Option Operand}{d i:Int}{Ψ:Psi}{loc:Loc}{ρ:Operand->Value}(he:∀x v,e x=some v->RepA Ψ loc v (ρ x))(h:BI e x d=some i):(x=none/\i=d)\/∃y k,x=some y/\ρ y= .int k i:=by
 unfold BI at h;split at h;injection h with h;exact .inl ⟨rfl,h.symm⟩
 . rename_i y;split at h;rename_i k j a;injection h with h;subst h;exact .inr ⟨y,k,rfl,(dK (he y _ a)).1⟩
   cases h
theorem Me {t u:TypeId}{k a:Nat}(d:aS P t=some (u,k,a)){lo hi:Option Operand}{l h:Int}{ρ:Operand->Value}(A:Option Addr)(n c:Nat)(w:World)(B:(lo=none/\l=0)\/∃y k,lo=some y/\ρ y= .int k l)(D:(hi=none/\h=n)\/∃y k,hi=some y/\ρ y= .int k h)(h0:0<=l)(h1:l<=h)(h2:h<=n)(h3:n<=c):
 (Instr.sliceAt t (.slice A n c) (lo.map ρ) (hi.map ρ) none).run P w= .ok (.slice (if c=l.toNat then A else A.map (·.add (l.toNat*k))) (h.toNat-l.toNat) (c-l.toNat)) w:=by
 obtain⟨E,ti,z,G,I,H,_⟩:=dS d;have hc:h<=c:=by omega
 rcases B with ⟨rfl,rfl⟩|⟨y,kl,rfl,hy⟩<;>rcases D with ⟨rfl,rfl⟩|⟨y',kh,rfl,hy'⟩ <;>
  simp[Instr.sliceAt,Instr.slice,jy E,Instr.sliceBounds,Instr.sliceBound,asIntOf,Go.sizeOf,typeInfo,G,H, *]<;>(repeat' split)<;>first|rfl|omega|(simp_all;done)
end
section
variable {P : Program} {o : Oper} {e : Operand -> Option AV} {σ : Sto} {lab : Nat}
theorem tZ {els:List (List PV)}{l h i j:Nat}{p:PV}(hc:cellOf ((els.take h).drop l) i j=some p):cellOf els (l+i) j=some p/\l+i<h:=by
 unfold cellOf at hc|-;rw[y9,mi] at hc;split at hc;rename_i a;exact⟨hc,a⟩
 cases hc
theorem Zi {t O:TypeId}{x:Operand}{lo hi:Option Operand}{k B:Nat}{els:List (List PV)}{l h:Int}(ho:o.op= .slice t x lo hi none)(D:aS P t=some (O,k,B))(hx:e x=some (.pv (.sl els)))(U:BI e lo 0=some l)(V:BI e hi els.length=some h):
 DSound P o e σ lab (.chk (0<=l/\l<=h/\h<=els.length/\∀row∈els,row.length=k) (.pv (.sl ((els.take h.toNat).drop l.toNat)))):=
 .pure rfl λΨ loc fr w ρ he X Y=>by
  obtain⟨h0,h1,h2,d⟩:0<=l/\l<=h/\h<=els.length/\∀row∈els,row.length=k:=Y
  have a:=he x _ hx
  have E:=IJ he U
  have G:=IJ he V
  generalize Z:ρ x=z at a
  have fin:∀A n c,z= .slice A n c->n=els.length->n<=c->(execOp ρ o).run P w= .ok (.value (.slice (if c=l.toNat then A else A.map (·.add (l.toNat*k))) (h.toNat-l.toNat) (c-l.toNat))) w:=λA n c H hn hnc=>by
   subst hn
   have:=Me D A els.length c w E G h0 h1 h2 hnc
   simp[execOp,ho,Z,H,this]
  have hlen:((els.take h.toNat).drop l.toNat).length=h.toNat-l.toNat:=by simp;omega
  cases a with
  |
   pv a=>cases a with
   |
    nil hAc=>
    rename_i A c
    have H:(if c=0 then A else A.map (·.add 0))=none->c=0:=λh=>by
     split at h
     . exact hAc h
     . exact hAc (by simpa using h)
    simp at h2
    have I:l=0:=by omega
    have J:h=0:=by omega
    subst I J
    exact⟨_,_,fin A 0 c rfl rfl (aG _),.pv (by simpa using Rep.nil H),rfl⟩
   |
    sl f hn hnc hk' hf hr=>
    rename_i b q c n k'
    refine⟨_,_,fin _ n c rfl hn.symm hnc,.pv ?_,rfl⟩
    by_cases u:h.toNat-l.toNat=0
    . rw[u,lZ (hlen.trans u)]
      exact .nil (λh=>by split at h<;>simp at h)
    . have L:¬c=l.toNat:=by omega
      rw[if_neg L]
      simp only[ng,sJ]
      have N:k'=k:=by
       have y:0<els.length:=by omega
       rw[<-hk' els[0] (dm y)]
       exact d _ (dm y)
      subst N
      refine .sl (λi j=>f (l.toNat+i) j) hlen (by omega) (λrow hm=>d row (J9 (Zj hm))) (λi j p hc=>?_) (λi j p hc=>hr _ _ _ (tZ hc).1)
      have:=hf _ _ _ (tZ hc).1
      rw[<-this,iq]
      congr 1
      omega
theorem Zk {t U:TypeId}{x:Operand}{hi:Option Operand}{k G r n ty H:Nat}{els:List (List PV)}{h:Int}(ho:o.op= .slice t x none hi none)(I:aS P t=some (U,k,G))(hx:e x=some (.own r n))(hσ:σ r=some (.row ty H els))(hn:els.length=n)(V:BI e hi n=some h):
 DSound P o e σ lab ⟨0<=h/\h<=n,λu=>u= .own lab h.toNat,[],true,[(r,none),(lab,some (.row ty H (els.take h.toNat)))]⟩:=by
 intro fr Ψ loc w ρ he y a hs X;obtain⟨h0,h2⟩:0<=h/\h<=n:=X;have E:=he x _ hx;have J:=IJ he V;generalize Y:ρ x=z at E;obtain⟨A,c,h1,h3⟩:mW Ψ loc w r ty H els:=y.ob r _ hσ
 cases E with
 |
  own D hnc=>
  rename_i c' A';rw[h1] at D;injection D with D;injection D with L hl2;subst L hl2;have d:=Me I A n c w (.inl ⟨rfl,rfl⟩) J (rU 0) h0 h2 hnc;simp only[Int.toNat_zero,Jl,Qq,Option.map_none] at d;have Z:(if c=0 then A else A.map (·.add 0))=A:=by
   split;rfl
   cases A<;>simp[Addr.add]
  rw[Z] at d;have B:lab≠r:=(λq=>by rw[q,h1] at a;cases a);have hle:Loc.le loc (loc.upd lab (A,c)):=Loc.le_upd a;refine⟨.slice A h.toNat c,w,Ψ,loc.upd lab (A,c),_,.inl ⟨by simp[execOp,ho,Y,d],.own Loc.upd_eq (by omega)⟩,rfl,?_,.refl _,λl D=>Loc.upd_ne D,Same.refl _ _⟩;show Ok fr Ψ _ ((σ.upd r none).upd lab _) w;have N:Ok fr Ψ (loc.upd lab (A,c)) (σ.upd r none) w:=(y.drop r).locs hle (λl o e=>Loc.upd_ne (λq=>by rw[q,upd_ne _ _ B,hs] at e;cases e));refine N.claim (by rw[upd_ne _ _ B];exact hs) ⟨A,c,Loc.upd_eq,?_⟩ (λb hb=>?_);rcases h3 with ⟨rfl,rfl⟩|⟨q0,g,cur,rfl,q1,q2,q3,q4,q5,q6⟩;exact .inl ⟨by simp,rfl⟩;refine .inr ⟨q0,g,cur,rfl,q1,by simp;omega,q3,q4,λrow hm=>q5 row (J9 hm),λi j p hc=>?_⟩;exact q6 i j p (by have:=(tZ (l:=0) (by simpa using hc)).1;simpa using this)
  . have O:blk loc r=some b:=by
     have:blk (loc.upd lab (A,c)) lab=blk loc r:=(by simp[blk,Loc.upd_eq,h1]);rw[<-this];exact hb
    have hf:=y.free hσ O;exact⟨hf.pr,hf.tb,hf.fz,λl o e q=>by rw[jm (Loc.upd_ne (λq=>by rw[q,upd_ne _ _ B,hs] at e;cases e))] at q;exact hf.ob l o e q⟩
theorem abW {t A:TypeId}{x y:Operand}{k B:Nat}{zs:List AV}{d:List PV}{O D:IntKind}{n:Int}(ho:o.op= .makeSlice t x y)(I:aS P t=some (A,k,B))(hz:dE P A=some zs)(hc:oq zs=some d)(hx:e x=some (.pv (.sc (.int O n))))(hy:e y=some (.pv (.sc (.int D n)))):
 DSound P o e σ lab (.chk (0<=n/\n<=100000) (.pv (.sl (List.replicate n.toNat d)))):=by
 intro fr Ψ loc w ρ he J U hs hd;obtain⟨h0,hn⟩:0<=n/\n<=100000:=hd;obtain⟨q1,i,z,V,X,q4,q5,Y,q7,q8⟩:=dS I;obtain⟨L,_⟩:=dK (he x _ hx);obtain⟨N,_⟩:=dK (he y _ hy);obtain⟨i',z',r1,H,r3,rfl⟩:=vJ hz;rw[V] at r1;injection r1 with r1;subst r1;rw[X] at H;injection H with H;subst H;obtain⟨c1,c2⟩:=gG hc;have E:d.length=k:=(by rw[c1];simpa using Y);have hb:(i.bytes:Int)* n<=281474976710656:=(by rw[q5];have:(B:Int)* n<=1000*100000:=Int.mul_le_mul (by omega) hn h0 (by omega);omega);have G:=run_make (P:=P) w t A i z q1 V X O D n n h0 (rU _) hb (by omega);obtain⟨f1,f2⟩:=XW J (madeCells z.cells (n.toNat*i.size)) A
 have hF:∀a j p,cellOf (List.replicate n.toNat d) a j=some p->a<n.toNat/\d[j]?=some p:=λa j p h=>by
  unfold cellOf at h;rw[YH] at h;split at h;rename_i ha;exact⟨ha,h⟩
  cases h
 have Z:∀j p,d[j]?=some p->∃u,z.cells[j]?=some u/\u.oneCell'=true/\toP (Um u)=some p:=(λj p h=>by obtain⟨v,s1,s2⟩:=c2 j p h;rw[bK,dH] at s1;obtain⟨u,s3,rfl⟩:=mX.1 s1;exact⟨u,s3,(SV.1 r3) u (Ip s3),s2⟩);refine⟨.slice (some ⟨w.heap.size,0,none⟩) n.toNat n.toNat,w.alloc (.cells (madeCells z.cells (n.toNat*i.size)) A),_,loc,_,.inl ⟨by simp[execOp,ho,L,N,G],.pv (.sl (k:=k) (λ_ j=>(z.cells[j]?).getD undef) (by simp) (ax _) (λrow hr=>by rw[(Qs.1 hr).2];exact E) (λa j p h=>?_) (λa j p h=>?_))⟩,rfl,f1,f2,λ_ _=>rfl,Same.of (aY w _ none) nofun⟩
 . obtain⟨ha,h2⟩:=hF a j p h;obtain⟨u,u1,_,_⟩:=Z j p h2;have hj:j<k:=(by rw[<-E];exact (bV.1 h2).1);have hq:a*k+j<n.toNat*i.size:=by
    rw[q4];have:(a+1)* k<=n.toNat*k:=iW _ ha;rw[iq,qh] at this;omega
   show (if w.heap.size=w.heap.size then (madeCells z.cells (n.toNat*i.size))[0+(a*k+j)]? else _)=_;rw[if_pos rfl,dJ];have hm:(madeCells z.cells (n.toNat*i.size))[a*k+j]?=some (z.cells[(a*k+j)%z.cells.size]!):=(by simp[madeCells,hq]);rw[hm,Y,JP,Nat.mul_add_mod,Dj hj];simp[getElem!_def,u1]
 obtain⟨ha,h2⟩:=hF a j p h;obtain⟨u,u1,u2,u3⟩:=Z j p h2;rw[u1];exact oI (loc:=loc) (wZ u2) u3
end
