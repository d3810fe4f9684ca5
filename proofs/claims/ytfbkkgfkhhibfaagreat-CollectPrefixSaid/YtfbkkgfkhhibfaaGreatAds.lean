/- Words. -/
import Derived.Test.YtfbkkgfkhhibfaaGreatAdo
set_option linter.unusedVariables false
set_option linter.unusedSimpArgs false
namespace AM
open Go Go.RowKit
def iI:AV->Bool
 | .agg _ | .tup _=>false
 |_=>true
def bJ:AV->List AV
 | .agg cs=>cs
 |v=> [v]
def iV {α:Type}(cs:List α)(off:Nat)(vs:List α):List α:=cs.take off++vs++cs.drop (off+vs.length)
theorem oh {α:Type}{cs vs:List α}{off:Nat}(h:off+vs.length<=cs.length):(iV cs off vs).length=cs.length:=by simp only[iV,bI,qE,qf];omega
theorem jV {α:Type}{cs vs:List α}{off:Nat}(h:off+vs.length<=cs.length)(j:Nat):(iV cs off vs)[j]?=if off<=j/\j<off+vs.length then vs[j-off]? else cs[j]?:=by unfold iV;rw[gm];have a:(cs.take off).length=off:=(by rw[qE];omega);by_cases h1:j<off;rw[jX (by omega),if_neg (by omega),sV,if_pos h1];rw[jY (by omega),a];by_cases h2:j<off+vs.length;rw[if_pos ⟨by omega,h2⟩,jX (by omega)];rw[if_neg (by omega),jY (by omega),Am];congr 1;omega
def zV (g:Bool)(k:Nat)(cs:List AV)(off:Nat):Option AV:=
 if g=true then (if off+k<=cs.length then some (.agg ((cs.drop off).take k)) else none) else cs[off]?
theorem RepA.one {Ψ:Psi}{loc:Loc}{v:AV}{x:Value}(h:RepA Ψ loc v x)(hc:iI v=true):x.oneCell'=true:=by cases h<;>first|rfl|(cases hc;done)|(rename_i h;exact h.one)
section
variable {P : Program} {o : Oper} {e : Operand -> Option AV} {σ : Sto} {lab : Nat}
theorem jE {t:TypeId}{g:Bool}{k b off:Nat}{w:World}{Ψ:Psi}{loc:Loc}{cs:List AV}{v:AV}(M:lay P t=some (g,k))(D:zV g k cs off=some v){base:Nat}
 (hc:∀j u,cs[j]?=some u->∃x,w.cell? ⟨b,base+j,none⟩=some x/\RepA Ψ loc u x):∃x,(Instr.loadAt t (.pointer (some ⟨b,base+off,none⟩))).run P w= .ok x w/\RepA Ψ loc v x:=by
 obtain⟨d,i,h1,h2,h3,h4⟩:=zC M
 cases g with
 |
  false=>
  obtain⟨x,E,I⟩:=hc off v (by simpa [zV] using D);refine⟨x,?_,I⟩;have y:=Pz (i:=i) h1 w;rw[h3] at y;simp[Instr.loadAt,Instr.sureAddr,loadVar,y,E]
 |
  true=>
  have J:off+k<=cs.length/\v= .agg ((cs.drop off).take k):=by
   simp only[zV,qZ] at D;split at D;rename_i h;injection D with D;exact⟨h,D.symm⟩
   cases D
  obtain⟨hle,rfl⟩:=J;have hf:∀j,∃x,j<k->∃u,cs[off+j]?=some u/\w.cell? ⟨b,base+off+j,none⟩=some x/\RepA Ψ loc u x:=(λj=>by by_cases a:j<k;have G:off+j<cs.length:=(by omega);obtain⟨x,E,I⟩:=hc (off+j) _ (bH G);exact⟨x,λ_=>⟨_,bH G,by rw[nV];exact E,I⟩⟩;exact⟨undef,λh=>absurd h a⟩);let f:Nat->Value:=λj=>(hf j).choose
  have H:∀j,j<k->∃u,cs[off+j]?=some u/\w.cell? ⟨b,base+off+j,none⟩=some (f j)/\RepA Ψ loc u (f j):=λj a=>(hf j).choose_spec a;refine⟨.agg ((List.range k).map f).toArray,run_loadAt_mid w b (base+off) t ((List.range k).map f) d (λj x hx=>?_) h1 h3 (by simp[h2,h4]),?_⟩
  . rw[bV] at hx;have a:j<k:=by
     apply PD;intro a;rw[uJ (by simpa using a)] at hx
     cases hx
    rw[bH (by simpa using a)] at hx;simp at hx;obtain⟨u,_,q,_⟩:=H j a;rw[<-hx];exact q
  . refine .agg f (by simp;omega) (λj a=>?_) (λj u B=>?_);have L:j<k:=(by simp at a;omega);simp[L]
    . rw[sV] at B;split at B;rename_i a;rw[Am] at B;obtain⟨O,E,_,N⟩:=H j a;rw[E] at B;injection B with B;rw[<-B];exact N
      cases B
theorem Iw {fr:Fr}{Ψ:Psi}{loc:Loc}{w:World}{l:Nat}{cs:List AV}(h:DD Ψ loc w l cs):∃b c,loc l=some (some ⟨b,0,none⟩,c+1)/\∀j u,cs[j]?=some u->∃x,w.cell? ⟨b,0+j,none⟩=some x/\RepA Ψ loc u x:=by obtain⟨b,c,arr,ty,h1,h2,h3,h4⟩:=h;refine⟨b,c,h1,λj u a=>?_⟩;obtain⟨x,d,_,q⟩:=h4 j u a;exact⟨x,by rw[fG,lK h2];exact d,q⟩
theorem aaO {t:TypeId}{x:Operand}{g:Bool}{k l off:Nat}{cs:List AV}{v:AV}(ho:o.op= .load t x)(d:lay P t=some (g,k))(hx:e x=some (.ptr l off))(hσ:σ l=some (.box cs))(q:zV g k cs off=some v):DSound P o e σ lab ⟨True,λu=>u=v,[l],true,[]⟩:=
 .pure rfl λΨ loc fr w ρ he a E=>by
  have h:=he x _ hx
  generalize B:ρ x=y at h
  cases h with
  |
   ptr hp=>
   obtain⟨G,H,h1,hc⟩:=Iw (fr:=fr) (a.ob l _ hσ)
   rw[hp] at h1
   injection h1 with h1
   injection h1 with h1 h2
   injection h1 with h1
   injection h1 with h1
   subst h1
   obtain⟨y,r1,D⟩:=jE (P:=P) d q hc
   rw[fG] at r1
   exact⟨y,v,by simp[execOp,ho,B,r1],D,rfl⟩
theorem aaP {t:TypeId}{x:Operand}{g:Bool}{k off:Nat}{row:List PV}{v:AV}(ho:o.op= .load t x)(B:lay P t=some (g,k))(hx:e x=some (.fp row off))(D:zV g k (row.map .pv) off=some v):DSound P o e σ lab (.val v):=
 .pure rfl λΨ loc fr w ρ he d H=>by
  have h:=he x _ hx
  generalize E:ρ x=y at h
  cases h with
  |
   fp f hf hr=>
   rename_i b q
   obtain⟨y,r1,G⟩:=jE (P:=P) (w:=w) (b:=b) (base:=q) (Ψ:=Ψ) (loc:=loc) B D (λj u a=>by
    rw[bV] at a
    cases hj:row[j]? with
    |none=>simp [hj] at a
    |
     some p=>
     simp[hj] at a
     subst a
     exact⟨f j,d.fz _ _ _ (hf j p hj),.pv (hr j p hj)⟩)
   exact⟨y,v,by simp[execOp,ho,E,r1],G,rfl⟩
theorem Xp {Ψ:Psi}{loc:Loc}{w:World}{l ty k:Nat}{els:List (List PV)}(h:qB Ψ loc w l ty k els){i:Nat}{row:List PV}(hi:els[i]?=some row):
 ∃b c,loc l=some (some ⟨b,0,none⟩,c)/\row.length=k/\∀j u,(row.map AV.pv)[j]?=some u->∃x,w.cell? ⟨b,i*k+j,none⟩=some x/\RepA Ψ loc u x:=by
 obtain⟨A,c,h1,h2⟩:=h;rcases h2 with ⟨rfl,_⟩|⟨h0,b,cur,rfl,hh,q1,q2,q3,q4,q5⟩;simp at hi
 . refine⟨b,c,h1,q4 row (gZ hi),λj u a=>?_⟩;rw[bV] at a
   cases hj:row[j]? with
   |none=>simp [hj] at a
   |
    some p=>
    simp[hj] at a;subst a;obtain⟨x,r1,d⟩:=q5 i j p (by simp[cellOf,hi,hj]);exact⟨x,by rw[lK hh];exact r1,.pv d⟩
theorem aaQ {t:TypeId}{x:Operand}{g:Bool}{k r ty d i off:Nat}{els:List (List PV)}(ho:o.op= .load t x)(B:lay P t=some (g,k))(hx:e x=some (.rp r d i off))(hσ:σ r=some (.row ty d els)):
 DSound P o e σ lab ⟨∃row v,els[i]?=some row/\zV g k (row.map .pv) off=some v,λu=>∃row,els[i]?=some row/\zV g k (row.map .pv) off=some u,[r],true,[]⟩:=
 .pure rfl λΨ loc fr w ρ he a D=>by
  obtain⟨row,v,hi,q⟩:=D
  have h:=he x _ hx
  generalize E:ρ x=y at h
  cases h with
  |
   rp hp=>
   obtain⟨H,I,h1,_,hc⟩:=Xp (a.ob r _ hσ) hi
   rw[hp] at h1
   injection h1 with h1
   injection h1 with h1 h2
   injection h1 with h1
   injection h1 with h1
   subst h1
   obtain⟨y,r1,G⟩:=jE (P:=P) B q hc
   exact⟨y,v,by simp[execOp,ho,E,r1],G,row,hi,q⟩
theorem aaR {t:TypeId}{x:Operand}{k j:Nat}{cts:List CT}{ct:CT}(ho:o.op= .load t x)(G:lay P t=some (false,k))(hx:e x=some (.tp cts j))(hc:cts[j]?=some ct):
 DSound P o e σ lab ⟨True,λu=>∃p,ct.ok p/\u= .pv p,[],false,[]⟩:=
 .pure rfl λΨ loc fr w ρ he E N=>by
  have h:=he x _ hx
  generalize H:ρ x=y at h
  cases h with
  |
   tp ht h0 hm hle=>
   rename_i b q m
   obtain⟨arr,ty,I,hs,D⟩:=E.tb _ _ _ ht
   have J:j<cts.length:=(dF.1 hc).1
   obtain⟨p,y,r1,L,M⟩:=D (q+j) ct (by omega) (by rw[Ju,hm,fG,Jv,Jw J];exact hc)
   obtain⟨d,i,h1,h2,h3,h4⟩:=zC G
   have a:=Pz (i:=i) h1 w
   rw[h3] at a
   have B:w.cell? ⟨b,q+j,none⟩=some y:=by rw[lK I];exact r1
   exact⟨y,.pv p,by simp[execOp,ho,H,Instr.loadAt,Instr.sureAddr,loadVar,a,B],.pv M,p,L,rfl⟩
def ZF (cts:List CT)(ps:List PV):Prop:=ps.length=cts.length/\∀(j:Nat) ct p,cts[j]?=some ct->ps[j]?=some p->ct.ok p
theorem aha {Q:Nat->PV->Prop} :∀n:Nat,(∀j,j<n->∃p,Q j p)->∃d:List PV,d.length=n/\∀j p,d[j]?=some p->Q j p
 |0,_=>⟨[],rfl,λj p h=>by simp at h⟩
 |
  n+1,h=>by
  obtain⟨d,h1,h2⟩:=aha n (λj B=>h j (Nat.lt_succ_of_lt B))
  obtain⟨p,D⟩:=h n (TI n)
  refine⟨d++[p],by simp[h1],λj q a=>?_⟩
  by_cases B:j<n
  . rw[jX (by omega)] at a
    exact h2 j q a
  . rw[jY (by omega)] at a
    have u:=(dF.1 a).1
    simp at u
    have y:j=n:=by omega
    subst y
    rw[h1,qH] at a
    injection a with a
    subst a
    exact D
theorem Xq {t:TypeId}{x:Operand}{cts:List CT}(ho:o.op= .load t x)(H:lay P t=some (true,cts.length))(hx:e x=some (.tp cts 0)):
 DSound P o e σ lab ⟨True,λu=>∃a,ZF cts a/\u= .agg (a.map .pv),[],false,[]⟩:=
 .pure rfl λΨ loc fr w ρ he E U=>by
  have h:=he x _ hx
  generalize I:ρ x=y at h
  cases h with
  |
   tp ht h0 hm hle=>
   rename_i b q m
   obtain⟨arr,ty,J,hs,B⟩:=E.tb _ _ _ ht
   obtain⟨a,h1,h2⟩:=aha (Q:=λj p=>(∀ct,cts[j]?=some ct->ct.ok p)/\∃y,arr[q+j]?=some y/\Rep Ψ p y) cts.length (λj d=>by
    obtain⟨p,y,r1,G,L⟩:=B (q+j) cts[j] (by omega) (by rw[Ju,hm,fG,Jv,Jw d];exact bH d)
    exact⟨p,λct hc=>by rw[bH d] at hc;injection hc with hc;subst hc;exact G,y,r1,L⟩)
   have M:zV true cts.length (a.map AV.pv) 0=some (.agg (a.map AV.pv)):=by
    rw[<-h1]
    simp[zV,<-lC]
   obtain⟨y,r1,G⟩:=jE (P:=P) (base:=q) (b:=b) (w:=w) (Ψ:=Ψ) (loc:=loc) H M (λj u D=>by
    rw[bV] at D
    cases d:a[j]? with
    |none=>simp [d] at D
    |
     some p=>
     simp[d] at D
     subst D
     obtain⟨_,x,N,O⟩:=h2 j p d
     exact⟨x,by rw[lK J];exact N,.pv O⟩)
   rw[sK] at r1
   exact⟨y,.agg (a.map AV.pv),by simp[execOp,ho,I,r1],G,a,⟨h1,λj ct p hc R=>(h2 j p R).1 ct hc⟩,rfl⟩
end
def toP:AV->Option PV
 | .pv p=>some p
 | .emp=>some (.sl [])
 |_=>none
def xw:List AV->Option (List PV)
 | []=>some []
 |
  v::r=>match toP v,xw r with
  |some p,some ps=>some (p::ps)
  |_,_=>none
theorem yD {Ψ:Psi}{loc:Loc}{v:AV}{p:PV}{x:Value}(h:RepA Ψ loc v x)(a:toP v=some p):Rep Ψ p x:=by
 cases h<;>first
  |(cases a;done)
  |(injection a with a;subst a;first|assumption|exact .nil (λ_=>rfl))
theorem kV:∀ {vs:List AV}{a:List PV},xw vs=some a->a.length=vs.length/\∀(j:Nat) p,a[j]?=some p->∃v,vs[j]?=some v/\toP v=some p
 | [],a,h=>by injection h with h;subst h;exact⟨rfl,λj p h=>by simp at h⟩
 |
  v::r,a,h=>by
  unfold xw at h
  split at h
  . rename_i p y h1 h2
    injection h with h
    subst h
    have q:=kV h2
    refine⟨by simp[q.1],λj u d=>?_⟩
    cases j with
    |zero=>simp at d;subst d;exact⟨v,rfl,h1⟩
    |succ j=>simpa using q.2 j u (by simpa using d)
  . cases h
theorem um {Ψ:Psi}{loc:Loc}{v:AV}{x:Value}(h:RepA Ψ loc v x)(hc:(bJ v).all iI=true):x.cells.size=(bJ v).length/\∀(j:Nat) u,(bJ v)[j]?=some u->∃y,x.cells[j]?=some y/\y.oneCell'=true/\RepA Ψ loc u y:=by
 by_cases d:iI v=true
 . have h1:=h.one d;(((have h2:bJ v=[v]:=by cases v<;>first|rfl|cases d);have h3:x.cells=#[x]:=by cases x<;>first|rfl|cases h1);rw[h2,h3]);refine⟨rfl,λj u a=>?_⟩
   cases j with
   |zero=>simp at a;subst a;exact⟨x,rfl,h1,h⟩
   |succ j=>simp at a
 . cases h with
   |
    agg f hs hx hr=>
    refine⟨hs,λj u a=>⟨f j,hx j (dF.1 a).1,?_,hr j u a⟩⟩;exact (hr j u a).one (jU.1 hc u (gZ a))
   |tup f hs hx hr=>simp [bJ,iI] at hc
   |_=>exact absurd rfl d
section
variable {P : Program} {o : Oper} {e : Operand -> Option AV} {σ : Sto} {lab : Nat}
theorem uo {t:TypeId}{g:Bool}{k b off:Nat}{arr:Array Value}{ty:TypeId}{w:World}{x:Value}(a:lay P t=some (g,k))(q:w.heap[b]?=some (.cells arr ty (0,0)))(hk:x.cells.size=k)(hle:off+k<=arr.size)(h1:∀y∈x.cells.toList,y.oneCell'=true):
 (Instr.storeAt t (.pointer (some ⟨b,off,none⟩)) x).run P w= .ok () (w.setRow b (iV arr.toList off x.cells.toList).toArray):=by obtain⟨d,i,D,u,E,B⟩:=zC a;have hs:=run_storeCells_at (P:=P) b off ty x.cells.toList 0 arr w q (by simp[hk];omega) h1;simp only[sK] at hs;simp[Instr.storeAt,Instr.sureAddr,storeVar,Go.sizeOf,typeInfo,u,B,hk,hs,iV]
theorem uq {loc:Loc}{l b c:Nat}(h:loc l=some (some ⟨b,0,none⟩,c+1)):blk loc l=some b:=by simp[blk,h]
theorem UT (σ:Sto)(l:Nat)(a b:Option Obj):(σ.upd l a).upd l b=σ.upd l b:=by funext r;unfold Sto.upd;split<;>rfl
theorem upd_eq (σ:Sto)(l:Nat)(a:Option Obj):(σ.upd l a) l=a:=by simp[Sto.upd]
theorem upd_ne (σ:Sto){l r:Nat}(a:Option Obj)(h:r≠l):(σ.upd l a) r=σ r:=by simp[Sto.upd,h]
theorem VZ {t:TypeId}{x y:Operand}{g:Bool}{k l off:Nat}{cs:List AV}{v:AV}(ho:o.op= .store t x y)(E:o.dst=none)(V:lay P t=some (g,k))(hx:e x=some (.ptr l off))(X:e y=some v)(hσ:σ l=some (.box cs))
 (hk:(bJ v).length=k) (hc:(bJ v).all iI=true) (hle:off+k<=cs.length):
 DSound P o e σ lab ⟨True,λu=>u= .emp,[],true,[(l,some (.box (iV cs off (bJ v))))]⟩:=by
 intro fr Ψ loc w ρ he a R _ hd;have h:=he x _ hx;generalize Y:ρ x=z at h;obtain⟨b,c,arr,ty,h1,U,hs,hr⟩:DD Ψ loc w l cs:=a.ob l _ hσ;obtain⟨c1,c2⟩:=um (he y v X) hc
 cases h with
 |
  ptr d=>
  rename_i Z c';rw[h1] at d;injection d with d;injection d with d h2;injection d with d;injection d with d;subst d;have G:=uo (P:=P) (t:=t) (x:=ρ y) V U (c1.trans hk) (off:=off) (by omega) (λu D=>by obtain⟨j,q⟩:=sG.1 D;have N:j<(bJ v).length:=(by have:=(dF.1 q).1;rw[uu,c1] at this;exact this);obtain⟨M,H,I,_⟩:=c2 j _ (bH N);rw[gz,H] at q;injection q with q;rw[<-q];exact I);have hb:=uq h1;have J:=(a.drop l).chg (Same.row (K:=Free fr Ψ loc (σ.upd l none)) (a.free hσ hb) (iV arr.toList off (ρ y).cells.toList).toArray);refine⟨undef,w.setRow b (iV arr.toList off (ρ y).cells.toList).toArray,Ψ,loc,.emp,.inr ⟨by simp[execOp,ho,Y,G],E⟩,rfl,?_,.refl _,λ_ _=>rfl,?_⟩;show Ok fr Ψ loc (σ.upd l _) _;rw[<-UT σ l none];have L:off+(ρ y).cells.toList.length<=arr.toList.length:=(by simp[c1,hs];omega);refine J.claim (upd_eq _ _ _) ⟨b,c,_,ty,h1,Jb w b arr _ ty _ U,?_,λj u D=>?_⟩ (λZ B=>by rw[hb] at B;injection B with B;rw[<-B];exact a.free hσ hb);simp only[Bf];rw[oh L,oh (by omega)];simpa using hs;rw[jV (by omega)] at D;have hg:=jV L j;rw[uu,c1] at hg;split at D;rename_i q;obtain⟨M,H,I,O⟩:=c2 _ u D;exact⟨M,by rw[sO,hg,if_pos q,gz];exact H,I,O⟩;rename_i q;obtain⟨M,H,I,O⟩:=hr j u D;exact⟨M,by rw[sO,hg,if_neg q,gz];exact H,I,O⟩;exact Same.row (K:=λk=>¬fr.pr k) (a.ow l _ b hσ hb).1 _
theorem H5 {fr:Fr}{Ψ:Psi}{loc:Loc}{w:World}(a:Ok fr Ψ loc σ w)(d:loc lab=none)(hs:σ lab=none){cs:List AV}{xs:Array Value}{ty:TypeId}(hn:xs.size=cs.length)(hr:∀(j:Nat) u,cs[j]?=some u->∃y,xs[j]?=some y/\y.oneCell'=true/\RepA Ψ loc u y):
 Ok fr Ψ (loc.upd lab (some ⟨w.heap.size,0,none⟩,1)) (σ.upd lab (some (.box cs))) (w.alloc (.cells xs ty)):=by have hle:Loc.le loc (loc.upd lab (some ⟨w.heap.size,0,none⟩,1)):=Loc.le_upd d;have h1:=a.chg (w':=w.alloc (.cells xs ty)) (Same.of (aV w _ none) nofun);have h2:=h1.locs hle (λl o e=>Loc.upd_ne (λq=>by rw[q,hs] at e;cases e));refine h2.claim hs ⟨w.heap.size,0,xs,ty,Loc.upd_eq,heap_alloc_new w _,hn,λj u B=>?_⟩ (λb hb=>?_);obtain⟨y,D,E,G⟩:=hr j u B;exact⟨y,D,E,G.mono (.refl _) hle⟩;have:b=w.heap.size:=(by simp[blk,Loc.upd_eq] at hb;exact hb.symm);subst this;have hf:=a.new (au _);exact⟨hf.pr,hf.tb,hf.fz,λl o e q=>by rw[kL (Loc.upd_ne (λq=>by rw[q,hs] at e;cases e))] at q;exact hf.ob l o e q⟩
theorem YN {t:TypeId}{cs:List AV}(ho:o.op= .alloc t)(B:eu P t=some cs):DSound P o e σ lab ⟨True,λu=>u= .ptr lab 0,[],true,[(lab,some (.box cs))]⟩:=by
 intro fr Ψ loc w ρ he q a hs E;obtain⟨i,z,h1,h2,h3,rfl⟩:=xx B;refine⟨.pointer (some ⟨w.heap.size,0,none⟩),w.alloc (.cells z.cells t),Ψ,loc.upd lab (some ⟨w.heap.size,0,none⟩,1),_,.inl ⟨?_,.ptr Loc.upd_eq⟩,rfl,H5 q a hs (by simp) (λj u d=>?_),.refl _,λl D=>Loc.upd_ne D,Same.of (aV w _ none) nofun⟩;simp[execOp,ho,Instr.alloc,zeroValue,typeInfo,h1,h2,newVar,newRow]
 . rw[bV,gz] at d
   cases hj:z.cells[j]? with
   |none=>simp [hj] at d
   |
    some y=>
    simp[hj] at d;subst d;have:=(Ns.1 h3) y (Jc hj);exact⟨y,rfl,this,CX this⟩
theorem afg {t:TypeId}{x:Operand}{v:AV}(ho:o.op= .box t x)(hx:e x=some v)(hc:(bJ v).all iI=true):DSound P o e σ lab ⟨True,λu=>u= .ptr lab 0,[],true,[(lab,some (.box (bJ v)))]⟩:=by intro fr Ψ loc w ρ he d a hs y;obtain⟨c1,c2⟩:=um (he x v hx) hc;exact⟨.pointer (some ⟨w.heap.size,0,none⟩),w.alloc (.cells (ρ x).cells t),Ψ,loc.upd lab (some ⟨w.heap.size,0,none⟩,1),_,.inl ⟨by simp[execOp,ho,Instr.box,newVar,newRow],.ptr Loc.upd_eq⟩,rfl,H5 d a hs c1 c2,.refl _,λl q=>Loc.upd_ne q,Same.of (aV w _ none) nofun⟩
theorem V3 {t:TypeId}{x y:Operand}{g:Bool}{k d r ty i off:Nat}{els:List (List PV)}{v:AV}{ps:List PV}(ho:o.op= .store t x y)(N:o.dst=none)(hl:lay P t=some (g,k))(hx:e x=some (.rp r d i off))(hy:e y=some v)(hσ:σ r=some (.row ty d els))
 (hp:xw (bJ v)=some ps) (hk:ps.length=k) (hle:off+k<=d):
 DSound P o e σ lab ⟨i<els.length,λu=>u= .emp,[],true,[(r,some (.row ty d (els.modify i (λrow=>iV row off ps))))]⟩:=by
 intro fr Ψ loc w ρ he B aa _ hi;have hi:i<els.length:=hi;have h:=he x _ hx;generalize hq:ρ x=z at h;obtain⟨A,c,h1,h2⟩:qB Ψ loc w r ty d els:=B.ob r _ hσ;have H:(bJ v).all iI=true:=by
  rw[jU];intro u hu;obtain⟨j,D⟩:=sG.1 hu;have ad:=(kV hp).1;obtain⟨u',G,O⟩:=(kV hp).2 j (ps[j]'(by have:=(dF.1 D).1;omega)) (bH _);rw[D] at G;injection G with G;subst G
  cases u<;>first|rfl|cases O
 obtain⟨c1,c2⟩:=um (he y v hy) H;have I:(bJ v).length=k:=by rw[<-(kV hp).1];exact hk
 cases h with
 |
  rp q=>
  rename_i b' c';rcases h2 with ⟨rfl,_⟩|⟨h0,b,cur,rfl,hh,G,O,q3,q4,q5⟩;simp at hi;rw[h1] at q;injection q with q;injection q with q h2;injection q with q;injection q with q;subst q;have a6:(i+1)* d<=c*d:=mf _ (by omega);rw[jW,rq] at a6;have a7:i*d+off+k<=cur.size:=(by omega);have R:=uo (P:=P) (t:=t) (x:=ρ y) hl hh (c1.trans I) (off:=i*d+off) a7 (λu hu=>by obtain⟨j,D⟩:=sG.1 hu;have U:j<(bJ v).length:=(by have:=(dF.1 D).1;rw[uu,c1] at this;exact this);obtain⟨M,G,O,_⟩:=c2 j _ (bH U);rw[gz,G] at D;injection D with D;rw[<-D];exact O);obtain⟨c',rfl⟩:∃c',c=c'+1:=⟨c-1,by omega⟩;have hb:=uq h1;have V:=(B.drop r).chg (Same.row (K:=Free fr Ψ loc (σ.upd r none)) (B.free hσ hb) (iV cur.toList (i*d+off) (ρ y).cells.toList).toArray);refine⟨undef,w.setRow b (iV cur.toList (i*d+off) (ρ y).cells.toList).toArray,Ψ,loc,.emp,.inr ⟨by simp[execOp,ho,hq,R],N⟩,rfl,?_,.refl _,λ_ _=>rfl,?_⟩
  . show Ok fr Ψ loc (σ.upd r _) _;rw[<-UT σ r none];have X:i*d+off+(ρ y).cells.toList.length<=cur.toList.length:=(by simp[c1,I];omega);refine V.claim (upd_eq _ _ _) ⟨_,_,h1,.inr ⟨h0,b,_,rfl,Jb w b cur _ ty _ hh,by simpa using G,O,?_,λrow Y=>?_,λJ j p a=>?_⟩⟩ (λb' E=>by rw[hb] at E;injection E with E;rw[<-E];exact B.free hσ hb);simp only[Bf];rw[oh X];simpa using q3
    . obtain⟨n,hn⟩:=sG.1 Y;rw[Rn] at hn
      cases hm:els[n]? with
      |none=>simp [hm] at hn
      |
       some row0=>
       have:=q4 row0 (gZ hm);simp only[hm,Option.map_eq_map,nU,ig] at hn;split at hn;subst hn;rw[oh (by omega)];exact this;subst hn;exact this
    . unfold cellOf at a;rw[Rn] at a
      cases hm:els[J]? with
      |none=>simp [hm] at a
      |
       some row0=>
       have a8:=q4 row0 (gZ hm);have al:=(dF.1 hm).1;have hg:=jV X (J*d+j);rw[uu,c1,I] at hg;simp only[hm,Option.map_eq_map,nU,wP] at a;split at a;rename_i L;subst L;rw[jV (by omega)] at a;split at a;rename_i D;obtain⟨u,r1,r2⟩:=(kV hp).2 _ _ a;obtain⟨M,s1,s2,s3⟩:=c2 _ u r1;refine⟨M,?_,yD s3 r2⟩;rw[sO,hg,if_pos (by omega),gz,show i*d+j-(i*d+off)=j-off by omega];exact s1;rename_i D;obtain⟨M,s1,s2⟩:=q5 i j p (by simp[cellOf,hm,a]);refine⟨M,?_,s2⟩;rw[sO,hg,if_neg (by omega),gz];exact s1
       . rename_i L;have an:j<d:=(by rw[<-a8];exact (dF.1 a).1);obtain⟨M,s1,s2⟩:=q5 J j p (by simp[cellOf,hm,a]);refine⟨M,?_,s2⟩;have Z:¬(i*d+off<=J*d+j/\J*d+j<i*d+off+k):=by
          intro ab;rcases Nat.lt_or_gt_of_ne L with U|hgt;have:=mf d (show i+1<=J by omega);rw[jW,rq] at this;omega;have:=mf d (show J+1<=i by omega);rw[jW,rq] at this;omega
         rw[sO,hg,if_neg Z,gz];exact s1
  exact Same.row (K:=λk=>¬fr.pr k) (B.ow r _ b hσ hb).1 _
theorem V4 {t:TypeId}{x y:Operand}{j:Nat}{cts:List CT}{ct:CT}{v:AV}{p:PV}(ho:o.op= .store t x y)(D:o.dst=none)(M:lay P t=some (false,1))(hx:e x=some (.tp cts j))(N:e y=some v)(hc:cts[j]?=some ct)(O:toP v=some p):
 DSound P o e σ lab ⟨ct.ok p,λu=>u= .emp,[],true,[]⟩:=by
 intro fr Ψ loc w ρ he B I _ G;have G:ct.ok p:=G;have h:=he x _ hx;generalize R:ρ x=z at h;have a:=yD (he y v N) O;have h1:=a.one;have h3:(ρ y).cells=#[ρ y]:=by
  generalize ρ y=q at h1|-
  cases q<;>first|rfl|cases h1
 cases h with
 |
  tp ht h0 hm hle=>
  rename_i b q m;obtain⟨arr,ty,J,hs,L⟩:=B.tb _ _ _ ht;have U:j<cts.length:=(dF.1 hc).1;have d:=uo (P:=P) (t:=t) (x:=ρ y) M J (by rw[h3];rfl) (off:=q+j) (by omega) (λu H=>by rw[h3] at H;simp at H;rw[H];exact h1);have E:(iV arr.toList (q+j) (ρ y).cells.toList).toArray=arr.setIfInBounds (q+j) (ρ y):=(by apply YO;intro n;rw[sO,jV (by rw[h3];simp;omega),h3,QG];simp only[iZ,zD,gz];by_cases hn:q+j=n;subst hn;rw[if_pos (by omega),if_pos rfl,if_pos (by omega)];simp;rw[if_neg (by omega),if_neg hn]);rw[E] at d;exact⟨undef,w.setRow b (arr.setIfInBounds (q+j) (ρ y)),Ψ,loc,.emp,.inr ⟨by simp[execOp,ho,R,d],D⟩,rfl,B.storeTyped ht (by omega) (by rw[Ju,hm,fG,Jv,Jw U];exact hc) G a J,.refl _,λ_ _=>rfl,Same.row (K:=λk=>¬fr.pr k) (B.tf b _ ht).1 _⟩
end
