/- Words. -/
import Derived.Test.YtfbkkgfkhhibfaaGreatAdo
set_option linter.unusedVariables false
set_option linter.unusedSimpArgs false
namespace AM
open Go Go.RowKit
def iD:AV->Bool
 | .agg _ | .tup _=>false
 |_=>true
def bg:AV->List AV
 | .agg cs=>cs
 |v=> [v]
def iM {α:Type}(cs:List α)(off:Nat)(vs:List α):List α:=cs.take off++vs++cs.drop (off+vs.length)
theorem nR {α:Type}{cs vs:List α}{off:Nat}(h:off+vs.length<=cs.length):(iM cs off vs).length=cs.length:=by simp only[iM,aY,sS,pG];omega
theorem jL {α:Type}{cs vs:List α}{off:Nat}(h:off+vs.length<=cs.length)(j:Nat):(iM cs off vs)[j]?=if off<=j/\j<off+vs.length then vs[j-off]? else cs[j]?:=by unfold iM;rw[fM];have a:(cs.take off).length=off:=(by rw[sS];omega);by_cases h1:j<off;rw[jO (by omega),if_neg (by omega),rZ,if_pos h1];rw[jP (by omega),a];by_cases h2:j<off+vs.length;rw[if_pos ⟨by omega,h2⟩,jO (by omega)];rw[if_neg (by omega),jP (by omega),zY];congr 1;omega
def zK (g:Bool)(k:Nat)(cs:List AV)(off:Nat):Option AV:=
 if g=true then (if off+k<=cs.length then some (.agg ((cs.drop off).take k)) else none) else cs[off]?
theorem RepA.one {Ψ:Psi}{loc:Loc}{v:AV}{x:Value}(h:RepA Ψ loc v x)(hc:iD v=true):x.oneCell'=true:=by cases h<;>first|rfl|(cases hc;done)|(rename_i h;exact h.one)
section
variable {P : Program} {o : Oper} {e : Operand -> Option AV} {σ : Sto} {lab : Nat}
theorem jq {t:TypeId}{g:Bool}{k b off:Nat}{w:World}{Ψ:Psi}{loc:Loc}{cs:List AV}{v:AV}(M:lay P t=some (g,k))(D:zK g k cs off=some v){base:Nat}
 (hc:∀j u,cs[j]?=some u->∃x,w.cell? ⟨b,base+j,none⟩=some x/\RepA Ψ loc u x):∃x,(Instr.loadAt t (.pointer (some ⟨b,base+off,none⟩))).run P w= .ok x w/\RepA Ψ loc v x:=by
 obtain⟨d,i,h1,h2,h3,h4⟩:=zk M
 cases g with
 |
  false=>
  obtain⟨x,E,I⟩:=hc off v (by simpa [zK] using D);refine⟨x,?_,I⟩;have y:=O5 (i:=i) h1 w;rw[h3] at y;simp[Instr.loadAt,Instr.sureAddr,loadVar,y,E]
 |
  true=>
  have J:off+k<=cs.length/\v= .agg ((cs.drop off).take k):=by
   simp only[zK,qM] at D;split at D;rename_i h;injection D with D;exact⟨h,D.symm⟩
   cases D
  obtain⟨hle,rfl⟩:=J;have hf:∀j,∃x,j<k->∃u,cs[off+j]?=some u/\w.cell? ⟨b,base+off+j,none⟩=some x/\RepA Ψ loc u x:=(λj=>by by_cases a:j<k;have G:off+j<cs.length:=(by omega);obtain⟨x,E,I⟩:=hc (off+j) _ (aX G);exact⟨x,λ_=>⟨_,aX G,by rw[lW];exact E,I⟩⟩;exact⟨undef,λh=>absurd h a⟩);let f:Nat->Value:=λj=>(hf j).choose
  have H:∀j,j<k->∃u,cs[off+j]?=some u/\w.cell? ⟨b,base+off+j,none⟩=some (f j)/\RepA Ψ loc u (f j):=λj a=>(hf j).choose_spec a;refine⟨.agg ((List.range k).map f).toArray,run_loadAt_mid w b (base+off) t ((List.range k).map f) d (λj x hx=>?_) h1 h3 (by simp[h2,h4]),?_⟩
  . rw[bM] at hx;have a:j<k:=by
     apply O7;intro a;rw[uw (by simpa using a)] at hx
     cases hx
    rw[aX (by simpa using a)] at hx;simp at hx;obtain⟨u,_,q,_⟩:=H j a;rw[<-hx];exact q
  . refine .agg f (by simp;omega) (λj a=>?_) (λj u B=>?_);have L:j<k:=(by simp at a;omega);simp[L]
    . rw[rZ] at B;split at B;rename_i a;rw[zY] at B;obtain⟨O,E,_,N⟩:=H j a;rw[E] at B;injection B with B;rw[<-B];exact N
      cases B
theorem Iw {fr:Fr}{Ψ:Psi}{loc:Loc}{w:World}{l:Nat}{cs:List AV}(h:Dw Ψ loc w l cs):∃b c,loc l=some (some ⟨b,0,none⟩,c+1)/\∀j u,cs[j]?=some u->∃x,w.cell? ⟨b,0+j,none⟩=some x/\RepA Ψ loc u x:=by obtain⟨b,c,arr,ty,h1,h2,h3,h4⟩:=h;refine⟨b,c,h1,λj u a=>?_⟩;obtain⟨x,d,_,q⟩:=h4 j u a;exact⟨x,by rw[eX,lh h2];exact d,q⟩
theorem aaG {t:TypeId}{x:Operand}{g:Bool}{k l off:Nat}{cs:List AV}{v:AV}(ho:o.op= .load t x)(d:lay P t=some (g,k))(hx:e x=some (.ptr l off))(hσ:σ l=some (.box cs))(q:zK g k cs off=some v):DSound P o e σ lab ⟨True,λu=>u=v,[l],true,[]⟩:=
 .pure rfl λΨ loc fr w ρ he a E=>by
  have h:=he x _ hx
  generalize B:ρ x=y at h
  cases h with
  |
   ptr hp=>
   obtain⟨G,H,h1,hc⟩:=Iw (fr:=fr) (a.ob l _ hσ)
   rw[hp] at h1
   injection h1 with h1
   injection h1 with h1 h2
   injection h1 with h1
   injection h1 with h1
   subst h1
   obtain⟨y,r1,D⟩:=jq (P:=P) d q hc
   rw[eX] at r1
   exact⟨y,v,by simp[execOp,ho,B,r1],D,rfl⟩
theorem aaH {t:TypeId}{x:Operand}{g:Bool}{k off:Nat}{row:List PV}{v:AV}(ho:o.op= .load t x)(B:lay P t=some (g,k))(hx:e x=some (.fp row off))(D:zK g k (row.map .pv) off=some v):DSound P o e σ lab (.val v):=
 .pure rfl λΨ loc fr w ρ he d H=>by
  have h:=he x _ hx
  generalize E:ρ x=y at h
  cases h with
  |
   fp f hf hr=>
   rename_i b q
   obtain⟨y,r1,G⟩:=jq (P:=P) (w:=w) (b:=b) (base:=q) (Ψ:=Ψ) (loc:=loc) B D (λj u a=>by
    rw[bM] at a
    cases hj:row[j]? with
    |none=>simp [hj] at a
    |
     some p=>
     simp[hj] at a
     subst a
     exact⟨f j,d.fz _ _ _ (hf j p hj),.pv (hr j p hj)⟩)
   exact⟨y,v,by simp[execOp,ho,E,r1],G,rfl⟩
theorem Xf {Ψ:Psi}{loc:Loc}{w:World}{l ty k:Nat}{els:List (List PV)}(h:qh Ψ loc w l ty k els){i:Nat}{row:List PV}(hi:els[i]?=some row):
 ∃b c,loc l=some (some ⟨b,0,none⟩,c)/\row.length=k/\∀j u,(row.map AV.pv)[j]?=some u->∃x,w.cell? ⟨b,i*k+j,none⟩=some x/\RepA Ψ loc u x:=by
 obtain⟨A,c,h1,h2⟩:=h;rcases h2 with ⟨rfl,_⟩|⟨h0,b,cur,rfl,hh,q1,q2,q3,q4,q5⟩;simp at hi
 . refine⟨b,c,h1,q4 row (gU hi),λj u a=>?_⟩;rw[bM] at a
   cases hj:row[j]? with
   |none=>simp [hj] at a
   |
    some p=>
    simp[hj] at a;subst a;obtain⟨x,r1,d⟩:=q5 i j p (by simp[cellOf,hi,hj]);exact⟨x,by rw[lh hh];exact r1,.pv d⟩
theorem aaI {t:TypeId}{x:Operand}{g:Bool}{k r ty d i off:Nat}{els:List (List PV)}(ho:o.op= .load t x)(B:lay P t=some (g,k))(hx:e x=some (.rp r d i off))(hσ:σ r=some (.row ty d els)):
 DSound P o e σ lab ⟨∃row v,els[i]?=some row/\zK g k (row.map .pv) off=some v,λu=>∃row,els[i]?=some row/\zK g k (row.map .pv) off=some u,[r],true,[]⟩:=
 .pure rfl λΨ loc fr w ρ he a D=>by
  obtain⟨row,v,hi,q⟩:=D
  have h:=he x _ hx
  generalize E:ρ x=y at h
  cases h with
  |
   rp hp=>
   obtain⟨H,I,h1,_,hc⟩:=Xf (a.ob r _ hσ) hi
   rw[hp] at h1
   injection h1 with h1
   injection h1 with h1 h2
   injection h1 with h1
   injection h1 with h1
   subst h1
   obtain⟨y,r1,G⟩:=jq (P:=P) B q hc
   exact⟨y,v,by simp[execOp,ho,E,r1],G,row,hi,q⟩
theorem aaJ {t:TypeId}{x:Operand}{k j:Nat}{cts:List CT}{ct:CT}(ho:o.op= .load t x)(G:lay P t=some (false,k))(hx:e x=some (.tp cts j))(hc:cts[j]?=some ct):
 DSound P o e σ lab ⟨True,λu=>∃p,ct.ok p/\u= .pv p,[],false,[]⟩:=
 .pure rfl λΨ loc fr w ρ he E N=>by
  have h:=he x _ hx
  generalize H:ρ x=y at h
  cases h with
  |
   tp ht h0 hm hle=>
   rename_i b q m
   obtain⟨arr,ty,I,hs,D⟩:=E.tb _ _ _ ht
   have J:j<cts.length:=(dD.1 hc).1
   obtain⟨p,y,r1,L,M⟩:=D (q+j) ct (by omega) (by rw[Jr,hm,eX,Js,Jt J];exact hc)
   obtain⟨d,i,h1,h2,h3,h4⟩:=zk G
   have a:=O5 (i:=i) h1 w
   rw[h3] at a
   have B:w.cell? ⟨b,q+j,none⟩=some y:=by rw[lh I];exact r1
   exact⟨y,.pv p,by simp[execOp,ho,H,Instr.loadAt,Instr.sureAddr,loadVar,a,B],.pv M,p,L,rfl⟩
def Zu (cts:List CT)(ps:List PV):Prop:=ps.length=cts.length/\∀(j:Nat) ct p,cts[j]?=some ct->ps[j]?=some p->ct.ok p
theorem ahf {Q:Nat->PV->Prop} :∀n:Nat,(∀j,j<n->∃p,Q j p)->∃d:List PV,d.length=n/\∀j p,d[j]?=some p->Q j p
 |0,_=>⟨[],rfl,λj p h=>by simp at h⟩
 |
  n+1,h=>by
  obtain⟨d,h1,h2⟩:=ahf n (λj B=>h j (Nat.lt_succ_of_lt B))
  obtain⟨p,D⟩:=h n (Tq n)
  refine⟨d++[p],by simp[h1],λj q a=>?_⟩
  by_cases B:j<n
  . rw[jO (by omega)] at a
    exact h2 j q a
  . rw[jP (by omega)] at a
    have u:=(dD.1 a).1
    simp at u
    have y:j=n:=by omega
    subst y
    rw[h1,qm] at a
    injection a with a
    subst a
    exact D
theorem Xg {t:TypeId}{x:Operand}{cts:List CT}(ho:o.op= .load t x)(H:lay P t=some (true,cts.length))(hx:e x=some (.tp cts 0)):
 DSound P o e σ lab ⟨True,λu=>∃a,Zu cts a/\u= .agg (a.map .pv),[],false,[]⟩:=
 .pure rfl λΨ loc fr w ρ he E U=>by
  have h:=he x _ hx
  generalize I:ρ x=y at h
  cases h with
  |
   tp ht h0 hm hle=>
   rename_i b q m
   obtain⟨arr,ty,J,hs,B⟩:=E.tb _ _ _ ht
   obtain⟨a,h1,h2⟩:=ahf (Q:=λj p=>(∀ct,cts[j]?=some ct->ct.ok p)/\∃y,arr[q+j]?=some y/\Rep Ψ p y) cts.length (λj d=>by
    obtain⟨p,y,r1,G,L⟩:=B (q+j) cts[j] (by omega) (by rw[Jr,hm,eX,Js,Jt d];exact aX d)
    exact⟨p,λct hc=>by rw[aX d] at hc;injection hc with hc;subst hc;exact G,y,r1,L⟩)
   have M:zK true cts.length (a.map AV.pv) 0=some (.agg (a.map AV.pv)):=by
    rw[<-h1]
    simp[zK,<-kU]
   obtain⟨y,r1,G⟩:=jq (P:=P) (base:=q) (b:=b) (w:=w) (Ψ:=Ψ) (loc:=loc) H M (λj u D=>by
    rw[bM] at D
    cases d:a[j]? with
    |none=>simp [d] at D
    |
     some p=>
     simp[d] at D
     subst D
     obtain⟨_,x,N,O⟩:=h2 j p d
     exact⟨x,by rw[lh J];exact N,.pv O⟩)
   rw[rQ] at r1
   exact⟨y,.agg (a.map AV.pv),by simp[execOp,ho,I,r1],G,a,⟨h1,λj ct p hc R=>(h2 j p R).1 ct hc⟩,rfl⟩
end
def toP:AV->Option PV
 | .pv p=>some p
 | .emp=>some (.sl [])
 |_=>none
def xe:List AV->Option (List PV)
 | []=>some []
 |
  v::r=>match toP v,xe r with
  |some p,some ps=>some (p::ps)
  |_,_=>none
theorem yu {Ψ:Psi}{loc:Loc}{v:AV}{p:PV}{x:Value}(h:RepA Ψ loc v x)(a:toP v=some p):Rep Ψ p x:=by
 cases h<;>first
  |(cases a;done)
  |(injection a with a;subst a;first|assumption|exact .nil (λ_=>rfl))
theorem kM:∀ {vs:List AV}{a:List PV},xe vs=some a->a.length=vs.length/\∀(j:Nat) p,a[j]?=some p->∃v,vs[j]?=some v/\toP v=some p
 | [],a,h=>by injection h with h;subst h;exact⟨rfl,λj p h=>by simp at h⟩
 |
  v::r,a,h=>by
  unfold xe at h
  split at h
  . rename_i p y h1 h2
    injection h with h
    subst h
    have q:=kM h2
    refine⟨by simp[q.1],λj u d=>?_⟩
    cases j with
    |zero=>simp at d;subst d;exact⟨v,rfl,h1⟩
    |succ j=>simpa using q.2 j u (by simpa using d)
  . cases h
theorem tH {Ψ:Psi}{loc:Loc}{v:AV}{x:Value}(h:RepA Ψ loc v x)(hc:(bg v).all iD=true):x.cells.size=(bg v).length/\∀(j:Nat) u,(bg v)[j]?=some u->∃y,x.cells[j]?=some y/\y.oneCell'=true/\RepA Ψ loc u y:=by
 by_cases d:iD v=true
 . have h1:=h.one d;(((have h2:bg v=[v]:=by cases v<;>first|rfl|cases d);have h3:x.cells=#[x]:=by cases x<;>first|rfl|cases h1);rw[h2,h3]);refine⟨rfl,λj u a=>?_⟩
   cases j with
   |zero=>simp at a;subst a;exact⟨x,rfl,h1,h⟩
   |succ j=>simp at a
 . cases h with
   |
    agg f hs hx hr=>
    refine⟨hs,λj u a=>⟨f j,hx j (dD.1 a).1,?_,hr j u a⟩⟩;exact (hr j u a).one (nO.1 hc u (gU a))
   |tup f hs hx hr=>simp [bg,iD] at hc
   |_=>exact absurd rfl d
section
variable {P : Program} {o : Oper} {e : Operand -> Option AV} {σ : Sto} {lab : Nat}
theorem tJ {t:TypeId}{g:Bool}{k b off:Nat}{arr:Array Value}{ty:TypeId}{w:World}{x:Value}(a:lay P t=some (g,k))(q:w.heap[b]?=some (.cells arr ty (0,0)))(hk:x.cells.size=k)(hle:off+k<=arr.size)(h1:∀y∈x.cells.toList,y.oneCell'=true):
 (Instr.storeAt t (.pointer (some ⟨b,off,none⟩)) x).run P w= .ok () (w.setRow b (iM arr.toList off x.cells.toList).toArray):=by obtain⟨d,i,D,u,E,B⟩:=zk a;have hs:=run_storeCells_at (P:=P) b off ty x.cells.toList 0 arr w q (by simp[hk];omega) h1;simp only[rQ] at hs;simp[Instr.storeAt,Instr.sureAddr,storeVar,Go.sizeOf,typeInfo,u,B,hk,hs,iM]
theorem tK {loc:Loc}{l b c:Nat}(h:loc l=some (some ⟨b,0,none⟩,c+1)):blk loc l=some b:=by simp[blk,h]
theorem UE (σ:Sto)(l:Nat)(a b:Option Obj):(σ.upd l a).upd l b=σ.upd l b:=by funext r;unfold Sto.upd;split<;>rfl
theorem upd_eq (σ:Sto)(l:Nat)(a:Option Obj):(σ.upd l a) l=a:=by simp[Sto.upd]
theorem upd_ne (σ:Sto){l r:Nat}(a:Option Obj)(h:r≠l):(σ.upd l a) r=σ r:=by simp[Sto.upd,h]
theorem VM {t:TypeId}{x y:Operand}{g:Bool}{k l off:Nat}{cs:List AV}{v:AV}(ho:o.op= .store t x y)(E:o.dst=none)(V:lay P t=some (g,k))(hx:e x=some (.ptr l off))(X:e y=some v)(hσ:σ l=some (.box cs))
 (hk:(bg v).length=k) (hc:(bg v).all iD=true) (hle:off+k<=cs.length):
 DSound P o e σ lab ⟨True,λu=>u= .emp,[],true,[(l,some (.box (iM cs off (bg v))))]⟩:=by
 intro fr Ψ loc w ρ he a R _ hd;have h:=he x _ hx;generalize Y:ρ x=z at h;obtain⟨b,c,arr,ty,h1,U,hs,hr⟩:Dw Ψ loc w l cs:=a.ob l _ hσ;obtain⟨c1,c2⟩:=tH (he y v X) hc
 cases h with
 |
  ptr d=>
  rename_i Z c';rw[h1] at d;injection d with d;injection d with d h2;injection d with d;injection d with d;subst d;have G:=tJ (P:=P) (t:=t) (x:=ρ y) V U (c1.trans hk) (off:=off) (by omega) (λu D=>by obtain⟨j,q⟩:=rM.1 D;have N:j<(bg v).length:=(by have:=(dD.1 q).1;rw[tN,c1] at this;exact this);obtain⟨M,H,I,_⟩:=c2 j _ (aX N);rw[fQ,H] at q;injection q with q;rw[<-q];exact I);have hb:=tK h1;have J:=(a.drop l).chg (Same.row (K:=Free fr Ψ loc (σ.upd l none)) (a.free hσ hb) (iM arr.toList off (ρ y).cells.toList).toArray);refine⟨undef,w.setRow b (iM arr.toList off (ρ y).cells.toList).toArray,Ψ,loc,.emp,.inr ⟨by simp[execOp,ho,Y,G],E⟩,rfl,?_,.refl _,λ_ _=>rfl,?_⟩;show Ok fr Ψ loc (σ.upd l _) _;rw[<-UE σ l none];have L:off+(ρ y).cells.toList.length<=arr.toList.length:=(by simp[c1,hs];omega);refine J.claim (upd_eq _ _ _) ⟨b,c,_,ty,h1,Jb w b arr _ ty _ U,?_,λj u D=>?_⟩ (λZ B=>by rw[hb] at B;injection B with B;rw[<-B];exact a.free hσ hb);simp only[AP];rw[nR L,nR (by omega)];simpa using hs;rw[jL (by omega)] at D;have hg:=jL L j;rw[tN,c1] at hg;split at D;rename_i q;obtain⟨M,H,I,O⟩:=c2 _ u D;exact⟨M,by rw[rV,hg,if_pos q,fQ];exact H,I,O⟩;rename_i q;obtain⟨M,H,I,O⟩:=hr j u D;exact⟨M,by rw[rV,hg,if_neg q,fQ];exact H,I,O⟩;exact Same.row (K:=λk=>¬fr.pr k) (a.ow l _ b hσ hb).1 _
theorem Hw {fr:Fr}{Ψ:Psi}{loc:Loc}{w:World}(a:Ok fr Ψ loc σ w)(d:loc lab=none)(hs:σ lab=none){cs:List AV}{xs:Array Value}{ty:TypeId}(hn:xs.size=cs.length)(hr:∀(j:Nat) u,cs[j]?=some u->∃y,xs[j]?=some y/\y.oneCell'=true/\RepA Ψ loc u y):
 Ok fr Ψ (loc.upd lab (some ⟨w.heap.size,0,none⟩,1)) (σ.upd lab (some (.box cs))) (w.alloc (.cells xs ty)):=by have hle:Loc.le loc (loc.upd lab (some ⟨w.heap.size,0,none⟩,1)):=Loc.le_upd d;have h1:=a.chg (w':=w.alloc (.cells xs ty)) (Same.of (aP w _ none) nofun);have h2:=h1.locs hle (λl o e=>Loc.upd_ne (λq=>by rw[q,hs] at e;cases e));refine h2.claim hs ⟨w.heap.size,0,xs,ty,Loc.upd_eq,heap_alloc_new w _,hn,λj u B=>?_⟩ (λb hb=>?_);obtain⟨y,D,E,G⟩:=hr j u B;exact⟨y,D,E,G.mono (.refl _) hle⟩;have:b=w.heap.size:=(by simp[blk,Loc.upd_eq] at hb;exact hb.symm);subst this;have hf:=a.new (ak _);exact⟨hf.pr,hf.tb,hf.fz,λl o e q=>by rw[kC (Loc.upd_ne (λq=>by rw[q,hs] at e;cases e))] at q;exact hf.ob l o e q⟩
theorem YB {t:TypeId}{cs:List AV}(ho:o.op= .alloc t)(B:dU P t=some cs):DSound P o e σ lab ⟨True,λu=>u= .ptr lab 0,[],true,[(lab,some (.box cs))]⟩:=by
 intro fr Ψ loc w ρ he q a hs E;obtain⟨i,z,h1,h2,h3,rfl⟩:=xg B;refine⟨.pointer (some ⟨w.heap.size,0,none⟩),w.alloc (.cells z.cells t),Ψ,loc.upd lab (some ⟨w.heap.size,0,none⟩,1),_,.inl ⟨?_,.ptr Loc.upd_eq⟩,rfl,Hw q a hs (by simp) (λj u d=>?_),.refl _,λl D=>Loc.upd_ne D,Same.of (aP w _ none) nofun⟩;simp[execOp,ho,Instr.alloc,zeroValue,typeInfo,h1,h2,newVar,newRow]
 . rw[bM,fQ] at d
   cases hj:z.cells[j]? with
   |none=>simp [hj] at d
   |
    some y=>
    simp[hj] at d;subst d;have:=(Uz.1 h3) y (Jc hj);exact⟨y,rfl,this,Cj this⟩
theorem afe {t:TypeId}{x:Operand}{v:AV}(ho:o.op= .box t x)(hx:e x=some v)(hc:(bg v).all iD=true):DSound P o e σ lab ⟨True,λu=>u= .ptr lab 0,[],true,[(lab,some (.box (bg v)))]⟩:=by intro fr Ψ loc w ρ he d a hs y;obtain⟨c1,c2⟩:=tH (he x v hx) hc;exact⟨.pointer (some ⟨w.heap.size,0,none⟩),w.alloc (.cells (ρ x).cells t),Ψ,loc.upd lab (some ⟨w.heap.size,0,none⟩,1),_,.inl ⟨by simp[execOp,ho,Instr.box,newVar,newRow],.ptr Loc.upd_eq⟩,rfl,Hw d a hs c1 c2,.refl _,λl q=>Loc.upd_ne q,Same.of (aP w _ none) nofun⟩
theorem VN {t:TypeId}{x y:Operand}{g:Bool}{k d r ty i off:Nat}{els:List (List PV)}{v:AV}{ps:List PV}(ho:o.op= .store t x y)(N:o.dst=none)(hl:lay P t=some (g,k))(hx:e x=some (.rp r d i off))(hy:e y=some v)(hσ:σ r=some (.row ty d els))
 (hp:xe (bg v)=some ps) (hk:ps.length=k) (hle:off+k<=d):
 DSound P o e σ lab ⟨i<els.length,λu=>u= .emp,[],true,[(r,some (.row ty d (els.modify i (λrow=>iM row off ps))))]⟩:=by
 intro fr Ψ loc w ρ he B aa _ hi;have hi:i<els.length:=hi;have h:=he x _ hx;generalize hq:ρ x=z at h;obtain⟨A,c,h1,h2⟩:qh Ψ loc w r ty d els:=B.ob r _ hσ;have H:(bg v).all iD=true:=by
  rw[nO];intro u hu;obtain⟨j,D⟩:=rM.1 hu;have ad:=(kM hp).1;obtain⟨u',G,O⟩:=(kM hp).2 j (ps[j]'(by have:=(dD.1 D).1;omega)) (aX _);rw[D] at G;injection G with G;subst G
  cases u<;>first|rfl|cases O
 obtain⟨c1,c2⟩:=tH (he y v hy) H;have I:(bg v).length=k:=by rw[<-(kM hp).1];exact hk
 cases h with
 |
  rp q=>
  rename_i b' c';rcases h2 with ⟨rfl,_⟩|⟨h0,b,cur,rfl,hh,G,O,q3,q4,q5⟩;simp at hi;rw[h1] at q;injection q with q;injection q with q h2;injection q with q;injection q with q;subst q;have a6:(i+1)* d<=c*d:=lN _ (by omega);rw[jM,qN] at a6;have a7:i*d+off+k<=cur.size:=(by omega);have R:=tJ (P:=P) (t:=t) (x:=ρ y) hl hh (c1.trans I) (off:=i*d+off) a7 (λu hu=>by obtain⟨j,D⟩:=rM.1 hu;have U:j<(bg v).length:=(by have:=(dD.1 D).1;rw[tN,c1] at this;exact this);obtain⟨M,G,O,_⟩:=c2 j _ (aX U);rw[fQ,G] at D;injection D with D;rw[<-D];exact O);obtain⟨c',rfl⟩:∃c',c=c'+1:=⟨c-1,by omega⟩;have hb:=tK h1;have V:=(B.drop r).chg (Same.row (K:=Free fr Ψ loc (σ.upd r none)) (B.free hσ hb) (iM cur.toList (i*d+off) (ρ y).cells.toList).toArray);refine⟨undef,w.setRow b (iM cur.toList (i*d+off) (ρ y).cells.toList).toArray,Ψ,loc,.emp,.inr ⟨by simp[execOp,ho,hq,R],N⟩,rfl,?_,.refl _,λ_ _=>rfl,?_⟩
  . show Ok fr Ψ loc (σ.upd r _) _;rw[<-UE σ r none];have X:i*d+off+(ρ y).cells.toList.length<=cur.toList.length:=(by simp[c1,I];omega);refine V.claim (upd_eq _ _ _) ⟨_,_,h1,.inr ⟨h0,b,_,rfl,Jb w b cur _ ty _ hh,by simpa using G,O,?_,λrow Y=>?_,λJ j p a=>?_⟩⟩ (λb' E=>by rw[hb] at E;injection E with E;rw[<-E];exact B.free hσ hb);simp only[AP];rw[nR X];simpa using q3
    . obtain⟨n,hn⟩:=rM.1 Y;rw[QN] at hn
      cases hm:els[n]? with
      |none=>simp [hm] at hn
      |
       some row0=>
       have:=q4 row0 (gU hm);simp only[hm,Option.map_eq_map,nJ,gV] at hn;split at hn;subst hn;rw[nR (by omega)];exact this;subst hn;exact this
    . unfold cellOf at a;rw[QN] at a
      cases hm:els[J]? with
      |none=>simp [hm] at a
      |
       some row0=>
       have a8:=q4 row0 (gU hm);have al:=(dD.1 hm).1;have hg:=jL X (J*d+j);rw[tN,c1,I] at hg;simp only[hm,Option.map_eq_map,nJ,wB] at a;split at a;rename_i L;subst L;rw[jL (by omega)] at a;split at a;rename_i D;obtain⟨u,r1,r2⟩:=(kM hp).2 _ _ a;obtain⟨M,s1,s2,s3⟩:=c2 _ u r1;refine⟨M,?_,yu s3 r2⟩;rw[rV,hg,if_pos (by omega),fQ,show i*d+j-(i*d+off)=j-off by omega];exact s1;rename_i D;obtain⟨M,s1,s2⟩:=q5 i j p (by simp[cellOf,hm,a]);refine⟨M,?_,s2⟩;rw[rV,hg,if_neg (by omega),fQ];exact s1
       . rename_i L;have an:j<d:=(by rw[<-a8];exact (dD.1 a).1);obtain⟨M,s1,s2⟩:=q5 J j p (by simp[cellOf,hm,a]);refine⟨M,?_,s2⟩;have Z:¬(i*d+off<=J*d+j/\J*d+j<i*d+off+k):=by
          intro ab;rcases Nat.lt_or_gt_of_ne L with U|hgt;have:=lN d (show i+1<=J by omega);rw[jM,qN] at this;omega;have:=lN d (show J+1<=i by omega);rw[jM,qN] at this;omega
         rw[rV,hg,if_neg Z,fQ];exact s1
  exact Same.row (K:=λk=>¬fr.pr k) (B.ow r _ b hσ hb).1 _
theorem VO {t:TypeId}{x y:Operand}{j:Nat}{cts:List CT}{ct:CT}{v:AV}{p:PV}(ho:o.op= .store t x y)(D:o.dst=none)(M:lay P t=some (false,1))(hx:e x=some (.tp cts j))(N:e y=some v)(hc:cts[j]?=some ct)(O:toP v=some p):
 DSound P o e σ lab ⟨ct.ok p,λu=>u= .emp,[],true,[]⟩:=by
 intro fr Ψ loc w ρ he B I _ G;have G:ct.ok p:=G;have h:=he x _ hx;generalize R:ρ x=z at h;have a:=yu (he y v N) O;have h1:=a.one;have h3:(ρ y).cells=#[ρ y]:=by
  generalize ρ y=q at h1|-
  cases q<;>first|rfl|cases h1
 cases h with
 |
  tp ht h0 hm hle=>
  rename_i b q m;obtain⟨arr,ty,J,hs,L⟩:=B.tb _ _ _ ht;have U:j<cts.length:=(dD.1 hc).1;have d:=tJ (P:=P) (t:=t) (x:=ρ y) M J (by rw[h3];rfl) (off:=q+j) (by omega) (λu H=>by rw[h3] at H;simp at H;rw[H];exact h1);have E:(iM arr.toList (q+j) (ρ y).cells.toList).toArray=arr.setIfInBounds (q+j) (ρ y):=(by apply YC;intro n;rw[rV,jL (by rw[h3];simp;omega),h3,Qq];simp only[iR,zl,fQ];by_cases hn:q+j=n;subst hn;rw[if_pos (by omega),if_pos rfl,if_pos (by omega)];simp;rw[if_neg (by omega),if_neg hn]);rw[E] at d;exact⟨undef,w.setRow b (arr.setIfInBounds (q+j) (ρ y)),Ψ,loc,.emp,.inr ⟨by simp[execOp,ho,R,d],D⟩,rfl,B.storeTyped ht (by omega) (by rw[Jr,hm,eX,Js,Jt U];exact hc) G a J,.refl _,λ_ _=>rfl,Same.row (K:=λk=>¬fr.pr k) (B.tf b _ ht).1 _⟩
end
theorem Aq:∀(xs:List Value) (off k:Nat) (cs:Array Value),off+k+xs.length<=cs.size->(xs.zipIdx k).foldl (λcs (c:Value×Nat)=>cs.setIfInBounds (off+c.2) c.1) cs=(iM cs.toList (off+k) xs).toArray
 | [],off,k,cs,h=>by simp[iM]
 |
  x::r,off,k,cs,h=>by
  simp only[List.zipIdx_cons,List.foldl_cons]
  rw[Aq r off (k+1) _ (by simp at h|-;omega)]
  simp only[iR] at h
  apply YC
  intro j
  rw[rV,rV,jL (by simp;omega),jL (by simp;omega)]
  simp only[iR,Array.toList_setIfInBounds,SI,tN]
  by_cases h1:j=off+k
  . subst h1
    rw[if_neg (by omega),if_pos rfl,if_pos (by omega),if_pos (by omega)]
    simp
  . by_cases h2:off+k<=j/\j<off+k+(r.length+1)
    . rw[if_pos (by omega),if_pos h2,show j-(off+k)=(j-(off+(k+1)))+1 by omega,Lj]
    . rw[if_neg (by omega),if_neg h2,if_neg (by omega)]
def uA (place:Nat->Option (Nat×Nat))(cells:List AV):List (Nat×AV)->Option (List AV)
 | []=>some cells
 |
  (i,v)::r=>
  match place i with
  |none=>none
  |some (off,size)=>if (bg v).length=size/\off+size<=cells.length/\(bg v).all iD=true then uA place (iM cells off (bg v)) r else none
def oG (Ψ:Psi)(loc:Loc)(cs:List AV)(xs:Array Value):Prop:=xs.size=cs.length/\∀(j:Nat) u,cs[j]?=some u->∃y,xs[j]?=some y/\y.oneCell'=true/\RepA Ψ loc u y
theorem abp {Ψ:Psi}{loc:Loc}{cs vs:List AV}{xs ys:Array Value}{off:Nat}(h:oG Ψ loc cs xs)(q:oG Ψ loc vs ys)(hle:off+vs.length<=cs.length):oG Ψ loc (iM cs off vs) (iM xs.toList off ys.toList).toArray:=by have y:ys.toList.length=vs.length:=(by simpa using q.1);have hx:xs.toList.length=cs.length:=(by simpa using h.1);refine⟨by simp only[AP];rw[nR (by omega),nR hle];exact hx,λj u a=>?_⟩;rw[jL hle] at a;rw[rV,jL (by omega),y];split at a;rename_i d;rw[if_pos d,fQ];exact q.2 _ u a;rename_i d;rw[if_neg d,fQ];exact h.2 _ u a
theorem PS {Ψ:Psi}{loc:Loc}{place:Nat->Option (Nat×Nat)} :∀(B:List (Nat×AV)) (u:List (Nat×Value)) (cs a:List AV) (xs:Array Value),uA place cs B=some a->oG Ψ loc cs xs->B.length=u.length->(∀(j:Nat) i v,B[j]?=some (i,v)->∃x,u[j]?=some (i,x)/\RepA Ψ loc v x)->
 ∃D,Instr.fill place xs u=some D/\oG Ψ loc a D
 |
  [],u,cs,a,xs,h,hc,hl,hr=>by
  have:u=[]:=lS hl.symm
  subst this
  injection h with h
  subst h
  exact⟨xs,rfl,hc⟩
 |
  (i,v)::B,u,cs,a,xs,h,hc,hl,hr=>by
  obtain⟨x,G,H⟩:=hr 0 i v rfl
  cases u with
  |nil=>simp at G
  |
   cons q u=>
   simp at G
   subst G
   unfold uA at h
   unfold Instr.fill
   cases hp:place i with
   |none=>simp [hp] at h
   |
    some w=>
    obtain⟨off,size⟩:=w
    simp only[hp] at h|-
    split at h
    . rename_i y
      obtain⟨h1,h2,h3⟩:=y
      obtain⟨c1,c2⟩:=tH H h3
      have E:off+x.cells.size<=xs.size:=by rw[c1,hc.1,h1];exact h2
      have hno:(x.cells.size≠size || decide (off+x.cells.size>xs.size))=false:=by
       simp only[KA,ji,ne_eq]
       refine⟨by simp[c1,h1],by omega⟩
      rw[hno]
      simp only[mD,rD]
      have d:=Aq x.cells.toList off 0 xs (by simpa using E)
      simp only[rQ] at d
      rw[show (Array.foldl (λcs x=>match x with|(c,j)=>cs.setIfInBounds (off+j) c) xs x.cells.zipIdx)=(x.cells.toList.zipIdx 0).foldl (λcs (c:Value×Nat)=>cs.setIfInBounds (off+c.2) c.1) xs from by rw[<-abk,abh],d]
      exact PS B u _ a _ h (abp hc ⟨c1,c2⟩ (by omega)) (by simpa using hl) (λj I v' J=>by simpa using hr (j+1) I v' (by simpa using J))
    . cases h
def dh (P:Program)(t:TypeId):Option (List (Nat×Nat)):=
 match P.underlying t with
 |some (.struct fields)=>fields.toList.mapM (λf=>(P.info? f.type).map λi=>(f.offset,i.size))
 |_=>none
def evs (e:Operand->Option AV):List (Nat×Operand)->Option (List (Nat×AV))
 | []=>some []
 |
  (i,x)::r=>match e x,evs e r with
  |some v,some l=>some ((i,v)::l)
  |_,_=>none
theorem Vk {e:Operand->Option AV}{Ψ:Psi}{loc:Loc}{ρ:Operand->Value}(he:∀x v,e x=some v->RepA Ψ loc v (ρ x)):∀(d:List (Nat×Operand)) (a:List (Nat×AV)),evs e d=some a->a.length=(d.map λ(i,x)=>(i,ρ x)).length/\∀(j:Nat) i v,a[j]?=some (i,v)->∃x,(d.map λ(i,x)=>(i,ρ x))[j]?=some (i,x)/\RepA Ψ loc v x
 | [],a,h=>by injection h with h;subst h;exact⟨rfl,λj i v h=>by simp at h⟩
 |
  (i,x)::r,a,h=>by
  unfold evs at h
  split at h
  . rename_i v l h1 h2
    injection h with h
    subst h
    have u:=Vk he r l h2
    refine⟨by simpa using u.1,λj y v' q=>?_⟩
    cases j with
    |zero=>simp at q;obtain⟨rfl,rfl⟩:=q;exact⟨ρ x,rfl,he x v h1⟩
    |succ j=>simpa using u.2 j y v' (by simpa using q)
  . cases h
theorem adL {Ψ:Psi}{loc:Loc}{cs:List AV}{xs:Array Value}(h:oG Ψ loc cs xs):RepA Ψ loc (.agg cs) (.agg xs):=by have hf:∀j,∃x,j<cs.length->∃u,cs[j]?=some u/\xs[j]?=some x/\RepA Ψ loc u x:=(λj=>by by_cases d:j<cs.length;obtain⟨y,a,_,D⟩:=h.2 j _ (aX d);exact⟨y,λ_=>⟨_,aX d,a,D⟩⟩;exact⟨undef,λh=>absurd h d⟩);refine .agg (λj=>(hf j).choose) h.1 (λj d=>?_) (λj u B=>?_);obtain⟨u,_,q,_⟩:=(hf j).choose_spec d;exact q;obtain⟨E,a,_,q⟩:=(hf j).choose_spec (dD.1 B).1;rw[B] at a;injection a with a;rw[a];exact q
section
variable {P : Program} {o : Oper} {e : Operand -> Option AV} {σ : Sto} {lab : Nat}
theorem abq {t:TypeId}{parts:Array (Nat×Operand)}{zs cs:List AV}{pl:List (Nat×Nat)}{B:List (Nat×AV)}(ho:o.op= .build t parts)(E:dU P t=some zs)(a:dh P t=some pl)(G:evs e parts.toList=some B)(hf:uA (pl[·]?) zs B=some cs):
 DSound P o e σ lab (.val (.agg cs)):=
 .pure rfl λΨ loc fr w ρ he H J=>by
  obtain⟨i,z,h1,h2,h3,rfl⟩:=xg E
  obtain⟨l1,l2⟩:=Vk he _ _ G
  have D:oG Ψ loc (z.cells.toList.map Uy) z.cells:=⟨by simp,λj u d=>by
   rw[bM,fQ] at d
   cases hj:z.cells[j]? with
   |none=>simp [hj] at d
   |
    some y=>
    simp[hj] at d
    subst d
    have:=(Uz.1 h3) y (Jc hj)
    exact⟨y,rfl,this,Cj this⟩⟩
  obtain⟨q,r1,I⟩:=PS B _ _ cs z.cells hf D l1 l2
  refine⟨.agg q,_,?_,adL I,rfl⟩
  have hb:P.built t ((parts.map λ(i,x)=>(i,ρ x)).toList)=some q:=by
   unfold dh at a
   split at a
   . rename_i fields d
     unfold Program.built
     simp only[h1,d,h2,a]
     rw[TW]
     simp only[rV]
     exact r1
   . cases a
  have:=run_build w t _ _ hb
  simp[execOp,ho,this]
def rowsOf (e:Operand->Option AV)(k:Nat):Nat->List (Nat×Operand)->Option (List (List PV))
 |_,[]=>some []
 |m,(i,x)::r=>if i=m then
  match (e x).bind λv=>xe (bg v),rowsOf e k (m+1) r with
  |some ps,some rs=>if ps.length=k then some (ps::rs) else none
  |_,_=>none
  else none
theorem IW {Ψ:Psi}{loc:Loc}{ρ:Operand->Value}(he:∀x v,e x=some v->RepA Ψ loc v (ρ x)){k n:Nat} :∀(I:List (Nat×Operand)) (m:Nat) (rows:List (List PV)) (xs:Array Value),rowsOf e k m I=some rows->m+I.length=n->xs.size=n*k->
 ∃a,Instr.fill (λi=>some (i*k,k)) xs (I.map λ(i,x)=>(i,ρ x))=some a/\a.size=n*k/\rows.length=I.length/\(∀row∈rows,row.length=k)/\(∀q,q<m*k->a[q]?=xs[q]?)/\∀i j p,cellOf rows i j=some p->∃y,a[(m+i)* k+j]?=some y/\Rep Ψ p y
 |
  [],m,rows,xs,h,hm,hs=>by
  injection h with h
  subst h
  exact⟨xs,rfl,hs,rfl,(λ_ h=>by cases h),λ_ _=>rfl,λi j p h=>by simp[cellOf] at h⟩
 |
  (i,x)::r,m,rows,xs,h,hm,hs=>by
  unfold rowsOf at h
  split at h
  . rename_i M
    subst M
    split at h
    . rename_i U rs h1 h2
      split at h
      . rename_i hk
        injection h with h
        subst h
        cases hev:e x with
        |none=>simp [hev] at h1
        |
         some v=>
         simp only[hev,wB] at h1
         have G:(bg v).all iD=true:=by
          rw[nO]
          intro u V
          obtain⟨j,N⟩:=rM.1 V
          have X:=(kM h1).1
          obtain⟨u',J,Y⟩:=(kM h1).2 j (U[j]'(by have:=(dD.1 N).1;omega)) (aX _)
          rw[N] at J
          injection J with J
          subst J
          cases u<;>first|rfl|cases Y
         obtain⟨c1,c2⟩:=tH (he x v hev) G
         have d:(ρ x).cells.size=k:=by rw[c1,<-(kM h1).1,hk]
         simp only[iR] at hm
         have hle:i*k+k<=xs.size:=by
          rw[hs]
          have:=lN k (show i+1<=n by omega)
          rw[jM,qN] at this
          exact this
         obtain⟨a,Z,f2,f3,f4,R,f6⟩:=IW (n:=n) he r (i+1) rs (iM xs.toList (i*k) (ρ x).cells.toList).toArray h2 (by omega) (by
          simp only[AP]
          rw[nR (by simp[d];exact hle)]
          simpa using hs)
         have E:∀q,(iM xs.toList (i*k) (ρ x).cells.toList).toArray[q]?=if i*k<=q/\q<i*k+k then (ρ x).cells[q-i*k]? else xs[q]?:=λq=>by
          rw[rV,jL (by simp[d];exact hle)]
          simp only[tN,d,fQ]
         refine⟨a,?_,f2,by simp[f3],λrow B=>?_,λq hq=>?_,λH j p L=>?_⟩
         . simp only[kD]
           unfold Instr.fill
           dsimp only
           have hno:((ρ x).cells.size≠k || decide (i*k+(ρ x).cells.size>xs.size))=false:=by
            simp only[KA,ji,ne_eq]
            refine⟨by simp[d],by omega⟩
           rw[hno]
           simp only[mD,rD]
           have D:=Aq (ρ x).cells.toList (i*k) 0 xs (by simp[d];exact hle)
           simp only[rQ] at D
           rw[show (Array.foldl (λcs x=>match x with|(c,j)=>cs.setIfInBounds (i*k+j) c) xs (ρ x).cells.zipIdx)=((ρ x).cells.toList.zipIdx 0).foldl (λcs (c:Value×Nat)=>cs.setIfInBounds (i*k+c.2) c.1) xs from by rw[<-abk,abh],D]
           exact Z
         . rcases fV.1 B with rfl|B
           . exact hk
           . exact f4 row B
         . rw[R q (by rw[jM,qN];omega),E,if_neg (by omega)]
         . cases H with
           |
            zero=>
            simp[cellOf] at L
            have N:j<k:=by rw[<-hk];exact (dD.1 L).1
            obtain⟨u,s1,s2⟩:=(kM h1).2 j p L
            obtain⟨y,O,_,t3⟩:=c2 j u s1
            refine⟨y,?_,yu t3 s2⟩
            rw[rQ,R _ (by rw[jM,qN];omega),E,if_pos (by omega),show i*k+j-i*k=j by omega]
            exact O
           |
            succ H=>
            obtain⟨y,O,t2⟩:=f6 H j p (by simpa [cellOf] using L)
            exact⟨y,by rw[show i+(H+1)=i+1+H by omega];exact O,t2⟩
      . cases h
    . cases h
  . cases h
theorem aml {fr:Fr}{Ψ:Psi}{loc:Loc}{w:World}(a:Ok fr Ψ loc σ w)(xs:Array Value)(ty:TypeId):Ok fr (Ψ.addFz w.heap.size xs) loc σ (w.alloc (.cells xs ty))/\Ψ.le (Ψ.addFz w.heap.size xs):=by have hf:=a.new (ak _);exact⟨(a.chg (w':=w.alloc (.cells xs ty)) (Same.of (aP w _ none) nofun)).freeze hf (heap_alloc_new w _),hf.le_fz xs⟩
theorem He {t D:TypeId}{n k E:Nat}{parts:Array (Nat×Operand)}{rows:List (List PV)}(ho:o.op= .buildSlice t n parts)(G:aV P t=some (D,k,E))(M:rowsOf e k 0 parts.toList=some rows)(hn:parts.toList.length=n)(h0:0<n)(N:n*k<=2^24):
 DSound P o e σ lab (.val (.pv (.sl rows))):=by
 intro fr Ψ loc w ρ he H I hs X;obtain⟨h1,i,z,h2,h3,h4,h5,Y,Z,h8⟩:=iE G;subst h4;obtain⟨d,O,f2,f3,f4,_,R⟩:=IW (n:=n) he parts.toList 0 rows ((Array.range (n*i.size)).map (z.cells[· % z.cells.size]!)) M (by omega) (by simp);have u:¬n*i.size=0:=(by intro h;rcases Nat.mul_eq_zero.1 h with h|h<;>omega);have B:=run_buildSlice w t D n (parts.map λ(i,x)=>(i,ρ x)) d i z h1 h2 h3 (by omega) u (by rw[TW];exact O);obtain⟨U,J⟩:=aml H d D
 have hF:∀q j,∃y,∀p,cellOf rows q j=some p->d[q*i.size+j]?=some y/\Rep Ψ p y:=λq j=>by
  cases hc:cellOf rows q j with
  |none=>exact ⟨undef,λp h=>by cases h⟩
  |
   some p0=>
   obtain⟨y,L,V⟩:=R q j p0 hc;exact⟨y,λp h=>by injection h with h;subst h;exact⟨by rw[eX] at L;exact L,V⟩⟩
 refine⟨.slice (some ⟨w.heap.size,0,none⟩) n n,w.alloc (.cells d D),_,loc,_,.inl ⟨by simp[execOp,ho,B],.pv (.sl (k:=i.size) (λa b=>(hF a b).choose) (by omega) (ak _) f4 (λq j p hc=>?_) (λq j p hc=>?_))⟩,rfl,U,J,λ_ _=>rfl,Same.of (aP w _ none) nofun⟩;have:=((hF q j).choose_spec p hc).1;show (if w.heap.size=w.heap.size then d[0+(q*i.size+j)]? else _)=_;rw[if_pos rfl,eX];exact this;exact ((hF q j).choose_spec p hc).2.mono J
theorem FP {t u:TypeId}{k a:Nat}{parts:Array (Nat×Operand)}(ho:o.op= .buildSlice t 0 parts)(d:aV P t=some (u,k,a))(B:parts=#[]):
 DSound P o e σ lab (.val .emp):=by intro fr Ψ loc w ρ he q y hs D;obtain⟨h1,i,z,h2,h3,h4,h5,E,G,H⟩:=iE d;refine⟨.slice (some ⟨w.heap.size,0,none⟩) 0 0,w.alloc (.cells #[] u),Ψ,loc,_,.inl ⟨?_,.emp⟩,rfl,q.chg (Same.of (aP w _ none) nofun),.refl _,λ_ _=>rfl,Same.of (aP w _ none) nofun⟩;simp[execOp,ho,B,Instr.buildSlice,jF h1,Go.sizeOf,typeInfo,h2,Instr.fill,newRow];congr 2;apply abg;simp
end
section
variable {P : Program} {o : Oper} {e : Operand -> Option AV} {σ : Sto} {lab : Nat}
theorem Ju {t u:TypeId}{k a:Nat}(d:aV P t=some (u,k,a))(b q n c:Nat)(y:IntKind)(i:Int)(w:World)(h0:0<=i)(h1:i<n):
 (Instr.indexAt t (.slice (some ⟨b,q,none⟩) n c) (.int y i)).run P w= .ok (.pointer (some ⟨b,q+i.toNat*k,none⟩)) w:=by obtain⟨B,ti,z,D,G,E,_⟩:=iE d;simp[Instr.indexAt,jF B,asIntOf,h0,h1,Go.sizeOf,typeInfo,D,E,zn]
theorem ab5 {t I:TypeId}{x y:Operand}{k d:Nat}{els:List (List PV)}{G:IntKind}{i:Int}(ho:o.op= .indexAddr t x y)(B:aV P t=some (I,k,d))(hx:e x=some (.pv (.sl els)))(J:e y=some (.pv (.sc (.int G i)))):
 DSound P o e σ lab ⟨0<=i/\∃row,els[i.toNat]?=some row/\row.length=k,λu=>∃row,els[i.toNat]?=some row/\u= .fp row 0,[],true,[]⟩:=
 .pure rfl λΨ loc fr w ρ he L M=>by
  obtain⟨h0,row,hi,hk⟩:=M
  obtain⟨D,_⟩:=eH (he y _ J)
  have h:=he x _ hx
  generalize N:ρ x=z at h
  have O:=(dD.1 hi).1
  cases h with
  |
   pv h=>cases h with
   |nil=>simp at hi
   |
    sl f hn hnc hk' hf hr=>
    rename_i b q c n H
    have E:H=k:=(hk' row (gU hi)).symm.trans hk
    subst E
    have hc:∀j p,row[j]?=some p->cellOf els i.toNat j=some p:=λj p a=>by simp[cellOf,hi,a]
    exact⟨.pointer (some ⟨b,q+i.toNat*H+0,none⟩),_,by simp[execOp,ho,N,D,Ju B b q n c G i w h0 (by omega)],.fp (f i.toNat) (λj p a=>by rw[lW];exact hf _ j p (hc j p a)) (λj p a=>hr _ j p (hc j p a)),row,hi,rfl⟩
theorem ab6 {t I:TypeId}{x y:Operand}{k d r n ty q:Nat}{els:List (List PV)}{H:IntKind}{i:Int}(ho:o.op= .indexAddr t x y)(B:aV P t=some (I,k,d))(hx:e x=some (.own r n))(hσ:σ r=some (.row ty q els))(hk:q=k)(hn:els.length=n)(J:e y=some (.pv (.sc (.int H i)))):
 DSound P o e σ lab ⟨0<=i/\i<n,λu=>u= .rp r k i.toNat 0,[r],true,[]⟩:=
 .pure rfl λΨ loc fr w ρ he D L=>by
  obtain⟨h0,hi⟩:0<=i/\i<n:=L
  obtain⟨E,_⟩:=eH (he y _ J)
  have h:=he x _ hx
  generalize M:ρ x=z at h
  obtain⟨A,c,h1,h2⟩:qh Ψ loc w r ty q els:=D.ob r _ hσ
  cases h with
  |
   own a hnc=>
   rename_i N A'
   rw[h1] at a
   injection a with a
   injection a with G hl2
   subst G hl2
   rcases h2 with ⟨_,rfl⟩|⟨h0',b,cur,rfl,_⟩
   . omega
   . exact⟨.pointer (some ⟨b,0+i.toNat*k,none⟩),_,by simp[execOp,ho,M,E,Ju B b 0 n c H i w h0 hi],by rw[eX];exact .rp (off:=0) h1,rfl⟩
theorem ab7 {t G:TypeId}{x y:Operand}{k a n:Nat}{cts:List CT}{E:IntKind}{i:Int}(ho:o.op= .indexAddr t x y)(d:aV P t=some (G,k,a))(hx:e x=some (.pv (.tr cts n)))(hk:cts.length=k)(H:e y=some (.pv (.sc (.int E i)))):
 DSound P o e σ lab ⟨0<=i/\i<n,λu=>u= .tp cts 0,[],true,[]⟩:=
 .pure rfl λΨ loc fr w ρ he I J=>by
  obtain⟨h0,hi⟩:0<=i/\i<n:=J
  obtain⟨B,_⟩:=eH (he y _ H)
  have h:=he x _ hx
  generalize L:ρ x=z at h
  cases h with
  |
   pv h=>cases h with
   |tr0=>omega
   |
    tr ht h0' hm hnc hle=>
    rename_i b q c m
    have D:(i.toNat+1)* cts.length<=n*cts.length:=lN _ (by omega)
    rw[jM,qN] at D
    exact⟨.pointer (some ⟨b,q+i.toNat*k+0,none⟩),_,by simp[execOp,ho,L,B,Ju d b q n c E i w h0 hi],.tp ht h0' (by rw[<-hk,Nat.add_mul_mod_self_right];exact hm) (by rw[<-hk];omega),rfl⟩
theorem ab8 {t:TypeId}{x y:Operand}{s:ByteArray}{q:IntKind}{i:Int}(ho:o.op= .index t x y)(u:P.underlying t=some .string)(hx:e x=some (.pv (.sc (.string s))))(B:e y=some (.pv (.sc (.int q i)))):
 DSound P o e σ lab (.chk (0<=i/\i<s.size) (.pv (.sc (.int .u8 ((s[i.toNat]?).getD 0).toNat)))):=
 .pure rfl λΨ loc fr w ρ he D E=>by
  obtain⟨h0,hi⟩:0<=i/\i<s.size:=E
  obtain⟨a,_⟩:=eH (he y _ B)
  obtain⟨d,_⟩:=eH (he x _ hx)
  have hg:s[i.toNat]?=some s[i.toNat]:=getElem?_pos s i.toNat (by omega)
  exact⟨_,_,by simp[execOp,ho,d,a,Instr.index,asIntOf,jF u,h0,hg],.pv (.sc rfl),rfl⟩
theorem afg {x:Operand}{ats:Array TypeId}{t:TypeId}{n:Nat}(ho:o.op= .call { callee:= .builtin .len,args:=#[x],argTypes:=ats })(q:ats=#[t])
 (hx:(∃els,e x=some (.pv (.sl els))/\els.length=n/\(∃d,P.underlying t=some (.slice d)))\/(∃r,e x=some (.own r n)/\(∃d,P.underlying t=some (.slice d)))\/(∃cts,e x=some (.pv (.tr cts n))/\(∃d,P.underlying t=some (.slice d)))\/(e x=some .emp/\n=0/\(∃d,P.underlying t=some (.slice d)))\/(∃s,e x=some (.pv (.sc (.string s)))/\s.size=n/\P.underlying t=some .string)):
 DSound P o e σ lab (.val (.pv (.sc (.int .i64 n)))):=
 .pure rfl λΨ loc fr w ρ he y B=>by
  subst q
  refine⟨.int .i64 n,_,?_,.pv (.sc rfl),rfl⟩
  have key:(∃d,P.underlying t=some (.slice d))->(∃A c,ρ x= .slice A n c)->(execOp ρ o).run P w= .ok (.value (.int .i64 n)) w:=λ⟨d,a⟩ ⟨A,c,u⟩=>by
   simp[execOp,ho,resolve,invoke,builtin,u,Builtin.len_,jF a,goInt]
  rcases hx with ⟨els,h1,h2,a⟩|⟨r,h1,a⟩|⟨cts,h1,a⟩|⟨h1,rfl,a⟩|⟨s,h1,rfl,a⟩
  . refine key a ?_
    have h:=he x _ h1
    generalize ρ x=z at h
    cases h with
    |
     pv h=>cases h with
     |nil=>subst h2;exact⟨_,_,rfl⟩
     |sl f hn=>rw [h2] at hn;subst hn;exact⟨_,_,rfl⟩
  . refine key a ?_
    have h:=he x _ h1
    generalize ρ x=z at h
    cases h with
    |own hl hnc=>exact ⟨_,_,rfl⟩
  . refine key a ?_
    have h:=he x _ h1
    generalize ρ x=z at h
    cases h with
    |pv h=>cases h<;>exact⟨_,_,rfl⟩
  . refine key a ?_
    have h:=he x _ h1
    generalize ρ x=z at h
    cases h with
    |emp=>exact ⟨_,_,rfl⟩
  . obtain⟨u,_⟩:=eH (he x _ h1)
    simp[execOp,ho,resolve,invoke,builtin,u,Builtin.len_,jF a,goInt]
theorem afh {x y:Operand}{ats:Array TypeId}{k:IntKind}{a b:Int}(ho:o.op= .call { callee:= .builtin .max,args:=#[x,y],argTypes:=ats })(hx:e x=some (.pv (.sc (.int k a))))(u:e y=some (.pv (.sc (.int k b)))):
 DSound P o e σ lab (.val (.pv (.sc (.int k (if b>a then b else a))))):=
 .pure rfl λΨ loc fr w ρ he B D=>by
  obtain⟨d,_⟩:=eH (he y _ u)
  obtain⟨q,_⟩:=eH (he x _ hx)
  exact⟨_,_,by simp[execOp,ho,resolve,invoke,builtin,q,d,Builtin.max_,Builtin.max2],.pv (.sc rfl),rfl⟩
def CJ (e:Operand->Option AV)(x:Option Operand)(d:Int):Option Int:=
 match x with
 |none=>some d
 |
  some x=>match e x with
  |some (.pv (.sc (.int _ i)))=>some i
  |_=>none
theorem Jv {x:Option Operand}{d i:Int}{Ψ:Psi}{loc:Loc}{ρ:Operand->Value}(he:∀x v,e x=some v->RepA Ψ loc v (ρ x))(h:CJ e x d=some i):(x=none/\i=d)\/∃y k,x=some y/\ρ y= .int k i:=by
 unfold CJ at h;split at h;injection h with h;exact .inl ⟨rfl,h.symm⟩
 . rename_i y;split at h;rename_i k j a;injection h with h;subst h;exact .inr ⟨y,k,rfl,(eH (he y _ a)).1⟩
   cases h
theorem NQ {t q:TypeId}{k a:Nat}(d:aV P t=some (q,k,a)){lo hi:Option Operand}{l h:Int}{ρ:Operand->Value}(A:Option Addr)(n c:Nat)(w:World)(u:(lo=none/\l=0)\/∃y k,lo=some y/\ρ y= .int k l)(B:(hi=none/\h=n)\/∃y k,hi=some y/\ρ y= .int k h)(h0:0<=l)(h1:l<=h)(h2:h<=n)(h3:n<=c):
 (Instr.sliceAt t (.slice A n c) (lo.map ρ) (hi.map ρ) none).run P w= .ok (.slice (if c=l.toNat then A else A.map (·.add (l.toNat*k))) (h.toNat-l.toNat) (c-l.toNat)) w:=by
 obtain⟨D,ti,z,E,H,G,_⟩:=iE d;have hc:h<=c:=by omega
 rcases u with ⟨rfl,rfl⟩|⟨y,kl,rfl,hy⟩<;>rcases B with ⟨rfl,rfl⟩|⟨y',kh,rfl,hy'⟩ <;>
  simp[Instr.sliceAt,Instr.slice,jF D,Instr.sliceBounds,Instr.sliceBound,asIntOf,Go.sizeOf,typeInfo,E,G, *]<;>(repeat' split)<;>first|rfl|omega|(simp_all;done)
end
section
variable {P : Program} {o : Oper} {e : Operand -> Option AV} {σ : Sto} {lab : Nat}
theorem uM {els:List (List PV)}{l h i j:Nat}{p:PV}(hc:cellOf ((els.take h).drop l) i j=some p):cellOf els (l+i) j=some p/\l+i<h:=by
 unfold cellOf at hc|-;rw[zY,rZ] at hc;split at hc;rename_i a;exact⟨hc,a⟩
 cases hc
theorem aaK {t N:TypeId}{x:Operand}{lo hi:Option Operand}{k B:Nat}{els:List (List PV)}{l h:Int}(ho:o.op= .slice t x lo hi none)(D:aV P t=some (N,k,B))(hx:e x=some (.pv (.sl els)))(O:CJ e lo 0=some l)(R:CJ e hi els.length=some h):
 DSound P o e σ lab (.chk (0<=l/\l<=h/\h<=els.length/\∀row∈els,row.length=k) (.pv (.sl ((els.take h.toNat).drop l.toNat)))):=
 .pure rfl λΨ loc fr w ρ he U V=>by
  obtain⟨h0,h1,h2,d⟩:0<=l/\l<=h/\h<=els.length/\∀row∈els,row.length=k:=V
  have a:=he x _ hx
  have E:=Jv he O
  have G:=Jv he R
  generalize X:ρ x=z at a
  have fin:∀A n c,z= .slice A n c->n=els.length->n<=c->(execOp ρ o).run P w= .ok (.value (.slice (if c=l.toNat then A else A.map (·.add (l.toNat*k))) (h.toNat-l.toNat) (c-l.toNat))) w:=λA n c H hn hnc=>by
   subst hn
   have:=NQ D A els.length c w E G h0 h1 h2 hnc
   simp[execOp,ho,X,H,this]
  have hlen:((els.take h.toNat).drop l.toNat).length=h.toNat-l.toNat:=by simp;omega
  cases a with
  |
   pv a=>cases a with
   |
    nil hAc=>
    rename_i A c
    have H:(if c=0 then A else A.map (·.add 0))=none->c=0:=λh=>by
     split at h
     . exact hAc h
     . exact hAc (by simpa using h)
    simp at h2
    have I:l=0:=by omega
    have J:h=0:=by omega
    subst I J
    exact⟨_,_,fin A 0 c rfl rfl (ay _),.pv (by simpa using Rep.nil H),rfl⟩
   |
    sl f hn hnc hk' hf hr=>
    rename_i b q c n Y
    refine⟨_,_,fin _ n c rfl hn.symm hnc,.pv ?_,rfl⟩
    by_cases u:h.toNat-l.toNat=0
    . rw[u,lS (hlen.trans u)]
      exact .nil (λh=>by split at h<;>simp at h)
    . have L:¬c=l.toNat:=by omega
      rw[if_neg L]
      simp only[nJ,zn]
      have M:Y=k:=by
       have y:0<els.length:=by omega
       rw[<-hk' els[0] (eu y)]
       exact d _ (eu y)
      subst M
      refine .sl (λi j=>f (l.toNat+i) j) hlen (by omega) (λrow hm=>d row (Ls (aaL hm))) (λi j p hc=>?_) (λi j p hc=>hr _ _ _ (uM hc).1)
      have:=hf _ _ _ (uM hc).1
      rw[<-this,jM]
      congr 1
      omega
theorem aaM {t O:TypeId}{x:Operand}{hi:Option Operand}{k G r n ty H:Nat}{els:List (List PV)}{h:Int}(ho:o.op= .slice t x none hi none)(I:aV P t=some (O,k,G))(hx:e x=some (.own r n))(hσ:σ r=some (.row ty H els))(hn:els.length=n)(R:CJ e hi n=some h):
 DSound P o e σ lab ⟨0<=h/\h<=n,λu=>u= .own lab h.toNat,[],true,[(r,none),(lab,some (.row ty H (els.take h.toNat)))]⟩:=by
 intro fr Ψ loc w ρ he y a hs U;obtain⟨h0,h2⟩:0<=h/\h<=n:=U;have E:=he x _ hx;have J:=Jv he R;generalize V:ρ x=z at E;obtain⟨A,c,h1,h3⟩:qh Ψ loc w r ty H els:=y.ob r _ hσ
 cases E with
 |
  own D hnc=>
  rename_i Y A';rw[h1] at D;injection D with D;injection D with L hl2;subst L hl2;have d:=NQ I A n c w (.inl ⟨rfl,rfl⟩) J (qJ 0) h0 h2 hnc;simp only[Int.toNat_zero,TC,Nat.sub_zero,Option.map_none] at d;have X:(if c=0 then A else A.map (·.add 0))=A:=by
   split;rfl
   cases A<;>simp[Addr.add]
  rw[X] at d;have B:lab≠r:=(λq=>by rw[q,h1] at a;cases a);have hle:Loc.le loc (loc.upd lab (A,c)):=Loc.le_upd a;refine⟨.slice A h.toNat c,w,Ψ,loc.upd lab (A,c),_,.inl ⟨by simp[execOp,ho,V,d],.own Loc.upd_eq (by omega)⟩,rfl,?_,.refl _,λl D=>Loc.upd_ne D,Same.refl _ _⟩;show Ok fr Ψ _ ((σ.upd r none).upd lab _) w;have M:Ok fr Ψ (loc.upd lab (A,c)) (σ.upd r none) w:=(y.drop r).locs hle (λl o e=>Loc.upd_ne (λq=>by rw[q,upd_ne _ _ B,hs] at e;cases e));refine M.claim (by rw[upd_ne _ _ B];exact hs) ⟨A,c,Loc.upd_eq,?_⟩ (λb hb=>?_);rcases h3 with ⟨rfl,rfl⟩|⟨q0,g,cur,rfl,q1,q2,q3,q4,q5,q6⟩;exact .inl ⟨by simp,rfl⟩;refine .inr ⟨q0,g,cur,rfl,q1,by simp;omega,q3,q4,λrow hm=>q5 row (Ls hm),λi j p hc=>?_⟩;exact q6 i j p (by have:=(uM (l:=0) (by simpa using hc)).1;simpa using this)
  . have N:blk loc r=some b:=by
     have:blk (loc.upd lab (A,c)) lab=blk loc r:=(by simp[blk,Loc.upd_eq,h1]);rw[<-this];exact hb
    have hf:=y.free hσ N;exact⟨hf.pr,hf.tb,hf.fz,λl o e q=>by rw[kC (Loc.upd_ne (λq=>by rw[q,upd_ne _ _ B,hs] at e;cases e))] at q;exact hf.ob l o e q⟩
def adn:AV->Option CT
 | .pv (.sc (.int k n))=>if n=0 then some (.int k) else none
 | .pv (.sc (.bool _))=>some .bool
 | .emp=>some (.asc 0)
 |_=>none
def yH:List AV->Option (List CT)
 | []=>some []
 |
  v::r=>match adn v,yH r with
  |some c,some cs=>some (c::cs)
  |_,_=>none
theorem IE:∀ {vs:List AV}{cs:List CT},yH vs=some cs->cs.length=vs.length/\∀(j:Nat) c,cs[j]?=some c->∃v,vs[j]?=some v/\adn v=some c
 | [],cs,h=>by injection h with h;subst h;exact⟨rfl,λj p h=>by simp at h⟩
 |
  v::r,cs,h=>by
  unfold yH at h
  split at h
  . rename_i p u h1 h2
    injection h with h
    subst h
    have d:=IE h2
    refine⟨by simp[d.1],λj q a=>?_⟩
    cases j with
    |zero=>simp at a;subst a;exact⟨v,rfl,h1⟩
    |succ j=>simpa using d.2 j q (by simpa using a)
  . cases h
theorem ado {Ψ:Psi}{v:Value}{c:CT}(h1:v.oneCell'=true)(h:adn (Uy v)=some c):∃p,c.ok p/\Rep Ψ p v:=by
 unfold Uy at h;split at h;injection h with h;subst h;exact⟨.sl [],⟨[],rfl,by simp,by simp⟩,.nil (λ_=>rfl)⟩
 . rename_i hno;unfold adn at h;split at h
   . rename_i k n heq;injection heq with heq;injection heq with heq;subst heq;split at h;rename_i h0;injection h with h;subst h h0;exact⟨_,⟨0,by cases k<;>rfl,rfl⟩,.sc rfl⟩
     cases h
   rename_i b heq;injection heq with heq;injection heq with heq;subst heq;injection h with h;subst h;exact⟨_,⟨b,rfl⟩,.sc rfl⟩;rename_i heq;cases heq
   cases h
theorem adp {t B:TypeId}{x y:Operand}{k D:Nat}{zs:List AV}{cts:List CT}{X E:IntKind}{n:Int}(ho:o.op= .makeSlice t x y)(M:aV P t=some (B,k,D))(hz:dU P B=some zs)(hc:yH zs=some cts)(hx:e x=some (.pv (.sc (.int X n))))(hy:e y=some (.pv (.sc (.int E n)))):
 DSound P o e σ lab (.chk (0<=n/\n<=100000) (.pv (.tr cts n.toNat))):=by
 intro fr Ψ loc w ρ he G Y hs hd;obtain⟨h0,hn⟩:0<=n/\n<=100000:=hd;obtain⟨q1,i,z,Z,q3,q4,q5,q6,q7,q8⟩:=iE M;obtain⟨N,_⟩:=eH (he x _ hx);obtain⟨O,_⟩:=eH (he y _ hy);obtain⟨i',z',r1,L,r3,rfl⟩:=xg hz;rw[Z] at r1;injection r1 with r1;subst r1;rw[q3] at L;injection L with L;subst L;obtain⟨c1,c2⟩:=IE hc;have d:cts.length=k:=(by rw[c1];simpa using q6);have hb:(i.bytes:Int)* n<=281474976710656:=(by rw[q5];have:(D:Int)* n<=1000*100000:=Int.mul_le_mul (by omega) hn h0 (by omega);omega);have H:=run_make (P:=P) w t B i z q1 Z q3 X E n n h0 (qJ _) hb (by omega);have R:(madeCells z.cells (n.toNat*i.size)).size=n.toNat*k:=(by rw[size_madeCells,q4]);have a:=G.new (ak w.heap.size);have I:=G.chg (w':=w.alloc (.cells (madeCells z.cells (n.toNat*i.size)) B)) (Same.of (aP w _ none) nofun);have U:cts≠ []:=(λh=>by rw[h] at d;simp at d;omega);refine⟨_,w.alloc (.cells (madeCells z.cells (n.toNat*i.size)) B),Ψ.addTb w.heap.size (cts,(madeCells z.cells (n.toNat*i.size)).size),loc,_,.inl ⟨by simp[execOp,ho,N,O,H];rfl,.pv (.tr (m:=(madeCells z.cells (n.toNat*i.size)).size) (by simp[Psi.addTb]) U (Tc _) (ak _) (by rw[R,d];omega))⟩,rfl,?_,a.le_tb _,λ_ _=>rfl,Same.of (aP w _ none) nofun⟩;refine I.typed a (ak _) (heap_alloc_new w _) (λq ct hq J=>?_);rw[d] at J;obtain⟨v,s1,s2⟩:=c2 _ ct J;rw[bM,fQ] at s1
 cases hv:z.cells[q%k]? with
 |none=>simp [hv] at s1
 |
  some u=>
  simp[hv] at s1;subst s1;have hu:=(Uz.1 r3) u (Jc hv);obtain⟨p,t1,t2⟩:=ado (Ψ:=Ψ) hu s2;refine⟨p,u,?_,t1,t2⟩;have V:q<n.toNat*i.size:=(by rw[size_madeCells] at hq;exact hq);have hm:(madeCells z.cells (n.toNat*i.size))[q]?=some (z.cells[q%z.cells.size]!):=(by simp[madeCells,V]);rw[hm,q6];simp[getElem!_def,hv]
end
