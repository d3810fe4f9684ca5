/- Words. -/
import Derived.Test.YtfbkkgfkhhibfaaGreatAdl
set_option linter.unusedVariables false
set_option linter.unusedSimpArgs false
namespace AM
open Go Go.RowKit
def toP:AV→Option PV
 | .pv p=>some p
 | .emp=>some (.sl [])
 | _=>none
def qy:List AV→Option (List PV)
 | []=>some []
 |
  v :: r=>match toP v,qy r with
  | some p,some ps=>some (p :: ps)
  | _,_=>none
theorem rF {Ψ:Psi}{loc:Loc}{v:AV}{p:PV}{x:Value}(h:RepA Ψ loc v x)(hp:toP v=some p):Rep Ψ p x:=by
 cases h <;> first
  | (cases hp;done)
  | (injection hp with hp;subst hp;first | assumption | exact .nil (fun _=>rfl))
theorem je:∀ {vs:List AV} {ps:List PV},qy vs=some ps→ps.length=vs.length∧∀(j:Nat) p,ps[j]?=some p→∃v,vs[j]?=some v∧toP v=some p
 | [],ps,h=>by injection h with h;subst h;exact⟨rfl,fun j p h=>by simp at h⟩
 |
  v :: r,ps,h=>by
  unfold qy at h
  split at h
  · rename_i p qs h1 h2
    injection h with h
    subst h
    have ih:=je h2
    refine⟨by simp[ih.1],fun j p' hj=>?_⟩
    cases j with
    | zero=>simp at hj;subst hj;exact⟨v,rfl,h1⟩
    | succ j=>simpa using ih.2 j p' (by simpa using hj)
  · cases h
theorem oC {Ψ:Psi}{loc:Loc}{v:AV}{x:Value}(h:RepA Ψ loc v x)(hc:(aW v).all fA=true):x.cells.size=(aW v).length∧∀(j:Nat) u,(aW v)[j]?=some u→∃y,x.cells[j]?=some y∧y.oneCell'=true∧RepA Ψ loc u y:=by
 by_cases hv:fA v=true
 · have h1:=h.one hv;have h2:aW v= [v]:=by cases v <;> first | rfl | cases hv
   have h3:x.cells=#[x]:=by cases x <;> first | rfl | cases h1
   rw[h2,h3];refine⟨rfl,fun j u hu=>?_⟩
   cases j with
   | zero=>simp at hu;subst hu;exact⟨x,rfl,h1,h⟩
   | succ j=>simp at hu
 · cases h with
   |
    agg f hs hx hr=>
    refine⟨hs,fun j u hu=>⟨f j,hx j (List.getElem?_eq_some_iff.1 hu).1,?_,hr j u hu⟩⟩;exact (hr j u hu).one (List.all_eq_true.1 hc u (List.mem_of_getElem? hu))
   | tup f hs hx hr=>simp [aW,fA] at hc
   | _=>exact absurd rfl hv
section
variable {P : Program} {o : Oper} {e : Operand → Option AV} {σ : Sto} {lab : Nat}
theorem oD {t:TypeId}{g:Bool}{k b off:Nat}{arr:Array Value}{ty:TypeId}{w:World}{x:Value}(hl:lay P t=some (g,k))(hh:w.heap[b]?=some (.cells arr ty (0,0)))(hk:x.cells.size=k)(hle:off+k≤arr.size)(h1:∀y∈x.cells.toList,y.oneCell'=true):
 (Instr.storeAt t (.pointer (some ⟨b,off,none⟩)) x).run P w= .ok () (w.setRow b (fF arr.toList off x.cells.toList).toArray):=by
 obtain⟨d,i,q1,q2,q3,q4⟩:=tC hl;have hs:=run_storeCells_at (P:=P) b off ty x.cells.toList 0 arr w hh (by simp[hk];omega) h1;simp only[Nat.add_zero] at hs;simp[Instr.storeAt,Instr.sureAddr,storeVar,Go.sizeOf,typeInfo,q2,q4,hk,hs,fF]
theorem oG {loc:Loc}{l b c:Nat}(h:loc l=some (some ⟨b,0,none⟩,c+1)):blk loc l=some b:=by simp[blk,h]
theorem Ny (σ:Sto)(l:Nat)(a b:Option Obj):(σ.upd l a).upd l b=σ.upd l b:=by
 funext r;unfold Sto.upd;split <;> rfl
theorem upd_eq (σ:Sto)(l:Nat)(a:Option Obj):(σ.upd l a) l=a:=by simp[Sto.upd]
theorem upd_ne (σ:Sto){l r:Nat}(a:Option Obj)(h:r≠l):(σ.upd l a) r=σ r:=by simp[Sto.upd,h]
theorem OO {t:TypeId}{x y:Operand}{g:Bool}{k l off:Nat}{cs:List AV}{v:AV}(ho:o.op= .store t x y)(hdst:o.dst=none)(hl:lay P t=some (g,k))(hx:e x=some (.ptr l off))(hy:e y=some v)(hσ:σ l=some (.box cs))
 (hk:(aW v).length=k) (hc:(aW v).all fA=true) (hle:off+k≤cs.length):
 DSound P o e σ lab ⟨True,fun u=>u= .emp,[],true,[(l,some (.box (fF cs off (aW v))))]⟩:=by
 intro fr Ψ loc w ρ he hok hlab _ hd;have h:=he x _ hx;generalize hq:ρ x=z at h;obtain⟨b,c,arr,ty,h1,hh,hs,hr⟩:xw Ψ loc w l cs:=hok.ob l _ hσ;obtain⟨c1,c2⟩:=oC (he y v hy) hc
 cases h with
 |
  ptr hp=>
  rename_i b' c'
  rw[h1] at hp;injection hp with hp;injection hp with hp h2;injection hp with hp;injection hp with hp;subst hp
  have hrun:=oD (P:=P) (t:=t) (x:=ρ y) hl hh (c1.trans hk) (off:=off) (by omega) (fun u hu=>by
   obtain⟨j,hj⟩:=List.mem_iff_getElem?.1 hu
   have hlt:j < (aW v).length:=by
    have:=(List.getElem?_eq_some_iff.1 hj).1;rw[Array.length_toList,c1] at this;exact this
   obtain⟨y',q1,q2,_⟩:=c2 j _ (List.getElem?_eq_getElem hlt);rw[Array.getElem?_toList,q1] at hj;injection hj with hj;rw[←hj];exact q2)
  have hb:=oG h1;have hok1:=(hok.drop l).chg (Same.row (K:=Free fr Ψ loc (σ.upd l none)) (hok.free hσ hb) (fF arr.toList off (ρ y).cells.toList).toArray);refine⟨undef,w.setRow b (fF arr.toList off (ρ y).cells.toList).toArray,Ψ,loc,.emp,.inr ⟨by simp[execOp,ho,hq,hrun],hdst⟩,rfl,?_,.refl _,fun _ _=>rfl,?_⟩
  · show Ok fr Ψ loc (σ.upd l _) _;rw[←Ny σ l none];have hsz:off+(ρ y).cells.toList.length≤arr.toList.length:=by simp[c1,hs];omega
    refine hok1.claim (upd_eq _ _ _) ⟨b,c,_,ty,h1,setRow_heap w b arr _ ty _ hh,?_,fun j u hu=>?_⟩ (fun b' hb'=>by rw[hb] at hb';injection hb' with hb';rw[←hb'];exact hok.free hσ hb)
    · simp only[List.size_toArray];rw[kH hsz,kH (by omega)];simpa using hs
    · rw[iD (by omega)] at hu;have hg:=iD hsz j;rw[Array.length_toList,c1] at hg;split at hu
      · rename_i hj
        obtain⟨y',q1,q2,q3⟩:=c2 _ u hu;exact⟨y',by rw[List.getElem?_toArray,hg,if_pos hj,Array.getElem?_toList];exact q1,q2,q3⟩
      · rename_i hj
        obtain⟨y',q1,q2,q3⟩:=hr j u hu;exact⟨y',by rw[List.getElem?_toArray,hg,if_neg hj,Array.getElem?_toList];exact q1,q2,q3⟩
  · exact Same.row (K:=fun k=>¬fr.pr k) (hok.ow l _ b hσ hb).1 _
theorem Bo {fr:Fr}{Ψ:Psi}{loc:Loc}{w:World}(hok:Ok fr Ψ loc σ w)(hlab:loc lab=none)(hs:σ lab=none){cs:List AV}{xs:Array Value}{ty:TypeId}(hn:xs.size=cs.length)(hr:∀(j:Nat) u,cs[j]?=some u→∃y,xs[j]?=some y∧y.oneCell'=true∧RepA Ψ loc u y):
 Ok fr Ψ (loc.upd lab (some ⟨w.heap.size,0,none⟩,1)) (σ.upd lab (some (.box cs))) (w.alloc (.cells xs ty)):=by
 have hle:Loc.le loc (loc.upd lab (some ⟨w.heap.size,0,none⟩,1)):=Loc.le_upd hlab;have h1:=hok.chg (w':=w.alloc (.cells xs ty)) (Same.of (World.grownBy_alloc w _ none) (fun k e=>nomatch e));have h2:=h1.locs hle (fun l o e=>Loc.upd_ne (fun q=>by rw[q,hs] at e;cases e));refine h2.claim hs ⟨w.heap.size,0,xs,ty,Loc.upd_eq,heap_alloc_new w _,hn,fun j u hu=>?_⟩ (fun b hb=>?_)
 · obtain⟨y,q1,q2,q3⟩:=hr j u hu;exact⟨y,q1,q2,q3.mono (.refl _) hle⟩
 · have:b=w.heap.size:=by simp[blk,Loc.upd_eq] at hb;exact hb.symm
   subst this;have hf:=hok.new (Nat.le_refl _)
   exact⟨hf.pr,hf.tb,hf.fz,fun l o e q=>by
    rw[iV (Loc.upd_ne (fun q=>by rw[q,hs] at e;cases e))] at q;exact hf.ob l o e q⟩
theorem RF {t:TypeId}{cs:List AV}(ho:o.op= .alloc t)(hz:dn P t=some cs):DSound P o e σ lab ⟨True,fun u=>u= .ptr lab 0,[],true,[(lab,some (.box cs))]⟩:=by
 intro fr Ψ loc w ρ he hok hlab hs hd;obtain⟨i,z,h1,h2,h3,rfl⟩:=qA hz;refine⟨.pointer (some ⟨w.heap.size,0,none⟩),w.alloc (.cells z.cells t),Ψ,loc.upd lab (some ⟨w.heap.size,0,none⟩,1),_,.inl ⟨?_,.ptr Loc.upd_eq⟩,rfl,Bo hok hlab hs (by simp) (fun j u hu=>?_),.refl _,fun l hl=>Loc.upd_ne hl,Same.of (World.grownBy_alloc w _ none) (fun k e=>nomatch e)⟩
 · simp[execOp,ho,Instr.alloc,zeroValue,typeInfo,h1,h2,newVar,newRow]
 · rw[List.getElem?_map,Array.getElem?_toList] at hu
   cases hj:z.cells[j]? with
   | none=>simp [hj] at hu
   |
    some y=>
    simp[hj] at hu;subst hu;have:=(Array.all_eq_true_iff_forall_mem.1 h3) y (Array.mem_of_getElem? hj);exact⟨y,rfl,this,wM this⟩
theorem ZB {t:TypeId}{x:Operand}{v:AV}(ho:o.op= .box t x)(hx:e x=some v)(hc:(aW v).all fA=true):DSound P o e σ lab ⟨True,fun u=>u= .ptr lab 0,[],true,[(lab,some (.box (aW v)))]⟩:=by
 intro fr Ψ loc w ρ he hok hlab hs hd;obtain⟨c1,c2⟩:=oC (he x v hx) hc;exact⟨.pointer (some ⟨w.heap.size,0,none⟩),w.alloc (.cells (ρ x).cells t),Ψ,loc.upd lab (some ⟨w.heap.size,0,none⟩,1),_,.inl ⟨by simp[execOp,ho,Instr.box,newVar,newRow],.ptr Loc.upd_eq⟩,rfl,Bo hok hlab hs c1 c2,.refl _,fun l hl=>Loc.upd_ne hl,Same.of (World.grownBy_alloc w _ none) (fun k e=>nomatch e)⟩
theorem OQ {t:TypeId}{x y:Operand}{g:Bool}{k k' r ty i off:Nat}{els:List (List PV)}{v:AV}{ps:List PV}(ho:o.op= .store t x y)(hdst:o.dst=none)(hl:lay P t=some (g,k))(hx:e x=some (.rp r k' i off))(hy:e y=some v)(hσ:σ r=some (.row ty k' els))
 (hp:qy (aW v)=some ps) (hk:ps.length=k) (hle:off+k≤k'):
 DSound P o e σ lab ⟨i < els.length,fun u=>u= .emp,[],true,[(r,some (.row ty k' (els.modify i (fun row=>fF row off ps))))]⟩:=by
 intro fr Ψ loc w ρ he hok hlab _ hi;have hi:i < els.length:=hi;have h:=he x _ hx;generalize hq:ρ x=z at h;obtain⟨A,c,h1,h2⟩:lU Ψ loc w r ty k' els:=hok.ob r _ hσ
 have hcell:(aW v).all fA=true:=by
  rw[List.all_eq_true];intro u hu;obtain⟨j,hj⟩:=List.mem_iff_getElem?.1 hu;have hl2:=(je hp).1;obtain⟨u',q1,q2⟩:=(je hp).2 j (ps[j]'(by have:=(List.getElem?_eq_some_iff.1 hj).1;omega)) (List.getElem?_eq_getElem _);rw[hj] at q1;injection q1 with q1;subst q1
  cases u <;> first | rfl | cases q2
 obtain⟨c1,c2⟩:=oC (he y v hy) hcell;have hlv:(aW v).length=k:=by rw[←(je hp).1];exact hk
 cases h with
 |
  rp hp2=>
  rename_i b' c'
  rcases h2 with ⟨rfl,_⟩ | ⟨h0,b,cur,rfl,hh,q1,q2,q3,q4,q5⟩
  · simp at hi
  rw[h1] at hp2;injection hp2 with hp2;injection hp2 with hp2 h2;injection hp2 with hp2;injection hp2 with hp2;subst hp2;have hik:(i+1)* k'≤c * k':=Nat.mul_le_mul_right _ (by omega);rw[Nat.add_mul,Nat.one_mul] at hik;have hin:i * k'+off+k≤cur.size:=by omega
  have hrun:=oD (P:=P) (t:=t) (x:=ρ y) hl hh (c1.trans hlv) (off:=i * k'+off) hin (fun u hu=>by
   obtain⟨j,hj⟩:=List.mem_iff_getElem?.1 hu
   have hlt:j < (aW v).length:=by
    have:=(List.getElem?_eq_some_iff.1 hj).1;rw[Array.length_toList,c1] at this;exact this
   obtain⟨y',q1,q2,_⟩:=c2 j _ (List.getElem?_eq_getElem hlt);rw[Array.getElem?_toList,q1] at hj;injection hj with hj;rw[←hj];exact q2)
  obtain⟨c',rfl⟩:∃c',c=c'+1:=⟨c - 1,by omega⟩;have hb:=oG h1;have hok1:=(hok.drop r).chg (Same.row (K:=Free fr Ψ loc (σ.upd r none)) (hok.free hσ hb) (fF cur.toList (i * k'+off) (ρ y).cells.toList).toArray);refine⟨undef,w.setRow b (fF cur.toList (i * k'+off) (ρ y).cells.toList).toArray,Ψ,loc,.emp,.inr ⟨by simp[execOp,ho,hq,hrun],hdst⟩,rfl,?_,.refl _,fun _ _=>rfl,?_⟩
  · show Ok fr Ψ loc (σ.upd r _) _;rw[←Ny σ r none];have hsz:i * k'+off+(ρ y).cells.toList.length≤cur.toList.length:=by simp[c1,hlv];omega
    refine hok1.claim (upd_eq _ _ _) ⟨_,_,h1,.inr ⟨h0,b,_,rfl,setRow_heap w b cur _ ty _ hh,by simpa using q1,q2,?_,fun row hrow=>?_,fun i2 j p hij=>?_⟩⟩ (fun b' hb'=>by rw[hb] at hb';injection hb' with hb';rw[←hb'];exact hok.free hσ hb)
    · simp only[List.size_toArray];rw[kH hsz];simpa using q3
    · obtain⟨n,hn⟩:=List.mem_iff_getElem?.1 hrow;rw[List.getElem?_modify] at hn
      cases hm:els[n]? with
      | none=>simp [hm] at hn
      |
       some row0=>
       have:=q4 row0 (List.mem_of_getElem? hm);simp only[hm,Option.map_eq_map,Option.map_some,Option.some.injEq] at hn;split at hn
       · subst hn;rw[kH (by omega)];exact this
       · subst hn;exact this
    · unfold cellOf at hij;rw[List.getElem?_modify] at hij
      cases hm:els[i2]? with
      | none=>simp [hm] at hij
      |
       some row0=>
       have hr0:=q4 row0 (List.mem_of_getElem? hm);have hi2:=(List.getElem?_eq_some_iff.1 hm).1;have hg:=iD hsz (i2 * k'+j);rw[Array.length_toList,c1,hlv] at hg;simp only[hm,Option.map_eq_map,Option.map_some,Option.bind_some] at hij;split at hij
       · rename_i hii
         subst hii;rw[iD (by omega)] at hij;split at hij
         · rename_i hj
           obtain⟨u,r1,r2⟩:=(je hp).2 _ _ hij;obtain⟨y',s1,s2,s3⟩:=c2 _ u r1;refine⟨y',?_,rF s3 r2⟩;rw[List.getElem?_toArray,hg,if_pos (by omega),Array.getElem?_toList,show i * k'+j - (i * k'+off)=j - off by omega];exact s1
         · rename_i hj
           obtain⟨y',s1,s2⟩:=q5 i j p (by simp[cellOf,hm,hij]);refine⟨y',?_,s2⟩;rw[List.getElem?_toArray,hg,if_neg (by omega),Array.getElem?_toList];exact s1
       · rename_i hii
         have hjk:j < k':=by rw[←hr0];exact (List.getElem?_eq_some_iff.1 hij).1
         obtain⟨y',s1,s2⟩:=q5 i2 j p (by simp[cellOf,hm,hij]);refine⟨y',?_,s2⟩
         have hout:¬(i * k'+off≤i2 * k'+j∧i2 * k'+j < i * k'+off+k):=by
          intro hin2;rcases Nat.lt_or_gt_of_ne hii with hlt | hgt
          · have:=Nat.mul_le_mul_right k' (show i+1≤i2 by omega);rw[Nat.add_mul,Nat.one_mul] at this;omega
          · have:=Nat.mul_le_mul_right k' (show i2+1≤i by omega);rw[Nat.add_mul,Nat.one_mul] at this;omega
         rw[List.getElem?_toArray,hg,if_neg hout,Array.getElem?_toList];exact s1
  · exact Same.row (K:=fun k=>¬fr.pr k) (hok.ow r _ b hσ hb).1 _
theorem OT {t:TypeId}{x y:Operand}{j:Nat}{cts:List CT}{ct:CT}{v:AV}{p:PV}(ho:o.op= .store t x y)(hdst:o.dst=none)(hl:lay P t=some (false,1))(hx:e x=some (.tp cts j))(hy:e y=some v)(hc:cts[j]?=some ct)(hp:toP v=some p):
 DSound P o e σ lab ⟨ct.ok p,fun u=>u= .emp,[],true,[]⟩:=by
 intro fr Ψ loc w ρ he hok hlab _ hd;have hd:ct.ok p:=hd;have h:=he x _ hx;generalize hq:ρ x=z at h;have hrep:=rF (he y v hy) hp;have h1:=hrep.one
 have h3:(ρ y).cells=#[ρ y]:=by
  generalize ρ y=q at h1⊢
  cases q <;> first | rfl | cases h1
 cases h with
 |
  tp ht h0 hm hle=>
  rename_i b q m
  obtain⟨arr,ty,hh,hs,hall⟩:=hok.tb _ _ _ ht;have hj:j < cts.length:=(List.getElem?_eq_some_iff.1 hc).1;have hrun:=oD (P:=P) (t:=t) (x:=ρ y) hl hh (by rw[h3];rfl) (off:=q+j) (by omega) (fun u hu=>by rw[h3] at hu;simp at hu;rw[hu];exact h1)
  have hset:(fF arr.toList (q+j) (ρ y).cells.toList).toArray=arr.setIfInBounds (q+j) (ρ y):=by
   apply Array.ext_getElem?;intro n;rw[List.getElem?_toArray,iD (by rw[h3];simp;omega),h3,Array.getElem?_setIfInBounds];simp only[List.length_cons,List.length_nil,Array.getElem?_toList];by_cases hn:q+j=n
   · subst hn;rw[if_pos (by omega),if_pos rfl,if_pos (by omega)];simp
   · rw[if_neg (by omega),if_neg hn]
  rw[hset] at hrun;exact⟨undef,w.setRow b (arr.setIfInBounds (q+j) (ρ y)),Ψ,loc,.emp,.inr ⟨by simp[execOp,ho,hq,hrun],hdst⟩,rfl,hok.storeTyped ht (by omega) (by rw[Nat.add_mod,hm,Nat.zero_add,Nat.mod_mod,Nat.mod_eq_of_lt hj];exact hc) hd hrep hh,.refl _,fun _ _=>rfl,Same.row (K:=fun k=>¬fr.pr k) (hok.tf b _ ht).1 _⟩
end
theorem uD:∀(xs:List Value) (off k:Nat) (cs:Array Value),off+k+xs.length≤cs.size→(xs.zipIdx k).foldl (fun cs (c:Value×Nat)=>cs.setIfInBounds (off+c.2) c.1) cs=(fF cs.toList (off+k) xs).toArray
 | [],off,k,cs,h=>by simp[fF]
 |
  x :: r,off,k,cs,h=>by
  simp only[List.zipIdx_cons,List.foldl_cons]
  rw[uD r off (k+1) _ (by simp at h⊢;omega)]
  simp only[List.length_cons] at h
  apply Array.ext_getElem?
  intro j
  rw[List.getElem?_toArray,List.getElem?_toArray,iD (by simp;omega),iD (by simp;omega)]
  simp only[List.length_cons,Array.toList_setIfInBounds,List.getElem?_set,Array.length_toList]
  by_cases h1:j=off+k
  · subst h1
    rw[if_neg (by omega),if_pos rfl,if_pos (by omega),if_pos (by omega)]
    simp
  · by_cases h2:off+k≤j∧j < off+k+(r.length+1)
    · rw[if_pos (by omega),if_pos h2,show j - (off+k)=(j - (off+(k+1)))+1 by omega,List.getElem?_cons_succ]
    · rw[if_neg (by omega),if_neg h2,if_neg (by omega)]
def oQ (place:Nat→Option (Nat×Nat))(cells:List AV):List (Nat×AV)→Option (List AV)
 | []=>some cells
 |
  (i,v) :: r=>
  match place i with
  | none=>none
  | some (off,size)=>if (aW v).length=size∧off+size≤cells.length∧(aW v).all fA=true then oQ place (fF cells off (aW v)) r else none
def kY (Ψ:Psi)(loc:Loc)(cs:List AV)(xs:Array Value):Prop:=xs.size=cs.length∧∀(j:Nat) u,cs[j]?=some u→∃y,xs[j]?=some y∧y.oneCell'=true∧RepA Ψ loc u y
theorem Vo {Ψ:Psi}{loc:Loc}{cs vs:List AV}{xs ys:Array Value}{off:Nat}(h:kY Ψ loc cs xs)(hv:kY Ψ loc vs ys)(hle:off+vs.length≤cs.length):kY Ψ loc (fF cs off vs) (fF xs.toList off ys.toList).toArray:=by
 have hy:ys.toList.length=vs.length:=by simpa using hv.1
 have hx:xs.toList.length=cs.length:=by simpa using h.1
 refine⟨by simp only[List.size_toArray];rw[kH (by omega),kH hle];exact hx,fun j u hu=>?_⟩;rw[iD hle] at hu;rw[List.getElem?_toArray,iD (by omega),hy];split at hu
 · rename_i hj
   rw[if_pos hj,Array.getElem?_toList];exact hv.2 _ u hu
 · rename_i hj
   rw[if_neg hj,Array.getElem?_toList];exact h.2 _ u hu
theorem Jc {Ψ:Psi}{loc:Loc}{place:Nat→Option (Nat×Nat)} :∀(ps:List (Nat×AV)) (qs:List (Nat×Value)) (cs cs':List AV) (xs:Array Value),oQ place cs ps=some cs'→kY Ψ loc cs xs→ps.length=qs.length→(∀(j:Nat) i v,ps[j]?=some (i,v)→∃x,qs[j]?=some (i,x)∧RepA Ψ loc v x)→
 ∃xs',Instr.fill place xs qs=some xs'∧kY Ψ loc cs' xs'
 |
  [],qs,cs,cs',xs,h,hc,hl,hr=>by
  have:qs= []:=List.eq_nil_of_length_eq_zero hl.symm
  subst this
  injection h with h
  subst h
  exact⟨xs,rfl,hc⟩
 |
  (i,v) :: ps,qs,cs,cs',xs,h,hc,hl,hr=>by
  obtain⟨x,q1,q2⟩:=hr 0 i v rfl
  cases qs with
  | nil=>simp at q1
  |
   cons q qs=>
   simp at q1
   subst q1
   unfold oQ at h
   unfold Instr.fill
   cases hp:place i with
   | none=>simp [hp] at h
   |
    some w=>
    obtain⟨off,size⟩:=w
    simp only[hp] at h⊢
    split at h
    · rename_i hcond
      obtain⟨h1,h2,h3⟩:=hcond
      obtain⟨c1,c2⟩:=oC q2 h3
      have hfit:off+x.cells.size≤xs.size:=by rw[c1,hc.1,h1];exact h2
      have hno:(x.cells.size≠size || decide (off+x.cells.size > xs.size))=false:=by
       simp only[Bool.or_eq_false_iff,decide_eq_false_iff_not,ne_eq]
       refine⟨by simp[c1,h1],by omega⟩
      rw[hno]
      simp only[Bool.false_eq_true,if_false]
      have hfold:=uD x.cells.toList off 0 xs (by simpa using hfit)
      simp only[Nat.add_zero] at hfold
      rw[show (Array.foldl (fun cs x=>match x with | (c,j)=>cs.setIfInBounds (off+j) c) xs x.cells.zipIdx)=(x.cells.toList.zipIdx 0).foldl (fun cs (c:Value×Nat)=>cs.setIfInBounds (off+c.2) c.1) xs from by rw[←Array.foldl_toList,Array.toList_zipIdx],hfold]
      exact Jc ps qs _ cs' _ h (Vo hc ⟨c1,c2⟩ (by omega)) (by simpa using hl) (fun j i' v' hj=>by simpa using hr (j+1) i' v' (by simpa using hj))
    · cases h
def bH (P:Program)(t:TypeId):Option (List (Nat×Nat)):=
 match P.underlying t with
 | some (.struct fields)=>fields.toList.mapM (fun f=>(P.info? f.type).map fun i=>(f.offset,i.size))
 | _=>none
def evs (e:Operand→Option AV):List (Nat×Operand)→Option (List (Nat×AV))
 | []=>some []
 |
  (i,x) :: r=>match e x,evs e r with
  | some v,some l=>some ((i,v) :: l)
  | _,_=>none
theorem Om {e:Operand→Option AV}{Ψ:Psi}{loc:Loc}{ρ:Operand→Value}(he:∀x v,e x=some v→RepA Ψ loc v (ρ x)):∀(ps:List (Nat×Operand)) (qs:List (Nat×AV)),evs e ps=some qs→qs.length=(ps.map fun (i,x)=>(i,ρ x)).length∧∀(j:Nat) i v,qs[j]?=some (i,v)→∃x,(ps.map fun (i,x)=>(i,ρ x))[j]?=some (i,x)∧RepA Ψ loc v x
 | [],qs,h=>by injection h with h;subst h;exact⟨rfl,fun j i v h=>by simp at h⟩
 |
  (i,x) :: r,qs,h=>by
  unfold evs at h
  split at h
  · rename_i v l h1 h2
    injection h with h
    subst h
    have ih:=Om he r l h2
    refine⟨by simpa using ih.1,fun j i' v' hj=>?_⟩
    cases j with
    | zero=>simp at hj;obtain⟨rfl,rfl⟩:=hj;exact⟨ρ x,rfl,he x v h1⟩
    | succ j=>simpa using ih.2 j i' v' (by simpa using hj)
  · cases h
theorem Yb {Ψ:Psi}{loc:Loc}{cs:List AV}{xs:Array Value}(h:kY Ψ loc cs xs):RepA Ψ loc (.agg cs) (.agg xs):=by
 have hf:∀j,∃x,j < cs.length→∃u,cs[j]?=some u∧xs[j]?=some x∧RepA Ψ loc u x:=fun j=>by
  by_cases hj:j < cs.length
  · obtain⟨y,q1,_,q3⟩:=h.2 j _ (List.getElem?_eq_getElem hj);exact⟨y,fun _=>⟨_,List.getElem?_eq_getElem hj,q1,q3⟩⟩
  · exact⟨undef,fun h=>absurd h hj⟩
 refine .agg (fun j=>(hf j).choose) h.1 (fun j hj=>?_) (fun j u hu=>?_)
 · obtain⟨u,_,q,_⟩:=(hf j).choose_spec hj;exact q
 · obtain⟨u',q1,_,q⟩:=(hf j).choose_spec (List.getElem?_eq_some_iff.1 hu).1;rw[hu] at q1;injection q1 with q1;rw[q1];exact q
section
variable {P : Program} {o : Oper} {e : Operand → Option AV} {σ : Sto} {lab : Nat}
theorem Vp {t:TypeId}{parts:Array (Nat×Operand)}{zs cs:List AV}{pl:List (Nat×Nat)}{ps:List (Nat×AV)}(ho:o.op= .build t parts)(hz:dn P t=some zs)(hpl:bH P t=some pl)(hp:evs e parts.toList=some ps)(hf:oQ (pl[·]?) zs ps=some cs):
 DSound P o e σ lab (.val (.agg cs)):=
 .pure rfl fun Ψ loc fr w ρ he hok hd=>by
  obtain⟨i,z,h1,h2,h3,rfl⟩:=qA hz
  obtain⟨l1,l2⟩:=Om he _ _ hp
  have hz0:kY Ψ loc (z.cells.toList.map Ns) z.cells:=⟨by simp,fun j u hu=>by
   rw[List.getElem?_map,Array.getElem?_toList] at hu
   cases hj:z.cells[j]? with
   | none=>simp [hj] at hu
   |
    some y=>
    simp[hj] at hu
    subst hu
    have:=(Array.all_eq_true_iff_forall_mem.1 h3) y (Array.mem_of_getElem? hj)
    exact⟨y,rfl,this,wM this⟩⟩
  obtain⟨xs',r1,r2⟩:=Jc ps _ _ cs z.cells hf hz0 l1 l2
  refine⟨.agg xs',_,?_,Yb r2,rfl⟩
  have hb:P.built t ((parts.map fun (i,x)=>(i,ρ x)).toList)=some xs':=by
   unfold bH at hpl
   split at hpl
   · rename_i fields hu
     unfold Program.built
     simp only[h1,hu,h2,hpl]
     rw[Array.toList_map]
     simp only[List.getElem?_toArray]
     exact r1
   · cases hpl
  have:=run_build w t _ _ hb
  simp[execOp,ho,this]
def rowsOf (e:Operand→Option AV)(k:Nat):Nat→List (Nat×Operand)→Option (List (List PV))
 | _,[]=>some []
 | m,(i,x) :: r=>if i=m then
  match (e x).bind fun v=>qy (aW v),rowsOf e k (m+1) r with
  | some ps,some rs=>if ps.length=k then some (ps :: rs) else none
  | _,_=>none
  else none
theorem CX {Ψ:Psi}{loc:Loc}{ρ:Operand→Value}(he:∀x v,e x=some v→RepA Ψ loc v (ρ x)){k n:Nat} :∀(ps:List (Nat×Operand)) (m:Nat) (rows:List (List PV)) (xs:Array Value),rowsOf e k m ps=some rows→m+ps.length=n→xs.size=n * k→
 ∃xs',Instr.fill (fun i=>some (i * k,k)) xs (ps.map fun (i,x)=>(i,ρ x))=some xs'∧xs'.size=n * k∧rows.length=ps.length∧(∀row∈rows,row.length=k)∧(∀q,q < m * k→xs'[q]?=xs[q]?)∧∀i j p,cellOf rows i j=some p→∃y,xs'[(m+i)* k+j]?=some y∧Rep Ψ p y
 |
  [],m,rows,xs,h,hm,hs=>by
  injection h with h
  subst h
  exact⟨xs,rfl,hs,rfl,(fun _ h=>by cases h),fun _ _=>rfl,fun i j p h=>by simp[cellOf] at h⟩
 |
  (i,x) :: r,m,rows,xs,h,hm,hs=>by
  unfold rowsOf at h
  split at h
  · rename_i him
    subst him
    split at h
    · rename_i qs rs h1 h2
      split at h
      · rename_i hk
        injection h with h
        subst h
        cases hev:e x with
        | none=>simp [hev] at h1
        |
         some v=>
         simp only[hev,Option.bind_some] at h1
         have hcell:(aW v).all fA=true:=by
          rw[List.all_eq_true]
          intro u hu
          obtain⟨j,hj⟩:=List.mem_iff_getElem?.1 hu
          have hl2:=(je h1).1
          obtain⟨u',q1,q2⟩:=(je h1).2 j (qs[j]'(by have:=(List.getElem?_eq_some_iff.1 hj).1;omega)) (List.getElem?_eq_getElem _)
          rw[hj] at q1
          injection q1 with q1
          subst q1
          cases u <;> first | rfl | cases q2
         obtain⟨c1,c2⟩:=oC (he x v hev) hcell
         have hck:(ρ x).cells.size=k:=by rw[c1,←(je h1).1,hk]
         simp only[List.length_cons] at hm
         have hle:i * k+k≤xs.size:=by
          rw[hs]
          have:=Nat.mul_le_mul_right k (show i+1≤n by omega)
          rw[Nat.add_mul,Nat.one_mul] at this
          exact this
         obtain⟨xs',f1,f2,f3,f4,f5,f6⟩:=CX (n:=n) he r (i+1) rs (fF xs.toList (i * k) (ρ x).cells.toList).toArray h2 (by omega) (by
          simp only[List.size_toArray]
          rw[kH (by simp[hck];exact hle)]
          simpa using hs)
         have hget:∀q,(fF xs.toList (i * k) (ρ x).cells.toList).toArray[q]?=if i * k≤q∧q < i * k+k then (ρ x).cells[q - i * k]? else xs[q]?:=fun q=>by
          rw[List.getElem?_toArray,iD (by simp[hck];exact hle)]
          simp only[Array.length_toList,hck,Array.getElem?_toList]
         refine⟨xs',?_,f2,by simp[f3],fun row hrow=>?_,fun q hq=>?_,fun i' j p hp=>?_⟩
         · simp only[List.map_cons]
           unfold Instr.fill
           dsimp only
           have hno:((ρ x).cells.size≠k || decide (i * k+(ρ x).cells.size > xs.size))=false:=by
            simp only[Bool.or_eq_false_iff,decide_eq_false_iff_not,ne_eq]
            refine⟨by simp[hck],by omega⟩
           rw[hno]
           simp only[Bool.false_eq_true,if_false]
           have hfold:=uD (ρ x).cells.toList (i * k) 0 xs (by simp[hck];exact hle)
           simp only[Nat.add_zero] at hfold
           rw[show (Array.foldl (fun cs x=>match x with | (c,j)=>cs.setIfInBounds (i * k+j) c) xs (ρ x).cells.zipIdx)=((ρ x).cells.toList.zipIdx 0).foldl (fun cs (c:Value×Nat)=>cs.setIfInBounds (i * k+c.2) c.1) xs from by rw[←Array.foldl_toList,Array.toList_zipIdx],hfold]
           exact f1
         · rcases List.mem_cons.1 hrow with rfl | hrow
           · exact hk
           · exact f4 row hrow
         · rw[f5 q (by rw[Nat.add_mul,Nat.one_mul];omega),hget,if_neg (by omega)]
         · cases i' with
           |
            zero=>
            simp[cellOf] at hp
            have hj:j < k:=by rw[←hk];exact (List.getElem?_eq_some_iff.1 hp).1
            obtain⟨u,s1,s2⟩:=(je h1).2 j p hp
            obtain⟨y,t1,_,t3⟩:=c2 j u s1
            refine⟨y,?_,rF t3 s2⟩
            rw[Nat.add_zero,f5 _ (by rw[Nat.add_mul,Nat.one_mul];omega),hget,if_pos (by omega),show i * k+j - i * k=j by omega]
            exact t1
           |
            succ i'=>
            obtain⟨y,t1,t2⟩:=f6 i' j p (by simpa [cellOf] using hp)
            exact⟨y,by rw[show i+(i'+1)=i+1+i' by omega];exact t1,t2⟩
      · cases h
    · cases h
  · cases h
theorem agm {fr:Fr}{Ψ:Psi}{loc:Loc}{w:World}(hok:Ok fr Ψ loc σ w)(xs:Array Value)(ty:TypeId):Ok fr (Ψ.addFz w.heap.size xs) loc σ (w.alloc (.cells xs ty))∧Ψ.le (Ψ.addFz w.heap.size xs):=by
 have hf:=hok.new (Nat.le_refl _);exact⟨(hok.chg (w':=w.alloc (.cells xs ty)) (Same.of (World.grownBy_alloc w _ none) (fun k e=>nomatch e))).freeze hf (heap_alloc_new w _),hf.le_fz xs⟩
theorem AZ {t el:TypeId}{n k by':Nat}{parts:Array (Nat×Operand)}{rows:List (List PV)}(ho:o.op= .buildSlice t n parts)(hel:aQ P t=some (el,k,by'))(hp:rowsOf e k 0 parts.toList=some rows)(hn:parts.toList.length=n)(h0:0 < n)(hsm:n * k≤2 ^ 24):
 DSound P o e σ lab (.val (.pv (.sl rows))):=by
 intro fr Ψ loc w ρ he hok hlab hs hd;obtain⟨h1,i,z,h2,h3,h4,h5,h6,h7,h8⟩:=fB hel;subst h4;obtain⟨xs',f1,f2,f3,f4,_,f6⟩:=CX (n:=n) he parts.toList 0 rows ((Array.range (n * i.size)).map (z.cells[· % z.cells.size]!)) hp (by omega) (by simp)
 have hpos:¬n * i.size=0:=by
  intro h;rcases Nat.mul_eq_zero.1 h with h | h <;> omega
 have hrun:=run_buildSlice w t el n (parts.map fun (i,x)=>(i,ρ x)) xs' i z h1 h2 h3 (by omega) hpos (by rw[Array.toList_map];exact f1);obtain⟨g1,g2⟩:=agm hok xs' el
 have hF:∀i' j,∃y,∀p,cellOf rows i' j=some p→xs'[i' * i.size+j]?=some y∧Rep Ψ p y:=fun i' j=>by
  cases hc:cellOf rows i' j with
  | none=>exact ⟨undef,fun p h=>by cases h⟩
  |
   some p0=>
   obtain⟨y,q1,q2⟩:=f6 i' j p0 hc;exact⟨y,fun p h=>by injection h with h;subst h;exact⟨by rw[Nat.zero_add] at q1;exact q1,q2⟩⟩
 refine⟨.slice (some ⟨w.heap.size,0,none⟩) n n,w.alloc (.cells xs' el),_,loc,_,.inl ⟨by simp[execOp,ho,hrun],.pv (.sl (k:=i.size) (fun a b=>(hF a b).choose) (by omega) (Nat.le_refl _) f4 (fun i' j p hc=>?_) (fun i' j p hc=>?_))⟩,rfl,g1,g2,fun _ _=>rfl,Same.of (World.grownBy_alloc w _ none) (fun k e=>nomatch e)⟩
 · have:=((hF i' j).choose_spec p hc).1;show (if w.heap.size=w.heap.size then xs'[0+(i' * i.size+j)]? else _)=_;rw[if_pos rfl,Nat.zero_add];exact this
 · exact ((hF i' j).choose_spec p hc).2.mono g2
theorem zn {t el:TypeId}{k by':Nat}{parts:Array (Nat×Operand)}(ho:o.op= .buildSlice t 0 parts)(hel:aQ P t=some (el,k,by'))(hp:parts=#[]):
 DSound P o e σ lab (.val .emp):=by
 intro fr Ψ loc w ρ he hok hlab hs hd;obtain⟨h1,i,z,h2,h3,h4,h5,h6,h7,h8⟩:=fB hel;refine⟨.slice (some ⟨w.heap.size,0,none⟩) 0 0,w.alloc (.cells #[] el),Ψ,loc,_,.inl ⟨?_,.emp⟩,rfl,hok.chg (Same.of (World.grownBy_alloc w _ none) (fun k e=>nomatch e)),.refl _,fun _ _=>rfl,Same.of (World.grownBy_alloc w _ none) (fun k e=>nomatch e)⟩;simp[execOp,ho,hp,Instr.buildSlice,run_underlying h1,Go.sizeOf,typeInfo,h2,Instr.fill,newRow];congr 2;apply Array.eq_empty_of_size_eq_zero;simp
end
