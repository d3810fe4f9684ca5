/- Words. -/
import Derived.Test.YtfbkkgfkhhibfaaGreatAdp
set_option linter.unusedVariables false
set_option linter.unusedSimpArgs false
namespace AM
open Go Go.RowKit
section
variable {P : Program} {o : Oper} {e : Operand → Option AV} {σ : Sto} {lab : Nat}
theorem Dp {t el:TypeId}{k by':Nat}(hel:aQ P t=some (el,k,by'))(b q n c:Nat)(ik:IntKind)(i:Int)(w:World)(h0:0≤i)(h1:i < n):
 (Instr.indexAt t (.slice (some ⟨b,q,none⟩) n c) (.int ik i)).run P w= .ok (.pointer (some ⟨b,q+i.toNat * k,none⟩)) w:=by
 obtain⟨q1,ti,z,q2,q3,q4,_⟩:=fB hel;simp[Instr.indexAt,run_underlying q1,asIntOf,h0,h1,Go.sizeOf,typeInfo,q2,q4,tH]
theorem V7 {t el:TypeId}{x y:Operand}{k by':Nat}{els:List (List PV)}{ik:IntKind}{i:Int}(ho:o.op= .indexAddr t x y)(hel:aQ P t=some (el,k,by'))(hx:e x=some (.pv (.sl els)))(hy:e y=some (.pv (.sc (.int ik i)))):
 DSound P o e σ lab ⟨0≤i∧∃row,els[i.toNat]?=some row∧row.length=k,fun u=>∃row,els[i.toNat]?=some row∧u= .fp row 0,[],true,[]⟩:=
 .pure rfl fun Ψ loc fr w ρ he hok hd=>by
  obtain⟨h0,row,hi,hk⟩:=hd
  obtain⟨hy1,_⟩:=dS (he y _ hy)
  have h:=he x _ hx
  generalize hq:ρ x=z at h
  have hlt:=(List.getElem?_eq_some_iff.1 hi).1
  cases h with
  |
   pv h=>cases h with
   | nil=>simp at hi
   |
    sl f hn hnc hk' hf hr=>
    rename_i b q c n k'
    have hkk:k'=k:=(hk' row (List.mem_of_getElem? hi)).symm.trans hk
    subst hkk
    have hc:∀j p,row[j]?=some p→cellOf els i.toNat j=some p:=fun j p hj=>by simp[cellOf,hi,hj]
    exact⟨.pointer (some ⟨b,q+i.toNat * k'+0,none⟩),_,by simp[execOp,ho,hq,hy1,Dp hel b q n c ik i w h0 (by omega)],.fp (f i.toNat) (fun j p hj=>by rw[Nat.add_assoc];exact hf _ j p (hc j p hj)) (fun j p hj=>hr _ j p (hc j p hj)),row,hi,rfl⟩
theorem V8 {t el:TypeId}{x y:Operand}{k by' r n ty k':Nat}{els:List (List PV)}{ik:IntKind}{i:Int}(ho:o.op= .indexAddr t x y)(hel:aQ P t=some (el,k,by'))(hx:e x=some (.own r n))(hσ:σ r=some (.row ty k' els))(hk:k'=k)(hn:els.length=n)(hy:e y=some (.pv (.sc (.int ik i)))):
 DSound P o e σ lab ⟨0≤i∧i < n,fun u=>u= .rp r k i.toNat 0,[r],true,[]⟩:=
 .pure rfl fun Ψ loc fr w ρ he hok hd=>by
  obtain⟨h0,hi⟩:0≤i∧i < n:=hd
  obtain⟨hy1,_⟩:=dS (he y _ hy)
  have h:=he x _ hx
  generalize hq:ρ x=z at h
  obtain⟨A,c,h1,h2⟩:lU Ψ loc w r ty k' els:=hok.ob r _ hσ
  cases h with
  |
   own hl hnc=>
   rename_i c' A'
   rw[h1] at hl
   injection hl with hl
   injection hl with hl1 hl2
   subst hl1 hl2
   rcases h2 with ⟨_,rfl⟩ | ⟨h0',b,cur,rfl,_⟩
   · omega
   · exact⟨.pointer (some ⟨b,0+i.toNat * k,none⟩),_,by simp[execOp,ho,hq,hy1,Dp hel b 0 n c ik i w h0 hi],by rw[Nat.zero_add];exact .rp (off:=0) h1,rfl⟩
theorem V9 {t el:TypeId}{x y:Operand}{k by' n:Nat}{cts:List CT}{ik:IntKind}{i:Int}(ho:o.op= .indexAddr t x y)(hel:aQ P t=some (el,k,by'))(hx:e x=some (.pv (.tr cts n)))(hk:cts.length=k)(hy:e y=some (.pv (.sc (.int ik i)))):
 DSound P o e σ lab ⟨0≤i∧i < n,fun u=>u= .tp cts 0,[],true,[]⟩:=
 .pure rfl fun Ψ loc fr w ρ he hok hd=>by
  obtain⟨h0,hi⟩:0≤i∧i < n:=hd
  obtain⟨hy1,_⟩:=dS (he y _ hy)
  have h:=he x _ hx
  generalize hq:ρ x=z at h
  cases h with
  |
   pv h=>cases h with
   | tr0=>omega
   |
    tr ht h0' hm hnc hle=>
    rename_i b q c m
    have hik:(i.toNat+1)* cts.length≤n * cts.length:=Nat.mul_le_mul_right _ (by omega)
    rw[Nat.add_mul,Nat.one_mul] at hik
    exact⟨.pointer (some ⟨b,q+i.toNat * k+0,none⟩),_,by simp[execOp,ho,hq,hy1,Dp hel b q n c ik i w h0 hi],.tp ht h0' (by rw[←hk,Nat.add_mul_mod_self_right];exact hm) (by rw[←hk];omega),rfl⟩
theorem Wh {t:TypeId}{x y:Operand}{s:ByteArray}{ik:IntKind}{i:Int}(ho:o.op= .index t x y)(ht:P.underlying t=some .string)(hx:e x=some (.pv (.sc (.string s))))(hy:e y=some (.pv (.sc (.int ik i)))):
 DSound P o e σ lab (.chk (0≤i∧i < s.size) (.pv (.sc (.int .u8 ((s[i.toNat]?).getD 0).toNat)))):=
 .pure rfl fun Ψ loc fr w ρ he hok hd=>by
  obtain⟨h0,hi⟩:0≤i∧i < s.size:=hd
  obtain⟨hy1,_⟩:=dS (he y _ hy)
  obtain⟨hx1,_⟩:=dS (he x _ hx)
  have hg:s[i.toNat]?=some s[i.toNat]:=getElem?_pos s i.toNat (by omega)
  exact⟨_,_,by simp[execOp,ho,hx1,hy1,Instr.index,asIntOf,run_underlying ht,h0,hg],.pv (.sc rfl),rfl⟩
theorem ZC {x:Operand}{ats:Array TypeId}{t:TypeId}{n:Nat}(ho:o.op= .call { callee:= .builtin .len,args:=#[x],argTypes:=ats })(hat:ats=#[t])
 (hx:(∃els,e x=some (.pv (.sl els))∧els.length=n∧(∃el,P.underlying t=some (.slice el)))∨(∃r,e x=some (.own r n)∧(∃el,P.underlying t=some (.slice el)))∨(∃cts,e x=some (.pv (.tr cts n))∧(∃el,P.underlying t=some (.slice el)))∨(e x=some .emp∧n=0∧(∃el,P.underlying t=some (.slice el)))∨(∃s,e x=some (.pv (.sc (.string s)))∧s.size=n∧P.underlying t=some .string)):
 DSound P o e σ lab (.val (.pv (.sc (.int .i64 n)))):=
 .pure rfl fun Ψ loc fr w ρ he hok hd=>by
  subst hat
  refine⟨.int .i64 n,_,?_,.pv (.sc rfl),rfl⟩
  have key:(∃el,P.underlying t=some (.slice el))→(∃A c,ρ x= .slice A n c)→(execOp ρ o).run P w= .ok (.value (.int .i64 n)) w:=fun ⟨el,ht⟩ ⟨A,c,hq⟩=>by
   simp[execOp,ho,resolve,invoke,builtin,hq,Builtin.len_,run_underlying ht,goInt]
  rcases hx with ⟨els,h1,h2,ht⟩ | ⟨r,h1,ht⟩ | ⟨cts,h1,ht⟩ | ⟨h1,rfl,ht⟩ | ⟨s,h1,rfl,ht⟩
  · refine key ht ?_
    have h:=he x _ h1
    generalize ρ x=z at h
    cases h with
    |
     pv h=>cases h with
     | nil=>subst h2;exact⟨_,_,rfl⟩
     | sl f hn=>rw [h2] at hn;subst hn;exact⟨_,_,rfl⟩
  · refine key ht ?_
    have h:=he x _ h1
    generalize ρ x=z at h
    cases h with
    | own hl hnc=>exact ⟨_,_,rfl⟩
  · refine key ht ?_
    have h:=he x _ h1
    generalize ρ x=z at h
    cases h with
    | pv h=>cases h <;> exact⟨_,_,rfl⟩
  · refine key ht ?_
    have h:=he x _ h1
    generalize ρ x=z at h
    cases h with
    | emp=>exact ⟨_,_,rfl⟩
  · obtain⟨hq,_⟩:=dS (he x _ h1)
    simp[execOp,ho,resolve,invoke,builtin,hq,Builtin.len_,run_underlying ht,goInt]
theorem ZE {x y:Operand}{ats:Array TypeId}{k:IntKind}{a b:Int}(ho:o.op= .call { callee:= .builtin .max,args:=#[x,y],argTypes:=ats })(hx:e x=some (.pv (.sc (.int k a))))(hy:e y=some (.pv (.sc (.int k b)))):
 DSound P o e σ lab (.val (.pv (.sc (.int k (if b > a then b else a))))):=
 .pure rfl fun Ψ loc fr w ρ he hok hd=>by
  obtain⟨hy1,_⟩:=dS (he y _ hy)
  obtain⟨hx1,_⟩:=dS (he x _ hx)
  exact⟨_,_,by simp[execOp,ho,resolve,invoke,builtin,hx1,hy1,Builtin.max_,Builtin.max2],.pv (.sc rfl),rfl⟩
def wR (e:Operand→Option AV)(x:Option Operand)(d:Int):Option Int:=
 match x with
 | none=>some d
 |
  some x=>match e x with
  | some (.pv (.sc (.int _ i)))=>some i
  | _=>none
theorem Dq {x:Option Operand}{d i:Int}{Ψ:Psi}{loc:Loc}{ρ:Operand→Value}(he:∀x v,e x=some v→RepA Ψ loc v (ρ x))(h:wR e x d=some i):(x=none∧i=d)∨∃y k,x=some y∧ρ y= .int k i:=by
 unfold wR at h;split at h
 · injection h with h;exact .inl ⟨rfl,h.symm⟩
 · rename_i y
   split at h
   · rename_i k j hy
     injection h with h;subst h;exact .inr ⟨y,k,rfl,(dS (he y _ hy)).1⟩
   · cases h
theorem Gw {t el:TypeId}{k by':Nat}(hel:aQ P t=some (el,k,by')){lo hi:Option Operand}{l h:Int}{ρ:Operand→Value}(A:Option Addr)(n c:Nat)(w:World)(hl:(lo=none∧l=0)∨∃y k,lo=some y∧ρ y= .int k l)(hh:(hi=none∧h=n)∨∃y k,hi=some y∧ρ y= .int k h)(h0:0≤l)(h1:l≤h)(h2:h≤n)(h3:n≤c):
 (Instr.sliceAt t (.slice A n c) (lo.map ρ) (hi.map ρ) none).run P w= .ok (.slice (if c=l.toNat then A else A.map (·.add (l.toNat * k))) (h.toNat - l.toNat) (c - l.toNat)) w:=by
 obtain⟨q1,ti,z,q2,q3,q4,_⟩:=fB hel;have hc:h≤c:=by omega
 rcases hl with ⟨rfl,rfl⟩ | ⟨y,kl,rfl,hy⟩ <;> rcases hh with ⟨rfl,rfl⟩ | ⟨y',kh,rfl,hy'⟩ <;>
  simp[Instr.sliceAt,Instr.slice,run_underlying q1,Instr.sliceBounds,Instr.sliceBound,asIntOf,Go.sizeOf,typeInfo,q2,q4, *] <;> (repeat' split) <;> first | rfl | omega | (simp_all;done)
end
section
variable {P : Program} {o : Oper} {e : Operand → Option AV} {σ : Sto} {lab : Nat}
theorem oZ {els:List (List PV)}{l h i j:Nat}{p:PV}(hc:cellOf ((els.take h).drop l) i j=some p):cellOf els (l+i) j=some p∧l+i < h:=by
 unfold cellOf at hc⊢;rw[List.getElem?_drop,List.getElem?_take] at hc;split at hc
 · rename_i hlt;exact⟨hc,hlt⟩
 · cases hc
theorem UI {t el:TypeId}{x:Operand}{lo hi:Option Operand}{k by':Nat}{els:List (List PV)}{l h:Int}(ho:o.op= .slice t x lo hi none)(hel:aQ P t=some (el,k,by'))(hx:e x=some (.pv (.sl els)))(hl:wR e lo 0=some l)(hh:wR e hi els.length=some h):
 DSound P o e σ lab (.chk (0≤l∧l≤h∧h≤els.length∧∀row∈els,row.length=k) (.pv (.sl ((els.take h.toNat).drop l.toNat)))):=
 .pure rfl fun Ψ loc fr w ρ he hok hd=>by
  obtain⟨h0,h1,h2,hrow⟩:0≤l∧l≤h∧h≤els.length∧∀row∈els,row.length=k:=hd
  have hx1:=he x _ hx
  have hbl:=Dq he hl
  have hbh:=Dq he hh
  generalize hq:ρ x=z at hx1
  have fin:∀A n c,z= .slice A n c→n=els.length→n≤c→(execOp ρ o).run P w= .ok (.value (.slice (if c=l.toNat then A else A.map (·.add (l.toNat * k))) (h.toNat - l.toNat) (c - l.toNat))) w:=fun A n c hz hn hnc=>by
   subst hn
   have:=Gw hel A els.length c w hbl hbh h0 h1 h2 hnc
   simp[execOp,ho,hq,hz,this]
  have hlen:((els.take h.toNat).drop l.toNat).length=h.toNat - l.toNat:=by simp;omega
  cases hx1 with
  |
   pv hx1=>cases hx1 with
   |
    nil hAc=>
    rename_i A c
    have hz:(if c=0 then A else A.map (·.add 0))=none→c=0:=fun h=>by
     split at h
     · exact hAc h
     · exact hAc (by simpa using h)
    simp at h2
    have hl0:l=0:=by omega
    have hh0:h=0:=by omega
    subst hl0 hh0
    exact⟨_,_,fin A 0 c rfl rfl (Nat.zero_le _),.pv (by simpa using Rep.nil hz),rfl⟩
   |
    sl f hn hnc hk' hf hr=>
    rename_i b q c n k'
    refine⟨_,_,fin _ n c rfl hn.symm hnc,.pv ?_,rfl⟩
    by_cases he0:h.toNat - l.toNat=0
    · rw[he0,List.eq_nil_of_length_eq_zero (hlen.trans he0)]
      exact .nil (fun h=>by split at h <;> simp at h)
    · have hcl:¬c=l.toNat:=by omega
      rw[if_neg hcl]
      simp only[Option.map_some,tH]
      have hkk:k'=k:=by
       have hlt:0 < els.length:=by omega
       rw[←hk' els[0] (List.getElem_mem hlt)]
       exact hrow _ (List.getElem_mem hlt)
      subst hkk
      refine .sl (fun i j=>f (l.toNat+i) j) hlen (by omega) (fun row hm=>hrow row (List.mem_of_mem_take (List.mem_of_mem_drop hm))) (fun i j p hc=>?_) (fun i j p hc=>hr _ _ _ (oZ hc).1)
      have:=hf _ _ _ (oZ hc).1
      rw[←this,Nat.add_mul]
      congr 1
      omega
theorem UJ {t el:TypeId}{x:Operand}{hi:Option Operand}{k by' r n ty k':Nat}{els:List (List PV)}{h:Int}(ho:o.op= .slice t x none hi none)(hel:aQ P t=some (el,k,by'))(hx:e x=some (.own r n))(hσ:σ r=some (.row ty k' els))(hn:els.length=n)(hh:wR e hi n=some h):
 DSound P o e σ lab ⟨0≤h∧h≤n,fun u=>u= .own lab h.toNat,[],true,[(r,none),(lab,some (.row ty k' (els.take h.toNat)))]⟩:=by
 intro fr Ψ loc w ρ he hok hlab hs hd;obtain⟨h0,h2⟩:0≤h∧h≤n:=hd;have hx1:=he x _ hx;have hbh:=Dq he hh;generalize hq:ρ x=z at hx1;obtain⟨A,c,h1,h3⟩:lU Ψ loc w r ty k' els:=hok.ob r _ hσ
 cases hx1 with
 |
  own hl hnc=>
  rename_i c' A'
  rw[h1] at hl;injection hl with hl;injection hl with hl1 hl2;subst hl1 hl2;have hrun:=Gw hel A n c w (.inl ⟨rfl,rfl⟩) hbh (Int.le_refl 0) h0 h2 hnc;simp only[Int.toNat_zero,Nat.zero_mul,Nat.sub_zero,Option.map_none] at hrun
  have hA:(if c=0 then A else A.map (·.add 0))=A:=by
   split
   · rfl
   · cases A <;> simp[Addr.add]
  rw[hA] at hrun;have hlr:lab≠r:=fun q=>by rw[q,h1] at hlab;cases hlab
  have hle:Loc.le loc (loc.upd lab (A,c)):=Loc.le_upd hlab;refine⟨.slice A h.toNat c,w,Ψ,loc.upd lab (A,c),_,.inl ⟨by simp[execOp,ho,hq,hrun],.own Loc.upd_eq (by omega)⟩,rfl,?_,.refl _,fun l hl=>Loc.upd_ne hl,Same.refl _ _⟩;show Ok fr Ψ _ ((σ.upd r none).upd lab _) w;have hd1:Ok fr Ψ (loc.upd lab (A,c)) (σ.upd r none) w:=(hok.drop r).locs hle (fun l o e=>Loc.upd_ne (fun q=>by rw[q,upd_ne _ _ hlr,hs] at e;cases e));refine hd1.claim (by rw[upd_ne _ _ hlr];exact hs) ⟨A,c,Loc.upd_eq,?_⟩ (fun b hb=>?_)
  · rcases h3 with ⟨rfl,rfl⟩ | ⟨q0,g,cur,rfl,q1,q2,q3,q4,q5,q6⟩
    · exact .inl ⟨by simp,rfl⟩
    · refine .inr ⟨q0,g,cur,rfl,q1,by simp;omega,q3,q4,fun row hm=>q5 row (List.mem_of_mem_take hm),fun i j p hc=>?_⟩;exact q6 i j p (by have:=(oZ (l:=0) (by simpa using hc)).1;simpa using this)
  · have hb':blk loc r=some b:=by
     have:blk (loc.upd lab (A,c)) lab=blk loc r:=by simp[blk,Loc.upd_eq,h1]
     rw[←this];exact hb
    have hf:=hok.free hσ hb'
    exact⟨hf.pr,hf.tb,hf.fz,fun l o e q=>by
     rw[iV (Loc.upd_ne (fun q=>by rw[q,upd_ne _ _ hlr,hs] at e;cases e))] at q;exact hf.ob l o e q⟩
def XD:AV→Option CT
 | .pv (.sc (.int k n))=>if n=0 then some (.int k) else none
 | .pv (.sc (.bool _))=>some .bool
 | .emp=>some (.asc 0)
 | _=>none
def rW:List AV→Option (List CT)
 | []=>some []
 |
  v :: r=>match XD v,rW r with
  | some c,some cs=>some (c :: cs)
  | _,_=>none
theorem Cb:∀ {vs:List AV} {cs:List CT},rW vs=some cs→cs.length=vs.length∧∀(j:Nat) c,cs[j]?=some c→∃v,vs[j]?=some v∧XD v=some c
 | [],cs,h=>by injection h with h;subst h;exact⟨rfl,fun j p h=>by simp at h⟩
 |
  v :: r,cs,h=>by
  unfold rW at h
  split at h
  · rename_i p qs h1 h2
    injection h with h
    subst h
    have ih:=Cb h2
    refine⟨by simp[ih.1],fun j p' hj=>?_⟩
    cases j with
    | zero=>simp at hj;subst hj;exact⟨v,rfl,h1⟩
    | succ j=>simpa using ih.2 j p' (by simpa using hj)
  · cases h
theorem XE {Ψ:Psi}{v:Value}{c:CT}(h1:v.oneCell'=true)(h:XD (Ns v)=some c):∃p,c.ok p∧Rep Ψ p v:=by
 unfold Ns at h;split at h
 · injection h with h;subst h;exact⟨.sl [],⟨[],rfl,by simp,by simp⟩,.nil (fun _=>rfl)⟩
 · rename_i hno
   unfold XD at h;split at h
   · rename_i k n heq
     injection heq with heq;injection heq with heq;subst heq;split at h
     · rename_i h0
       injection h with h;subst h h0;exact⟨_,⟨0,by cases k <;> rfl,rfl⟩,.sc rfl⟩
     · cases h
   · rename_i b heq
     injection heq with heq;injection heq with heq;subst heq;injection h with h;subst h;exact⟨_,⟨b,rfl⟩,.sc rfl⟩
   · rename_i heq;cases heq
   · cases h
theorem XF {t el:TypeId}{x y:Operand}{k by':Nat}{zs:List AV}{cts:List CT}{ik ik':IntKind}{n:Int}(ho:o.op= .makeSlice t x y)(hel:aQ P t=some (el,k,by'))(hz:dn P el=some zs)(hc:rW zs=some cts)(hx:e x=some (.pv (.sc (.int ik n))))(hy:e y=some (.pv (.sc (.int ik' n)))):
 DSound P o e σ lab (.chk (0≤n∧n≤100000) (.pv (.tr cts n.toNat))):=by
 intro fr Ψ loc w ρ he hok hlab hs hd;obtain⟨h0,hn⟩:0≤n∧n≤100000:=hd;obtain⟨q1,i,z,q2,q3,q4,q5,q6,q7,q8⟩:=fB hel;obtain⟨hx1,_⟩:=dS (he x _ hx);obtain⟨hy1,_⟩:=dS (he y _ hy);obtain⟨i',z',r1,r2,r3,rfl⟩:=qA hz;rw[q2] at r1;injection r1 with r1;subst r1;rw[q3] at r2;injection r2 with r2;subst r2;obtain⟨c1,c2⟩:=Cb hc;have hck:cts.length=k:=by rw[c1];simpa using q6
 have hb:(i.bytes:Int)* n≤281474976710656:=by
  rw[q5];have:(by':Int)* n≤1000 * 100000:=Int.mul_le_mul (by omega) hn h0 (by omega);omega
 have hrun:=run_make (P:=P) w t el i z q1 q2 q3 ik ik' n n h0 (Int.le_refl _) hb (by omega);have hsz:(madeCells z.cells (n.toNat * i.size)).size=n.toNat * k:=by rw[size_madeCells,q4]
 have hfree:=hok.new (Nat.le_refl w.heap.size);have hok1:=hok.chg (w':=w.alloc (.cells (madeCells z.cells (n.toNat * i.size)) el)) (Same.of (World.grownBy_alloc w _ none) (fun k e=>nomatch e));have alm:cts≠ []:=fun h=>by rw[h] at hck;simp at hck;omega
 refine⟨_,w.alloc (.cells (madeCells z.cells (n.toNat * i.size)) el),Ψ.addTb w.heap.size (cts,(madeCells z.cells (n.toNat * i.size)).size),loc,_,.inl ⟨by simp[execOp,ho,hx1,hy1,hrun];rfl,.pv (.tr (m:=(madeCells z.cells (n.toNat * i.size)).size) (by simp[Psi.addTb]) alm (Nat.zero_mod _) (Nat.le_refl _) (by rw[hsz,hck];omega))⟩,rfl,?_,hfree.le_tb _,fun _ _=>rfl,Same.of (World.grownBy_alloc w _ none) (fun k e=>nomatch e)⟩;refine hok1.typed hfree (Nat.le_refl _) (heap_alloc_new w _) (fun q ct hq hct=>?_);rw[hck] at hct;obtain⟨v,s1,s2⟩:=c2 _ ct hct;rw[List.getElem?_map,Array.getElem?_toList] at s1
 cases hv:z.cells[q % k]? with
 | none=>simp [hv] at s1
 |
  some u=>
  simp[hv] at s1;subst s1;have hu:=(Array.all_eq_true_iff_forall_mem.1 r3) u (Array.mem_of_getElem? hv);obtain⟨p,t1,t2⟩:=XE (Ψ:=Ψ) hu s2;refine⟨p,u,?_,t1,t2⟩;have hq':q < n.toNat * i.size:=by rw[size_madeCells] at hq;exact hq
  have hm:(madeCells z.cells (n.toNat * i.size))[q]?=some (z.cells[q % z.cells.size]!):=by simp[madeCells,hq']
  rw[hm,q6];simp[getElem!_def,hv]
end
section
variable {P : Program} {o : Oper} {e : Operand → Option AV} {σ : Sto} {lab : Nat}
theorem Dc {Ψ:Psi}{loc:Loc}{fr:Fr}{w:World}(hok:Ok fr Ψ loc σ w){ys:List (List PV)}{k:Nat}(hk:∀row∈ys,row.length=k)(h0:0 < k){x:Value}(h:Rep Ψ (.sl ys) x):
 (ys= []∧∃A c,x= .slice A 0 c)∨∃(ad:Addr) (c:Nat) (news:List Value),x= .slice (some ad) ys.length c∧0 < ys.length∧news.length=ys.length * k∧(∀(j:Nat) u,news[j]?=some u→w.cell? (ad.add j)=some u)∧(∀u∈news,u.oneCell'=true)∧∀i j p,cellOf ys i j=some p→∃y,news[i * k+j]?=some y∧Rep Ψ p y:=by
 cases h with
 | nil=>exact .inl ⟨rfl,_,_,rfl⟩
 |
  sl f hn hnc hk' hf hr=>
  rename_i b q c n k'
  rcases Nat.eq_zero_or_pos ys.length with hz | hz
  · rw[hz] at hn;subst hn;exact .inl ⟨List.eq_nil_of_length_eq_zero hz,_,_,rfl⟩
  · have hkk:k'=k:=(hk' ys[0] (List.getElem_mem hz)).symm.trans (hk _ (List.getElem_mem hz));subst hkk
    have hcell:∀i j,i < ys.length→j < k'→∃p,cellOf ys i j=some p:=fun i j hi hj=>by
     have hr:=hk' ys[i] (List.getElem_mem hi);exact⟨ys[i][j],by simp[cellOf,List.getElem?_eq_getElem hi,List.getElem?_eq_getElem (show j < ys[i].length by omega)]⟩
    have hget:∀(q2:Nat) u,((List.range (ys.length * k')).map fun q2=>f (q2 / k') (q2 % k'))[q2]?=some u→q2 < ys.length * k'∧u=f (q2 / k') (q2 % k'):=fun q2 u hu=>by
     rw[List.getElem?_map] at hu;by_cases hq:q2 < ys.length * k'
     · rw[List.getElem?_range hq] at hu;simp at hu;exact⟨hq,hu.symm⟩
     · rw[List.getElem?_eq_none (by simpa using hq)] at hu;simp at hu
    have hdiv:∀q2,q2 < ys.length * k'→q2 / k' < ys.length:=fun q2 hq=>(Nat.div_lt_iff_lt_mul h0).2 hq
    refine .inr ⟨⟨b,q,none⟩,c,(List.range (ys.length * k')).map fun q2=>f (q2 / k') (q2 % k'),by rw[hn],hz,by simp,fun j u hu=>?_,fun u hu=>?_,fun i j p hc=>?_⟩
    · obtain⟨hq,rfl⟩:=hget j u hu;obtain⟨p,hp⟩:=hcell (j / k') (j % k') (hdiv j hq) (Nat.mod_lt _ h0);have:=hok.fz _ _ _ (hf _ _ _ hp);rw[tH,←this];congr 3;rw[Nat.mul_comm];exact (Nat.div_add_mod j k').symm
    · obtain⟨j,hj⟩:=List.mem_iff_getElem?.1 hu;obtain⟨hq,rfl⟩:=hget j u hj;obtain⟨p,hp⟩:=hcell (j / k') (j % k') (hdiv j hq) (Nat.mod_lt _ h0);exact (hr _ _ _ hp).one
    · have hi:i < ys.length:=by
       apply Decidable.byContradiction;intro hi;simp[cellOf,List.getElem?_eq_none (Nat.le_of_not_lt hi)] at hc
      have hj:j < k':=by
       have hrow:=hk' ys[i] (List.getElem_mem hi);simp[cellOf,List.getElem?_eq_getElem hi] at hc;rw[←hrow];exact (List.getElem?_eq_some_iff.1 hc).1
      have hq:i * k'+j < ys.length * k':=by
       have:=Nat.mul_le_mul_right k' (show i+1≤ys.length by omega);rw[Nat.add_mul,Nat.one_mul] at this;omega
      refine⟨f i j,?_,hr _ _ _ hc⟩;rw[List.getElem?_map,List.getElem?_range hq];simp only[Option.map_some,Option.some.injEq];rw[Nat.mul_comm i k',Nat.mul_add_div h0,Nat.div_eq_of_lt hj,Nat.mul_add_mod,Nat.mod_eq_of_lt hj,Nat.add_zero]
theorem zq {fr:Fr}{Ψ:Psi}{loc:Loc}{w w':World}{base el k N:Nat}{v:Value}{dD:List Value}{els:List (List PV)}(hok:Ok fr Ψ loc σ w)(hlab:loc lab=none)(hs:σ lab=none)(hsame:Same (Free fr Ψ loc σ) w w')(hown:w'.ownsRow base el k v N dD)(hN:els.length=N)(h0:0 < N)(hb:∀g,v.ownBlock=some g→Free fr Ψ loc σ g)
 (hk:∀row∈els,row.length=k) (hr:∀i j p,cellOf els i j=some p→∃y,dD[i * k+j]?=some y∧Rep Ψ p y):
 ∃A c,v= .slice A N c∧N≤c∧Ok fr Ψ (loc.upd lab (A,c)) (σ.upd lab (some (.row el k els))) w':=by
 rcases hown.2 with ⟨_,hz⟩ | ⟨g,cap,cur,rfl,hbg,hh,hnc,hcm,hcs,htake⟩
 · omega
 · refine⟨some ⟨g,0,none⟩,cap,rfl,hnc,?_⟩;have hle:Loc.le loc (loc.upd lab (some ⟨g,0,none⟩,cap)):=Loc.le_upd hlab;have h1:=(hok.chg hsame).locs hle (fun l o e=>Loc.upd_ne (fun q=>by rw[q,hs] at e;cases e));refine h1.claim hs ⟨_,cap,Loc.upd_eq,.inr ⟨by omega,g,cur,rfl,hh,by omega,hcm,hcs,hk,fun i j p hc=>?_⟩⟩ (fun b hb'=>?_)
   · obtain⟨y,q1,q2⟩:=hr i j p hc;refine⟨y,?_,q2⟩;rw[←htake,List.getElem?_take] at q1;split at q1
     · rw[←Array.getElem?_toList];exact q1
     · cases q1
   · obtain⟨c',rfl⟩:∃c',cap=c'+1:=⟨cap - 1,by omega⟩;have:b=g:=by simp[blk,Loc.upd_eq] at hb';exact hb'.symm
     subst this;have hf:=hb b rfl
     exact⟨hf.pr,hf.tb,hf.fz,fun l o e q=>by
      rw[iV (Loc.upd_ne (fun q=>by rw[q,hs] at e;cases e))] at q;exact hf.ob l o e q⟩
theorem MP {xs ys:List (List PV)}{i j:Nat}{p:PV}(h:cellOf (xs++ys) i j=some p):(i < xs.length∧cellOf xs i j=some p)∨(xs.length≤i∧cellOf ys (i - xs.length) j=some p):=by
 unfold cellOf at h⊢;by_cases hi:i < xs.length
 · rw[List.getElem?_append_left hi] at h;exact .inl ⟨hi,h⟩
 · rw[List.getElem?_append_right (by omega)] at h;exact .inr ⟨by omega,h⟩
theorem zt {t el:TypeId}{k by':Nat}(hel:aQ P t=some (el,k,by'))(A B:Option Addr)(n c c':Nat)(hn:n≤c)(ty:TypeId)(w:World):(Builtin.append_ #[t,t] ty #[.slice A n c,.slice B 0 c']).run P w= .ok (.slice A n c) w:=by
 obtain⟨q1,ti,z,q2,q3,q4,_⟩:=fB hel;have hf:(Builtin.firstCells k 0 (.slice B 0 c')).run P w= .ok #[] w:=by cases B <;> simp[Builtin.firstCells,loadCells,loadCellsFrom]
 cases A <;> simp[Builtin.append_,run_underlying q1,Go.sizeOf,typeInfo,q2,q4,Builtin.lenOf,hn,hf,storeCells]
theorem abS {t el:TypeId}{x y:Operand}{k by' r n ty k':Nat}{els ys:List (List PV)}(ho:o.op= .call { callee:= .builtin .append,args:=#[x,y],argTypes:=#[t,t] })(hel:aQ P t=some (el,k,by'))(hx:e x=some (.own r n))(hσ:σ r=some (.row ty k' els))(hkk:k'=k∧ty=el)(hn:els.length=n)(hy:(∃p,e y=some p∧toP p=some (.sl ys))):
 DSound P o e σ lab ⟨n+ys.length≤1000000∧∀row∈ys,row.length=k,fun u=>u= .own lab (n+ys.length),[],true,[(r,none),(lab,some (.row ty k' (els++ys)))]⟩:=by
 intro fr Ψ loc w ρ he hok hlab hs hd;obtain⟨hmax,hrow⟩:n+ys.length≤1000000∧∀row∈ys,row.length=k:=hd;obtain⟨rfl,rfl⟩:=hkk;obtain⟨q1,ti,z,q2,q3,q4,q5,q6,q7,q8⟩:=fB hel;obtain⟨py,hy1,hy2⟩:=hy;have hy3:=rF (he y _ hy1) hy2;have hx1:=he x _ hx;generalize hq:ρ x=zx at hx1;generalize hqy:ρ y=zy at hy3
 have pG:∀r' w',(Builtin.append_ #[t,t] o.type #[zx,zy]).run P w= .ok r' w'→(execOp ρ o).run P w= .ok (.value r') w':=fun r' w' h=>by
  simp[execOp,ho,resolve,invoke,builtin,hq,hqy,h]
 obtain⟨A,c,h1,h2⟩:lU Ψ loc w r ty k' els:=hok.ob r _ hσ;have hlr:lab≠r:=fun q=>by rw[q,h1] at hlab;cases hlab
 have hok1:=hok.drop r;have hs1:(σ.upd r none) lab=none:=by rw[upd_ne _ _ hlr];exact hs
 have hbytes:(n+ys.length)* by'≤140737488355328:=by
  have:(n+ys.length)* by'≤1000000 * 1000:=Nat.mul_le_mul hmax q8
  omega
 have hmx:n+ys.length≤maxLen:=by unfold maxLen;omega
 cases hx1 with
 |
  own hl hnc=>
  rename_i c0 A0
  rw[h1] at hl;injection hl with hl;injection hl with hl1 hl2;subst hl1 hl2;rcases Dc hok hrow q7 hy3 with ⟨rfl,B,c',rfl⟩ | ⟨ad,c',news,rfl,hpos,n1,n2,n3,n4⟩
  ·
   refine⟨.slice A n c,w,Ψ,loc.upd lab (A,c),_,.inl ⟨pG _ _ (zt hel A B n c c' hnc o.type w),.own Loc.upd_eq hnc⟩,rfl,?_,.refl _,fun l hl=>Loc.upd_ne hl,Same.refl _ _⟩;show Ok fr Ψ _ ((σ.upd r none).upd lab _) w;rw[List.append_nil];have hle:Loc.le loc (loc.upd lab (A,c)):=Loc.le_upd hlab;have hd1:=hok1.locs hle (fun l o e=>Loc.upd_ne (fun q=>by rw[q,hs1] at e;cases e));refine hd1.claim hs1 ⟨A,c,Loc.upd_eq,h2⟩ (fun b hb=>?_)
   have hb':blk loc r=some b:=by
    have:blk (loc.upd lab (A,c)) lab=blk loc r:=by simp[blk,Loc.upd_eq,h1]
    rw[←this];exact hb
   have hf:=hok.free hσ hb'
   exact⟨hf.pr,hf.tb,hf.fz,fun l o e q=>by
    rw[iV (Loc.upd_ne (fun q=>by rw[q,hs1] at e;cases e))] at q;exact hf.ob l o e q⟩
  · rcases h2 with ⟨rfl,rfl⟩ | ⟨g0,g,cur,rfl,hh,hec,hcm,hcs,hrk,hcr⟩
    ·
     have hn0:n=0:=by simpa using hn.symm
     subst hn0
     have fin:∀v' w',(Builtin.append_ #[t,t] o.type #[.slice A 0 0,.slice (some ad) ys.length c']).run P w= .ok v' w'→w'.ownsRow w.heap.size ty k' v' ys.length news→w.grownBy w' none→
      ∃rr w' Ψ' loc' v,((execOp ρ o).run P w= .ok (.value rr) w'∧RepA Ψ' loc' v rr∨(execOp ρ o).run P w= .ok .skip w'∧o.dst=none)∧v= .own lab (0+ys.length)∧Ok fr Ψ' loc' ((σ.upd r none).upd lab (some (.row ty k' ([]++ys)))) w'∧Ψ.le Ψ'∧(∀l,l≠lab→loc' l=loc l)∧Same (fun k=>¬fr.pr k) w w':=fun v' w' hrun how hg=>by
      obtain⟨A',cap,rfl,hcap,hok2⟩:=zq hok1 hlab hs1 (Same.of hg (fun k e=>nomatch e)) how rfl hpos (fun g hg'=>(hok1.new (how.lt g hg').1)) hrow n4;exact⟨_,w',Ψ,_,_,.inl ⟨pG _ _ hrun,.own Loc.upd_eq hcap⟩,by rw[Nat.zero_add],by rw[List.nil_append];exact hok2,.refl _,fun l hl=>Loc.upd_ne hl,Same.of hg (fun k e=>nomatch e)⟩
     cases A with
     |
      none=>
      obtain⟨v',w',hrun,how,hg,_⟩:=run_append_own (P:=P) w w.heap.size t o.type ty ti z k' by' q1 q2 q3 q4 q5 q6 q7 (.slice none 0 0) 0 [] (World.ownsRow_nil _ _ _ _) ad ys.length c' news n1 n2 n3 hmx hbytes (Nat.le_refl _)
      rw[Nat.zero_add,List.nil_append] at how;exact fin v' w' hrun how hg
     |
      some ad0=>
      obtain⟨v',w',hrun,how,hg⟩:=run_append_arg_grows (P:=P) w t o.type ty ti z k' by' q1 q2 q3 q4 q5 q6 q7 ad0 0 0 [] (by simp) (fun j u h=>by simp at h) ad ys.length c' news n1 n2 (by omega) hmx hbytes
      rw[Nat.zero_add,List.nil_append] at how;exact fin v' w' hrun how hg
    ·
     obtain⟨c1,rfl⟩:∃c1,c=c1+1:=⟨c - 1,by omega⟩;have hb:=oG h1;have hf:=hok.free hσ hb
     have hlen:(cur.toList.take (n * k')).length=n * k':=by
      rw[List.length_take,Array.length_toList,hcs];exact Nat.min_eq_left (Nat.mul_le_mul_right _ hnc)
     have hrun:∃v' w',(Builtin.append_ #[t,t] o.type #[.slice (some ⟨g,0,none⟩) n (c1+1),.slice (some ad) ys.length c']).run P w= .ok v' w'∧w'.ownsRow 0 ty k' v' (n+ys.length) (cur.toList.take (n * k')++news)∧w.grownBy w' (some g)∧∀g',v'.ownBlock=some g'→g'=g∨w.heap.size≤g':=by
      by_cases hroom:n+ys.length≤c1+1
      · have hfit:n * ti.size+news.length≤cur.size:=by rw[n1,hcs,q4,←Nat.add_mul];exact Nat.mul_le_mul_right _ hroom
        have hr:=run_append_room (P:=P) w t o.type ty ti q1 q2 g n (c1+1) cur hh ad ys.length c' news (by rw[q4];exact n1) n2 n3 hroom hfit;refine⟨_,_,hr,⟨by rw[List.length_append,hlen,n1,Nat.add_mul],.inr ⟨g,c1+1,_,rfl,Nat.zero_le _,setRow_heap w g cur _ ty _ hh,hroom,hcm,?_,?_⟩⟩,⟨rfl,rfl,rfl,by simp[World.setRow],fun k _ hk=>setRow_other w g k _ (fun e=>hk (by rw[e]))⟩,fun g' e=> .inl (by injection e with e;exact e.symm)⟩
        · rw[q4] at hfit⊢;simp only[List.size_toArray,List.length_append,List.length_take,List.length_drop,Array.length_toList];omega
        · rw[q4];have h3:(n+ys.length)* k'=(cur.toList.take (n * k')++news).length:=by rw[List.length_append,hlen,n1,Nat.add_mul]
          rw[h3];exact List.take_left
      · obtain⟨v',w',hr,how,hg⟩:=run_append_arg_grows (P:=P) w t o.type ty ti z k' by' q1 q2 q3 q4 q5 q6 q7 ⟨g,0,none⟩ n (c1+1) (cur.toList.take (n * k')) hlen (fun j u hu=>by
         rw[tH,Nat.zero_add,jw hh];rw[List.getElem?_take] at hu;split at hu
         · rw[←Array.getElem?_toList];exact hu
         · cases hu) ad ys.length c' news n1 n2 (by omega) hmx hbytes
        exact⟨v',w',hr,⟨how.1,how.2.imp id (fun ⟨g,cap,cur,a,_,b⟩=>⟨g,cap,cur,a,Nat.zero_le _,b⟩)⟩,⟨hg.os,hg.tape,hg.output,hg.size,fun k hk _=>hg.block k hk (fun e=>nomatch e)⟩,fun g' e=> .inr (how.lt g' e).1⟩
     obtain⟨v',w',hrun,how,hg,hat⟩:=hrun;have hsame:Same (Free fr Ψ loc (σ.upd r none)) w w':=Same.of hg (fun k e=>by injection e with e;rw[←e];exact hf)
     obtain⟨A',cap,rfl,hcap,hok2⟩:=zq (els:=els++ys) hok1 hlab hs1 hsame how (by simp[hn]) (by omega) (fun g' hg'=>by
      rcases hat g' hg' with rfl | h
      · exact hf
      · exact hok1.new h) (fun row hm=>by
      rcases List.mem_append.1 hm with hm | hm
      · exact hrk row hm
      · exact hrow row hm) (fun i j p hc=>by
      rcases MP hc with ⟨hi,hc⟩ | ⟨hi,hc⟩
      · obtain⟨y',s1,s2⟩:=hcr i j p hc;refine⟨y',?_,s2⟩
        have hj:j < k':=by
         have hrr:=hrk els[i] (List.getElem_mem hi);simp[cellOf,List.getElem?_eq_getElem hi] at hc;rw[←hrr];exact (List.getElem?_eq_some_iff.1 hc).1
        have hlt:i * k'+j < n * k':=by
         have:=Nat.mul_le_mul_right k' (show i+1≤n by omega);rw[Nat.add_mul,Nat.one_mul] at this;omega
        rw[List.getElem?_append_left (by omega),List.getElem?_take,if_pos hlt,Array.getElem?_toList];exact s1
      · obtain⟨y',s1,s2⟩:=n4 _ j p hc;refine⟨y',?_,s2⟩;have hge:n * k'≤i * k':=Nat.mul_le_mul_right _ (by omega);rw[List.getElem?_append_right (by omega),hlen,←s1];congr 1;rw[hn,Nat.sub_mul];omega)
     exact⟨_,w',Ψ,_,_,.inl ⟨pG _ _ hrun,.own Loc.upd_eq hcap⟩,rfl,hok2,.refl _,fun l hl=>Loc.upd_ne hl,Same.of hg (fun k e=>by injection e with e;rw[←e];exact hf.pr)⟩
theorem Oo {t el:TypeId}{x y:Operand}{k by':Nat}{ys:List (List PV)}(ho:o.op= .call { callee:= .builtin .append,args:=#[x,y],argTypes:=#[t,t] })(hel:aQ P t=some (el,k,by'))(hx:e x=some .emp)(hy:(∃p,e y=some p∧toP p=some (.sl ys))):
 DSound P o e σ lab ⟨ys.length≤1000000∧∀row∈ys,row.length=k,fun u=>u= .own lab ys.length,[],true,[(lab,some (.row el k ys))]⟩:=by
 intro fr Ψ loc w ρ he hok hlab hs hd;obtain⟨hmax,hrow⟩:ys.length≤1000000∧∀row∈ys,row.length=k:=hd;obtain⟨q1,ti,z,q2,q3,q4,q5,q6,q7,q8⟩:=fB hel;obtain⟨py,hy1,hy2⟩:=hy;have hy3:=rF (he y _ hy1) hy2;have hx1:=he x _ hx;generalize hq:ρ x=zx at hx1;generalize hqy:ρ y=zy at hy3
 have pG:∀r' w',(Builtin.append_ #[t,t] o.type #[zx,zy]).run P w= .ok r' w'→(execOp ρ o).run P w= .ok (.value r') w':=fun r' w' h=>by
  simp[execOp,ho,resolve,invoke,builtin,hq,hqy,h]
 have hbytes:(0+ys.length)* by'≤140737488355328:=by
  have:(0+ys.length)* by'≤1000000 * 1000:=Nat.mul_le_mul (by omega) q8
  omega
 have hmx:0+ys.length≤maxLen:=by unfold maxLen;omega
 cases hx1 with
 |
  emp=>
  rename_i A
  rcases Dc hok hrow q7 hy3 with ⟨rfl,B,c',rfl⟩ | ⟨ad,c',news,rfl,hpos,n1,n2,n3,n4⟩
  · refine⟨.slice A 0 0,w,Ψ,loc.upd lab (A,0),_,.inl ⟨pG _ _ (zt hel A B 0 0 c' (Nat.le_refl _) o.type w),.own Loc.upd_eq (Nat.le_refl _)⟩,rfl,?_,.refl _,fun l hl=>Loc.upd_ne hl,Same.refl _ _⟩;show Ok fr Ψ _ (σ.upd lab _) w;refine (hok.locs (Loc.le_upd hlab) (fun l o e=>Loc.upd_ne (fun q=>by rw[q,hs] at e;cases e))).claim hs ⟨A,0,Loc.upd_eq,.inl ⟨rfl,rfl⟩⟩ (fun b hb=>?_)
    cases A <;> simp[blk,Loc.upd_eq] at hb
  · have fin:∀v' w',(Builtin.append_ #[t,t] o.type #[.slice A 0 0,.slice (some ad) ys.length c']).run P w= .ok v' w'→w'.ownsRow w.heap.size el k v' ys.length news→w.grownBy w' none→
     ∃rr w' Ψ' loc' v,((execOp ρ o).run P w= .ok (.value rr) w'∧RepA Ψ' loc' v rr∨(execOp ρ o).run P w= .ok .skip w'∧o.dst=none)∧v= .own lab ys.length∧Ok fr Ψ' loc' (σ.upd lab (some (.row el k ys))) w'∧Ψ.le Ψ'∧(∀l,l≠lab→loc' l=loc l)∧Same (fun k=>¬fr.pr k) w w':=fun v' w' hrun how hg=>by
     obtain⟨A',cap,rfl,hcap,hok2⟩:=zq hok hlab hs (Same.of hg (fun k e=>nomatch e)) how rfl hpos (fun g hg'=>(hok.new (how.lt g hg').1)) hrow n4;exact⟨_,w',Ψ,_,_,.inl ⟨pG _ _ hrun,.own Loc.upd_eq hcap⟩,rfl,hok2,.refl _,fun l hl=>Loc.upd_ne hl,Same.of hg (fun k e=>nomatch e)⟩
    cases A with
    |
     none=>
     obtain⟨v',w',hrun,how,hg,_⟩:=run_append_own (P:=P) w w.heap.size t o.type el ti z k by' q1 q2 q3 q4 q5 q6 q7 (.slice none 0 0) 0 [] (World.ownsRow_nil _ _ _ _) ad ys.length c' news n1 n2 n3 hmx hbytes (Nat.le_refl _)
     rw[Nat.zero_add,List.nil_append] at how;exact fin v' w' hrun how hg
    |
     some ad0=>
     obtain⟨v',w',hrun,how,hg⟩:=run_append_arg_grows (P:=P) w t o.type el ti z k by' q1 q2 q3 q4 q5 q6 q7 ad0 0 0 [] (by simp) (fun j u h=>by simp at h) ad ys.length c' news n1 n2 (by omega) hmx hbytes
     rw[Nat.zero_add,List.nil_append] at how;exact fin v' w' hrun how hg
theorem Yd {t el:TypeId}{x y:Operand}{k by':Nat}{ys:List (List PV)}(ho:o.op= .call { callee:= .builtin .append,args:=#[x,y],argTypes:=#[t,t] })(hel:aQ P t=some (el,k,by'))(hx:e x=some .emp)(hy:(∃p,e y=some p∧toP p=some (.sl ys))):
 DSound P o e σ lab (.chk (ys.length≤1000000∧∀row∈ys,row.length=k) (.pv (.sl ys))):=by
 intro fr Ψ loc w ρ he hok hlab hs hd;obtain⟨r,w',Ψ',loc',v,hrun,hout,hok',hle,hl,hsame⟩:=Oo ho hel hx hy fr Ψ loc w ρ he hok hlab hs hd;have hv:v= .own lab ys.length:=hout;subst hv;have hok2:Ok fr Ψ' loc' (σ.upd lab (some (.row el k ys))) w':=hok';have hσ:(σ.upd lab (some (.row el k ys))) lab=some (.row el k ys):=by simp[Sto.upd]
 have hback:(σ.upd lab (some (.row el k ys))).upd lab none=σ:=by
  funext l;by_cases h:l=lab
  · subst h;simp[Sto.upd,hs]
  · simp[Sto.upd,h]
 have hdrop:=hok2.drop lab;rcases hrun with ⟨hrun,hrep⟩ | ⟨hrun,hdst⟩
 · obtain⟨A,c,h1,h2⟩:=hok2.ob lab _ hσ
   cases hrep with
   |
    own hl2 hn=>
    rw[h1] at hl2;injection hl2 with hl2;injection hl2 with e1 e2;subst e1 e2;rcases h2 with ⟨rfl,rfl⟩ | ⟨h0,g,cur,rfl,hh,hec,hcm,hcs,hrk,hcr⟩
    · rw[hback] at hdrop;have hn0:([]:List (List PV)).length=0:=rfl;exact⟨_,w',Ψ',loc',_,.inl ⟨hrun,.pv (.nil fun _=>rfl)⟩,rfl,hdrop,hle,hl,hsame⟩
    · obtain⟨c',rfl⟩:∃c',c=c'+1:=⟨c - 1,by omega⟩;have hb:=oG h1;have hf:=hok2.free hσ hb;have hle2:=hf.le_fz cur;have hfz:=hdrop.freeze hf hh;rw[hback] at hfz
      have hF:∀i' j,∃y,∀p,cellOf ys i' j=some p→cur[i' * k+j]?=some y∧Rep Ψ' p y:=fun i' j=>by
       cases hc:cellOf ys i' j with
       | none=>exact ⟨undef,fun p h=>by cases h⟩
       |
        some p0=>
        obtain⟨y,q1,q2⟩:=hcr i' j p0 hc;exact⟨y,fun p h=>by injection h with h;subst h;exact⟨q1,q2⟩⟩
      refine⟨_,w',Ψ'.addFz g cur,loc',_,.inl ⟨hrun,.pv (.sl (k:=k) (fun a b=>(hF a b).choose) rfl hn hrk (fun i' j p hc=>?_) (fun i' j p hc=>((hF i' j).choose_spec p hc).2.mono hle2))⟩,rfl,hfz,hle.trans hle2,hl,hsame⟩;show (if g=g then cur[0+(i' * k+j)]? else _)=_;rw[if_pos rfl,Nat.zero_add];exact ((hF i' j).choose_spec p hc).1
 · rw[hback] at hdrop;exact⟨r,w',Ψ',loc',_,.inr ⟨hrun,hdst⟩,rfl,hdrop,hle,hl,hsame⟩
theorem Yc {t el:TypeId}{x y:Operand}{k by' n:Nat}{cts:List CT}(ho:o.op= .call { callee:= .builtin .append,args:=#[x,y],argTypes:=#[t,t] })(hel:aQ P t=some (el,k,by'))(hx:e x=some .emp)(hy:e y=some (.pv (.tr cts n)))(hk:cts.length=k):
 DSound P o e σ lab (.chk (n≤1000000) (.pv (.tr cts n))):=by
 intro fr Ψ loc w ρ he hok hlab hs hd;have hmax:n≤1000000:=hd;obtain⟨q1,ti,z,q2,q3,q4,q5,q6,q7,q8⟩:=fB hel;have hx1:=he x _ hx;have hy1:=he y _ hy;generalize hq:ρ x=zx at hx1;generalize hqy:ρ y=zy at hy1
 have pG:∀r' w',(Builtin.append_ #[t,t] o.type #[zx,zy]).run P w= .ok r' w'→(execOp ρ o).run P w= .ok (.value r') w':=fun r' w' h=>by
  simp[execOp,ho,resolve,invoke,builtin,hq,hqy,h]
 have hbytes:(0+n)* by'≤140737488355328:=by
  have:(0+n)* by'≤1000000 * 1000:=Nat.mul_le_mul (by omega) q8
  omega
 have hmx:0+n≤maxLen:=by unfold maxLen;omega
 cases hx1 with
 |
  emp=>
  rename_i A
  have zero:∀B c',zy= .slice B 0 c'→n=0→∃rr w' Ψ' loc' v,((execOp ρ o).run P w= .ok (.value rr) w'∧RepA Ψ' loc' v rr∨(execOp ρ o).run P w= .ok .skip w'∧o.dst=none)∧v= .pv (.tr cts n)∧Ok fr Ψ' loc' σ w'∧Ψ.le Ψ'∧(∀l,l≠lab→loc' l=loc l)∧Same (fun k=>¬fr.pr k) w w':=fun B c' hz hn=>by
   subst hn;exact⟨.slice A 0 0,w,Ψ,loc,_,.inl ⟨pG _ _ (by rw[hz];exact zt hel A B 0 0 c' (Nat.le_refl _) o.type w),.pv .tr0⟩,rfl,hok,.refl _,fun _ _=>rfl,Same.refl _ _⟩
  cases hy1 with
  |
   pv hy1=>cases hy1 with
   | tr0=>exact zero _ _ rfl rfl
   |
    tr ht h0 hm hnc hle=>
    rename_i b q c m
    rcases Nat.eq_zero_or_pos n with hz | hpos
    · subst hz;exact zero _ _ rfl rfl
    · obtain⟨arr,ty,hh,hsz,hall⟩:=hok.tb _ _ _ ht;have hfit:q+n * k≤arr.size:=by rw[←hk];omega
      have n1:((arr.toList.drop q).take (n * k)).length=n * k:=by simp;omega
      have hg:∀(j:Nat) u,((arr.toList.drop q).take (n * k))[j]?=some u→j < n * k∧arr[q+j]?=some u:=fun j u hu=>by
       rw[List.getElem?_take] at hu;split at hu
       · rename_i hj
         rw[List.getElem?_drop,Array.getElem?_toList] at hu;exact⟨hj,hu⟩
       · cases hu
      have hty:∀j,j < n * k→∀ct,cts[j % k]?=some ct→∃p x,arr[q+j]?=some x∧ct.ok p∧Rep Ψ p x:=fun j hj ct hct=>by
       refine hall (q+j) ct (by rw[←hk] at hj;omega) ?_;rw[hk,Nat.add_mod,←hk,hm,Nat.zero_add,Nat.mod_mod,hk];exact hct
      have n3:∀u∈(arr.toList.drop q).take (n * k),u.oneCell'=true:=fun u hu=>by
       obtain⟨j,hj⟩:=List.mem_iff_getElem?.1 hu;obtain⟨hj1,hj2⟩:=hg j u hj;have hlt:j % k < cts.length:=by rw[hk];exact Nat.mod_lt _ q7
       obtain⟨p,x,r1,_,r3⟩:=hty j hj1 _ (List.getElem?_eq_getElem hlt);rw[hj2] at r1;injection r1 with r1;rw[r1];exact r3.one
      have n2:∀(j:Nat) u,((arr.toList.drop q).take (n * k))[j]?=some u→w.cell? ((⟨b,q,none⟩:Addr).add j)=some u:=fun j u hu=>by
       rw[tH,jw hh];exact (hg j u hu).2
      have fin:∀v' w',(Builtin.append_ #[t,t] o.type #[.slice A 0 0,.slice (some ⟨b,q,none⟩) n c]).run P w= .ok v' w'→w'.ownsRow w.heap.size el k v' n ((arr.toList.drop q).take (n * k))→w.grownBy w' none→
       ∃rr w' Ψ' loc' v,((execOp ρ o).run P w= .ok (.value rr) w'∧RepA Ψ' loc' v rr∨(execOp ρ o).run P w= .ok .skip w'∧o.dst=none)∧v= .pv (.tr cts n)∧Ok fr Ψ' loc' σ w'∧Ψ.le Ψ'∧(∀l,l≠lab→loc' l=loc l)∧Same (fun k=>¬fr.pr k) w w':=fun v' w' hrun how hg'=>by
       have alX:=how.2;rcases alX with ⟨_,hz⟩ | ⟨g,cap,cur,rfl,hbg,hh',hnc',hcm,hcs,htake⟩
       · omega
       · have hfr:=hok.new hbg;have hok1:=hok.chg (Same.of (K:=Free fr Ψ loc σ) hg' (fun k e=>nomatch e));have hle2:=hfr.le_tb (cts,n * k);refine⟨_,w',Ψ.addTb g (cts,n * k),loc,_,.inl ⟨pG _ _ hrun,.pv (.tr (m:=n * k) (by simp[Psi.addTb]) h0 (Nat.zero_mod _) hnc' (by rw[hk];omega))⟩,rfl,?_,hle2,fun _ _=>rfl,Same.of hg' (fun k e=>nomatch e)⟩;refine hok1.typed hfr (by rw[hcs];exact Nat.mul_le_mul_right _ hnc') hh' (fun o2 ct ho2 hct=>?_);rw[hk] at hct;obtain⟨p,x,r1,r2,r3⟩:=hty o2 ho2 ct hct;refine⟨p,x,?_,r2,r3⟩
         have h4:((arr.toList.drop q).take (n * k))[o2]?=some x:=by
          rw[List.getElem?_take,if_pos ho2,List.getElem?_drop,Array.getElem?_toList];exact r1
         rw[←htake,List.getElem?_take,if_pos ho2,Array.getElem?_toList] at h4;exact h4
      cases A with
      |
       none=>
       obtain⟨v',w',hrun,how,hg',_⟩:=run_append_own (P:=P) w w.heap.size t o.type el ti z k by' q1 q2 q3 q4 q5 q6 q7 (.slice none 0 0) 0 [] (World.ownsRow_nil _ _ _ _) ⟨b,q,none⟩ n c _ n1 n2 n3 hmx hbytes (Nat.le_refl _)
       rw[Nat.zero_add,List.nil_append] at how;exact fin v' w' hrun how hg'
      |
       some ad0=>
       obtain⟨v',w',hrun,how,hg'⟩:=run_append_arg_grows (P:=P) w t o.type el ti z k by' q1 q2 q3 q4 q5 q6 q7 ad0 0 0 [] (by simp) (fun j u h=>by simp at h) ⟨b,q,none⟩ n c _ n1 n2 (by omega) hmx hbytes
       rw[Nat.zero_add,List.nil_append] at how;exact fin v' w' hrun how hg'
end
