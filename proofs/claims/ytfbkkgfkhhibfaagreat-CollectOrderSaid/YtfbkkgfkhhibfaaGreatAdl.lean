/- Words. -/
import Derived.Test.YtfbkkgfkhhibfaaGreatAmd
import Derived.Deep.MidRow
import Derived.Great.BuildSlice
set_option linter.unusedVariables false
set_option linter.unusedSimpArgs false
namespace AM
open Go Go.RowKit
def Ns:Value→AV
 | .slice none 0 0=> .emp
 | v=> .pv (.sc v)
def ofV:Value→Option AV
 | .agg cs=>if cs.all (·.oneCell') then some (.agg (cs.toList.map Ns)) else none
 | .tuple _=>none
 | v=>some (Ns v)
def lay (P:Program)(t:TypeId):Option (Bool×Nat):=
 match P.underlying t,P.info? t with
 | some d,some i=>some (d.isRow,i.size)
 | _,_=>none
def aQ (P:Program)(t:TypeId):Option (TypeId×Nat×Nat):=
 match P.underlying t with
 | some (.slice e)=>(P.info? e).bind fun i=>i.zero.bind fun z=>if z.cells.size=i.size∧0 < i.size∧i.bytes≤1000 then some (e,i.size,i.bytes) else none
 | _=>none
def aU (P:Program)(t:TypeId)(k:Nat):Option Nat:=
 match P.underlying t with
 | some (.struct fs)=>(fs[k]?).bind fun f=>(P.info? f.type).bind fun i=>if i.size=0 then none else some f.offset
 | _=>none
def dn (P:Program)(t:TypeId):Option (List AV):=
 (P.info? t).bind fun i=>i.zero.bind fun z=>if z.cells.all (·.oneCell') then some (z.cells.toList.map Ns) else none
def Ec (P:Program)(t:TypeId):Option IntKind:=
 match P.underlying t with
 | some (.int k)=>some k
 | _=>none
def Hu (P:Program)(t:TypeId):Bool:=
 match P.underlying t with
 | some .bool=>true
 | _=>false
structure DO where
 ok:Prop
 out:AV→Prop
 rd:List Nat
 det:Bool
 upd:List (Nat×Option Obj)
def DO.val (v:AV):DO:=⟨True,fun u=>u=v,[],true,[]⟩
def DO.chk (p:Prop)(v:AV):DO:=⟨p,fun u=>u=v,[],true,[]⟩
def Sto.upds (σ:Sto):List (Nat×Option Obj)→Sto
 | []=>σ
 | (l,o) :: r=>Sto.upds (σ.upd l o) r
def oU:BinOp→Value→Value→Option (Prop×Value)
 | .add,.int k a,.int k' b=>if k=k' then some (True,.int k (k.wrap (a+b))) else none
 | .sub,.int k a,.int k' b=>if k=k' then some (True,.int k (k.wrap (a - b))) else none
 | .mul,.int k a,.int k' b=>if k=k' then some (True,.int k (k.wrap (a * b))) else none
 | .quo,.int k a,.int k' b=>if k=k' then some (b≠0,.int k (k.wrap (a.tdiv b))) else none
 | .rem,.int k a,.int k' b=>if k=k' then some (b≠0,.int k (a.tmod b)) else none
 | .eql,.int k a,.int k' b=>if k=k' then some (True,.bool (a==b)) else none
 | .neq,.int k a,.int k' b=>if k=k' then some (True,.bool (a !=b)) else none
 | .lss,.int k a,.int k' b=>if k=k' then some (True,.bool (decide (a < b))) else none
 | .leq,.int k a,.int k' b=>if k=k' then some (True,.bool (decide (a≤b))) else none
 | .gtr,.int k a,.int k' b=>if k=k' then some (True,.bool (decide (a > b))) else none
 | .geq,.int k a,.int k' b=>if k=k' then some (True,.bool (decide (a≥b))) else none
 | .eql,.string a,.string b=>some (True,.bool (a.toList==b.toList))
 | .neq,.string a,.string b=>some (True,.bool (!(a.toList==b.toList)))
 | _,_,_=>none
def TF (P:Program)(t:TypeId):BinOp→Value→Value→Option Value
 | .eql,.bool a,.bool b=>if Hu P t=true then some (.bool (a==b)) else none
 | .neq,.bool a,.bool b=>if Hu P t=true then some (.bool (!(a==b))) else none
 | _,_,_=>none
def DSound (P:Program)(o:Oper)(e:Operand→Option AV)(σ:Sto)(lab:Nat)(d:DO):Prop:=
 ∀(fr:Fr) (Ψ:Psi) (loc:Loc) (w:World) (ρ:Operand→Value),(∀x v,e x=some v→RepA Ψ loc v (ρ x))→Ok fr Ψ loc σ w→loc lab=none→σ lab=none→d.ok→
  ∃r w' Ψ' loc' v,((execOp ρ o).run P w= .ok (.value r) w'∧RepA Ψ' loc' v r∨(execOp ρ o).run P w= .ok .skip w'∧o.dst=none)∧d.out v∧Ok fr Ψ' loc' (σ.upds d.upd) w'∧Ψ.le Ψ'∧(∀l,l≠lab→loc' l=loc l)∧Same (fun k=>¬fr.pr k) w w'
section
variable {P : Program} {o : Oper} {e : Operand → Option AV} {σ : Sto} {lab : Nat}
theorem DSound.pure {d:DO}(hu:d.upd= [])(h:∀(Ψ:Psi) (loc:Loc) (fr:Fr) (w:World) (ρ:Operand→Value),(∀x v,e x=some v→RepA Ψ loc v (ρ x))→Ok fr Ψ loc σ w→d.ok→∃r v,(execOp ρ o).run P w= .ok (.value r) w∧RepA Ψ loc v r∧d.out v):DSound P o e σ lab d:=by
 intro fr Ψ loc w ρ he hok hl hσ hd;obtain⟨r,v,h1,h2,h3⟩:=h Ψ loc fr w ρ he hok hd;refine⟨r,w,Ψ,loc,v,.inl ⟨h1,h2⟩,h3,?_,.refl _,fun _ _=>rfl,Same.refl _ _⟩;rw[hu];exact hok
theorem Oq {x:Operand}{v:AV}(ho:o.op= .move x∨o.op= .assign x)(hx:e x=some v):DSound P o e σ lab (.val v):=
 .pure rfl fun Ψ loc fr w ρ he hok hd=>⟨ρ x,v,by rcases ho with ho | ho <;> simp[execOp,ho],he x v hx,rfl⟩
theorem Ye {c a b:Operand}{t:Bool}{v:AV}(ho:o.op= .pick c a b)(hc:e c=some (.pv (.sc (.bool t))))(hx:(if t=true then e a else e b)=some v):DSound P o e σ lab (.val v):=
 .pure rfl fun Ψ loc fr w ρ he hok hd=>by
  have h1:=he c _ hc
  cases h1 with
  |
   pv h1=>
   generalize hr:ρ c=y at h1
   cases h1 with
   |
    sc h2=>
    cases t
    · exact⟨ρ b,v,by simp[execOp,ho,hr,asBool],he b v (by simpa using hx),rfl⟩
    · exact⟨ρ a,v,by simp[execOp,ho,hr,asBool],he a v (by simpa using hx),rfl⟩
theorem dS {Ψ:Psi}{loc:Loc}{v x:Value}(h:RepA Ψ loc (.pv (.sc v)) x):x=v∧v.oneCell'=true:=by
 cases h with
 |
  pv h=>cases h with
  | sc h=>exact ⟨rfl,h⟩
theorem wM {Ψ:Psi}{loc:Loc}{v:Value}(h:v.oneCell'=true):RepA Ψ loc (Ns v) v:=by
 unfold Ns;split
 · exact .emp
 · exact .pv (.sc h)
theorem Ip {i:TypeInfo}{t:TypeId}{d:TypeDesc}(h1:P.underlying t=some d)(w:World):(isAgg t).run P w= .ok d.isRow w:=by
 unfold isAgg;rw[Sem.run_bind,run_underlying h1 w]
 cases d <;> simp[TypeDesc.isRow]
theorem tC {t:TypeId}{b:Bool}{n:Nat}(h:lay P t=some (b,n)):∃d i,P.underlying t=some d∧P.info? t=some i∧d.isRow=b∧i.size=n:=by
 unfold lay at h;split at h
 · rename_i d i h1 h2
   injection h with h;injection h with h3 h4;exact⟨d,i,h1,h2,h3,h4⟩
 · cases h
theorem fB {t el:TypeId}{s b:Nat}(h:aQ P t=some (el,s,b)):P.underlying t=some (.slice el)∧∃i z,P.info? el=some i∧i.zero=some z∧i.size=s∧i.bytes=b∧z.cells.size=s∧0 < s∧b≤1000:=by
 unfold aQ at h;split at h
 · rename_i e' h1
   cases h2:P.info? e' with
   | none=>simp [h2] at h
   |
    some i=>
    cases h3:i.zero with
    | none=>simp [h2,h3] at h
    |
     some z=>
     simp only[h2,h3,Option.bind_some] at h;split at h
     · rename_i h4
       injection h with h;injection h with h5 h6;injection h6 with h6 h7;subst h5 h6 h7;exact⟨h1,i,z,h2,h3,rfl,rfl,h4.1,h4.2.1,h4.2.2⟩
     · cases h
 · cases h
theorem QC {t:TypeId}{k off:Nat}(h:aU P t k=some off):∃fs f i,P.underlying t=some (.struct fs)∧fs[k]?=some f∧P.info? f.type=some i∧i.size≠0∧f.offset=off:=by
 unfold aU at h;split at h
 · rename_i fs h1
   cases h2:fs[k]? with
   | none=>simp [h2] at h
   |
    some f=>
    cases h3:P.info? f.type with
    | none=>simp [h2,h3] at h
    |
     some i=>
     simp only[h2,h3,Option.bind_some] at h;split at h
     · cases h
     · rename_i h4
       injection h with h;exact⟨fs,f,i,h1,h2,h3,h4,h⟩
 · cases h
theorem qA {t:TypeId}{cs:List AV}(h:dn P t=some cs):∃i z,P.info? t=some i∧i.zero=some z∧z.cells.all (·.oneCell')=true∧cs=z.cells.toList.map Ns:=by
 unfold dn at h
 cases h2:P.info? t with
 | none=>simp [h2] at h
 |
  some i=>
  cases h3:i.zero with
  | none=>simp [h2,h3] at h
  |
   some z=>
   simp only[h2,h3,Option.bind_some] at h;split at h
   · rename_i h4
     injection h with h;exact⟨i,z,rfl,h3,h4,h.symm⟩
   · cases h
theorem CZ {t:TypeId}{k:IntKind}(h:Ec P t=some k):P.underlying t=some (.int k):=by
 unfold Ec at h;split at h
 · rename_i k' h1;injection h with h;rw[←h];exact h1
 · cases h
theorem tH (b o n:Nat):(⟨b,o,none⟩:Addr).add n=⟨b,o+n,none⟩:=by cases n <;> simp[Addr.add]
theorem Jh {x:Operand}{v:AV}(ho:o.op= .nilCheck x)(hx:e x=some v)(hv:(match v with | .ptr .. | .rp .. | .fp .. | .tp .. =>True | _=>False)):DSound P o e σ lab (.val v):=
 .pure rfl fun Ψ loc fr w ρ he hok hd=>by
  have h:=he x v hx
  have:∃ad,ρ x= .pointer (some ad):=by
   generalize ρ x=y at h
   cases h <;> first | exact⟨_,rfl⟩ | cases hv
  obtain⟨ad,hr⟩:=this
  exact⟨ρ x,v,by simp[execOp,ho,hr],h,rfl⟩
theorem abT {op:BinOp}{t t':TypeId}{x y:Operand}{a b v:Value}{p:Prop}(ho:o.op= .binOp op t x y t')(hx:e x=some (.pv (.sc a)))(hy:e y=some (.pv (.sc b)))(hv:oU op a b=some (p,v)):DSound P o e σ lab (.chk p (.pv (.sc v))):=
 .pure rfl fun Ψ loc fr w ρ he hok hd=>by
  obtain⟨h1,_⟩:=dS (he x _ hx)
  obtain⟨h2,_⟩:=dS (he y _ hy)
  have hv1:v.oneCell'=true∧(execOp ρ o).run P w= .ok (.value v) w:=by
   simp only[execOp,ho,h1,h2]
   have hp:p:=hd
   unfold oU at hv
   split at hv <;> first
    | (cases hv;done)
    | (
     split at hv
     · rename_i hk
       injection hv with hv
       injection hv with hv1 hv2
       subst hk hv1 hv2
       first
        | (refine⟨rfl,?_⟩;simp[eqGuard,binOp,Op.intArith,Op.intCmp,Op.intDiv];done)
        | (refine⟨rfl,?_⟩;have hp':=hp;simp[eqGuard,binOp,Op.intArith,Op.intCmp,Op.intDiv,hp'];done)
     · cases hv)
    | (
     injection hv with hv
     injection hv with hv1 hv2
     subst hv1 hv2
     refine⟨rfl,?_⟩
     simp[eqGuard,binOp,Op.stringOp])
  exact⟨v,_,hv1.2,.pv (.sc hv1.1),rfl⟩
theorem Jm {t:TypeId}(h:P.underlying t=some .bool)(a b:Bool)(w:World):(Op.equal t (.bool a) (.bool b)).run P w= .ok (a==b) w:=by
 show (Op.equalIn (9999+1) t (.bool a) (.bool b)).run P w=_;unfold Op.equalIn;rw[Sem.run_bind,run_underlying h];rfl
theorem Yf {op:BinOp}{t t':TypeId}{x y:Operand}{a b v:Value}(ho:o.op= .binOp op t x y t')(hx:e x=some (.pv (.sc a)))(hy:e y=some (.pv (.sc b)))(hv:TF P t op a b=some v):DSound P o e σ lab (.val (.pv (.sc v))):=
 .pure rfl fun Ψ loc fr w ρ he hok hd=>by
  obtain⟨h1,_⟩:=dS (he x _ hx)
  obtain⟨h2,_⟩:=dS (he y _ hy)
  have hv1:v.oneCell'=true∧(execOp ρ o).run P w= .ok (.value v) w:=by
   simp only[execOp,ho,h1,h2]
   unfold TF at hv
   split at hv <;> first
    | (cases hv;done)
    | (
     split at hv
     · rename_i hk
       injection hv with hv
       subst hv
       refine⟨rfl,?_⟩
       have hk2:P.underlying t=some .bool:=by
        unfold Hu at hk
        split at hk
        · assumption
        · cases hk
       simp[eqGuard,binOp,Jm hk2]
     · cases hv)
  exact⟨v,_,hv1.2,.pv (.sc hv1.1),rfl⟩
theorem abU {t:TypeId}{x:Operand}{b:Bool}(ho:o.op= .unOp .not t x)(hx:e x=some (.pv (.sc (.bool b)))):DSound P o e σ lab (.val (.pv (.sc (.bool (!b))))):=
 .pure rfl fun Ψ loc fr w ρ he hok hd=>by
  obtain⟨h1,_⟩:=dS (he x _ hx)
  exact⟨.bool (!b),_,by simp[execOp,ho,h1,Op.unary],.pv (.sc rfl),rfl⟩
theorem abV {t:TypeId}{x:Operand}{k:IntKind}{n:Int}(ho:o.op= .unOp .neg t x)(hx:e x=some (.pv (.sc (.int k n)))):DSound P o e σ lab (.val (.pv (.sc (.int k (k.wrap (0 - n)))))):=
 .pure rfl fun Ψ loc fr w ρ he hok hd=>by
  obtain⟨h1,_⟩:=dS (he x _ hx)
  exact⟨.int k (k.wrap (0 - n)),_,by simp[execOp,ho,h1,Op.unary,Op.intArith],.pv (.sc rfl),rfl⟩
theorem Yg {s t:TypeId}{x:Operand}{k k':IntKind}{n:Int}{d:TypeDesc}(ho:o.op= .convert s t x)(hs:P.underlying s=some d)(ht:Ec P t=some k')(hx:e x=some (.pv (.sc (.int k n)))):DSound P o e σ lab (.val (.pv (.sc (.int k' (k'.wrap n))))):=
 .pure rfl fun Ψ loc fr w ρ he hok hd=>by
  obtain⟨h1,_⟩:=dS (he x _ hx)
  exact⟨.int k' (k'.wrap n),_,by simp[execOp,ho,h1,convert,run_underlying hs,run_underlying (CZ ht),Conv.intToInt],.pv (.sc rfl),rfl⟩
theorem ML {x:Operand}{i:Nat}{vs:List AV}{v:AV}(ho:o.op= .extract x i)(hx:e x=some (.tup vs))(hv:vs[i]?=some v):DSound P o e σ lab (.val v):=
 .pure rfl fun Ψ loc fr w ρ he hok hd=>by
  have h:=he x _ hx
  generalize hq:ρ x=y at h
  cases h with
  |
   tup f hs hx hr=>
   have hi:=(List.getElem?_eq_some_iff.1 hv).1
   exact⟨f i,v,by simp[execOp,ho,hq,Instr.extract,hx i hi],hr i v hv,rfl⟩
theorem Fg {t:TypeId}{x:Operand}{k off:Nat}{v v':AV}(ho:o.op= .fieldAddr t x k)(hf:aU P t k=some off)(hx:e x=some v)
 (hv:(match v with | .ptr l o=>some (AV.ptr l (o+off)) | .rp r k i o=>some (.rp r k i (o+off)) | .fp row o=>some (.fp row (o+off)) | .tp cts j=>some (.tp cts (j+off)) | _=>none)=some v'):DSound P o e σ lab (.val v'):=
 .pure rfl fun Ψ loc fr w ρ he hok hd=>by
  obtain⟨fs,f,i,h1,h2,h3,h4,h5⟩:=QC hf
  have h:=he x v hx
  have run:∀b q,ρ x= .pointer (some ⟨b,q,none⟩)→(execOp ρ o).run P w= .ok (.value (.pointer (some ⟨b,q+off,none⟩))) w:=fun b q hr=>by
   simp[execOp,ho,hr,Instr.fieldAt,run_underlying h1,h2,Instr.sureAddr,fieldPlace,Go.sizeOf,typeInfo,h3,h4,tH,h5]
  generalize hq:ρ x=y at h
  cases h with
  | ptr hl=>injection hv with hv;subst hv;exact⟨_,_,run _ _ hq,.ptr hl,rfl⟩
  | rp hl=>injection hv with hv;subst hv;exact⟨_,_,run _ _ hq,by rw[Nat.add_assoc];exact .rp hl,rfl⟩
  | fp g hf hr=>injection hv with hv;subst hv;exact⟨_,_,run _ _ hq,by rw[Nat.add_assoc];exact .fp g hf hr,rfl⟩
  | tp ht h0 h6 hm=>injection hv with hv;subst hv;exact⟨_,_,run _ _ hq,by rw[Nat.add_assoc];exact .tp ht h0 h6 hm,rfl⟩
  | _=>cases hv
end
def fA:AV→Bool
 | .agg _ | .tup _=>false
 | _=>true
def aW:AV→List AV
 | .agg cs=>cs
 | v=> [v]
def fF {α:Type}(cs:List α)(off:Nat)(vs:List α):List α:=cs.take off++vs++cs.drop (off+vs.length)
theorem kH {α:Type}{cs vs:List α}{off:Nat}(h:off+vs.length≤cs.length):(fF cs off vs).length=cs.length:=by
 simp only[fF,List.length_append,List.length_take,List.length_drop];omega
theorem iD {α:Type}{cs vs:List α}{off:Nat}(h:off+vs.length≤cs.length)(j:Nat):(fF cs off vs)[j]?=if off≤j∧j < off+vs.length then vs[j - off]? else cs[j]?:=by
 unfold fF;rw[List.append_assoc];have ht:(cs.take off).length=off:=by rw[List.length_take];omega
 by_cases h1:j < off
 · rw[List.getElem?_append_left (by omega),if_neg (by omega),List.getElem?_take,if_pos h1]
 · rw[List.getElem?_append_right (by omega),ht];by_cases h2:j < off+vs.length
   · rw[if_pos ⟨by omega,h2⟩,List.getElem?_append_left (by omega)]
   · rw[if_neg (by omega),List.getElem?_append_right (by omega),List.getElem?_drop];congr 1;omega
def uh (g:Bool)(k:Nat)(cs:List AV)(off:Nat):Option AV:=
 if g=true then (if off+k≤cs.length then some (.agg ((cs.drop off).take k)) else none) else cs[off]?
theorem RepA.one {Ψ:Psi}{loc:Loc}{v:AV}{x:Value}(h:RepA Ψ loc v x)(hc:fA v=true):x.oneCell'=true:=by
 cases h <;> first | rfl | (cases hc;done) | (rename_i h;exact h.one)
section
variable {P : Program} {o : Oper} {e : Operand → Option AV} {σ : Sto} {lab : Nat}
theorem gU {t:TypeId}{g:Bool}{k b off:Nat}{w:World}{Ψ:Psi}{loc:Loc}{cs:List AV}{v:AV}(hl:lay P t=some (g,k))(hv:uh g k cs off=some v){base:Nat}
 (hc:∀j u,cs[j]?=some u→∃x,w.cell? ⟨b,base+j,none⟩=some x∧RepA Ψ loc u x):∃x,(Instr.loadAt t (.pointer (some ⟨b,base+off,none⟩))).run P w= .ok x w∧RepA Ψ loc v x:=by
 obtain⟨d,i,h1,h2,h3,h4⟩:=tC hl
 cases g with
 |
  false=>
  obtain⟨x,q1,q2⟩:=hc off v (by simpa [uh] using hv);refine⟨x,?_,q2⟩;have hagg:=Ip (i:=i) h1 w;rw[h3] at hagg;simp[Instr.loadAt,Instr.sureAddr,loadVar,hagg,q1]
 |
  true=>
  have hv':off+k≤cs.length∧v= .agg ((cs.drop off).take k):=by
   simp only[uh,if_true] at hv;split at hv
   · rename_i h;injection hv with hv;exact⟨h,hv.symm⟩
   · cases hv
  obtain⟨hle,rfl⟩:=hv'
  have hf:∀j,∃x,j < k→∃u,cs[off+j]?=some u∧w.cell? ⟨b,base+off+j,none⟩=some x∧RepA Ψ loc u x:=fun j=>by
   by_cases hj:j < k
   · have hlt:off+j < cs.length:=by omega
     obtain⟨x,q1,q2⟩:=hc (off+j) _ (List.getElem?_eq_getElem hlt);exact⟨x,fun _=>⟨_,List.getElem?_eq_getElem hlt,by rw[Nat.add_assoc];exact q1,q2⟩⟩
   · exact⟨undef,fun h=>absurd h hj⟩
  let f:Nat→Value:=fun j=>(hf j).choose
  have hfs:∀j,j < k→∃u,cs[off+j]?=some u∧w.cell? ⟨b,base+off+j,none⟩=some (f j)∧RepA Ψ loc u (f j):=fun j hj=>(hf j).choose_spec hj
  refine⟨.agg ((List.range k).map f).toArray,run_loadAt_mid w b (base+off) t ((List.range k).map f) d (fun j x hx=>?_) h1 h3 (by simp[h2,h4]),?_⟩
  · rw[List.getElem?_map] at hx
    have hj:j < k:=by
     apply Decidable.byContradiction;intro hj;rw[List.getElem?_eq_none (by simpa using hj)] at hx
     cases hx
    rw[List.getElem?_eq_getElem (by simpa using hj)] at hx;simp at hx;obtain⟨u,_,q,_⟩:=hfs j hj;rw[←hx];exact q
  · refine .agg f (by simp;omega) (fun j hj=>?_) (fun j u hu=>?_)
    · have hj':j < k:=by simp at hj;omega
      simp[hj']
    · rw[List.getElem?_take] at hu;split at hu
      · rename_i hj
        rw[List.getElem?_drop] at hu;obtain⟨u',q1,_,q3⟩:=hfs j hj;rw[q1] at hu;injection hu with hu;rw[←hu];exact q3
      · cases hu
theorem BR {fr:Fr}{Ψ:Psi}{loc:Loc}{w:World}{l:Nat}{cs:List AV}(h:xw Ψ loc w l cs):∃b c,loc l=some (some ⟨b,0,none⟩,c+1)∧∀j u,cs[j]?=some u→∃x,w.cell? ⟨b,0+j,none⟩=some x∧RepA Ψ loc u x:=by
 obtain⟨b,c,arr,ty,h1,h2,h3,h4⟩:=h;refine⟨b,c,h1,fun j u hu=>?_⟩;obtain⟨x,q1,_,q3⟩:=h4 j u hu;exact⟨x,by rw[Nat.zero_add,jw h2];exact q1,q3⟩
theorem UE {t:TypeId}{x:Operand}{g:Bool}{k l off:Nat}{cs:List AV}{v:AV}(ho:o.op= .load t x)(hl:lay P t=some (g,k))(hx:e x=some (.ptr l off))(hσ:σ l=some (.box cs))(hv:uh g k cs off=some v):DSound P o e σ lab ⟨True,fun u=>u=v,[l],true,[]⟩:=
 .pure rfl fun Ψ loc fr w ρ he hok hd=>by
  have h:=he x _ hx
  generalize hq:ρ x=y at h
  cases h with
  |
   ptr hp=>
   obtain⟨b',c',h1,hc⟩:=BR (fr:=fr) (hok.ob l _ hσ)
   rw[hp] at h1
   injection h1 with h1
   injection h1 with h1 h2
   injection h1 with h1
   injection h1 with h1
   subst h1
   obtain⟨y,r1,r2⟩:=gU (P:=P) hl hv hc
   rw[Nat.zero_add] at r1
   exact⟨y,v,by simp[execOp,ho,hq,r1],r2,rfl⟩
theorem UF {t:TypeId}{x:Operand}{g:Bool}{k off:Nat}{row:List PV}{v:AV}(ho:o.op= .load t x)(hl:lay P t=some (g,k))(hx:e x=some (.fp row off))(hv:uh g k (row.map .pv) off=some v):DSound P o e σ lab (.val v):=
 .pure rfl fun Ψ loc fr w ρ he hok hd=>by
  have h:=he x _ hx
  generalize hq:ρ x=y at h
  cases h with
  |
   fp f hf hr=>
   rename_i b q
   obtain⟨y,r1,r2⟩:=gU (P:=P) (w:=w) (b:=b) (base:=q) (Ψ:=Ψ) (loc:=loc) hl hv (fun j u hu=>by
    rw[List.getElem?_map] at hu
    cases hj:row[j]? with
    | none=>simp [hj] at hu
    |
     some p=>
     simp[hj] at hu
     subst hu
     exact⟨f j,hok.fz _ _ _ (hf j p hj),.pv (hr j p hj)⟩)
   exact⟨y,v,by simp[execOp,ho,hq,r1],r2,rfl⟩
theorem Qd {Ψ:Psi}{loc:Loc}{w:World}{l ty k:Nat}{els:List (List PV)}(h:lU Ψ loc w l ty k els){i:Nat}{row:List PV}(hi:els[i]?=some row):
 ∃b c,loc l=some (some ⟨b,0,none⟩,c)∧row.length=k∧∀j u,(row.map AV.pv)[j]?=some u→∃x,w.cell? ⟨b,i * k+j,none⟩=some x∧RepA Ψ loc u x:=by
 obtain⟨A,c,h1,h2⟩:=h;rcases h2 with ⟨rfl,_⟩ | ⟨h0,b,cur,rfl,hh,q1,q2,q3,q4,q5⟩
 · simp at hi
 · refine⟨b,c,h1,q4 row (List.mem_of_getElem? hi),fun j u hu=>?_⟩;rw[List.getElem?_map] at hu
   cases hj:row[j]? with
   | none=>simp [hj] at hu
   |
    some p=>
    simp[hj] at hu;subst hu;obtain⟨x,r1,r2⟩:=q5 i j p (by simp[cellOf,hi,hj]);exact⟨x,by rw[jw hh];exact r1,.pv r2⟩
theorem UG {t:TypeId}{x:Operand}{g:Bool}{k r ty k' i off:Nat}{els:List (List PV)}(ho:o.op= .load t x)(hl:lay P t=some (g,k))(hx:e x=some (.rp r k' i off))(hσ:σ r=some (.row ty k' els)):
 DSound P o e σ lab ⟨∃row v,els[i]?=some row∧uh g k (row.map .pv) off=some v,fun u=>∃row,els[i]?=some row∧uh g k (row.map .pv) off=some u,[r],true,[]⟩:=
 .pure rfl fun Ψ loc fr w ρ he hok hd=>by
  obtain⟨row,v,hi,hv⟩:=hd
  have h:=he x _ hx
  generalize hq:ρ x=y at h
  cases h with
  |
   rp hp=>
   obtain⟨b',c',h1,_,hc⟩:=Qd (hok.ob r _ hσ) hi
   rw[hp] at h1
   injection h1 with h1
   injection h1 with h1 h2
   injection h1 with h1
   injection h1 with h1
   subst h1
   obtain⟨y,r1,r2⟩:=gU (P:=P) hl hv hc
   exact⟨y,v,by simp[execOp,ho,hq,r1],r2,row,hi,hv⟩
theorem UH {t:TypeId}{x:Operand}{k j:Nat}{cts:List CT}{ct:CT}(ho:o.op= .load t x)(hl:lay P t=some (false,k))(hx:e x=some (.tp cts j))(hc:cts[j]?=some ct):
 DSound P o e σ lab ⟨True,fun u=>∃p,ct.ok p∧u= .pv p,[],false,[]⟩:=
 .pure rfl fun Ψ loc fr w ρ he hok hd=>by
  have h:=he x _ hx
  generalize hq:ρ x=y at h
  cases h with
  |
   tp ht h0 hm hle=>
   rename_i b q m
   obtain⟨arr,ty,hh,hs,hall⟩:=hok.tb _ _ _ ht
   have hj:j < cts.length:=(List.getElem?_eq_some_iff.1 hc).1
   obtain⟨p,y,r1,r2,r3⟩:=hall (q+j) ct (by omega) (by rw[Nat.add_mod,hm,Nat.zero_add,Nat.mod_mod,Nat.mod_eq_of_lt hj];exact hc)
   obtain⟨d,i,h1,h2,h3,h4⟩:=tC hl
   have hagg:=Ip (i:=i) h1 w
   rw[h3] at hagg
   have hcell:w.cell? ⟨b,q+j,none⟩=some y:=by rw[jw hh];exact r1
   exact⟨y,.pv p,by simp[execOp,ho,hq,Instr.loadAt,Instr.sureAddr,loadVar,hagg,hcell],.pv r3,p,r2,rfl⟩
def TB (cts:List CT)(ps:List PV):Prop:=ps.length=cts.length∧∀(j:Nat) ct p,cts[j]?=some ct→ps[j]?=some p→ct.ok p
theorem abw {Q:Nat→PV→Prop} :∀n:Nat,(∀j,j < n→∃p,Q j p)→∃ps:List PV,ps.length=n∧∀j p,ps[j]?=some p→Q j p
 | 0,_=>⟨[],rfl,fun j p h=>by simp at h⟩
 |
  n+1,h=>by
  obtain⟨ps,h1,h2⟩:=abw n (fun j hj=>h j (Nat.lt_succ_of_lt hj))
  obtain⟨p,hp⟩:=h n (Nat.lt_succ_self n)
  refine⟨ps++ [p],by simp[h1],fun j q hq=>?_⟩
  by_cases hj:j < n
  · rw[List.getElem?_append_left (by omega)] at hq
    exact h2 j q hq
  · rw[List.getElem?_append_right (by omega)] at hq
    have hlt:=(List.getElem?_eq_some_iff.1 hq).1
    simp at hlt
    have hjn:j=n:=by omega
    subst hjn
    rw[h1,Nat.sub_self] at hq
    injection hq with hq
    subst hq
    exact hp
theorem Qe {t:TypeId}{x:Operand}{cts:List CT}(ho:o.op= .load t x)(hl:lay P t=some (true,cts.length))(hx:e x=some (.tp cts 0)):
 DSound P o e σ lab ⟨True,fun u=>∃ps,TB cts ps∧u= .agg (ps.map .pv),[],false,[]⟩:=
 .pure rfl fun Ψ loc fr w ρ he hok hd=>by
  have h:=he x _ hx
  generalize hq:ρ x=y at h
  cases h with
  |
   tp ht h0 hm hle=>
   rename_i b q m
   obtain⟨arr,ty,hh,hs,hall⟩:=hok.tb _ _ _ ht
   obtain⟨ps,h1,h2⟩:=abw (Q:=fun j p=>(∀ct,cts[j]?=some ct→ct.ok p)∧∃y,arr[q+j]?=some y∧Rep Ψ p y) cts.length (fun j hj=>by
    obtain⟨p,y,r1,r2,r3⟩:=hall (q+j) cts[j] (by omega) (by rw[Nat.add_mod,hm,Nat.zero_add,Nat.mod_mod,Nat.mod_eq_of_lt hj];exact List.getElem?_eq_getElem hj)
    exact⟨p,fun ct hc=>by rw[List.getElem?_eq_getElem hj] at hc;injection hc with hc;subst hc;exact r2,y,r1,r3⟩)
   have hv:uh true cts.length (ps.map AV.pv) 0=some (.agg (ps.map AV.pv)):=by
    rw[←h1]
    simp[uh,←List.map_take]
   obtain⟨y,r1,r2⟩:=gU (P:=P) (base:=q) (b:=b) (w:=w) (Ψ:=Ψ) (loc:=loc) hl hv (fun j u hu=>by
    rw[List.getElem?_map] at hu
    cases hj:ps[j]? with
    | none=>simp [hj] at hu
    |
     some p=>
     simp[hj] at hu
     subst hu
     obtain⟨_,x,q1,q2⟩:=h2 j p hj
     exact⟨x,by rw[jw hh];exact q1,.pv q2⟩)
   rw[Nat.add_zero] at r1
   exact⟨y,.agg (ps.map AV.pv),by simp[execOp,ho,hq,r1],r2,ps,⟨h1,fun j ct p hc hp=>(h2 j p hp).1 ct hc⟩,rfl⟩
end
