/- Words. -/
import Derived.Test.YtfbkkgfkhhibfaaGreatAds
set_option linter.unusedVariables false
set_option linter.unusedSimpArgs false
namespace AM
open Go Go.RowKit
theorem AP:∀(xs:List Value) (off k:Nat) (cs:Array Value),off+k+xs.length<=cs.size->(xs.zipIdx k).foldl (λcs (c:Value×Nat)=>cs.setIfInBounds (off+c.2) c.1) cs=(iV cs.toList (off+k) xs).toArray
 | [],off,k,cs,h=>by simp[iV]
 |
  x::r,off,k,cs,h=>by
  simp only[List.zipIdx_cons,List.foldl_cons]
  rw[AP r off (k+1) _ (by simp at h|-;omega)]
  simp only[iZ] at h
  apply YO
  intro j
  rw[sO,sO,jV (by simp;omega),jV (by simp;omega)]
  simp only[iZ,Array.toList_setIfInBounds,Tf,uu]
  by_cases h1:j=off+k
  . subst h1
    rw[if_neg (by omega),if_pos rfl,if_pos (by omega),if_pos (by omega)]
    simp
  . by_cases h2:off+k<=j/\j<off+k+(r.length+1)
    . rw[if_pos (by omega),if_pos h2,show j-(off+k)=(j-(off+(k+1)))+1 by omega,Lr]
    . rw[if_neg (by omega),if_neg h2,if_neg (by omega)]
def uN (place:Nat->Option (Nat×Nat))(cells:List AV):List (Nat×AV)->Option (List AV)
 | []=>some cells
 |
  (i,v)::r=>
  match place i with
  |none=>none
  |some (off,size)=>if (bJ v).length=size/\off+size<=cells.length/\(bJ v).all iI=true then uN place (iV cells off (bJ v)) r else none
def oU (Ψ:Psi)(loc:Loc)(cs:List AV)(xs:Array Value):Prop:=xs.size=cs.length/\∀(j:Nat) u,cs[j]?=some u->∃y,xs[j]?=some y/\y.oneCell'=true/\RepA Ψ loc u y
theorem abC {Ψ:Psi}{loc:Loc}{cs vs:List AV}{xs ys:Array Value}{off:Nat}(h:oU Ψ loc cs xs)(q:oU Ψ loc vs ys)(hle:off+vs.length<=cs.length):oU Ψ loc (iV cs off vs) (iV xs.toList off ys.toList).toArray:=by have y:ys.toList.length=vs.length:=(by simpa using q.1);have hx:xs.toList.length=cs.length:=(by simpa using h.1);refine⟨by simp only[Bf];rw[oh (by omega),oh hle];exact hx,λj u a=>?_⟩;rw[jV hle] at a;rw[sO,jV (by omega),y];split at a;rename_i d;rw[if_pos d,gz];exact q.2 _ u a;rename_i d;rw[if_neg d,gz];exact h.2 _ u a
theorem Qd {Ψ:Psi}{loc:Loc}{place:Nat->Option (Nat×Nat)} :∀(B:List (Nat×AV)) (u:List (Nat×Value)) (cs a:List AV) (xs:Array Value),uN place cs B=some a->oU Ψ loc cs xs->B.length=u.length->(∀(j:Nat) i v,B[j]?=some (i,v)->∃x,u[j]?=some (i,x)/\RepA Ψ loc v x)->
 ∃D,Instr.fill place xs u=some D/\oU Ψ loc a D
 |
  [],u,cs,a,xs,h,hc,hl,hr=>by
  have:u=[]:=mi hl.symm
  subst this
  injection h with h
  subst h
  exact⟨xs,rfl,hc⟩
 |
  (i,v)::B,u,cs,a,xs,h,hc,hl,hr=>by
  obtain⟨x,G,H⟩:=hr 0 i v rfl
  cases u with
  |nil=>simp at G
  |
   cons q u=>
   simp at G
   subst G
   unfold uN at h
   unfold Instr.fill
   cases hp:place i with
   |none=>simp [hp] at h
   |
    some w=>
    obtain⟨off,size⟩:=w
    simp only[hp] at h|-
    split at h
    . rename_i y
      obtain⟨h1,h2,h3⟩:=y
      obtain⟨c1,c2⟩:=um H h3
      have E:off+x.cells.size<=xs.size:=by rw[c1,hc.1,h1];exact h2
      have hno:(x.cells.size≠size || decide (off+x.cells.size>xs.size))=false:=by
       simp only[KE,jy,ne_eq]
       refine⟨by simp[c1,h1],by omega⟩
      rw[hno]
      simp only[mV,rY]
      have d:=AP x.cells.toList off 0 xs (by simpa using E)
      simp only[sK] at d
      rw[show (Array.foldl (λcs x=>match x with|(c,j)=>cs.setIfInBounds (off+j) c) xs x.cells.zipIdx)=(x.cells.toList.zipIdx 0).foldl (λcs (c:Value×Nat)=>cs.setIfInBounds (off+c.2) c.1) xs from by rw[<-abu,abr],d]
      exact Qd B u _ a _ h (abC hc ⟨c1,c2⟩ (by omega)) (by simpa using hl) (λj I v' J=>by simpa using hr (j+1) I v' (by simpa using J))
    . cases h
def dw (P:Program)(t:TypeId):Option (List (Nat×Nat)):=
 match P.underlying t with
 |some (.struct fields)=>fields.toList.mapM (λf=>(P.info? f.type).map λi=>(f.offset,i.size))
 |_=>none
def evs (e:Operand->Option AV):List (Nat×Operand)->Option (List (Nat×AV))
 | []=>some []
 |
  (i,x)::r=>match e x,evs e r with
  |some v,some l=>some ((i,v)::l)
  |_,_=>none
theorem Vx {e:Operand->Option AV}{Ψ:Psi}{loc:Loc}{ρ:Operand->Value}(he:∀x v,e x=some v->RepA Ψ loc v (ρ x)):∀(d:List (Nat×Operand)) (a:List (Nat×AV)),evs e d=some a->a.length=(d.map λ(i,x)=>(i,ρ x)).length/\∀(j:Nat) i v,a[j]?=some (i,v)->∃x,(d.map λ(i,x)=>(i,ρ x))[j]?=some (i,x)/\RepA Ψ loc v x
 | [],a,h=>by injection h with h;subst h;exact⟨rfl,λj i v h=>by simp at h⟩
 |
  (i,x)::r,a,h=>by
  unfold evs at h
  split at h
  . rename_i v l h1 h2
    injection h with h
    subst h
    have u:=Vx he r l h2
    refine⟨by simpa using u.1,λj y v' q=>?_⟩
    cases j with
    |zero=>simp at q;obtain⟨rfl,rfl⟩:=q;exact⟨ρ x,rfl,he x v h1⟩
    |succ j=>simpa using u.2 j y v' (by simpa using q)
  . cases h
theorem adQ {Ψ:Psi}{loc:Loc}{cs:List AV}{xs:Array Value}(h:oU Ψ loc cs xs):RepA Ψ loc (.agg cs) (.agg xs):=by have hf:∀j,∃x,j<cs.length->∃u,cs[j]?=some u/\xs[j]?=some x/\RepA Ψ loc u x:=(λj=>by by_cases d:j<cs.length;obtain⟨y,a,_,D⟩:=h.2 j _ (bH d);exact⟨y,λ_=>⟨_,bH d,a,D⟩⟩;exact⟨undef,λh=>absurd h d⟩);refine .agg (λj=>(hf j).choose) h.1 (λj d=>?_) (λj u B=>?_);obtain⟨u,_,q,_⟩:=(hf j).choose_spec d;exact q;obtain⟨E,a,_,q⟩:=(hf j).choose_spec (dF.1 B).1;rw[B] at a;injection a with a;rw[a];exact q
section
variable {P : Program} {o : Oper} {e : Operand -> Option AV} {σ : Sto} {lab : Nat}
theorem abD {t:TypeId}{parts:Array (Nat×Operand)}{zs cs:List AV}{pl:List (Nat×Nat)}{B:List (Nat×AV)}(ho:o.op= .build t parts)(E:eu P t=some zs)(a:dw P t=some pl)(G:evs e parts.toList=some B)(hf:uN (pl[·]?) zs B=some cs):
 DSound P o e σ lab (.val (.agg cs)):=
 .pure rfl λΨ loc fr w ρ he H J=>by
  obtain⟨i,z,h1,h2,h3,rfl⟩:=xx E
  obtain⟨l1,l2⟩:=Vx he _ _ G
  have D:oU Ψ loc (z.cells.toList.map UM) z.cells:=⟨by simp,λj u d=>by
   rw[bV,gz] at d
   cases hj:z.cells[j]? with
   |none=>simp [hj] at d
   |
    some y=>
    simp[hj] at d
    subst d
    have:=(Ns.1 h3) y (Jc hj)
    exact⟨y,rfl,this,CX this⟩⟩
  obtain⟨q,r1,I⟩:=Qd B _ _ cs z.cells hf D l1 l2
  refine⟨.agg q,_,?_,adQ I,rfl⟩
  have hb:P.built t ((parts.map λ(i,x)=>(i,ρ x)).toList)=some q:=by
   unfold dw at a
   split at a
   . rename_i fields d
     unfold Program.built
     simp only[h1,d,h2,a]
     rw[Uj]
     simp only[sO]
     exact r1
   . cases a
  have:=run_build w t _ _ hb
  simp[execOp,ho,this]
def rowsOf (e:Operand->Option AV)(k:Nat):Nat->List (Nat×Operand)->Option (List (List PV))
 |_,[]=>some []
 |m,(i,x)::r=>if i=m then
  match (e x).bind λv=>xw (bJ v),rowsOf e k (m+1) r with
  |some ps,some rs=>if ps.length=k then some (ps::rs) else none
  |_,_=>none
  else none
theorem IW {Ψ:Psi}{loc:Loc}{ρ:Operand->Value}(he:∀x v,e x=some v->RepA Ψ loc v (ρ x)){k n:Nat} :∀(I:List (Nat×Operand)) (m:Nat) (rows:List (List PV)) (xs:Array Value),rowsOf e k m I=some rows->m+I.length=n->xs.size=n*k->
 ∃a,Instr.fill (λi=>some (i*k,k)) xs (I.map λ(i,x)=>(i,ρ x))=some a/\a.size=n*k/\rows.length=I.length/\(∀row∈rows,row.length=k)/\(∀q,q<m*k->a[q]?=xs[q]?)/\∀i j p,cellOf rows i j=some p->∃y,a[(m+i)* k+j]?=some y/\Rep Ψ p y
 |
  [],m,rows,xs,h,hm,hs=>by
  injection h with h
  subst h
  exact⟨xs,rfl,hs,rfl,(λ_ h=>by cases h),λ_ _=>rfl,λi j p h=>by simp[cellOf] at h⟩
 |
  (i,x)::r,m,rows,xs,h,hm,hs=>by
  unfold rowsOf at h
  split at h
  . rename_i M
    subst M
    split at h
    . rename_i U rs h1 h2
      split at h
      . rename_i hk
        injection h with h
        subst h
        cases hev:e x with
        |none=>simp [hev] at h1
        |
         some v=>
         simp only[hev,wP] at h1
         have G:(bJ v).all iI=true:=by
          rw[jU]
          intro u V
          obtain⟨j,N⟩:=sG.1 V
          have X:=(kV h1).1
          obtain⟨u',J,Y⟩:=(kV h1).2 j (U[j]'(by have:=(dF.1 N).1;omega)) (bH _)
          rw[N] at J
          injection J with J
          subst J
          cases u<;>first|rfl|cases Y
         obtain⟨c1,c2⟩:=um (he x v hev) G
         have d:(ρ x).cells.size=k:=by rw[c1,<-(kV h1).1,hk]
         simp only[iZ] at hm
         have hle:i*k+k<=xs.size:=by
          rw[hs]
          have:=mf k (show i+1<=n by omega)
          rw[jW,rq] at this
          exact this
         obtain⟨a,Z,f2,f3,f4,R,f6⟩:=IW (n:=n) he r (i+1) rs (iV xs.toList (i*k) (ρ x).cells.toList).toArray h2 (by omega) (by
          simp only[Bf]
          rw[oh (by simp[d];exact hle)]
          simpa using hs)
         have E:∀q,(iV xs.toList (i*k) (ρ x).cells.toList).toArray[q]?=if i*k<=q/\q<i*k+k then (ρ x).cells[q-i*k]? else xs[q]?:=λq=>by
          rw[sO,jV (by simp[d];exact hle)]
          simp only[uu,d,gz]
         refine⟨a,?_,f2,by simp[f3],λrow B=>?_,λq hq=>?_,λH j p L=>?_⟩
         . simp only[kM]
           unfold Instr.fill
           dsimp only
           have hno:((ρ x).cells.size≠k || decide (i*k+(ρ x).cells.size>xs.size))=false:=by
            simp only[KE,jy,ne_eq]
            refine⟨by simp[d],by omega⟩
           rw[hno]
           simp only[mV,rY]
           have D:=AP (ρ x).cells.toList (i*k) 0 xs (by simp[d];exact hle)
           simp only[sK] at D
           rw[show (Array.foldl (λcs x=>match x with|(c,j)=>cs.setIfInBounds (i*k+j) c) xs (ρ x).cells.zipIdx)=((ρ x).cells.toList.zipIdx 0).foldl (λcs (c:Value×Nat)=>cs.setIfInBounds (i*k+c.2) c.1) xs from by rw[<-abu,abr],D]
           exact Z
         . rcases gJ.1 B with rfl|B
           . exact hk
           . exact f4 row B
         . rw[R q (by rw[jW,rq];omega),E,if_neg (by omega)]
         . cases H with
           |
            zero=>
            simp[cellOf] at L
            have N:j<k:=by rw[<-hk];exact (dF.1 L).1
            obtain⟨u,s1,s2⟩:=(kV h1).2 j p L
            obtain⟨y,O,_,t3⟩:=c2 j u s1
            refine⟨y,?_,yD t3 s2⟩
            rw[sK,R _ (by rw[jW,rq];omega),E,if_pos (by omega),show i*k+j-i*k=j by omega]
            exact O
           |
            succ H=>
            obtain⟨y,O,t2⟩:=f6 H j p (by simpa [cellOf] using L)
            exact⟨y,by rw[show i+(H+1)=i+1+H by omega];exact O,t2⟩
      . cases h
    . cases h
  . cases h
theorem ame {fr:Fr}{Ψ:Psi}{loc:Loc}{w:World}(a:Ok fr Ψ loc σ w)(xs:Array Value)(ty:TypeId):Ok fr (Ψ.addFz w.heap.size xs) loc σ (w.alloc (.cells xs ty))/\Ψ.le (Ψ.addFz w.heap.size xs):=by have hf:=a.new (au _);exact⟨(a.chg (w':=w.alloc (.cells xs ty)) (Same.of (aV w _ none) nofun)).freeze hf (heap_alloc_new w _),hf.le_fz xs⟩
theorem Hg {t D:TypeId}{n k E:Nat}{parts:Array (Nat×Operand)}{rows:List (List PV)}(ho:o.op= .buildSlice t n parts)(G:aZ P t=some (D,k,E))(M:rowsOf e k 0 parts.toList=some rows)(hn:parts.toList.length=n)(h0:0<n)(N:n*k<=2^24):
 DSound P o e σ lab (.val (.pv (.sl rows))):=by
 intro fr Ψ loc w ρ he H I hs X;obtain⟨h1,i,z,h2,h3,h4,h5,Y,Z,h8⟩:=iJ G;subst h4;obtain⟨d,O,f2,f3,f4,_,R⟩:=IW (n:=n) he parts.toList 0 rows ((Array.range (n*i.size)).map (z.cells[· % z.cells.size]!)) M (by omega) (by simp);have u:¬n*i.size=0:=(by intro h;rcases Nat.mul_eq_zero.1 h with h|h<;>omega);have B:=run_buildSlice w t D n (parts.map λ(i,x)=>(i,ρ x)) d i z h1 h2 h3 (by omega) u (by rw[Uj];exact O);obtain⟨U,J⟩:=ame H d D
 have hF:∀q j,∃y,∀p,cellOf rows q j=some p->d[q*i.size+j]?=some y/\Rep Ψ p y:=λq j=>by
  cases hc:cellOf rows q j with
  |none=>exact ⟨undef,λp h=>by cases h⟩
  |
   some p0=>
   obtain⟨y,L,V⟩:=R q j p0 hc;exact⟨y,λp h=>by injection h with h;subst h;exact⟨by rw[fG] at L;exact L,V⟩⟩
 refine⟨.slice (some ⟨w.heap.size,0,none⟩) n n,w.alloc (.cells d D),_,loc,_,.inl ⟨by simp[execOp,ho,B],.pv (.sl (k:=i.size) (λa b=>(hF a b).choose) (by omega) (au _) f4 (λq j p hc=>?_) (λq j p hc=>?_))⟩,rfl,U,J,λ_ _=>rfl,Same.of (aV w _ none) nofun⟩;have:=((hF q j).choose_spec p hc).1;show (if w.heap.size=w.heap.size then d[0+(q*i.size+j)]? else _)=_;rw[if_pos rfl,fG];exact this;exact ((hF q j).choose_spec p hc).2.mono J
theorem FY {t u:TypeId}{k a:Nat}{parts:Array (Nat×Operand)}(ho:o.op= .buildSlice t 0 parts)(d:aZ P t=some (u,k,a))(B:parts=#[]):
 DSound P o e σ lab (.val .emp):=by intro fr Ψ loc w ρ he q y hs D;obtain⟨h1,i,z,h2,h3,h4,h5,E,G,H⟩:=iJ d;refine⟨.slice (some ⟨w.heap.size,0,none⟩) 0 0,w.alloc (.cells #[] u),Ψ,loc,_,.inl ⟨?_,.emp⟩,rfl,q.chg (Same.of (aV w _ none) nofun),.refl _,λ_ _=>rfl,Same.of (aV w _ none) nofun⟩;simp[execOp,ho,B,Instr.buildSlice,jL h1,Go.sizeOf,typeInfo,h2,Instr.fill,newRow];congr 2;apply abq;simp
end
section
variable {P : Program} {o : Oper} {e : Operand -> Option AV} {σ : Sto} {lab : Nat}
theorem Jy {t u:TypeId}{k a:Nat}(d:aZ P t=some (u,k,a))(b q n c:Nat)(y:IntKind)(i:Int)(w:World)(h0:0<=i)(h1:i<n):
 (Instr.indexAt t (.slice (some ⟨b,q,none⟩) n c) (.int y i)).run P w= .ok (.pointer (some ⟨b,q+i.toNat*k,none⟩)) w:=by obtain⟨B,ti,z,D,G,E,_⟩:=iJ d;simp[Instr.indexAt,jL B,asIntOf,h0,h1,Go.sizeOf,typeInfo,D,E,zG]
theorem aci {t I:TypeId}{x y:Operand}{k d:Nat}{els:List (List PV)}{G:IntKind}{i:Int}(ho:o.op= .indexAddr t x y)(B:aZ P t=some (I,k,d))(hx:e x=some (.pv (.sl els)))(J:e y=some (.pv (.sc (.int G i)))):
 DSound P o e σ lab ⟨0<=i/\∃row,els[i.toNat]?=some row/\row.length=k,λu=>∃row,els[i.toNat]?=some row/\u= .fp row 0,[],true,[]⟩:=
 .pure rfl λΨ loc fr w ρ he L M=>by
  obtain⟨h0,row,hi,hk⟩:=M
  obtain⟨D,_⟩:=fC (he y _ J)
  have h:=he x _ hx
  generalize N:ρ x=z at h
  have O:=(dF.1 hi).1
  cases h with
  |
   pv h=>cases h with
   |nil=>simp at hi
   |
    sl f hn hnc hk' hf hr=>
    rename_i b q c n H
    have E:H=k:=(hk' row (gZ hi)).symm.trans hk
    subst E
    have hc:∀j p,row[j]?=some p->cellOf els i.toNat j=some p:=λj p a=>by simp[cellOf,hi,a]
    exact⟨.pointer (some ⟨b,q+i.toNat*H+0,none⟩),_,by simp[execOp,ho,N,D,Jy B b q n c G i w h0 (by omega)],.fp (f i.toNat) (λj p a=>by rw[nV];exact hf _ j p (hc j p a)) (λj p a=>hr _ j p (hc j p a)),row,hi,rfl⟩
theorem acj {t I:TypeId}{x y:Operand}{k d r n ty q:Nat}{els:List (List PV)}{H:IntKind}{i:Int}(ho:o.op= .indexAddr t x y)(B:aZ P t=some (I,k,d))(hx:e x=some (.own r n))(hσ:σ r=some (.row ty q els))(hk:q=k)(hn:els.length=n)(J:e y=some (.pv (.sc (.int H i)))):
 DSound P o e σ lab ⟨0<=i/\i<n,λu=>u= .rp r k i.toNat 0,[r],true,[]⟩:=
 .pure rfl λΨ loc fr w ρ he D L=>by
  obtain⟨h0,hi⟩:0<=i/\i<n:=L
  obtain⟨E,_⟩:=fC (he y _ J)
  have h:=he x _ hx
  generalize M:ρ x=z at h
  obtain⟨A,c,h1,h2⟩:qB Ψ loc w r ty q els:=D.ob r _ hσ
  cases h with
  |
   own a hnc=>
   rename_i N A'
   rw[h1] at a
   injection a with a
   injection a with G hl2
   subst G hl2
   rcases h2 with ⟨_,rfl⟩|⟨h0',b,cur,rfl,_⟩
   . omega
   . exact⟨.pointer (some ⟨b,0+i.toNat*k,none⟩),_,by simp[execOp,ho,M,E,Jy B b 0 n c H i w h0 hi],by rw[fG];exact .rp (off:=0) h1,rfl⟩
theorem ack {t G:TypeId}{x y:Operand}{k a n:Nat}{cts:List CT}{E:IntKind}{i:Int}(ho:o.op= .indexAddr t x y)(d:aZ P t=some (G,k,a))(hx:e x=some (.pv (.tr cts n)))(hk:cts.length=k)(H:e y=some (.pv (.sc (.int E i)))):
 DSound P o e σ lab ⟨0<=i/\i<n,λu=>u= .tp cts 0,[],true,[]⟩:=
 .pure rfl λΨ loc fr w ρ he I J=>by
  obtain⟨h0,hi⟩:0<=i/\i<n:=J
  obtain⟨B,_⟩:=fC (he y _ H)
  have h:=he x _ hx
  generalize L:ρ x=z at h
  cases h with
  |
   pv h=>cases h with
   |tr0=>omega
   |
    tr ht h0' hm hnc hle=>
    rename_i b q c m
    have D:(i.toNat+1)* cts.length<=n*cts.length:=mf _ (by omega)
    rw[jW,rq] at D
    exact⟨.pointer (some ⟨b,q+i.toNat*k+0,none⟩),_,by simp[execOp,ho,L,B,Jy d b q n c E i w h0 hi],.tp ht h0' (by rw[<-hk,Nat.add_mul_mod_self_right];exact hm) (by rw[<-hk];omega),rfl⟩
theorem acm {t:TypeId}{x y:Operand}{s:ByteArray}{q:IntKind}{i:Int}(ho:o.op= .index t x y)(u:P.underlying t=some .string)(hx:e x=some (.pv (.sc (.string s))))(B:e y=some (.pv (.sc (.int q i)))):
 DSound P o e σ lab (.chk (0<=i/\i<s.size) (.pv (.sc (.int .u8 ((s[i.toNat]?).getD 0).toNat)))):=
 .pure rfl λΨ loc fr w ρ he D E=>by
  obtain⟨h0,hi⟩:0<=i/\i<s.size:=E
  obtain⟨a,_⟩:=fC (he y _ B)
  obtain⟨d,_⟩:=fC (he x _ hx)
  have hg:s[i.toNat]?=some s[i.toNat]:=getElem?_pos s i.toNat (by omega)
  exact⟨_,_,by simp[execOp,ho,d,a,Instr.index,asIntOf,jL u,h0,hg],.pv (.sc rfl),rfl⟩
theorem afh {x:Operand}{ats:Array TypeId}{t:TypeId}{n:Nat}(ho:o.op= .call { callee:= .builtin .len,args:=#[x],argTypes:=ats })(q:ats=#[t])
 (hx:(∃els,e x=some (.pv (.sl els))/\els.length=n/\(∃d,P.underlying t=some (.slice d)))\/(∃r,e x=some (.own r n)/\(∃d,P.underlying t=some (.slice d)))\/(∃cts,e x=some (.pv (.tr cts n))/\(∃d,P.underlying t=some (.slice d)))\/(e x=some .emp/\n=0/\(∃d,P.underlying t=some (.slice d)))\/(∃s,e x=some (.pv (.sc (.string s)))/\s.size=n/\P.underlying t=some .string)):
 DSound P o e σ lab (.val (.pv (.sc (.int .i64 n)))):=
 .pure rfl λΨ loc fr w ρ he y B=>by
  subst q
  refine⟨.int .i64 n,_,?_,.pv (.sc rfl),rfl⟩
  have key:(∃d,P.underlying t=some (.slice d))->(∃A c,ρ x= .slice A n c)->(execOp ρ o).run P w= .ok (.value (.int .i64 n)) w:=λ⟨d,a⟩ ⟨A,c,u⟩=>by
   simp[execOp,ho,resolve,invoke,builtin,u,Builtin.len_,jL a,goInt]
  rcases hx with ⟨els,h1,h2,a⟩|⟨r,h1,a⟩|⟨cts,h1,a⟩|⟨h1,rfl,a⟩|⟨s,h1,rfl,a⟩
  . refine key a ?_
    have h:=he x _ h1
    generalize ρ x=z at h
    cases h with
    |
     pv h=>cases h with
     |nil=>subst h2;exact⟨_,_,rfl⟩
     |sl f hn=>rw [h2] at hn;subst hn;exact⟨_,_,rfl⟩
  . refine key a ?_
    have h:=he x _ h1
    generalize ρ x=z at h
    cases h with
    |own hl hnc=>exact ⟨_,_,rfl⟩
  . refine key a ?_
    have h:=he x _ h1
    generalize ρ x=z at h
    cases h with
    |pv h=>cases h<;>exact⟨_,_,rfl⟩
  . refine key a ?_
    have h:=he x _ h1
    generalize ρ x=z at h
    cases h with
    |emp=>exact ⟨_,_,rfl⟩
  . obtain⟨u,_⟩:=fC (he x _ h1)
    simp[execOp,ho,resolve,invoke,builtin,u,Builtin.len_,jL a,goInt]
theorem afi {x y:Operand}{ats:Array TypeId}{k:IntKind}{a b:Int}(ho:o.op= .call { callee:= .builtin .max,args:=#[x,y],argTypes:=ats })(hx:e x=some (.pv (.sc (.int k a))))(u:e y=some (.pv (.sc (.int k b)))):
 DSound P o e σ lab (.val (.pv (.sc (.int k (if b>a then b else a))))):=
 .pure rfl λΨ loc fr w ρ he B D=>by
  obtain⟨d,_⟩:=fC (he y _ u)
  obtain⟨q,_⟩:=fC (he x _ hx)
  exact⟨_,_,by simp[execOp,ho,resolve,invoke,builtin,q,d,Builtin.max_,Builtin.max2],.pv (.sc rfl),rfl⟩
def C9 (e:Operand->Option AV)(x:Option Operand)(d:Int):Option Int:=
 match x with
 |none=>some d
 |
  some x=>match e x with
  |some (.pv (.sc (.int _ i)))=>some i
  |_=>none
theorem Jz {x:Option Operand}{d i:Int}{Ψ:Psi}{loc:Loc}{ρ:Operand->Value}(he:∀x v,e x=some v->RepA Ψ loc v (ρ x))(h:C9 e x d=some i):(x=none/\i=d)\/∃y k,x=some y/\ρ y= .int k i:=by
 unfold C9 at h;split at h;injection h with h;exact .inl ⟨rfl,h.symm⟩
 . rename_i y;split at h;rename_i k j a;injection h with h;subst h;exact .inr ⟨y,k,rfl,(fC (he y _ a)).1⟩
   cases h
theorem Oa {t q:TypeId}{k a:Nat}(d:aZ P t=some (q,k,a)){lo hi:Option Operand}{l h:Int}{ρ:Operand->Value}(A:Option Addr)(n c:Nat)(w:World)(u:(lo=none/\l=0)\/∃y k,lo=some y/\ρ y= .int k l)(B:(hi=none/\h=n)\/∃y k,hi=some y/\ρ y= .int k h)(h0:0<=l)(h1:l<=h)(h2:h<=n)(h3:n<=c):
 (Instr.sliceAt t (.slice A n c) (lo.map ρ) (hi.map ρ) none).run P w= .ok (.slice (if c=l.toNat then A else A.map (·.add (l.toNat*k))) (h.toNat-l.toNat) (c-l.toNat)) w:=by
 obtain⟨D,ti,z,E,H,G,_⟩:=iJ d;have hc:h<=c:=by omega
 rcases u with ⟨rfl,rfl⟩|⟨y,kl,rfl,hy⟩<;>rcases B with ⟨rfl,rfl⟩|⟨y',kh,rfl,hy'⟩ <;>
  simp[Instr.sliceAt,Instr.slice,jL D,Instr.sliceBounds,Instr.sliceBound,asIntOf,Go.sizeOf,typeInfo,E,G, *]<;>(repeat' split)<;>first|rfl|omega|(simp_all;done)
end
section
variable {P : Program} {o : Oper} {e : Operand -> Option AV} {σ : Sto} {lab : Nat}
theorem ve {els:List (List PV)}{l h i j:Nat}{p:PV}(hc:cellOf ((els.take h).drop l) i j=some p):cellOf els (l+i) j=some p/\l+i<h:=by
 unfold cellOf at hc|-;rw[Am,sV] at hc;split at hc;rename_i a;exact⟨hc,a⟩
 cases hc
theorem aaS {t N:TypeId}{x:Operand}{lo hi:Option Operand}{k B:Nat}{els:List (List PV)}{l h:Int}(ho:o.op= .slice t x lo hi none)(D:aZ P t=some (N,k,B))(hx:e x=some (.pv (.sl els)))(O:C9 e lo 0=some l)(R:C9 e hi els.length=some h):
 DSound P o e σ lab (.chk (0<=l/\l<=h/\h<=els.length/\∀row∈els,row.length=k) (.pv (.sl ((els.take h.toNat).drop l.toNat)))):=
 .pure rfl λΨ loc fr w ρ he U V=>by
  obtain⟨h0,h1,h2,d⟩:0<=l/\l<=h/\h<=els.length/\∀row∈els,row.length=k:=V
  have a:=he x _ hx
  have E:=Jz he O
  have G:=Jz he R
  generalize X:ρ x=z at a
  have fin:∀A n c,z= .slice A n c->n=els.length->n<=c->(execOp ρ o).run P w= .ok (.value (.slice (if c=l.toNat then A else A.map (·.add (l.toNat*k))) (h.toNat-l.toNat) (c-l.toNat))) w:=λA n c H hn hnc=>by
   subst hn
   have:=Oa D A els.length c w E G h0 h1 h2 hnc
   simp[execOp,ho,X,H,this]
  have hlen:((els.take h.toNat).drop l.toNat).length=h.toNat-l.toNat:=by simp;omega
  cases a with
  |
   pv a=>cases a with
   |
    nil hAc=>
    rename_i A c
    have H:(if c=0 then A else A.map (·.add 0))=none->c=0:=λh=>by
     split at h
     . exact hAc h
     . exact hAc (by simpa using h)
    simp at h2
    have I:l=0:=by omega
    have J:h=0:=by omega
    subst I J
    exact⟨_,_,fin A 0 c rfl rfl (ay _),.pv (by simpa using Rep.nil H),rfl⟩
   |
    sl f hn hnc hk' hf hr=>
    rename_i b q c n Y
    refine⟨_,_,fin _ n c rfl hn.symm hnc,.pv ?_,rfl⟩
    by_cases u:h.toNat-l.toNat=0
    . rw[u,mi (hlen.trans u)]
      exact .nil (λh=>by split at h<;>simp at h)
    . have L:¬c=l.toNat:=by omega
      rw[if_neg L]
      simp only[nU,zG]
      have M:Y=k:=by
       have y:0<els.length:=by omega
       rw[<-hk' els[0] (fA y)]
       exact d _ (fA y)
      subst M
      refine .sl (λi j=>f (l.toNat+i) j) hlen (by omega) (λrow hm=>d row (LD (aaT hm))) (λi j p hc=>?_) (λi j p hc=>hr _ _ _ (ve hc).1)
      have:=hf _ _ _ (ve hc).1
      rw[<-this,jW]
      congr 1
      omega
theorem aaU {t O:TypeId}{x:Operand}{hi:Option Operand}{k G r n ty H:Nat}{els:List (List PV)}{h:Int}(ho:o.op= .slice t x none hi none)(I:aZ P t=some (O,k,G))(hx:e x=some (.own r n))(hσ:σ r=some (.row ty H els))(hn:els.length=n)(R:C9 e hi n=some h):
 DSound P o e σ lab ⟨0<=h/\h<=n,λu=>u= .own lab h.toNat,[],true,[(r,none),(lab,some (.row ty H (els.take h.toNat)))]⟩:=by
 intro fr Ψ loc w ρ he y a hs U;obtain⟨h0,h2⟩:0<=h/\h<=n:=U;have E:=he x _ hx;have J:=Jz he R;generalize V:ρ x=z at E;obtain⟨A,c,h1,h3⟩:qB Ψ loc w r ty H els:=y.ob r _ hσ
 cases E with
 |
  own D hnc=>
  rename_i Y A';rw[h1] at D;injection D with D;injection D with L hl2;subst L hl2;have d:=Oa I A n c w (.inl ⟨rfl,rfl⟩) J (qW 0) h0 h2 hnc;simp only[Int.toNat_zero,TR,Nat.sub_zero,Option.map_none] at d;have X:(if c=0 then A else A.map (·.add 0))=A:=by
   split;rfl
   cases A<;>simp[Addr.add]
  rw[X] at d;have B:lab≠r:=(λq=>by rw[q,h1] at a;cases a);have hle:Loc.le loc (loc.upd lab (A,c)):=Loc.le_upd a;refine⟨.slice A h.toNat c,w,Ψ,loc.upd lab (A,c),_,.inl ⟨by simp[execOp,ho,V,d],.own Loc.upd_eq (by omega)⟩,rfl,?_,.refl _,λl D=>Loc.upd_ne D,Same.refl _ _⟩;show Ok fr Ψ _ ((σ.upd r none).upd lab _) w;have M:Ok fr Ψ (loc.upd lab (A,c)) (σ.upd r none) w:=(y.drop r).locs hle (λl o e=>Loc.upd_ne (λq=>by rw[q,upd_ne _ _ B,hs] at e;cases e));refine M.claim (by rw[upd_ne _ _ B];exact hs) ⟨A,c,Loc.upd_eq,?_⟩ (λb hb=>?_);rcases h3 with ⟨rfl,rfl⟩|⟨q0,g,cur,rfl,q1,q2,q3,q4,q5,q6⟩;exact .inl ⟨by simp,rfl⟩;refine .inr ⟨q0,g,cur,rfl,q1,by simp;omega,q3,q4,λrow hm=>q5 row (LD hm),λi j p hc=>?_⟩;exact q6 i j p (by have:=(ve (l:=0) (by simpa using hc)).1;simpa using this)
  . have N:blk loc r=some b:=by
     have:blk (loc.upd lab (A,c)) lab=blk loc r:=(by simp[blk,Loc.upd_eq,h1]);rw[<-this];exact hb
    have hf:=y.free hσ N;exact⟨hf.pr,hf.tb,hf.fz,λl o e q=>by rw[kL (Loc.upd_ne (λq=>by rw[q,upd_ne _ _ B,hs] at e;cases e))] at q;exact hf.ob l o e q⟩
def adr:AV->Option CT
 | .pv (.sc (.int k n))=>if n=0 then some (.int k) else none
 | .pv (.sc (.bool _))=>some .bool
 | .emp=>some (.asc 0)
 |_=>none
def yN:List AV->Option (List CT)
 | []=>some []
 |
  v::r=>match adr v,yN r with
  |some c,some cs=>some (c::cs)
  |_,_=>none
theorem IE:∀ {vs:List AV}{cs:List CT},yN vs=some cs->cs.length=vs.length/\∀(j:Nat) c,cs[j]?=some c->∃v,vs[j]?=some v/\adr v=some c
 | [],cs,h=>by injection h with h;subst h;exact⟨rfl,λj p h=>by simp at h⟩
 |
  v::r,cs,h=>by
  unfold yN at h
  split at h
  . rename_i p u h1 h2
    injection h with h
    subst h
    have d:=IE h2
    refine⟨by simp[d.1],λj q a=>?_⟩
    cases j with
    |zero=>simp at a;subst a;exact⟨v,rfl,h1⟩
    |succ j=>simpa using d.2 j q (by simpa using a)
  . cases h
theorem ads {Ψ:Psi}{v:Value}{c:CT}(h1:v.oneCell'=true)(h:adr (UM v)=some c):∃p,c.ok p/\Rep Ψ p v:=by
 unfold UM at h;split at h;injection h with h;subst h;exact⟨.sl [],⟨[],rfl,by simp,by simp⟩,.nil (λ_=>rfl)⟩
 . rename_i hno;unfold adr at h;split at h
   . rename_i k n heq;injection heq with heq;injection heq with heq;subst heq;split at h;rename_i h0;injection h with h;subst h h0;exact⟨_,⟨0,by cases k<;>rfl,rfl⟩,.sc rfl⟩
     cases h
   rename_i b heq;injection heq with heq;injection heq with heq;subst heq;injection h with h;subst h;exact⟨_,⟨b,rfl⟩,.sc rfl⟩;rename_i heq;cases heq
   cases h
theorem adt {t B:TypeId}{x y:Operand}{k D:Nat}{zs:List AV}{cts:List CT}{X E:IntKind}{n:Int}(ho:o.op= .makeSlice t x y)(M:aZ P t=some (B,k,D))(hz:eu P B=some zs)(hc:yN zs=some cts)(hx:e x=some (.pv (.sc (.int X n))))(hy:e y=some (.pv (.sc (.int E n)))):
 DSound P o e σ lab (.chk (0<=n/\n<=100000) (.pv (.tr cts n.toNat))):=by
 intro fr Ψ loc w ρ he G Y hs hd;obtain⟨h0,hn⟩:0<=n/\n<=100000:=hd;obtain⟨q1,i,z,Z,q3,q4,q5,q6,q7,q8⟩:=iJ M;obtain⟨N,_⟩:=fC (he x _ hx);obtain⟨O,_⟩:=fC (he y _ hy);obtain⟨i',z',r1,L,r3,rfl⟩:=xx hz;rw[Z] at r1;injection r1 with r1;subst r1;rw[q3] at L;injection L with L;subst L;obtain⟨c1,c2⟩:=IE hc;have d:cts.length=k:=(by rw[c1];simpa using q6);have hb:(i.bytes:Int)* n<=281474976710656:=(by rw[q5];have:(D:Int)* n<=1000*100000:=Int.mul_le_mul (by omega) hn h0 (by omega);omega);have H:=run_make (P:=P) w t B i z q1 Z q3 X E n n h0 (qW _) hb (by omega);have R:(madeCells z.cells (n.toNat*i.size)).size=n.toNat*k:=(by rw[size_madeCells,q4]);have a:=G.new (au w.heap.size);have I:=G.chg (w':=w.alloc (.cells (madeCells z.cells (n.toNat*i.size)) B)) (Same.of (aV w _ none) nofun);have U:cts≠ []:=(λh=>by rw[h] at d;simp at d;omega);refine⟨_,w.alloc (.cells (madeCells z.cells (n.toNat*i.size)) B),Ψ.addTb w.heap.size (cts,(madeCells z.cells (n.toNat*i.size)).size),loc,_,.inl ⟨by simp[execOp,ho,N,O,H];rfl,.pv (.tr (m:=(madeCells z.cells (n.toNat*i.size)).size) (by simp[Psi.addTb]) U (TA _) (au _) (by rw[R,d];omega))⟩,rfl,?_,a.le_tb _,λ_ _=>rfl,Same.of (aV w _ none) nofun⟩;refine I.typed a (au _) (heap_alloc_new w _) (λq ct hq J=>?_);rw[d] at J;obtain⟨v,s1,s2⟩:=c2 _ ct J;rw[bV,gz] at s1
 cases hv:z.cells[q%k]? with
 |none=>simp [hv] at s1
 |
  some u=>
  simp[hv] at s1;subst s1;have hu:=(Ns.1 r3) u (Jc hv);obtain⟨p,t1,t2⟩:=ads (Ψ:=Ψ) hu s2;refine⟨p,u,?_,t1,t2⟩;have V:q<n.toNat*i.size:=(by rw[size_madeCells] at hq;exact hq);have hm:(madeCells z.cells (n.toNat*i.size))[q]?=some (z.cells[q%z.cells.size]!):=(by simp[madeCells,V]);rw[hm,q6];simp[getElem!_def,hv]
end
