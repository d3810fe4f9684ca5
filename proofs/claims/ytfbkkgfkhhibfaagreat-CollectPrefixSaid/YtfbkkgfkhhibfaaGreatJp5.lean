/- Words. -/
import Derived.Test.YtfbkkgfkhhibfaaGreatFjf
import Derived.Test.YtfbkkgfkhhibfaaGreatFzh
import Derived.Test.YtfbkkgfkhhibfaaGreatTrd
set_option linter.unusedVariables false
set_option linter.unusedSimpArgs false
namespace AM
open Go Go.Proofs Mk
set_option maxRecDepth 20000
set_option maxHeartbeats 8000000
def EvL (n:Nat)(es:List EvA):Prop:=∀(j:Nat) e,es[j]?=some e->EvG n j e
theorem EvL.snoc {n:Nat}{es:List EvA}{e:EvA}(h:EvL n es)(he:EvG n es.length e):EvL n (es++[e]):=by
 intro j x hx;rcases zM j es.length with hj|hj;rw[jX hj] at hx;exact h j x hx
 . rw[jY hj] at hx;obtain rfl:j=es.length:=by
    have:=(dF.1 hx).1;simp at this;omega
   simp at hx;subst hx;exact he
@[go_sem] def VK (c:Int×Int):List PV:=[ah c.1,ah c.2]
structure FrS (n K k:Nat)(tx:Int)(xs:List (Int×Nat×Nat×Int))(es:List EvA):Prop where
 tx:i64 tx
 xl:xs.length=n
 xk:∀x∈xs,TsK (es.length:Nat) x
 e4:es.length<=400
 ek:es.length<=k
 kK:k<=K
 ev:EvL n es
def FrQ (n K:Nat)(v:AV):Prop:=∃tx xs es,v= .tup [.pv (.sl (es.map EvA.r)),rw_ (sW n tx es.length xs)]/\es.length<=K/\EvL n es
def aoy:Nat->List (Nat×Nat):=λ_=> [(0,1),(0,4),(1,4),(0,5),(1,5),(0,11),(1,11),(4,11),(5,11),(6,11),(0,12),(1,12),(4,12),(5,12),(6,12),(11,12)]
attribute [local go_sem] List.map_append List.length_append List.map_cons List.map_nil List.length_singleton
theorem Ye (n:Nat)(ss:List (Nat×Nat))(cs:List (Int×List In))(C:CdG n ss cs)(a:List (Int×Nat×Nat×Int))(G:a.length=n)(hx:∀x∈a,TsK (0:Nat) x)(ch:List (Int×Int))(H:ch.length<=1000):lq Tryz.prog 42 [rw_ (coR n ss cs),rw_ (sW n (-1) 0 a),.emp,.pv (.sl (ch.map VK))] (FrQ n ch.length):=by refine wf Tryz.func42 aoy (h:=λR I=>?_);refine wb ?_<;>intros;refine lI 2 52 7 (by exact we) ?_;have J:i64 (-1):=dY.2 (by decide);refine wl (λu:Nat×Int×List (Int×Nat×Nat×Int)×List EvA=> [(2,.own 3 u.2.2.2.length),(3,.pv (.sl (ch.map VK))),(4,.ptr 0 0),(5,.ptr 1 0),(9,.ptr 2 0),(10,.pv (ah u.1))]) (λu=> [some (.box ((coR n ss cs).map .pv)),some (.box ((sW n u.2.1 u.2.2.2.length u.2.2.1).map .pv)),some (.box [.emp,.pv (ah 0),.emp,.emp,.emp,.emp,.emp]),some (.row 52 7 (u.2.2.2.map EvA.r))]) (λu=>FrS n ch.length u.1 u.2.1 u.2.2.1 u.2.2.2) (λu=>ch.length-u.1) (0,-1,a,[]) ⟨J,G,hx,ay _,ay _,ay _,λj e h=>by simp at h⟩ (vm [0,8,24,40]) (λ⟨k,tx,xs,es⟩ L=>?_);obtain⟨q,y,B,e4,ek,kK,d⟩:=L;dsimp only at q y B e4 ek kK d;refine wb (A2.mk ?_ (A2.mk ?_ ?_))<;>intros;have h2:k<ch.length:=(by omega);refine aN (x:=ch[k]) (by omega) (by simp[h2]) rfl ?_;refine wb ?_<;>intros;refine wG (YW n ss cs C tx q es.length (by omega) xs y B ch[k].1 ch[k].2) (.tup [rw_ acr,rw_ (EvA.r acs),.pv (boolP false)]) (.inr rfl) ?_;rintro v (⟨D,E,e,rfl,M,N,t3,t4⟩|rfl);refine wb ?_<;>intros;have O:(es++[e]).length=es.length+1:=(by simp);exact ak ⟨(k+1,D,E,es++[e]),⟨M,N,by dsimp only;rw[O];exact t3,by dsimp only;omega,by dsimp only;omega,h2,d.snoc t4⟩,by dsimp only;omega,vm [0,1,2,252]⟩;refine wb ?_<;>intros;exact ak ⟨(k+1,tx,xs,es),⟨q,y,B,e4,by dsimp only;omega,h2,d⟩,by dsimp only;omega,vm [0,1,2,3]⟩;all_goals exact wt I (.tup [.pv (.sl (es.map EvA.r)),rw_ (sW n tx es.length xs)]) [(3,none)] ⟨_,_,_,rfl,by omega,d⟩
end AM
namespace AM
open Go Go.Proofs Mk
set_option maxRecDepth 20000
set_option maxHeartbeats 8000000
@[go_sem] def trR (n:Nat)(ss:List (Nat×Nat))(es:List EvA):List PV:=[.sl (Qv.map CeR.r),.sl (QC.map QD),.sl (Qw.map XP),.sl (jm XQ),.sl (jm (thNames n)),.sl (ss.map XR),.sl (es.map EvA.r)]
def aob (n:Nat)(ss:List (Nat×Nat))(K:Nat)(v:AV):Prop:=∃tx xs es,v= .tup [rw_ (trR n ss es),rw_ (sW n tx es.length xs)]/\es.length<=K/\EvL n es
def aoc:Nat->List (Nat×Nat):=λi=>if i=3 then [(0,1),(0,2),(0,8),(1,8),(2,8),(4,8)] else if i=4 then [(1,4),(4,5)] else []
theorem abX (n:Nat)(ss:List (Nat×Nat))(cs:List (Int×List In))(C:CdG n ss cs)(ch:List (Int×Int))(a:ch.length<=1000):lq Tryz.prog 23 [rw_ (coR n ss cs),.pv (.sl (ch.map VK))] (aob n ss ch.length):=by have d:=VL n ss cs C;have q:=Ye n ss cs C (cs.map ts0) (by rw[iM];exact C.len) (λx hx=>by obtain⟨p,u,rfl⟩:=jo.1 hx;obtain⟨k,hk⟩:=sG.1 u;have G:=C.good k p.1 p.2 hk;have:=G.r1;exact⟨sF,by show p.1.toNat<=5;omega,by show p.1.toNat<=5;omega,qW _,qW _⟩) ch a;have hw:FrQ n ch.length (.tup [.pv (.sl (([]:List EvA).map EvA.r)),rw_ (sW n 0 0 [])]):=⟨0,[],[],rfl,ay _,λj e h=>by simp at h⟩;obtain⟨n1,n4,s60,so,val,len,good,num⟩:=C;refine wf Tryz.func23 aoc (h:=λR y=>?_);refine wb ?_<;>intros;refine wE val ?_;refine wb ?_<;>intros;refine wE d ?_;refine wb ?_<;>intros;refine wG q _ hw ?_;rintro v ⟨tx,xs,es,rfl,h1,h2⟩;refine wb ?_<;>intros;exact wt y (.tup [rw_ (trR n ss es),rw_ (sW n tx es.length xs)]) [] ⟨_,_,_,rfl,h1,h2⟩
theorem abY (xs:List UInt8)(hx:xs.length<=1000):lq Tryz.prog 24 [.pv (UL xs)] (λr=>∃n ss cs,CdG n ss cs/\r=rw_ (coR n ss cs)):=by refine wf Tryz.func24 (λ_=> []) (h:=λR q=>?_);refine wb ?_<;>intros;refine wF (QE xs hx) ?_;rintro v ⟨bs,rfl,a,d⟩;refine wb ?_<;>intros;refine wE (Nr bs a d) ?_;refine wb ?_<;>intros;have hg:=zi d;exact wt q (rw_ (coR bs.length (ed 0 bs) (codeF bs.length 0 bs))) [] ⟨_,_,_,⟨a.n1,a.n4,hg.1,hg.2.1,Yd bs a.n1 a.n4 d,vM _ _ _,hg.2.2,λk r l h=>Ho _ _ _ _ (gZ h)⟩,rfl⟩
attribute [local go_sem] List.map_append List.length_append List.map_cons List.map_nil List.length_singleton
theorem QF (xs:List UInt8)(hx:xs.length<=1000):lq Tryz.prog 25 [.pv (UL xs)] (λr=>∃ch:List (Int×Int),ch.length=xs.length/\r= .pv (.sl (ch.map VK))):=by refine wf Tryz.func25 (λ_=> [(3,9),(4,9),(3,10),(4,10)]) (h:=λR a=>?_);refine wb ?_<;>intros;refine lI 3 124 2 (by exact we) ?_;refine wl (λu:List (Int×Int)=> [(0,.pv (UL xs)),(3,.own 0 u.length),(4,.pv (ah u.length))]) (λu=> [some (.row 124 2 (u.map VK))]) (λu=>u.length<=xs.length) (λu=>xs.length-u.length) [] (ay _) (vm [24]) (λu d=>?_);refine wb (A2.mk ?_ ?_)<;>intros;have h2:u.length<xs.length:=(by omega);refine aN (x:=xs[u.length]) (by omega) (by simp[h2]) rfl ?_;refine wb ?_<;>intros;refine aN (x:=xs[u.length]) (by omega) (by simp[h2]) rfl ?_;refine wb ?_<;>intros;exact ak ⟨u++[((IntKind.i64.wrap (xs[u.length].toNat:Int)).tmod 4,IntKind.i64.wrap ((IntKind.i64.wrap ((IntKind.i64.wrap (xs[u.length].toNat:Int)).tdiv 4)).tmod 5-1))],by rw[bI];simp only[qA];omega,by rw[bI];simp only[qA];omega,vm [169]⟩;have h2:u.length=xs.length:=(by omega);exact wt a (.pv (.sl (u.map VK))) [(0,none)] ⟨_,h2,rfl⟩
def TrQ (K:Nat)(v:AV):Prop:=∃n ss es,v=rw_ (trR n ss es)/\1<=n/\n<=4/\ss.length<=60/\SiteOk n ss/\es.length<=K/\EvL n es
theorem Yf (xs ys:List UInt8)(hx:xs.length<=1000)(a:ys.length<=1000):lq Tryz.prog 9 [.pv (UL xs),.pv (UL ys)] (TrQ ys.length):=by refine wf Tryz.func9 (λ_=> []) (h:=λR d=>?_);refine wb ?_<;>intros;refine wF (abY xs hx) ?_;rintro v ⟨n,ss,cs,C,rfl⟩;refine wb ?_<;>intros;refine wF (QF ys a) ?_;rintro v ⟨ch,q,rfl⟩;refine wb ?_<;>intros;refine wF (abX n ss cs C ch (by omega)) ?_;rintro v ⟨tx,zs,es,rfl,h1,h2⟩;refine wb ?_<;>intros;exact wt d (rw_ (trR n ss es)) [] ⟨_,_,_,rfl,C.n1,C.n4,C.s60,C.so,by omega,h2⟩
end AM
namespace AM
open Go Go.Proofs Go.RowKit Mk Iv
def EvA.ev (e:EvA):Ev:=⟨e.thread,e.kind,e.obj,e.value,e.site,e.deps.map λ(n:Nat)=>(n:Int),e.fr.map λ(n:Nat)=>(n:Int)⟩
theorem aeX {n j:Nat}{e:EvA}(h:EvG n j e):EvOk n j e.ev:=by have i:∀ {x:Int},i64 x->inI64 x:=(λhx=>by have:=dY.1 hx;exact⟨this.1,by omega⟩);have d:∀ {l:List Nat},Asc j l->(((l.map λ(n:Nat)=>(n:Int)).length:Int)<=j/\∀x∈l.map λ(n:Nat)=>(n:Int),0<=x/\x<j):=(λa=>by refine⟨by rw[iM];have:=a.len;omega,λx hx=>?_⟩;obtain⟨q,u,rfl⟩:=jo.1 hx;have:=a.2 q u;omega);exact⟨h.th.1,h.th.2,h.kd.1,h.kd.2,i h.obj,i h.val,h.site.1,h.site.2,d h.dp,d h.frm⟩
def Bc (w:World)(B:Nat):Psi:=⟨λb o=>if b<B then w.cell? ⟨b,o,none⟩ else none,λ_=>none⟩
def Yu (w:World)(B:Nat):Fr:=⟨w,λb=>b<w.heap.size,Bc w B,λ_=>none,0⟩
def BU (Ψ:Psi)(Bd:Nat)(w:World):Prop:=∀b o v,Ψ.fz b o=some v->b<Bd/\w.cell? ⟨b,o,none⟩=some v
theorem Ok.fzIn {fr:Fr}{Ψ:Psi}{loc:Loc}{σ:Sto}{w:World}(h:Ok fr Ψ loc σ w):BU Ψ w.heap.size w:=λb o v e=>⟨h.fz_lt e,h.fz b o v e⟩
theorem ai4 (w:World)(B:Nat):Ok (Yu w B) (Bc w B) (λ_=>none) (qw []) w:=by
 constructor
 . intro b o v h;unfold Bc at h;dsimp only at h;split at h;exact h
   cases h
 . exactλb cts m h=>nomatch h
 exact(λl o h=>by simp[qw] at h);exact(λl l' o o' b h=>by simp[qw] at h);exactλl o b h=>by simp[qw] at h
 . exactλb e h=>nomatch h
 exactλb h=>⟨h,rfl⟩;exact au _;exact⟨rfl,rfl,rfl⟩;exactλb _ q=>rfl;exact Psi.le.refl _;exactλl h=>absurd h (Nat.not_lt_zero l)
theorem join {P:Program}{f:FuncId}{args:List AV}{post:AV->List (Option Obj)->Prop}(h:ACall P f args [] post)(w:World)(B:Nat)(vs:Array Value)(hr:Ym (Bc w B) (λ_=>none) args vs.toList):
 Calls P f vs w λe w'=>∃r v g Ψ' a,e= .returned r/\post v g/\RepA Ψ' a v r/\Ok (Yu w B) Ψ' a (qw g) w':=
 (h (Yu w B) (Bc w B) (λ_=>none) w vs (ai4 w B) rfl (λ_ _=>rfl) hr).mono λe w' ⟨r,v,g,Ψ',a,h1,h2,_,_,h3,h4,_⟩=>⟨r,v,g,Ψ',a,h1,h2,h3,h4⟩
theorem NH {w w':World}{B:Nat}{Ψ:Psi}{loc:Loc}{σ:Sto}(h:Ok (Yu w B) Ψ loc σ w'):w.grownBy w' none:=⟨h.os.1,h.os.2.1,h.os.2.2,h.sz,λk hk _=>(h.pr k hk).2⟩
theorem NI {w w' W:World}{B g:Nat}{Ψ:Psi}{loc:Loc}{σ:Sto}(h:Ok (Yu w B) Ψ loc σ w')(hW:w'.grownBy W (some g))(h1:B<=g)(h2:g<w.heap.size):BU Ψ w'.heap.size W:=λb o v e=>by
 have a:=h.fz_lt e
 refine⟨a,?_⟩
 have d:b≠g:=λq=>by
  subst q
  have h3:Ψ.fz b o=(Bc w B).fz b o:=h.pz b h2 o
  rw[e] at h3
  unfold Bc at h3
  dsimp only at h3
  rw[if_neg (by omega)] at h3
  cases h3
 rw[lY (hW.block b a (λq=>d (by simpa using q)))]
 exact h.fz b o v e
theorem vP {w:World}{B n c:Nat}{A:Option Addr}{xs:Bytes}(h:Lies w B 1 A n (xs.map bv))(hc:n<=c)(ho:A=none->c=0):Rep (Bc w B) (UL xs) (.slice A n c):=by
 have d:=h.1;rw[iM,je] at d;subst d;rcases oW xs.length with h0|h0;have:=mi h0;subst this;exact .nil ho
 . obtain⟨⟨b,o,s⟩,rfl,hb,hcell⟩:=h.2 h0;have hg:∀k (hk:k<xs.length),w.cell? ((⟨b,o,s⟩:Addr).add k)=some (bv xs[k]):=λk hk=>hcell k _ (by rw[bV,bH hk];rfl);have hs:s=none:=by
    have:=hg 0 h0;simp only[Addr.add,↓reduceIte,World.cell?] at this
    cases s with
    |none=>rfl
    |some q=>split at this<;>simp at this
   subst hs;refine .sl (k:=1) (λi _=>bv (xs.getD i 0)) (by rw[iM]) hc (λrow hr=>by obtain⟨x,_,rfl⟩:=jo.1 hr;rfl) ?_ ?_
   . intro i j p a;simp only[cellOf,bV,Option.bind_map] at a
     cases hx:xs[i]? with
     |none=>simp [hx] at a
     |
      some x=>
      simp only[hx,wP,Function.comp] at a;obtain⟨hi,rfl⟩:=dF.1 hx
      have u:j=0:=by cases j with
       |zero=>rfl
       |succ j=>simp at a
      subst u;have:=hg i hi;show (if b<B then w.cell? ⟨b,o+(i*1+0),none⟩ else none)=_;rw[if_pos hb];rw[je,sK,qC,hx,Option.getD_some,<-this];congr 1;unfold Addr.add;split;simp_all;rfl
   . intro i j p a;simp only[cellOf,bV,Option.bind_map] at a
     cases hx:xs[i]? with
     |none=>simp [hx] at a
     |
      some x=>
      simp only[hx,wP,Function.comp] at a
      cases j with
      |
       zero=>
       simp only[oZ,ig] at a;subst a;rw[qC,hx];exact .sc rfl
      |succ j=>simp at a
theorem Hr {Ψ:Psi}{d:Nat}{w:World}(q:BU Ψ d w){l:List Nat}{v:Value}(h:Rep Ψ (.sl (nL l)) v):∃A c,v= .slice A l.length c/\Lies w d 1 A l.length ((l.map λ(n:Nat)=>(n:Int)).map Iv.iv):=by
 generalize he:nL l=els at h
 cases h with
 |
  nil=>
  have:l=[]:=Jj.1 he;subst this;exact⟨_,_,rfl,⟨rfl,λh=>absurd h (Jk 0)⟩⟩
 |
  @sl _ b o c n k f hn hnc hk hf hr=>
  subst he;rw[iM] at hn;subst hn;refine⟨_,_,rfl,by simp,λh0=>?_⟩;have y:k=1:=(hk _ (Jl (fA h0))).symm;subst y;have hc:∀i (hi:i<l.length),b<d/\w.cell? ⟨b,o+i,none⟩=some (Iv.iv (l[i]:Nat)):=(λi hi=>by have h1:cellOf (nL l) i 0=some (ah (l[i]:Nat)):=(by simp[cellOf,hi,nP]);obtain⟨h0,h2⟩:=q _ _ _ (hf i 0 _ h1);rw[je,sK] at h2;refine⟨h0,?_⟩;rw[h2,(fC (loc:=λ_=>none) (.pv (hr i 0 _ h1))).1];rfl);refine⟨⟨b,o,none⟩,rfl,(hc 0 h0).1,λj u a=>?_⟩;rw[bV,bV] at a
  cases hx:l[j]? with
  |none=>rw [hx] at a;simp at a
  |
   some x=>
   obtain⟨B,rfl⟩:=dF.1 hx;rw[hx] at a;simp only[nU,ig] at a;subst a;have:=(hc j B).2;rw[<-this];congr 1;unfold Addr.add;split;simp_all;rfl
end AM
namespace AM
open Go Go.Proofs Go.RowKit Iv
def pvV:PV->Value
 | .sc v=>v
 |_=>undef
def fM (els:List (List PV)):List Value:=els.flatMap (·.map pvV)
theorem Qb {k:Nat} :∀ {els:List (List PV)},(∀r∈els,r.length=k)->∀ {j:Nat}{u:Value},(fM els)[j]?=some u->∃i q r p,els[i]?=some r/\r[q]?=some p/\j=i*k+q/\u=pvV p
 | [],_,j,u,h=>by simp[fM] at h
 |
  r::t,hk,j,u,h=>by
  have hr:r.length=k:=hk r (by simp)
  have e:fM (r::t)=r.map pvV++fM t:=by simp[fM]
  rw[e] at h
  by_cases a:j<k
  . rw[jX (by simpa [hr] using a),bV] at h
    cases hp:r[j]? with
    |none=>rw [hp] at h;simp at h
    |
     some p=>
     rw[hp] at h
     simp only[nU,ig] at h
     exact⟨0,j,r,p,by simp,hp,by simp,h.symm⟩
  . rw[jY (by simp[hr];omega)] at h
    obtain⟨i,q,d,p,h1,h2,h3,h4⟩:=Qb (λr hr=>hk r (by simp[hr])) h
    refine⟨i+1,q,d,p,by simpa using h1,h2,?_,h4⟩
    rw[iM,hr] at h3
    rw[jW]
    omega
theorem Qc {k:Nat} :∀ {els:List (List PV)},(∀r∈els,r.length=k)->(fM els).length=els.length*k
 | [],_=>by simp[fM]
 |
  r::t,hk=>by
  have e:fM (r::t)=r.map pvV++fM t:=by simp[fM]
  rw[e,bI,iM,hk r (by simp),Qc (λr hr=>hk r (by simp[hr])),iZ,jW]
  omega
theorem XG {Ψ:Psi}{a:Nat}{w:World}(d:BU Ψ a w){els:List (List PV)}{v:Value}{k:Nat}(hk:∀r∈els,r.length=k)(E:0<k)(y:∀r∈els,∀p∈r,∃x,p= .sc x)(h:Rep Ψ (.sl els) v):
 ∃A c,v= .slice A els.length c/\Lies w a k A els.length (fM els)/\(0<els.length->els.length<=c/\∃b o,A=some ⟨b,o,none⟩)/\(A=none->c=0):=by
 cases h with
 |nil hA=>exact ⟨_,_,rfl,⟨by simp[fM],λh=>absurd h (Jk 0)⟩,λh=>absurd h (Jk 0),hA⟩
 |
  @sl _ b o c n k' f hn hnc hk' hf hr=>
  subst hn;refine⟨_,_,rfl,⟨Qc hk,λh0=>?_⟩,λ_=>⟨hnc,b,o,rfl⟩,λh=>nomatch h⟩;have B:k'=k:=(by have h1:=hk' _ (fA h0);rw[hk _ (fA h0)] at h1;exact h1.symm);subst B;have hc:∀i q r p,els[i]?=some r->r[q]?=some p->b<a/\w.cell? ⟨b,o+(i*k'+q),none⟩=some (pvV p):=(λi q r p h1 h2=>by have h3:cellOf els i q=some p:=(by simp only[cellOf,h1,wP];exact h2);obtain⟨h4,h5⟩:=d _ _ _ (hf i q _ h3);refine⟨h4,?_⟩;rw[h5];obtain⟨x,rfl⟩:=y r (gZ h1) p (gZ h2);rw[(fC (loc:=λ_=>none) (.pv (hr i q _ h3))).1];rfl);have D:b<a:=(by have H:(els[0]).length=k':=hk _ (fA h0);exact (hc 0 0 els[0] (els[0])[0] (bH h0) (bH (by omega))).1);refine⟨⟨b,o,none⟩,rfl,D,λj u G=>?_⟩;obtain⟨i,q,r,p,h1,h2,rfl,rfl⟩:=Qb hk G;have:=(hc i q r p h1 h2).2;rw[<-this];congr 1;unfold Addr.add;split;simp_all;rfl
theorem jf {k:Nat} :∀ {els:List (List PV)}{i j:Nat}{r:List PV}{p:PV},(∀r∈els,r.length=k)->els[i]?=some r->r[j]?=some p->(fM els)[i*k+j]?=some (pvV p)
 | [],i,j,r,p,_,h,_=>by simp at h
 |
  r0::t,i,j,r,p,hk,h1,h2=>by
  have e:fM (r0::t)=r0.map pvV++fM t:=by simp[fM]
  have hr:r0.length=k:=hk r0 (by simp)
  rw[e]
  cases i with
  |
   zero=>
   simp only[oZ,ig] at h1
   subst h1
   have a:=(dF.1 h2).1
   rw[TR,fG,jX (by simpa using a),bV,h2]
   rfl
  |
   succ i=>
   rw[jY (by rw[iM,hr,jW];omega),iM,hr,show (i+1)* k+j-k=i*k+j by rw[jW];omega]
   exact jf (λr hr=>hk r (by simp[hr])) (by simpa using h1) h2
theorem YJ {Ψ:Psi}{D:Nat}{w:World}(q:BU Ψ D w){els:List (List PV)}{v:Value}{k bytes:Nat}(hk:∀r∈els,r.length=k)(y:0<k)(a:∀r∈els,∀p∈r,∃x:Value,p= .sc x/\x.oneCell'=true)(hn:els.length<=1000)(hb:bytes<=48)(h:Rep Ψ (.sl els) v):
 ∃A c,v= .slice A els.length c/\Go.Proofs.YtfbkkgfkhhibfaaGreat.In1 w D k bytes A els.length c (fM els)/\(0<els.length->∃b o,A=some ⟨b,o,none⟩):=by obtain⟨A,c,E,G,ha,h0⟩:=XG q hk y (λr hr p B=>by obtain⟨x,hx,_⟩:=a r hr p B;exact⟨x,hx⟩) h;refine⟨A,c,E,⟨G,h0,λu d=>?_,?_,?_⟩,λh=>(ha h).2⟩;unfold fM at d;obtain⟨r,hr,d⟩:=List.mem_flatMap.1 d;obtain⟨p,B,rfl⟩:=jo.1 d;obtain⟨x,rfl,hx⟩:=a r hr p B;exact hx;unfold maxLen;omega;have:els.length*bytes<=1000*48:=zU hn hb;omega
end AM
namespace AM
open Go Go.Proofs Go.Proofs.YtfbkkgfkhhibfaaGreat Go.RowKit Mk Iv
theorem ab8 {Ψ:Psi}{els:List (List PV)}{v:Value}(h:Rep Ψ (.sl els) v):∃A c,v= .slice A els.length c/\els.length<=c:=by
 cases h with
 |nil=>exact ⟨_,_,rfl,ay _⟩
 |sl f hn hnc hk hf hr=>exact ⟨_,_,by rw[hn],by omega⟩
theorem YH {Ψ:Psi}{q:Nat}{w:World}(d:BU Ψ q w){es:List EvA}{v:Value}(h:Rep Ψ (.sl (es.map EvA.r)) v):∃A c,v= .slice A es.length c/\Evs w q A es.length (es.map EvA.ev):=by
 generalize he:es.map EvA.r=els at h
 cases h with
 |
  nil=>
  have:es=[]:=Jj.1 he;subst this;exact⟨_,_,rfl,rfl,λk e hk=>by simp at hk⟩
 |
  @sl _ b o c n k f hn hnc hk hf hr=>
  subst he;rw[iM] at hn;subst hn;refine⟨_,_,rfl,by simp,λi e hi=>?_⟩;rw[bV] at hi
  cases hx:es[i]? with
  |none=>rw [hx] at hi;simp at hi
  |
   some x=>
   rw[hx] at hi;simp only[nU,ig] at hi;subst hi;have y:k=7:=(hk _ (Jl (gZ hx))).symm;subst y;have hc:∀j p,(EvA.r x)[j]?=some p->(b<q/\w.cell? ⟨b,o+i*7+j,none⟩=some (f i j))/\Rep Ψ p (f i j):=(λj p E=>by have h1:cellOf (es.map EvA.r) i j=some p:=(by simp only[cellOf,bV,hx,nU,wP];exact E);have h2:=d _ _ _ (hf i j _ h1);exact⟨by rw[nV];exact h2,hr i j _ h1⟩);have hs:∀j v,(EvA.r x)[j]?=some (.sc v)->w.cell? ⟨b,o+i*7+j,none⟩=some v:=(λj v G=>by obtain⟨⟨_,h1⟩,h2⟩:=hc j _ G;rw[h1,(fC (loc:=λ_=>none) (.pv h2)).1]);obtain⟨⟨B,h5⟩,r5⟩:=hc 5 _ rfl;obtain⟨⟨_,D⟩,r6⟩:=hc 6 _ rfl;obtain⟨Ad,cd,H,ld⟩:=Hr d r5;obtain⟨Af,cf,I,lf⟩:=Hr d r6;rw[H] at h5;rw[I] at D;refine⟨b,o,Ad,cd,Af,cf,rfl,B,λj u a=>?_,by simpa [EvA.ev] using ld,by simpa [EvA.ev] using lf⟩
   match j,a with
   |0,a=>injection a with a;subst a;exact hs 0 _ rfl
   |1,a=>injection a with a;subst a;exact hs 1 _ rfl
   |2,a=>injection a with a;subst a;exact hs 2 _ rfl
   |3,a=>injection a with a;subst a;exact hs 3 _ rfl
   |4,a=>injection a with a;subst a;exact hs 4 _ rfl
   |5,a=>injection a with a;subst a;simpa [EvA.ev] using h5
   |6,a=>injection a with a;subst a;simpa [EvA.ev] using D
   |j+7,a=>simp at a
theorem ab9 {Ψ:Psi}{es:List EvA}{v:Value}(h:Rep Ψ (.sl (es.map EvA.r)) v):∃A c,v= .slice A es.length c/\es.length<=c/\∀a w,BU Ψ a w->Evs w a A es.length (es.map EvA.ev):=by obtain⟨A,c,e,hc⟩:=ab8 h;rw[iM] at e hc;refine⟨A,c,e,hc,λa w hf=>?_⟩;obtain⟨A',u,d,q⟩:=YH hf h;rw[e] at d;injection d with e1 e2 e3;subst e1;exact q
theorem aca (l:List CeR):∀k,k<l.length->AtCell (fM (l.map CeR.r)) k:=λk hk=>by
 have h1:(l.map CeR.r)[k]?=some (CeR.r l[k]):=by rw[bV,bH hk];rfl
 have a:∀r∈l.map CeR.r,r.length=5:=λr hr=>by obtain⟨x,_,rfl⟩:=jo.1 hr;rfl
 exact⟨_,_,_,_,_,jf a h1 (j:=0) rfl,jf a h1 (j:=1) rfl,jf a h1 (j:=2) rfl,jf a h1 (j:=3) rfl,jf a h1 (j:=4) rfl⟩
theorem acb (l:List (ByteArray×Bool)):∀k,k<l.length->AtLock (fM (l.map QD)) k:=λk hk=>by
 have h1:(l.map QD)[k]?=some (QD l[k]):=by rw[bV,bH hk];rfl
 have a:∀r∈l.map QD,r.length=2:=λr hr=>by obtain⟨x,_,rfl⟩:=jo.1 hr;rfl
 exact⟨_,_,jf a h1 (j:=0) rfl,jf a h1 (j:=1) rfl⟩
theorem acd (l:List (ByteArray×Int)):∀k,k<l.length->AtCond (fM (l.map XP)) k:=λk hk=>by
 have h1:(l.map XP)[k]?=some (XP l[k]):=by rw[bV,bH hk];rfl
 have a:∀r∈l.map XP,r.length=2:=λr hr=>by obtain⟨x,_,rfl⟩:=jo.1 hr;rfl
 exact⟨_,_,jf a h1 (j:=0) rfl,jf a h1 (j:=1) rfl⟩
theorem YI (l:List ByteArray):∀k,k<l.length->AtStr (fM (jm l)) k:=λk hk=>by
 have h1:(jm l)[k]?=some [dP l[k]]:=by unfold jm;rw[bV,bH hk];rfl
 have a:∀r∈jm l,r.length=1:=λr hr=>by unfold jm at hr;obtain⟨x,_,rfl⟩:=jo.1 hr;rfl
 exact⟨_,jf a h1 (j:=0) rfl⟩
theorem ace (l:List (Nat×Nat)):∀k,k<l.length->AtSite (fM (l.map XR)) k:=λk hk=>by
 have h1:(l.map XR)[k]?=some (XR l[k]):=by rw[bV,bH hk];rfl
 have a:∀r∈l.map XR,r.length=3:=λr hr=>by obtain⟨x,_,rfl⟩:=jo.1 hr;rfl
 exact⟨_,_,_,jf a h1 (j:=0) rfl,jf a h1 (j:=1) rfl,jf a h1 (j:=2) rfl⟩
theorem vT {α:Type}{Ψ:Psi}{loc:Loc}(l:List α)(R:α->List PV){x:Value}(k bytes:Nat)(hk:∀a,(R a).length=k)(y:0<k)(B:∀a,∀p∈R a,∃x:Value,p= .sc x/\x.oneCell'=true)(hn:l.length<=1000)(hb:bytes<=48)(h:RepA Ψ loc (.pv (.sl (l.map R))) x){u:Nat}{w0:World}(h0:BU Ψ u w0):
 ∃A c,x= .slice A l.length c/\(∀q w,BU Ψ q w->In1 w q k bytes A l.length c (fM (l.map R)))/\(0<l.length->∃b o,A=some ⟨b,o,none⟩):=by
 cases h with
 |
  pv h=>
  have key:=λ(q:Nat) (w:World) (d:BU Ψ q w)=>YJ d (bytes:=bytes) (k:=k) (λr hr=>by obtain⟨a,_,rfl⟩:=jo.1 hr;exact hk a) y (λr hr=>by obtain⟨a,_,rfl⟩:=jo.1 hr;exact B a) (by rw[iM];exact hn) hb h;simp only[iM] at key;obtain⟨A,c,e,_,ha⟩:=key u w0 h0;refine⟨A,c,e,λq w d=>?_,ha⟩;obtain⟨A',G,D,E,_⟩:=key q w d;rw[e] at D;injection D with e1 e2 e3;subst e1 e3;exact E
end AM
namespace Go.Proofs.YtfbkkgfkhhibfaaGreat
open Go Go.RowKit Iv AM
theorem QY (w:World)(B:Nat)(A1:Option Addr)(n1 c1:Nat)(xs:Bytes)(hx:Lies w B 1 A1 n1 (xs.map bv))(ZS:n1<=c1)(Y:n1<=1000)(I:A1=none->c1=0)(A2:Option Addr)(m c2:Nat)(ys:Bytes)(O:Lies w B 1 A2 m (ys.map bv))(ZD:m<=c2)(hm:m<=1000)(J:A2=none->c2=0):
 Calls Tryz.prog 9 #[.slice A1 n1 c1,.slice A2 m c2] w λe w'=>aje w B m e w':=by
 have l1:xs.length=n1:=(by have:=hx.1;rw[iM] at this;omega);have l2:ys.length=m:=(by have:=O.1;rw[iM] at this;omega);refine (join (Yf xs ys (by omega) (by omega)).2.2 w B _ ⟨rfl,λj v y=>?_⟩).mono ?_
 . match j,y with
   |0,y=>injection y with y;subst y;exact⟨_,rfl,.pv (vP hx ZS I)⟩
   |1,y=>injection y with y;subst y;exact⟨_,rfl,.pv (vP O ZD J)⟩
 rintro e w' ⟨r,v,g,Ψ,loc,rfl,⟨-,-,n,ss,es,rfl,h1,h4,Z,_,hl,L⟩,y,d⟩
 cases y with
 |
  @agg _ us f hs hx hr=>
  (((((((((((((obtain⟨a0,c0,e0,i0,b0⟩:=vT Qv CeR.r 5 48 (λ_=>rfl) (by omega) (λa p u=>by simp only[CeR.r,gJ,mG,or_false] at u;rcases u with rfl|rfl|rfl|rfl|rfl<;>exact⟨_,rfl,rfl⟩) (by decide) (by omega) (hr 0 _ rfl) d.fzIn);obtain⟨a1,c1,e1,i1,b1⟩:=vT QC QD 2 24 (λ_=>rfl) (by omega) (λa p u=>by simp only[QD,gJ,mG,or_false] at u;rcases u with rfl|rfl<;>exact⟨_,rfl,rfl⟩) (by decide) (by omega) (hr 1 _ rfl) d.fzIn);obtain⟨a2,c2,e2,i2,b2⟩:=vT Qw XP 2 24 (λ_=>rfl) (by omega) (λa p u=>by simp only[XP,gJ,mG,or_false] at u;rcases u with rfl|rfl<;>exact⟨_,rfl,rfl⟩) (by decide) (by omega) (hr 2 _ rfl) d.fzIn);obtain⟨a3,c3,e3,i3,b3⟩:=vT XQ (λs=> [dP s]) 1 16 (λ_=>rfl) (by omega) (λa p u=>by simp only[gJ,mG,or_false] at u;subst u;exact⟨_,rfl,rfl⟩) (by decide) (by omega) (hr 3 _ rfl) d.fzIn);obtain⟨a4,c4,e4,R,U⟩:=vT (Mk.thNames n) (λs=> [dP s]) 1 16 (λ_=>rfl) (by omega) (λa p u=>by simp only[gJ,mG,or_false] at u;subst u;exact⟨_,rfl,rfl⟩) (by rw[Mk.thNames_len];omega) (by omega) (hr 4 _ rfl) d.fzIn);obtain⟨a5,c5,e5,i5,b5⟩:=vT ss XR 3 24 (λ_=>rfl) (by omega) (λa p u=>by simp only[XR,gJ,mG,or_false] at u;rcases u with rfl|rfl|rfl<;>exact⟨_,rfl,rfl⟩) (by omega) (by omega) (hr 5 _ rfl) d.fzIn);have w0:=aca Qv);have w1:=acb QC);have w2:=acd Qw);have w3:=YI XQ);have V:=YI (Mk.thNames n));have w5:=ace ss);rw[Mk.thNames_len] at e4 R U V);obtain⟨A,c,e6,M,hE⟩:∃A c,f 6= .slice A es.length c/\es.length<=c/\∀D w,BU Ψ D w->Evs w D A es.length (es.map EvA.ev):=by
   have:=hr 6 _ rfl
   cases this with
   |pv h=>exact ab9 h
  have N:us=#[.slice a0 Qv.length c0,.slice a1 QC.length c1,.slice a2 Qw.length c2,.slice a3 XQ.length c3,.slice a4 n c4,.slice a5 ss.length c5,.slice A es.length c]:=(by refine DL (by rw[hs];rfl) (λj h1 h2=>?_);have h3:j<7:=h2;have q:=hx j h3;rw[Ba h1] at q;injection q with q;rw[q];obtain rfl|rfl|rfl|rfl|rfl|rfl|rfl:j=0\/j=1\/j=2\/j=3\/j=4\/j=5\/j=6:=(by omega);exact e0;exact e1;exact e2;exact e3;exact e4;exact e5;exact e6);subst N;have X:=λ(D:Nat) (w:World) (hf:BU Ψ D w)=>(⟨i0 D w hf,i1 D w hf,i2 D w hf,i3 D w hf,R D w hf,i5 D w hf,w0,w1,w2,w3,V,w5,b0,b1,b2,b3,U,b5⟩:WIn w D _ _ _ _ _ _ _ _ _ _ _ _ _ _ _ _ _ _ _ _ _ _ _ _);have E:(es.map EvA.ev).length=es.length:=iM _;refine⟨a0,_,c0,_,a1,_,c1,_,a2,_,c2,_,a3,_,c3,_,a4,n,c4,_,a5,_,c5,_,A,c,es.map EvA.ev,by rw[E],by rw[E];exact M,⟨h1,h4,by rw[E];omega,by rw[E];exact hE _ _ d.fzIn,λk e hk=>?_⟩,X _ _ d.fzIn,λW g hW G H=>⟨by rw[E];exact hE _ _ (NI d hW G H),X _ _ (NI d hW G H)⟩,NH d⟩;rw[bV] at hk
  cases u:es[k]? with
  |none=>rw [u] at hk;simp at hk
  |
   some x=>
   rw[u] at hk;simp only[nU,ig] at hk;subst hk;exact aeX (L k x u)
theorem afb:QT:=QY
end Go.Proofs.YtfbkkgfkhhibfaaGreat
namespace AM
open Go Go.Proofs Go.Proofs.YtfbkkgfkhhibfaaGreat Mk Iv
set_option maxRecDepth 20000
set_option maxHeartbeats 8000000
@[go_sem] theorem auf:lay Tryz.prog 39=some (true,4)/\
 lay Tryz.prog 24=some (true,4)/\
 lay Tryz.prog 68=some (true,2)/\
 lay Tryz.prog 36=some (false,1)/\
 aZ Tryz.prog 36=some (68,2,16)/\
 aY Tryz.prog 39 0=some 0/\
 aY Tryz.prog 39 1=some 1/\
 aY Tryz.prog 39 2=some 2/\
 aY Tryz.prog 39 3=some 3/\
 aY Tryz.prog 24 0=some 0/\
 aY Tryz.prog 24 1=some 1/\
 aY Tryz.prog 24 2=some 2/\
 aY Tryz.prog 24 3=some 3/\
 eu Tryz.prog 39=some [.pv (ah 0),.emp,.pv (ah 0),.emp]/\
 eu Tryz.prog 68=some [.pv (ah 0),.pv (ah 0)]/\
 dw Tryz.prog 39=some [(0,1),(1,1),(2,1),(3,1)]/\
 dw Tryz.prog 68=some [(0,1),(1,1)]:=by and_intros<;>kernel_rfl
@[go_sem] def plR (p:Pln):List PV:=[ah p.cap,.sl (p.flushes.map VK),ah p.stop,.sl (XV p.cuts)]
def aoq:Nat->List (Nat×Nat):=λi=>if i=5 then [(1,3),(1,5),(1,6),(1,10),(3,10),(5,10),(6,10),(1,12),(3,12),(5,12),(6,12),(1,13),(3,13),(5,13),(6,13)] else if i=9 then [(1,3),(1,5),(1,6)] else []
attribute [local go_sem] List.set_cons_zero List.set_cons_succ List.map_append List.length_append List.map_cons List.map_nil List.length_singleton
end AM
namespace AM
open Go Go.Proofs Go.Proofs.YtfbkkgfkhhibfaaGreat Go.RowKit Mk Iv
theorem Tc {fr:Fr}{Ψ:Psi}{loc:Loc}{σ:Sto}{w:World}(d:Ok fr Ψ loc σ w){l:List Int}{v:Value}(h:Rep Ψ (.sl (XV l)) v):∃A c,v= .slice A l.length c/\Lies w w.heap.size 1 A l.length (l.map Iv.iv):=by
 generalize he:XV l=els at h
 cases h with
 |
  nil=>
  have:l=[]:=Jj.1 he;subst this;exact⟨_,_,rfl,⟨rfl,λh=>absurd h (Jk 0)⟩⟩
 |
  @sl _ b o c n k f hn hnc hk hf hr=>
  subst he;rw[iM] at hn;subst hn;refine⟨_,_,rfl,by simp,λh0=>?_⟩;have q:k=1:=(hk _ (Jl (fA h0))).symm;subst q;have hc:∀i (hi:i<l.length),w.cell? ⟨b,o+i,none⟩=some (Iv.iv l[i]):=(λi hi=>by have h1:cellOf (XV l) i 0=some (ah l[i]):=(by simp[cellOf,hi]);have h2:=d.fz _ _ _ (hf i 0 _ h1);rw[je,sK] at h2;rw[h2,(fC (loc:=loc) (.pv (hr i 0 _ h1))).1];rfl);refine⟨⟨b,o,none⟩,rfl,Hq w _ (hc 0 h0),λj u a=>?_⟩;rw[bV] at a
  cases hx:l[j]? with
  |none=>rw [hx] at a;simp at a
  |
   some x=>
   obtain⟨y,rfl⟩:=dF.1 hx;rw[hx] at a;simp only[nU,ig] at a;subst a;have:=hc j y;rw[<-this];congr 1;unfold Addr.add;split;simp_all;rfl
theorem acQ {fr:Fr}{Ψ:Psi}{loc:Loc}{σ:Sto}{w:World}(a:Ok fr Ψ loc σ w){l:List (Int×Int)}{v:Value}(h:Rep Ψ (.sl (l.map VK)) v):∃A c,v= .slice A l.length c/\Fls w w.heap.size A l.length l:=by
 generalize he:l.map VK=els at h
 cases h with
 |
  nil=>
  have:l=[]:=Jj.1 he;subst this;exact⟨_,_,rfl,rfl,λk f hk=>by simp at hk⟩
 |
  @sl _ b o c n k f hn hnc hk hf hr=>
  subst he;rw[iM] at hn;subst hn;refine⟨_,_,rfl,rfl,λi x hx=>?_⟩;have d:k=2:=(hk _ (Jl (gZ hx))).symm;subst d;have hs:∀j v,(VK x)[j]?=some (.sc v)->w.cell? ⟨b,o+i*2+j,none⟩=some v:=(λj v q=>by have h1:cellOf (l.map VK) i j=some (.sc v):=(by simp only[cellOf,bV,hx,nU,wP];exact q);rw[nV,a.fz _ _ _ (hf i j _ h1),(fC (loc:=loc) (.pv (hr i j _ h1))).1]);have h0:=hs 0 _ rfl;exact⟨b,o,rfl,Hq w _ h0,h0,hs 1 _ rfl⟩
end AM
namespace Go.Proofs.YtfbkkgfkhhibfaaGreat
open Go Go.RowKit Iv AM
end Go.Proofs.YtfbkkgfkhhibfaaGreat
namespace AM
open Go Go.Proofs Go.Proofs.YtfbkkgfkhhibfaaGreat Mk Iv
set_option maxRecDepth 20000
set_option maxHeartbeats 8000000
@[go_sem] theorem asH:lay Tryz.prog 57=some (true,4)/\
 aY Tryz.prog 57 0=some 0/\
 aY Tryz.prog 57 1=some 1/\
 aY Tryz.prog 57 2=some 2/\
 aY Tryz.prog 57 3=some 3:=by and_intros<;>kernel_rfl
attribute [local go_sem] List.set_cons_zero List.set_cons_succ List.map_append List.length_append List.map_cons List.map_nil List.length_singleton
theorem WE (n:Nat)(h1:1<=n)(h4:n<=4)(cap stop:Nat)(hc:cap<256)(hs:stop<256)(xs ys:List UInt8)(hx:xs.length<=9223372036854775807)(H:ys.length<=9223372036854775807):lq Tryz.prog 20 [rw_ [.sc (.int .u8 cap),.sc (.int .u8 stop),UL xs,UL ys],.pv (ah n)] (λr=>∃p,PlnG n p/\r=rw_ (plR p)):=by
 refine wf Tryz.func20 aoq (h:=λR G=>?_);refine wb ?_<;>intros;have q:IntKind.i64.wrap ((cap:Int).tmod 8+1)=((cap%8+1:Nat):Int):=(by show IntKind.i64.wrap (((cap%8:Nat):Int)+1)=_;rw[fP _ (by omega)];omega);generalize IntKind.i64.wrap ((cap:Int).tmod 8+1)=c0 at q;refine dO 88 1 68 2 rfl rfl ?_;refine wl (λu:List (Int×Int)=> [(1,.pv (ah n)),(2,.ptr 0 0),(4,.ptr 1 0),(5,.ptr 2 0),(6,.pv (ah u.length))]) (λu=> [some (.box [.pv (.sc (.int .u8 cap)),.pv (.sc (.int .u8 stop)),.pv (UL xs),.pv (UL ys)]),some (.box [.pv (ah 0),.emp,.pv (ah 0),.emp]),some (.box [.pv (ah c0),.own 3 u.length,.pv (ah stop),.emp]),some (.row 68 2 (u.map VK))]) (λu=>u.length<=xs.length/\u.length<=20/\∀f∈u,0<=f.1/\f.1<=255/\0<=f.2/\f.2<n) (λu=>xs.length-u.length) [] ⟨ay _,ay _,λf h=>nomatch h⟩ (vm [0,8,88,112]) (λu ⟨I,y,hf⟩=>?_);refine wb (A2.mk ?_ (A2.mk ?_ ?_))<;>intros
 . have h2:u.length<xs.length:=(by omega);have hg:=bH h2;generalize xs[u.length]=x at hg;have B:=x.toNat_lt;have d:(xs.map λx=> [PV.sc (.int .u8 x.toNat)])[u.length]?=some [.sc (.int .u8 x.toNat)]:=(by rw[bV,hg];rfl);refine aA (by omega) d rfl ?_;refine wb ?_<;>intros;refine aA (by omega) d rfl ?_;refine wb ?_<;>intros;have E:IntKind.i64.wrap ((x.toNat:Int).tdiv 4)=((x.toNat/4:Nat):Int):=by
    show IntKind.i64.wrap ((x.toNat/4:Nat):Int)=_;exact fP _ (by omega)
   have hm:x.toNat%n<n:=zt _ (by omega);refine ak ⟨u++[(IntKind.i64.wrap ((x.toNat:Int).tdiv 4),((x.toNat%n:Nat):Int))],⟨by rw[bI];simp only[qA];omega,by rw[bI];simp only[qA];omega,λf a=>?_⟩,by rw[bI];simp only[qA];omega,by clear E;exact vm [0,1,2,228]⟩;rcases jh.1 a with a|a;exact hf f a;rw[lZ.1 a];dsimp only;rw[E];omega
 all_goals
  refine dO 2 3 3 1 rfl rfl ?_;refine wl (λv:List Int=> [(1,.pv (ah n)),(2,.ptr 0 0),(4,.ptr 1 0),(5,.ptr 2 0),(7,.pv (ah v.length))]) (λv=> [some (.box [.pv (.sc (.int .u8 cap)),.pv (.sc (.int .u8 stop)),.pv (UL xs),.pv (UL ys)]),some (.box [.pv (ah 0),.emp,.pv (ah 0),.emp]),some (.box [.pv (ah c0),.own 3 u.length,.pv (ah stop),.own 4 v.length]),some (.row 68 2 (u.map VK)),some (.row 3 1 (XV v))]) (λv=>v.length<=ys.length/\v.length<=n/\∀k∈v,0<=k/\k<=255) (λv=>ys.length-v.length) [] ⟨ay _,ay _,λf h=>nomatch h⟩ (vm [0,1,2,3,84]) (λv ⟨J,D,hk⟩=>?_);refine wb (A2.mk ?_ (A2.mk ?_ ?_))<;>intros;have h2:v.length<ys.length:=(by omega);have hg:=bH h2;generalize ys[v.length]=x at hg;have B:=x.toNat_lt;have d:(ys.map λx=> [PV.sc (.int .u8 x.toNat)])[v.length]?=some [.sc (.int .u8 x.toNat)]:=(by rw[bV,hg];rfl);refine aA (by omega) d rfl ?_;refine wb ?_<;>intros;refine ak ⟨v++[(x.toNat:Int)],⟨by rw[bI];simp only[qA];omega,by rw[bI];simp only[qA];omega,λf a=>?_⟩,by rw[bI];simp only[qA];omega,vm [0,1,2,3,157]⟩;rcases jh.1 a with a|a;exact hk f a;rw[lZ.1 a];omega;all_goals exact wt G (rw_ (plR ⟨c0,u,stop,v⟩)) [(3,none),(4,none)] ⟨⟨c0,u,stop,v⟩,⟨by show 1<=c0;omega,by show c0<=8;omega,by show (0:Int)<=stop;omega,by show (stop:Int)<=255;omega,y,hf,D,hk⟩,rfl⟩
end AM
namespace Go.Proofs.YtfbkkgfkhhibfaaGreat
open Go Go.RowKit Iv AM
theorem Uc (w:World)(n cap stop:Nat)(h1:1<=n)(h4:n<=4)(hc:cap<256)(hs:stop<256)(A1:Option Addr)(n1 c1 D:Nat)(xs:Bytes)(hx:Lies w D 1 A1 n1 (xs.map bv))(ZS:n1<=c1)(H:c1<=maxLen)(I:A1=none->c1=0)(A2:Option Addr)(n2 c2 E:Nat)(ys:Bytes)(N:Lies w E 1 A2 n2 (ys.map bv))(ZD:n2<=c2)(J:c2<=maxLen)(L:A2=none->c2=0):
 Calls Tryz.prog 20 #[.agg #[.int .u8 (cap:Int),.int .u8 (stop:Int),.slice A1 n1 c1,.slice A2 n2 c2],.int .i64 (n:Int)] w λe w'=>
  ∃(p:Pln) (Af:Option Addr) (cf:Nat) (B:Option Addr) (G:Nat),e= .returned (.agg (yO p Af p.flushes.length cf B p.cuts.length G))/\PlnG n p/\Fls w' w'.heap.size Af p.flushes.length p.flushes/\Lies w' w'.heap.size 1 B p.cuts.length (p.cuts.map iv)/\w.grownBy w' none:=by
 have l1:xs.length=n1:=(by have:=hx.1;rw[iM] at this;omega);have l2:ys.length=n2:=(by have:=N.1;rw[iM] at this;omega);unfold maxLen at H J;refine (join (WE n h1 h4 cap stop hc hs xs ys (by omega) (by omega)).2.2 w (max D E) _ ⟨rfl,λj v d=>?_⟩).mono ?_
 . match j,d with
   |
    0,d=>
    injection d with d;subst d;refine⟨_,rfl,.agg (λj=>(#[.int .u8 (cap:Int),.int .u8 (stop:Int),.slice A1 n1 c1,.slice A2 n2 c2]:Array Value).getD j undef) rfl (λj O=>?_) (λj u a=>?_)⟩
    . have h4:j<4:=O;obtain rfl|rfl|rfl|rfl:j=0\/j=1\/j=2\/j=3:=(by omega);all_goals rfl
    . match j,a with
      |0,a=>injection a with a;subst a;exact .pv (.sc rfl)
      |1,a=>injection a with a;subst a;exact .pv (.sc rfl)
      |2,a=>injection a with a;subst a;exact .pv (vP (hx.more (TP D E)) ZS I)
      |3,a=>injection a with a;subst a;exact .pv (vP (N.more (TQ D E)) ZD L)
   |1,d=>injection d with d;subst d;exact⟨_,rfl,.pv (.sc rfl)⟩
 rintro e w' ⟨r,v,g,Ψ,loc,rfl,⟨-,-,p,R,rfl⟩,d,y⟩
 cases d with
 |
  @agg _ us f hz hx' hr=>
  have e0:=(fC (hr 0 _ rfl)).1;have U:=(fC (hr 2 _ rfl)).1;obtain⟨Af,cf,e1,hF⟩:∃A c,f 1= .slice A p.flushes.length c/\Fls w' w'.heap.size A p.flushes.length p.flushes:=by
   have:=hr 1 _ rfl
   cases this with
   |pv h=>exact acQ y h
  obtain⟨B,G,V,X⟩:∃A c,f 3= .slice A p.cuts.length c/\Lies w' w'.heap.size 1 A p.cuts.length (p.cuts.map iv):=by
   have:=hr 3 _ rfl
   cases this with
   |pv h=>exact Tc y h
  have M:us=yO p Af p.flushes.length cf B p.cuts.length G:=(by refine DL (by rw[hz];rfl) (λj h1 h2=>?_);have h3:j<4:=h2;have q:=hx' j h3;rw[Ba h1] at q;injection q with q;rw[q];obtain rfl|rfl|rfl|rfl:j=0\/j=1\/j=2\/j=3:=(by omega);exact e0;exact e1;exact U;exact V);subst M;exact⟨p,Af,cf,B,G,rfl,R,hF,X,NH y⟩
theorem afc:QU:=Uc
