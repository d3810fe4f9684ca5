/- Words. -/
import Derived.Test.YtfbkkgfkhhibfaaGreatFs
set_option linter.unusedVariables false
set_option linter.unusedSimpArgs false
namespace AM
open Go Go.Proofs Mk
set_option maxRecDepth 20000
set_option maxHeartbeats 8000000
structure CeR where
 name:ByteArray
 ix:Int
 size:Int
 vol:Bool
 init:Int
@[go_sem] def CeR.r (c:CeR):List PV:=[dJ c.name,ah c.ix,ah c.size,boolP c.vol,ah c.init]
def Qd:List CeR:=[⟨⟨#[120]⟩,0,0,false,0⟩,⟨⟨#[121]⟩,0,0,false,1⟩,⟨⟨#[118]⟩,0,0,true,0⟩,⟨⟨#[113]⟩,0,2,false,0⟩,⟨⟨#[113]⟩,1,2,false,0⟩]
def Qm:List (ByteArray×Bool):=[(⟨#[109]⟩,false),(⟨#[110]⟩,false),(⟨#[114]⟩,true)]
@[go_sem] def Qn (p:ByteArray×Bool):List PV:=[dJ p.1,boolP p.2]
def Qe:List (ByteArray×Int):=[(⟨#[99]⟩,0)]
@[go_sem] def XE (p:ByteArray×Int):List PV:=[dJ p.1,ah p.2]
def XF:List ByteArray:=[⟨#[102]⟩]
@[go_sem] def XG (p:Nat×Nat):List PV:=[ah p.1,ah p.2,ah 0]
@[go_sem] def qL (n:Nat)(ss:List (Nat×Nat)):List PV:=[.sl (Qd.map CeR.r),.sl (Qm.map Qn),.sl (Qe.map XE),.sl (je XF),.sl (je (thNames n)),.sl (ss.map XG)]
@[go_sem] theorem U5:Qd.length=5:=rfl
@[go_sem] theorem anH:Qm.length=3:=rfl
@[go_sem] theorem U6:Qe.length=1:=rfl
@[go_sem] theorem anI:XF.length=1:=rfl
end AM
namespace Mk
open AM
@[go_sem] def In.r (i:In):List PV:=[ah i.op,ah i.a,ah i.b,ah i.c,ah i.n,ah i.site]
end Mk
namespace AM
open Go Go.Proofs Mk
set_option maxRecDepth 20000
set_option maxHeartbeats 8000000
abbrev XK (l:List Int):List (List PV):=l.map λx=> [ah x]
theorem jD (i:In):FnEq Tryz.prog 72 [rw_ i.r] (.pv (.sl (XK (regsI i)))):=by obtain⟨op,a,b,c,n,q⟩:=i;unfold regsI;dsimp only;refine wf Tryz.func72 (λ_=> []) (h:=λR d=>?_);refine wb (A2.mk ?_ (A2.mk ?_ (A2.mk ?_ (A2.mk ?_ (A2.mk ?_ (A2.mk ?_ (A2.mk ?_ (A2.mk ?_ (A2.mk ?_ (A2.mk ?_ (A2.mk ?_ ?_)))))))))))<;>intros;all_goals exact wr d
@[go_sem] def tcR (p:Int×List In):List PV:=[ah p.1,.sl (p.2.map In.r)]
@[go_sem] def coR (n:Nat)(ss:List (Nat×Nat))(cs:List (Int×List In)):List PV:=[.sl (Qd.map CeR.r),.sl (Qm.map Qn),.sl (Qe.map XE),.sl (je XF),.sl (je (thNames n)),.sl (ss.map XG),.sl (cs.map tcR)]
set_option maxRecDepth 20000
set_option maxHeartbeats 8000000
abbrev lkC:List CT:=[.int .i64,.asc 400]
abbrev thC:List CT:=[.int .i64,.int .i64,.bool]
@[go_sem] def Dx (n:Nat)(tx:Int):List PV:=[.tr lkC 3,ah tx,.tr [.bool] 1,.tr thC n]
@[go_sem] def thI (i:Nat):List PV:=[ah (if i=0 then 1 else 0),ah 0,boolP false]
@[go_sem] theorem amg {l:List Nat} :oV thC (l.map thI)=True:=by refine eq_true λrow hr=>?_;obtain⟨i,_,rfl⟩:=iK.1 hr;unfold thI thC;simp only[Xv,abm,ok_int,adK,and_true,true_and];refine⟨?_,by rw[dM];omega⟩;split<;>rw[dM]<;>omega
attribute [local go_sem] rep thNames_len List.length_range List.length_map List.set_cons_zero List.set_cons_succ
theorem VX (n:Nat)(ss:List (Nat×Nat))(hn:n<=4):FnEq Tryz.prog 67 [rw_ (qL n ss)] (rw_ (Dx n (-1))):=by
 refine wf Tryz.func67 (λ_=> []) (h:=λR a=>?_);refine wb ?_<;>intros;refine dI 24 0 231 2 rfl rfl ?_;refine dI 24 2 4 1 rfl rfl ?_;refine dI 24 3 233 3 rfl rfl ?_;refine wn 4 ?_;refine wb ?_<;>intros;refine wn 2 ?_;refine wb ?_<;>intros;refine wl (λk:Nat=> [(1,.ptr 0 0),(2,.ptr 1 0),(3,.ptr 2 0),(6,.pv (ah k))]) (λk=> [some (.box ((qL n ss).map .pv)),some (.box [.emp,.pv (ah 0),.emp,.emp]),some (.box [.pv (.tr lkC 3),.pv (ah (-1)),.pv (.tr [.bool] 1),.own 3 k]),some (.row 233 3 ((List.range k).map thI))]) (λk=>k<=n) (λk=>n-k) 0 (ay _) (vm [0,8,24,50] [(363,some lkC),(523,some [.bool])]) (λk hk=>?_);refine wb (A2.mk ?_ (A2.mk ?_ ?_))<;>intros
 . have e1:(List.range (k+1)).map thI=(List.range k).map thI++[[ah 1,ah 0,boolP false]]:=by
    obtain rfl:k=0:=(by omega);rfl
   refine aj ⟨k+1,by omega,by omega,?_⟩;rw[e1];exact vm [0,1,2,132]
 . have e1:(List.range (k+1)).map thI=(List.range k).map thI++[[ah 0,ah 0,boolP false]]:=by
    have h0:k≠0:=(by omega);rw[SQ,fF,List.map_singleton,thI,if_neg h0]
   refine aj ⟨k+1,by omega,by omega,?_⟩;rw[e1];exact vm [0,1,2,116]
 obtain rfl:k=n:=(by omega);exact wr a [(3,some thC)]
theorem OA (n:Nat)(ss:List (Nat×Nat))(hn:n<=4)(tx:Int):FnEq Tryz.prog 158 [rw_ (qL n ss),rw_ (Dx n tx)] (.pv (boolP true)):=by refine wf Tryz.func158 (λ_=> [(9,15),(11,15),(13,15)]) (h:=λR a=>?_);refine wb ?_<;>intros;refine wn 2 ?_;refine wb ?_<;>intros;(iterate 2 (refine az (by omega) rfl rfl ?_;refine wb ?_<;>intros));exact wr a
end AM
namespace AM
open Go Go.Proofs
set_option maxRecDepth 20000
set_option maxHeartbeats 8000000
@[go_sem] def Y8 (b:Nat)(pc:Int)(r s:Nat)(ev:Int):List PV:=[ah pc,.tr [.int .i64] r,.tr [.asc b] s,ah ev]
def alY:Nat->List (Nat×Nat):=λi=>if i=1 then [(1,3),(1,6),(3,6),(1,7),(3,7),(1,9),(3,9),(6,9),(7,9)] else if i=5 then [(1,4),(1,6),(1,7),(1,8)] else []
@[go_sem] def nLR (m:List Nat):List PV:=[.sl (nL m)]
theorem aaV {b:Nat}{u:List (List Nat)}(h:∀m∈u,Asc b m):oV [.asc b] (u.map nLR):=by intro row hr;obtain⟨x,hx,rfl⟩:=iK.1 hr;exact⟨sQ (h x hx),trivial⟩
attribute [local go_sem] List.set_cons_zero List.set_cons_succ List.map_append List.length_append List.map_cons List.map_nil List.length_singleton
theorem Pn (b a:Nat)(hb:b<=a)(h4:a<=400)(pc:Int)(r s:Nat)(ev:Int)(hr:r<=5)(hs:s<=5):FnEq Tryz.prog 136 [rw_ (Y8 b pc r s ev)] (rw_ (Y8 a pc r s ev)):=by
 refine wf Tryz.func136 alY (h:=λR y=>?_);refine wb ?_<;>intros;refine dI 88 2 37 1 rfl rfl ?_;refine wl (λu:List (List Nat)=> [(1,.ptr 0 0),(2,.ptr 1 0),(3,.ptr 2 0),(4,.pv (ah u.length))]) (λu=> [some (.box ((Y8 b pc r s ev).map .pv)),some (.box [.pv (ah 0),.emp,.emp,.pv (ah 0)]),some (.box [.pv (ah pc),.pv (.tr [.int .i64] r),.own 3 u.length,.pv (ah ev)]),some (.row 37 1 (u.map nLR))]) (λu=>u.length<=s/\∀m∈u,Asc b m) (λu=>s-u.length) [] ⟨ay _,λ_ h=>nomatch h⟩ (vm [0,8,88,112]) (λu ⟨D,hx⟩=>?_);refine wb (A2.mk ?_ ?_)<;>intros
 . refine jW λl q=>?_;have B:l.length<=400:=aG q.len (aG hb h4);refine wb ?_<;>intros
   exact aj ⟨u++[l],⟨by rw[aY];simp only[qg];omega,λm hm=>by
    rcases ja.1 hm with hm|hm;exact hx m hm
    . rw[lM.1 hm];exact q⟩,by rw[aY];simp only[qg];omega,vm [0,1,2,124]⟩
 have d:u.length=s:=(by omega);exact wr y [(3,some [.asc a])] (hf:=by refine ws ?_;exact⟨by simp,aaV (λm hm=>(hx m hm).weak hb)⟩) (hE:=by refine ws ?_;rw[d];exact⟨rfl,rfl⟩)
end AM
namespace AM
open Go Go.Proofs Mk
set_option maxRecDepth 20000
set_option maxHeartbeats 8000000
def amE:Nat->List (Nat×Nat):=λi=>if i=6 then [(1,3),(1,5),(3,5),(1,6),(1,7),(1,9),(3,9),(5,9),(6,9),(7,9),(1,10)] else if i=8 then [(1,3),(1,5),(3,5),(1,6),(1,7),(1,9),(3,9),(5,9),(6,9),(7,9),(1,10)] else []
def ObW (r:AV):Prop:=∃o,i64 o/\r= .pv (ah o)
theorem Vx (n:Nat)(hn:n<=4)(i:In)(h1:1<=i.op/\i.op<=28)(ho:ObjI n i)(I:i.op=5->0<=i.a/\i.a<=1000)(u:i64 i.n)(b:Nat)(pc:Int)(r:Nat)(hr:r<=5)(hg:∀q∈regsI i,0<=q/\q<(r:Int))(ev:Int):
 kS Tryz.prog 129 [rw_ i.r,rw_ (Y8 b pc r r ev)] ObW:=by
 obtain⟨op,D,E,G,J,L⟩:=i;obtain⟨o3,o4,o6,o7,o8,o9,o11,o13,o21,o24,o26,o27⟩:=ho;dsimp only at h1 o3 o4 o6 o7 o8 o9 o11 o13 o21 o24 o26 o27 I u;have z:∀q:Int,-100<=q/\q<=2000->i64 q:=λq h=>dQ.2 (by omega);refine wf Tryz.func129 amE (h:=λR d=>?_);refine wb (A2.mk ?_ (A2.mk ?_ (A2.mk ?_ (A2.mk ?_ (A2.mk ?_ (A2.mk ?_ (A2.mk ?_ (A2.mk ?_ (A2.mk ?_ (A2.mk ?_ ?_))))))))))<;>intros;exact wt d (.pv (ah E)) [] ⟨_,z E (by omega),rfl⟩;exact wt d (.pv (ah E)) [] ⟨_,z E (by omega),rfl⟩;have M:op=7:=(by assumption);subst M;obtain⟨rfl,rfl⟩:=o7 rfl;have N:=hg G (by simp[regsI]);refine And.intro (by omega) ?_;refine iV λx hx=>?_;refine wb ?_<;>intros;refine wG (Hg x 2 hx u) (.pv (ah 0)) ⟨0,rH,rfl,by decide⟩ ?_;rintro v ⟨y,O,rfl,B⟩;have H:=B (by decide);refine wb ?_<;>intros;exact wt d (.pv (ah (3+y))) [] ⟨_,z _ (by omega),rfl⟩;have U:op=9:=(by assumption);subst U;obtain⟨rfl,rfl⟩:=o9 rfl;have N:=hg G (by simp[regsI]);refine And.intro (by omega) ?_;refine iV λx hx=>?_;refine wb ?_<;>intros;refine wG (Hg x 2 hx u) (.pv (ah 0)) ⟨0,rH,rfl,by decide⟩ ?_;rintro v ⟨y,O,rfl,B⟩;have H:=B (by decide);refine wb ?_<;>intros;exact wt d (.pv (ah (3+y))) [] ⟨_,z _ (by omega),rfl⟩;exact wt d (.pv (ah (-1))) [] ⟨_,z _ (by decide),rfl⟩;exact wt d (.pv (ah (-1))) [] ⟨_,z _ (by decide),rfl⟩;exact wt d (.pv (ah (-1))) [] ⟨_,z _ (by decide),rfl⟩;exact wt d (.pv (ah (-1))) [] ⟨_,z _ (by decide),rfl⟩;exact wt d (.pv (ah (-1))) [] ⟨_,z _ (by decide),rfl⟩;exact wt d (.pv (ah (-1))) [] ⟨_,z _ (by decide),rfl⟩
 . have ha: -100<=D/\D<=2000:=by
    by_cases h5:op<=5
    . by_cases V:op=5;have:=I V;omega
      . have:D∈regsI ⟨op,D,E,G,J,L⟩:=by
         obtain rfl|rfl|rfl:op=1\/op=2\/op=4:=(by omega);all_goals simp[regsI]
        have:=hg D this;omega
    omega
   exact wt d (.pv (ah D)) [] ⟨_,z _ ha,rfl⟩
end AM
namespace AM
open Go Go.Proofs
set_option maxRecDepth 20000
set_option maxHeartbeats 8000000
theorem Asc.filter {b:Nat}{l:List Nat}(h:Asc b l)(p:Nat->Bool):Asc b (l.filter p):=⟨h.1.sublist List.filter_sublist,λn hn=>h.2 n (Je.1 hn).1⟩
def neI (n:Int)(x:Nat):Bool:=decide ((x:Int)≠n)
theorem Xp {l:List Nat}{p:Nat->Bool}{k x:Nat}(h:l[k]?=some x):(l.take (k+1)).filter p=(l.take k).filter p++(if p x=true then [x] else []):=by rw[wP,h,List.filter_append];simp[List.filter_cons]
attribute [local go_sem] List.map_append List.length_append List.map_cons List.map_nil List.length_singleton
theorem Qv (b:Nat)(hb:b<=400)(l:List Nat)(q:Asc b l)(n:Int):kS Tryz.prog 133 [.pv (.sl (nL l)),.pv (ah n)] (λr=>∃m,Asc b m/\r= .pv (.sl (nL m))):=by have h4:l.length<=400:=aG q.len hb;refine wf Tryz.func133 (λ_=> []) (h:=λR u=>?_);refine wb ?_<;>intros;refine kZ 5 3 1 (by exact we) ?_;refine wl (λk:Nat=> [(0,.pv (.sl (nL l))),(1,.pv (ah n)),(5,.own 0 ((l.take k).filter (neI n)).length),(6,.pv (ah k))]) (λk=> [some (.row 3 1 (nL ((l.take k).filter (neI n))))]) (λk=>k<=l.length) (λk=>l.length-k) 0 (ay _) (vm [24]) (λk hk=>?_);refine wb (A2.mk ?_ ?_)<;>intros;have h2:k<l.length:=(by omega);have hg:=aX h2;have a:=Xp (p:=neI n) hg;have B:((l.take k).filter (neI n)).length<=400:=aG (List.length_filter_le _ _) (by simp;omega);generalize l[k]=y at hg a;refine aJ (x:=y) (by omega) (by simpa using hg) rfl ?_;refine wb (A2.mk ?_ ?_)<;>intros;refine aJ (x:=y) (by omega) (by simpa using hg) rfl ?_;refine wb ?_<;>intros;have d:neI n y=true:=(by unfold neI;rw[gX];assumption);rw[if_pos d] at a;refine aj ⟨k+1,h2,by omega,?_⟩;rw[a];exact vm [129];have d:¬neI n y=true:=(by unfold neI;rw[gX];omega);rw[if_neg d,nN] at a;refine aj ⟨k+1,h2,by omega,?_⟩;rw[a];exact vm [0];obtain rfl:k=l.length:=(by omega);rw[rX];exact wt u (.pv (.sl (nL (l.filter (neI n))))) [(0,none)] ⟨_,q.filter _,rfl⟩
end AM
namespace AM
open Go Go.Proofs Mk
set_option maxRecDepth 20000
set_option maxHeartbeats 8000000
structure NmOk (n:Nat)(k o:Int):Prop where
 kd:1<=k/\k<=23
 c:k=3\/k=4->0<=o/\o<5
 l:6<=k/\k<=11->0<=o/\o<3
 d:16<=k/\k<=19->o=0
 t:k=20\/k=21->0<=o/\o<n
 f:22<=k/\k<=23->o=0
def J9 (p:Prop)(r:AV):Prop:=∃z,r= .pv (boolP z)/\(z=true->p)
attribute [local go_sem] thNames_len
theorem Ze (n:Nat)(hn:n<=4)(ss:List (Nat×Nat))(k o:Int):kS Tryz.prog 161 [rw_ (qL n ss),.pv (ah k),.pv (ah o)] (J9 (NmOk n k o)):=by
 refine wf Tryz.func161 (λ_=> []) (h:=λR a=>?_);refine Fz rfl ?_;refine wb (A2.mk ?_ (A2.mk ?_ (A2.mk ?_ (A2.mk ?_ (A2.mk ?_ (A2.mk ?_ (A2.mk ?_ (A2.mk ?_ (A2.mk ?_ (A2.mk ?_ (A2.mk ?_ (A2.mk ?_ (A2.mk ?_ (A2.mk ?_ (A2.mk ?_ (A2.mk ?_ (A2.mk ?_ (A2.mk ?_ (A2.mk ?_ (A2.mk ?_ (A2.mk ?_ (A2.mk ?_ (A2.mk ?_ ?_)))))))))))))))))))))))<;>intros;(all_goals try exact wt a (.pv (boolP (o== -1))) [] ⟨_,rfl,λh=>by simp only[eG] at h;constructor<;>omega⟩);(all_goals try exact wt a (.pv (boolP false)) [] ⟨_,rfl,λh=>by cases h⟩);(all_goals try (refine wE (Eu o 5) ?_;refine wb ?_<;>intros;exact wt a (.pv (boolP (decide (0<=o) && decide (o<5)))) [] ⟨_,rfl,λh=>by simp only[dH,gX] at h;constructor<;>omega⟩));(all_goals try (refine wE (Eu o 1) ?_;refine wb ?_<;>intros;exact wt a (.pv (boolP (decide (0<=o) && decide (o<1)))) [] ⟨_,rfl,λh=>by simp only[dH,gX] at h;constructor<;>omega⟩));all_goals try (refine wE (Eu o n) ?_;refine wb ?_<;>intros;exact wt a (.pv (boolP (decide (0<=o) && decide (o<n)))) [] ⟨_,rfl,λh=>by simp only[dH,gX] at h;constructor<;>omega⟩)
 all_goals
  refine wE (Eu o 3) ?_;refine wb (A2.mk ?_ ?_)<;>intros
  . rename_i hx;simp only[dH,gX] at hx;obtain rfl|rfl|rfl:o=0\/o=1\/o=2:=by omega
    all_goals
     refine az (by omega) rfl rfl ?_;refine wb ?_<;>intros
     first
      |exact wt a (.pv (boolP true)) [] ⟨_,rfl,λ_=>by constructor<;>omega⟩
      |exact wt a (.pv (boolP false)) [] ⟨_,rfl,λh=>by cases h⟩
  exact wt a (.pv (boolP false)) [] ⟨_,rfl,λh=>by cases h⟩
end AM
namespace AM
open Go Go.Proofs Mk
set_option maxRecDepth 20000
set_option maxHeartbeats 8000000
theorem abo {k:Nat}{l:List Nat}(h:Asc k l):Asc (k+1) (l++[k]):=by refine⟨?_,λn hn=>?_⟩;rw[Ep];refine⟨h.1,Qu _ _,λa ha b hb=>?_⟩;rw[lM.1 hb];exact h.2 a ha;rcases ja.1 hn with hn|hn;exact Nat.lt_succ_of_lt (h.2 n hn);rw[lM.1 hn];exact Tq k
attribute [local go_sem] List.map_append List.length_append List.map_cons List.map_nil List.length_singleton
theorem Dy (n:Nat)(hn:n<=4)(tx c:Int):kS Tryz.prog 134 [rw_ (Dx n tx),.pv (ah c)] (λr=>∃ws,Asc n ws/\r= .pv (.sl (nL ws))):=by refine wf Tryz.func134 (λ_=> []) (h:=λR a=>?_);refine wb ?_<;>intros;refine kZ 5 3 1 (by exact we) ?_;refine wl (λu:Nat×List Nat=> [(1,.pv (ah c)),(2,.ptr 0 0),(5,.own 1 u.2.length),(6,.pv (ah u.1))]) (λu=> [some (.box ((Dx n tx).map .pv)),some (.row 3 1 (nL u.2))]) (λu=>u.1<=n/\Asc u.1 u.2) (λu=>n-u.1) (0,[]) ⟨ay _,List.Pairwise.nil,λn hn=>nomatch hn⟩ (vm [0,32]) (λ⟨k,ws⟩ ⟨hk,hw⟩=>?_);dsimp only at hk hw;have d:ws.length<=4:=aG hw.len (by omega);refine wb (A2.mk ?_ ?_)<;>intros;refine iV λx hx=>?_;refine wb (A2.mk ?_ ?_)<;>intros;refine iV λy q=>?_;refine wb (A2.mk ?_ ?_)<;>intros;exact aj ⟨(k+1,ws++[k]),⟨by omega,abo hw⟩,by dsimp only;omega,vm [0,202]⟩;exact aj ⟨(k+1,ws),⟨by omega,hw.weak (EC k)⟩,by dsimp only;omega,vm [0,1]⟩;exact aj ⟨(k+1,ws),⟨by omega,hw.weak (EC k)⟩,by dsimp only;omega,vm [0,1]⟩;exact wt a (.pv (.sl (nL ws))) [(1,none)] ⟨ws,hw.weak hk,rfl⟩
end AM
namespace AM
open Go Go.Proofs Mk
set_option maxRecDepth 20000
set_option maxHeartbeats 4000000
theorem wa {P Q:Prop}(h:Q)(s:Hd Q->P:=by (intro h;(try simp -implicitDefEqProofs (disch:=omega) only[go_sem,eY,uN,↓reduceIte,iM,Nat.reducePow,Nat.reduceLT,Nat.reduceEqDiff,Nat.reduceAdd,Nat.reduceMul,Nat.reduceSub,Nat.reduceLeDiff,Int.reduceAdd,Int.reduceSub,Int.reduceToNat,Int.reduceLT,Int.reduceLE,Int.reduceNeg,Int.reduceEq,Int.reduceNe,Int.reduceBEq,Int.reduceBNe,mD,reduceCtorEq]);(repeat (first|refine And.intro (Lc (by kernel_rfl)) ?_|refine And.intro (by omega) ?_));exact h.out)):P:=s ⟨h⟩
theorem ahF (xs:List UInt8)(hx:xs.length<=1000):∀d,StC xs d:=λd=>by
 induction d using Nat.strongRecOn with
 |_ d ih=>exact ac3 xs hx d (λa h=>aau xs a (ih a h))
def arY:Nat->List (Nat×Nat):=λi=>if i=14 then [(1,4),(1,5)] else if i=15 then [(1,6),(1,7),(1,9)] else if i=17 then [(1,3),(1,4)] else []
structure PgOk (bs:List (List Sm)):Prop where
 n1:1<=bs.length
 n4:bs.length<=4
 l20:∀b∈bs,b.length<=20
 d2:∀b∈bs,∀s∈b,SmD 2 s
theorem vM {K:Nat} :∀(l:List Sm),(∀s∈l,fK s<=K)->aF l<=l.length*K
 | [],_=>by simp[aF]
 |
  s::r,h=>by
  have h1:=vM r (λx hx=>h x (KT _ hx))
  have h2:=h s (TU ..)
  simp only[aF,iR,Nat.succ_mul]
  omega
theorem aa9 (s:Sm)(h:SmD 0 s):fK s<=1:=by rw[lJ,h.1,h.2];simp[aF]
theorem aba (s:Sm)(h:SmD 1 s):fK s<=21:=by have h1:=vM s.body (λx hx=>aa9 x (h.1.2 x hx));have h2:=vM s.els (λx hx=>aa9 x (h.2.2 x hx));have h3:=h.1.1;have h4:=h.2.1;rw[lJ];omega
theorem ahG (s:Sm)(h:SmD 2 s):fK s<=421:=by have h1:=vM s.body (λx hx=>aba x (h.1.2 x hx));have h2:=vM s.els (λx hx=>aba x (h.2.2 x hx));have h3:=h.1.1;have h4:=h.2.1;rw[lJ];omega
theorem Vh:∀(bs:List (List Sm)),(∀b∈bs,b.length<=20)->(∀b∈bs,∀s∈b,SmD 2 s)->fP bs<=bs.length*8420
 | [],_,_=>by simp[fP]
 |
  b::r,h1,h2=>by
  have h3:=Vh r (λx hx=>h1 x (KT _ hx)) (λx hx=>h2 x (KT _ hx))
  have h4:=vM b (λx hx=>ahG x (h2 b (TU ..) x hx))
  have h5:=h1 b (TU ..)
  simp only[fP,iR,Nat.succ_mul]
  omega
theorem PgOk.check {bs:List (List Sm)}(h:PgOk bs):FnEq Tryz.prog 68 [rw_ (Bi bs)] (.tup [.pv (ah (qf bs)),.pv (ah 0)]):=
 PK bs h.n1 h.n4 (λb hb=>shL b (by have:=h.l20 b hb;omega) (λs hs=>abd 2 s (h.d2 b hb s hs))) (by have:=Vh bs h.l20 h.d2;have:=h.n4;omega)
@[go_sem] def arZ (m:MS):Obj:= .box [.ptr 2 0,.pv (ah m.th),.pv (ah m.left),.pv (boolP m.set),.pv (boolP m.tx),.pv (boolP m.atomic),.pv (boolP m.loop),.own 3 m.held.length]
@[go_sem] def pS (xs:List UInt8)(k:Nat)(m:MS)(bs:List (List Sm)):List (Option Obj):=[some (.box [.emp,.emp]),some (arZ m),some (AO xs k),some (Kz m.held),some (.box [.pv (.sl YZ),.own 5 bs.length]),some (.row 176 4 (bs.zipIdx.map rW))]
@[go_sem] def pE (n:Int)(i:Nat):List (Nat×AV):=[(2,.ptr 0 0),(3,.ptr 1 0),(4,.ptr 4 0),(5,.pv (ah n)),(6,.pv (.sl (je (thNames 4)))),(7,.pv (ah i))]
theorem abe (bs:List (List Sm))(l:List Sm):(bs++[l]).zipIdx.map rW=bs.zipIdx.map rW++[rW (l,bs.length)]:=by simp[List.zipIdx_append]
theorem PL (i:Nat)(h:i<4):(thNames 4)[i]?=some (aS i):=by
 match i,h with
 |0,_=>rfl
 |1,_=>rfl
 |2,_=>rfl
 |3,_=>rfl
@[go_sem] def tb (i:Nat)(b:AV):Obj:= .box [.pv (dJ (aS i)),.pv (ah 0),.pv (.sl (je bK)),b]
theorem smj:pY .join=sF 13 (aS 1) bE [] ⟨0,0,bE,[]⟩ [] []:=rfl
theorem pg1:PgOk [[.asg .x (.leaf (.num 1))]]:=⟨by decide,by decide,by simp,by simp only[lM,forall_eq];exact gz rfl rfl 2⟩
attribute [local go_sem] List.set_cons_zero List.set_cons_succ abe bK smj UN
theorem Qo (xs:List UInt8)(hx:xs.length<=1000):kS Tryz.prog 45 [.pv (Ux xs)] (λr=>∃bs,r=rw_ (Bi bs)/\PgOk bs/\qf bs=0):=by
 refine wf Tryz.func45 arY (h:=λR O=>?_);refine wb ?_<;>intros;refine wE Px ?_;refine wb ?_<;>intros;refine wq (iw xs 0 3 hx (ay _) (by decide) (by decide)) [24] ?_;rintro r g ⟨rfl,k,hk,rfl⟩;have hn:=mF xs 0 (n:=3) (by decide);generalize MO xs 0 3=q at hn;refine wb ?_<;>intros;refine dI 40 7 9 1 rfl rfl ?_;refine dI 72 1 176 4 rfl rfl ?_;refine wl (λu:List (List Sm)×MS×Nat=>pE (2+(q:Int)) u.1.length) (λu=>pS xs u.2.2 u.2.1 u.1) (λu=>u.1.length<=2+q/\(∀b∈u.1,b.length<=20)/\(∀b∈u.1,∀s∈b,SmD 2 s)/\u.2.1.held=[]/\u.2.2<=xs.length) (λu=>2+q-u.1.length) ([],⟨0,20,false,false,false,false,[]⟩,k) ⟨ay _,by simp,by simp,rfl,hk⟩ (vm [0,40,24,168,72,169]) (λ⟨bs,m,k⟩ ⟨hi,I,hs,hm,hk⟩=>?_);dsimp only at hi I hs hm hk;refine ws ?_;refine w0 ?_;refine wg ?_;(refine jr rfl ?_;refine ws ?_;first|(refine⟨λ_=>?_,λ_=>?_⟩<;>first|(exfalso;omega)|skip)|(rw[gQ];refine⟨λ_=>?_,λ_=>?_⟩)|skip)
 . refine w0 ?_;refine wg ?_;refine iI rfl ?_;refine ws ?_;refine aJ (x:=aS bs.length) (by omega) (by rw[xZ,PL _ (by omega)]) rfl ?_;refine ws ?_;refine w0 ?_;refine dI 118 3 196 11 rfl rfl ?_;refine wg ?_;obtain⟨D,d⟩:∃D:MS,D= { m with th:=bs.length } :=⟨_,rfl⟩;have U:D.held=[]:=(by rw[d];exact hm);refine jc (λ_:List Sm=>pE (2+(q:Int)) bs.length++[(8,.ptr 6 0)]) (λl=>pS xs k D bs++[some (tb bs.length (.own 7 l.length)),some (ZL l)]) (λl=>l.length<=4/\∀s∈l,SmD 2 s) ?_ (λl ⟨Z,hls⟩=>?_)
   . subst d;(((refine jr rfl ?_;refine ws ?_;first|(refine⟨λ_=>?_,λ_=>?_⟩<;>first|(exfalso;omega)|skip)|(rw[gQ];refine⟨λ_=>?_,λ_=>?_⟩)|skip));refine wb ?_<;>intros;refine wl (λu:Nat×List Sm=>pE (2+(q:Int)) bs.length++[(8,.ptr 6 0),(9,.pv (ah u.1))]) (λu=>pS xs k { m with th:=bs.length } bs++[some (tb bs.length (.own 7 u.2.length)),some (ZL u.2)]) (λu=>u.1<=2+q/\u.2.length<=u.1/\∀s∈u.2,SmD 2 s) (λu=>2+q-u.1) (1,[]) ⟨by omega,by simp,by simp⟩ (vm [0,1,2,3,4,5,118,134]) (λ⟨j,l⟩ ⟨hj,J,y⟩=>?_);dsimp only at hj J y;refine wb (A2.mk ?_ ?_)<;>intros;refine aJ (x:=aS j) (by omega) (by rw[xZ,PL _ (by omega)]) rfl ?_;refine wb ?_<;>intros;exact aj ⟨(j+1,l++[.spawn j]),⟨by dsimp only;omega,by simp;omega,by simpa [or_imp,forall_and] using ⟨y,gz rfl rfl 2⟩⟩,by dsimp only;omega,vm [0,1,2,3,4,5,6,96]⟩;exact aj ⟨l,⟨by omega,y⟩,vm [0,1,2,3,4,5,6,7]⟩);refine w0 ?_;exact aj ⟨[],⟨by simp,by simp⟩,vm [0,1,2,3,4,5,118,134]⟩
   clear d;refine wb ?_<;>intros;refine wQ (iw xs k 3 hx hk (by decide) (by decide)) [2] ⟨rfl,k,hk,rfl⟩ ?_;rintro r g ⟨rfl,k2,L,rfl⟩;have M:=mF xs k (n:=3) (by decide);generalize MO xs k 3=q2 at M;refine wb ?_<;>intros;refine wQ (aav xs 2 (ahF xs hx 2) k2 D (1+q2) L (by rw[U];decide) (by omega)) [1,2,3] ⟨[],D,k,ay _,by simp,rfl,hk,rfl,rfl⟩ ?_;rintro r g ⟨l2,m2,V,p1,p2,p3,X,rfl,rfl⟩;have N:m2.held=[]:=(by rw[p3,U]);refine wa ?_;refine Fz rfl ?_;refine jc (λu:List Sm×Nat=>pE (2+(q:Int)) bs.length++[(8,.ptr 6 0)]) (λu=>pS xs u.2 m2 bs++[some (tb bs.length (.pv (UN u.1)))]) (λu=>u.1.length<=20/\(∀s∈u.1,SmD 2 s)/\u.2<=xs.length) ?_ (λ⟨b,H⟩ ⟨E,G,a⟩=>?_);have B:∀s∈l++l2,SmD 2 s:=λs h=>(ja.1 h).elim (hls s) (p2 s);refine wb (A2.mk ?_ ?_)<;>intros;refine wq (iw xs V 3 hx X (by decide) (by decide)) [2] ?_;rintro r g ⟨rfl,H,a,rfl⟩;refine wb (A2.mk ?_ ?_)<;>intros;refine az (by omega) rfl rfl ?_;refine wb ?_<;>intros;exact aj ⟨(l++l2++[.join],H),⟨by simp;omega,λs h=>(ja.1 h).elim (B s) (λh=>by rw[lM.1 h];exact gz rfl rfl 2),a⟩,vm [0,1,2,80,4,5,6] [(248,none)]⟩;exact aj ⟨(l++l2,H),⟨by simp;omega,B,a⟩,vm [0,1,2,80,4,5,6] [(88,none)]⟩;exact aj ⟨(l++l2,V),⟨by simp;omega,B,X⟩,vm [0,1,2,80,4,5,6] [(88,none)]⟩;dsimp only at E G a;refine wb ?_<;>intros;refine aj ⟨(bs++[b],m2,H),⟨by simp;omega,λx h=>(ja.1 h).elim (I x) (λh=>by rw[lM.1 h];exact E),λx h=>(ja.1 h).elim (hs x) (λh=>by rw[lM.1 h];exact G),N,a⟩,by simp;omega,vm [0,1,2,3,4,39]⟩
 have Y:PgOk bs:=⟨by omega,by omega,I,hs⟩;refine w0 ?_;refine adJ (pE (2+(q:Int)) bs.length) [some (.box [.emp,.emp]),none,none,none,some (.box ((Bi bs).map .pv))] (vm [0,1,2,3,4] [(5,none)]) ?_;refine wb ?_<;>intros;refine wE Y.check ?_;refine wb (A2.mk ?_ ?_)<;>intros;refine wE Px ?_;refine wb ?_<;>intros;refine wE (DU 1) ?_;refine wb ?_<;>intros;refine wE (nD ⟨#[120]⟩ ⟨1,1,bE,[]⟩) ?_;refine wb ?_<;>intros;exact wt O (rw_ (Bi [[.asg .x (.leaf (.num 1))]])) [] ⟨_,rfl,pg1,rfl⟩;exact wt O (rw_ (Bi bs)) [] ⟨_,rfl,Y,‹_›⟩
end AM
namespace AM
open Go Go.Proofs Mk
set_option maxRecDepth 20000
set_option maxHeartbeats 4000000
theorem wd {P:Program}{us:Nat->List (Nat×Nat)}{nt n0 nx:Nat}{R:Env->Sto->Prop}{hm:P.follows .mixedOrders=true}{env:Env}{σ:Sto}{post:AV->List (Option Obj)->Prop}(hR:∀env σ,mr P n0 [] post env σ->R env σ)(g:List (Option Obj))(ls:List Nat)(fl:List (Nat×Option (List CT)))(hp:post (.tup []) g)(hb:vwB n0 ls g (fl.map (·.1))=true:=by kernel_rfl)(hl:g.length<=n0+8:=by exact BD rfl)(hf:vF σ fl:=by ((try clear hR);exact we))(hO:vO (sH σ fl) g.length (fl.map (·.1)) (lG ls) σ g 0:=by ((try clear hR);exact we)):sr ⟨P,us,nt,n0,R,hm⟩ [] env σ nx:=ahD (hR _ _ (KY (.tup []) g ls fl hb hl hp hf (OZ ⟨rfl,by simp only[Gx,wk,AV.ren,AV.renL,wkL]⟩) hO))
theorem wdr {P:Program}{us:Nat->List (Nat×Nat)}{nt n0 nx:Nat}{R:Env->Sto->Prop}{hm:P.follows .mixedOrders=true}{k:List It}{c:Code}{env:Env}{σ:Sto}{post:AV->List (Option Obj)->Prop}(hR:∀env σ,mr P n0 [] post env σ->R env σ)(g:List (Option Obj))(ls:List Nat)(fl:List (Nat×Option (List CT)))(hp:post (.tup []) g)(hb:vwB n0 ls g (fl.map (·.1))=true:=by kernel_rfl)(hl:g.length<=n0+8:=by exact BD rfl)(hf:vF σ fl:=by ((try clear hR);exact we))(hO:vO (sH σ fl) g.length (fl.map (·.1)) (lG ls) σ g 0:=by ((try clear hR);exact we))(hc:Ij c=true:=by rfl):sr ⟨P,us,nt,n0,R,hm⟩ (.code c::k) env σ nx:=LC hc (hR _ _ (KY (.tup []) g ls fl hb hl hp hf (OZ ⟨rfl,by simp only[Gx,wk,AV.ren,AV.renL,wkL]⟩) hO))
theorem yT (l:List (ByteArray×Bool))(s:ByteArray)(r:Int)(d:l.length<=1000)(h:jd (l.map (·.1)) s=r):FnEq Tryz.prog 107 [.pv (.sl (l.map Qn)),.pv (dJ s)] (.pv (ah r)):=by
 subst h;refine wf Tryz.func107 (λ_=> []) (h:=λR a=>?_);refine wb ?_<;>intros;refine wl (λi:Nat=> [(0,.pv (.sl (l.map Qn))),(1,.pv (dJ s)),(5,.pv (ah i))]) (λ_=> []) (λi=>i<=l.length/\jd (l.map (·.1)) s=gu s i ((l.map (·.1)).drop i)) (λi=>l.length-i) 0 ⟨ay _,rfl⟩ (vm []) (λi ⟨hi,ha⟩=>?_);refine wb (A2.mk ?_ ?_)<;>intros
 . have h2:i<l.length:=(by omega);refine aJ (x:=l[i]) (zD _) (by simp[h2]) rfl ?_;refine wb (A2.mk ?_ ?_)<;>intros
   . rw[at_hit (i:=i) (by simpa using h2) (by simpa using ‹l[i].1=s›) ha] at a;exact wr a
   . exact aj ⟨i+1,⟨h2,oQ (i:=i) (by simpa using h2) (by simpa using ‹_›) ha⟩,by omega,vm []⟩
 . rw[uq (i:=i) (by simp;omega) ha] at a;exact wr a
theorem lK (n:Nat)(ss:List (Nat×Nat))(s:ByteArray)(r:Int)(h:jd (Qd.map (·.name)) s=r):FnEq Tryz.prog 172 [rw_ (qL n ss),.pv (dJ s)] (.pv (ah r)):=by
 subst h;refine wf Tryz.func172 (λ_=> []) (h:=λR a=>?_);refine wb ?_<;>intros;refine wl (λi:Nat=> [(1,.pv (dJ s)),(2,.ptr 0 0),(5,.pv (ah i))]) (λ_=> [some (.box ((qL n ss).map .pv))]) (λi=>i<=5/\jd (Qd.map (·.name)) s=gu s i ((Qd.map (·.name)).drop i)) (λi=>5-i) 0 ⟨ay _,rfl⟩ (vm [0]) (λi ⟨hi,ha⟩=>?_);refine wb (A2.mk ?_ ?_)<;>intros
 . have h2:i<Qd.length:=(by rw[U5];omega);refine aJ (x:=Qd[i]) (zD _) (by simp[h2]) rfl ?_;refine wb (A2.mk ?_ ?_)<;>intros
   . rw[at_hit (i:=i) (by simpa using h2) (by simpa using ‹Qd[i].name=s›) ha] at a;exact wr a
   . exact aj ⟨i+1,⟨by omega,oQ (i:=i) (by simpa using h2) (by simpa using ‹_›) ha⟩,by omega,vm [0]⟩
 . rw[uq (i:=i) (by simp[U5];omega) ha] at a;exact wr a
@[go_sem] def amc (n:Nat)(ss:List (Nat×Nat))(r:Nat)(out:List In)(site next:Int):Obj:= .box [.pv (.sl (Qd.map CeR.r)),.pv (.sl (Qm.map Qn)),.pv (.sl (Qe.map XE)),.pv (.sl (je XF)),.pv (.sl (je (thNames n))),.pv (.sl (ss.map XG)),.pv (.sl (je bK)),.own r out.length,.pv (ah site),.pv (ah next)]
abbrev inO (out:List In):Obj:= .row 182 6 (out.map In.r)
@[go_sem] def XD (n:Nat)(ss:List (Nat×Nat))(out:List In)(site next:Int):List Obj:=[amc n ss 1 out site next,inO out]
@[go_sem] def F9 (n:Nat)(ss:List (Nat×Nat))(out:List In)(site next:Int):List (Option Obj):=[some (amc n ss 2 out site next),none,some (inO out)]
theorem dV (n:Nat)(ss:List (Nat×Nat))(out:List In)(site next:Int)(i:In)(ho:out.length<=2000):ACall Tryz.prog 71 [.ptr 0 0,rw_ i.r] (XD n ss out site next) (λv g=>v= .tup []/\g=F9 n ss (out++[{ i with site:=site }]) site next):=by refine wz Tryz.func71 (λ_=> [(4,5)]) (h:=λR a=>?_);refine wb ?_<;>intros;exact wd a _ [0,1,114] [] ⟨rfl,rfl⟩
theorem ahz (n:Nat)(ss:List (Nat×Nat))(out:List In)(site next:Int)(s:ByteArray)(r:Int)(h:jd (Qe.map (·.1)) s=r):ACall Tryz.prog 146 [.ptr 0 0,.pv (dJ s)] (XD n ss out site next) (λv g=>v= .pv (ah r)/\g=(XD n ss out site next).map some):=by
 subst h;refine wz Tryz.func146 (λ_=> []) (h:=λR a=>?_);refine wb ?_<;>intros;refine wl (λi:Nat=> [(0,.ptr 0 0),(1,.pv (dJ s)),(5,.pv (ah i))]) (λ_=>(XD n ss out site next).map some) (λi=>i<=1/\jd (Qe.map (·.1)) s=gu s i ((Qe.map (·.1)).drop i)) (λi=>1-i) 0 ⟨ay _,rfl⟩ (vm [0,1]) (λi ⟨hi,ha⟩=>?_);refine wb (A2.mk ?_ ?_)<;>intros
 . have h2:i<Qe.length:=(by rw[U6];omega);refine aJ (x:=Qe[i]) (zD _) (by simp[h2]) rfl ?_;refine wb (A2.mk ?_ ?_)<;>intros
   . exact wo a (.pv (ah i)) _ [0,1] [] ⟨by rw[at_hit (i:=i) (by simpa using h2) (by simpa using ‹Qe[i].1=s›) ha],rfl⟩
   . exact aj ⟨i+1,⟨by omega,oQ (i:=i) (by simpa using h2) (by simpa using ‹_›) ha⟩,by omega,vm [0,1]⟩
 . exact wo a (.pv (ah (-1))) _ [0,1] [] ⟨by rw[uq (i:=i) (by simp[U6];omega) ha],rfl⟩
