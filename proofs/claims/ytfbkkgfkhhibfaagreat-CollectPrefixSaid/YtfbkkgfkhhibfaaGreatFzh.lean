/- Words. -/
import Derived.Test.YtfbkkgfkhhibfaaGreatFza
set_option linter.unusedVariables false
set_option linter.unusedSimpArgs false
namespace AM
open Go Go.Proofs Mk
set_option maxRecDepth 20000
set_option maxHeartbeats 8000000
def arL:Nat->List (Nat×Nat):=λi=>if i=9 then [(1,3),(1,5),(1,7)] else if i=14 then [(3,8),(3,10),(8,10)] else if i=22 then [(1,4),(1,5)] else []
@[go_sem] def arM (n:Nat)(ss:List (Nat×Nat))(r k:Nat):Obj:= .box [.pv (.sl (Qv.map CeR.r)),.pv (.sl (QC.map QD)),.pv (.sl (Qw.map XP)),.pv (.sl (jm XQ)),.pv (.sl (jm (thNames n))),.pv (.sl (ss.map XR)),.own r k]
abbrev tcO (l:List (Int×List In)):Obj:= .row 163 2 (l.map tcR)
def cE (i next:Nat):List (Nat×AV):=[(1,.ptr 0 0),(2,.ptr 1 0),(7,.ptr 2 0),(8,.pv (ah next)),(9,.pv (ah i))]
attribute [go_sem] cE
def cS (bs:List (List Sm))(i:Nat):List (Option Obj):=[some (.box ((BB bs).map .pv)),some (.box [.emp,.emp,.emp,.emp,.emp,.emp,.emp]),some (arM bs.length (ed 0 bs) 3 (codeF bs.length 0 (bs.take i)).length),some (tcO (codeF bs.length 0 (bs.take i)))]
attribute [go_sem] cS
attribute [local go_sem] List.set_cons_zero List.set_cons_succ
theorem Nr (bs:List (List Sm))(J:PgOk bs)(I:qy bs=0):FnEq Tryz.prog 44 [rw_ (BB bs)] (.tup [rw_ (coR bs.length (ed 0 bs) (codeF bs.length 0 bs)),.pv (ah 0),.pv (ah 0)]):=by have h4:=J.n4;have U:=(xX I).1;refine wf Tryz.func44 arL (h:=λR V=>?_);refine wb ?_<;>intros;refine wE J.check ?_;rw[I];refine wb ?_<;>intros;refine wE (abE bs J I) ?_;refine wb ?_<;>intros;refine dO 128 6 163 2 rfl rfl ?_;refine wl (λi:Nat=>cE i (gy (bs.take i))) (λi=>cS bs i) (λi=>i<=bs.length) (λi=>bs.length-i) 0 (ay _) (vm [0,8,128,160] (hO:=by refine ws ?_;and_intros<;>rfl)) (λi hi=>?_);have N:=wC bs i;refine ws ?_;refine w0 ?_;refine wg ?_;(((refine jF rfl ?_;refine ws ?_;first|(refine⟨λ_=>?_,λ_=>?_⟩<;>first|(exfalso;omega)|skip)|(rw[gY];refine⟨λ_=>?_,λ_=>?_⟩)|skip));have h2:i<bs.length:=(by omega);have y:=wH bs i h2;have hle:=wC bs (i+1);refine w0 ?_;refine iO rfl ?_;refine wa ?_;refine aN (x:=(bs[i],i)) (by omega) (by simp<;>omega) rfl ?_;refine wa ?_;generalize hb:bs[i]=b at y;refine dO 124 7 182 6 rfl rfl ?_;refine wb ?_<;>intros;refine aN (x:=(b,i)) (by omega) (by simp[h2,hb]) rfl ?_;refine wb ?_<;>intros;refine wq (ML bs.length h4 (aH b+1) b (by omega) (ed 0 bs) [] 0 (gy (bs.take i)) (by simp;omega) (by omega)) [124,140] ?_;rintro r g ⟨rfl,pV,rfl⟩;have X:=genL_len bs.length 0 (gy (bs.take i)) b;rw[lG,zD];refine wb ?_<;>intros;refine wq (eG bs.length (ed 0 bs) (genL bs.length 0 (gy (bs.take i)) b) (-1) ((gy (bs.take i)+aH b:Nat):Int) ⟨28,0,0,0,0,0⟩ (by omega)) [124,197] ?_;rintro r g ⟨rfl,rfl⟩;have B:bs[i]?=some b:=(by rw[<-hb];exact bH h2);have D:=IL bs.length bs 0 i b B;rw[fG] at D;have G:=(zi I).2.2 i _ _ D;have hO:kN bs.length (gy (bs.take i)) b=genL bs.length 0 (gy (bs.take i)) b++[⟨28,0,0,0,0,-1⟩]:=rfl;rw[show (⟨28,0,0,0,0,0⟩:In).op=28 from rfl,<-hO];have L:(kN bs.length (gy (bs.take i)) b).length=(genL bs.length 0 (gy (bs.take i)) b).length+1:=(by rw[hO];simp);have q:codeF bs.length 0 (bs.take (i+1))=codeF bs.length 0 (bs.take i)++[(DU (kN bs.length (gy (bs.take i)) b),kN bs.length (gy (bs.take i)) b)]:=(by rw[xY B,FU,fG]);generalize kN bs.length (gy (bs.take i)) b=O at G hO L q|-;refine wb ?_<;>intros;refine wl (λk:Nat=>cE i (gy (bs.take i)+aH b)++[(10,.ptr 4 0),(11,.ptr 5 0),(12,.pv (ah k))]) (λk=>cS bs i++[some (.box ((qY bs.length (ed 0 bs)).map .pv++[.pv (.sl (jm bQ)),.pv (.sl (O.map In.r)),.pv (ah (-1)),.pv (ah ((gy (bs.take i)+aH b:Nat):Int))])),some (.box [.pv (ah (oP 2 (O.take k))),.pv (.sl (O.map In.r))])]) (λk=>k<=O.length) (λk=>O.length-k) 0 (ay _) (vm [0,1,2,3,124,381] [(293,none)]) (λk hk=>?_);refine wb (A2.mk ?_ ?_)<;>intros;have a:k<O.length:=(by omega);have u:=TY O[k] (O.take k) 2;rw[<-xY (bH a)] at u;have E:=G.regs k O[k] (bH a);have Y:=G.r1;have M:=nR O[k];generalize hx:O[k]=x at u E M;refine aN (x:=x) (by omega) (by simp[a,hx]) rfl ?_;refine wb ?_<;>intros;refine wE (jJ x) ?_;refine wb ?_<;>intros;refine wl (λj:Nat=>cE i (gy (bs.take i)+aH b)++[(10,.ptr 4 0),(11,.ptr 5 0),(12,.pv (ah k)),(13,.pv (.sl (XV (regsI x)))),(14,.pv (ah j))]) (λj=>cS bs i++[some (.box ((qY bs.length (ed 0 bs)).map .pv++[.pv (.sl (jm bQ)),.pv (.sl (O.map In.r)),.pv (ah (-1)),.pv (ah ((gy (bs.take i)+aH b:Nat):Int))])),some (.box [.pv (ah (jw (oP 2 (O.take k)) ((regsI x).take j))),.pv (.sl (O.map In.r))])]) (λj=>j<=(regsI x).length) (λj=>(regsI x).length-j) 0 (ay _) (vm [0,1,2,3,4,5]) (λj hj=>?_);refine wb (A2.mk ?_ ?_)<;>intros;have d:j<(regsI x).length:=(by omega);have Z:=E _ (fA d);have H:=PL (regsI x)[j] ((regsI x).take j) (oP 2 (O.take k));rw[<-xY (bH d)] at H;refine aN (x:=(regsI x)[j]) (by omega) (by simp[d]) rfl ?_;refine wb ?_<;>intros;refine ak ⟨j+1,d,by omega,?_⟩;rw[H];exact vm [0,1,2,3,4,5];obtain rfl:j=(regsI x).length:=(by omega);rw[sS,<-u];refine wb ?_<;>intros;exact ak ⟨k+1,a,by omega,vm [0,1,2,3,4,5]⟩;obtain rfl:k=O.length:=(by omega);rw[sS];refine wb ?_<;>intros;refine And.intro (by rw[vM];simp;omega) ?_;refine wb ?_<;>intros;have hF:DU O=oP 2 O:=rfl;rw[hF] at q;refine ak ⟨i+1,h2,by omega,?_⟩;rw[y];exact vm [0,1,2,94] (hO:=by refine ws ?_;rw[q];simp;rfl));obtain rfl:i=bs.length:=(by omega);rw[sS];refine wb ?_<;>intros;exact wr V [(3,none)]
end AM
namespace AM
open Go Go.Proofs Mk
set_option maxRecDepth 20000
set_option maxHeartbeats 8000000
theorem lD (i n:Int)(h:0<=i/\i<n):FnEq Tryz.prog 97 [.pv (ah i),.pv (ah n)] (.pv (boolP true)):=by have:=afe i n;rwa [decide_eq_true h.1,decide_eq_true h.2] at this
theorem NZ (n:Nat)(ss:List (Nat×Nat)):FnEq Tryz.prog 125 [rw_ (qY n ss),.pv (ah 3),.pv (ah 2)] (.pv (boolP true)):=by refine wf Tryz.func125 (λ_=> []) (h:=λR a=>?_);refine wb ?_<;>intros;refine wE (lD 3 5 (by decide)) ?_;(repeat (refine wb ?_<;>intros;refine aA (by omega) rfl rfl ?_));refine wb ?_<;>intros;exact wr a
theorem Rk (n:Nat)(ss:List (Nat×Nat))(i:In)(h1:1<=i.op)(h2:i.op<=28)(ho:ObjI n i):FnEq Tryz.prog 95 [rw_ (qY n ss),rw_ i.r] (.pv (boolP true)):=by
 obtain⟨op,a,b,c,q,u⟩:=i;obtain⟨o3,o4,o6,o7,o8,o9,o11,o13,o21,o24,o26,o27⟩:=ho;dsimp only at h1 h2 o3 o4 o6 o7 o8 o9 o11 o13 o21 o24 o26 o27;rcases (show op=1\/op=2\/op=4\/op=5\/op=6\/op=7\/op=8\/op=9\/op=10\/op=11\/op=12\/op=13\/op=14\/op=15\/op=16\/op=17\/op=18\/op=19\/op=20\/op=21\/op=22\/op=23\/op=24\/op=25\/op=26\/op=27\/op=28 by omega) with rfl|rfl|rfl|rfl|rfl|rfl|rfl|rfl|rfl|rfl|rfl|rfl|rfl|rfl|rfl|rfl|rfl|rfl|rfl|rfl|rfl|rfl|rfl|rfl|rfl|rfl|rfl
 all_goals
  refine wf Tryz.func95 (λ_=> []) (h:=λR d=>?_);refine wb ?_<;>intros
 all_goals first|exact wr d|skip
 all_goals first
  |(obtain⟨rfl,rfl⟩:=o7 rfl;refine wE (NZ n ss) ?_;refine wb ?_<;>intros;exact wr d)
  |(obtain⟨rfl,rfl⟩:=o9 rfl;refine wE (NZ n ss) ?_;refine wb ?_<;>intros;exact wr d)
  |(obtain rfl:=o26 rfl;refine wE (lD 0 1 (by decide)) ?_;refine wb ?_<;>intros;exact wr d)
  |(obtain rfl:=o27 rfl;refine wE (lD 0 1 (by decide)) ?_;refine wb ?_<;>intros;exact wr d)
  |(obtain rfl:=o21 (by decide);refine wE (lD 0 1 (by decide)) ?_;refine wb ?_<;>intros;exact wr d)
  |(obtain rfl:=o13 (by decide);refine wE (lD 2 3 (by decide)) ?_;refine wb ?_<;>intros;refine aA (by omega) rfl rfl ?_;refine wb ?_<;>intros;exact wr d)
  |(have hb:=o24 (by decide);refine wE (lD a (thNames n).length (by rw[thNames_len];omega)) ?_;refine wb ?_<;>intros;exact wr d)
  |skip
 all_goals first
  |(have hb:=o6 rfl;obtain rfl|rfl|rfl:=(show b=0\/b=1\/b=2 by omega))
  |(have hb:=o8 rfl;obtain rfl|rfl|rfl:=(show a=0\/a=1\/a=2 by omega))
  |(have hb:=o11 (by decide);obtain rfl|rfl:=(show a=0\/a=1 by omega))
 all_goals first
  |refine wE (lD 0 5 (by decide)) ?_
  |refine wE (lD 1 5 (by decide)) ?_
  |refine wE (lD 2 5 (by decide)) ?_
  |refine wE (lD 0 3 (by decide)) ?_
  |refine wE (lD 1 3 (by decide)) ?_
 all_goals (refine wb ?_<;>intros;refine aA (by omega) rfl rfl ?_;refine wb ?_<;>intros;exact wr d)
set_option maxRecDepth 20000
set_option maxHeartbeats 8000000
theorem Zj (l:List In)(d:Int)(I:l.length<=500)(h0: -10<=d/\d<=1000)(E:∀i∈l,1<=i.op/\(i.op=5->0<=i.a/\i.a<=1000))(h:landsF l (l.length+1) d=true):FnEq Tryz.prog 96 [.pv (.sl (l.map In.r)),.pv (ah d)] (.pv (boolP true)):=by
 refine wf Tryz.func96 (λ_=> []) (h:=λR G=>?_);refine wb ?_<;>intros;refine wl (λu:Nat×Int=> [(0,.pv (.sl (l.map In.r))),(1,.pv (ah u.2)),(5,.pv (ah u.1))]) (λ_=> []) (λu=>u.1<=l.length+1/\landsF l (l.length+1-u.1) u.2=true/\ -10<=u.2/\u.2<=1000) (λu=>l.length+1-u.1) (0,d) ⟨ay _,h,h0⟩ (vm []) (λ⟨k,t⟩ ⟨hk,hL,y,B⟩=>?_);dsimp only at hk hL y B;obtain⟨f,hf⟩:∃f,l.length+1-k=f:=⟨_,rfl⟩;rw[hf] at hL
 cases f with
 |zero=>simp [landsF] at hL
 |
  succ f=>
  simp only[landsF] at hL;split at hL
  cases hL
  . rename_i hr;have q:t.toNat<l.length:=(by omega);rw[bH q] at hL;dsimp only at hL;have hm:=E l[t.toNat] (fA q);have hg:(l.map In.r)[t.toNat]?=some (l[t.toNat]).r:=(by simp[q]);generalize l[t.toNat]=i at hL hm hg;obtain⟨H,D⟩:=hm;refine wb ?_<;>intros;(all_goals try omega);refine aA (by omega) hg rfl ?_;refine wb ?_<;>intros;refine wE (IC i.op) ?_;split at hL;rename_i hs;refine wb (A2.mk ?_ ?_)<;>intros;rename_i hx;simp only[dC,iq] at hx;omega;exact wr G
    . rename_i hs;refine wb (A2.mk ?_ ?_)<;>intros;rotate_left;rename_i hx;exact absurd (Decidable.not_not.1 hs) (by rintro⟨a,b⟩;rw[decide_eq_true a,decide_eq_true b] at hx;cases hx);refine aA (by omega) hg rfl ?_;refine wb (A2.mk ?_ ?_)<;>intros;refine aA (by omega) hg rfl ?_;refine wb ?_<;>intros;have h5:i.op=5:=(by omega);rw[if_pos h5] at hL;exact ak ⟨(k+1,i.a),⟨by omega,by rwa [show l.length+1-(k+1)=f by omega],by have:=D h5;dsimp only;omega⟩,by dsimp only;omega,vm []⟩;have h5:i.op≠5:=(by omega);rw[if_neg h5] at hL;exact ak ⟨(k+1,t+1),⟨by omega,by rwa [show l.length+1-(k+1)=f by omega],by dsimp only;omega⟩,by dsimp only;omega,vm []⟩
set_option maxRecDepth 20000
set_option maxHeartbeats 8000000
@[go_sem] def vtE (t:Nat)(l:List In)(k:Nat):List (Nat×AV):=[(1,.pv (ah t)),(3,.ptr 0 0),(5,.ptr 1 0),(7,.pv (ah l.length)),(8,.pv (ah k))]
@[go_sem] def vtS (n:Nat)(ss:List (Nat×Nat))(r:Int)(l:List In):List (Option Obj):=[some (.box ((qY n ss).map .pv)),some (.box [.pv (ah r),.pv (.sl (l.map In.r))])]
theorem Dv (n:Nat)(ss:List (Nat×Nat))(I:ss.length<=60)(t:Nat)(U:t<=4)(r:Int)(l:List In)(G:GoodC n ss t r l):FnEq Tryz.prog 65 [rw_ (qY n ss),.pv (ah t),rw_ [ah r,.sl (l.map In.r)]] (.pv (boolP true)):=by
 obtain⟨r0,r1,pos,len,op,last,obj,lands,site,jmp,brn,regs⟩:=G;refine wf Tryz.func65 (λ_=> [(2,5),(3,5)]) (h:=λR J=>?_);refine wb ?_<;>intros;(all_goals try omega);have L:∀i∈l,1<=i.op/\(i.op=5->0<=i.a/\i.a<=1000):=(by intro i hi;obtain⟨k,hk⟩:=sG.1 hi;refine⟨(op k i hk).1,λh5=>?_⟩;obtain⟨V,h1,h2⟩:=jmp k i hk h5;omega);refine wl (λk:Nat=>vtE t l k) (λ_=>vtS n ss r l) (λk=>k<=l.length) (λk=>l.length-k) 0 (ay _) (vm [0,8]) (λk hk=>?_);refine wb (A2.mk ?_ ?_)<;>intros
 . have h2:k<l.length:=(by omega);have hg:=bH h2;generalize l[k]=i at hg;have o1:=op k i hg;have o2:=last k i hg;have o3:=obj k i hg;have o4:=lands k h2;have H:=site k i hg;have o6:=jmp k i hg;have o7:=brn k i hg;have o8:=regs k i hg;have D:(l.map In.r)[k]?=some i.r:=(by simp[hg]);have hb:((i.op==28)==((k:Int)==(l.length:Int)-1))=true:=by
    rw[dV,Bool.eq_iff_iff,dV,dV];constructor;intro h;have:=o2.1 h;omega;intro h;exact o2.2 (by omega)
   have o9:i.op=28->i.site= -1:=λh=>H.elim (λx=>x.2) (λx=>absurd h x.1);refine aA (by omega) D rfl ?_;refine wb (A2.mk ?_ ?_)<;>intros;(all_goals try omega);(all_goals first|(exfalso;rename_i h;rw[hb] at h;cases h;done)|skip);refine wE (Rk n ss i o1.1 o1.2 o3) ?_;refine wb ?_<;>intros;refine wE (Zj l (k:Int) (by omega) (by omega) L o4) ?_;refine wb (A2.mk ?_ ?_)<;>intros;(all_goals try (exfalso;rename_i h1 h3;exact h3 (o9 h1)));rotate_left;rcases H with ⟨E,_⟩|⟨_,q,m,hq,hsq⟩;exact absurd E (by assumption);have M:=(dF.1 hsq).1;refine wE (lD i.site ss.length (by omega)) ?_;refine wb ?_<;>intros;refine aN (x:=(t,m)) (by omega) (by rw[hq];simpa using hsq) rfl ?_;refine wb (A2.mk ?_ (A2.mk ?_ ?_))<;>intros;obtain⟨z,N,O⟩:=o6 (by assumption);refine wE (lD i.a l.length (by omega)) ?_;refine wb ?_<;>intros;refine wE (jJ i) ?_;have y:=nR i;refine wb ?_<;>intros;refine wl (λj:Nat=>vtE t l k++[(10,.pv (.sl (XV (regsI i)))),(11,.pv (ah j))]) (λ_=>vtS n ss r l) (λj=>j<=(regsI i).length) (λj=>(regsI i).length-j) 0 (ay _) (vm [0,1]) (λj B=>?_);refine wb (A2.mk ?_ ?_)<;>intros;have d:j<(regsI i).length:=(by omega);have u:=o8 _ (fA d);refine aN (x:=(regsI i)[j]) (by omega) (by simp[d]) rfl ?_;refine wb ?_<;>intros;refine wE (lD _ r u) ?_;refine wb ?_<;>intros;exact ak ⟨j+1,d,by omega,vm [0,1]⟩;refine wb ?_<;>intros;exact ak ⟨k+1,h2,by omega,vm [0,1]⟩;obtain⟨z,N,O⟩:=o7 (by assumption);refine wE (lD i.b l.length (by omega)) ?_;refine wb ?_<;>intros;refine wE (jJ i) ?_;have y:=nR i;refine wb ?_<;>intros;refine wl (λj:Nat=>vtE t l k++[(10,.pv (.sl (XV (regsI i)))),(11,.pv (ah j))]) (λ_=>vtS n ss r l) (λj=>j<=(regsI i).length) (λj=>(regsI i).length-j) 0 (ay _) (vm [0,1]) (λj B=>?_);refine wb (A2.mk ?_ ?_)<;>intros;have d:j<(regsI i).length:=(by omega);have u:=o8 _ (fA d);refine aN (x:=(regsI i)[j]) (by omega) (by simp[d]) rfl ?_;refine wb ?_<;>intros;refine wE (lD _ r u) ?_;refine wb ?_<;>intros;exact ak ⟨j+1,d,by omega,vm [0,1]⟩;refine wb ?_<;>intros;exact ak ⟨k+1,h2,by omega,vm [0,1]⟩;refine wE (jJ i) ?_;have y:=nR i;refine wb ?_<;>intros;refine wl (λj:Nat=>vtE t l k++[(10,.pv (.sl (XV (regsI i)))),(11,.pv (ah j))]) (λ_=>vtS n ss r l) (λj=>j<=(regsI i).length) (λj=>(regsI i).length-j) 0 (ay _) (vm [0,1]) (λj B=>?_);refine wb (A2.mk ?_ ?_)<;>intros;have d:j<(regsI i).length:=(by omega);have u:=o8 _ (fA d);refine aN (x:=(regsI i)[j]) (by omega) (by simp[d]) rfl ?_;refine wb ?_<;>intros;refine wE (lD _ r u) ?_;refine wb ?_<;>intros;exact ak ⟨j+1,d,by omega,vm [0,1]⟩;refine wb ?_<;>intros;exact ak ⟨k+1,h2,by omega,vm [0,1]⟩;refine wE (jJ i) ?_;have y:=nR i;refine wb ?_<;>intros;refine wl (λj:Nat=>vtE t l k++[(10,.pv (.sl (XV (regsI i)))),(11,.pv (ah j))]) (λ_=>vtS n ss r l) (λj=>j<=(regsI i).length) (λj=>(regsI i).length-j) 0 (ay _) (vm [0,1]) (λj B=>?_);refine wb (A2.mk ?_ ?_)<;>intros;have d:j<(regsI i).length:=(by omega);have u:=o8 _ (fA d);refine aN (x:=(regsI i)[j]) (by omega) (by simp[d]) rfl ?_;refine wb ?_<;>intros;refine wE (lD _ r u) ?_;refine wb ?_<;>intros;exact ak ⟨j+1,d,by omega,vm [0,1]⟩;refine wb ?_<;>intros;exact ak ⟨k+1,h2,by omega,vm [0,1]⟩
 obtain rfl:k=l.length:=(by omega);exact wr J
set_option maxRecDepth 20000
set_option maxHeartbeats 8000000
def Ug (n:Nat):List ByteArray:=[⟨#[120]⟩,⟨#[121]⟩,⟨#[118]⟩,⟨#[113]⟩,⟨#[109]⟩,⟨#[110]⟩,⟨#[114]⟩,⟨#[99]⟩,⟨#[102]⟩]++thNames n
attribute [local go_sem] rep
theorem abl (n:Nat)(ss:List (Nat×Nat))(hn:n<=4):FnEq Tryz.prog 92 [rw_ (qY n ss)] (.tup [.pv (.sl (jm (Ug n))),.pv (boolP true)]):=by refine wf Tryz.func92 (λ_=> []) (h:=λR a=>?_);refine wb ?_<;>intros;refine lI 4 9 1 (by exact we) ?_;refine wn 5 ?_;refine wb ?_<;>intros;(iterate 3 (refine aA (by omega) rfl rfl ?_;refine wb ?_<;>intros));refine aA (by omega) rfl rfl ?_;refine wb ?_<;>intros;refine wn 3 ?_;refine wb ?_<;>intros;refine aA (by omega) rfl rfl ?_;refine wb ?_<;>intros;refine aA (by omega) rfl rfl ?_;refine wb ?_<;>intros;refine wn 4 ?_;refine wb ?_<;>intros;(iterate 3 (refine aA (by omega) rfl rfl ?_;refine wb ?_<;>intros));refine wn 2 ?_;refine wb ?_<;>intros;refine aA (by omega) rfl rfl ?_;refine wb ?_<;>intros;refine And.intro (by rw[thNames_len];omega) ?_;refine wb ?_<;>intros;exact wr a [(2577,none)] (hE:=by refine ws ?_;and_intros<;>first|rfl|(unfold Ug;rw[bI];rfl))
end AM
namespace AM
open Go Go.Proofs Mk
set_option maxRecDepth 20000
set_option maxHeartbeats 8000000
def arG:Nat->List (Nat×Nat):=λi=>if i=9 then [(9,12),(9,13)] else if i=23 then [(4,11),(7,11),(9,11)] else if i=24 then [(8,15),(11,15),(13,15)] else if i=26 then [(1,3),(1,6),(1,8)] else []
def nmB (n:Nat):Bool:=(List.range (9+n)).all λk=>match (Ug n)[k]? with
 |some x=>lH x && decide (jl ((Ug n).take k) x= -1)
 |none=>true
theorem Vs (n:Nat):(Ug n).length=9+n:=by unfold Ug;rw[bI,thNames_len];rfl
theorem al5 {n:Nat}(hn:n<=4){k:Nat}{x:ByteArray}(h:(Ug n)[k]?=some x):lH x=true/\jl ((Ug n).take k) x= -1:=by have hk:=(dF.1 h).1;rw[Vs] at hk;(have:nmB n=true:=by rcases (show n=0\/n=1\/n=2\/n=3\/n=4 by omega) with rfl|rfl|rfl|rfl|rfl<;>kernel_rfl);unfold nmB at this;have:=jU.1 this k (tY.2 hk);rw[h] at this;simpa using this
theorem adM {α β:Type}(f:α->β)(l:List α)(k:Nat):(l.map f).take k=(l.take k).map f:=lC.symm
attribute [local go_sem] thNames_len adM rep
theorem Vt {n:Nat}{ss:List (Nat×Nat)}(h:SiteOk n ss):∀(i:Nat) (x:Nat×Nat),ss[i]?=some x->x.2<=i
 |
  0,x,hx=>by
  rcases (h 0 x hx).2 with ⟨_,h2⟩|⟨j,y,h1,_⟩
  . omega
  . omega
 |
  i+1,x,hx=>by
  rcases (h (i+1) x hx).2 with ⟨_,h2⟩|⟨j,y,h1,h2,h3⟩
  . omega
  . obtain rfl:i=j:=by omega
    have:=Vt h i y h2
    omega
theorem Gm (n:Nat)(ss:List (Nat×Nat))(h1:1<=n)(hn:n<=4)(D:ss.length<=60)(hs:SiteOk n ss):FnEq Tryz.prog 64 [rw_ (qY n ss)] (.pv (boolP true)):=by
 refine wf Tryz.func64 arG (h:=λR E=>?_);refine wb ?_<;>intros;(all_goals try omega);refine wE (abl n ss hn) ?_;refine wb ?_<;>intros;refine wl (λk:Nat=> [(1,.ptr 0 0),(3,.pv (.sl (jm (Ug n)))),(5,.pv (ah k))]) (λ_=> [some (.box ((qY n ss).map .pv))]) (λk=>k<=(Ug n).length) (λk=>(Ug n).length-k) 0 (ay _) (vm [0]) (λk hk=>?_);refine wb (A2.mk ?_ ?_)<;>intros
 . have h2:k<(Ug n).length:=(by omega);have hg:=bH h2;obtain⟨u,y⟩:=al5 hn hg;have H:=Vs n;generalize (Ug n)[k]=x at hg u y;have a:(jm (Ug n))[k]?=some [dP x]:=(by simp[hg]);refine aA (by omega) a rfl ?_;refine wb ?_<;>intros;refine wE (jH x u) ?_;refine wb ?_<;>intros;refine aA (by omega) a rfl ?_;refine wb ?_<;>intros;refine wE (tJ ((Ug n).take k) x (-1) (by simp;omega) y) ?_;refine wb ?_<;>intros;exact ak ⟨k+1,h2,by omega,vm [0]⟩
 . refine wn 2 ?_;refine wb ?_<;>intros;(iterate 2 (refine aA (by omega) rfl rfl ?_;refine wb ?_<;>intros));refine wl (λk:Nat=> [(1,.ptr 0 0),(8,.pv (ah k))]) (λ_=> [some (.box ((qY n ss).map .pv))]) (λk=>k<=ss.length) (λk=>ss.length-k) 0 (ay _) (vm [0]) (λk hk=>?_);refine wb (A2.mk ?_ ?_)<;>intros
   . have h2:k<ss.length:=(by omega);have hg:=bH h2;have d:=hs k _ hg;generalize ss[k]=x at hg d;obtain⟨th,m⟩:=x;obtain⟨G,B⟩:=d;dsimp only at G B;refine aN (x:=(th,m)) (by omega) (by simpa using hg) rfl ?_;refine wb (A2.mk ?_ ?_)<;>intros;(all_goals try omega);exact ak ⟨k+1,h2,by omega,vm [0]⟩
     . rcases B with ⟨rfl,rfl⟩|⟨j,⟨yt,ym⟩,rfl,hy,z3⟩;exact absurd (Eq.refl (((0:Nat):Int))) (by assumption);dsimp only at z3;have q:=Vt hs j _ hy;dsimp only at q;refine aN (x:=(yt,ym)) (by omega) (by simpa using hy) rfl ?_;refine wb (A2.mk ?_ ?_)<;>intros;(all_goals try (exfalso;omega));(all_goals (refine aN (x:=(yt,ym)) (by omega) (by simpa using hy) rfl ?_;refine wb ?_<;>intros));(all_goals try (exfalso;omega));all_goals exact ak ⟨j+1+1,h2,by omega,vm [0]⟩
   exact wr E
end AM
namespace AM
open Go Go.Proofs Mk
set_option maxRecDepth 20000
set_option maxHeartbeats 8000000
theorem Yd (bs:List (List Sm))(h1:1<=bs.length)(h4:bs.length<=4)(B:qy bs=0):FnEq Tryz.prog 41 [rw_ (coR bs.length (ed 0 bs) (codeF bs.length 0 bs))] (.pv (boolP true)):=by
 obtain⟨d,y,q⟩:=zi B;have u:=vM bs.length bs 0;generalize codeF bs.length 0 bs=cs at q u;generalize ed 0 bs=ss at d y q;generalize bs.length=n at *
 refine wf Tryz.func41 (λ_=> [(1,4),(1,6),(1,7)]) (h:=λR D=>?_);refine wb ?_<;>intros;refine wE (Gm n ss h1 h4 d y) ?_;refine wb (A2.mk ?_ ?_)<;>intros;(all_goals try (rw[thNames_len] at *;omega));refine wl (λk:Nat=> [(1,.ptr 0 0),(3,.pv (ah k))]) (λ_=> [some (.box ((coR n ss cs).map .pv))]) (λk=>k<=cs.length) (λk=>cs.length-k) 0 (ay _) (vm [0]) (λk hk=>?_);refine wb (A2.mk ?_ ?_)<;>intros;have h2:k<cs.length:=(by omega);have hg:=bH h2;have a:=q k cs[k].1 cs[k].2 hg;generalize cs[k]=x at hg a;obtain⟨r,l⟩:=x;refine aN (x:=(r,l)) (by omega) (by simpa using hg) rfl ?_;refine wb ?_<;>intros;refine wE (Dv n ss d k (by omega) r l a) ?_;refine wb ?_<;>intros;exact ak ⟨k+1,h2,by omega,vm [0]⟩;exact wr D
