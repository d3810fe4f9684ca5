/- Words. -/
import Derived.Test.YtfbkkgfkhhibfaaGreatFza
import Derived.Test.YtfbkkgfkhhibfaaGreatFjf
import Derived.Test.YtfbkkgfkhhibfaaGreatFits
import Derived.Test.YtfbkkgfkhhibfaaGreatSww
set_option linter.unusedVariables false
set_option linter.unusedSimpArgs false
namespace AM
open Go Go.Proofs Mk
set_option maxRecDepth 20000
set_option maxHeartbeats 8000000
def ar2:Nat->List (Nat×Nat):=λi=>if i=9 then [(1,3),(1,5),(1,7)] else if i=14 then [(3,8),(3,10),(8,10)] else if i=22 then [(1,4),(1,5)] else []
@[go_sem] def ar4 (n:Nat)(ss:List (Nat×Nat))(r k:Nat):Obj:= .box [.pv (.sl (Qd.map CeR.r)),.pv (.sl (Qm.map Qn)),.pv (.sl (Qe.map XE)),.pv (.sl (je XF)),.pv (.sl (je (thNames n))),.pv (.sl (ss.map XG)),.own r k]
abbrev tcO (l:List (Int×List In)):Obj:= .row 163 2 (l.map tcR)
def cE (i next:Nat):List (Nat×AV):=[(1,.ptr 0 0),(2,.ptr 1 0),(7,.ptr 2 0),(8,.pv (ah next)),(9,.pv (ah i))]
attribute [go_sem] cE
def cS (bs:List (List Sm))(i:Nat):List (Option Obj):=[some (.box ((Bi bs).map .pv)),some (.box [.emp,.emp,.emp,.emp,.emp,.emp,.emp]),some (ar4 bs.length (dR 0 bs) 3 (codeF bs.length 0 (bs.take i)).length),some (tcO (codeF bs.length 0 (bs.take i)))]
attribute [go_sem] cS
attribute [local go_sem] List.set_cons_zero List.set_cons_succ
theorem Na (bs:List (List Sm))(J:PgOk bs)(I:qf bs=0):FnEq Tryz.prog 44 [rw_ (Bi bs)] (.tup [rw_ (coR bs.length (dR 0 bs) (codeF bs.length 0 bs)),.pv (ah 0),.pv (ah 0)]):=by have h4:=J.n4;have U:=(xO I).1;refine wf Tryz.func44 ar2 (h:=λR V=>?_);refine wb ?_<;>intros;refine wE J.check ?_;rw[I];refine wb ?_<;>intros;refine wE (abr bs J I) ?_;refine wb ?_<;>intros;refine dI 128 6 163 2 rfl rfl ?_;refine wl (λi:Nat=>cE i (fP (bs.take i))) (λi=>cS bs i) (λi=>i<=bs.length) (λi=>bs.length-i) 0 (ay _) (vm [0,8,128,160] (hO:=by refine ws ?_;and_intros<;>rfl)) (λi hi=>?_);have N:=vN bs i;refine ws ?_;refine w0 ?_;refine wg ?_;(((refine jr rfl ?_;refine ws ?_;first|(refine⟨λ_=>?_,λ_=>?_⟩<;>first|(exfalso;omega)|skip)|(rw[gQ];refine⟨λ_=>?_,λ_=>?_⟩)|skip));have h2:i<bs.length:=(by omega);have y:=vP bs i h2;have hle:=vN bs (i+1);refine w0 ?_;refine iI rfl ?_;refine wa ?_;refine aJ (x:=(bs[i],i)) (by omega) (by simp<;>omega) rfl ?_;refine wa ?_;generalize hb:bs[i]=b at y;refine dI 124 7 182 6 rfl rfl ?_;refine wb ?_<;>intros;refine aJ (x:=(b,i)) (by omega) (by simp[h2,hb]) rfl ?_;refine wb ?_<;>intros;refine wq (Me bs.length h4 (aF b+1) b (by omega) (dR 0 bs) [] 0 (fP (bs.take i)) (by simp;omega) (by omega)) [124,140] ?_;rintro r g ⟨rfl,oZ,rfl⟩;have X:=genL_len bs.length 0 (fP (bs.take i)) b;rw[kN,zl];refine wb ?_<;>intros;refine wq (dV bs.length (dR 0 bs) (genL bs.length 0 (fP (bs.take i)) b) (-1) ((fP (bs.take i)+aF b:Nat):Int) ⟨28,0,0,0,0,0⟩ (by omega)) [124,197] ?_;rintro r g ⟨rfl,rfl⟩;have B:bs[i]?=some b:=(by rw[<-hb];exact aX h2);have D:=IL bs.length bs 0 i b B;rw[eX] at D;have G:=(yZ I).2.2 i _ _ D;have hO:kG bs.length (fP (bs.take i)) b=genL bs.length 0 (fP (bs.take i)) b++[⟨28,0,0,0,0,-1⟩]:=rfl;rw[show (⟨28,0,0,0,0,0⟩:In).op=28 from rfl,<-hO];have L:(kG bs.length (fP (bs.take i)) b).length=(genL bs.length 0 (fP (bs.take i)) b).length+1:=(by rw[hO];simp);have q:codeF bs.length 0 (bs.take (i+1))=codeF bs.length 0 (bs.take i)++[(DJ (kG bs.length (fP (bs.take i)) b),kG bs.length (fP (bs.take i)) b)]:=(by rw[xP B,FK,eX]);generalize kG bs.length (fP (bs.take i)) b=O at G hO L q|-;refine wb ?_<;>intros;refine wl (λk:Nat=>cE i (fP (bs.take i)+aF b)++[(10,.ptr 4 0),(11,.ptr 5 0),(12,.pv (ah k))]) (λk=>cS bs i++[some (.box ((qL bs.length (dR 0 bs)).map .pv++[.pv (.sl (je bK)),.pv (.sl (O.map In.r)),.pv (ah (-1)),.pv (ah ((fP (bs.take i)+aF b:Nat):Int))])),some (.box [.pv (ah (oC 2 (O.take k))),.pv (.sl (O.map In.r))])]) (λk=>k<=O.length) (λk=>O.length-k) 0 (ay _) (vm [0,1,2,3,124,381] [(293,none)]) (λk hk=>?_);refine wb (A2.mk ?_ ?_)<;>intros;have a:k<O.length:=(by omega);have u:=TJ O[k] (O.take k) 2;rw[<-xP (aX a)] at u;have E:=G.regs k O[k] (aX a);have Y:=G.r1;have M:=nG O[k];generalize hx:O[k]=x at u E M;refine aJ (x:=x) (by omega) (by simp[a,hx]) rfl ?_;refine wb ?_<;>intros;refine wE (jD x) ?_;refine wb ?_<;>intros;refine wl (λj:Nat=>cE i (fP (bs.take i)+aF b)++[(10,.ptr 4 0),(11,.ptr 5 0),(12,.pv (ah k)),(13,.pv (.sl (XK (regsI x)))),(14,.pv (ah j))]) (λj=>cS bs i++[some (.box ((qL bs.length (dR 0 bs)).map .pv++[.pv (.sl (je bK)),.pv (.sl (O.map In.r)),.pv (ah (-1)),.pv (ah ((fP (bs.take i)+aF b:Nat):Int))])),some (.box [.pv (ah (jh (oC 2 (O.take k)) ((regsI x).take j))),.pv (.sl (O.map In.r))])]) (λj=>j<=(regsI x).length) (λj=>(regsI x).length-j) 0 (ay _) (vm [0,1,2,3,4,5]) (λj hj=>?_);refine wb (A2.mk ?_ ?_)<;>intros;have d:j<(regsI x).length:=(by omega);have Z:=E _ (eu d);have H:=Pm (regsI x)[j] ((regsI x).take j) (oC 2 (O.take k));rw[<-xP (aX d)] at H;refine aJ (x:=(regsI x)[j]) (by omega) (by simp[d]) rfl ?_;refine wb ?_<;>intros;refine aj ⟨j+1,d,by omega,?_⟩;rw[H];exact vm [0,1,2,3,4,5];obtain rfl:j=(regsI x).length:=(by omega);rw[rX,<-u];refine wb ?_<;>intros;exact aj ⟨k+1,a,by omega,vm [0,1,2,3,4,5]⟩;obtain rfl:k=O.length:=(by omega);rw[rX];refine wb ?_<;>intros;refine And.intro (by rw[uY];simp;omega) ?_;refine wb ?_<;>intros;have hF:DJ O=oC 2 O:=rfl;rw[hF] at q;refine aj ⟨i+1,h2,by omega,?_⟩;rw[y];exact vm [0,1,2,94] (hO:=by refine ws ?_;rw[q];simp;rfl));obtain rfl:i=bs.length:=(by omega);rw[rX];refine wb ?_<;>intros;exact wr V [(3,none)]
end AM
namespace AM
open Go Go.Proofs Mk
set_option maxRecDepth 20000
set_option maxHeartbeats 8000000
theorem kX (i n:Int)(h:0<=i/\i<n):FnEq Tryz.prog 97 [.pv (ah i),.pv (ah n)] (.pv (boolP true)):=by have:=afd i n;rwa [decide_eq_true h.1,decide_eq_true h.2] at this
theorem NP (n:Nat)(ss:List (Nat×Nat)):FnEq Tryz.prog 125 [rw_ (qL n ss),.pv (ah 3),.pv (ah 2)] (.pv (boolP true)):=by refine wf Tryz.func125 (λ_=> []) (h:=λR a=>?_);refine wb ?_<;>intros;refine wE (kX 3 5 (by decide)) ?_;(repeat (refine wb ?_<;>intros;refine az (by omega) rfl rfl ?_));refine wb ?_<;>intros;exact wr a
theorem QM (n:Nat)(ss:List (Nat×Nat))(i:In)(h1:1<=i.op)(h2:i.op<=28)(ho:ObjI n i):FnEq Tryz.prog 95 [rw_ (qL n ss),rw_ i.r] (.pv (boolP true)):=by
 obtain⟨op,a,b,c,q,u⟩:=i;obtain⟨o3,o4,o6,o7,o8,o9,o11,o13,o21,o24,o26,o27⟩:=ho;dsimp only at h1 h2 o3 o4 o6 o7 o8 o9 o11 o13 o21 o24 o26 o27;rcases (show op=1\/op=2\/op=4\/op=5\/op=6\/op=7\/op=8\/op=9\/op=10\/op=11\/op=12\/op=13\/op=14\/op=15\/op=16\/op=17\/op=18\/op=19\/op=20\/op=21\/op=22\/op=23\/op=24\/op=25\/op=26\/op=27\/op=28 by omega) with rfl|rfl|rfl|rfl|rfl|rfl|rfl|rfl|rfl|rfl|rfl|rfl|rfl|rfl|rfl|rfl|rfl|rfl|rfl|rfl|rfl|rfl|rfl|rfl|rfl|rfl|rfl
 all_goals
  refine wf Tryz.func95 (λ_=> []) (h:=λR d=>?_);refine wb ?_<;>intros
 all_goals first|exact wr d|skip
 all_goals first
  |(obtain⟨rfl,rfl⟩:=o7 rfl;refine wE (NP n ss) ?_;refine wb ?_<;>intros;exact wr d)
  |(obtain⟨rfl,rfl⟩:=o9 rfl;refine wE (NP n ss) ?_;refine wb ?_<;>intros;exact wr d)
  |(obtain rfl:=o26 rfl;refine wE (kX 0 1 (by decide)) ?_;refine wb ?_<;>intros;exact wr d)
  |(obtain rfl:=o27 rfl;refine wE (kX 0 1 (by decide)) ?_;refine wb ?_<;>intros;exact wr d)
  |(obtain rfl:=o21 (by decide);refine wE (kX 0 1 (by decide)) ?_;refine wb ?_<;>intros;exact wr d)
  |(obtain rfl:=o13 (by decide);refine wE (kX 2 3 (by decide)) ?_;refine wb ?_<;>intros;refine az (by omega) rfl rfl ?_;refine wb ?_<;>intros;exact wr d)
  |(have hb:=o24 (by decide);refine wE (kX a (thNames n).length (by rw[thNames_len];omega)) ?_;refine wb ?_<;>intros;exact wr d)
  |skip
 all_goals first
  |(have hb:=o6 rfl;obtain rfl|rfl|rfl:=(show b=0\/b=1\/b=2 by omega))
  |(have hb:=o8 rfl;obtain rfl|rfl|rfl:=(show a=0\/a=1\/a=2 by omega))
  |(have hb:=o11 (by decide);obtain rfl|rfl:=(show a=0\/a=1 by omega))
 all_goals first
  |refine wE (kX 0 5 (by decide)) ?_
  |refine wE (kX 1 5 (by decide)) ?_
  |refine wE (kX 2 5 (by decide)) ?_
  |refine wE (kX 0 3 (by decide)) ?_
  |refine wE (kX 1 3 (by decide)) ?_
 all_goals (refine wb ?_<;>intros;refine az (by omega) rfl rfl ?_;refine wb ?_<;>intros;exact wr d)
set_option maxRecDepth 20000
set_option maxHeartbeats 8000000
theorem Y9 (l:List In)(d:Int)(I:l.length<=500)(h0: -10<=d/\d<=1000)(E:∀i∈l,1<=i.op/\(i.op=5->0<=i.a/\i.a<=1000))(h:landsF l (l.length+1) d=true):FnEq Tryz.prog 96 [.pv (.sl (l.map In.r)),.pv (ah d)] (.pv (boolP true)):=by
 refine wf Tryz.func96 (λ_=> []) (h:=λR G=>?_);refine wb ?_<;>intros;refine wl (λu:Nat×Int=> [(0,.pv (.sl (l.map In.r))),(1,.pv (ah u.2)),(5,.pv (ah u.1))]) (λ_=> []) (λu=>u.1<=l.length+1/\landsF l (l.length+1-u.1) u.2=true/\ -10<=u.2/\u.2<=1000) (λu=>l.length+1-u.1) (0,d) ⟨ay _,h,h0⟩ (vm []) (λ⟨k,t⟩ ⟨hk,hL,y,B⟩=>?_);dsimp only at hk hL y B;obtain⟨f,hf⟩:∃f,l.length+1-k=f:=⟨_,rfl⟩;rw[hf] at hL
 cases f with
 |zero=>simp [landsF] at hL
 |
  succ f=>
  simp only[landsF] at hL;split at hL
  cases hL
  . rename_i hr;have q:t.toNat<l.length:=(by omega);rw[aX q] at hL;dsimp only at hL;have hm:=E l[t.toNat] (eu q);have hg:(l.map In.r)[t.toNat]?=some (l[t.toNat]).r:=(by simp[q]);generalize l[t.toNat]=i at hL hm hg;obtain⟨H,D⟩:=hm;refine wb ?_<;>intros;(all_goals try omega);refine az (by omega) hg rfl ?_;refine wb ?_<;>intros;refine wE (IC i.op) ?_;split at hL;rename_i hs;refine wb (A2.mk ?_ ?_)<;>intros;rename_i hx;simp only[dH,gX] at hx;omega;exact wr G
    . rename_i hs;refine wb (A2.mk ?_ ?_)<;>intros;rotate_left;rename_i hx;exact absurd (Decidable.not_not.1 hs) (by rintro⟨a,b⟩;rw[decide_eq_true a,decide_eq_true b] at hx;cases hx);refine az (by omega) hg rfl ?_;refine wb (A2.mk ?_ ?_)<;>intros;refine az (by omega) hg rfl ?_;refine wb ?_<;>intros;have h5:i.op=5:=(by omega);rw[if_pos h5] at hL;exact aj ⟨(k+1,i.a),⟨by omega,by rwa [show l.length+1-(k+1)=f by omega],by have:=D h5;dsimp only;omega⟩,by dsimp only;omega,vm []⟩;have h5:i.op≠5:=(by omega);rw[if_neg h5] at hL;exact aj ⟨(k+1,t+1),⟨by omega,by rwa [show l.length+1-(k+1)=f by omega],by dsimp only;omega⟩,by dsimp only;omega,vm []⟩
set_option maxRecDepth 20000
set_option maxHeartbeats 8000000
@[go_sem] def vtE (t:Nat)(l:List In)(k:Nat):List (Nat×AV):=[(1,.pv (ah t)),(3,.ptr 0 0),(5,.ptr 1 0),(7,.pv (ah l.length)),(8,.pv (ah k))]
@[go_sem] def vtS (n:Nat)(ss:List (Nat×Nat))(r:Int)(l:List In):List (Option Obj):=[some (.box ((qL n ss).map .pv)),some (.box [.pv (ah r),.pv (.sl (l.map In.r))])]
theorem Dn (n:Nat)(ss:List (Nat×Nat))(I:ss.length<=60)(t:Nat)(U:t<=4)(r:Int)(l:List In)(G:GoodC n ss t r l):FnEq Tryz.prog 65 [rw_ (qL n ss),.pv (ah t),rw_ [ah r,.sl (l.map In.r)]] (.pv (boolP true)):=by
 obtain⟨r0,r1,pos,len,op,last,obj,lands,site,jmp,brn,regs⟩:=G;refine wf Tryz.func65 (λ_=> [(2,5),(3,5)]) (h:=λR J=>?_);refine wb ?_<;>intros;(all_goals try omega);have L:∀i∈l,1<=i.op/\(i.op=5->0<=i.a/\i.a<=1000):=(by intro i hi;obtain⟨k,hk⟩:=rM.1 hi;refine⟨(op k i hk).1,λh5=>?_⟩;obtain⟨V,h1,h2⟩:=jmp k i hk h5;omega);refine wl (λk:Nat=>vtE t l k) (λ_=>vtS n ss r l) (λk=>k<=l.length) (λk=>l.length-k) 0 (ay _) (vm [0,8]) (λk hk=>?_);refine wb (A2.mk ?_ ?_)<;>intros
 . have h2:k<l.length:=(by omega);have hg:=aX h2;generalize l[k]=i at hg;have o1:=op k i hg;have o2:=last k i hg;have o3:=obj k i hg;have o4:=lands k h2;have H:=site k i hg;have o6:=jmp k i hg;have o7:=brn k i hg;have o8:=regs k i hg;have D:(l.map In.r)[k]?=some i.r:=(by simp[hg]);have hb:((i.op==28)==((k:Int)==(l.length:Int)-1))=true:=by
    rw[eG,Bool.eq_iff_iff,eG,eG];constructor;intro h;have:=o2.1 h;omega;intro h;exact o2.2 (by omega)
   have o9:i.op=28->i.site= -1:=λh=>H.elim (λx=>x.2) (λx=>absurd h x.1);refine az (by omega) D rfl ?_;refine wb (A2.mk ?_ ?_)<;>intros;(all_goals try omega);(all_goals first|(exfalso;rename_i h;rw[hb] at h;cases h;done)|skip);refine wE (QM n ss i o1.1 o1.2 o3) ?_;refine wb ?_<;>intros;refine wE (Y9 l (k:Int) (by omega) (by omega) L o4) ?_;refine wb (A2.mk ?_ ?_)<;>intros;(all_goals try (exfalso;rename_i h1 h3;exact h3 (o9 h1)));rotate_left;rcases H with ⟨E,_⟩|⟨_,q,m,hq,hsq⟩;exact absurd E (by assumption);have M:=(dD.1 hsq).1;refine wE (kX i.site ss.length (by omega)) ?_;refine wb ?_<;>intros;refine aJ (x:=(t,m)) (by omega) (by rw[hq];simpa using hsq) rfl ?_;refine wb (A2.mk ?_ (A2.mk ?_ ?_))<;>intros;obtain⟨z,N,O⟩:=o6 (by assumption);refine wE (kX i.a l.length (by omega)) ?_;refine wb ?_<;>intros;refine wE (jD i) ?_;have y:=nG i;refine wb ?_<;>intros;refine wl (λj:Nat=>vtE t l k++[(10,.pv (.sl (XK (regsI i)))),(11,.pv (ah j))]) (λ_=>vtS n ss r l) (λj=>j<=(regsI i).length) (λj=>(regsI i).length-j) 0 (ay _) (vm [0,1]) (λj B=>?_);refine wb (A2.mk ?_ ?_)<;>intros;have d:j<(regsI i).length:=(by omega);have u:=o8 _ (eu d);refine aJ (x:=(regsI i)[j]) (by omega) (by simp[d]) rfl ?_;refine wb ?_<;>intros;refine wE (kX _ r u) ?_;refine wb ?_<;>intros;exact aj ⟨j+1,d,by omega,vm [0,1]⟩;refine wb ?_<;>intros;exact aj ⟨k+1,h2,by omega,vm [0,1]⟩;obtain⟨z,N,O⟩:=o7 (by assumption);refine wE (kX i.b l.length (by omega)) ?_;refine wb ?_<;>intros;refine wE (jD i) ?_;have y:=nG i;refine wb ?_<;>intros;refine wl (λj:Nat=>vtE t l k++[(10,.pv (.sl (XK (regsI i)))),(11,.pv (ah j))]) (λ_=>vtS n ss r l) (λj=>j<=(regsI i).length) (λj=>(regsI i).length-j) 0 (ay _) (vm [0,1]) (λj B=>?_);refine wb (A2.mk ?_ ?_)<;>intros;have d:j<(regsI i).length:=(by omega);have u:=o8 _ (eu d);refine aJ (x:=(regsI i)[j]) (by omega) (by simp[d]) rfl ?_;refine wb ?_<;>intros;refine wE (kX _ r u) ?_;refine wb ?_<;>intros;exact aj ⟨j+1,d,by omega,vm [0,1]⟩;refine wb ?_<;>intros;exact aj ⟨k+1,h2,by omega,vm [0,1]⟩;refine wE (jD i) ?_;have y:=nG i;refine wb ?_<;>intros;refine wl (λj:Nat=>vtE t l k++[(10,.pv (.sl (XK (regsI i)))),(11,.pv (ah j))]) (λ_=>vtS n ss r l) (λj=>j<=(regsI i).length) (λj=>(regsI i).length-j) 0 (ay _) (vm [0,1]) (λj B=>?_);refine wb (A2.mk ?_ ?_)<;>intros;have d:j<(regsI i).length:=(by omega);have u:=o8 _ (eu d);refine aJ (x:=(regsI i)[j]) (by omega) (by simp[d]) rfl ?_;refine wb ?_<;>intros;refine wE (kX _ r u) ?_;refine wb ?_<;>intros;exact aj ⟨j+1,d,by omega,vm [0,1]⟩;refine wb ?_<;>intros;exact aj ⟨k+1,h2,by omega,vm [0,1]⟩;refine wE (jD i) ?_;have y:=nG i;refine wb ?_<;>intros;refine wl (λj:Nat=>vtE t l k++[(10,.pv (.sl (XK (regsI i)))),(11,.pv (ah j))]) (λ_=>vtS n ss r l) (λj=>j<=(regsI i).length) (λj=>(regsI i).length-j) 0 (ay _) (vm [0,1]) (λj B=>?_);refine wb (A2.mk ?_ ?_)<;>intros;have d:j<(regsI i).length:=(by omega);have u:=o8 _ (eu d);refine aJ (x:=(regsI i)[j]) (by omega) (by simp[d]) rfl ?_;refine wb ?_<;>intros;refine wE (kX _ r u) ?_;refine wb ?_<;>intros;exact aj ⟨j+1,d,by omega,vm [0,1]⟩;refine wb ?_<;>intros;exact aj ⟨k+1,h2,by omega,vm [0,1]⟩
 obtain rfl:k=l.length:=(by omega);exact wr J
set_option maxRecDepth 20000
set_option maxHeartbeats 8000000
def TT (n:Nat):List ByteArray:=[⟨#[120]⟩,⟨#[121]⟩,⟨#[118]⟩,⟨#[113]⟩,⟨#[109]⟩,⟨#[110]⟩,⟨#[114]⟩,⟨#[99]⟩,⟨#[102]⟩]++thNames n
def nE (r k i:Nat):List (Nat×AV):=[(1,.ptr 0 0),(4,.own r k),(5,.pv (ah i))]
attribute [local go_sem] rep
theorem aa8 (n:Nat)(ss:List (Nat×Nat))(hn:n<=4):FnEq Tryz.prog 92 [rw_ (qL n ss)] (.tup [.pv (.sl (je (TT n))),.pv (boolP true)]):=by refine wf Tryz.func92 (λ_=> []) (h:=λR a=>?_);refine wb ?_<;>intros;refine kZ 4 9 1 (by exact we) ?_;refine wn 5 ?_;refine wb ?_<;>intros;(iterate 3 (refine az (by omega) rfl rfl ?_;refine wb ?_<;>intros));refine az (by omega) rfl rfl ?_;refine wb ?_<;>intros;refine wn 3 ?_;refine wb ?_<;>intros;refine az (by omega) rfl rfl ?_;refine wb ?_<;>intros;refine az (by omega) rfl rfl ?_;refine wb ?_<;>intros;refine wn 4 ?_;refine wb ?_<;>intros;(iterate 3 (refine az (by omega) rfl rfl ?_;refine wb ?_<;>intros));refine wn 2 ?_;refine wb ?_<;>intros;refine az (by omega) rfl rfl ?_;refine wb ?_<;>intros;refine And.intro (by rw[thNames_len];omega) ?_;refine wb ?_<;>intros;exact wr a [(2577,none)] (hE:=by refine ws ?_;and_intros<;>first|rfl|(unfold TT;rw[aY];rfl))
end AM
namespace AM
open Go Go.Proofs Mk
set_option maxRecDepth 20000
set_option maxHeartbeats 8000000
def arX:Nat->List (Nat×Nat):=λi=>if i=9 then [(9,12),(9,13)] else if i=23 then [(4,11),(7,11),(9,11)] else if i=24 then [(8,15),(11,15),(13,15)] else if i=26 then [(1,3),(1,6),(1,8)] else []
def nmB (n:Nat):Bool:=(List.range (9+n)).all λk=>match (TT n)[k]? with
 |some x=>kY x && decide (jd ((TT n).take k) x= -1)
 |none=>true
theorem Vf (n:Nat):(TT n).length=9+n:=by unfold TT;rw[aY,thNames_len];rfl
theorem amd {n:Nat}(hn:n<=4){k:Nat}{x:ByteArray}(h:(TT n)[k]?=some x):kY x=true/\jd ((TT n).take k) x= -1:=by have hk:=(dD.1 h).1;rw[Vf] at hk;(have:nmB n=true:=by rcases (show n=0\/n=1\/n=2\/n=3\/n=4 by omega) with rfl|rfl|rfl|rfl|rfl<;>kernel_rfl);unfold nmB at this;have:=nO.1 this k (wX.2 hk);rw[h] at this;simpa using this
theorem adI {α β:Type}(f:α->β)(l:List α)(k:Nat):(l.map f).take k=(l.take k).map f:=kU.symm
attribute [local go_sem] thNames_len adI rep
theorem Vg {n:Nat}{ss:List (Nat×Nat)}(h:SiteOk n ss):∀(i:Nat) (x:Nat×Nat),ss[i]?=some x->x.2<=i
 |
  0,x,hx=>by
  rcases (h 0 x hx).2 with ⟨_,h2⟩|⟨j,y,h1,_⟩
  . omega
  . omega
 |
  i+1,x,hx=>by
  rcases (h (i+1) x hx).2 with ⟨_,h2⟩|⟨j,y,h1,h2,h3⟩
  . omega
  . obtain rfl:i=j:=by omega
    have:=Vg h i y h2
    omega
theorem F8 (n:Nat)(ss:List (Nat×Nat))(h1:1<=n)(hn:n<=4)(D:ss.length<=60)(hs:SiteOk n ss):FnEq Tryz.prog 64 [rw_ (qL n ss)] (.pv (boolP true)):=by
 refine wf Tryz.func64 arX (h:=λR E=>?_);refine wb ?_<;>intros;(all_goals try omega);refine wE (aa8 n ss hn) ?_;refine wb ?_<;>intros;refine wl (λk:Nat=> [(1,.ptr 0 0),(3,.pv (.sl (je (TT n)))),(5,.pv (ah k))]) (λ_=> [some (.box ((qL n ss).map .pv))]) (λk=>k<=(TT n).length) (λk=>(TT n).length-k) 0 (ay _) (vm [0]) (λk hk=>?_);refine wb (A2.mk ?_ ?_)<;>intros
 . have h2:k<(TT n).length:=(by omega);have hg:=aX h2;obtain⟨u,y⟩:=amd hn hg;have H:=Vf n;generalize (TT n)[k]=x at hg u y;have a:(je (TT n))[k]?=some [dJ x]:=(by simp[hg]);refine az (by omega) a rfl ?_;refine wb ?_<;>intros;refine wE (jy x u) ?_;refine wb ?_<;>intros;refine az (by omega) a rfl ?_;refine wb ?_<;>intros;refine wE (sK ((TT n).take k) x (-1) (by simp;omega) y) ?_;refine wb ?_<;>intros;exact aj ⟨k+1,h2,by omega,vm [0]⟩
 . refine wn 2 ?_;refine wb ?_<;>intros;(iterate 2 (refine az (by omega) rfl rfl ?_;refine wb ?_<;>intros));refine wl (λk:Nat=> [(1,.ptr 0 0),(8,.pv (ah k))]) (λ_=> [some (.box ((qL n ss).map .pv))]) (λk=>k<=ss.length) (λk=>ss.length-k) 0 (ay _) (vm [0]) (λk hk=>?_);refine wb (A2.mk ?_ ?_)<;>intros
   . have h2:k<ss.length:=(by omega);have hg:=aX h2;have d:=hs k _ hg;generalize ss[k]=x at hg d;obtain⟨th,m⟩:=x;obtain⟨G,B⟩:=d;dsimp only at G B;refine aJ (x:=(th,m)) (by omega) (by simpa using hg) rfl ?_;refine wb (A2.mk ?_ ?_)<;>intros;(all_goals try omega);exact aj ⟨k+1,h2,by omega,vm [0]⟩
     . rcases B with ⟨rfl,rfl⟩|⟨j,⟨yt,ym⟩,rfl,hy,z3⟩;exact absurd (Eq.refl (((0:Nat):Int))) (by assumption);dsimp only at z3;have q:=Vg hs j _ hy;dsimp only at q;refine aJ (x:=(yt,ym)) (by omega) (by simpa using hy) rfl ?_;refine wb (A2.mk ?_ ?_)<;>intros;(all_goals try (exfalso;omega));(all_goals (refine aJ (x:=(yt,ym)) (by omega) (by simpa using hy) rfl ?_;refine wb ?_<;>intros));(all_goals try (exfalso;omega));all_goals exact aj ⟨j+1+1,h2,by omega,vm [0]⟩
   exact wr E
end AM
namespace AM
open Go Go.Proofs Mk
set_option maxRecDepth 20000
set_option maxHeartbeats 8000000
theorem XY (bs:List (List Sm))(h1:1<=bs.length)(h4:bs.length<=4)(B:qf bs=0):FnEq Tryz.prog 41 [rw_ (coR bs.length (dR 0 bs) (codeF bs.length 0 bs))] (.pv (boolP true)):=by
 obtain⟨d,y,q⟩:=yZ B;have u:=uY bs.length bs 0;generalize codeF bs.length 0 bs=cs at q u;generalize dR 0 bs=ss at d y q;generalize bs.length=n at *
 refine wf Tryz.func41 (λ_=> [(1,4),(1,6),(1,7)]) (h:=λR D=>?_);refine wb ?_<;>intros;refine wE (F8 n ss h1 h4 d y) ?_;refine wb (A2.mk ?_ ?_)<;>intros;(all_goals try (rw[thNames_len] at *;omega));refine wl (λk:Nat=> [(1,.ptr 0 0),(3,.pv (ah k))]) (λ_=> [some (.box ((coR n ss cs).map .pv))]) (λk=>k<=cs.length) (λk=>cs.length-k) 0 (ay _) (vm [0]) (λk hk=>?_);refine wb (A2.mk ?_ ?_)<;>intros;have h2:k<cs.length:=(by omega);have hg:=aX h2;have a:=q k cs[k].1 cs[k].2 hg;generalize cs[k]=x at hg a;obtain⟨r,l⟩:=x;refine aJ (x:=(r,l)) (by omega) (by simpa using hg) rfl ?_;refine wb ?_<;>intros;refine wE (Dn n ss d k (by omega) r l a) ?_;refine wb ?_<;>intros;exact aj ⟨k+1,h2,by omega,vm [0]⟩;exact wr D
set_option maxRecDepth 20000
set_option maxHeartbeats 8000000
def EvL (n:Nat)(es:List EvA):Prop:=∀(j:Nat) e,es[j]?=some e->EvG n j e
theorem EvL.snoc {n:Nat}{es:List EvA}{e:EvA}(h:EvL n es)(he:EvG n es.length e):EvL n (es++[e]):=by
 intro j x hx;rcases zB j es.length with hj|hj;rw[jO hj] at hx;exact h j x hx
 . rw[jP hj] at hx;obtain rfl:j=es.length:=by
    have:=(dD.1 hx).1;simp at this;omega
   simp at hx;subst hx;exact he
@[go_sem] def Vy (c:Int×Int):List PV:=[ah c.1,ah c.2]
structure FrS (n K k:Nat)(tx:Int)(xs:List (Int×Nat×Nat×Int))(es:List EvA):Prop where
 tx:i64 tx
 xl:xs.length=n
 xk:∀x∈xs,TsK (es.length:Nat) x
 e4:es.length<=400
 ek:es.length<=k
 kK:k<=K
 ev:EvL n es
def FrQ (n K:Nat)(v:AV):Prop:=∃tx xs es,v= .tup [.pv (.sl (es.map EvA.r)),rw_ (su n tx es.length xs)]/\es.length<=K/\EvL n es
def aoE:Nat->List (Nat×Nat):=λ_=> [(0,1),(0,4),(1,4),(0,5),(1,5),(0,11),(1,11),(4,11),(5,11),(6,11),(0,12),(1,12),(4,12),(5,12),(6,12),(11,12)]
attribute [local go_sem] List.map_append List.length_append List.map_cons List.map_nil List.length_singleton
theorem XZ (n:Nat)(ss:List (Nat×Nat))(cs:List (Int×List In))(C:CdG n ss cs)(d:List (Int×Nat×Nat×Int))(H:d.length=n)(hx:∀x∈d,TsK (0:Nat) x)(a:List (Int×Int))(I:a.length<=1000):kS Tryz.prog 42 [rw_ (coR n ss cs),rw_ (su n (-1) 0 d),.emp,.pv (.sl (a.map Vy))] (FrQ n a.length):=by refine wf Tryz.func42 aoE (h:=λR J=>?_);refine wb ?_<;>intros;refine kZ 2 52 7 (by exact we) ?_;have L:i64 (-1):=dQ.2 (by decide);refine wl (λu:Nat×Int×List (Int×Nat×Nat×Int)×List EvA=> [(2,.own 3 u.2.2.2.length),(3,.pv (.sl (a.map Vy))),(4,.ptr 0 0),(5,.ptr 1 0),(9,.ptr 2 0),(10,.pv (ah u.1))]) (λu=> [some (.box ((coR n ss cs).map .pv)),some (.box ((su n u.2.1 u.2.2.2.length u.2.2.1).map .pv)),some (.box [.emp,.pv (ah 0),.emp,.emp,.emp,.emp,.emp]),some (.row 52 7 (u.2.2.2.map EvA.r))]) (λu=>FrS n a.length u.1 u.2.1 u.2.2.1 u.2.2.2) (λu=>a.length-u.1) (0,-1,d,[]) ⟨L,H,hx,ay _,ay _,ay _,λj e h=>by simp at h⟩ (vm [0,8,24,40]) (λ⟨k,tx,xs,es⟩ M=>?_);obtain⟨y,B,D,e4,ek,kK,q⟩:=M;dsimp only at y B D e4 ek kK q;refine wb (A2.mk ?_ (A2.mk ?_ ?_))<;>intros;have h2:k<a.length:=(by omega);refine aJ (x:=a[k]) (by omega) (by simp[h2]) rfl ?_;refine wb ?_<;>intros;refine wG (YJ n ss cs C tx y es.length (by omega) xs B D a[k].1 a[k].2) (.tup [rw_ acd,rw_ (EvA.r ace),.pv (boolP false)]) (.inr rfl) ?_;rintro v (⟨E,G,e,rfl,N,O,t3,t4⟩|rfl);refine wb ?_<;>intros;have U:(es++[e]).length=es.length+1:=(by simp);exact aj ⟨(k+1,E,G,es++[e]),⟨N,O,by dsimp only;rw[U];exact t3,by dsimp only;omega,by dsimp only;omega,h2,q.snoc t4⟩,by dsimp only;omega,vm [0,1,2,252]⟩;refine wb ?_<;>intros;exact aj ⟨(k+1,tx,xs,es),⟨y,B,D,e4,by dsimp only;omega,h2,q⟩,by dsimp only;omega,vm [0,1,2,3]⟩;all_goals exact wt J (.tup [.pv (.sl (es.map EvA.r)),rw_ (su n tx es.length xs)]) [(3,none)] ⟨_,_,_,rfl,by omega,q⟩
end AM
namespace AM
open Go Go.Proofs Mk
set_option maxRecDepth 20000
set_option maxHeartbeats 8000000
@[go_sem] def trR (n:Nat)(ss:List (Nat×Nat))(es:List EvA):List PV:=[.sl (Qd.map CeR.r),.sl (Qm.map Qn),.sl (Qe.map XE),.sl (je XF),.sl (je (thNames n)),.sl (ss.map XG),.sl (es.map EvA.r)]
def aoh (n:Nat)(ss:List (Nat×Nat))(K:Nat)(v:AV):Prop:=∃tx xs es,v= .tup [rw_ (trR n ss es),rw_ (su n tx es.length xs)]/\es.length<=K/\EvL n es
def aoi:Nat->List (Nat×Nat):=λi=>if i=3 then [(0,1),(0,2),(0,8),(1,8),(2,8),(4,8)] else if i=4 then [(1,4),(4,5)] else []
theorem abM (n:Nat)(ss:List (Nat×Nat))(cs:List (Int×List In))(C:CdG n ss cs)(a:List (Int×Int))(d:a.length<=1000):kS Tryz.prog 23 [rw_ (coR n ss cs),.pv (.sl (a.map Vy))] (aoh n ss a.length):=by have q:=Vz n ss cs C;have u:=XZ n ss cs C (cs.map ts0) (by rw[iG];exact C.len) (λx hx=>by obtain⟨p,y,rfl⟩:=iK.1 hx;obtain⟨k,hk⟩:=rM.1 y;have G:=C.good k p.1 p.2 hk;have:=G.r1;exact⟨rH,by show p.1.toNat<=5;omega,by show p.1.toNat<=5;omega,qJ _,qJ _⟩) a d;have hw:FrQ n a.length (.tup [.pv (.sl (([]:List EvA).map EvA.r)),rw_ (su n 0 0 [])]):=⟨0,[],[],rfl,ay _,λj e h=>by simp at h⟩;obtain⟨n1,n4,s60,so,val,len,good,num⟩:=C;refine wf Tryz.func23 aoi (h:=λR B=>?_);refine wb ?_<;>intros;refine wE val ?_;refine wb ?_<;>intros;refine wE q ?_;refine wb ?_<;>intros;refine wG u _ hw ?_;rintro v ⟨tx,xs,es,rfl,h1,h2⟩;refine wb ?_<;>intros;exact wt B (.tup [rw_ (trR n ss es),rw_ (su n tx es.length xs)]) [] ⟨_,_,_,rfl,h1,h2⟩
theorem abN (xs:List UInt8)(hx:xs.length<=1000):kS Tryz.prog 24 [.pv (Ux xs)] (λr=>∃n ss cs,CdG n ss cs/\r=rw_ (coR n ss cs)):=by refine wf Tryz.func24 (λ_=> []) (h:=λR q=>?_);refine wb ?_<;>intros;refine wF (Qo xs hx) ?_;rintro v ⟨bs,rfl,a,d⟩;refine wb ?_<;>intros;refine wE (Na bs a d) ?_;refine wb ?_<;>intros;have hg:=yZ d;exact wt q (rw_ (coR bs.length (dR 0 bs) (codeF bs.length 0 bs))) [] ⟨_,_,_,⟨a.n1,a.n4,hg.1,hg.2.1,XY bs a.n1 a.n4 d,uY _ _ _,hg.2.2,λk r l h=>Hl _ _ _ _ (gU h)⟩,rfl⟩
attribute [local go_sem] List.map_append List.length_append List.map_cons List.map_nil List.length_singleton
theorem Qp (xs:List UInt8)(hx:xs.length<=1000):kS Tryz.prog 25 [.pv (Ux xs)] (λr=>∃a:List (Int×Int),a.length=xs.length/\r= .pv (.sl (a.map Vy))):=by refine wf Tryz.func25 (λ_=> [(3,9),(4,9),(3,10),(4,10)]) (h:=λR d=>?_);refine wb ?_<;>intros;refine kZ 3 124 2 (by exact we) ?_;refine wl (λu:List (Int×Int)=> [(0,.pv (Ux xs)),(3,.own 0 u.length),(4,.pv (ah u.length))]) (λu=> [some (.row 124 2 (u.map Vy))]) (λu=>u.length<=xs.length) (λu=>xs.length-u.length) [] (ay _) (vm [24]) (λu q=>?_);refine wb (A2.mk ?_ ?_)<;>intros;have h2:u.length<xs.length:=(by omega);refine aJ (x:=xs[u.length]) (by omega) (by simp[h2]) rfl ?_;refine wb ?_<;>intros;refine aJ (x:=xs[u.length]) (by omega) (by simp[h2]) rfl ?_;refine wb ?_<;>intros;exact aj ⟨u++[((IntKind.i64.wrap (xs[u.length].toNat:Int)).tmod 4,IntKind.i64.wrap ((IntKind.i64.wrap ((IntKind.i64.wrap (xs[u.length].toNat:Int)).tdiv 4)).tmod 5-1))],by rw[aY];simp only[qg];omega,by rw[aY];simp only[qg];omega,vm [169]⟩;have h2:u.length=xs.length:=(by omega);exact wt d (.pv (.sl (u.map Vy))) [(0,none)] ⟨_,h2,rfl⟩
def TrQ (K:Nat)(v:AV):Prop:=∃n ss es,v=rw_ (trR n ss es)/\1<=n/\n<=4/\ss.length<=60/\SiteOk n ss/\es.length<=K/\EvL n es
theorem X6 (xs ys:List UInt8)(hx:xs.length<=1000)(a:ys.length<=1000):kS Tryz.prog 9 [.pv (Ux xs),.pv (Ux ys)] (TrQ ys.length):=by refine wf Tryz.func9 (λ_=> []) (h:=λR d=>?_);refine wb ?_<;>intros;refine wF (abN xs hx) ?_;rintro v ⟨n,ss,cs,C,rfl⟩;refine wb ?_<;>intros;refine wF (Qp ys a) ?_;rintro v ⟨q,u,rfl⟩;refine wb ?_<;>intros;refine wF (abM n ss cs C q (by omega)) ?_;rintro v ⟨tx,zs,es,rfl,h1,h2⟩;refine wb ?_<;>intros;exact wt d (rw_ (trR n ss es)) [] ⟨_,_,_,rfl,C.n1,C.n4,C.s60,C.so,by omega,h2⟩
end AM
namespace AM
open Go Go.Proofs Go.RowKit Mk Iv
def EvA.ev (e:EvA):Ev:=⟨e.thread,e.kind,e.obj,e.value,e.site,e.deps.map λ(n:Nat)=>(n:Int),e.fr.map λ(n:Nat)=>(n:Int)⟩
theorem aeV {n j:Nat}{e:EvA}(h:EvG n j e):EvOk n j e.ev:=by have i:∀ {x:Int},i64 x->inI64 x:=(λhx=>by have:=dQ.1 hx;exact⟨this.1,by omega⟩);have d:∀ {l:List Nat},Asc j l->(((l.map λ(n:Nat)=>(n:Int)).length:Int)<=j/\∀x∈l.map λ(n:Nat)=>(n:Int),0<=x/\x<j):=(λa=>by refine⟨by rw[iG];have:=a.len;omega,λx hx=>?_⟩;obtain⟨q,u,rfl⟩:=iK.1 hx;have:=a.2 q u;omega);exact⟨h.th.1,h.th.2,h.kd.1,h.kd.2,i h.obj,i h.val,h.site.1,h.site.2,d h.dp,d h.frm⟩
def AL (w:World)(B:Nat):Psi:=⟨λb o=>if b<B then w.cell? ⟨b,o,none⟩ else none,λ_=>none⟩
def Yi (w:World)(B:Nat):Fr:=⟨w,λb=>b<w.heap.size,AL w B,λ_=>none,0⟩
def BN (Ψ:Psi)(Bd:Nat)(w:World):Prop:=∀b o v,Ψ.fz b o=some v->b<Bd/\w.cell? ⟨b,o,none⟩=some v
theorem Ok.fzIn {fr:Fr}{Ψ:Psi}{loc:Loc}{σ:Sto}{w:World}(h:Ok fr Ψ loc σ w):BN Ψ w.heap.size w:=λb o v e=>⟨h.fz_lt e,h.fz b o v e⟩
theorem ai6 (w:World)(B:Nat):Ok (Yi w B) (AL w B) (λ_=>none) (pX []) w:=by
 constructor
 . intro b o v h;unfold AL at h;dsimp only at h;split at h;exact h
   cases h
 . exactλb cts m h=>nomatch h
 exact(λl o h=>by simp[pX] at h);exact(λl l' o o' b h=>by simp[pX] at h);exactλl o b h=>by simp[pX] at h
 . exactλb e h=>nomatch h
 exactλb h=>⟨h,rfl⟩;exact ak _;exact⟨rfl,rfl,rfl⟩;exactλb _ q=>rfl;exact Psi.le.refl _;exactλl h=>absurd h (Nat.not_lt_zero l)
theorem join {P:Program}{f:FuncId}{args:List AV}{post:AV->List (Option Obj)->Prop}(h:ACall P f args [] post)(w:World)(B:Nat)(vs:Array Value)(hr:Yd (AL w B) (λ_=>none) args vs.toList):
 Calls P f vs w λe w'=>∃r v g Ψ' a,e= .returned r/\post v g/\RepA Ψ' a v r/\Ok (Yi w B) Ψ' a (pX g) w':=
 (h (Yi w B) (AL w B) (λ_=>none) w vs (ai6 w B) rfl (λ_ _=>rfl) hr).mono λe w' ⟨r,v,g,Ψ',a,h1,h2,_,_,h3,h4,_⟩=>⟨r,v,g,Ψ',a,h1,h2,h3,h4⟩
theorem Nu {w w':World}{B:Nat}{Ψ:Psi}{loc:Loc}{σ:Sto}(h:Ok (Yi w B) Ψ loc σ w'):w.grownBy w' none:=⟨h.os.1,h.os.2.1,h.os.2.2,h.sz,λk hk _=>(h.pr k hk).2⟩
theorem Nv {w w' W:World}{B g:Nat}{Ψ:Psi}{loc:Loc}{σ:Sto}(h:Ok (Yi w B) Ψ loc σ w')(hW:w'.grownBy W (some g))(h1:B<=g)(h2:g<w.heap.size):BN Ψ w'.heap.size W:=λb o v e=>by
 have a:=h.fz_lt e
 refine⟨a,?_⟩
 have d:b≠g:=λq=>by
  subst q
  have h3:Ψ.fz b o=(AL w B).fz b o:=h.pz b h2 o
  rw[e] at h3
  unfold AL at h3
  dsimp only at h3
  rw[if_neg (by omega)] at h3
  cases h3
 rw[lL (hW.block b a (λq=>d (by simpa using q)))]
 exact h.fz b o v e
theorem ve {w:World}{B n c:Nat}{A:Option Addr}{xs:Bytes}(h:Lies w B 1 A n (xs.map bv))(hc:n<=c)(ho:A=none->c=0):Rep (AL w B) (Ux xs) (.slice A n c):=by
 have d:=h.1;rw[iG,iY] at d;subst d;rcases oI xs.length with h0|h0;have:=lS h0;subst this;exact .nil ho
 . obtain⟨⟨b,o,s⟩,rfl,hb,hcell⟩:=h.2 h0;have hg:∀k (hk:k<xs.length),w.cell? ((⟨b,o,s⟩:Addr).add k)=some (bv xs[k]):=λk hk=>hcell k _ (by rw[bM,aX hk];rfl);have hs:s=none:=by
    have:=hg 0 h0;simp only[Addr.add,↓reduceIte,World.cell?] at this
    cases s with
    |none=>rfl
    |some q=>split at this<;>simp at this
   subst hs;refine .sl (k:=1) (λi _=>bv (xs.getD i 0)) (by rw[iG]) hc (λrow hr=>by obtain⟨x,_,rfl⟩:=iK.1 hr;rfl) ?_ ?_
   . intro i j p a;simp only[cellOf,bM,Option.bind_map] at a
     cases hx:xs[i]? with
     |none=>simp [hx] at a
     |
      some x=>
      simp only[hx,wB,Function.comp] at a;obtain⟨hi,rfl⟩:=dD.1 hx
      have u:j=0:=by cases j with
       |zero=>rfl
       |succ j=>simp at a
      subst u;have:=hg i hi;show (if b<B then w.cell? ⟨b,o+(i*1+0),none⟩ else none)=_;rw[if_pos hb];rw[iY,rQ,qi,hx,Option.getD_some,<-this];congr 1;unfold Addr.add;split;simp_all;rfl
   . intro i j p a;simp only[cellOf,bM,Option.bind_map] at a
     cases hx:xs[i]? with
     |none=>simp [hx] at a
     |
      some x=>
      simp only[hx,wB,Function.comp] at a
      cases j with
      |
       zero=>
       simp only[oJ,gV] at a;subst a;rw[qi,hx];exact .sc rfl
      |succ j=>simp at a
theorem Ho {Ψ:Psi}{d:Nat}{w:World}(q:BN Ψ d w){l:List Nat}{v:Value}(h:Rep Ψ (.sl (nL l)) v):∃A c,v= .slice A l.length c/\Lies w d 1 A l.length ((l.map λ(n:Nat)=>(n:Int)).map Iv.iv):=by
 generalize he:nL l=els at h
 cases h with
 |
  nil=>
  have:l=[]:=Jj.1 he;subst this;exact⟨_,_,rfl,⟨rfl,λh=>absurd h (Jk 0)⟩⟩
 |
  @sl _ b o c n k f hn hnc hk hf hr=>
  subst he;rw[iG] at hn;subst hn;refine⟨_,_,rfl,by simp,λh0=>?_⟩;have y:k=1:=(hk _ (Jl (eu h0))).symm;subst y;have hc:∀i (hi:i<l.length),b<d/\w.cell? ⟨b,o+i,none⟩=some (Iv.iv (l[i]:Nat)):=(λi hi=>by have h1:cellOf (nL l) i 0=some (ah (l[i]:Nat)):=(by simp[cellOf,hi,nP]);obtain⟨h0,h2⟩:=q _ _ _ (hf i 0 _ h1);rw[iY,rQ] at h2;refine⟨h0,?_⟩;rw[h2,(eH (loc:=λ_=>none) (.pv (hr i 0 _ h1))).1];rfl);refine⟨⟨b,o,none⟩,rfl,(hc 0 h0).1,λj u a=>?_⟩;rw[bM,bM] at a
  cases hx:l[j]? with
  |none=>rw [hx] at a;simp at a
  |
   some x=>
   obtain⟨B,rfl⟩:=dD.1 hx;rw[hx] at a;simp only[nJ,gV] at a;subst a;have:=(hc j B).2;rw[<-this];congr 1;unfold Addr.add;split;simp_all;rfl
end AM
namespace AM
open Go Go.Proofs Go.RowKit Iv
def pvV:PV->Value
 | .sc v=>v
 |_=>undef
def fD (els:List (List PV)):List Value:=els.flatMap (·.map pvV)
theorem PQ {k:Nat} :∀ {els:List (List PV)},(∀r∈els,r.length=k)->∀ {j:Nat}{u:Value},(fD els)[j]?=some u->∃i q r p,els[i]?=some r/\r[q]?=some p/\j=i*k+q/\u=pvV p
 | [],_,j,u,h=>by simp[fD] at h
 |
  r::t,hk,j,u,h=>by
  have hr:r.length=k:=hk r (by simp)
  have e:fD (r::t)=r.map pvV++fD t:=by simp[fD]
  rw[e] at h
  by_cases a:j<k
  . rw[jO (by simpa [hr] using a),bM] at h
    cases hp:r[j]? with
    |none=>rw [hp] at h;simp at h
    |
     some p=>
     rw[hp] at h
     simp only[nJ,gV] at h
     exact⟨0,j,r,p,by simp,hp,by simp,h.symm⟩
  . rw[jP (by simp[hr];omega)] at h
    obtain⟨i,q,d,p,h1,h2,h3,h4⟩:=PQ (λr hr=>hk r (by simp[hr])) h
    refine⟨i+1,q,d,p,by simpa using h1,h2,?_,h4⟩
    rw[iG,hr] at h3
    rw[jM]
    omega
theorem PR {k:Nat} :∀ {els:List (List PV)},(∀r∈els,r.length=k)->(fD els).length=els.length*k
 | [],_=>by simp[fD]
 |
  r::t,hk=>by
  have e:fD (r::t)=r.map pvV++fD t:=by simp[fD]
  rw[e,aY,iG,hk r (by simp),PR (λr hr=>hk r (by simp[hr])),iR,jM]
  omega
theorem Xw {Ψ:Psi}{a:Nat}{w:World}(d:BN Ψ a w){els:List (List PV)}{v:Value}{k:Nat}(hk:∀r∈els,r.length=k)(E:0<k)(y:∀r∈els,∀p∈r,∃x,p= .sc x)(h:Rep Ψ (.sl els) v):
 ∃A c,v= .slice A els.length c/\Lies w a k A els.length (fD els)/\(0<els.length->els.length<=c/\∃b o,A=some ⟨b,o,none⟩)/\(A=none->c=0):=by
 cases h with
 |nil hA=>exact ⟨_,_,rfl,⟨by simp[fD],λh=>absurd h (Jk 0)⟩,λh=>absurd h (Jk 0),hA⟩
 |
  @sl _ b o c n k' f hn hnc hk' hf hr=>
  subst hn;refine⟨_,_,rfl,⟨PR hk,λh0=>?_⟩,λ_=>⟨hnc,b,o,rfl⟩,λh=>nomatch h⟩;have B:k'=k:=(by have h1:=hk' _ (eu h0);rw[hk _ (eu h0)] at h1;exact h1.symm);subst B;have hc:∀i q r p,els[i]?=some r->r[q]?=some p->b<a/\w.cell? ⟨b,o+(i*k'+q),none⟩=some (pvV p):=(λi q r p h1 h2=>by have h3:cellOf els i q=some p:=(by simp only[cellOf,h1,wB];exact h2);obtain⟨h4,h5⟩:=d _ _ _ (hf i q _ h3);refine⟨h4,?_⟩;rw[h5];obtain⟨x,rfl⟩:=y r (gU h1) p (gU h2);rw[(eH (loc:=λ_=>none) (.pv (hr i q _ h3))).1];rfl);have D:b<a:=(by have H:(els[0]).length=k':=hk _ (eu h0);exact (hc 0 0 els[0] (els[0])[0] (aX h0) (aX (by omega))).1);refine⟨⟨b,o,none⟩,rfl,D,λj u G=>?_⟩;obtain⟨i,q,r,p,h1,h2,rfl,rfl⟩:=PQ hk G;have:=(hc i q r p h1 h2).2;rw[<-this];congr 1;unfold Addr.add;split;simp_all;rfl
theorem iZ {k:Nat} :∀ {els:List (List PV)}{i j:Nat}{r:List PV}{p:PV},(∀r∈els,r.length=k)->els[i]?=some r->r[j]?=some p->(fD els)[i*k+j]?=some (pvV p)
 | [],i,j,r,p,_,h,_=>by simp at h
 |
  r0::t,i,j,r,p,hk,h1,h2=>by
  have e:fD (r0::t)=r0.map pvV++fD t:=by simp[fD]
  have hr:r0.length=k:=hk r0 (by simp)
  rw[e]
  cases i with
  |
   zero=>
   simp only[oJ,gV] at h1
   subst h1
   have a:=(dD.1 h2).1
   rw[TC,eX,jO (by simpa using a),bM,h2]
   rfl
  |
   succ i=>
   rw[jP (by rw[iG,hr,jM];omega),iG,hr,show (i+1)* k+j-k=i*k+j by rw[jM];omega]
   exact iZ (λr hr=>hk r (by simp[hr])) (by simpa using h1) h2
theorem Yy {Ψ:Psi}{D:Nat}{w:World}(q:BN Ψ D w){els:List (List PV)}{v:Value}{k bytes:Nat}(hk:∀r∈els,r.length=k)(y:0<k)(a:∀r∈els,∀p∈r,∃x:Value,p= .sc x/\x.oneCell'=true)(hn:els.length<=1000)(hb:bytes<=48)(h:Rep Ψ (.sl els) v):
 ∃A c,v= .slice A els.length c/\Go.Proofs.YtfbkkgfkhhibfaaGreat.In1 w D k bytes A els.length c (fD els)/\(0<els.length->∃b o,A=some ⟨b,o,none⟩):=by obtain⟨A,c,E,G,ha,h0⟩:=Xw q hk y (λr hr p B=>by obtain⟨x,hx,_⟩:=a r hr p B;exact⟨x,hx⟩) h;refine⟨A,c,E,⟨G,h0,λu d=>?_,?_,?_⟩,λh=>(ha h).2⟩;unfold fD at d;obtain⟨r,hr,d⟩:=List.mem_flatMap.1 d;obtain⟨p,B,rfl⟩:=iK.1 d;obtain⟨x,rfl,hx⟩:=a r hr p B;exact hx;unfold maxLen;omega;have:els.length*bytes<=1000*48:=zJ hn hb;omega
