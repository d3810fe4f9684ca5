/- Words. -/
import Derived.Test.YtfbkkgfkhhibfaaGreatFx
set_option linter.unusedVariables false
set_option linter.unusedSimpArgs false
set_option maxRecDepth 20000
set_option maxHeartbeats 8000000
namespace AM
open Go Go.Proofs Mk
def qB:Nat->List (Nat×Nat):=λi=>if i=11 then [(1,6),(1,8),(6,8),(1,9)] else if i=13 then [(1,6),(1,8),(6,8),(1,9)] else if i=15 then [(1,6),(1,8),(6,8),(1,9)] else if i=27 then [(5,7)] else if i=29 then [(5,7)] else if i=32 then [(5,7)] else if i=34 then [(4,6),(4,12),(6,12),(7,12),(4,14),(6,14),(7,14),(12,14)] else []
theorem ZB (n:Nat)(u:n<=4)(s:Sm)(hb:GsC n s.body)(hc:GsC n s.els):GtC n s:=by
 intro ss out site next ho hn;have d:=lD s;have A:=U7 n s hb;rcases s with ⟨k,e⟩|⟨i,e⟩|⟨e,b,_|⟨c,cr⟩⟩|⟨e,b⟩|⟨k,b⟩|b|b|k|k|_|e|_
 all_goals
  simp only[Sm.op,Sm.name,Sm.arg,Sm.index,Sm.ex,Sm.body,Sm.els,O3,rq,kH,genS,az,eQ] at ho hn hb hc d A|-
 . refine wz Tryz.func109 qB (h:=λR a=>?_);refine wb ?_<;>intros;refine wq (Rt k e n ss out next ((next+1:Nat):Int) (by omega)) [0,1] ?_;rintro r g ⟨rfl,rfl⟩;refine wb ?_<;>intros;exact wd a _ [0,1,234] [] ⟨rfl,(next:Int),rfl⟩
 . refine wz Tryz.func109 qB (h:=λR a=>?_);refine wb ?_<;>intros;refine wq (Ru i e n ss out next ((next+1:Nat):Int) (by omega)) [0,1] ?_;rintro r g ⟨rfl,rfl⟩;refine wb ?_<;>intros;exact wd a _ [0,1,234] [] ⟨rfl,(next:Int),rfl⟩
 . refine wz Tryz.func109 qB (h:=λR a=>?_);refine wb ?_<;>intros;refine wq (YC n e b hb ss out next (next+1) (by omega) (by omega)) [0,1] ?_;rintro r g ⟨rfl,rfl⟩;refine wb ?_<;>intros;exact wd a _ [0,1,250] [] ⟨rfl,(next:Int),rfl⟩
 . refine wz Tryz.func109 qB (h:=λR a=>?_);refine wb ?_<;>intros;refine wq (YD n e b (c::cr) hb hc ss out next (next+1) (by simp only[az];omega) (by simp only[az];omega) (by simp)) [0,1] ?_;rintro r g ⟨rfl,y,rfl⟩;rw[show next+(1+az b+(eQ c+az cr))=next+1+(az b+az (c::cr)) by simp only[az];omega] at a;refine wb ?_<;>intros;exact wd a _ [0,1,250] [] ⟨rfl,y,rfl⟩
 . refine wz Tryz.func109 qB (h:=λR a=>?_);refine wb ?_<;>intros;refine wq (abw n e b hb ss out next (next+1) (by omega) (by omega)) [0,1] ?_;rintro r g ⟨rfl,rfl⟩;rw[show next+(1+az b)=next+1+az b by omega] at a;refine wb ?_<;>intros;exact wd a _ [0,1,266] [] ⟨rfl,(next:Int),rfl⟩
 . cases k
   all_goals
    simp only[Bk.fst,Bk.obj];refine wz Tryz.func109 qB (h:=λR a=>?_);refine wb ?_<;>intros
   . refine wE (xX Po ⟨#[109]⟩ 0 (by decide) rfl) ?_;refine wb ?_<;>intros;refine wQ (A 11 12 0 ss out next (next+1) (by omega) (by omega)) [0,1] ⟨rfl,rfl⟩ ?_;rintro r g ⟨rfl,rfl⟩;rw[show next+(1+az b)=next+1+az b by omega] at a;refine wb ?_<;>intros;exact wd a _ [0,1,346] [] ⟨rfl,(next:Int),rfl⟩
   . refine wE (xX Po ⟨#[110]⟩ 1 (by decide) rfl) ?_;refine wb ?_<;>intros;refine wQ (A 11 12 1 ss out next (next+1) (by omega) (by omega)) [0,1] ⟨rfl,rfl⟩ ?_;rintro r g ⟨rfl,rfl⟩;rw[show next+(1+az b)=next+1+az b by omega] at a;refine wb ?_<;>intros;exact wd a _ [0,1,346] [] ⟨rfl,(next:Int),rfl⟩
   . refine wE (xX Po ⟨#[114]⟩ 2 (by decide) rfl) ?_;refine wb ?_<;>intros;refine wQ (A 13 14 2 ss out next (next+1) (by omega) (by omega)) [0,1] ⟨rfl,rfl⟩ ?_;rintro r g ⟨rfl,rfl⟩;rw[show next+(1+az b)=next+1+az b by omega] at a;refine wb ?_<;>intros;exact wd a _ [0,1,362] [] ⟨rfl,(next:Int),rfl⟩
   . refine wE (xX Po ⟨#[114]⟩ 2 (by decide) rfl) ?_;refine wb ?_<;>intros;refine wQ (A 15 16 2 ss out next (next+1) (by omega) (by omega)) [0,1] ⟨rfl,rfl⟩ ?_;rintro r g ⟨rfl,rfl⟩;rw[show next+(1+az b)=next+1+az b by omega] at a;refine wb ?_<;>intros;exact wd a _ [0,1,378] [] ⟨rfl,(next:Int),rfl⟩
 . refine wz Tryz.func109 qB (h:=λR a=>?_);refine wb ?_<;>intros;refine wq (A 17 18 0 ss out next (next+1) (by omega) (by omega)) [0,1] ?_;rintro r g ⟨rfl,rfl⟩;rw[show next+(1+az b)=next+1+az b by omega] at a;refine wb ?_<;>intros;exact wd a _ [0,1,330] [] ⟨rfl,(next:Int),rfl⟩
 . refine wz Tryz.func109 qB (h:=λR a=>?_);refine wb ?_<;>intros;refine wq (A 19 20 0 ss out next (next+1) (by omega) (by omega)) [0,1] ?_;rintro r g ⟨rfl,rfl⟩;rw[show next+(1+az b)=next+1+az b by omega] at a;refine wb ?_<;>intros;exact wd a _ [0,1,346] [] ⟨rfl,(next:Int),rfl⟩
 . cases k
   all_goals
    simp only[Sg.op];refine wz Tryz.func109 qB (h:=λR a=>?_);refine wb ?_<;>intros;refine wq (afB n ss out next ((next+1:Nat):Int) ⟨#[99]⟩ 0 rfl) [0,1] ?_;rintro r g ⟨rfl,rfl⟩;refine wb ?_<;>intros
   . refine wq (dG n ss out next ((next+1:Nat):Int) ⟨21,0,0,0,0,0⟩ (by omega)) [0,1] ?_;rintro r g ⟨rfl,rfl⟩;refine wb ?_<;>intros;exact wd a _ [0,1,394] [] ⟨rfl,(next:Int),rfl⟩
   . refine wq (dG n ss out next ((next+1:Nat):Int) ⟨22,0,0,0,0,0⟩ (by omega)) [0,1] ?_;rintro r g ⟨rfl,rfl⟩;refine wb ?_<;>intros;exact wd a _ [0,1,410] [] ⟨rfl,(next:Int),rfl⟩
   . refine wq (dG n ss out next ((next+1:Nat):Int) ⟨23,0,0,0,0,0⟩ (by omega)) [0,1] ?_;rintro r g ⟨rfl,rfl⟩;refine wb ?_<;>intros;exact wd a _ [0,1,426] [] ⟨rfl,(next:Int),rfl⟩
 . refine wz Tryz.func109 qB (h:=λR a=>?_);refine wb ?_<;>intros;refine wE (rV (thNames n) (aQ k) _ (by simp[thNames];omega) rfl) ?_;refine wb ?_<;>intros;refine wQ (dG n ss out next ((next+1:Nat):Int) ⟨24,iR (thNames n) (aQ k),0,0,0,0⟩ (by omega)) [0,1] ⟨rfl,rfl⟩ ?_;rintro r g ⟨rfl,rfl⟩;refine wb ?_<;>intros;exact wd a _ [0,1,474] [] ⟨rfl,(next:Int),rfl⟩
 . refine wz Tryz.func109 qB (h:=λR a=>?_);refine wb ?_<;>intros;refine wE (rV (thNames n) (aQ 1) _ (by simp[thNames];omega) rfl) ?_;refine wb ?_<;>intros;refine wQ (dG n ss out next ((next+1:Nat):Int) ⟨25,iR (thNames n) (aQ 1),0,0,0,0⟩ (by omega)) [0,1] ⟨rfl,rfl⟩ ?_;rintro r g ⟨rfl,rfl⟩;refine wb ?_<;>intros;exact wd a _ [0,1,490] [] ⟨rfl,(next:Int),rfl⟩
 . refine wz Tryz.func109 qB (h:=λR a=>?_);refine wb ?_<;>intros;refine wq (yu e n ss out next ((next+1:Nat):Int) 2 (by decide) (by decide) (by omega)) [0,1] ?_;rintro r g ⟨rfl,rfl⟩;refine wb ?_<;>intros;refine wE (rV V4 ⟨#[102]⟩ 0 (by decide) rfl) ?_;refine wb ?_<;>intros;have B:=jU next e 2;refine wQ (dG n ss (out++aC next e 2) next ((next+1:Nat):Int) ⟨26,0,2,0,0,0⟩ (by simp;omega)) [0,458] ⟨rfl,rfl⟩ ?_;rintro r g ⟨rfl,rfl⟩;refine wb ?_<;>intros;exact wd a _ [0,1,554] [] ⟨rfl,(next:Int),rfl⟩
 . refine wz Tryz.func109 qB (h:=λR a=>?_);refine wb ?_<;>intros;refine wE (rV bC ⟨#[97]⟩ 0 (by decide) rfl) ?_;refine wb ?_<;>intros;refine wE (rV V4 ⟨#[102]⟩ 0 (by decide) rfl) ?_;refine wb ?_<;>intros;refine wQ (dG n ss out next ((next+1:Nat):Int) ⟨27,0,0,0,0,0⟩ (by omega)) [0,1] ⟨rfl,rfl⟩ ?_;rintro r g ⟨rfl,rfl⟩;refine wb ?_<;>intros;exact wd a _ [0,1,578] [] ⟨rfl,(next:Int),rfl⟩
theorem Ud:∀(l:List Sm) (s:Sm),s∈l->eQ s<=az l
 |
  x::r,s,h=>by
  simp only[az]
  rcases dV.1 h with rfl|h
  . omega
  . have:=Ud r s h;omega
theorem KN (n:Nat)(a:n<=4):∀(m:Nat) (l:List Sm),az l<m->GsC n l
 |0,l,h=>by omega
 |
  m+1,l,h=>U6 n l (λs hs=>by
  have h1:=Ud l s hs
  have h2:=lD s
  exact ZB n a s (KN n a m s.body (by omega)) (KN n a m s.els (by omega)))
def Lm (t n c:Nat):List (Nat×Nat):=(List.range c).map λk=>(t,n+k)
theorem KU (t n a b:Nat):Lm t n (a+b)=Lm t n a++Lm t (n+a) b:=by unfold Lm;rw[List.range_add,eU,vz];congr 1;apply QZ;intro k _;simp[nz]
@[go_sem] theorem KW {t n c:Nat} :(Lm t n c).length=c:=by simp[Lm]
theorem acx (t n:Nat):Lm t n 1=[(t,n)]:=rfl
abbrev siO (l:List (Nat×Nat)):Obj:= .row 154 3 (l.map V5)
def aqa (l:List Sm):Prop:=∀(so:List (Nat×Nat)) (t n:Nat),so.length+az l<=1000->n+az l<=1000->ACall Tryz.prog 108 [.own 0 so.length,.pv (ag t),.pv (ag n),.pv (Tt l)] [siO so] (λv g=>v= .tup [.own 1 (so.length+az l),.pv (ag ((n+az l:Nat):Int))]/\g=[none,some (siO (so++Lm t n (az l)))])
theorem zB:∀(m:Nat) (l:List Sm),az l<m->aqa l
 |0,l,h=>by omega
 |
  m+1,l,h=>by
  intro so t n B hn
  have hc:=xE l
  refine wz Tryz.func108 (λ_=> []) (h:=λR E=>?_)
  refine wb ?_<;>intros
  refine wl (λu:Nat×List (Nat×Nat)×Nat=> [(0,.own 1 u.2.1.length),(1,.pv (ag t)),(2,.pv (ag u.2.2)),(3,.pv (Tt l)),(10,.pv (ag u.1))]) (λu=> [none,some (siO u.2.1)]) (λu=>u.1<=l.length/\u.2.1++Lm t u.2.2 (az (l.drop u.1))=so++Lm t n (az l)/\u.2.2+az (l.drop u.1)=n+az l/\u.2.1.length+az (l.drop u.1)<=1000) (λu=>l.length-u.1) (0,so,n) ⟨aG _,rfl,rfl,B⟩ (vm [0,0]) (λ⟨i,o,k⟩ ⟨hi,d,hk,a⟩=>?_)
  dsimp only at hi d hk a
  refine wb (A2.mk ?_ ?_)<;>intros
  . have h2:i<l.length:=by omega
    have y:=zl l i
    rw[oG h2] at d hk a y
    generalize hx:l[i]=x at d hk a y
    simp only[az,lD] at d hk a y
    refine aB (x:=x) (by omega) (by simp[h2,hx]) (oO _) ?_
    rw[eG]
    refine wb ?_<;>intros
    refine aB (x:=x) (by omega) (by simp[h2,hx]) (oO _) ?_
    rw[eG]
    refine wb ?_<;>intros
    refine wq (zB m x.body (by omega) (o++[(t,k)]) t (k+1) (by simp;omega) (by omega)) [114] ?_
    rintro r g ⟨rfl,rfl⟩
    refine wb ?_<;>intros
    refine aB (x:=x) (by omega) (by simp[h2,hx]) (oO _) ?_
    rw[eG]
    refine wb ?_<;>intros
    refine wq (zB m x.els (by omega) (o++[(t,k)]++Lm t (k+1) (az x.body)) t (k+1+az x.body) (by simp[Lm];omega) (by omega)) [218] ?_
    rintro r g ⟨rfl,rfl⟩
    refine wb ?_<;>intros
    refine sr_mark ⟨(i+1,o++[(t,k)]++Lm t (k+1) (az x.body)++Lm t (k+1+az x.body) (az x.els),k+1+az x.body+az x.els),⟨h2,?_,by dsimp only;omega,by simp[KW];omega⟩,by dsimp only;omega,vm [0,330]⟩
    rw[<-d,KU,KU,KU,acx]
    simp[fU,nz]
  . rw[ku (by omega)] at d hk
    simp only[az,oD] at d hk
    have A:o=so++Lm t n (az l):=by rw[<-d];simp[Lm]
    have D:o.length=so.length+az l:=by rw[A];simp[KW]
    rw[<-A,<-hk,<-D] at E
    exact wo E _ _ [0,1] [] ⟨rfl,rfl⟩
abbrev lkO (l:List (ByteArray×Bool)):Obj:= .row 147 2 (l.map Pq)
theorem acD (l:List (ByteArray×Bool))(s:ByteArray)(r:Int)(d:l.length<=1000)(h:iR (l.map (·.1)) s=r):ACall Tryz.prog 107 [.own 0 l.length,.pv (dh s)] [lkO l] (λv g=>v= .pv (ag r)/\g=[some (lkO l)]):=by
 subst h;refine wz Tryz.func107 (λ_=> []) (h:=λR a=>?_);refine wb ?_<;>intros;refine wl (λi:Nat=> [(0,.own 0 l.length),(1,.pv (dh s)),(5,.pv (ag i))]) (λ_=> [some (lkO l)]) (λi=>i<=l.length/\iR (l.map (·.1)) s=fH s i ((l.map (·.1)).drop i)) (λi=>l.length-i) 0 ⟨aG _,rfl⟩ (vm [0]) (λi ⟨hi,ha⟩=>?_);refine wb (A2.mk ?_ ?_)<;>intros
 . have h2:i<l.length:=(by omega);refine yO (x:=Pq l[i]) (by simp[h2]) rfl ?_;refine wb (A2.mk ?_ ?_)<;>intros
   . exact wo a (.pv (ag i)) _ [0] [] ⟨by rw[at_hit (i:=i) (by simpa using h2) (by simpa using ‹l[i].1=s›) ha],rfl⟩
   . exact sr_mark ⟨i+1,⟨h2,oN (i:=i) (by simpa using h2) (by simpa using ‹_›) ha⟩,by omega,vm [0]⟩
 . exact wo a (.pv (ag (-1))) _ [0] [] ⟨by rw[sW (i:=i) (by simp;omega) ha],rfl⟩
theorem AQ:∀(l:List (List Sm)) (t i:Nat) (h:i<l.length),dB t (l.take (i+1))=dB t (l.take i)++Lm (t+i) 0 (az l[i])
 |b::r,t,0,_=>by simp[dB,Ci,Lm]
 |
  b::r,t,i+1,h=>by
  have:=AQ r (t+1) i (by simpa using h)
  simp only[Kt,dB,this,fU,Q3]
  rw[show t+1+i=t+(i+1) by omega]
def aqi:Nat->List (Nat×Nat):=λi=>if i=21 then [(1,3),(1,5),(3,5),(1,7),(3,7),(5,7),(1,8),(3,8)] else if i=25 then [(1,3),(1,5),(1,7)] else if i=26 then [(1,4),(1,6),(1,8)] else []
attribute [local go_sem] List.set_cons_zero List.set_cons_succ thNames_len
theorem ZX (bs:List (List Sm))(a:PgOk bs)(d:pO bs=0):FnEq Tryz.prog 69 [rw_ (Aa bs)] (rw_ (qJ bs.length (dB 0 bs))):=by have h4:=a.n4;have u:=(wR d).1;refine wf Tryz.func69 aqi (h:=λR y=>?_);refine wb ?_<;>intros;refine wE a.check ?_;rw[d];refine wb ?_<;>intros;refine wn 10 ?_;refine wb ?_;refine aj (by omega) rfl rfl ?_;refine wb ?_;refine w2 ?_;refine wb ?_;refine aj (by omega) rfl rfl ?_;refine wb ?_;refine w2 ?_;refine wb ?_;refine aj (by omega) rfl rfl ?_;refine wb ?_;refine w2 ?_;refine wb ?_;refine aj (by omega) rfl rfl ?_;refine wb ?_;refine w3 ?_;refine wb ?_;refine aj (by omega) rfl rfl ?_;refine wb ?_;refine aj (by omega) rfl rfl ?_;refine wb ?_;refine aj (by omega) rfl rfl ?_;refine wb ?_;refine aj (by omega) rfl rfl ?_;refine wb ?_;refine wQ (acD Po ⟨#[109]⟩ 0 (by decide) rfl) [2728] ⟨rfl,rfl⟩ ?_;rintro r g ⟨rfl,rfl⟩;refine wb ?_;refine aj (by omega) rfl rfl ?_;refine wb ?_;refine sr_ghost 16 4 9 1 rfl rfl ?_;refine sr_ghost 16 5 154 3 rfl rfl ?_;refine wl (λi:Nat=> [(1,.ptr 0 0),(2,.ptr 1 0),(3,.ptr 2 0),(9,.pv (ag i))]) (λi=> [some (.box ((Aa bs).map .pv)),some (.box [.emp,.emp,.emp,.emp,.emp,.emp]),some (.box [.own 3 5,.own 4 3,.own 5 1,.own 6 1,.own 7 i,.own 8 (dB 0 (bs.take i)).length]),some (.row 144 5 (OZ.map CeR.r)),some (lkO Po),some (.row 150 2 (O1.map V3)),some (JA V4),some (JA (thNames i)),some (siO (dB 0 (bs.take i)))]) (λi=>i<=bs.length) (λi=>bs.length-i) 0 (aG _) (vm [0,8,16,1808,2728,3056,3336,3432,3433] (hO:=by refine ws ?_;and_intros<;>rfl)) (λi hi=>?_);refine wb (A2.mk ?_ ?_)<;>intros;have h2:i<bs.length:=(by omega);refine aB (x:=(bs[i],i)) (by omega) (by simp<;>omega) rfl ?_;refine wb ?_<;>intros;refine aB (x:=(bs[i],i)) (by omega) (by simp<;>omega) rfl ?_;refine wb ?_<;>intros;have hle:=uM bs (i+1);have A:=uN bs i h2;have B:=zh (bs.take i) 0;refine wQ (zB (az bs[i]+1) bs[i] (by omega) (dB 0 (bs.take i)) i 0 (by omega) (by omega)) [8] ⟨rfl,rfl⟩ ?_;rintro r g ⟨rfl,rfl⟩;refine wb ?_<;>intros;have e1:=AQ bs 0 i h2;rw[dJ] at e1;have D:thNames (i+1)=thNames i++[aQ i]:=(by simp[thNames,List.range_succ]);exact sr_mark ⟨i+1,by omega,by omega,vm [0,1,2,3,4,5,6,121,217] (hO:=by refine ws ?_;rw[e1,D];simp[KW])⟩;obtain rfl:i=bs.length:=(by omega);rw[oQ];exact wr y [(3,none),(4,none),(5,none),(6,none),(7,none),(8,none)]
end AM
namespace AM
open Go Go.Proofs Mk
def ap2:Nat->List (Nat×Nat):=λi=>if i=9 then [(1,3),(1,5),(1,7)] else if i=14 then [(3,8),(3,10),(8,10)] else if i=22 then [(1,4),(1,5)] else []
@[go_sem] def ap3 (n:Nat)(ss:List (Nat×Nat))(r k:Nat):Obj:= .box [.pv (.sl (OZ.map CeR.r)),.pv (.sl (Po.map Pq)),.pv (.sl (O1.map V3)),.pv (.sl (iT V4)),.pv (.sl (iT (thNames n))),.pv (.sl (ss.map V5)),.own r k]
abbrev tcO (l:List (Int×List In)):Obj:= .row 163 2 (l.map tcR)
def cE (i next:Nat):List (Nat×AV):=[(1,.ptr 0 0),(2,.ptr 1 0),(7,.ptr 2 0),(8,.pv (ag next)),(9,.pv (ag i))]
attribute [go_sem] cE
def cS (bs:List (List Sm))(i:Nat):List (Option Obj):=[some (.box ((Aa bs).map .pv)),some (.box [.emp,.emp,.emp,.emp,.emp,.emp,.emp]),some (ap3 bs.length (dB 0 bs) 3 (codeF bs.length 0 (bs.take i)).length),some (tcO (codeF bs.length 0 (bs.take i)))]
attribute [go_sem] cS
attribute [local go_sem] List.set_cons_zero List.set_cons_succ
theorem Ls (bs:List (List Sm))(J:PgOk bs)(I:pO bs=0):FnEq Tryz.prog 44 [rw_ (Aa bs)] (.tup [rw_ (coR bs.length (dB 0 bs) (codeF bs.length 0 bs)),.pv (ag 0),.pv (ag 0)]):=by have h4:=J.n4;have V:=(wR I).1;refine wf Tryz.func44 ap2 (h:=λR X=>?_);refine wb ?_<;>intros;refine wE J.check ?_;rw[I];refine wb ?_<;>intros;refine wE (ZX bs J I) ?_;refine wb ?_<;>intros;refine sr_ghost 128 6 163 2 rfl rfl ?_;refine wl (λi:Nat=>cE i (fD (bs.take i))) (λi=>cS bs i) (λi=>i<=bs.length) (λi=>bs.length-i) 0 (aG _) (vm [0,8,128,160] (hO:=by refine ws ?_;and_intros<;>rfl)) (λi hi=>?_);have U:=uM bs i;refine ws ?_;refine w0 ?_;refine wg ?_;(((refine ji rfl ?_;refine ws ?_;first|(refine⟨λ_=>?_,λ_=>?_⟩<;>first|(exfalso;omega)|skip)|(rw[fQ];refine⟨λ_=>?_,λ_=>?_⟩)|skip));have h2:i<bs.length:=(by omega);have A:=uN bs i h2;have hle:=uM bs (i+1);refine w0 ?_;refine ig rfl ?_;refine wa ?_;refine aB (x:=(bs[i],i)) (by omega) (by simp<;>omega) rfl ?_;refine wa ?_;generalize hb:bs[i]=b at A;refine sr_ghost 124 7 182 6 rfl rfl ?_;refine wb ?_<;>intros;refine aB (x:=(b,i)) (by omega) (by simp[h2,hb]) rfl ?_;refine wb ?_<;>intros;refine wq (KN bs.length h4 (az b+1) b (by omega) (dB 0 bs) [] 0 (fD (bs.take i)) (by simp;omega) (by omega)) [124,140] ?_;rintro r g ⟨rfl,oU,rfl⟩;have Y:=genL_len bs.length 0 (fD (bs.take i)) b;rw[lN,yJ];refine wb ?_<;>intros;refine wq (dG bs.length (dB 0 bs) (genL bs.length 0 (fD (bs.take i)) b) (-1) ((fD (bs.take i)+az b:Nat):Int) ⟨28,0,0,0,0,0⟩ (by omega)) [124,197] ?_;rintro r g ⟨rfl,rfl⟩;have B:bs[i]?=some b:=(by rw[<-hb];exact aV h2);have D:=H9 bs.length bs 0 i b B;rw[dJ] at D;have G:=(yh I).2.2 i _ _ D;have hO:kD bs.length (fD (bs.take i)) b=genL bs.length 0 (fD (bs.take i)) b++[⟨28,0,0,0,0,-1⟩]:=rfl;rw[show (⟨28,0,0,0,0,0⟩:In).op=28 from rfl,<-hO];have L:(kD bs.length (fD (bs.take i)) b).length=(genL bs.length 0 (fD (bs.take i)) b).length+1:=(by rw[hO];simp);have u:codeF bs.length 0 (bs.take (i+1))=codeF bs.length 0 (bs.take i)++[(Cf (kD bs.length (fD (bs.take i)) b),kD bs.length (fD (bs.take i)) b)]:=(by rw[wS B,EP,dJ]);generalize kD bs.length (fD (bs.take i)) b=O at G hO L u|-;refine wb ?_<;>intros;refine wl (λk:Nat=>cE i (fD (bs.take i)+az b)++[(10,.ptr 4 0),(11,.ptr 5 0),(12,.pv (ag k))]) (λk=>cS bs i++[some (.box ((qJ bs.length (dB 0 bs)).map .pv++[.pv (.sl (iT bC)),.pv (.sl (O.map In.r)),.pv (ag (-1)),.pv (ag ((fD (bs.take i)+az b:Nat):Int))])),some (.box [.pv (ag (nY 2 (O.take k))),.pv (.sl (O.map In.r))])]) (λk=>k<=O.length) (λk=>O.length-k) 0 (aG _) (vm [0,1,2,3,124,381] [(293,none)]) (λk hk=>?_);refine wb (A2.mk ?_ ?_)<;>intros;have a:k<O.length:=(by omega);have y:=Q8 O[k] (O.take k) 2;rw[<-wS (aV a)] at y;have E:=G.regs k O[k] (aV a);have Z:=G.r1;have N:=mQ O[k];generalize hx:O[k]=x at y E N;refine aB (x:=x) (by omega) (by simp[a,hx]) rfl ?_;refine wb ?_<;>intros;refine wE (jr x) ?_;refine wb ?_<;>intros;refine wl (λj:Nat=>cE i (fD (bs.take i)+az b)++[(10,.ptr 4 0),(11,.ptr 5 0),(12,.pv (ag k)),(13,.pv (.sl (Wh (regsI x)))),(14,.pv (ag j))]) (λj=>cS bs i++[some (.box ((qJ bs.length (dB 0 bs)).map .pv++[.pv (.sl (iT bC)),.pv (.sl (O.map In.r)),.pv (ag (-1)),.pv (ag ((fD (bs.take i)+az b:Nat):Int))])),some (.box [.pv (ag (iZ (nY 2 (O.take k)) ((regsI x).take j))),.pv (.sl (O.map In.r))])]) (λj=>j<=(regsI x).length) (λj=>(regsI x).length-j) 0 (aG _) (vm [0,1,2,3,4,5]) (λj hj=>?_);refine wb (A2.mk ?_ ?_)<;>intros;have d:j<(regsI x).length:=(by omega);have a6:=E _ (dm d);have H:=N9 (regsI x)[j] ((regsI x).take j) (nY 2 (O.take k));rw[<-wS (aV d)] at H;refine aB (x:=(regsI x)[j]) (by omega) (by simp[d]) rfl ?_;refine wb ?_<;>intros;refine sr_mark ⟨j+1,d,by omega,?_⟩;rw[H];exact vm [0,1,2,3,4,5];obtain rfl:j=(regsI x).length:=(by omega);rw[oQ,<-y];refine wb ?_<;>intros;exact sr_mark ⟨k+1,a,by omega,vm [0,1,2,3,4,5]⟩;obtain rfl:k=O.length:=(by omega);rw[oQ];refine wb ?_<;>intros;refine And.intro (by rw[uu];simp;omega) ?_;refine wb ?_<;>intros;have hF:Cf O=nY 2 O:=rfl;rw[hF] at u;refine sr_mark ⟨i+1,h2,by omega,?_⟩;rw[A];exact vm [0,1,2,94] (hO:=by refine ws ?_;rw[u];simp;rfl));obtain rfl:i=bs.length:=(by omega);rw[oQ];refine wb ?_<;>intros;exact wr X [(3,none)]
end AM
namespace AM
open Go Go.Proofs Mk
theorem kT (i n:Int)(h:0<=i/\i<n):FnEq Tryz.prog 97 [.pv (ag i),.pv (ag n)] (.pv (boolP true)):=by have:=adI i n;rwa [decide_eq_true h.1,decide_eq_true h.2] at this
theorem L8 (n:Nat)(ss:List (Nat×Nat)):FnEq Tryz.prog 125 [rw_ (qJ n ss),.pv (ag 3),.pv (ag 2)] (.pv (boolP true)):=by refine wf Tryz.func125 (λ_=> []) (h:=λR a=>?_);refine wb ?_<;>intros;refine wE (kT 3 5 (by decide)) ?_;(repeat (refine wb ?_<;>intros;refine aj (by omega) rfl rfl ?_));refine wb ?_<;>intros;exact wr a
theorem PU (n:Nat)(ss:List (Nat×Nat))(i:In)(h1:1<=i.op)(h2:i.op<=28)(ho:ObjI n i):FnEq Tryz.prog 95 [rw_ (qJ n ss),rw_ i.r] (.pv (boolP true)):=by
 obtain⟨op,a,b,c,u,st⟩:=i;obtain⟨o3,o4,o6,o7,o8,o9,o11,o13,o21,o24,o26,o27⟩:=ho;dsimp only at h1 h2 o3 o4 o6 o7 o8 o9 o11 o13 o21 o24 o26 o27;rcases (show op=1\/op=2\/op=4\/op=5\/op=6\/op=7\/op=8\/op=9\/op=10\/op=11\/op=12\/op=13\/op=14\/op=15\/op=16\/op=17\/op=18\/op=19\/op=20\/op=21\/op=22\/op=23\/op=24\/op=25\/op=26\/op=27\/op=28 by omega) with rfl|rfl|rfl|rfl|rfl|rfl|rfl|rfl|rfl|rfl|rfl|rfl|rfl|rfl|rfl|rfl|rfl|rfl|rfl|rfl|rfl|rfl|rfl|rfl|rfl|rfl|rfl
 all_goals
  refine wf Tryz.func95 (λ_=> []) (h:=λR d=>?_);refine wb ?_<;>intros
 all_goals first|exact wr d|skip
 all_goals first
  |(obtain⟨rfl,rfl⟩:=o7 rfl;refine wE (L8 n ss) ?_;refine wb ?_<;>intros;exact wr d)
  |(obtain⟨rfl,rfl⟩:=o9 rfl;refine wE (L8 n ss) ?_;refine wb ?_<;>intros;exact wr d)
  |(obtain rfl:=o26 rfl;refine wE (kT 0 1 (by decide)) ?_;refine wb ?_<;>intros;exact wr d)
  |(obtain rfl:=o27 rfl;refine wE (kT 0 1 (by decide)) ?_;refine wb ?_<;>intros;exact wr d)
  |(obtain rfl:=o21 (by decide);refine wE (kT 0 1 (by decide)) ?_;refine wb ?_<;>intros;exact wr d)
  |(obtain rfl:=o13 (by decide);refine wE (kT 2 3 (by decide)) ?_;refine wb ?_<;>intros;refine aj (by omega) rfl rfl ?_;refine wb ?_<;>intros;exact wr d)
  |(have hb:=o24 (by decide);refine wE (kT a (thNames n).length (by rw[thNames_len];omega)) ?_;refine wb ?_<;>intros;exact wr d)
  |skip
 all_goals first
  |(have hb:=o6 rfl;obtain rfl|rfl|rfl:=(show b=0\/b=1\/b=2 by omega))
  |(have hb:=o8 rfl;obtain rfl|rfl|rfl:=(show a=0\/a=1\/a=2 by omega))
  |(have hb:=o11 (by decide);obtain rfl|rfl:=(show a=0\/a=1 by omega))
 all_goals first
  |refine wE (kT 0 5 (by decide)) ?_
  |refine wE (kT 1 5 (by decide)) ?_
  |refine wE (kT 2 5 (by decide)) ?_
  |refine wE (kT 0 3 (by decide)) ?_
  |refine wE (kT 1 3 (by decide)) ?_
 all_goals (refine wb ?_<;>intros;refine aj (by omega) rfl rfl ?_;refine wb ?_<;>intros;exact wr d)
theorem XY (l:List In)(d:Int)(I:l.length<=500)(h0: -10<=d/\d<=1000)(E:∀i∈l,1<=i.op/\(i.op=5->0<=i.a/\i.a<=1000))(h:landsF l (l.length+1) d=true):FnEq Tryz.prog 96 [.pv (.sl (l.map In.r)),.pv (ag d)] (.pv (boolP true)):=by
 refine wf Tryz.func96 (λ_=> []) (h:=λR G=>?_);refine wb ?_<;>intros;refine wl (λu:Nat×Int=> [(0,.pv (.sl (l.map In.r))),(1,.pv (ag u.2)),(5,.pv (ag u.1))]) (λ_=> []) (λu=>u.1<=l.length+1/\landsF l (l.length+1-u.1) u.2=true/\ -10<=u.2/\u.2<=1000) (λu=>l.length+1-u.1) (0,d) ⟨aG _,h,h0⟩ (vm []) (λ⟨k,t⟩ ⟨hk,hL,A,B⟩=>?_);dsimp only at hk hL A B;obtain⟨f,hf⟩:∃f,l.length+1-k=f:=⟨_,rfl⟩;rw[hf] at hL
 cases f with
 |zero=>simp [landsF] at hL
 |
  succ f=>
  simp only[landsF] at hL;split at hL
  cases hL
  . rename_i hr;have y:t.toNat<l.length:=(by omega);rw[aV y] at hL;dsimp only at hL;have hm:=E l[t.toNat] (dm y);have hg:(l.map In.r)[t.toNat]?=some (l[t.toNat]).r:=(by simp[y]);generalize l[t.toNat]=i at hL hm hg;obtain⟨H,D⟩:=hm;refine wb ?_<;>intros;(all_goals try omega);refine aj (by omega) hg rfl ?_;refine wb ?_<;>intros;refine wE (Hz i.op) ?_;split at hL;rename_i hs;refine wb (A2.mk ?_ ?_)<;>intros;rename_i hx;simp only[cZ,gK] at hx;omega;exact wr G
    . rename_i hs;refine wb (A2.mk ?_ ?_)<;>intros;rotate_left;rename_i hx;exact absurd (Decidable.not_not.1 hs) (by rintro⟨a,b⟩;rw[decide_eq_true a,decide_eq_true b] at hx;cases hx);refine aj (by omega) hg rfl ?_;refine wb (A2.mk ?_ ?_)<;>intros;refine aj (by omega) hg rfl ?_;refine wb ?_<;>intros;have h5:i.op=5:=(by omega);rw[if_pos h5] at hL;exact sr_mark ⟨(k+1,i.a),⟨by omega,by rwa [show l.length+1-(k+1)=f by omega],by have:=D h5;dsimp only;omega⟩,by dsimp only;omega,vm []⟩;have h5:i.op≠5:=(by omega);rw[if_neg h5] at hL;exact sr_mark ⟨(k+1,t+1),⟨by omega,by rwa [show l.length+1-(k+1)=f by omega],by dsimp only;omega⟩,by dsimp only;omega,vm []⟩
@[go_sem] def vtE (t:Nat)(l:List In)(k:Nat):List (Nat×AV):=[(1,.pv (ag t)),(3,.ptr 0 0),(5,.ptr 1 0),(7,.pv (ag l.length)),(8,.pv (ag k))]
@[go_sem] def vtS (n:Nat)(ss:List (Nat×Nat))(r:Int)(l:List In):List (Option Obj):=[some (.box ((qJ n ss).map .pv)),some (.box [.pv (ag r),.pv (.sl (l.map In.r))])]
theorem BQ (n:Nat)(ss:List (Nat×Nat))(H:ss.length<=60)(t:Nat)(U:t<=4)(r:Int)(l:List In)(G:GoodC n ss t r l):FnEq Tryz.prog 65 [rw_ (qJ n ss),.pv (ag t),rw_ [ag r,.sl (l.map In.r)]] (.pv (boolP true)):=by
 obtain⟨r0,r1,pos,len,op,last,obj,lands,site,jmp,brn,regs⟩:=G;refine wf Tryz.func65 (λ_=> [(2,5),(3,5)]) (h:=λR I=>?_);refine wb ?_<;>intros;(all_goals try omega);have J:∀i∈l,1<=i.op/\(i.op=5->0<=i.a/\i.a<=1000):=(by intro i hi;obtain⟨k,hk⟩:=mg.1 hi;refine⟨(op k i hk).1,λh5=>?_⟩;obtain⟨V,h1,h2⟩:=jmp k i hk h5;omega);refine wl (λk:Nat=>vtE t l k) (λ_=>vtS n ss r l) (λk=>k<=l.length) (λk=>l.length-k) 0 (aG _) (vm [0,8]) (λk hk=>?_);refine wb (A2.mk ?_ ?_)<;>intros
 . have h2:k<l.length:=(by omega);have hg:=aV h2;generalize l[k]=i at hg;have o1:=op k i hg;have o2:=last k i hg;have o3:=obj k i hg;have o4:=lands k h2;have E:=site k i hg;have o6:=jmp k i hg;have o7:=brn k i hg;have o8:=regs k i hg;have B:(l.map In.r)[k]?=some i.r:=(by simp[hg]);have hb:((i.op==28)==((k:Int)==(l.length:Int)-1))=true:=by
    rw[gI,Bool.eq_iff_iff,gI,gI];constructor;intro h;have:=o2.1 h;omega;intro h;exact o2.2 (by omega)
   have o9:i.op=28->i.site= -1:=λh=>E.elim (λx=>x.2) (λx=>absurd h x.1);refine aj (by omega) B rfl ?_;refine wb (A2.mk ?_ ?_)<;>intros;(all_goals try omega);(all_goals first|(exfalso;rename_i h;rw[hb] at h;cases h;done)|skip);refine wE (PU n ss i o1.1 o1.2 o3) ?_;refine wb ?_<;>intros;refine wE (XY l (k:Int) (by omega) (by omega) J o4) ?_;refine wb (A2.mk ?_ ?_)<;>intros;(all_goals try (exfalso;rename_i h1 h3;exact h3 (o9 h1)));rotate_left;rcases E with ⟨D,_⟩|⟨_,q,m,hq,hsq⟩;exact absurd D (by assumption);have L:=(bV.1 hsq).1;refine wE (kT i.site ss.length (by omega)) ?_;refine wb ?_<;>intros;refine aB (x:=(t,m)) (by omega) (by rw[hq];simpa using hsq) rfl ?_;refine wb (A2.mk ?_ (A2.mk ?_ ?_))<;>intros;obtain⟨z,N,O⟩:=o6 (by assumption);refine wE (kT i.a l.length (by omega)) ?_;refine wb ?_<;>intros;refine wE (jr i) ?_;have y:=mQ i;refine wb ?_<;>intros;refine wl (λj:Nat=>vtE t l k++[(10,.pv (.sl (Wh (regsI i)))),(11,.pv (ag j))]) (λ_=>vtS n ss r l) (λj=>j<=(regsI i).length) (λj=>(regsI i).length-j) 0 (aG _) (vm [0,1]) (λj A=>?_);refine wb (A2.mk ?_ ?_)<;>intros;have d:j<(regsI i).length:=(by omega);have u:=o8 _ (dm d);refine aB (x:=(regsI i)[j]) (by omega) (by simp[d]) rfl ?_;refine wb ?_<;>intros;refine wE (kT _ r u) ?_;refine wb ?_<;>intros;exact sr_mark ⟨j+1,d,by omega,vm [0,1]⟩;refine wb ?_<;>intros;exact sr_mark ⟨k+1,h2,by omega,vm [0,1]⟩;obtain⟨z,N,O⟩:=o7 (by assumption);refine wE (kT i.b l.length (by omega)) ?_;refine wb ?_<;>intros;refine wE (jr i) ?_;have y:=mQ i;refine wb ?_<;>intros;refine wl (λj:Nat=>vtE t l k++[(10,.pv (.sl (Wh (regsI i)))),(11,.pv (ag j))]) (λ_=>vtS n ss r l) (λj=>j<=(regsI i).length) (λj=>(regsI i).length-j) 0 (aG _) (vm [0,1]) (λj A=>?_);refine wb (A2.mk ?_ ?_)<;>intros;have d:j<(regsI i).length:=(by omega);have u:=o8 _ (dm d);refine aB (x:=(regsI i)[j]) (by omega) (by simp[d]) rfl ?_;refine wb ?_<;>intros;refine wE (kT _ r u) ?_;refine wb ?_<;>intros;exact sr_mark ⟨j+1,d,by omega,vm [0,1]⟩;refine wb ?_<;>intros;exact sr_mark ⟨k+1,h2,by omega,vm [0,1]⟩;refine wE (jr i) ?_;have y:=mQ i;refine wb ?_<;>intros;refine wl (λj:Nat=>vtE t l k++[(10,.pv (.sl (Wh (regsI i)))),(11,.pv (ag j))]) (λ_=>vtS n ss r l) (λj=>j<=(regsI i).length) (λj=>(regsI i).length-j) 0 (aG _) (vm [0,1]) (λj A=>?_);refine wb (A2.mk ?_ ?_)<;>intros;have d:j<(regsI i).length:=(by omega);have u:=o8 _ (dm d);refine aB (x:=(regsI i)[j]) (by omega) (by simp[d]) rfl ?_;refine wb ?_<;>intros;refine wE (kT _ r u) ?_;refine wb ?_<;>intros;exact sr_mark ⟨j+1,d,by omega,vm [0,1]⟩;refine wb ?_<;>intros;exact sr_mark ⟨k+1,h2,by omega,vm [0,1]⟩;refine wE (jr i) ?_;have y:=mQ i;refine wb ?_<;>intros;refine wl (λj:Nat=>vtE t l k++[(10,.pv (.sl (Wh (regsI i)))),(11,.pv (ag j))]) (λ_=>vtS n ss r l) (λj=>j<=(regsI i).length) (λj=>(regsI i).length-j) 0 (aG _) (vm [0,1]) (λj A=>?_);refine wb (A2.mk ?_ ?_)<;>intros;have d:j<(regsI i).length:=(by omega);have u:=o8 _ (dm d);refine aB (x:=(regsI i)[j]) (by omega) (by simp[d]) rfl ?_;refine wb ?_<;>intros;refine wE (kT _ r u) ?_;refine wb ?_<;>intros;exact sr_mark ⟨j+1,d,by omega,vm [0,1]⟩;refine wb ?_<;>intros;exact sr_mark ⟨k+1,h2,by omega,vm [0,1]⟩
 obtain rfl:k=l.length:=(by omega);exact wr I
