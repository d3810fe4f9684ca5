/- Words. -/
import Derived.Test.YtfbkkgfkhhibfaaGreatFx
set_option linter.unusedVariables false
set_option linter.unusedSimpArgs false
namespace AM
open Go Go.Proofs Mk
set_option maxRecDepth 20000
set_option maxHeartbeats 8000000
def mD:Nat→List (Nat×Nat):=fun i=>if i=11 then [(1,6),(1,8),(6,8),(1,9)] else if i=13 then [(1,6),(1,8),(6,8),(1,9)] else if i=15 then [(1,6),(1,8),(6,8),(1,9)] else if i=27 then [(5,7)] else if i=29 then [(5,7)] else if i=32 then [(5,7)] else if i=34 then [(4,6),(4,12),(6,12),(7,12),(4,14),(6,14),(7,14),(12,14)] else []
theorem U4 (n:Nat)(hn4:n≤4)(s:Sm)(hb:Xd n s.body)(hc:Xd n s.els):GtC n s:=by
 intro ss out site next ho hn;have hcs:=jG s;have A:=PG n s hb;rcases s with ⟨k,e⟩ | ⟨i,e⟩ | ⟨e,b,_ | ⟨c,cr⟩⟩ | ⟨e,b⟩ | ⟨k,b⟩ | b | b | k | k | _ | e | _
 all_goals
  simp only[Sm.op,Sm.name,Sm.arg,Sm.index,Sm.ex,Sm.body,Sm.els,Jv,List.map_nil,List.map_cons,genS,az,dM] at ho hn hb hc hcs A⊢
 · refine wz Tryz.func109 mD (h:=fun R hR=>?_);refine wb ?_ <;> intros
   refine wq (Md k e n ss out next ((next+1:Nat):Int) (by omega)) [0,1] ?_;rintro r g ⟨rfl,rfl⟩;refine wb ?_ <;> intros
   exact wd hR _ [0,1,234] [] ⟨rfl,(next:Int),rfl⟩
 · refine wz Tryz.func109 mD (h:=fun R hR=>?_);refine wb ?_ <;> intros
   refine wq (Me i e n ss out next ((next+1:Nat):Int) (by omega)) [0,1] ?_;rintro r g ⟨rfl,rfl⟩;refine wb ?_ <;> intros
   exact wd hR _ [0,1,234] [] ⟨rfl,(next:Int),rfl⟩
 · refine wz Tryz.func109 mD (h:=fun R hR=>?_);refine wb ?_ <;> intros
   refine wq (TZ n e b hb ss out next (next+1) (by omega) (by omega)) [0,1] ?_;rintro r g ⟨rfl,rfl⟩;refine wb ?_ <;> intros
   exact wd hR _ [0,1,250] [] ⟨rfl,(next:Int),rfl⟩
 · refine wz Tryz.func109 mD (h:=fun R hR=>?_);refine wb ?_ <;> intros
   refine wq (Ua n e b (c :: cr) hb hc ss out next (next+1) (by simp only[az];omega) (by simp only[az];omega) (by simp)) [0,1] ?_;rintro r g ⟨rfl,lF,rfl⟩;rw[show next+(1+az b+(dM c+az cr))=next+1+(az b+az (c :: cr)) by simp only[az];omega] at hR;refine wb ?_ <;> intros
   exact wd hR _ [0,1,250] [] ⟨rfl,lF,rfl⟩
 · refine wz Tryz.func109 mD (h:=fun R hR=>?_);refine wb ?_ <;> intros
   refine wq (Xe n e b hb ss out next (next+1) (by omega) (by omega)) [0,1] ?_;rintro r g ⟨rfl,rfl⟩;rw[show next+(1+az b)=next+1+az b by omega] at hR;refine wb ?_ <;> intros
   exact wd hR _ [0,1,266] [] ⟨rfl,(next:Int),rfl⟩
 · cases k
   all_goals
    simp only[Bk.fst,Bk.obj];refine wz Tryz.func109 mD (h:=fun R hR=>?_);refine wb ?_ <;> intros
   · refine wE (sG JC ⟨#[109]⟩ 0 (by decide) rfl) ?_;refine wb ?_ <;> intros
     refine wQ (A 11 12 0 ss out next (next+1) (by omega) (by omega)) [0,1] ⟨rfl,rfl⟩ ?_;rintro r g ⟨rfl,rfl⟩;rw[show next+(1+az b)=next+1+az b by omega] at hR;refine wb ?_ <;> intros
     exact wd hR _ [0,1,346] [] ⟨rfl,(next:Int),rfl⟩
   · refine wE (sG JC ⟨#[110]⟩ 1 (by decide) rfl) ?_;refine wb ?_ <;> intros
     refine wQ (A 11 12 1 ss out next (next+1) (by omega) (by omega)) [0,1] ⟨rfl,rfl⟩ ?_;rintro r g ⟨rfl,rfl⟩;rw[show next+(1+az b)=next+1+az b by omega] at hR;refine wb ?_ <;> intros
     exact wd hR _ [0,1,346] [] ⟨rfl,(next:Int),rfl⟩
   · refine wE (sG JC ⟨#[114]⟩ 2 (by decide) rfl) ?_;refine wb ?_ <;> intros
     refine wQ (A 13 14 2 ss out next (next+1) (by omega) (by omega)) [0,1] ⟨rfl,rfl⟩ ?_;rintro r g ⟨rfl,rfl⟩;rw[show next+(1+az b)=next+1+az b by omega] at hR;refine wb ?_ <;> intros
     exact wd hR _ [0,1,362] [] ⟨rfl,(next:Int),rfl⟩
   · refine wE (sG JC ⟨#[114]⟩ 2 (by decide) rfl) ?_;refine wb ?_ <;> intros
     refine wQ (A 15 16 2 ss out next (next+1) (by omega) (by omega)) [0,1] ⟨rfl,rfl⟩ ?_;rintro r g ⟨rfl,rfl⟩;rw[show next+(1+az b)=next+1+az b by omega] at hR;refine wb ?_ <;> intros
     exact wd hR _ [0,1,378] [] ⟨rfl,(next:Int),rfl⟩
 · refine wz Tryz.func109 mD (h:=fun R hR=>?_);refine wb ?_ <;> intros
   refine wq (A 17 18 0 ss out next (next+1) (by omega) (by omega)) [0,1] ?_;rintro r g ⟨rfl,rfl⟩;rw[show next+(1+az b)=next+1+az b by omega] at hR;refine wb ?_ <;> intros
   exact wd hR _ [0,1,330] [] ⟨rfl,(next:Int),rfl⟩
 · refine wz Tryz.func109 mD (h:=fun R hR=>?_);refine wb ?_ <;> intros
   refine wq (A 19 20 0 ss out next (next+1) (by omega) (by omega)) [0,1] ?_;rintro r g ⟨rfl,rfl⟩;rw[show next+(1+az b)=next+1+az b by omega] at hR;refine wb ?_ <;> intros
   exact wd hR _ [0,1,346] [] ⟨rfl,(next:Int),rfl⟩
 · cases k
   all_goals
    simp only[Sg.op];refine wz Tryz.func109 mD (h:=fun R hR=>?_);refine wb ?_ <;> intros
    refine wq (abJ n ss out next ((next+1:Nat):Int) ⟨#[99]⟩ 0 rfl) [0,1] ?_;rintro r g ⟨rfl,rfl⟩;refine wb ?_ <;> intros
   · refine wq (bV n ss out next ((next+1:Nat):Int) ⟨21,0,0,0,0,0⟩ (by omega)) [0,1] ?_;rintro r g ⟨rfl,rfl⟩;refine wb ?_ <;> intros
     exact wd hR _ [0,1,394] [] ⟨rfl,(next:Int),rfl⟩
   · refine wq (bV n ss out next ((next+1:Nat):Int) ⟨22,0,0,0,0,0⟩ (by omega)) [0,1] ?_;rintro r g ⟨rfl,rfl⟩;refine wb ?_ <;> intros
     exact wd hR _ [0,1,410] [] ⟨rfl,(next:Int),rfl⟩
   · refine wq (bV n ss out next ((next+1:Nat):Int) ⟨23,0,0,0,0,0⟩ (by omega)) [0,1] ?_;rintro r g ⟨rfl,rfl⟩;refine wb ?_ <;> intros
     exact wd hR _ [0,1,426] [] ⟨rfl,(next:Int),rfl⟩
 · refine wz Tryz.func109 mD (h:=fun R hR=>?_);refine wb ?_ <;> intros
   refine wE (nU (thNames n) (aO k) _ (by simp[thNames];omega) rfl) ?_;refine wb ?_ <;> intros
   refine wQ (bV n ss out next ((next+1:Nat):Int) ⟨24,fU (thNames n) (aO k),0,0,0,0⟩ (by omega)) [0,1] ⟨rfl,rfl⟩ ?_;rintro r g ⟨rfl,rfl⟩;refine wb ?_ <;> intros
   exact wd hR _ [0,1,474] [] ⟨rfl,(next:Int),rfl⟩
 · refine wz Tryz.func109 mD (h:=fun R hR=>?_);refine wb ?_ <;> intros
   refine wE (nU (thNames n) (aO 1) _ (by simp[thNames];omega) rfl) ?_;refine wb ?_ <;> intros
   refine wQ (bV n ss out next ((next+1:Nat):Int) ⟨25,fU (thNames n) (aO 1),0,0,0,0⟩ (by omega)) [0,1] ⟨rfl,rfl⟩ ?_;rintro r g ⟨rfl,rfl⟩;refine wb ?_ <;> intros
   exact wd hR _ [0,1,490] [] ⟨rfl,(next:Int),rfl⟩
 · refine wz Tryz.func109 mD (h:=fun R hR=>?_);refine wb ?_ <;> intros
   refine wq (sW e n ss out next ((next+1:Nat):Int) 2 (by decide) (by decide) (by omega)) [0,1] ?_;rintro r g ⟨rfl,rfl⟩;refine wb ?_ <;> intros
   refine wE (nU QH ⟨#[102]⟩ 0 (by decide) rfl) ?_;refine wb ?_ <;> intros
   have hv:=iM next e 2;refine wQ (bV n ss (out++aC next e 2) next ((next+1:Nat):Int) ⟨26,0,2,0,0,0⟩ (by simp;omega)) [0,458] ⟨rfl,rfl⟩ ?_;rintro r g ⟨rfl,rfl⟩;refine wb ?_ <;> intros
   exact wd hR _ [0,1,554] [] ⟨rfl,(next:Int),rfl⟩
 · refine wz Tryz.func109 mD (h:=fun R hR=>?_);refine wb ?_ <;> intros
   refine wE (nU aZ ⟨#[97]⟩ 0 (by decide) rfl) ?_;refine wb ?_ <;> intros
   refine wE (nU QH ⟨#[102]⟩ 0 (by decide) rfl) ?_;refine wb ?_ <;> intros
   refine wQ (bV n ss out next ((next+1:Nat):Int) ⟨27,0,0,0,0,0⟩ (by omega)) [0,1] ⟨rfl,rfl⟩ ?_;rintro r g ⟨rfl,rfl⟩;refine wb ?_ <;> intros
   exact wd hR _ [0,1,578] [] ⟨rfl,(next:Int),rfl⟩
set_option maxRecDepth 20000
set_option maxHeartbeats 8000000
theorem Ov:∀(l:List Sm) (s:Sm),s∈l→dM s≤az l
 |
  x :: r,s,h=>by
  simp only[az]
  rcases List.mem_cons.1 h with rfl | h
  · omega
  · have:=Ov r s h;omega
theorem Fh (n:Nat)(hn4:n≤4):∀(m:Nat) (l:List Sm),az l < m→Xd n l
 | 0,l,h=>by omega
 |
  m+1,l,h=>PE n l (fun s hs=>by
  have h1:=Ov l s hs
  have h2:=jG s
  exact U4 n hn4 s (Fh n hn4 m s.body (by omega)) (Fh n hn4 m s.els (by omega)))
def FU (t n c:Nat):List (Nat×Nat):=(List.range c).map fun k=>(t,n+k)
theorem Fz (t n a b:Nat):FU t n (a+b)=FU t n a++FU t (n+a) b:=by
 unfold FU;rw[List.range_add,List.map_append,List.map_map];congr 1;apply List.map_congr_left;intro k _;simp[Nat.add_assoc]
@[go_sem] theorem FC {t n c:Nat} :(FU t n c).length=c:=by simp[FU]
theorem Yj (t n:Nat):FU t n 1= [(t,n)]:=rfl
abbrev siO (l:List (Nat×Nat)):Obj:= .row 154 3 (l.map QI)
def al2 (l:List Sm):Prop:=∀(so:List (Nat×Nat)) (t n:Nat),so.length+az l≤1000→n+az l≤1000→ACall Tryz.prog 108 [.own 0 so.length,.pv (ag t),.pv (ag n),.pv (NM l)] [siO so] (fun v g=>v= .tup [.own 1 (so.length+az l),.pv (ag ((n+az l:Nat):Int))]∧g= [none,some (siO (so++FU t n (az l)))])
theorem uG:∀(m:Nat) (l:List Sm),az l < m→al2 l
 | 0,l,h=>by omega
 |
  m+1,l,h=>by
  intro so t n hso hn
  have hc:=rO l
  refine wz Tryz.func108 (fun _=> []) (h:=fun R hR=>?_)
  refine wb ?_ <;> intros
  refine wl (fun u:Nat×List (Nat×Nat)×Nat=> [(0,.own 1 u.2.1.length),(1,.pv (ag t)),(2,.pv (ag u.2.2)),(3,.pv (NM l)),(10,.pv (ag u.1))]) (fun u=> [none,some (siO u.2.1)]) (fun u=>u.1≤l.length∧u.2.1++FU t u.2.2 (az (l.drop u.1))=so++FU t n (az l)∧u.2.2+az (l.drop u.1)=n+az l∧u.2.1.length+az (l.drop u.1)≤1000) (fun u=>l.length - u.1) (0,so,n) ⟨Nat.zero_le _,rfl,rfl,hso⟩ (vm [0,0]) (fun ⟨i,o,k⟩ ⟨hi,hd,hk,hol⟩=>?_)
  dsimp only at hi hd hk hol
  refine wb (A2.mk ?_ ?_) <;> intros
  · have h2:i < l.length:=by omega
    have hdl:=uz l i
    rw[List.drop_eq_getElem_cons h2] at hd hk hol hdl
    generalize hx:l[i]=x at hd hk hol hdl
    simp only[az,jG] at hd hk hol hdl
    refine aB (x:=x) (by omega) (by simp[h2,hx]) (lC _) ?_
    rw[dJ]
    refine wb ?_ <;> intros
    refine aB (x:=x) (by omega) (by simp[h2,hx]) (lC _) ?_
    rw[dJ]
    refine wb ?_ <;> intros
    refine wq (uG m x.body (by omega) (o++ [(t,k)]) t (k+1) (by simp;omega) (by omega)) [114] ?_
    rintro r g ⟨rfl,rfl⟩
    refine wb ?_ <;> intros
    refine aB (x:=x) (by omega) (by simp[h2,hx]) (lC _) ?_
    rw[dJ]
    refine wb ?_ <;> intros
    refine wq (uG m x.els (by omega) (o++ [(t,k)]++FU t (k+1) (az x.body)) t (k+1+az x.body) (by simp[FU];omega) (by omega)) [218] ?_
    rintro r g ⟨rfl,rfl⟩
    refine wb ?_ <;> intros
    refine ai ⟨(i+1,o++ [(t,k)]++FU t (k+1) (az x.body)++FU t (k+1+az x.body) (az x.els),k+1+az x.body+az x.els),⟨h2,?_,by dsimp only;omega,by simp[FC];omega⟩,by dsimp only;omega,vm [0,330]⟩
    rw[←hd,Fz,Fz,Fz,Yj]
    simp[List.append_assoc,Nat.add_assoc]
  · rw[List.drop_eq_nil_of_le (by omega)] at hd hk
    simp only[az,Nat.add_zero] at hd hk
    have hd':o=so++FU t n (az l):=by rw[←hd];simp[FU]
    have al3:o.length=so.length+az l:=by rw[hd'];simp[FC]
    rw[←hd',←hk,←al3] at hR
    exact wo hR _ _ [0,1] [] ⟨rfl,rfl⟩
set_option maxRecDepth 20000
set_option maxHeartbeats 8000000
abbrev lkO (l:List (ByteArray×Bool)):Obj:= .row 147 2 (l.map JD)
theorem Yv (l:List (ByteArray×Bool))(s:ByteArray)(r:Int)(hl:l.length≤1000)(h:fU (l.map (·.1)) s=r):ACall Tryz.prog 107 [.own 0 l.length,.pv (bJ s)] [lkO l] (fun v g=>v= .pv (ag r)∧g= [some (lkO l)]):=by
 subst h;refine wz Tryz.func107 (fun _=> []) (h:=fun R hR=>?_);refine wb ?_ <;> intros
 refine wl (fun i:Nat=> [(0,.own 0 l.length),(1,.pv (bJ s)),(5,.pv (ag i))]) (fun _=> [some (lkO l)]) (fun i=>i≤l.length∧fU (l.map (·.1)) s=dU s i ((l.map (·.1)).drop i)) (fun i=>l.length - i) 0 ⟨Nat.zero_le _,rfl⟩ (vm [0]) (fun i ⟨hi,ha⟩=>?_);refine wb (A2.mk ?_ ?_) <;> intros
 · have h2:i < l.length:=by omega
   refine DK (x:=JD l[i]) (by simp[h2]) rfl ?_;refine wb (A2.mk ?_ ?_) <;> intros
   · exact wo hR (.pv (ag i)) _ [0] [] ⟨by rw[at_hit (i:=i) (by simpa using h2) (by simpa using ‹l[i].1=s›) ha],rfl⟩
   · exact ai ⟨i+1,⟨h2,lu (i:=i) (by simpa using h2) (by simpa using ‹_›) ha⟩,by omega,vm [0]⟩
 · exact wo hR (.pv (ag (-1))) _ [0] [] ⟨by rw[oN (i:=i) (by simp;omega) ha],rfl⟩
theorem vT:∀(l:List (List Sm)) (t i:Nat) (h:i < l.length),bU t (l.take (i+1))=bU t (l.take i)++FU (t+i) 0 (az l[i])
 | b :: r,t,0,_=>by simp[bU,xH,FU]
 |
  b :: r,t,i+1,h=>by
  have:=vT r (t+1) i (by simpa using h)
  simp only[List.take_succ_cons,bU,this,List.append_assoc,List.getElem_cons_succ]
  rw[show t+1+i=t+(i+1) by omega]
def amh:Nat→List (Nat×Nat):=fun i=>if i=21 then [(1,3),(1,5),(3,5),(1,7),(3,7),(5,7),(1,8),(3,8)] else if i=25 then [(1,3),(1,5),(1,7)] else if i=26 then [(1,4),(1,6),(1,8)] else []
attribute [local go_sem] List.set_cons_zero List.set_cons_succ thNames_len
theorem Vq (bs:List (List Sm))(hp:PgOk bs)(hz:lT bs=0):FnEq Tryz.prog 69 [rw_ (uY bs)] (rw_ (mO bs.length (bU 0 bs))):=by
 have h4:=hp.n4;have h60:=(qP hz).1;refine wf Tryz.func69 amh (h:=fun R hR=>?_);refine wb ?_ <;> intros
 refine wE hp.check ?_;rw[hz];refine wb ?_ <;> intros
 refine wn 10 ?_;refine wb ?_;refine au (by omega) rfl rfl ?_;refine wb ?_;refine w2 ?_;refine wb ?_;refine au (by omega) rfl rfl ?_;refine wb ?_;refine w2 ?_;refine wb ?_;refine au (by omega) rfl rfl ?_;refine wb ?_;refine w2 ?_;refine wb ?_;refine au (by omega) rfl rfl ?_;refine wb ?_;refine w3 ?_;refine wb ?_;refine au (by omega) rfl rfl ?_;refine wb ?_;refine au (by omega) rfl rfl ?_;refine wb ?_;refine au (by omega) rfl rfl ?_;refine wb ?_;refine au (by omega) rfl rfl ?_;refine wb ?_;refine wQ (Yv JC ⟨#[109]⟩ 0 (by decide) rfl) [2728] ⟨rfl,rfl⟩ ?_;rintro r g ⟨rfl,rfl⟩;refine wb ?_;refine au (by omega) rfl rfl ?_;refine wb ?_;refine dh 16 4 9 1 rfl rfl ?_;refine dh 16 5 154 3 rfl rfl ?_;refine wl (fun i:Nat=> [(1,.ptr 0 0),(2,.ptr 1 0),(3,.ptr 2 0),(9,.pv (ag i))]) (fun i=> [some (.box ((uY bs).map .pv)),some (.box [.emp,.emp,.emp,.emp,.emp,.emp]),some (.box [.own 3 5,.own 4 3,.own 5 1,.own 6 1,.own 7 i,.own 8 (bU 0 (bs.take i)).length]),some (.row 144 5 (Jt.map CeR.r)),some (lkO JC),some (.row 150 2 (Ju.map QG)),some (Eg QH),some (Eg (thNames i)),some (siO (bU 0 (bs.take i)))]) (fun i=>i≤bs.length) (fun i=>bs.length - i) 0 (Nat.zero_le _) (vm [0,8,16,1808,2728,3056,3336,3432,3433] (hO:=by refine ws ?_;and_intros <;> rfl)) (fun i hi=>?_)
 refine wb (A2.mk ?_ ?_) <;> intros
 · have h2:i < bs.length:=by omega
   refine aB (x:=(bs[i],i)) (by omega) (by simp <;> omega) rfl ?_
   refine wb ?_ <;> intros
   refine aB (x:=(bs[i],i)) (by omega) (by simp <;> omega) rfl ?_
   refine wb ?_ <;> intros
   have hle:=qh bs (i+1);have hta:=qi bs i h2;have hsl:=uw (bs.take i) 0;refine wQ (uG (az bs[i]+1) bs[i] (by omega) (bU 0 (bs.take i)) i 0 (by omega) (by omega)) [8] ⟨rfl,rfl⟩ ?_;rintro r g ⟨rfl,rfl⟩;refine wb ?_ <;> intros
   have e1:=vT bs 0 i h2;rw[Nat.zero_add] at e1;have e2:thNames (i+1)=thNames i++ [aO i]:=by simp[thNames,List.range_succ]
   exact ai ⟨i+1,by omega,by omega,vm [0,1,2,3,4,5,6,121,217] (hO:=by refine ws ?_;rw[e1,e2];simp[FC])⟩
 · obtain rfl:i=bs.length:=by omega
   rw[List.take_length];exact wr hR [(3,none),(4,none),(5,none),(6,none),(7,none),(8,none)]
