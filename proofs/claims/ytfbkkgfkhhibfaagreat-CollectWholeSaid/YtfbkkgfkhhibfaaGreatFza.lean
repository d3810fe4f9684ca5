/- Words. -/
import Derived.Test.YtfbkkgfkhhibfaaGreatFx
set_option linter.unusedVariables false
set_option linter.unusedSimpArgs false
namespace AM
open Go Go.Proofs Mk
set_option maxRecDepth 20000
set_option maxHeartbeats 8000000
def mF:Nat→List (Nat×Nat):=fun i=>if i=11 then [(1,6),(1,8),(6,8),(1,9)] else if i=13 then [(1,6),(1,8),(6,8),(1,9)] else if i=15 then [(1,6),(1,8),(6,8),(1,9)] else if i=27 then [(5,7)] else if i=29 then [(5,7)] else if i=32 then [(5,7)] else if i=34 then [(4,6),(4,12),(6,12),(7,12),(4,14),(6,14),(7,14),(12,14)] else []
theorem Vm (n:Nat)(hn4:n≤4)(s:Sm)(hb:Xv n s.body)(hc:Xv n s.els):GtC n s:=by
 intro ss out site next ho hn;have hcs:=jH s;have A:=PX n s hb;rcases s with ⟨k,e⟩ | ⟨i,e⟩ | ⟨e,b,_ | ⟨c,cr⟩⟩ | ⟨e,b⟩ | ⟨k,b⟩ | b | b | k | k | _ | e | _
 all_goals
  simp only[Sm.op,Sm.name,Sm.arg,Sm.index,Sm.ex,Sm.body,Sm.els,JG,List.map_nil,List.map_cons,genS,az,dN] at ho hn hb hc hcs A⊢
 · refine wz Tryz.func109 mF (h:=fun R hR=>?_);refine wb ?_ <;> intros
   refine wq (MR k e n ss out next ((next+1:Nat):Int) (by omega)) [0,1] ?_;rintro r g ⟨rfl,rfl⟩;refine wb ?_ <;> intros
   exact wd hR _ [0,1,234] [] ⟨rfl,(next:Int),rfl⟩
 · refine wz Tryz.func109 mF (h:=fun R hR=>?_);refine wb ?_ <;> intros
   refine wq (MV i e n ss out next ((next+1:Nat):Int) (by omega)) [0,1] ?_;rintro r g ⟨rfl,rfl⟩;refine wb ?_ <;> intros
   exact wd hR _ [0,1,234] [] ⟨rfl,(next:Int),rfl⟩
 · refine wz Tryz.func109 mF (h:=fun R hR=>?_);refine wb ?_ <;> intros
   refine wq (Us n e b hb ss out next (next+1) (by omega) (by omega)) [0,1] ?_;rintro r g ⟨rfl,rfl⟩;refine wb ?_ <;> intros
   exact wd hR _ [0,1,250] [] ⟨rfl,(next:Int),rfl⟩
 · refine wz Tryz.func109 mF (h:=fun R hR=>?_);refine wb ?_ <;> intros
   refine wq (Ut n e b (c :: cr) hb hc ss out next (next+1) (by simp only[az];omega) (by simp only[az];omega) (by simp)) [0,1] ?_;rintro r g ⟨rfl,lG,rfl⟩;rw[show next+(1+az b+(dN c+az cr))=next+1+(az b+az (c :: cr)) by simp only[az];omega] at hR;refine wb ?_ <;> intros
   exact wd hR _ [0,1,250] [] ⟨rfl,lG,rfl⟩
 · refine wz Tryz.func109 mF (h:=fun R hR=>?_);refine wb ?_ <;> intros
   refine wq (Xw n e b hb ss out next (next+1) (by omega) (by omega)) [0,1] ?_;rintro r g ⟨rfl,rfl⟩;rw[show next+(1+az b)=next+1+az b by omega] at hR;refine wb ?_ <;> intros
   exact wd hR _ [0,1,266] [] ⟨rfl,(next:Int),rfl⟩
 · cases k
   all_goals
    simp only[Bk.fst,Bk.obj];refine wz Tryz.func109 mF (h:=fun R hR=>?_);refine wb ?_ <;> intros
   · refine wE (sW JM ⟨#[109]⟩ 0 (by decide) rfl) ?_;refine wb ?_ <;> intros
     refine wQ (A 11 12 0 ss out next (next+1) (by omega) (by omega)) [0,1] ⟨rfl,rfl⟩ ?_;rintro r g ⟨rfl,rfl⟩;rw[show next+(1+az b)=next+1+az b by omega] at hR;refine wb ?_ <;> intros
     exact wd hR _ [0,1,346] [] ⟨rfl,(next:Int),rfl⟩
   · refine wE (sW JM ⟨#[110]⟩ 1 (by decide) rfl) ?_;refine wb ?_ <;> intros
     refine wQ (A 11 12 1 ss out next (next+1) (by omega) (by omega)) [0,1] ⟨rfl,rfl⟩ ?_;rintro r g ⟨rfl,rfl⟩;rw[show next+(1+az b)=next+1+az b by omega] at hR;refine wb ?_ <;> intros
     exact wd hR _ [0,1,346] [] ⟨rfl,(next:Int),rfl⟩
   · refine wE (sW JM ⟨#[114]⟩ 2 (by decide) rfl) ?_;refine wb ?_ <;> intros
     refine wQ (A 13 14 2 ss out next (next+1) (by omega) (by omega)) [0,1] ⟨rfl,rfl⟩ ?_;rintro r g ⟨rfl,rfl⟩;rw[show next+(1+az b)=next+1+az b by omega] at hR;refine wb ?_ <;> intros
     exact wd hR _ [0,1,362] [] ⟨rfl,(next:Int),rfl⟩
   · refine wE (sW JM ⟨#[114]⟩ 2 (by decide) rfl) ?_;refine wb ?_ <;> intros
     refine wQ (A 15 16 2 ss out next (next+1) (by omega) (by omega)) [0,1] ⟨rfl,rfl⟩ ?_;rintro r g ⟨rfl,rfl⟩;rw[show next+(1+az b)=next+1+az b by omega] at hR;refine wb ?_ <;> intros
     exact wd hR _ [0,1,378] [] ⟨rfl,(next:Int),rfl⟩
 · refine wz Tryz.func109 mF (h:=fun R hR=>?_);refine wb ?_ <;> intros
   refine wq (A 17 18 0 ss out next (next+1) (by omega) (by omega)) [0,1] ?_;rintro r g ⟨rfl,rfl⟩;rw[show next+(1+az b)=next+1+az b by omega] at hR;refine wb ?_ <;> intros
   exact wd hR _ [0,1,330] [] ⟨rfl,(next:Int),rfl⟩
 · refine wz Tryz.func109 mF (h:=fun R hR=>?_);refine wb ?_ <;> intros
   refine wq (A 19 20 0 ss out next (next+1) (by omega) (by omega)) [0,1] ?_;rintro r g ⟨rfl,rfl⟩;rw[show next+(1+az b)=next+1+az b by omega] at hR;refine wb ?_ <;> intros
   exact wd hR _ [0,1,346] [] ⟨rfl,(next:Int),rfl⟩
 · cases k
   all_goals
    simp only[Sg.op];refine wz Tryz.func109 mF (h:=fun R hR=>?_);refine wb ?_ <;> intros
    refine wq (abX n ss out next ((next+1:Nat):Int) ⟨#[99]⟩ 0 rfl) [0,1] ?_;rintro r g ⟨rfl,rfl⟩;refine wb ?_ <;> intros
   · refine wq (bZ n ss out next ((next+1:Nat):Int) ⟨21,0,0,0,0,0⟩ (by omega)) [0,1] ?_;rintro r g ⟨rfl,rfl⟩;refine wb ?_ <;> intros
     exact wd hR _ [0,1,394] [] ⟨rfl,(next:Int),rfl⟩
   · refine wq (bZ n ss out next ((next+1:Nat):Int) ⟨22,0,0,0,0,0⟩ (by omega)) [0,1] ?_;rintro r g ⟨rfl,rfl⟩;refine wb ?_ <;> intros
     exact wd hR _ [0,1,410] [] ⟨rfl,(next:Int),rfl⟩
   · refine wq (bZ n ss out next ((next+1:Nat):Int) ⟨23,0,0,0,0,0⟩ (by omega)) [0,1] ?_;rintro r g ⟨rfl,rfl⟩;refine wb ?_ <;> intros
     exact wd hR _ [0,1,426] [] ⟨rfl,(next:Int),rfl⟩
 · refine wz Tryz.func109 mF (h:=fun R hR=>?_);refine wb ?_ <;> intros
   refine wE (nY (thNames n) (aO k) _ (by simp[thNames];omega) rfl) ?_;refine wb ?_ <;> intros
   refine wQ (bZ n ss out next ((next+1:Nat):Int) ⟨24,fV (thNames n) (aO k),0,0,0,0⟩ (by omega)) [0,1] ⟨rfl,rfl⟩ ?_;rintro r g ⟨rfl,rfl⟩;refine wb ?_ <;> intros
   exact wd hR _ [0,1,474] [] ⟨rfl,(next:Int),rfl⟩
 · refine wz Tryz.func109 mF (h:=fun R hR=>?_);refine wb ?_ <;> intros
   refine wE (nY (thNames n) (aO 1) _ (by simp[thNames];omega) rfl) ?_;refine wb ?_ <;> intros
   refine wQ (bZ n ss out next ((next+1:Nat):Int) ⟨25,fV (thNames n) (aO 1),0,0,0,0⟩ (by omega)) [0,1] ⟨rfl,rfl⟩ ?_;rintro r g ⟨rfl,rfl⟩;refine wb ?_ <;> intros
   exact wd hR _ [0,1,490] [] ⟨rfl,(next:Int),rfl⟩
 · refine wz Tryz.func109 mF (h:=fun R hR=>?_);refine wb ?_ <;> intros
   refine wq (tV e n ss out next ((next+1:Nat):Int) 2 (by decide) (by decide) (by omega)) [0,1] ?_;rintro r g ⟨rfl,rfl⟩;refine wb ?_ <;> intros
   refine wE (nY QX ⟨#[102]⟩ 0 (by decide) rfl) ?_;refine wb ?_ <;> intros
   have hv:=iQ next e 2;refine wQ (bZ n ss (out++aC next e 2) next ((next+1:Nat):Int) ⟨26,0,2,0,0,0⟩ (by simp;omega)) [0,458] ⟨rfl,rfl⟩ ?_;rintro r g ⟨rfl,rfl⟩;refine wb ?_ <;> intros
   exact wd hR _ [0,1,554] [] ⟨rfl,(next:Int),rfl⟩
 · refine wz Tryz.func109 mF (h:=fun R hR=>?_);refine wb ?_ <;> intros
   refine wE (nY aZ ⟨#[97]⟩ 0 (by decide) rfl) ?_;refine wb ?_ <;> intros
   refine wE (nY QX ⟨#[102]⟩ 0 (by decide) rfl) ?_;refine wb ?_ <;> intros
   refine wQ (bZ n ss out next ((next+1:Nat):Int) ⟨27,0,0,0,0,0⟩ (by omega)) [0,1] ⟨rfl,rfl⟩ ?_;rintro r g ⟨rfl,rfl⟩;refine wb ?_ <;> intros
   exact wd hR _ [0,1,578] [] ⟨rfl,(next:Int),rfl⟩
set_option maxRecDepth 20000
set_option maxHeartbeats 8000000
theorem OM:∀(l:List Sm) (s:Sm),s∈l→dN s≤az l
 |
  x :: r,s,h=>by
  simp only[az]
  rcases List.mem_cons.1 h with rfl | h
  · omega
  · have:=OM r s h;omega
theorem FI (n:Nat)(hn4:n≤4):∀(m:Nat) (l:List Sm),az l < m→Xv n l
 | 0,l,h=>by omega
 |
  m+1,l,h=>PW n l (fun s hs=>by
  have h1:=OM l s hs
  have h2:=jH s
  exact Vm n hn4 s (FI n hn4 m s.body (by omega)) (FI n hn4 m s.els (by omega)))
def F8 (t n c:Nat):List (Nat×Nat):=(List.range c).map fun k=>(t,n+k)
theorem FP (t n a b:Nat):F8 t n (a+b)=F8 t n a++F8 t (n+a) b:=by
 unfold F8;rw[List.range_add,List.map_append,List.map_map];congr 1;apply List.map_congr_left;intro k _;simp[Nat.add_assoc]
@[go_sem] theorem FQ {t n c:Nat} :(F8 t n c).length=c:=by simp[F8]
theorem YF (t n:Nat):F8 t n 1= [(t,n)]:=rfl
abbrev siO (l:List (Nat×Nat)):Obj:= .row 154 3 (l.map QY)
def amw (l:List Sm):Prop:=∀(so:List (Nat×Nat)) (t n:Nat),so.length+az l≤1000→n+az l≤1000→ACall Tryz.prog 108 [.own 0 so.length,.pv (ag t),.pv (ag n),.pv (Ob l)] [siO so] (fun v g=>v= .tup [.own 1 (so.length+az l),.pv (ag ((n+az l:Nat):Int))]∧g= [none,some (siO (so++F8 t n (az l)))])
theorem uQ:∀(m:Nat) (l:List Sm),az l < m→amw l
 | 0,l,h=>by omega
 |
  m+1,l,h=>by
  intro so t n hso hn
  have hc:=su l
  refine wz Tryz.func108 (fun _=> []) (h:=fun R hR=>?_)
  refine wb ?_ <;> intros
  refine wl (fun u:Nat×List (Nat×Nat)×Nat=> [(0,.own 1 u.2.1.length),(1,.pv (ag t)),(2,.pv (ag u.2.2)),(3,.pv (Ob l)),(10,.pv (ag u.1))]) (fun u=> [none,some (siO u.2.1)]) (fun u=>u.1≤l.length∧u.2.1++F8 t u.2.2 (az (l.drop u.1))=so++F8 t n (az l)∧u.2.2+az (l.drop u.1)=n+az l∧u.2.1.length+az (l.drop u.1)≤1000) (fun u=>l.length - u.1) (0,so,n) ⟨Nat.zero_le _,rfl,rfl,hso⟩ (vm [0,0]) (fun ⟨i,o,k⟩ ⟨hi,hd,hk,hol⟩=>?_)
  dsimp only at hi hd hk hol
  refine wb (A2.mk ?_ ?_) <;> intros
  · have h2:i < l.length:=by omega
    have hdl:=uJ l i
    rw[List.drop_eq_getElem_cons h2] at hd hk hol hdl
    generalize hx:l[i]=x at hd hk hol hdl
    simp only[az,jH] at hd hk hol hdl
    refine aB (x:=x) (by omega) (by simp[h2,hx]) (lD _) ?_
    rw[dJ]
    refine wb ?_ <;> intros
    refine aB (x:=x) (by omega) (by simp[h2,hx]) (lD _) ?_
    rw[dJ]
    refine wb ?_ <;> intros
    refine wq (uQ m x.body (by omega) (o++ [(t,k)]) t (k+1) (by simp;omega) (by omega)) [114] ?_
    rintro r g ⟨rfl,rfl⟩
    refine wb ?_ <;> intros
    refine aB (x:=x) (by omega) (by simp[h2,hx]) (lD _) ?_
    rw[dJ]
    refine wb ?_ <;> intros
    refine wq (uQ m x.els (by omega) (o++ [(t,k)]++F8 t (k+1) (az x.body)) t (k+1+az x.body) (by simp[F8];omega) (by omega)) [218] ?_
    rintro r g ⟨rfl,rfl⟩
    refine wb ?_ <;> intros
    refine ai ⟨(i+1,o++ [(t,k)]++F8 t (k+1) (az x.body)++F8 t (k+1+az x.body) (az x.els),k+1+az x.body+az x.els),⟨h2,?_,by dsimp only;omega,by simp[FQ];omega⟩,by dsimp only;omega,vm [0,330]⟩
    rw[←hd,FP,FP,FP,YF]
    simp[List.append_assoc,Nat.add_assoc]
  · rw[List.drop_eq_nil_of_le (by omega)] at hd hk
    simp only[az,Nat.add_zero] at hd hk
    have hd':o=so++F8 t n (az l):=by rw[←hd];simp[F8]
    have amx:o.length=so.length+az l:=by rw[hd'];simp[FQ]
    rw[←hd',←hk,←amx] at hR
    exact wo hR _ _ [0,1] [] ⟨rfl,rfl⟩
set_option maxRecDepth 20000
set_option maxHeartbeats 8000000
abbrev lkO (l:List (ByteArray×Bool)):Obj:= .row 147 2 (l.map JO)
theorem YM (l:List (ByteArray×Bool))(s:ByteArray)(r:Int)(hl:l.length≤1000)(h:fV (l.map (·.1)) s=r):ACall Tryz.prog 107 [.own 0 l.length,.pv (bM s)] [lkO l] (fun v g=>v= .pv (ag r)∧g= [some (lkO l)]):=by
 subst h;refine wz Tryz.func107 (fun _=> []) (h:=fun R hR=>?_);refine wb ?_ <;> intros
 refine wl (fun i:Nat=> [(0,.own 0 l.length),(1,.pv (bM s)),(5,.pv (ag i))]) (fun _=> [some (lkO l)]) (fun i=>i≤l.length∧fV (l.map (·.1)) s=dV s i ((l.map (·.1)).drop i)) (fun i=>l.length - i) 0 ⟨Nat.zero_le _,rfl⟩ (vm [0]) (fun i ⟨hi,ha⟩=>?_);refine wb (A2.mk ?_ ?_) <;> intros
 · have h2:i < l.length:=by omega
   refine DY (x:=JO l[i]) (by simp[h2]) rfl ?_;refine wb (A2.mk ?_ ?_) <;> intros
   · exact wo hR (.pv (ag i)) _ [0] [] ⟨by rw[at_hit (i:=i) (by simpa using h2) (by simpa using ‹l[i].1=s›) ha],rfl⟩
   · exact ai ⟨i+1,⟨h2,lC (i:=i) (by simpa using h2) (by simpa using ‹_›) ha⟩,by omega,vm [0]⟩
 · exact wo hR (.pv (ag (-1))) _ [0] [] ⟨by rw[oQ (i:=i) (by simp;omega) ha],rfl⟩
theorem wB:∀(l:List (List Sm)) (t i:Nat) (h:i < l.length),bW t (l.take (i+1))=bW t (l.take i)++F8 (t+i) 0 (az l[i])
 | b :: r,t,0,_=>by simp[bW,xQ,F8]
 |
  b :: r,t,i+1,h=>by
  have:=wB r (t+1) i (by simpa using h)
  simp only[List.take_succ_cons,bW,this,List.append_assoc,List.getElem_cons_succ]
  rw[show t+1+i=t+(i+1) by omega]
def amE:Nat→List (Nat×Nat):=fun i=>if i=21 then [(1,3),(1,5),(3,5),(1,7),(3,7),(5,7),(1,8),(3,8)] else if i=25 then [(1,3),(1,5),(1,7)] else if i=26 then [(1,4),(1,6),(1,8)] else []
attribute [local go_sem] List.set_cons_zero List.set_cons_succ thNames_len
theorem VL (bs:List (List Sm))(hp:PgOk bs)(hz:lU bs=0):FnEq Tryz.prog 69 [rw_ (vI bs)] (rw_ (mQ bs.length (bW 0 bs))):=by
 have h4:=hp.n4;have h60:=(qZ hz).1;refine wf Tryz.func69 amE (h:=fun R hR=>?_);refine wb ?_ <;> intros
 refine wE hp.check ?_;rw[hz];refine wb ?_ <;> intros
 refine wn 10 ?_;refine wb ?_;refine au (by omega) rfl rfl ?_;refine wb ?_;refine w2 ?_;refine wb ?_;refine au (by omega) rfl rfl ?_;refine wb ?_;refine w2 ?_;refine wb ?_;refine au (by omega) rfl rfl ?_;refine wb ?_;refine w2 ?_;refine wb ?_;refine au (by omega) rfl rfl ?_;refine wb ?_;refine w3 ?_;refine wb ?_;refine au (by omega) rfl rfl ?_;refine wb ?_;refine au (by omega) rfl rfl ?_;refine wb ?_;refine au (by omega) rfl rfl ?_;refine wb ?_;refine au (by omega) rfl rfl ?_;refine wb ?_;refine wQ (YM JM ⟨#[109]⟩ 0 (by decide) rfl) [2728] ⟨rfl,rfl⟩ ?_;rintro r g ⟨rfl,rfl⟩;refine wb ?_;refine au (by omega) rfl rfl ?_;refine wb ?_;refine bK 16 4 9 1 rfl rfl ?_;refine bK 16 5 154 3 rfl rfl ?_;refine wl (fun i:Nat=> [(1,.ptr 0 0),(2,.ptr 1 0),(3,.ptr 2 0),(9,.pv (ag i))]) (fun i=> [some (.box ((vI bs).map .pv)),some (.box [.emp,.emp,.emp,.emp,.emp,.emp]),some (.box [.own 3 5,.own 4 3,.own 5 1,.own 6 1,.own 7 i,.own 8 (bW 0 (bs.take i)).length]),some (.row 144 5 (JE.map CeR.r)),some (lkO JM),some (.row 150 2 (JF.map QW)),some (Et QX),some (Et (thNames i)),some (siO (bW 0 (bs.take i)))]) (fun i=>i≤bs.length) (fun i=>bs.length - i) 0 (Nat.zero_le _) (vm [0,8,16,1808,2728,3056,3336,3432,3433] (hO:=by refine ws ?_;and_intros <;> rfl)) (fun i hi=>?_)
 refine wb (A2.mk ?_ ?_) <;> intros
 · have h2:i < bs.length:=by omega
   refine aB (x:=(bs[i],i)) (by omega) (by simp <;> omega) rfl ?_
   refine wb ?_ <;> intros
   refine aB (x:=(bs[i],i)) (by omega) (by simp <;> omega) rfl ?_
   refine wb ?_ <;> intros
   have hle:=qx bs (i+1);have hta:=qy bs i h2;have hsl:=uH (bs.take i) 0;refine wQ (uQ (az bs[i]+1) bs[i] (by omega) (bW 0 (bs.take i)) i 0 (by omega) (by omega)) [8] ⟨rfl,rfl⟩ ?_;rintro r g ⟨rfl,rfl⟩;refine wb ?_ <;> intros
   have e1:=wB bs 0 i h2;rw[Nat.zero_add] at e1;have e2:thNames (i+1)=thNames i++ [aO i]:=by simp[thNames,List.range_succ]
   exact ai ⟨i+1,by omega,by omega,vm [0,1,2,3,4,5,6,121,217] (hO:=by refine ws ?_;rw[e1,e2];simp[FQ])⟩
 · obtain rfl:i=bs.length:=by omega
   rw[List.take_length];exact wr hR [(3,none),(4,none),(5,none),(6,none),(7,none),(8,none)]
