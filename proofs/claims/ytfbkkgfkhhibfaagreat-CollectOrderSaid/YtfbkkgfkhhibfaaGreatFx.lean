/- Words. -/
import Derived.Test.YtfbkkgfkhhibfaaGreatFt
import Derived.Test.YtfbkkgfkhhibfaaGreatFjc
set_option linter.unusedVariables false
set_option linter.unusedSimpArgs false
namespace AM
open Go Go.Proofs Mk
set_option maxRecDepth 20000
set_option maxHeartbeats 4000000
theorem wd {P:Program}{us:Nat→List (Nat×Nat)}{nt n0 nx:Nat}{R:Env→Sto→Prop}{hm:P.follows .mixedOrders=true}{env:Env}{σ:Sto}{post:AV→List (Option Obj)→Prop}(hR:∀env σ,jL P n0 [] post env σ→R env σ)(g:List (Option Obj))(ls:List Nat)(fl:List (Nat×Option (List CT)))(hp:post (.tup []) g)(hb:Ze n0 ls g (fl.map (·.1))=true:=by kernel_rfl)(hl:g.length≤n0+8:=by exact Nat.le_of_ble_eq_true rfl)(hf:vF σ fl:=by ((try clear hR);exact we))(hO:vO (nT σ fl) g.length (fl.map (·.1)) (jB ls) σ g 0:=by ((try clear hR);exact we)):sr ⟨P,us,nt,n0,R,hm⟩ [] env σ nx:=abN (hR _ _ (EF (.tup []) g ls fl hb hl hp hf (Ij ⟨rfl,by simp only[Ah,wk,AV.ren,AV.renL,wkL]⟩) hO))
theorem wdr {P:Program}{us:Nat→List (Nat×Nat)}{nt n0 nx:Nat}{R:Env→Sto→Prop}{hm:P.follows .mixedOrders=true}{k:List It}{c:Code}{env:Env}{σ:Sto}{post:AV→List (Option Obj)→Prop}(hR:∀env σ,jL P n0 [] post env σ→R env σ)(g:List (Option Obj))(ls:List Nat)(fl:List (Nat×Option (List CT)))(hp:post (.tup []) g)(hb:Ze n0 ls g (fl.map (·.1))=true:=by kernel_rfl)(hl:g.length≤n0+8:=by exact Nat.le_of_ble_eq_true rfl)(hf:vF σ fl:=by ((try clear hR);exact we))(hO:vO (nT σ fl) g.length (fl.map (·.1)) (jB ls) σ g 0:=by ((try clear hR);exact we))(hc:BL c=true:=by rfl):sr ⟨P,us,nt,n0,R,hm⟩ (.code c :: k) env σ nx:=EM hc (hR _ _ (EF (.tup []) g ls fl hb hl hp hf (Ij ⟨rfl,by simp only[Ah,wk,AV.ren,AV.renL,wkL]⟩) hO))
theorem sG (l:List (ByteArray×Bool))(s:ByteArray)(r:Int)(hl:l.length≤1000)(h:fU (l.map (·.1)) s=r):FnEq Tryz.prog 107 [.pv (.sl (l.map JD)),.pv (bJ s)] (.pv (ag r)):=by
 subst h;refine wf Tryz.func107 (fun _=> []) (h:=fun R hR=>?_);refine wb ?_ <;> intros
 refine wl (fun i:Nat=> [(0,.pv (.sl (l.map JD))),(1,.pv (bJ s)),(5,.pv (ag i))]) (fun _=> []) (fun i=>i≤l.length∧fU (l.map (·.1)) s=dU s i ((l.map (·.1)).drop i)) (fun i=>l.length - i) 0 ⟨Nat.zero_le _,rfl⟩ (vm []) (fun i ⟨hi,ha⟩=>?_);refine wb (A2.mk ?_ ?_) <;> intros
 · have h2:i < l.length:=by omega
   refine aB (x:=l[i]) (Int.natCast_nonneg _) (by simp[h2]) rfl ?_;refine wb (A2.mk ?_ ?_) <;> intros
   · rw[at_hit (i:=i) (by simpa using h2) (by simpa using ‹l[i].1=s›) ha] at hR;exact wr hR
   · exact ai ⟨i+1,⟨h2,lu (i:=i) (by simpa using h2) (by simpa using ‹_›) ha⟩,by omega,vm []⟩
 · rw[oN (i:=i) (by simp;omega) ha] at hR;exact wr hR
theorem jH (n:Nat)(ss:List (Nat×Nat))(s:ByteArray)(r:Int)(h:fU (Jt.map (·.name)) s=r):FnEq Tryz.prog 172 [rw_ (mO n ss),.pv (bJ s)] (.pv (ag r)):=by
 subst h;refine wf Tryz.func172 (fun _=> []) (h:=fun R hR=>?_);refine wb ?_ <;> intros
 refine wl (fun i:Nat=> [(1,.pv (bJ s)),(2,.ptr 0 0),(5,.pv (ag i))]) (fun _=> [some (.box ((mO n ss).map .pv))]) (fun i=>i≤5∧fU (Jt.map (·.name)) s=dU s i ((Jt.map (·.name)).drop i)) (fun i=>5 - i) 0 ⟨Nat.zero_le _,rfl⟩ (vm [0]) (fun i ⟨hi,ha⟩=>?_);refine wb (A2.mk ?_ ?_) <;> intros
 · have h2:i < Jt.length:=by rw[NW];omega
   refine aB (x:=Jt[i]) (Int.natCast_nonneg _) (by simp[h2]) rfl ?_;refine wb (A2.mk ?_ ?_) <;> intros
   · rw[at_hit (i:=i) (by simpa using h2) (by simpa using ‹Jt[i].name=s›) ha] at hR;exact wr hR
   · exact ai ⟨i+1,⟨by omega,lu (i:=i) (by simpa using h2) (by simpa using ‹_›) ha⟩,by omega,vm [0]⟩
 · rw[oN (i:=i) (by simp[NW];omega) ha] at hR;exact wr hR
@[go_sem] def age (n:Nat)(ss:List (Nat×Nat))(r:Nat)(out:List In)(site next:Int):Obj:= .box [.pv (.sl (Jt.map CeR.r)),.pv (.sl (JC.map JD)),.pv (.sl (Ju.map QG)),.pv (.sl (fV QH)),.pv (.sl (fV (thNames n))),.pv (.sl (ss.map QI)),.pv (.sl (fV aZ)),.own r out.length,.pv (ag site),.pv (ag next)]
abbrev inO (out:List In):Obj:= .row 182 6 (out.map In.r)
@[go_sem] def QF (n:Nat)(ss:List (Nat×Nat))(out:List In)(site next:Int):List Obj:= [age n ss 1 out site next,inO out]
@[go_sem] def zL (n:Nat)(ss:List (Nat×Nat))(out:List In)(site next:Int):List (Option Obj):= [some (age n ss 2 out site next),none,some (inO out)]
theorem bV (n:Nat)(ss:List (Nat×Nat))(out:List In)(site next:Int)(i:In)(ho:out.length≤2000):ACall Tryz.prog 71 [.ptr 0 0,rw_ i.r] (QF n ss out site next) (fun v g=>v= .tup []∧g=zL n ss (out++ [{ i with site:=site }]) site next):=by
 refine wz Tryz.func71 (fun _=> [(4,5)]) (h:=fun R hR=>?_);refine wb ?_ <;> intros
 exact wd hR _ [0,1,114] [] ⟨rfl,rfl⟩
theorem abJ (n:Nat)(ss:List (Nat×Nat))(out:List In)(site next:Int)(s:ByteArray)(r:Int)(h:fU (Ju.map (·.1)) s=r):ACall Tryz.prog 146 [.ptr 0 0,.pv (bJ s)] (QF n ss out site next) (fun v g=>v= .pv (ag r)∧g=(QF n ss out site next).map some):=by
 subst h;refine wz Tryz.func146 (fun _=> []) (h:=fun R hR=>?_);refine wb ?_ <;> intros
 refine wl (fun i:Nat=> [(0,.ptr 0 0),(1,.pv (bJ s)),(5,.pv (ag i))]) (fun _=>(QF n ss out site next).map some) (fun i=>i≤1∧fU (Ju.map (·.1)) s=dU s i ((Ju.map (·.1)).drop i)) (fun i=>1 - i) 0 ⟨Nat.zero_le _,rfl⟩ (vm [0,1]) (fun i ⟨hi,ha⟩=>?_);refine wb (A2.mk ?_ ?_) <;> intros
 · have h2:i < Ju.length:=by rw[NY];omega
   refine aB (x:=Ju[i]) (Int.natCast_nonneg _) (by simp[h2]) rfl ?_;refine wb (A2.mk ?_ ?_) <;> intros
   · exact wo hR (.pv (ag i)) _ [0,1] [] ⟨by rw[at_hit (i:=i) (by simpa using h2) (by simpa using ‹Ju[i].1=s›) ha],rfl⟩
   · exact ai ⟨i+1,⟨by omega,lu (i:=i) (by simpa using h2) (by simpa using ‹_›) ha⟩,by omega,vm [0,1]⟩
 · exact wo hR (.pv (ag (-1))) _ [0,1] [] ⟨by rw[oN (i:=i) (by simp[NY];omega) ha],rfl⟩
set_option maxRecDepth 20000
set_option maxHeartbeats 4000000
def Nr:Nat→List (Nat×Nat):=fun i=>if i=7 then [(3,5)] else if i=10 then [(5,7)] else if i=13 then [(3,5)] else []
def Zm (K:Int)(e:List PV)(f:Int→Int→List In):Prop:=∀(n:Nat) (ss:List (Nat×Nat)) (out:List In) (site next d:Int),0≤d→d≤K→(out.length:Int)≤100 * K→ACall Tryz.prog 147 [.ptr 0 0,rw_ e,.pv (ag d)] (QF n ss out site next) (fun v g=>v= .tup []∧g=zL n ss (out++f site d) site next)
attribute [local go_sem] sV
theorem xm (l:Lf):Zm 10 (sV l) (fun st d=> [iZ st l d]):=by
 intro n ss out site next d h0 h1 ho
 cases l with
 |
  num k=>
  simp only[sV,VD,Lf.op,Lf.n,Lf.name];refine wz Tryz.func147 Nr (h:=fun R hR=>?_);refine wb ?_ <;> intros
  refine wq (bV n ss out site next ⟨1,d,0,0,k.val,0⟩ (by omega)) [0,1] ?_;rintro r g ⟨rfl,rfl⟩;refine wb ?_ <;> intros
  exact wd hR _ [0,1,82] [] ⟨rfl,rfl⟩
 |
  var k=>
  simp only[sV,VD,Lf.op,Lf.n,Lf.name]
  cases k
  all_goals
   refine wz Tryz.func147 Nr (h:=fun R hR=>?_);simp only[Nm.str];refine wb ?_ <;> intros
  · refine wE (nU aZ ⟨#[97]⟩ 0 (by decide) rfl) ?_;refine wb ?_ <;> intros
    refine wq (bV n ss out site next ⟨2,d,0,0,0,0⟩ (by omega)) [0,1] ?_;rintro r g ⟨rfl,rfl⟩;refine wb ?_ <;> intros
    exact wd hR _ [0,1,186] [] ⟨rfl,rfl⟩
  · refine wE (nU aZ ⟨#[98]⟩ 1 (by decide) rfl) ?_;refine wb ?_ <;> intros
    refine wq (bV n ss out site next ⟨2,d,1,0,0,0⟩ (by omega)) [0,1] ?_;rintro r g ⟨rfl,rfl⟩;refine wb ?_ <;> intros
    exact wd hR _ [0,1,186] [] ⟨rfl,rfl⟩
  · refine wE (nU aZ ⟨#[120]⟩ (-1) (by decide) rfl) ?_;refine wb ?_ <;> intros
    refine wE (jH n ss ⟨#[120]⟩ 0 rfl) ?_;refine wb ?_ <;> intros
    refine wQ (bV n ss out site next ⟨6,d,0,0,0,0⟩ (by omega)) [0,1] ⟨rfl,rfl⟩ ?_;rintro r g ⟨rfl,rfl⟩;refine wb ?_ <;> intros
    exact wd hR _ [0,1,234] [] ⟨rfl,rfl⟩
  · refine wE (nU aZ ⟨#[121]⟩ (-1) (by decide) rfl) ?_;refine wb ?_ <;> intros
    refine wE (jH n ss ⟨#[121]⟩ 1 rfl) ?_;refine wb ?_ <;> intros
    refine wQ (bV n ss out site next ⟨6,d,1,0,0,0⟩ (by omega)) [0,1] ⟨rfl,rfl⟩ ?_;rintro r g ⟨rfl,rfl⟩;refine wb ?_ <;> intros
    exact wd hR _ [0,1,234] [] ⟨rfl,rfl⟩
  · refine wE (nU aZ ⟨#[118]⟩ (-1) (by decide) rfl) ?_;refine wb ?_ <;> intros
    refine wE (jH n ss ⟨#[118]⟩ 2 rfl) ?_;refine wb ?_ <;> intros
    refine wQ (bV n ss out site next ⟨6,d,2,0,0,0⟩ (by omega)) [0,1] ⟨rfl,rfl⟩ ?_;rintro r g ⟨rfl,rfl⟩;refine wb ?_ <;> intros
    exact wd hR _ [0,1,234] [] ⟨rfl,rfl⟩
attribute [local go_sem] aC
theorem sW (x:Ex):Zm 9 (qX x).r (fun st d=>aC st x d):=by
 cases x with
 |
  leaf l=>
  have h:Zm 9 (sV l) (fun st d=> [iZ st l d]):=fun n ss out site next d h0 h1 ho=>xm l n ss out site next d h0 (by omega) (by omega)
  cases l <;> exact h
 |
  idx l=>
  intro n ss out site next d h0 h1 ho;simp only[qX,Ex.op,Ex.n,Ex.name,Ex.kids];refine wz Tryz.func147 Nr (h:=fun R hR=>?_);refine wb ?_ <;> intros
  refine au (by omega) rfl rfl ?_;refine wb ?_ <;> intros
  refine wq (xm l n ss out site next d h0 (by omega) (by omega)) [0,1] ?_;rintro r g ⟨rfl,rfl⟩;refine wb ?_ <;> intros
  refine wE (jH n ss ⟨#[113]⟩ 3 rfl) ?_;refine wb ?_ <;> intros
  refine au (by omega) rfl rfl ?_;refine wb ?_ <;> intros
  refine wq (bV n ss (out++ [iZ site l d]) site next ⟨7,d,3,d,2,0⟩ (by simp;omega)) [0,154] ?_;rintro r g ⟨rfl,rfl⟩;refine wb ?_ <;> intros
  exact wd hR (zL n ss (out++aC site (.idx l) d) site next) [0,1,338] [] ⟨rfl,rfl⟩
 |
  bin k l r=>
  have hk:binOp k≠1∧binOp k≠2∧binOp k≠3∧ -100≤binOp k∧binOp k≤100:=by revert k;decide
  intro n ss out site next d h0 h1 ho;simp only[qX,Ex.op,Ex.n,Ex.name,Ex.kids,aC];generalize binOp k=op at hk;refine wz Tryz.func147 Nr (h:=fun R hR=>?_);refine wb ?_ <;> intros
  refine au (by omega) rfl rfl ?_;refine wb ?_ <;> intros
  refine wq (xm l n ss out site next d h0 (by omega) (by omega)) [0,1] ?_;rintro r g ⟨rfl,rfl⟩;refine wb ?_ <;> intros
  refine au (by omega) rfl rfl ?_;refine wb ?_ <;> intros
  refine wq (xm r n ss (out++ [iZ site l d]) site next (d+1) (by omega) (by omega) (by simp;omega)) [0,194] ?_;rintro r' g ⟨rfl,rfl⟩;refine wb ?_ <;> intros
  refine wq (bV n ss (out++ [iZ site l d]++ [iZ site r (d+1)]) site next ⟨4,d,d,d+1,op,0⟩ (by simp;omega)) [0,258] ?_;rintro r' g ⟨rfl,rfl⟩;refine wb ?_ <;> intros
  exact wd hR (zL n ss (out++ [iZ site l d,iZ site r (d+1),⟨4,d,d,d+1,op,site⟩]) site next) [0,1,330] [] ⟨rfl,rfl⟩
end AM
namespace AM
open Go Go.Proofs Mk
set_option maxRecDepth 20000
set_option maxHeartbeats 4000000
def Zj:Nat→List (Nat×Nat):=fun i=>if i=5 then [(3,5)] else if i=8 then [(3,5)] else if i=11 then [(4,6)] else []
def agn (s:Sm)(f:Int→List In):Prop:=∀(n:Nat) (ss:List (Nat×Nat)) (out:List In) (site next:Int),out.length≤800→ACall Tryz.prog 143 [.ptr 0 0,rw_ (nR s.op s.name s.arg (s.index.map sV) (Jv s.ex) (s.body.map lS) (s.els.map lS))] (QF n ss out site next) (fun v g=>v= .tup []∧g=zL n ss (out++f site) site next)
attribute [local go_sem] sV
theorem Md (k:Nm)(e:Ex):agn (.asg k e) (fun st=>aC st e 2++ [xE st k]):=by
 intro n ss out site next ho;have hv:(aC site e 2).length≤3:=iM site e 2;simp only[Sm.op,Sm.name,Sm.arg,Sm.index,Sm.ex,Sm.body,Sm.els,Jv,List.map_nil]
 cases k
 all_goals
  simp only[Nm.str,xE];refine wz Tryz.func143 Zj (h:=fun R hR=>?_);refine wb ?_ <;> intros
  refine wq (sW e n ss out site next 2 (by decide) (by decide) (by omega)) [0,1] ?_;rintro r g ⟨rfl,rfl⟩;refine wb ?_ <;> intros
 · refine wE (nU aZ ⟨#[97]⟩ 0 (by decide) rfl) ?_;refine wb ?_ <;> intros
   refine wq (bV n ss (out++aC site e 2) site next ⟨2,0,2,0,0,0⟩ (by simp;omega)) [0,122] ?_;rintro r g ⟨rfl,rfl⟩;refine wb ?_ <;> intros
   exact wd hR (zL n ss (out++(aC site e 2++ [⟨2,0,2,0,0,site⟩])) site next) [0,1,242] [] ⟨rfl,rfl⟩
 · refine wE (nU aZ ⟨#[98]⟩ 1 (by decide) rfl) ?_;refine wb ?_ <;> intros
   refine wq (bV n ss (out++aC site e 2) site next ⟨2,1,2,0,0,0⟩ (by simp;omega)) [0,122] ?_;rintro r g ⟨rfl,rfl⟩;refine wb ?_ <;> intros
   exact wd hR (zL n ss (out++(aC site e 2++ [⟨2,1,2,0,0,site⟩])) site next) [0,1,242] [] ⟨rfl,rfl⟩
 · refine wE (nU aZ ⟨#[120]⟩ (-1) (by decide) rfl) ?_;refine wb ?_ <;> intros
   refine wE (jH n ss ⟨#[120]⟩ 0 rfl) ?_;refine wb ?_ <;> intros
   refine wQ (bV n ss (out++aC site e 2) site next ⟨8,0,2,0,0,0⟩ (by simp;omega)) [0,122] ⟨rfl,rfl⟩ ?_;rintro r g ⟨rfl,rfl⟩;refine wb ?_ <;> intros
   exact wd hR (zL n ss (out++(aC site e 2++ [⟨8,0,2,0,0,site⟩])) site next) [0,1,290] [] ⟨rfl,rfl⟩
 · refine wE (nU aZ ⟨#[121]⟩ (-1) (by decide) rfl) ?_;refine wb ?_ <;> intros
   refine wE (jH n ss ⟨#[121]⟩ 1 rfl) ?_;refine wb ?_ <;> intros
   refine wQ (bV n ss (out++aC site e 2) site next ⟨8,1,2,0,0,0⟩ (by simp;omega)) [0,122] ⟨rfl,rfl⟩ ?_;rintro r g ⟨rfl,rfl⟩;refine wb ?_ <;> intros
   exact wd hR (zL n ss (out++(aC site e 2++ [⟨8,1,2,0,0,site⟩])) site next) [0,1,290] [] ⟨rfl,rfl⟩
 · refine wE (nU aZ ⟨#[118]⟩ (-1) (by decide) rfl) ?_;refine wb ?_ <;> intros
   refine wE (jH n ss ⟨#[118]⟩ 2 rfl) ?_;refine wb ?_ <;> intros
   refine wQ (bV n ss (out++aC site e 2) site next ⟨8,2,2,0,0,0⟩ (by simp;omega)) [0,122] ⟨rfl,rfl⟩ ?_;rintro r g ⟨rfl,rfl⟩;refine wb ?_ <;> intros
   exact wd hR (zL n ss (out++(aC site e 2++ [⟨8,2,2,0,0,site⟩])) site next) [0,1,290] [] ⟨rfl,rfl⟩
theorem Me (i:Lf)(e:Ex):agn (.asq i e) (fun st=>iZ st i 2 ::(aC st e 3++ [⟨9,3,3,2,2,st⟩])):=by
 intro n ss out site next ho;have hv:(aC site e 3).length≤3:=iM site e 3;simp only[Sm.op,Sm.name,Sm.arg,Sm.index,Sm.ex,Sm.body,Sm.els,Jv,List.map_nil,List.map_cons];refine wz Tryz.func143 Zj (h:=fun R hR=>?_);refine wb ?_ <;> intros
 refine au (by omega) rfl rfl ?_;refine wb ?_ <;> intros
 refine wq (xm i n ss out site next 2 (by decide) (by decide) (by omega)) [0,1] ?_;rintro r g ⟨rfl,rfl⟩;refine wb ?_ <;> intros
 refine wq (sW e n ss (out++ [iZ site i 2]) site next 3 (by decide) (by decide) (by simp;omega)) [0,138] ?_;rintro r g ⟨rfl,rfl⟩;refine wb ?_ <;> intros
 refine wE (jH n ss ⟨#[113]⟩ 3 rfl) ?_;refine wb ?_ <;> intros
 refine au (by omega) rfl rfl ?_;refine wb ?_ <;> intros
 refine wq (bV n ss (out++ [iZ site i 2]++aC site e 3) site next ⟨9,3,3,2,2,0⟩ (by simp;omega)) [0,186] ?_;rintro r g ⟨rfl,rfl⟩;refine wb ?_ <;> intros
 exact wdr hR (zL n ss (out++(iZ site i 2 ::(aC site e 3++ [⟨9,3,3,2,2,site⟩]))) site next) [0,1,378] [] ⟨rfl,rfl⟩
end AM
namespace AM
open Go Go.Proofs Mk
set_option maxRecDepth 20000
set_option maxHeartbeats 4000000
def Xd (n:Nat)(l:List Sm):Prop:=∀(ss:List (Nat×Nat)) (out:List In) (site:Int) (next:Nat),out.length+8 * az l≤700→next+az l≤1000→ACall Tryz.prog 70 [.ptr 0 0,.pv (NM l)] (QF n ss out site next) (fun v g=>v= .tup []∧∃lF:Int,g=zL n ss (out++genL n out.length next l) lF ((next+az l:Nat):Int))
def GtC (n:Nat)(s:Sm):Prop:=∀(ss:List (Nat×Nat)) (out:List In) (site:Int) (next:Nat),out.length+8 * dM s≤700→next+dM s≤1000→ACall Tryz.prog 109 [.ptr 0 0,rw_ (nR s.op s.name s.arg (s.index.map sV) (Jv s.ex) (s.body.map lS) (s.els.map lS))] (QF n ss out site next) (fun v g=>v= .tup []∧∃lF:Int,g=zL n ss (out++genS n out.length next s) lF ((next+dM s:Nat):Int))
theorem PE (n:Nat)(l:List Sm)(hs:∀s∈l,GtC n s):Xd n l:=by
 intro ss out site next ho hn;have hc:=rO l;refine wz Tryz.func70 (fun _=> []) (h:=fun R hR=>?_);refine wb ?_ <;> intros
 refine wl (fun u:Nat×List In×Int×Nat=> [(0,.ptr 0 0),(1,.pv (NM l)),(4,.pv (ag u.1))]) (fun u=>zL n ss u.2.1 u.2.2.1 u.2.2.2) (fun u=>u.1≤l.length∧u.2.1++genL n u.2.1.length u.2.2.2 (l.drop u.1)=out++genL n out.length next l∧u.2.2.2+az (l.drop u.1)=next+az l∧u.2.1.length+8 * az (l.drop u.1)≤700) (fun u=>l.length - u.1) (0,out,site,next) ⟨Nat.zero_le _,rfl,rfl,ho⟩ (vm [0,1,1]) (fun ⟨i,o,st,nx⟩ ⟨hi,hd,hnx,hol⟩=>?_);dsimp only at hi hd hnx hol;refine wb (A2.mk ?_ ?_) <;> intros
 · have h2:i < l.length:=by omega
   rw[List.drop_eq_getElem_cons h2] at hd hnx hol;generalize hx:l[i]=x at hd hnx hol;simp only[genL,az] at hd hnx hol;have hlen:=genS_len n o.length nx x;refine aB (x:=x) (by omega) (by simp[h2,hx]) (lC _) ?_;rw[dJ];refine wb ?_ <;> intros
   refine wq (hs x (by rw[←hx];exact List.getElem_mem _) ss o st nx (by omega) (by omega)) [0,2] ?_;rintro r g ⟨rfl,lF,rfl⟩;refine wb ?_ <;> intros
   refine ai ⟨(i+1,o++genS n o.length nx x,lF,nx+dM x),⟨h2,by rw[List.append_assoc,List.length_append];exact hd,by dsimp only;omega,by simp;omega⟩,by dsimp only;omega,vm [0,1,75]⟩
 · rw[List.drop_eq_nil_of_le (by omega)] at hd hnx;simp only[genL,az,List.append_nil,Nat.add_zero] at hd hnx;exact wd hR (zL n ss o st nx) [0,1,2] [] ⟨rfl,st,by rw[←hd,←hnx]⟩
theorem PG (n:Nat)(s:Sm)(hb:Xd n s.body)(first last obj:Int)(ss:List (Nat×Nat))(out:List In)(site:Int)(next:Nat)(ho:out.length+8 * az s.body+2≤700)(hn:next+az s.body≤1000):
 ACall Tryz.prog 145 [.ptr 0 0,rw_ (nR s.op s.name s.arg (s.index.map sV) (Jv s.ex) (s.body.map lS) (s.els.map lS)),.pv (ag first),.pv (ag last),.pv (ag obj)] (QF n ss out site next) (fun v g=>v= .tup []∧g=zL n ss (out++⟨first,obj,0,0,0,site⟩ ::(genL n (out.length+1) next s.body++ [⟨last,obj,0,0,0,site⟩])) site ((next+az s.body:Nat):Int)):=by
 have hlen:=genL_len n (out.length+1) next s.body;refine wz Tryz.func145 (fun _=> []) (h:=fun R hR=>?_);refine wb ?_ <;> intros
 refine wq (bV n ss out site next ⟨first,obj,0,0,0,0⟩ (by omega)) [0,1] ?_;rintro r g ⟨rfl,rfl⟩;refine wb ?_ <;> intros
 refine wq (hb ss (out++ [⟨first,obj,0,0,0,site⟩]) site next (by simp;omega) (by omega)) [0,82] ?_;rintro r g ⟨rfl,lF,rfl⟩;rw[List.length_append,List.length_singleton];refine wb ?_ <;> intros
 refine wq (bV n ss (out++ [⟨first,obj,0,0,0,site⟩]++genL n (out.length+1) next s.body) site ((next+az s.body:Nat):Int) ⟨last,obj,0,0,0,0⟩ (by simp;omega)) [0,114] ?_;rintro r g ⟨rfl,rfl⟩;refine wb ?_ <;> intros
 exact wd hR _ [0,1,194] [] ⟨rfl,rfl⟩
def TY:Nat→List (Nat×Nat):=fun i=>if i=3 then [(2,6)] else if i=10 then [(3,8)] else if i=12 then [(3,8)] else if i=15 then [(3,8)] else if i=17 then [(3,8)] else []
theorem yI {β:Type}{z:β}{c:List β}{F:β→β} :∀(a:List β),(a++z :: c).modify a.length F=a++F z :: c
 | []=>rfl
 | x :: a=>by simp only[List.cons_append,List.length_cons,List.modify_succ_cons,yI a]
theorem aaW {α β:Type}{g:α→β}{a b:List α}{z:β}{c:List β}{F:β→β} :(a.map g++(b.map g++z :: c)).modify (a.length+b.length) F=a.map g++(b.map g++F z :: c):=by
 have:=yI (z:=z) (c:=c) (F:=F) (a.map g++b.map g);simpa [List.append_assoc] using this
theorem aaX {α β:Type}{g:α→β}{a b d:List α}{y z:β}{c:List β}{F:β→β} :(a.map g++(b.map g++y ::(d.map g++z :: c))).modify (a.length+(b.length+(d.length+1))) F=a.map g++(b.map g++y ::(d.map g++F z :: c)):=by
 have:=yI (z:=z) (c:=c) (F:=F) (a.map g++(b.map g++y :: d.map g));simpa [List.append_assoc,Nat.add_assoc,Nat.add_comm,Nat.add_left_comm] using this
attribute [local go_sem] List.append_assoc aaW aaX
theorem TZ (n:Nat)(e:Ex)(b:List Sm)(hb:Xd n b)(ss:List (Nat×Nat))(out:List In)(site:Int)(next:Nat)(ho:out.length+8 *(az b)+8≤700)(hn:next+(az b)≤1000):
 ACall Tryz.prog 144 [.ptr 0 0,rw_ (nR 2 bE bE [] (qX e) (b.map lS) [])] (QF n ss out site next) (fun v g=>v= .tup []∧g=zL n ss (out++(aC site e 2++⟨10,2,((out.length+(aC site e 2).length+1+(genL n (out.length+(aC site e 2).length+1) next b).length:Nat):Int),0,0,site⟩ :: genL n (out.length+(aC site e 2).length+1) next b)) site ((next+(az b):Nat):Int)):=by
 have hlen:=genL_len n (out.length+(aC site e 2).length+1) next b;have hv:=iM site e 2;refine wz Tryz.func144 TY (h:=fun R hR=>?_);refine wb ?_ <;> intros
 refine wQ (sW e n ss out site next 2 (by decide) (by decide) (by omega)) [0,1] ⟨rfl,rfl⟩ ?_;rintro r g ⟨rfl,rfl⟩;refine wb ?_ <;> intros
 refine wq (bV n ss (out++aC site e 2) site next ⟨10,2,0,0,0,0⟩ (by simp;omega)) [0,162] ?_;rintro r g ⟨rfl,rfl⟩;refine wb ?_ <;> intros
 refine wq (hb ss (out++aC site e 2++ [⟨10,2,0,0,0,site⟩]) site next (by simp;omega) (by omega)) [0,274] ?_;rintro r g ⟨rfl,lF,rfl⟩;rw[show (out++aC site e 2++ [(⟨10,2,0,0,0,site⟩:In)]).length=out.length+(aC site e 2).length+1 by simp[Nat.add_assoc]];refine wb ?_ <;> intros
 exact wdr hR (zL n ss (out++(aC site e 2++⟨10,2,((out.length+(aC site e 2).length+1+(genL n (out.length+(aC site e 2).length+1) next b).length:Nat):Int),0,0,site⟩ :: genL n (out.length+(aC site e 2).length+1) next b)) site ((next+az b:Nat):Int)) [0,1,306] [] ⟨rfl,rfl⟩
theorem Xe (n:Nat)(e:Ex)(b:List Sm)(hb:Xd n b)(ss:List (Nat×Nat))(out:List In)(site:Int)(next:Nat)(ho:out.length+8 *(az b)+8≤700)(hn:next+(az b)≤1000):
 ACall Tryz.prog 144 [.ptr 0 0,rw_ (nR 3 bE bE [] (qX e) (b.map lS) [])] (QF n ss out site next) (fun v g=>v= .tup []∧g=zL n ss (out++(aC site e 2++⟨10,2,((out.length+(aC site e 2).length+1+(genL n (out.length+(aC site e 2).length+1) next b).length+1:Nat):Int),0,0,site⟩ ::(genL n (out.length+(aC site e 2).length+1) next b++ [⟨5,(out.length:Int),0,0,0,site⟩]))) site ((next+(az b):Nat):Int)):=by
 have hlen:=genL_len n (out.length+(aC site e 2).length+1) next b;have hv:=iM site e 2;refine wz Tryz.func144 TY (h:=fun R hR=>?_);refine wb ?_ <;> intros
 refine wQ (sW e n ss out site next 2 (by decide) (by decide) (by omega)) [0,1] ⟨rfl,rfl⟩ ?_;rintro r g ⟨rfl,rfl⟩;refine wb ?_ <;> intros
 refine wq (bV n ss (out++aC site e 2) site next ⟨10,2,0,0,0,0⟩ (by simp;omega)) [0,162] ?_;rintro r g ⟨rfl,rfl⟩;refine wb ?_ <;> intros
 refine wq (hb ss (out++aC site e 2++ [⟨10,2,0,0,0,site⟩]) site next (by simp;omega) (by omega)) [0,274] ?_;rintro r g ⟨rfl,lF,rfl⟩;rw[show (out++aC site e 2++ [(⟨10,2,0,0,0,site⟩:In)]).length=out.length+(aC site e 2).length+1 by simp[Nat.add_assoc]];refine wb ?_ <;> intros
 refine wq (bV n ss (out++aC site e 2++ [⟨10,2,0,0,0,site⟩]++genL n (out.length+(aC site e 2).length+1) next b) site ((next+az b:Nat):Int) ⟨5,out.length,0,0,0,0⟩ (by simp;omega)) [0,306] ?_;rintro r g ⟨rfl,rfl⟩;refine wb ?_ <;> intros
 exact wdr hR (zL n ss (out++(aC site e 2++⟨10,2,((out.length+(aC site e 2).length+1+(genL n (out.length+(aC site e 2).length+1) next b).length+1:Nat):Int),0,0,site⟩ ::(genL n (out.length+(aC site e 2).length+1) next b++ [⟨5,(out.length:Int),0,0,0,site⟩]))) site ((next+az b:Nat):Int)) [0,1,402] [] ⟨rfl,rfl⟩
theorem Ua (n:Nat)(e:Ex)(b c:List Sm)(hb:Xd n b)(hc:Xd n c)(ss:List (Nat×Nat))(out:List In)(site:Int)(next:Nat)(ho:out.length+8 *(az b+az c)+8≤700)(hn:next+(az b+az c)≤1000)(h0:0 < c.length):
 ACall Tryz.prog 144 [.ptr 0 0,rw_ (nR 2 bE bE [] (qX e) (b.map lS) (c.map lS))] (QF n ss out site next) (fun v g=>v= .tup []∧∃lF,g=zL n ss (out++(aC site e 2++⟨10,2,((out.length+(aC site e 2).length+1+(genL n (out.length+(aC site e 2).length+1) next b).length+1:Nat):Int),0,0,site⟩ ::(genL n (out.length+(aC site e 2).length+1) next b++⟨5,((out.length+(aC site e 2).length+1+(genL n (out.length+(aC site e 2).length+1) next b).length+1+(genL n (out.length+(aC site e 2).length+1+(genL n (out.length+(aC site e 2).length+1) next b).length+1) (next+az b) c).length:Nat):Int),0,0,0,site⟩ :: genL n (out.length+(aC site e 2).length+1+(genL n (out.length+(aC site e 2).length+1) next b).length+1) (next+az b) c))) lF ((next+(az b+az c):Nat):Int)):=by
 have hlen:=genL_len n (out.length+(aC site e 2).length+1) next b;have hv:=iM site e 2;refine wz Tryz.func144 TY (h:=fun R hR=>?_);refine wb ?_ <;> intros
 refine wQ (sW e n ss out site next 2 (by decide) (by decide) (by omega)) [0,1] ⟨rfl,rfl⟩ ?_;rintro r g ⟨rfl,rfl⟩;refine wb ?_ <;> intros
 refine wq (bV n ss (out++aC site e 2) site next ⟨10,2,0,0,0,0⟩ (by simp;omega)) [0,162] ?_;rintro r g ⟨rfl,rfl⟩;refine wb ?_ <;> intros
 refine wq (hb ss (out++aC site e 2++ [⟨10,2,0,0,0,site⟩]) site next (by simp;omega) (by omega)) [0,274] ?_;rintro r g ⟨rfl,lF,rfl⟩;rw[show (out++aC site e 2++ [(⟨10,2,0,0,0,site⟩:In)]).length=out.length+(aC site e 2).length+1 by simp[Nat.add_assoc]];refine wb ?_ <;> intros
 refine wq (bV n ss (out++aC site e 2++ [⟨10,2,0,0,0,site⟩]++genL n (out.length+(aC site e 2).length+1) next b) site ((next+az b:Nat):Int) ⟨5,0,0,0,0,0⟩ (by simp;omega)) [0,306] ?_;rintro r g ⟨rfl,rfl⟩;refine wb ?_ <;> intros
 have hl2:(out++(aC site e 2++(⟨10,2,((out.length+((aC site e 2).length+((genL n (out.length+(aC site e 2).length+1) next b).length+1+1)):Nat):Int),0,0,site⟩:In) ::(genL n (out.length+(aC site e 2).length+1) next b++ [⟨5,0,0,0,0,site⟩]))).length=out.length+(aC site e 2).length+1+(genL n (out.length+(aC site e 2).length+1) next b).length+1:=by simp[Nat.add_assoc,Nat.add_comm,Nat.add_left_comm]
 refine wq (hc ss (out++(aC site e 2++(⟨10,2,((out.length+((aC site e 2).length+((genL n (out.length+(aC site e 2).length+1) next b).length+1+1)):Nat):Int),0,0,site⟩:In) ::(genL n (out.length+(aC site e 2).length+1) next b++ [⟨5,0,0,0,0,site⟩]))) site (next+az b) (by rw[hl2];omega) (by omega)) [0,474] ?_;rintro r g ⟨rfl,aeZ,rfl⟩;rw[hl2];have hlen2:=genL_len n (out.length+(aC site e 2).length+1+(genL n (out.length+(aC site e 2).length+1) next b).length+1) (next+az b) c;refine wb ?_ <;> intros
 have hK:out.length+(aC site e 2).length+1+(genL n (out.length+(aC site e 2).length+1) next b).length+1=out.length+((aC site e 2).length+((genL n (out.length+(aC site e 2).length+1) next b).length+1+1)):=by omega
 rw[show ((next+(az b+az c):Nat):Int)=((next+az b+az c:Nat):Int) by omega,hK] at hR;exact wd hR _ [0,1,610] [] ⟨rfl,aeZ,rfl⟩
