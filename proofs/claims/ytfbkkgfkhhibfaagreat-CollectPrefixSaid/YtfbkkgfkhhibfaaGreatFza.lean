/- Words. -/
import Derived.Test.YtfbkkgfkhhibfaaGreatFu
set_option linter.unusedVariables false
set_option linter.unusedSimpArgs false
namespace AM
open Go Go.Proofs Mk
set_option maxRecDepth 20000
set_option maxHeartbeats 4000000
def UK:Nat->List (Nat×Nat):=λi=>if i=7 then [(3,5)] else if i=10 then [(5,7)] else if i=13 then [(3,5)] else []
def aeR (K:Int)(e:List PV)(f:Int->Int->List In):Prop:=∀(n:Nat) (ss:List (Nat×Nat)) (out:List In) (site next d:Int),0<=d->d<=K->(out.length:Int)<=100*K->ACall Tryz.prog 147 [.ptr 0 0,rw_ e,.pv (ah d)] (XO n ss out site next) (λv g=>v= .tup []/\g=Gn n ss (out++f site d) site next)
attribute [local go_sem] zk
theorem Dw (l:Lf):aeR 10 (zk l) (λq d=> [kP q l d]):=by
 intro n ss out site next d h0 h1 ho
 cases l with
 |
  num k=>
  simp only[zk,lfE,Lf.op,Lf.n,Lf.name];refine wz Tryz.func147 UK (h:=λR a=>?_);refine wb ?_<;>intros;refine wq (eG n ss out site next ⟨1,d,0,0,k.val,0⟩ (by omega)) [0,1] ?_;rintro r g ⟨rfl,rfl⟩;refine wb ?_<;>intros;exact wd a _ [0,1,82] [] ⟨rfl,rfl⟩
 |
  var k=>
  simp only[zk,lfE,Lf.op,Lf.n,Lf.name]
  cases k
  all_goals
   refine wz Tryz.func147 UK (h:=λR a=>?_);simp only[Nm.str];refine wb ?_<;>intros
  . refine wE (tJ bQ ⟨#[97]⟩ 0 (by decide) rfl) ?_;refine wb ?_<;>intros;refine wq (eG n ss out site next ⟨2,d,0,0,0,0⟩ (by omega)) [0,1] ?_;rintro r g ⟨rfl,rfl⟩;refine wb ?_<;>intros;exact wd a _ [0,1,186] [] ⟨rfl,rfl⟩
  . refine wE (tJ bQ ⟨#[98]⟩ 1 (by decide) rfl) ?_;refine wb ?_<;>intros;refine wq (eG n ss out site next ⟨2,d,1,0,0,0⟩ (by omega)) [0,1] ?_;rintro r g ⟨rfl,rfl⟩;refine wb ?_<;>intros;exact wd a _ [0,1,186] [] ⟨rfl,rfl⟩
  . refine wE (tJ bQ ⟨#[120]⟩ (-1) (by decide) rfl) ?_;refine wb ?_<;>intros;refine wE (lX n ss ⟨#[120]⟩ 0 rfl) ?_;refine wb ?_<;>intros;refine wQ (eG n ss out site next ⟨6,d,0,0,0,0⟩ (by omega)) [0,1] ⟨rfl,rfl⟩ ?_;rintro r g ⟨rfl,rfl⟩;refine wb ?_<;>intros;exact wd a _ [0,1,234] [] ⟨rfl,rfl⟩
  . refine wE (tJ bQ ⟨#[121]⟩ (-1) (by decide) rfl) ?_;refine wb ?_<;>intros;refine wE (lX n ss ⟨#[121]⟩ 1 rfl) ?_;refine wb ?_<;>intros;refine wQ (eG n ss out site next ⟨6,d,1,0,0,0⟩ (by omega)) [0,1] ⟨rfl,rfl⟩ ?_;rintro r g ⟨rfl,rfl⟩;refine wb ?_<;>intros;exact wd a _ [0,1,234] [] ⟨rfl,rfl⟩
  . refine wE (tJ bQ ⟨#[118]⟩ (-1) (by decide) rfl) ?_;refine wb ?_<;>intros;refine wE (lX n ss ⟨#[118]⟩ 2 rfl) ?_;refine wb ?_<;>intros;refine wQ (eG n ss out site next ⟨6,d,2,0,0,0⟩ (by omega)) [0,1] ⟨rfl,rfl⟩ ?_;rintro r g ⟨rfl,rfl⟩;refine wb ?_<;>intros;exact wd a _ [0,1,234] [] ⟨rfl,rfl⟩
attribute [local go_sem] aO
theorem zl (x:Ex):aeR 9 (yg x).r (λa d=>aO a x d):=by
 cases x with
 |
  leaf l=>
  have h:aeR 9 (zk l) (λa d=> [kP a l d]):=λn ss out site next d h0 h1 ho=>Dw l n ss out site next d h0 (by omega) (by omega)
  cases l<;>exact h
 |
  idx l=>
  intro n ss out site next d h0 h1 ho;simp only[yg,Ex.op,Ex.n,Ex.name,Ex.kids];refine wz Tryz.func147 UK (h:=λR q=>?_);refine wb ?_<;>intros;refine aA (by omega) rfl rfl ?_;refine wb ?_<;>intros;refine wq (Dw l n ss out site next d h0 (by omega) (by omega)) [0,1] ?_;rintro r g ⟨rfl,rfl⟩;refine wb ?_<;>intros;refine wE (lX n ss ⟨#[113]⟩ 3 rfl) ?_;refine wb ?_<;>intros;refine aA (by omega) rfl rfl ?_;refine wb ?_<;>intros;refine wq (eG n ss (out++[kP site l d]) site next ⟨7,d,3,d,2,0⟩ (by simp;omega)) [0,154] ?_;rintro r g ⟨rfl,rfl⟩;refine wb ?_<;>intros;exact wd q (Gn n ss (out++aO site (.idx l) d) site next) [0,1,338] [] ⟨rfl,rfl⟩
 |
  bin k l r=>
  have hk:binOp k≠1/\binOp k≠2/\binOp k≠3/\ -100<=binOp k/\binOp k<=100:=(by revert k;decide);intro n ss out site next d h0 h1 ho;simp only[yg,Ex.op,Ex.n,Ex.name,Ex.kids,aO];generalize binOp k=op at hk;refine wz Tryz.func147 UK (h:=λR q=>?_);refine wb ?_<;>intros;refine aA (by omega) rfl rfl ?_;refine wb ?_<;>intros;refine wq (Dw l n ss out site next d h0 (by omega) (by omega)) [0,1] ?_;rintro r g ⟨rfl,rfl⟩;refine wb ?_<;>intros;refine aA (by omega) rfl rfl ?_;refine wb ?_<;>intros;refine wq (Dw r n ss (out++[kP site l d]) site next (d+1) (by omega) (by omega) (by simp;omega)) [0,194] ?_;rintro u g ⟨rfl,rfl⟩;refine wb ?_<;>intros;refine wq (eG n ss (out++[kP site l d]++[kP site r (d+1)]) site next ⟨4,d,d,d+1,op,0⟩ (by simp;omega)) [0,258] ?_;rintro u g ⟨rfl,rfl⟩;refine wb ?_<;>intros;exact wd q (Gn n ss (out++[kP site l d,kP site r (d+1),⟨4,d,d,d+1,op,site⟩]) site next) [0,1,330] [] ⟨rfl,rfl⟩
end AM
namespace AM
open Go Go.Proofs Mk
set_option maxRecDepth 20000
set_option maxHeartbeats 4000000
def aeQ:Nat->List (Nat×Nat):=λi=>if i=5 then [(3,5)] else if i=8 then [(3,5)] else if i=11 then [(4,6)] else []
def amf (s:Sm)(f:Int->List In):Prop:=∀(n:Nat) (ss:List (Nat×Nat)) (out:List In) (site next:Int),out.length<=800->ACall Tryz.prog 143 [.ptr 0 0,rw_ (tq s.op s.name s.arg (s.index.map zk) (Qx s.ex) (s.body.map qx) (s.els.map qx))] (XO n ss out site next) (λv g=>v= .tup []/\g=Gn n ss (out++f site) site next)
attribute [local go_sem] zk
theorem Ua (k:Nm)(e:Ex):amf (.asg k e) (λd=>aO d e 2++[DT d k]):=by
 intro n ss out site next ho;have q:(aO site e 2).length<=3:=kG site e 2;simp only[Sm.op,Sm.name,Sm.arg,Sm.index,Sm.ex,Sm.body,Sm.els,Qx,qp]
 cases k
 all_goals
  simp only[Nm.str,DT];refine wz Tryz.func143 aeQ (h:=λR a=>?_);refine wb ?_<;>intros;refine wq (zl e n ss out site next 2 (by decide) (by decide) (by omega)) [0,1] ?_;rintro r g ⟨rfl,rfl⟩;refine wb ?_<;>intros
 . refine wE (tJ bQ ⟨#[97]⟩ 0 (by decide) rfl) ?_;refine wb ?_<;>intros;refine wq (eG n ss (out++aO site e 2) site next ⟨2,0,2,0,0,0⟩ (by simp;omega)) [0,122] ?_;rintro r g ⟨rfl,rfl⟩;refine wb ?_<;>intros;exact wd a (Gn n ss (out++(aO site e 2++[⟨2,0,2,0,0,site⟩])) site next) [0,1,242] [] ⟨rfl,rfl⟩
 . refine wE (tJ bQ ⟨#[98]⟩ 1 (by decide) rfl) ?_;refine wb ?_<;>intros;refine wq (eG n ss (out++aO site e 2) site next ⟨2,1,2,0,0,0⟩ (by simp;omega)) [0,122] ?_;rintro r g ⟨rfl,rfl⟩;refine wb ?_<;>intros;exact wd a (Gn n ss (out++(aO site e 2++[⟨2,1,2,0,0,site⟩])) site next) [0,1,242] [] ⟨rfl,rfl⟩
 . refine wE (tJ bQ ⟨#[120]⟩ (-1) (by decide) rfl) ?_;refine wb ?_<;>intros;refine wE (lX n ss ⟨#[120]⟩ 0 rfl) ?_;refine wb ?_<;>intros;refine wQ (eG n ss (out++aO site e 2) site next ⟨8,0,2,0,0,0⟩ (by simp;omega)) [0,122] ⟨rfl,rfl⟩ ?_;rintro r g ⟨rfl,rfl⟩;refine wb ?_<;>intros;exact wd a (Gn n ss (out++(aO site e 2++[⟨8,0,2,0,0,site⟩])) site next) [0,1,290] [] ⟨rfl,rfl⟩
 . refine wE (tJ bQ ⟨#[121]⟩ (-1) (by decide) rfl) ?_;refine wb ?_<;>intros;refine wE (lX n ss ⟨#[121]⟩ 1 rfl) ?_;refine wb ?_<;>intros;refine wQ (eG n ss (out++aO site e 2) site next ⟨8,1,2,0,0,0⟩ (by simp;omega)) [0,122] ⟨rfl,rfl⟩ ?_;rintro r g ⟨rfl,rfl⟩;refine wb ?_<;>intros;exact wd a (Gn n ss (out++(aO site e 2++[⟨8,1,2,0,0,site⟩])) site next) [0,1,290] [] ⟨rfl,rfl⟩
 . refine wE (tJ bQ ⟨#[118]⟩ (-1) (by decide) rfl) ?_;refine wb ?_<;>intros;refine wE (lX n ss ⟨#[118]⟩ 2 rfl) ?_;refine wb ?_<;>intros;refine wQ (eG n ss (out++aO site e 2) site next ⟨8,2,2,0,0,0⟩ (by simp;omega)) [0,122] ⟨rfl,rfl⟩ ?_;rintro r g ⟨rfl,rfl⟩;refine wb ?_<;>intros;exact wd a (Gn n ss (out++(aO site e 2++[⟨8,2,2,0,0,site⟩])) site next) [0,1,290] [] ⟨rfl,rfl⟩
theorem Ub (i:Lf)(e:Ex):amf (.asq i e) (λa=>kP a i 2::(aO a e 3++[⟨9,3,3,2,2,a⟩])):=by intro n ss out site next ho;have q:(aO site e 3).length<=3:=kG site e 3;simp only[Sm.op,Sm.name,Sm.arg,Sm.index,Sm.ex,Sm.body,Sm.els,Qx,qp,kM];refine wz Tryz.func143 aeQ (h:=λR d=>?_);refine wb ?_<;>intros;refine aA (by omega) rfl rfl ?_;refine wb ?_<;>intros;refine wq (Dw i n ss out site next 2 (by decide) (by decide) (by omega)) [0,1] ?_;rintro r g ⟨rfl,rfl⟩;refine wb ?_<;>intros;refine wq (zl e n ss (out++[kP site i 2]) site next 3 (by decide) (by decide) (by simp;omega)) [0,138] ?_;rintro r g ⟨rfl,rfl⟩;refine wb ?_<;>intros;refine wE (lX n ss ⟨#[113]⟩ 3 rfl) ?_;refine wb ?_<;>intros;refine aA (by omega) rfl rfl ?_;refine wb ?_<;>intros;refine wq (eG n ss (out++[kP site i 2]++aO site e 3) site next ⟨9,3,3,2,2,0⟩ (by simp;omega)) [0,186] ?_;rintro r g ⟨rfl,rfl⟩;refine wb ?_<;>intros;exact wdr d (Gn n ss (out++(kP site i 2::(aO site e 3++[⟨9,3,3,2,2,site⟩]))) site next) [0,1,378] [] ⟨rfl,rfl⟩
end AM
namespace AM
open Go Go.Proofs Mk
set_option maxRecDepth 20000
set_option maxHeartbeats 4000000
def GsC (n:Nat)(l:List Sm):Prop:=∀(ss:List (Nat×Nat)) (out:List In) (site:Int) (next:Nat),out.length+8*aH l<=700->next+aH l<=1000->ACall Tryz.prog 70 [.ptr 0 0,.pv (U4 l)] (XO n ss out site next) (λv g=>v= .tup []/\∃pV:Int,g=Gn n ss (out++genL n out.length next l) pV ((next+aH l:Nat):Int))
def GtC (n:Nat)(s:Sm):Prop:=∀(ss:List (Nat×Nat)) (out:List In) (site:Int) (next:Nat),out.length+8*fZ s<=700->next+fZ s<=1000->ACall Tryz.prog 109 [.ptr 0 0,rw_ (tq s.op s.name s.arg (s.index.map zk) (Qx s.ex) (s.body.map qx) (s.els.map qx))] (XO n ss out site next) (λv g=>v= .tup []/\∃pV:Int,g=Gn n ss (out++genS n out.length next s) pV ((next+fZ s:Nat):Int))
theorem WJ (n:Nat)(l:List Sm)(hs:∀s∈l,GtC n s):GsC n l:=by intro ss out site next ho hn;have hc:=yI l;refine wz Tryz.func70 (λ_=> []) (h:=λR B=>?_);refine wb ?_<;>intros;refine wl (λu:Nat×List In×Int×Nat=> [(0,.ptr 0 0),(1,.pv (U4 l)),(4,.pv (ah u.1))]) (λu=>Gn n ss u.2.1 u.2.2.1 u.2.2.2) (λu=>u.1<=l.length/\u.2.1++genL n u.2.1.length u.2.2.2 (l.drop u.1)=out++genL n out.length next l/\u.2.2.2+aH (l.drop u.1)=next+aH l/\u.2.1.length+8*aH (l.drop u.1)<=700) (λu=>l.length-u.1) (0,out,site,next) ⟨ay _,rfl,rfl,ho⟩ (vm [0,1,1]) (λ⟨i,o,y,nx⟩ ⟨hi,q,a,d⟩=>?_);dsimp only at hi q a d;refine wb (A2.mk ?_ ?_)<;>intros;have h2:i<l.length:=(by omega);rw[nY h2] at q a d;generalize hx:l[i]=x at q a d;simp only[genL,aH] at q a d;have hlen:=genS_len n o.length nx x;refine aN (x:=x) (by omega) (by simp[h2,hx]) (pR _) ?_;rw[fU];refine wb ?_<;>intros;refine wq (hs x (by rw[<-hx];exact fA _) ss o y nx (by omega) (by omega)) [0,2] ?_;rintro r g ⟨rfl,D,rfl⟩;refine wb ?_<;>intros;refine ak ⟨(i+1,o++genS n o.length nx x,D,nx+fZ x),⟨h2,by rw[gm,bI];exact q,by dsimp only;omega,by simp;omega⟩,by dsimp only;omega,vm [0,1,75]⟩;rw[jT (by omega)] at q a;simp only[genL,aH,nZ,sK] at q a;exact wd B (Gn n ss o y nx) [0,1,2] [] ⟨rfl,y,by rw[<-q,<-a]⟩
theorem WL (n:Nat)(s:Sm)(hb:GsC n s.body)(first last obj:Int)(ss:List (Nat×Nat))(out:List In)(site:Int)(next:Nat)(ho:out.length+8*aH s.body+2<=700)(hn:next+aH s.body<=1000):
 ACall Tryz.prog 145 [.ptr 0 0,rw_ (tq s.op s.name s.arg (s.index.map zk) (Qx s.ex) (s.body.map qx) (s.els.map qx)),.pv (ah first),.pv (ah last),.pv (ah obj)] (XO n ss out site next) (λv g=>v= .tup []/\g=Gn n ss (out++⟨first,obj,0,0,0,site⟩::(genL n (out.length+1) next s.body++[⟨last,obj,0,0,0,site⟩])) site ((next+aH s.body:Nat):Int)):=by have hlen:=genL_len n (out.length+1) next s.body;refine wz Tryz.func145 (λ_=> []) (h:=λR a=>?_);refine wb ?_<;>intros;refine wq (eG n ss out site next ⟨first,obj,0,0,0,0⟩ (by omega)) [0,1] ?_;rintro r g ⟨rfl,rfl⟩;refine wb ?_<;>intros;refine wq (hb ss (out++[⟨first,obj,0,0,0,site⟩]) site next (by simp;omega) (by omega)) [0,82] ?_;rintro r g ⟨rfl,d,rfl⟩;rw[bI,qA];refine wb ?_<;>intros;refine wq (eG n ss (out++[⟨first,obj,0,0,0,site⟩]++genL n (out.length+1) next s.body) site ((next+aH s.body:Nat):Int) ⟨last,obj,0,0,0,0⟩ (by simp;omega)) [0,114] ?_;rintro r g ⟨rfl,rfl⟩;refine wb ?_<;>intros;exact wd a _ [0,1,194] [] ⟨rfl,rfl⟩
def Z9:Nat->List (Nat×Nat):=λi=>if i=3 then [(2,6)] else if i=10 then [(3,8)] else if i=12 then [(3,8)] else if i=15 then [(3,8)] else if i=17 then [(3,8)] else []
theorem EW {β:Type}{z:β}{c:List β}{F:β->β} :∀(a:List β),(a++z::c).modify a.length F=a++F z::c
 | []=>rfl
 |x::a=>by simp only[xE,iZ,aab,EW a]
theorem ags {α β:Type}{g:α->β}{a b:List α}{z:β}{c:List β}{F:β->β} :(a.map g++(b.map g++z::c)).modify (a.length+b.length) F=a.map g++(b.map g++F z::c):=by have:=EW (z:=z) (c:=c) (F:=F) (a.map g++b.map g);simpa [gm] using this
theorem agt {α β:Type}{g:α->β}{a b d:List α}{y z:β}{c:List β}{F:β->β} :(a.map g++(b.map g++y::(d.map g++z::c))).modify (a.length+(b.length+(d.length+1))) F=a.map g++(b.map g++y::(d.map g++F z::c)):=by have:=EW (z:=z) (c:=c) (F:=F) (a.map g++(b.map g++y::d.map g));simpa [gm,nV,Sj,Nat.add_left_comm] using this
attribute [local go_sem] List.append_assoc ags agt
theorem aac (n:Nat)(e:Ex)(b:List Sm)(hb:GsC n b)(ss:List (Nat×Nat))(out:List In)(site:Int)(next:Nat)(ho:out.length+8 *(aH b)+8<=700)(hn:next+(aH b)<=1000):
 ACall Tryz.prog 144 [.ptr 0 0,rw_ (tq 2 bE bE [] (yg e) (b.map qx) [])] (XO n ss out site next) (λv g=>v= .tup []/\g=Gn n ss (out++(aO site e 2++⟨10,2,((out.length+(aO site e 2).length+1+(genL n (out.length+(aO site e 2).length+1) next b).length:Nat):Int),0,0,site⟩::genL n (out.length+(aO site e 2).length+1) next b)) site ((next+(aH b):Nat):Int)):=by have hlen:=genL_len n (out.length+(aO site e 2).length+1) next b;have d:=kG site e 2;refine wz Tryz.func144 Z9 (h:=λR a=>?_);refine wb ?_<;>intros;refine wQ (zl e n ss out site next 2 (by decide) (by decide) (by omega)) [0,1] ⟨rfl,rfl⟩ ?_;rintro r g ⟨rfl,rfl⟩;refine wb ?_<;>intros;refine wq (eG n ss (out++aO site e 2) site next ⟨10,2,0,0,0,0⟩ (by simp;omega)) [0,162] ?_;rintro r g ⟨rfl,rfl⟩;refine wb ?_<;>intros;refine wq (hb ss (out++aO site e 2++[⟨10,2,0,0,0,site⟩]) site next (by simp;omega) (by omega)) [0,274] ?_;rintro r g ⟨rfl,q,rfl⟩;rw[show (out++aO site e 2++[(⟨10,2,0,0,0,site⟩:In)]).length=out.length+(aO site e 2).length+1 by simp[nV]];refine wb ?_<;>intros;exact wdr a (Gn n ss (out++(aO site e 2++⟨10,2,((out.length+(aO site e 2).length+1+(genL n (out.length+(aO site e 2).length+1) next b).length:Nat):Int),0,0,site⟩::genL n (out.length+(aO site e 2).length+1) next b)) site ((next+aH b:Nat):Int)) [0,1,306] [] ⟨rfl,rfl⟩
theorem acU (n:Nat)(e:Ex)(b:List Sm)(hb:GsC n b)(ss:List (Nat×Nat))(out:List In)(site:Int)(next:Nat)(ho:out.length+8 *(aH b)+8<=700)(hn:next+(aH b)<=1000):
 ACall Tryz.prog 144 [.ptr 0 0,rw_ (tq 3 bE bE [] (yg e) (b.map qx) [])] (XO n ss out site next) (λv g=>v= .tup []/\g=Gn n ss (out++(aO site e 2++⟨10,2,((out.length+(aO site e 2).length+1+(genL n (out.length+(aO site e 2).length+1) next b).length+1:Nat):Int),0,0,site⟩::(genL n (out.length+(aO site e 2).length+1) next b++[⟨5,(out.length:Int),0,0,0,site⟩]))) site ((next+(aH b):Nat):Int)):=by have hlen:=genL_len n (out.length+(aO site e 2).length+1) next b;have d:=kG site e 2;refine wz Tryz.func144 Z9 (h:=λR a=>?_);refine wb ?_<;>intros;refine wQ (zl e n ss out site next 2 (by decide) (by decide) (by omega)) [0,1] ⟨rfl,rfl⟩ ?_;rintro r g ⟨rfl,rfl⟩;refine wb ?_<;>intros;refine wq (eG n ss (out++aO site e 2) site next ⟨10,2,0,0,0,0⟩ (by simp;omega)) [0,162] ?_;rintro r g ⟨rfl,rfl⟩;refine wb ?_<;>intros;refine wq (hb ss (out++aO site e 2++[⟨10,2,0,0,0,site⟩]) site next (by simp;omega) (by omega)) [0,274] ?_;rintro r g ⟨rfl,q,rfl⟩;rw[show (out++aO site e 2++[(⟨10,2,0,0,0,site⟩:In)]).length=out.length+(aO site e 2).length+1 by simp[nV]];refine wb ?_<;>intros;refine wq (eG n ss (out++aO site e 2++[⟨10,2,0,0,0,site⟩]++genL n (out.length+(aO site e 2).length+1) next b) site ((next+aH b:Nat):Int) ⟨5,out.length,0,0,0,0⟩ (by simp;omega)) [0,306] ?_;rintro r g ⟨rfl,rfl⟩;refine wb ?_<;>intros;exact wdr a (Gn n ss (out++(aO site e 2++⟨10,2,((out.length+(aO site e 2).length+1+(genL n (out.length+(aO site e 2).length+1) next b).length+1:Nat):Int),0,0,site⟩::(genL n (out.length+(aO site e 2).length+1) next b++[⟨5,(out.length:Int),0,0,0,site⟩]))) site ((next+aH b:Nat):Int)) [0,1,402] [] ⟨rfl,rfl⟩
theorem aad (n:Nat)(e:Ex)(b c:List Sm)(hb:GsC n b)(hc:GsC n c)(ss:List (Nat×Nat))(out:List In)(site:Int)(next:Nat)(ho:out.length+8 *(aH b+aH c)+8<=700)(hn:next+(aH b+aH c)<=1000)(h0:0<c.length):
 ACall Tryz.prog 144 [.ptr 0 0,rw_ (tq 2 bE bE [] (yg e) (b.map qx) (c.map qx))] (XO n ss out site next) (λv g=>v= .tup []/\∃u,g=Gn n ss (out++(aO site e 2++⟨10,2,((out.length+(aO site e 2).length+1+(genL n (out.length+(aO site e 2).length+1) next b).length+1:Nat):Int),0,0,site⟩::(genL n (out.length+(aO site e 2).length+1) next b++⟨5,((out.length+(aO site e 2).length+1+(genL n (out.length+(aO site e 2).length+1) next b).length+1+(genL n (out.length+(aO site e 2).length+1+(genL n (out.length+(aO site e 2).length+1) next b).length+1) (next+aH b) c).length:Nat):Int),0,0,0,site⟩::genL n (out.length+(aO site e 2).length+1+(genL n (out.length+(aO site e 2).length+1) next b).length+1) (next+aH b) c))) u ((next+(aH b+aH c):Nat):Int)):=by have hlen:=genL_len n (out.length+(aO site e 2).length+1) next b;have D:=kG site e 2;refine wz Tryz.func144 Z9 (h:=λR y=>?_);refine wb ?_<;>intros;refine wQ (zl e n ss out site next 2 (by decide) (by decide) (by omega)) [0,1] ⟨rfl,rfl⟩ ?_;rintro r g ⟨rfl,rfl⟩;refine wb ?_<;>intros;refine wq (eG n ss (out++aO site e 2) site next ⟨10,2,0,0,0,0⟩ (by simp;omega)) [0,162] ?_;rintro r g ⟨rfl,rfl⟩;refine wb ?_<;>intros;refine wq (hb ss (out++aO site e 2++[⟨10,2,0,0,0,site⟩]) site next (by simp;omega) (by omega)) [0,274] ?_;rintro r g ⟨rfl,u,rfl⟩;rw[show (out++aO site e 2++[(⟨10,2,0,0,0,site⟩:In)]).length=out.length+(aO site e 2).length+1 by simp[nV]];refine wb ?_<;>intros;refine wq (eG n ss (out++aO site e 2++[⟨10,2,0,0,0,site⟩]++genL n (out.length+(aO site e 2).length+1) next b) site ((next+aH b:Nat):Int) ⟨5,0,0,0,0,0⟩ (by simp;omega)) [0,306] ?_;rintro r g ⟨rfl,rfl⟩;refine wb ?_<;>intros;have a:(out++(aO site e 2++(⟨10,2,((out.length+((aO site e 2).length+((genL n (out.length+(aO site e 2).length+1) next b).length+1+1)):Nat):Int),0,0,site⟩:In)::(genL n (out.length+(aO site e 2).length+1) next b++[⟨5,0,0,0,0,site⟩]))).length=out.length+(aO site e 2).length+1+(genL n (out.length+(aO site e 2).length+1) next b).length+1:=(by simp[nV,Sj,Nat.add_left_comm]);refine wq (hc ss (out++(aO site e 2++(⟨10,2,((out.length+((aO site e 2).length+((genL n (out.length+(aO site e 2).length+1) next b).length+1+1)):Nat):Int),0,0,site⟩:In)::(genL n (out.length+(aO site e 2).length+1) next b++[⟨5,0,0,0,0,site⟩]))) site (next+aH b) (by rw[a];omega) (by omega)) [0,474] ?_;rintro r g ⟨rfl,d,rfl⟩;rw[a];have q:=genL_len n (out.length+(aO site e 2).length+1+(genL n (out.length+(aO site e 2).length+1) next b).length+1) (next+aH b) c;refine wb ?_<;>intros;have B:out.length+(aO site e 2).length+1+(genL n (out.length+(aO site e 2).length+1) next b).length+1=out.length+((aO site e 2).length+((genL n (out.length+(aO site e 2).length+1) next b).length+1+1)):=(by omega);rw[show ((next+(aH b+aH c):Nat):Int)=((next+aH b+aH c:Nat):Int) by omega,B] at y;exact wd y _ [0,1,610] [] ⟨rfl,d,rfl⟩
end AM
namespace AM
open Go Go.Proofs Mk
set_option maxRecDepth 20000
set_option maxHeartbeats 8000000
def qQ:Nat->List (Nat×Nat):=λi=>if i=11 then [(1,6),(1,8),(6,8),(1,9)] else if i=13 then [(1,6),(1,8),(6,8),(1,9)] else if i=15 then [(1,6),(1,8),(6,8),(1,9)] else if i=27 then [(5,7)] else if i=29 then [(5,7)] else if i=32 then [(5,7)] else if i=34 then [(4,6),(4,12),(6,12),(7,12),(4,14),(6,14),(7,14),(12,14)] else []
theorem abd (n:Nat)(q:n<=4)(s:Sm)(hb:GsC n s.body)(hc:GsC n s.els):GtC n s:=by
 intro ss out site next ho hn;have d:=lW s;have A:=WL n s hb;rcases s with ⟨k,e⟩|⟨i,e⟩|⟨e,b,_|⟨c,cr⟩⟩|⟨e,b⟩|⟨k,b⟩|b|b|k|k|_|e|_
 all_goals
  simp only[Sm.op,Sm.name,Sm.arg,Sm.index,Sm.ex,Sm.body,Sm.els,Qx,qp,kM,genS,aH,fZ] at ho hn hb hc d A|-
 . refine wz Tryz.func109 qQ (h:=λR a=>?_);refine wb ?_<;>intros;refine wq (Ua k e n ss out next ((next+1:Nat):Int) (by omega)) [0,1] ?_;rintro r g ⟨rfl,rfl⟩;refine wb ?_<;>intros;exact wd a _ [0,1,234] [] ⟨rfl,(next:Int),rfl⟩
 . refine wz Tryz.func109 qQ (h:=λR a=>?_);refine wb ?_<;>intros;refine wq (Ub i e n ss out next ((next+1:Nat):Int) (by omega)) [0,1] ?_;rintro r g ⟨rfl,rfl⟩;refine wb ?_<;>intros;exact wd a _ [0,1,234] [] ⟨rfl,(next:Int),rfl⟩
 . refine wz Tryz.func109 qQ (h:=λR a=>?_);refine wb ?_<;>intros;refine wq (aac n e b hb ss out next (next+1) (by omega) (by omega)) [0,1] ?_;rintro r g ⟨rfl,rfl⟩;refine wb ?_<;>intros;exact wd a _ [0,1,250] [] ⟨rfl,(next:Int),rfl⟩
 . refine wz Tryz.func109 qQ (h:=λR a=>?_);refine wb ?_<;>intros;refine wq (aad n e b (c::cr) hb hc ss out next (next+1) (by simp only[aH];omega) (by simp only[aH];omega) (by simp)) [0,1] ?_;rintro r g ⟨rfl,u,rfl⟩;rw[show next+(1+aH b+(fZ c+aH cr))=next+1+(aH b+aH (c::cr)) by simp only[aH];omega] at a;refine wb ?_<;>intros;exact wd a _ [0,1,250] [] ⟨rfl,u,rfl⟩
 . refine wz Tryz.func109 qQ (h:=λR a=>?_);refine wb ?_<;>intros;refine wq (acU n e b hb ss out next (next+1) (by omega) (by omega)) [0,1] ?_;rintro r g ⟨rfl,rfl⟩;rw[show next+(1+aH b)=next+1+aH b by omega] at a;refine wb ?_<;>intros;exact wd a _ [0,1,266] [] ⟨rfl,(next:Int),rfl⟩
 . cases k
   all_goals
    simp only[Bk.fst,Bk.obj];refine wz Tryz.func109 qQ (h:=λR a=>?_);refine wb ?_<;>intros
   . refine wE (y8 QC ⟨#[109]⟩ 0 (by decide) rfl) ?_;refine wb ?_<;>intros;refine wQ (A 11 12 0 ss out next (next+1) (by omega) (by omega)) [0,1] ⟨rfl,rfl⟩ ?_;rintro r g ⟨rfl,rfl⟩;rw[show next+(1+aH b)=next+1+aH b by omega] at a;refine wb ?_<;>intros;exact wd a _ [0,1,346] [] ⟨rfl,(next:Int),rfl⟩
   . refine wE (y8 QC ⟨#[110]⟩ 1 (by decide) rfl) ?_;refine wb ?_<;>intros;refine wQ (A 11 12 1 ss out next (next+1) (by omega) (by omega)) [0,1] ⟨rfl,rfl⟩ ?_;rintro r g ⟨rfl,rfl⟩;rw[show next+(1+aH b)=next+1+aH b by omega] at a;refine wb ?_<;>intros;exact wd a _ [0,1,346] [] ⟨rfl,(next:Int),rfl⟩
   . refine wE (y8 QC ⟨#[114]⟩ 2 (by decide) rfl) ?_;refine wb ?_<;>intros;refine wQ (A 13 14 2 ss out next (next+1) (by omega) (by omega)) [0,1] ⟨rfl,rfl⟩ ?_;rintro r g ⟨rfl,rfl⟩;rw[show next+(1+aH b)=next+1+aH b by omega] at a;refine wb ?_<;>intros;exact wd a _ [0,1,362] [] ⟨rfl,(next:Int),rfl⟩
   . refine wE (y8 QC ⟨#[114]⟩ 2 (by decide) rfl) ?_;refine wb ?_<;>intros;refine wQ (A 15 16 2 ss out next (next+1) (by omega) (by omega)) [0,1] ⟨rfl,rfl⟩ ?_;rintro r g ⟨rfl,rfl⟩;rw[show next+(1+aH b)=next+1+aH b by omega] at a;refine wb ?_<;>intros;exact wd a _ [0,1,378] [] ⟨rfl,(next:Int),rfl⟩
 . refine wz Tryz.func109 qQ (h:=λR a=>?_);refine wb ?_<;>intros;refine wq (A 17 18 0 ss out next (next+1) (by omega) (by omega)) [0,1] ?_;rintro r g ⟨rfl,rfl⟩;rw[show next+(1+aH b)=next+1+aH b by omega] at a;refine wb ?_<;>intros;exact wd a _ [0,1,330] [] ⟨rfl,(next:Int),rfl⟩
 . refine wz Tryz.func109 qQ (h:=λR a=>?_);refine wb ?_<;>intros;refine wq (A 19 20 0 ss out next (next+1) (by omega) (by omega)) [0,1] ?_;rintro r g ⟨rfl,rfl⟩;rw[show next+(1+aH b)=next+1+aH b by omega] at a;refine wb ?_<;>intros;exact wd a _ [0,1,346] [] ⟨rfl,(next:Int),rfl⟩
 . cases k
   all_goals
    simp only[Sg.op];refine wz Tryz.func109 qQ (h:=λR a=>?_);refine wb ?_<;>intros;refine wq (ahv n ss out next ((next+1:Nat):Int) ⟨#[99]⟩ 0 rfl) [0,1] ?_;rintro r g ⟨rfl,rfl⟩;refine wb ?_<;>intros
   . refine wq (eG n ss out next ((next+1:Nat):Int) ⟨21,0,0,0,0,0⟩ (by omega)) [0,1] ?_;rintro r g ⟨rfl,rfl⟩;refine wb ?_<;>intros;exact wd a _ [0,1,394] [] ⟨rfl,(next:Int),rfl⟩
   . refine wq (eG n ss out next ((next+1:Nat):Int) ⟨22,0,0,0,0,0⟩ (by omega)) [0,1] ?_;rintro r g ⟨rfl,rfl⟩;refine wb ?_<;>intros;exact wd a _ [0,1,410] [] ⟨rfl,(next:Int),rfl⟩
   . refine wq (eG n ss out next ((next+1:Nat):Int) ⟨23,0,0,0,0,0⟩ (by omega)) [0,1] ?_;rintro r g ⟨rfl,rfl⟩;refine wb ?_<;>intros;exact wd a _ [0,1,426] [] ⟨rfl,(next:Int),rfl⟩
 . refine wz Tryz.func109 qQ (h:=λR a=>?_);refine wb ?_<;>intros;refine wE (tJ (thNames n) (aX k) _ (by simp[thNames];omega) rfl) ?_;refine wb ?_<;>intros;refine wQ (eG n ss out next ((next+1:Nat):Int) ⟨24,jl (thNames n) (aX k),0,0,0,0⟩ (by omega)) [0,1] ⟨rfl,rfl⟩ ?_;rintro r g ⟨rfl,rfl⟩;refine wb ?_<;>intros;exact wd a _ [0,1,474] [] ⟨rfl,(next:Int),rfl⟩
 . refine wz Tryz.func109 qQ (h:=λR a=>?_);refine wb ?_<;>intros;refine wE (tJ (thNames n) (aX 1) _ (by simp[thNames];omega) rfl) ?_;refine wb ?_<;>intros;refine wQ (eG n ss out next ((next+1:Nat):Int) ⟨25,jl (thNames n) (aX 1),0,0,0,0⟩ (by omega)) [0,1] ⟨rfl,rfl⟩ ?_;rintro r g ⟨rfl,rfl⟩;refine wb ?_<;>intros;exact wd a _ [0,1,490] [] ⟨rfl,(next:Int),rfl⟩
 . refine wz Tryz.func109 qQ (h:=λR a=>?_);refine wb ?_<;>intros;refine wq (zl e n ss out next ((next+1:Nat):Int) 2 (by decide) (by decide) (by omega)) [0,1] ?_;rintro r g ⟨rfl,rfl⟩;refine wb ?_<;>intros;refine wE (tJ XQ ⟨#[102]⟩ 0 (by decide) rfl) ?_;refine wb ?_<;>intros;have y:=kG next e 2;refine wQ (eG n ss (out++aO next e 2) next ((next+1:Nat):Int) ⟨26,0,2,0,0,0⟩ (by simp;omega)) [0,458] ⟨rfl,rfl⟩ ?_;rintro r g ⟨rfl,rfl⟩;refine wb ?_<;>intros;exact wd a _ [0,1,554] [] ⟨rfl,(next:Int),rfl⟩
 . refine wz Tryz.func109 qQ (h:=λR a=>?_);refine wb ?_<;>intros;refine wE (tJ bQ ⟨#[97]⟩ 0 (by decide) rfl) ?_;refine wb ?_<;>intros;refine wE (tJ XQ ⟨#[102]⟩ 0 (by decide) rfl) ?_;refine wb ?_<;>intros;refine wQ (eG n ss out next ((next+1:Nat):Int) ⟨27,0,0,0,0,0⟩ (by omega)) [0,1] ⟨rfl,rfl⟩ ?_;rintro r g ⟨rfl,rfl⟩;refine wb ?_<;>intros;exact wd a _ [0,1,578] [] ⟨rfl,(next:Int),rfl⟩
set_option maxRecDepth 20000
set_option maxHeartbeats 8000000
theorem VD:∀(l:List Sm) (s:Sm),s∈l->fZ s<=aH l
 |
  x::r,s,h=>by
  simp only[aH]
  rcases gJ.1 h with rfl|h
  . omega
  . have:=VD r s h;omega
theorem ML (n:Nat)(a:n<=4):∀(m:Nat) (l:List Sm),aH l<m->GsC n l
 |0,l,h=>by omega
 |
  m+1,l,h=>WJ n l (λs hs=>by
  have h1:=VD l s hs
  have h2:=lW s
  exact abd n a s (ML n a m s.body (by omega)) (ML n a m s.els (by omega)))
def Nl (t n c:Nat):List (Nat×Nat):=(List.range c).map λk=>(t,n+k)
theorem MQ (t n a b:Nat):Nl t n (a+b)=Nl t n a++Nl t (n+a) b:=by unfold Nl;rw[List.range_add,fQ,xq];congr 1;apply TG;intro k _;simp[nV]
@[go_sem] theorem MR {t n c:Nat} :(Nl t n c).length=c:=by simp[Nl]
theorem adY (t n:Nat):Nl t n 1=[(t,n)]:=rfl
abbrev siO (l:List (Nat×Nat)):Obj:= .row 154 3 (l.map XR)
def arR (l:List Sm):Prop:=∀(so:List (Nat×Nat)) (t n:Nat),so.length+aH l<=1000->n+aH l<=1000->ACall Tryz.prog 108 [.own 0 so.length,.pv (ah t),.pv (ah n),.pv (U4 l)] [siO so] (λv g=>v= .tup [.own 1 (so.length+aH l),.pv (ah ((n+aH l:Nat):Int))]/\g=[none,some (siO (so++Nl t n (aH l)))])
theorem AU:∀(m:Nat) (l:List Sm),aH l<m->arR l
 |0,l,h=>by omega
 |
  m+1,l,h=>by
  intro so t n B hn
  have hc:=yI l
  refine wz Tryz.func108 (λ_=> []) (h:=λR E=>?_)
  refine wb ?_<;>intros
  refine wl (λu:Nat×List (Nat×Nat)×Nat=> [(0,.own 1 u.2.1.length),(1,.pv (ah t)),(2,.pv (ah u.2.2)),(3,.pv (U4 l)),(10,.pv (ah u.1))]) (λu=> [none,some (siO u.2.1)]) (λu=>u.1<=l.length/\u.2.1++Nl t u.2.2 (aH (l.drop u.1))=so++Nl t n (aH l)/\u.2.2+aH (l.drop u.1)=n+aH l/\u.2.1.length+aH (l.drop u.1)<=1000) (λu=>l.length-u.1) (0,so,n) ⟨ay _,rfl,rfl,B⟩ (vm [0,0]) (λ⟨i,o,k⟩ ⟨hi,d,hk,a⟩=>?_)
  dsimp only at hi d hk a
  refine wb (A2.mk ?_ ?_)<;>intros
  . have h2:i<l.length:=by omega
    have q:=Az l i
    rw[nY h2] at d hk a q
    generalize hx:l[i]=x at d hk a q
    simp only[aH,lW] at d hk a q
    refine aN (x:=x) (by omega) (by simp[h2,hx]) (pR _) ?_
    rw[fU]
    refine wb ?_<;>intros
    refine aN (x:=x) (by omega) (by simp[h2,hx]) (pR _) ?_
    rw[fU]
    refine wb ?_<;>intros
    refine wq (AU m x.body (by omega) (o++[(t,k)]) t (k+1) (by simp;omega) (by omega)) [114] ?_
    rintro r g ⟨rfl,rfl⟩
    refine wb ?_<;>intros
    refine aN (x:=x) (by omega) (by simp[h2,hx]) (pR _) ?_
    rw[fU]
    refine wb ?_<;>intros
    refine wq (AU m x.els (by omega) (o++[(t,k)]++Nl t (k+1) (aH x.body)) t (k+1+aH x.body) (by simp[Nl];omega) (by omega)) [218] ?_
    rintro r g ⟨rfl,rfl⟩
    refine wb ?_<;>intros
    refine ak ⟨(i+1,o++[(t,k)]++Nl t (k+1) (aH x.body)++Nl t (k+1+aH x.body) (aH x.els),k+1+aH x.body+aH x.els),⟨h2,?_,by dsimp only;omega,by simp[MR];omega⟩,by dsimp only;omega,vm [0,330]⟩
    rw[<-d,MQ,MQ,MQ,adY]
    simp[gm,nV]
  . rw[jT (by omega)] at d hk
    simp only[aH,sK] at d hk
    have y:o=so++Nl t n (aH l):=by rw[<-d];simp[Nl]
    have D:o.length=so.length+aH l:=by rw[y];simp[MR]
    rw[<-y,<-hk,<-D] at E
    exact wo E _ _ [0,1] [] ⟨rfl,rfl⟩
set_option maxRecDepth 20000
set_option maxHeartbeats 8000000
abbrev lkO (l:List (ByteArray×Bool)):Obj:= .row 147 2 (l.map QD)
theorem ad8 (l:List (ByteArray×Bool))(s:ByteArray)(r:Int)(d:l.length<=1000)(h:jl (l.map (·.1)) s=r):ACall Tryz.prog 107 [.own 0 l.length,.pv (dP s)] [lkO l] (λv g=>v= .pv (ah r)/\g=[some (lkO l)]):=by
 subst h;refine wz Tryz.func107 (λ_=> []) (h:=λR a=>?_);refine wb ?_<;>intros;refine wl (λi:Nat=> [(0,.own 0 l.length),(1,.pv (dP s)),(5,.pv (ah i))]) (λ_=> [some (lkO l)]) (λi=>i<=l.length/\jl (l.map (·.1)) s=gK s i ((l.map (·.1)).drop i)) (λi=>l.length-i) 0 ⟨ay _,rfl⟩ (vm [0]) (λi ⟨hi,ha⟩=>?_);refine wb (A2.mk ?_ ?_)<;>intros
 . have h2:i<l.length:=(by omega);refine JO (x:=QD l[i]) (by simp[h2]) rfl ?_;refine wb (A2.mk ?_ ?_)<;>intros
   . exact wo a (.pv (ah i)) _ [0] [] ⟨by rw[at_hit (i:=i) (by simpa using h2) (by simpa using ‹l[i].1=s›) ha],rfl⟩
   . exact ak ⟨i+1,⟨h2,pM (i:=i) (by simpa using h2) (by simpa using ‹_›) ha⟩,by omega,vm [0]⟩
 . exact wo a (.pv (ah (-1))) _ [0] [] ⟨by rw[uH (i:=i) (by simp;omega) ha],rfl⟩
theorem BR:∀(l:List (List Sm)) (t i:Nat) (h:i<l.length),ed t (l.take (i+1))=ed t (l.take i)++Nl (t+i) 0 (aH l[i])
 |b::r,t,0,_=>by simp[ed,DW,Nl]
 |
  b::r,t,i+1,h=>by
  have:=BR r (t+1) i (by simpa using h)
  simp only[LU,ed,this,gm,TU]
  rw[show t+1+i=t+(i+1) by omega]
def ar6:Nat->List (Nat×Nat):=λi=>if i=21 then [(1,3),(1,5),(3,5),(1,7),(3,7),(5,7),(1,8),(3,8)] else if i=25 then [(1,3),(1,5),(1,7)] else if i=26 then [(1,4),(1,6),(1,8)] else []
attribute [local go_sem] List.set_cons_zero List.set_cons_succ thNames_len
theorem abE (bs:List (List Sm))(a:PgOk bs)(d:qy bs=0):FnEq Tryz.prog 69 [rw_ (BB bs)] (rw_ (qY bs.length (ed 0 bs))):=by have h4:=a.n4;have q:=(xX d).1;refine wf Tryz.func69 ar6 (h:=λR u=>?_);refine wb ?_<;>intros;refine wE a.check ?_;rw[d];refine wb ?_<;>intros;refine wn 10 ?_;refine wb ?_;refine aA (by omega) rfl rfl ?_;refine wb ?_;refine w2 ?_;refine wb ?_;refine aA (by omega) rfl rfl ?_;refine wb ?_;refine w2 ?_;refine wb ?_;refine aA (by omega) rfl rfl ?_;refine wb ?_;refine w2 ?_;refine wb ?_;refine aA (by omega) rfl rfl ?_;refine wb ?_;refine w3 ?_;refine wb ?_;refine aA (by omega) rfl rfl ?_;refine wb ?_;refine aA (by omega) rfl rfl ?_;refine wb ?_;refine aA (by omega) rfl rfl ?_;refine wb ?_;refine aA (by omega) rfl rfl ?_;refine wb ?_;refine wQ (ad8 QC ⟨#[109]⟩ 0 (by decide) rfl) [2728] ⟨rfl,rfl⟩ ?_;rintro r g ⟨rfl,rfl⟩;refine wb ?_;refine aA (by omega) rfl rfl ?_;refine wb ?_;refine dO 16 4 9 1 rfl rfl ?_;refine dO 16 5 154 3 rfl rfl ?_;refine wl (λi:Nat=> [(1,.ptr 0 0),(2,.ptr 1 0),(3,.ptr 2 0),(9,.pv (ah i))]) (λi=> [some (.box ((BB bs).map .pv)),some (.box [.emp,.emp,.emp,.emp,.emp,.emp]),some (.box [.own 3 5,.own 4 3,.own 5 1,.own 6 1,.own 7 i,.own 8 (ed 0 (bs.take i)).length]),some (.row 144 5 (Qv.map CeR.r)),some (lkO QC),some (.row 150 2 (Qw.map XP)),some (KD XQ),some (KD (thNames i)),some (siO (ed 0 (bs.take i)))]) (λi=>i<=bs.length) (λi=>bs.length-i) 0 (ay _) (vm [0,8,16,1808,2728,3056,3336,3432,3433] (hO:=by refine ws ?_;and_intros<;>rfl)) (λi hi=>?_);refine wb (A2.mk ?_ ?_)<;>intros;have h2:i<bs.length:=(by omega);refine aN (x:=(bs[i],i)) (by omega) (by simp<;>omega) rfl ?_;refine wb ?_<;>intros;refine aN (x:=(bs[i],i)) (by omega) (by simp<;>omega) rfl ?_;refine wb ?_<;>intros;have hle:=wC bs (i+1);have y:=wH bs i h2;have B:=Au (bs.take i) 0;refine wQ (AU (aH bs[i]+1) bs[i] (by omega) (ed 0 (bs.take i)) i 0 (by omega) (by omega)) [8] ⟨rfl,rfl⟩ ?_;rintro r g ⟨rfl,rfl⟩;refine wb ?_<;>intros;have e1:=BR bs 0 i h2;rw[fG] at e1;have D:thNames (i+1)=thNames i++[aX i]:=(by simp[thNames,Tn]);exact ak ⟨i+1,by omega,by omega,vm [0,1,2,3,4,5,6,121,217] (hO:=by refine ws ?_;rw[e1,D];simp[MR])⟩;obtain rfl:i=bs.length:=(by omega);rw[sS];exact wr u [(3,none),(4,none),(5,none),(6,none),(7,none),(8,none)]
