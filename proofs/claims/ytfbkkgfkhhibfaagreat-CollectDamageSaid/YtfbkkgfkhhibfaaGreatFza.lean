/- Words. -/
import Derived.Test.YtfbkkgfkhhibfaaGreatFu
set_option linter.unusedVariables false
set_option linter.unusedSimpArgs false
namespace AM
open Go Go.Proofs Mk
set_option maxRecDepth 20000
set_option maxHeartbeats 4000000
def Uw:Nat->List (Nat×Nat):=λi=>if i=7 then [(3,5)] else if i=10 then [(5,7)] else if i=13 then [(3,5)] else []
def aeP (K:Int)(e:List PV)(f:Int->Int->List In):Prop:=∀(n:Nat) (ss:List (Nat×Nat)) (out:List In) (site next d:Int),0<=d->d<=K->(out.length:Int)<=100*K->ACall Tryz.prog 147 [.ptr 0 0,rw_ e,.pv (ah d)] (XD n ss out site next) (λv g=>v= .tup []/\g=F9 n ss (out++f site d) site next)
attribute [local go_sem] y8
theorem Dp (l:Lf):aeP 10 (y8 l) (λq d=> [kH q l d]):=by
 intro n ss out site next d h0 h1 ho
 cases l with
 |
  num k=>
  simp only[y8,lfE,Lf.op,Lf.n,Lf.name];refine wz Tryz.func147 Uw (h:=λR a=>?_);refine wb ?_<;>intros;refine wq (dV n ss out site next ⟨1,d,0,0,k.val,0⟩ (by omega)) [0,1] ?_;rintro r g ⟨rfl,rfl⟩;refine wb ?_<;>intros;exact wd a _ [0,1,82] [] ⟨rfl,rfl⟩
 |
  var k=>
  simp only[y8,lfE,Lf.op,Lf.n,Lf.name]
  cases k
  all_goals
   refine wz Tryz.func147 Uw (h:=λR a=>?_);simp only[Nm.str];refine wb ?_<;>intros
  . refine wE (sK bK ⟨#[97]⟩ 0 (by decide) rfl) ?_;refine wb ?_<;>intros;refine wq (dV n ss out site next ⟨2,d,0,0,0,0⟩ (by omega)) [0,1] ?_;rintro r g ⟨rfl,rfl⟩;refine wb ?_<;>intros;exact wd a _ [0,1,186] [] ⟨rfl,rfl⟩
  . refine wE (sK bK ⟨#[98]⟩ 1 (by decide) rfl) ?_;refine wb ?_<;>intros;refine wq (dV n ss out site next ⟨2,d,1,0,0,0⟩ (by omega)) [0,1] ?_;rintro r g ⟨rfl,rfl⟩;refine wb ?_<;>intros;exact wd a _ [0,1,186] [] ⟨rfl,rfl⟩
  . refine wE (sK bK ⟨#[120]⟩ (-1) (by decide) rfl) ?_;refine wb ?_<;>intros;refine wE (lK n ss ⟨#[120]⟩ 0 rfl) ?_;refine wb ?_<;>intros;refine wQ (dV n ss out site next ⟨6,d,0,0,0,0⟩ (by omega)) [0,1] ⟨rfl,rfl⟩ ?_;rintro r g ⟨rfl,rfl⟩;refine wb ?_<;>intros;exact wd a _ [0,1,234] [] ⟨rfl,rfl⟩
  . refine wE (sK bK ⟨#[121]⟩ (-1) (by decide) rfl) ?_;refine wb ?_<;>intros;refine wE (lK n ss ⟨#[121]⟩ 1 rfl) ?_;refine wb ?_<;>intros;refine wQ (dV n ss out site next ⟨6,d,1,0,0,0⟩ (by omega)) [0,1] ⟨rfl,rfl⟩ ?_;rintro r g ⟨rfl,rfl⟩;refine wb ?_<;>intros;exact wd a _ [0,1,234] [] ⟨rfl,rfl⟩
  . refine wE (sK bK ⟨#[118]⟩ (-1) (by decide) rfl) ?_;refine wb ?_<;>intros;refine wE (lK n ss ⟨#[118]⟩ 2 rfl) ?_;refine wb ?_<;>intros;refine wQ (dV n ss out site next ⟨6,d,2,0,0,0⟩ (by omega)) [0,1] ⟨rfl,rfl⟩ ?_;rintro r g ⟨rfl,rfl⟩;refine wb ?_<;>intros;exact wd a _ [0,1,234] [] ⟨rfl,rfl⟩
attribute [local go_sem] aK
theorem y9 (x:Ex):aeP 9 (xX x).r (λa d=>aK a x d):=by
 cases x with
 |
  leaf l=>
  have h:aeP 9 (y8 l) (λa d=> [kH a l d]):=λn ss out site next d h0 h1 ho=>Dp l n ss out site next d h0 (by omega) (by omega)
  cases l<;>exact h
 |
  idx l=>
  intro n ss out site next d h0 h1 ho;simp only[xX,Ex.op,Ex.n,Ex.name,Ex.kids];refine wz Tryz.func147 Uw (h:=λR q=>?_);refine wb ?_<;>intros;refine az (by omega) rfl rfl ?_;refine wb ?_<;>intros;refine wq (Dp l n ss out site next d h0 (by omega) (by omega)) [0,1] ?_;rintro r g ⟨rfl,rfl⟩;refine wb ?_<;>intros;refine wE (lK n ss ⟨#[113]⟩ 3 rfl) ?_;refine wb ?_<;>intros;refine az (by omega) rfl rfl ?_;refine wb ?_<;>intros;refine wq (dV n ss (out++[kH site l d]) site next ⟨7,d,3,d,2,0⟩ (by simp;omega)) [0,154] ?_;rintro r g ⟨rfl,rfl⟩;refine wb ?_<;>intros;exact wd q (F9 n ss (out++aK site (.idx l) d) site next) [0,1,338] [] ⟨rfl,rfl⟩
 |
  bin k l r=>
  have hk:binOp k≠1/\binOp k≠2/\binOp k≠3/\ -100<=binOp k/\binOp k<=100:=(by revert k;decide);intro n ss out site next d h0 h1 ho;simp only[xX,Ex.op,Ex.n,Ex.name,Ex.kids,aK];generalize binOp k=op at hk;refine wz Tryz.func147 Uw (h:=λR q=>?_);refine wb ?_<;>intros;refine az (by omega) rfl rfl ?_;refine wb ?_<;>intros;refine wq (Dp l n ss out site next d h0 (by omega) (by omega)) [0,1] ?_;rintro r g ⟨rfl,rfl⟩;refine wb ?_<;>intros;refine az (by omega) rfl rfl ?_;refine wb ?_<;>intros;refine wq (Dp r n ss (out++[kH site l d]) site next (d+1) (by omega) (by omega) (by simp;omega)) [0,194] ?_;rintro u g ⟨rfl,rfl⟩;refine wb ?_<;>intros;refine wq (dV n ss (out++[kH site l d]++[kH site r (d+1)]) site next ⟨4,d,d,d+1,op,0⟩ (by simp;omega)) [0,258] ?_;rintro u g ⟨rfl,rfl⟩;refine wb ?_<;>intros;exact wd q (F9 n ss (out++[kH site l d,kH site r (d+1),⟨4,d,d,d+1,op,site⟩]) site next) [0,1,330] [] ⟨rfl,rfl⟩
end AM
namespace AM
open Go Go.Proofs Mk
set_option maxRecDepth 20000
set_option maxHeartbeats 4000000
def aeO:Nat->List (Nat×Nat):=λi=>if i=5 then [(3,5)] else if i=8 then [(3,5)] else if i=11 then [(4,6)] else []
def amm (s:Sm)(f:Int->List In):Prop:=∀(n:Nat) (ss:List (Nat×Nat)) (out:List In) (site next:Int),out.length<=800->ACall Tryz.prog 143 [.ptr 0 0,rw_ (sF s.op s.name s.arg (s.index.map y8) (Qg s.ex) (s.body.map pY) (s.els.map pY))] (XD n ss out site next) (λv g=>v= .tup []/\g=F9 n ss (out++f site) site next)
attribute [local go_sem] y8
theorem TL (k:Nm)(e:Ex):amm (.asg k e) (λd=>aK d e 2++[DI d k]):=by
 intro n ss out site next ho;have q:(aK site e 2).length<=3:=jV site e 2;simp only[Sm.op,Sm.name,Sm.arg,Sm.index,Sm.ex,Sm.body,Sm.els,Qg,pW]
 cases k
 all_goals
  simp only[Nm.str,DI];refine wz Tryz.func143 aeO (h:=λR a=>?_);refine wb ?_<;>intros;refine wq (y9 e n ss out site next 2 (by decide) (by decide) (by omega)) [0,1] ?_;rintro r g ⟨rfl,rfl⟩;refine wb ?_<;>intros
 . refine wE (sK bK ⟨#[97]⟩ 0 (by decide) rfl) ?_;refine wb ?_<;>intros;refine wq (dV n ss (out++aK site e 2) site next ⟨2,0,2,0,0,0⟩ (by simp;omega)) [0,122] ?_;rintro r g ⟨rfl,rfl⟩;refine wb ?_<;>intros;exact wd a (F9 n ss (out++(aK site e 2++[⟨2,0,2,0,0,site⟩])) site next) [0,1,242] [] ⟨rfl,rfl⟩
 . refine wE (sK bK ⟨#[98]⟩ 1 (by decide) rfl) ?_;refine wb ?_<;>intros;refine wq (dV n ss (out++aK site e 2) site next ⟨2,1,2,0,0,0⟩ (by simp;omega)) [0,122] ?_;rintro r g ⟨rfl,rfl⟩;refine wb ?_<;>intros;exact wd a (F9 n ss (out++(aK site e 2++[⟨2,1,2,0,0,site⟩])) site next) [0,1,242] [] ⟨rfl,rfl⟩
 . refine wE (sK bK ⟨#[120]⟩ (-1) (by decide) rfl) ?_;refine wb ?_<;>intros;refine wE (lK n ss ⟨#[120]⟩ 0 rfl) ?_;refine wb ?_<;>intros;refine wQ (dV n ss (out++aK site e 2) site next ⟨8,0,2,0,0,0⟩ (by simp;omega)) [0,122] ⟨rfl,rfl⟩ ?_;rintro r g ⟨rfl,rfl⟩;refine wb ?_<;>intros;exact wd a (F9 n ss (out++(aK site e 2++[⟨8,0,2,0,0,site⟩])) site next) [0,1,290] [] ⟨rfl,rfl⟩
 . refine wE (sK bK ⟨#[121]⟩ (-1) (by decide) rfl) ?_;refine wb ?_<;>intros;refine wE (lK n ss ⟨#[121]⟩ 1 rfl) ?_;refine wb ?_<;>intros;refine wQ (dV n ss (out++aK site e 2) site next ⟨8,1,2,0,0,0⟩ (by simp;omega)) [0,122] ⟨rfl,rfl⟩ ?_;rintro r g ⟨rfl,rfl⟩;refine wb ?_<;>intros;exact wd a (F9 n ss (out++(aK site e 2++[⟨8,1,2,0,0,site⟩])) site next) [0,1,290] [] ⟨rfl,rfl⟩
 . refine wE (sK bK ⟨#[118]⟩ (-1) (by decide) rfl) ?_;refine wb ?_<;>intros;refine wE (lK n ss ⟨#[118]⟩ 2 rfl) ?_;refine wb ?_<;>intros;refine wQ (dV n ss (out++aK site e 2) site next ⟨8,2,2,0,0,0⟩ (by simp;omega)) [0,122] ⟨rfl,rfl⟩ ?_;rintro r g ⟨rfl,rfl⟩;refine wb ?_<;>intros;exact wd a (F9 n ss (out++(aK site e 2++[⟨8,2,2,0,0,site⟩])) site next) [0,1,290] [] ⟨rfl,rfl⟩
theorem TM (i:Lf)(e:Ex):amm (.asq i e) (λa=>kH a i 2::(aK a e 3++[⟨9,3,3,2,2,a⟩])):=by intro n ss out site next ho;have q:(aK site e 3).length<=3:=jV site e 3;simp only[Sm.op,Sm.name,Sm.arg,Sm.index,Sm.ex,Sm.body,Sm.els,Qg,pW,kD];refine wz Tryz.func143 aeO (h:=λR d=>?_);refine wb ?_<;>intros;refine az (by omega) rfl rfl ?_;refine wb ?_<;>intros;refine wq (Dp i n ss out site next 2 (by decide) (by decide) (by omega)) [0,1] ?_;rintro r g ⟨rfl,rfl⟩;refine wb ?_<;>intros;refine wq (y9 e n ss (out++[kH site i 2]) site next 3 (by decide) (by decide) (by simp;omega)) [0,138] ?_;rintro r g ⟨rfl,rfl⟩;refine wb ?_<;>intros;refine wE (lK n ss ⟨#[113]⟩ 3 rfl) ?_;refine wb ?_<;>intros;refine az (by omega) rfl rfl ?_;refine wb ?_<;>intros;refine wq (dV n ss (out++[kH site i 2]++aK site e 3) site next ⟨9,3,3,2,2,0⟩ (by simp;omega)) [0,186] ?_;rintro r g ⟨rfl,rfl⟩;refine wb ?_<;>intros;exact wdr d (F9 n ss (out++(kH site i 2::(aK site e 3++[⟨9,3,3,2,2,site⟩]))) site next) [0,1,378] [] ⟨rfl,rfl⟩
end AM
namespace AM
open Go Go.Proofs Mk
set_option maxRecDepth 20000
set_option maxHeartbeats 4000000
def GsC (n:Nat)(l:List Sm):Prop:=∀(ss:List (Nat×Nat)) (out:List In) (site:Int) (next:Nat),out.length+8*aF l<=700->next+aF l<=1000->ACall Tryz.prog 70 [.ptr 0 0,.pv (UN l)] (XD n ss out site next) (λv g=>v= .tup []/\∃oZ:Int,g=F9 n ss (out++genL n out.length next l) oZ ((next+aF l:Nat):Int))
def GtC (n:Nat)(s:Sm):Prop:=∀(ss:List (Nat×Nat)) (out:List In) (site:Int) (next:Nat),out.length+8*fK s<=700->next+fK s<=1000->ACall Tryz.prog 109 [.ptr 0 0,rw_ (sF s.op s.name s.arg (s.index.map y8) (Qg s.ex) (s.body.map pY) (s.els.map pY))] (XD n ss out site next) (λv g=>v= .tup []/\∃oZ:Int,g=F9 n ss (out++genS n out.length next s) oZ ((next+fK s:Nat):Int))
theorem Wj (n:Nat)(l:List Sm)(hs:∀s∈l,GtC n s):GsC n l:=by intro ss out site next ho hn;have hc:=yC l;refine wz Tryz.func70 (λ_=> []) (h:=λR B=>?_);refine wb ?_<;>intros;refine wl (λu:Nat×List In×Int×Nat=> [(0,.ptr 0 0),(1,.pv (UN l)),(4,.pv (ah u.1))]) (λu=>F9 n ss u.2.1 u.2.2.1 u.2.2.2) (λu=>u.1<=l.length/\u.2.1++genL n u.2.1.length u.2.2.2 (l.drop u.1)=out++genL n out.length next l/\u.2.2.2+aF (l.drop u.1)=next+aF l/\u.2.1.length+8*aF (l.drop u.1)<=700) (λu=>l.length-u.1) (0,out,site,next) ⟨ay _,rfl,rfl,ho⟩ (vm [0,1,1]) (λ⟨i,o,y,nx⟩ ⟨hi,q,a,d⟩=>?_);dsimp only at hi q a d;refine wb (A2.mk ?_ ?_)<;>intros;have h2:i<l.length:=(by omega);rw[nM h2] at q a d;generalize hx:l[i]=x at q a d;simp only[genL,aF] at q a d;have hlen:=genS_len n o.length nx x;refine aJ (x:=x) (by omega) (by simp[h2,hx]) (oU _) ?_;rw[fH];refine wb ?_<;>intros;refine wq (hs x (by rw[<-hx];exact eu _) ss o y nx (by omega) (by omega)) [0,2] ?_;rintro r g ⟨rfl,D,rfl⟩;refine wb ?_<;>intros;refine aj ⟨(i+1,o++genS n o.length nx x,D,nx+fK x),⟨h2,by rw[fM,aY];exact q,by dsimp only;omega,by simp;omega⟩,by dsimp only;omega,vm [0,1,75]⟩;rw[jK (by omega)] at q a;simp only[genL,aF,nN,rQ] at q a;exact wd B (F9 n ss o y nx) [0,1,2] [] ⟨rfl,y,by rw[<-q,<-a]⟩
theorem Wl (n:Nat)(s:Sm)(hb:GsC n s.body)(first last obj:Int)(ss:List (Nat×Nat))(out:List In)(site:Int)(next:Nat)(ho:out.length+8*aF s.body+2<=700)(hn:next+aF s.body<=1000):
 ACall Tryz.prog 145 [.ptr 0 0,rw_ (sF s.op s.name s.arg (s.index.map y8) (Qg s.ex) (s.body.map pY) (s.els.map pY)),.pv (ah first),.pv (ah last),.pv (ah obj)] (XD n ss out site next) (λv g=>v= .tup []/\g=F9 n ss (out++⟨first,obj,0,0,0,site⟩::(genL n (out.length+1) next s.body++[⟨last,obj,0,0,0,site⟩])) site ((next+aF s.body:Nat):Int)):=by have hlen:=genL_len n (out.length+1) next s.body;refine wz Tryz.func145 (λ_=> []) (h:=λR a=>?_);refine wb ?_<;>intros;refine wq (dV n ss out site next ⟨first,obj,0,0,0,0⟩ (by omega)) [0,1] ?_;rintro r g ⟨rfl,rfl⟩;refine wb ?_<;>intros;refine wq (hb ss (out++[⟨first,obj,0,0,0,site⟩]) site next (by simp;omega) (by omega)) [0,82] ?_;rintro r g ⟨rfl,d,rfl⟩;rw[aY,qg];refine wb ?_<;>intros;refine wq (dV n ss (out++[⟨first,obj,0,0,0,site⟩]++genL n (out.length+1) next s.body) site ((next+aF s.body:Nat):Int) ⟨last,obj,0,0,0,0⟩ (by simp;omega)) [0,114] ?_;rintro r g ⟨rfl,rfl⟩;refine wb ?_<;>intros;exact wd a _ [0,1,194] [] ⟨rfl,rfl⟩
def ZU:Nat->List (Nat×Nat):=λi=>if i=3 then [(2,6)] else if i=10 then [(3,8)] else if i=12 then [(3,8)] else if i=15 then [(3,8)] else if i=17 then [(3,8)] else []
theorem EL {β:Type}{z:β}{c:List β}{F:β->β} :∀(a:List β),(a++z::c).modify a.length F=a++F z::c
 | []=>rfl
 |x::a=>by simp only[xu,iR,ZV,EL a]
theorem agt {α β:Type}{g:α->β}{a b:List α}{z:β}{c:List β}{F:β->β} :(a.map g++(b.map g++z::c)).modify (a.length+b.length) F=a.map g++(b.map g++F z::c):=by have:=EL (z:=z) (c:=c) (F:=F) (a.map g++b.map g);simpa [fM] using this
theorem agu {α β:Type}{g:α->β}{a b d:List α}{y z:β}{c:List β}{F:β->β} :(a.map g++(b.map g++y::(d.map g++z::c))).modify (a.length+(b.length+(d.length+1))) F=a.map g++(b.map g++y::(d.map g++F z::c)):=by have:=EL (z:=z) (c:=c) (F:=F) (a.map g++(b.map g++y::d.map g));simpa [fM,lW,Rt,Nat.add_left_comm] using this
attribute [local go_sem] List.append_assoc agt agu
theorem ZW (n:Nat)(e:Ex)(b:List Sm)(hb:GsC n b)(ss:List (Nat×Nat))(out:List In)(site:Int)(next:Nat)(ho:out.length+8 *(aF b)+8<=700)(hn:next+(aF b)<=1000):
 ACall Tryz.prog 144 [.ptr 0 0,rw_ (sF 2 bE bE [] (xX e) (b.map pY) [])] (XD n ss out site next) (λv g=>v= .tup []/\g=F9 n ss (out++(aK site e 2++⟨10,2,((out.length+(aK site e 2).length+1+(genL n (out.length+(aK site e 2).length+1) next b).length:Nat):Int),0,0,site⟩::genL n (out.length+(aK site e 2).length+1) next b)) site ((next+(aF b):Nat):Int)):=by have hlen:=genL_len n (out.length+(aK site e 2).length+1) next b;have d:=jV site e 2;refine wz Tryz.func144 ZU (h:=λR a=>?_);refine wb ?_<;>intros;refine wQ (y9 e n ss out site next 2 (by decide) (by decide) (by omega)) [0,1] ⟨rfl,rfl⟩ ?_;rintro r g ⟨rfl,rfl⟩;refine wb ?_<;>intros;refine wq (dV n ss (out++aK site e 2) site next ⟨10,2,0,0,0,0⟩ (by simp;omega)) [0,162] ?_;rintro r g ⟨rfl,rfl⟩;refine wb ?_<;>intros;refine wq (hb ss (out++aK site e 2++[⟨10,2,0,0,0,site⟩]) site next (by simp;omega) (by omega)) [0,274] ?_;rintro r g ⟨rfl,q,rfl⟩;rw[show (out++aK site e 2++[(⟨10,2,0,0,0,site⟩:In)]).length=out.length+(aK site e 2).length+1 by simp[lW]];refine wb ?_<;>intros;exact wdr a (F9 n ss (out++(aK site e 2++⟨10,2,((out.length+(aK site e 2).length+1+(genL n (out.length+(aK site e 2).length+1) next b).length:Nat):Int),0,0,site⟩::genL n (out.length+(aK site e 2).length+1) next b)) site ((next+aF b:Nat):Int)) [0,1,306] [] ⟨rfl,rfl⟩
theorem acJ (n:Nat)(e:Ex)(b:List Sm)(hb:GsC n b)(ss:List (Nat×Nat))(out:List In)(site:Int)(next:Nat)(ho:out.length+8 *(aF b)+8<=700)(hn:next+(aF b)<=1000):
 ACall Tryz.prog 144 [.ptr 0 0,rw_ (sF 3 bE bE [] (xX e) (b.map pY) [])] (XD n ss out site next) (λv g=>v= .tup []/\g=F9 n ss (out++(aK site e 2++⟨10,2,((out.length+(aK site e 2).length+1+(genL n (out.length+(aK site e 2).length+1) next b).length+1:Nat):Int),0,0,site⟩::(genL n (out.length+(aK site e 2).length+1) next b++[⟨5,(out.length:Int),0,0,0,site⟩]))) site ((next+(aF b):Nat):Int)):=by have hlen:=genL_len n (out.length+(aK site e 2).length+1) next b;have d:=jV site e 2;refine wz Tryz.func144 ZU (h:=λR a=>?_);refine wb ?_<;>intros;refine wQ (y9 e n ss out site next 2 (by decide) (by decide) (by omega)) [0,1] ⟨rfl,rfl⟩ ?_;rintro r g ⟨rfl,rfl⟩;refine wb ?_<;>intros;refine wq (dV n ss (out++aK site e 2) site next ⟨10,2,0,0,0,0⟩ (by simp;omega)) [0,162] ?_;rintro r g ⟨rfl,rfl⟩;refine wb ?_<;>intros;refine wq (hb ss (out++aK site e 2++[⟨10,2,0,0,0,site⟩]) site next (by simp;omega) (by omega)) [0,274] ?_;rintro r g ⟨rfl,q,rfl⟩;rw[show (out++aK site e 2++[(⟨10,2,0,0,0,site⟩:In)]).length=out.length+(aK site e 2).length+1 by simp[lW]];refine wb ?_<;>intros;refine wq (dV n ss (out++aK site e 2++[⟨10,2,0,0,0,site⟩]++genL n (out.length+(aK site e 2).length+1) next b) site ((next+aF b:Nat):Int) ⟨5,out.length,0,0,0,0⟩ (by simp;omega)) [0,306] ?_;rintro r g ⟨rfl,rfl⟩;refine wb ?_<;>intros;exact wdr a (F9 n ss (out++(aK site e 2++⟨10,2,((out.length+(aK site e 2).length+1+(genL n (out.length+(aK site e 2).length+1) next b).length+1:Nat):Int),0,0,site⟩::(genL n (out.length+(aK site e 2).length+1) next b++[⟨5,(out.length:Int),0,0,0,site⟩]))) site ((next+aF b:Nat):Int)) [0,1,402] [] ⟨rfl,rfl⟩
theorem ZX (n:Nat)(e:Ex)(b c:List Sm)(hb:GsC n b)(hc:GsC n c)(ss:List (Nat×Nat))(out:List In)(site:Int)(next:Nat)(ho:out.length+8 *(aF b+aF c)+8<=700)(hn:next+(aF b+aF c)<=1000)(h0:0<c.length):
 ACall Tryz.prog 144 [.ptr 0 0,rw_ (sF 2 bE bE [] (xX e) (b.map pY) (c.map pY))] (XD n ss out site next) (λv g=>v= .tup []/\∃u,g=F9 n ss (out++(aK site e 2++⟨10,2,((out.length+(aK site e 2).length+1+(genL n (out.length+(aK site e 2).length+1) next b).length+1:Nat):Int),0,0,site⟩::(genL n (out.length+(aK site e 2).length+1) next b++⟨5,((out.length+(aK site e 2).length+1+(genL n (out.length+(aK site e 2).length+1) next b).length+1+(genL n (out.length+(aK site e 2).length+1+(genL n (out.length+(aK site e 2).length+1) next b).length+1) (next+aF b) c).length:Nat):Int),0,0,0,site⟩::genL n (out.length+(aK site e 2).length+1+(genL n (out.length+(aK site e 2).length+1) next b).length+1) (next+aF b) c))) u ((next+(aF b+aF c):Nat):Int)):=by have hlen:=genL_len n (out.length+(aK site e 2).length+1) next b;have D:=jV site e 2;refine wz Tryz.func144 ZU (h:=λR y=>?_);refine wb ?_<;>intros;refine wQ (y9 e n ss out site next 2 (by decide) (by decide) (by omega)) [0,1] ⟨rfl,rfl⟩ ?_;rintro r g ⟨rfl,rfl⟩;refine wb ?_<;>intros;refine wq (dV n ss (out++aK site e 2) site next ⟨10,2,0,0,0,0⟩ (by simp;omega)) [0,162] ?_;rintro r g ⟨rfl,rfl⟩;refine wb ?_<;>intros;refine wq (hb ss (out++aK site e 2++[⟨10,2,0,0,0,site⟩]) site next (by simp;omega) (by omega)) [0,274] ?_;rintro r g ⟨rfl,u,rfl⟩;rw[show (out++aK site e 2++[(⟨10,2,0,0,0,site⟩:In)]).length=out.length+(aK site e 2).length+1 by simp[lW]];refine wb ?_<;>intros;refine wq (dV n ss (out++aK site e 2++[⟨10,2,0,0,0,site⟩]++genL n (out.length+(aK site e 2).length+1) next b) site ((next+aF b:Nat):Int) ⟨5,0,0,0,0,0⟩ (by simp;omega)) [0,306] ?_;rintro r g ⟨rfl,rfl⟩;refine wb ?_<;>intros;have a:(out++(aK site e 2++(⟨10,2,((out.length+((aK site e 2).length+((genL n (out.length+(aK site e 2).length+1) next b).length+1+1)):Nat):Int),0,0,site⟩:In)::(genL n (out.length+(aK site e 2).length+1) next b++[⟨5,0,0,0,0,site⟩]))).length=out.length+(aK site e 2).length+1+(genL n (out.length+(aK site e 2).length+1) next b).length+1:=(by simp[lW,Rt,Nat.add_left_comm]);refine wq (hc ss (out++(aK site e 2++(⟨10,2,((out.length+((aK site e 2).length+((genL n (out.length+(aK site e 2).length+1) next b).length+1+1)):Nat):Int),0,0,site⟩:In)::(genL n (out.length+(aK site e 2).length+1) next b++[⟨5,0,0,0,0,site⟩]))) site (next+aF b) (by rw[a];omega) (by omega)) [0,474] ?_;rintro r g ⟨rfl,d,rfl⟩;rw[a];have q:=genL_len n (out.length+(aK site e 2).length+1+(genL n (out.length+(aK site e 2).length+1) next b).length+1) (next+aF b) c;refine wb ?_<;>intros;have B:out.length+(aK site e 2).length+1+(genL n (out.length+(aK site e 2).length+1) next b).length+1=out.length+((aK site e 2).length+((genL n (out.length+(aK site e 2).length+1) next b).length+1+1)):=(by omega);rw[show ((next+(aF b+aF c):Nat):Int)=((next+aF b+aF c:Nat):Int) by omega,B] at y;exact wd y _ [0,1,610] [] ⟨rfl,d,rfl⟩
end AM
namespace AM
open Go Go.Proofs Mk
set_option maxRecDepth 20000
set_option maxHeartbeats 8000000
def qF:Nat->List (Nat×Nat):=λi=>if i=11 then [(1,6),(1,8),(6,8),(1,9)] else if i=13 then [(1,6),(1,8),(6,8),(1,9)] else if i=15 then [(1,6),(1,8),(6,8),(1,9)] else if i=27 then [(5,7)] else if i=29 then [(5,7)] else if i=32 then [(5,7)] else if i=34 then [(4,6),(4,12),(6,12),(7,12),(4,14),(6,14),(7,14),(12,14)] else []
theorem aa2 (n:Nat)(q:n<=4)(s:Sm)(hb:GsC n s.body)(hc:GsC n s.els):GtC n s:=by
 intro ss out site next ho hn;have d:=lJ s;have A:=Wl n s hb;rcases s with ⟨k,e⟩|⟨i,e⟩|⟨e,b,_|⟨c,cr⟩⟩|⟨e,b⟩|⟨k,b⟩|b|b|k|k|_|e|_
 all_goals
  simp only[Sm.op,Sm.name,Sm.arg,Sm.index,Sm.ex,Sm.body,Sm.els,Qg,pW,kD,genS,aF,fK] at ho hn hb hc d A|-
 . refine wz Tryz.func109 qF (h:=λR a=>?_);refine wb ?_<;>intros;refine wq (TL k e n ss out next ((next+1:Nat):Int) (by omega)) [0,1] ?_;rintro r g ⟨rfl,rfl⟩;refine wb ?_<;>intros;exact wd a _ [0,1,234] [] ⟨rfl,(next:Int),rfl⟩
 . refine wz Tryz.func109 qF (h:=λR a=>?_);refine wb ?_<;>intros;refine wq (TM i e n ss out next ((next+1:Nat):Int) (by omega)) [0,1] ?_;rintro r g ⟨rfl,rfl⟩;refine wb ?_<;>intros;exact wd a _ [0,1,234] [] ⟨rfl,(next:Int),rfl⟩
 . refine wz Tryz.func109 qF (h:=λR a=>?_);refine wb ?_<;>intros;refine wq (ZW n e b hb ss out next (next+1) (by omega) (by omega)) [0,1] ?_;rintro r g ⟨rfl,rfl⟩;refine wb ?_<;>intros;exact wd a _ [0,1,250] [] ⟨rfl,(next:Int),rfl⟩
 . refine wz Tryz.func109 qF (h:=λR a=>?_);refine wb ?_<;>intros;refine wq (ZX n e b (c::cr) hb hc ss out next (next+1) (by simp only[aF];omega) (by simp only[aF];omega) (by simp)) [0,1] ?_;rintro r g ⟨rfl,u,rfl⟩;rw[show next+(1+aF b+(fK c+aF cr))=next+1+(aF b+aF (c::cr)) by simp only[aF];omega] at a;refine wb ?_<;>intros;exact wd a _ [0,1,250] [] ⟨rfl,u,rfl⟩
 . refine wz Tryz.func109 qF (h:=λR a=>?_);refine wb ?_<;>intros;refine wq (acJ n e b hb ss out next (next+1) (by omega) (by omega)) [0,1] ?_;rintro r g ⟨rfl,rfl⟩;rw[show next+(1+aF b)=next+1+aF b by omega] at a;refine wb ?_<;>intros;exact wd a _ [0,1,266] [] ⟨rfl,(next:Int),rfl⟩
 . cases k
   all_goals
    simp only[Bk.fst,Bk.obj];refine wz Tryz.func109 qF (h:=λR a=>?_);refine wb ?_<;>intros
   . refine wE (yT Qm ⟨#[109]⟩ 0 (by decide) rfl) ?_;refine wb ?_<;>intros;refine wQ (A 11 12 0 ss out next (next+1) (by omega) (by omega)) [0,1] ⟨rfl,rfl⟩ ?_;rintro r g ⟨rfl,rfl⟩;rw[show next+(1+aF b)=next+1+aF b by omega] at a;refine wb ?_<;>intros;exact wd a _ [0,1,346] [] ⟨rfl,(next:Int),rfl⟩
   . refine wE (yT Qm ⟨#[110]⟩ 1 (by decide) rfl) ?_;refine wb ?_<;>intros;refine wQ (A 11 12 1 ss out next (next+1) (by omega) (by omega)) [0,1] ⟨rfl,rfl⟩ ?_;rintro r g ⟨rfl,rfl⟩;rw[show next+(1+aF b)=next+1+aF b by omega] at a;refine wb ?_<;>intros;exact wd a _ [0,1,346] [] ⟨rfl,(next:Int),rfl⟩
   . refine wE (yT Qm ⟨#[114]⟩ 2 (by decide) rfl) ?_;refine wb ?_<;>intros;refine wQ (A 13 14 2 ss out next (next+1) (by omega) (by omega)) [0,1] ⟨rfl,rfl⟩ ?_;rintro r g ⟨rfl,rfl⟩;rw[show next+(1+aF b)=next+1+aF b by omega] at a;refine wb ?_<;>intros;exact wd a _ [0,1,362] [] ⟨rfl,(next:Int),rfl⟩
   . refine wE (yT Qm ⟨#[114]⟩ 2 (by decide) rfl) ?_;refine wb ?_<;>intros;refine wQ (A 15 16 2 ss out next (next+1) (by omega) (by omega)) [0,1] ⟨rfl,rfl⟩ ?_;rintro r g ⟨rfl,rfl⟩;rw[show next+(1+aF b)=next+1+aF b by omega] at a;refine wb ?_<;>intros;exact wd a _ [0,1,378] [] ⟨rfl,(next:Int),rfl⟩
 . refine wz Tryz.func109 qF (h:=λR a=>?_);refine wb ?_<;>intros;refine wq (A 17 18 0 ss out next (next+1) (by omega) (by omega)) [0,1] ?_;rintro r g ⟨rfl,rfl⟩;rw[show next+(1+aF b)=next+1+aF b by omega] at a;refine wb ?_<;>intros;exact wd a _ [0,1,330] [] ⟨rfl,(next:Int),rfl⟩
 . refine wz Tryz.func109 qF (h:=λR a=>?_);refine wb ?_<;>intros;refine wq (A 19 20 0 ss out next (next+1) (by omega) (by omega)) [0,1] ?_;rintro r g ⟨rfl,rfl⟩;rw[show next+(1+aF b)=next+1+aF b by omega] at a;refine wb ?_<;>intros;exact wd a _ [0,1,346] [] ⟨rfl,(next:Int),rfl⟩
 . cases k
   all_goals
    simp only[Sg.op];refine wz Tryz.func109 qF (h:=λR a=>?_);refine wb ?_<;>intros;refine wq (ahz n ss out next ((next+1:Nat):Int) ⟨#[99]⟩ 0 rfl) [0,1] ?_;rintro r g ⟨rfl,rfl⟩;refine wb ?_<;>intros
   . refine wq (dV n ss out next ((next+1:Nat):Int) ⟨21,0,0,0,0,0⟩ (by omega)) [0,1] ?_;rintro r g ⟨rfl,rfl⟩;refine wb ?_<;>intros;exact wd a _ [0,1,394] [] ⟨rfl,(next:Int),rfl⟩
   . refine wq (dV n ss out next ((next+1:Nat):Int) ⟨22,0,0,0,0,0⟩ (by omega)) [0,1] ?_;rintro r g ⟨rfl,rfl⟩;refine wb ?_<;>intros;exact wd a _ [0,1,410] [] ⟨rfl,(next:Int),rfl⟩
   . refine wq (dV n ss out next ((next+1:Nat):Int) ⟨23,0,0,0,0,0⟩ (by omega)) [0,1] ?_;rintro r g ⟨rfl,rfl⟩;refine wb ?_<;>intros;exact wd a _ [0,1,426] [] ⟨rfl,(next:Int),rfl⟩
 . refine wz Tryz.func109 qF (h:=λR a=>?_);refine wb ?_<;>intros;refine wE (sK (thNames n) (aS k) _ (by simp[thNames];omega) rfl) ?_;refine wb ?_<;>intros;refine wQ (dV n ss out next ((next+1:Nat):Int) ⟨24,jd (thNames n) (aS k),0,0,0,0⟩ (by omega)) [0,1] ⟨rfl,rfl⟩ ?_;rintro r g ⟨rfl,rfl⟩;refine wb ?_<;>intros;exact wd a _ [0,1,474] [] ⟨rfl,(next:Int),rfl⟩
 . refine wz Tryz.func109 qF (h:=λR a=>?_);refine wb ?_<;>intros;refine wE (sK (thNames n) (aS 1) _ (by simp[thNames];omega) rfl) ?_;refine wb ?_<;>intros;refine wQ (dV n ss out next ((next+1:Nat):Int) ⟨25,jd (thNames n) (aS 1),0,0,0,0⟩ (by omega)) [0,1] ⟨rfl,rfl⟩ ?_;rintro r g ⟨rfl,rfl⟩;refine wb ?_<;>intros;exact wd a _ [0,1,490] [] ⟨rfl,(next:Int),rfl⟩
 . refine wz Tryz.func109 qF (h:=λR a=>?_);refine wb ?_<;>intros;refine wq (y9 e n ss out next ((next+1:Nat):Int) 2 (by decide) (by decide) (by omega)) [0,1] ?_;rintro r g ⟨rfl,rfl⟩;refine wb ?_<;>intros;refine wE (sK XF ⟨#[102]⟩ 0 (by decide) rfl) ?_;refine wb ?_<;>intros;have y:=jV next e 2;refine wQ (dV n ss (out++aK next e 2) next ((next+1:Nat):Int) ⟨26,0,2,0,0,0⟩ (by simp;omega)) [0,458] ⟨rfl,rfl⟩ ?_;rintro r g ⟨rfl,rfl⟩;refine wb ?_<;>intros;exact wd a _ [0,1,554] [] ⟨rfl,(next:Int),rfl⟩
 . refine wz Tryz.func109 qF (h:=λR a=>?_);refine wb ?_<;>intros;refine wE (sK bK ⟨#[97]⟩ 0 (by decide) rfl) ?_;refine wb ?_<;>intros;refine wE (sK XF ⟨#[102]⟩ 0 (by decide) rfl) ?_;refine wb ?_<;>intros;refine wQ (dV n ss out next ((next+1:Nat):Int) ⟨27,0,0,0,0,0⟩ (by omega)) [0,1] ⟨rfl,rfl⟩ ?_;rintro r g ⟨rfl,rfl⟩;refine wb ?_<;>intros;exact wd a _ [0,1,578] [] ⟨rfl,(next:Int),rfl⟩
set_option maxRecDepth 20000
set_option maxHeartbeats 8000000
theorem Vq:∀(l:List Sm) (s:Sm),s∈l->fK s<=aF l
 |
  x::r,s,h=>by
  simp only[aF]
  rcases fV.1 h with rfl|h
  . omega
  . have:=Vq r s h;omega
theorem Me (n:Nat)(a:n<=4):∀(m:Nat) (l:List Sm),aF l<m->GsC n l
 |0,l,h=>by omega
 |
  m+1,l,h=>Wj n l (λs hs=>by
  have h1:=Vq l s hs
  have h2:=lJ s
  exact aa2 n a s (Me n a m s.body (by omega)) (Me n a m s.els (by omega)))
def MW (t n c:Nat):List (Nat×Nat):=(List.range c).map λk=>(t,n+k)
theorem MH (t n a b:Nat):MW t n (a+b)=MW t n a++MW t (n+a) b:=by unfold MW;rw[List.range_add,fF,wW];congr 1;apply Tn;intro k _;simp[lW]
@[go_sem] theorem MI {t n c:Nat} :(MW t n c).length=c:=by simp[MW]
theorem adT (t n:Nat):MW t n 1=[(t,n)]:=rfl
abbrev siO (l:List (Nat×Nat)):Obj:= .row 154 3 (l.map XG)
def ar9 (l:List Sm):Prop:=∀(so:List (Nat×Nat)) (t n:Nat),so.length+aF l<=1000->n+aF l<=1000->ACall Tryz.prog 108 [.own 0 so.length,.pv (ah t),.pv (ah n),.pv (UN l)] [siO so] (λv g=>v= .tup [.own 1 (so.length+aF l),.pv (ah ((n+aF l:Nat):Int))]/\g=[none,some (siO (so++MW t n (aF l)))])
theorem Au:∀(m:Nat) (l:List Sm),aF l<m->ar9 l
 |0,l,h=>by omega
 |
  m+1,l,h=>by
  intro so t n B hn
  have hc:=yC l
  refine wz Tryz.func108 (λ_=> []) (h:=λR E=>?_)
  refine wb ?_<;>intros
  refine wl (λu:Nat×List (Nat×Nat)×Nat=> [(0,.own 1 u.2.1.length),(1,.pv (ah t)),(2,.pv (ah u.2.2)),(3,.pv (UN l)),(10,.pv (ah u.1))]) (λu=> [none,some (siO u.2.1)]) (λu=>u.1<=l.length/\u.2.1++MW t u.2.2 (aF (l.drop u.1))=so++MW t n (aF l)/\u.2.2+aF (l.drop u.1)=n+aF l/\u.2.1.length+aF (l.drop u.1)<=1000) (λu=>l.length-u.1) (0,so,n) ⟨ay _,rfl,rfl,B⟩ (vm [0,0]) (λ⟨i,o,k⟩ ⟨hi,d,hk,a⟩=>?_)
  dsimp only at hi d hk a
  refine wb (A2.mk ?_ ?_)<;>intros
  . have h2:i<l.length:=by omega
    have q:=Aj l i
    rw[nM h2] at d hk a q
    generalize hx:l[i]=x at d hk a q
    simp only[aF,lJ] at d hk a q
    refine aJ (x:=x) (by omega) (by simp[h2,hx]) (oU _) ?_
    rw[fH]
    refine wb ?_<;>intros
    refine aJ (x:=x) (by omega) (by simp[h2,hx]) (oU _) ?_
    rw[fH]
    refine wb ?_<;>intros
    refine wq (Au m x.body (by omega) (o++[(t,k)]) t (k+1) (by simp;omega) (by omega)) [114] ?_
    rintro r g ⟨rfl,rfl⟩
    refine wb ?_<;>intros
    refine aJ (x:=x) (by omega) (by simp[h2,hx]) (oU _) ?_
    rw[fH]
    refine wb ?_<;>intros
    refine wq (Au m x.els (by omega) (o++[(t,k)]++MW t (k+1) (aF x.body)) t (k+1+aF x.body) (by simp[MW];omega) (by omega)) [218] ?_
    rintro r g ⟨rfl,rfl⟩
    refine wb ?_<;>intros
    refine aj ⟨(i+1,o++[(t,k)]++MW t (k+1) (aF x.body)++MW t (k+1+aF x.body) (aF x.els),k+1+aF x.body+aF x.els),⟨h2,?_,by dsimp only;omega,by simp[MI];omega⟩,by dsimp only;omega,vm [0,330]⟩
    rw[<-d,MH,MH,MH,adT]
    simp[fM,lW]
  . rw[jK (by omega)] at d hk
    simp only[aF,rQ] at d hk
    have y:o=so++MW t n (aF l):=by rw[<-d];simp[MW]
    have D:o.length=so.length+aF l:=by rw[y];simp[MI]
    rw[<-y,<-hk,<-D] at E
    exact wo E _ _ [0,1] [] ⟨rfl,rfl⟩
set_option maxRecDepth 20000
set_option maxHeartbeats 8000000
abbrev lkO (l:List (ByteArray×Bool)):Obj:= .row 147 2 (l.map Qn)
theorem ad1 (l:List (ByteArray×Bool))(s:ByteArray)(r:Int)(d:l.length<=1000)(h:jd (l.map (·.1)) s=r):ACall Tryz.prog 107 [.own 0 l.length,.pv (dJ s)] [lkO l] (λv g=>v= .pv (ah r)/\g=[some (lkO l)]):=by
 subst h;refine wz Tryz.func107 (λ_=> []) (h:=λR a=>?_);refine wb ?_<;>intros;refine wl (λi:Nat=> [(0,.own 0 l.length),(1,.pv (dJ s)),(5,.pv (ah i))]) (λ_=> [some (lkO l)]) (λi=>i<=l.length/\jd (l.map (·.1)) s=gu s i ((l.map (·.1)).drop i)) (λi=>l.length-i) 0 ⟨ay _,rfl⟩ (vm [0]) (λi ⟨hi,ha⟩=>?_);refine wb (A2.mk ?_ ?_)<;>intros
 . have h2:i<l.length:=(by omega);refine JK (x:=Qn l[i]) (by simp[h2]) rfl ?_;refine wb (A2.mk ?_ ?_)<;>intros
   . exact wo a (.pv (ah i)) _ [0] [] ⟨by rw[at_hit (i:=i) (by simpa using h2) (by simpa using ‹l[i].1=s›) ha],rfl⟩
   . exact aj ⟨i+1,⟨h2,oQ (i:=i) (by simpa using h2) (by simpa using ‹_›) ha⟩,by omega,vm [0]⟩
 . exact wo a (.pv (ah (-1))) _ [0] [] ⟨by rw[uq (i:=i) (by simp;omega) ha],rfl⟩
theorem BM:∀(l:List (List Sm)) (t i:Nat) (h:i<l.length),dR t (l.take (i+1))=dR t (l.take i)++MW (t+i) 0 (aF l[i])
 |b::r,t,0,_=>by simp[dR,DK,MW]
 |
  b::r,t,i+1,h=>by
  have:=BM r (t+1) i (by simpa using h)
  simp only[LJ,dR,this,fM,TF]
  rw[show t+1+i=t+(i+1) by omega]
def asn:Nat->List (Nat×Nat):=λi=>if i=21 then [(1,3),(1,5),(3,5),(1,7),(3,7),(5,7),(1,8),(3,8)] else if i=25 then [(1,3),(1,5),(1,7)] else if i=26 then [(1,4),(1,6),(1,8)] else []
attribute [local go_sem] List.set_cons_zero List.set_cons_succ thNames_len
theorem abr (bs:List (List Sm))(a:PgOk bs)(d:qf bs=0):FnEq Tryz.prog 69 [rw_ (Bi bs)] (rw_ (qL bs.length (dR 0 bs))):=by have h4:=a.n4;have q:=(xO d).1;refine wf Tryz.func69 asn (h:=λR u=>?_);refine wb ?_<;>intros;refine wE a.check ?_;rw[d];refine wb ?_<;>intros;refine wn 10 ?_;refine wb ?_;refine az (by omega) rfl rfl ?_;refine wb ?_;refine w2 ?_;refine wb ?_;refine az (by omega) rfl rfl ?_;refine wb ?_;refine w2 ?_;refine wb ?_;refine az (by omega) rfl rfl ?_;refine wb ?_;refine w2 ?_;refine wb ?_;refine az (by omega) rfl rfl ?_;refine wb ?_;refine w3 ?_;refine wb ?_;refine az (by omega) rfl rfl ?_;refine wb ?_;refine az (by omega) rfl rfl ?_;refine wb ?_;refine az (by omega) rfl rfl ?_;refine wb ?_;refine az (by omega) rfl rfl ?_;refine wb ?_;refine wQ (ad1 Qm ⟨#[109]⟩ 0 (by decide) rfl) [2728] ⟨rfl,rfl⟩ ?_;rintro r g ⟨rfl,rfl⟩;refine wb ?_;refine az (by omega) rfl rfl ?_;refine wb ?_;refine dI 16 4 9 1 rfl rfl ?_;refine dI 16 5 154 3 rfl rfl ?_;refine wl (λi:Nat=> [(1,.ptr 0 0),(2,.ptr 1 0),(3,.ptr 2 0),(9,.pv (ah i))]) (λi=> [some (.box ((Bi bs).map .pv)),some (.box [.emp,.emp,.emp,.emp,.emp,.emp]),some (.box [.own 3 5,.own 4 3,.own 5 1,.own 6 1,.own 7 i,.own 8 (dR 0 (bs.take i)).length]),some (.row 144 5 (Qd.map CeR.r)),some (lkO Qm),some (.row 150 2 (Qe.map XE)),some (Kz XF),some (Kz (thNames i)),some (siO (dR 0 (bs.take i)))]) (λi=>i<=bs.length) (λi=>bs.length-i) 0 (ay _) (vm [0,8,16,1808,2728,3056,3336,3432,3433] (hO:=by refine ws ?_;and_intros<;>rfl)) (λi hi=>?_);refine wb (A2.mk ?_ ?_)<;>intros;have h2:i<bs.length:=(by omega);refine aJ (x:=(bs[i],i)) (by omega) (by simp<;>omega) rfl ?_;refine wb ?_<;>intros;refine aJ (x:=(bs[i],i)) (by omega) (by simp<;>omega) rfl ?_;refine wb ?_<;>intros;have hle:=vN bs (i+1);have y:=vP bs i h2;have B:=Ag (bs.take i) 0;refine wQ (Au (aF bs[i]+1) bs[i] (by omega) (dR 0 (bs.take i)) i 0 (by omega) (by omega)) [8] ⟨rfl,rfl⟩ ?_;rintro r g ⟨rfl,rfl⟩;refine wb ?_<;>intros;have e1:=BM bs 0 i h2;rw[eX] at e1;have D:thNames (i+1)=thNames i++[aS i]:=(by simp[thNames,SQ]);exact aj ⟨i+1,by omega,by omega,vm [0,1,2,3,4,5,6,121,217] (hO:=by refine ws ?_;rw[e1,D];simp[MI])⟩;obtain rfl:i=bs.length:=(by omega);rw[rX];exact wr u [(3,none),(4,none),(5,none),(6,none),(7,none),(8,none)]
