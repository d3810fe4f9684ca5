/- Words. -/
import Derived.Test.YtfbkkgfkhhibfaaGreatFzj
import Derived.Test.YtfbkkgfkhhibfaaGreatTg
set_option linter.unusedVariables false
set_option linter.unusedSimpArgs false
namespace AM
open Go Go.Proofs Mk
set_option maxRecDepth 20000
abbrev jm (ss:List ByteArray):List (List PV):=ss.map λs=> [dP s]
theorem aeg (ss:List ByteArray)(s:ByteArray)(d:ss.length<=1000000):FnEq Tryz.prog 94 [.pv (.sl (jm ss)),.pv (dP s)] (.pv (ah (jl ss s))):=by
 refine wf Tryz.func94 (λ_=> []) (h:=λR a=>?_);refine wb ?_<;>intros;refine wl (λi:Nat=> [(0,.pv (.sl (jm ss))),(1,.pv (dP s)),(5,.pv (ah i))]) (λ_=> []) (λi=>i<=ss.length/\jl ss s=gK s i (ss.drop i)) (λi=>ss.length-i) 0 ⟨ay _,rfl⟩ (vm []) (λi ⟨hi,ha⟩=>?_);refine wb (A2.mk ?_ ?_)<;>intros
 . have h2:i<ss.length:=(by omega);refine aN (x:=ss[i]) (zO _) (by simp[h2]) rfl ?_;refine wb (A2.mk ?_ ?_)<;>intros
   . rw[Mk.at_hit h2 ‹_› ha] at a;exact wr a
   . exact ak ⟨i+1,⟨h2,pM h2 ‹_› ha⟩,by omega,vm []⟩
 . rw[uH (by omega) ha] at a;exact wr a
theorem RV (ss:List ByteArray)(s:ByteArray)(d:ss.length<=1000000):ACall Tryz.prog 94 [.own 0 ss.length,.pv (dP s)] [.row 9 1 (jm ss)] (λv g=>v= .pv (ah (jl ss s))/\g=[some (.row 9 1 (jm ss))]):=by
 refine wz Tryz.func94 (λ_=> []) (h:=λR a=>?_);refine wb ?_<;>intros;refine wl (λi:Nat=> [(0,.own 0 ss.length),(1,.pv (dP s)),(5,.pv (ah i))]) (λ_=> [some (.row 9 1 (jm ss))]) (λi=>i<=ss.length/\jl ss s=gK s i (ss.drop i)) (λi=>ss.length-i) 0 ⟨ay _,rfl⟩ (vm [0]) (λi ⟨hi,ha⟩=>?_);refine wb (A2.mk ?_ ?_)<;>intros
 . have h2:i<ss.length:=(by omega);refine JO (x:=[dP ss[i]]) (by simp[h2]) rfl ?_;refine wb (A2.mk ?_ ?_)<;>intros
   . refine wo a (.pv (ah i)) [some (.row 9 1 (jm ss))] [0] [] ?_;exact⟨by rw[Mk.at_hit h2 ‹_› ha],rfl⟩
   . exact ak ⟨i+1,⟨h2,pM h2 ‹_› ha⟩,by omega,vm [0]⟩
 . refine wo a (.pv (ah (-1))) [some (.row 9 1 (jm ss))] [0] [] ?_;exact⟨by rw[uH (by omega) ha],rfl⟩
theorem uI (xs:List UInt8)(k:Nat)(m:MS)(s:ByteArray)(hm:m.held.length<=1000000):ACall Tryz.prog 151 [.ptr 0 0,.pv (dP s)] (m.os xs k) (λv g=>(∃b,v= .pv (boolP b))/\g=(m.os xs k).map some):=by refine wz Tryz.func151 (λ_=> []) (h:=λR a=>?_);refine wb ?_<;>intros;refine wq (RV m.held s hm) [2] ?_;rintro r g ⟨rfl,rfl⟩;refine wb ?_<;>intros;refine wo a (.pv (boolP (decide (0<=jl m.held s)))) ((m.os xs k).map some) [0,1,2] [] ?_;exact⟨⟨_,rfl⟩,rfl⟩
set_option maxRecDepth 20000
theorem ACall.post {P:Program}{f:FuncId}{vs:List AV}{pre:List Obj}{p q:AV->List (Option Obj)->Prop}(h:ACall P f vs pre p)(y:∀v g,p v g->q v g):ACall P f vs pre q:=λfr Ψ loc w xs a b c d=>
 (h fr Ψ loc w xs a b c d).mono λe w' ⟨r,v,g,Ψ',u,h1,h2,h3⟩=>⟨r,v,g,Ψ',u,h1,y _ _ h2,h3⟩
def lfE (l:Lf):ER:=⟨l.op,l.n,l.name,[]⟩
def zk (l:Lf):List PV:=(lfE l).r
def yg (e:Ex):ER:=⟨e.op,e.n,e.name,e.kids.map zk⟩
theorem LfR.of {e:ER}(h:LfR e):∃l,e=lfE l:=by
 cases h with
 |@num n h=>exact ⟨.num ⟨n,h⟩,rfl⟩
 |
  @var s h=>
  simp only[gJ,mG,or_false] at h;rcases h with rfl|rfl|rfl|rfl|rfl;exact⟨.var .a,rfl⟩;exact⟨.var .b,rfl⟩;exact⟨.var .x,rfl⟩;exact⟨.var .y,rfl⟩;exact⟨.var .v,rfl⟩
theorem ExR.of {e:ER}(h:ExR e):∃x,e=yg x:=by
 cases h with
 |leaf h=>obtain ⟨l,rfl⟩:=h.of;exact⟨.leaf l,by cases l<;>rfl⟩
 |idx h=>obtain ⟨l,rfl⟩:=h.of;exact⟨.idx l,rfl⟩
 |
  bin ho ha hb=>
  obtain⟨l,rfl⟩:=ha.of;obtain⟨r,rfl⟩:=hb.of;simp only[gJ,mG,or_false] at ho;rcases ho with rfl|rfl|rfl|rfl|rfl|rfl;exact⟨.bin 0 l r,rfl⟩;exact⟨.bin 1 l r,rfl⟩;exact⟨.bin 2 l r,rfl⟩;exact⟨.bin 3 l r,rfl⟩;exact⟨.bin 4 l r,rfl⟩;exact⟨.bin 5 l r,rfl⟩
@[go_sem] def tq (op:Int)(name arg:ByteArray)(ix:List (List PV))(e:ER)(b c:List (List PV)):List PV:=[ah op,ah 0,dP name,dP arg,.sl ix,ah e.op,ah e.n,dP e.s,.sl e.l,.sl b,.sl c]
def Qx:Option Ex->ER
 |some e=>yg e
 |none=>⟨0,0,bE,[]⟩
mutual
def qx:Sm->List PV
 | .ite e b c=>tq 2 bE bE [] (yg e) (J9 b) (J9 c)
 | .whl e b=>tq 3 bE bE [] (yg e) (J9 b) []
 | .blk k b=>tq (Sm.op (.blk k [])) (Sm.name (.blk k [])) bE [] (Qx none) (J9 b) []
 | .tx b=>tq 7 bE bE [] (Qx none) (J9 b) []
 | .atm b=>tq 8 bE bE [] (Qx none) (J9 b) []
 |s=>tq s.op s.name s.arg (s.index.map zk) (Qx s.ex) [] []
def J9:List Sm->List (List PV)
 | []=> []
 |s::r=>qx s::J9 r
end
theorem OM:∀l,J9 l=l.map qx
 | []=>rfl
 |s::r=>by simp only[J9,kM,OM r]
theorem fU (s:Sm):qx s=tq s.op s.name s.arg (s.index.map zk) (Qx s.ex) (s.body.map qx) (s.els.map qx):=by cases s<;>simp only[qx,OM]<;>first|rfl|(rename_i k b;cases k<;>rfl)|skip
@[go_sem] theorem pR (s:Sm):(qx s).length=11:=by rw[fU];rfl
def SmD:Nat->Sm->Prop
 |0,s=>s.body=[]/\s.els=[]
 |d+1,s=>(s.body.length<=10/\∀x∈s.body,SmD d x)/\s.els.length<=10/\∀x∈s.els,SmD d x
theorem nO (s:ByteArray)(e:ER):FnEq Tryz.prog 76 [.pv (dP s),rw_ e.r] (rw_ (tq 1 s bE [] e [] [])):=by refine wf Tryz.func76 (λ_=> []) (h:=λR a=>?_);refine wb ?_<;>intros;all_goals exact wr a
set_option maxRecDepth 20000
def StC (xs:List UInt8)(d:Nat):Prop:=∀(k:Nat) (m:MS),k<=xs.length->m.held.length+d<=100->ACall Tryz.prog 110 [.ptr 0 0,.pv (ah d)] (m.os xs k) (λv g=>∃(s:Sm) (m':MS) (k':Nat),SmD d s/\m'.held=m.held/\k'<=xs.length/\v=rw_ (qx s)/\g=m'.og xs k')
abbrev ZW (l:List Sm):Obj:= .row 196 11 (l.map qx)
def SsC (xs:List UInt8)(d:Nat):Prop:=∀(k:Nat) (m:MS) (n:Nat),k<=xs.length->m.held.length+d<=100->n<=10->ACall Tryz.prog 75 [.ptr 0 0,.pv (ah d),.pv (ah n)] (m.os xs k) (λv g=>∃(l:List Sm) (m':MS) (k':Nat),l.length<=n/\(∀s∈l,SmD d s)/\m'.held=m.held/\k'<=xs.length/\v= .own 4 l.length/\g=m'.og xs k'++[some (ZW l)])
theorem aaB (xs:List UInt8)(d:Nat)(q:StC xs d):SsC xs d:=by
 intro k m n hk hm hn;refine wz Tryz.func75 (λ_=> []) (h:=λR u=>?_);refine wb ?_<;>intros;refine lI 7 196 11 (by exact we) ?_;refine wl (λt:Nat×List Sm×MS×Nat=> [(0,.ptr 0 0),(1,.pv (ah d)),(2,.pv (ah n)),(7,.own 4 t.2.1.length),(8,.pv (ah t.1))]) (λt=>t.2.2.1.og xs t.2.2.2++[some (ZW t.2.1)]) (λt=>t.1<=n/\t.2.1.length=t.1/\(∀s∈t.2.1,SmD d s)/\t.2.2.1.held=m.held/\t.2.2.2<=xs.length) (λt=>n-t.1) (0,[],m,k) ⟨ay _,rfl,by simp,rfl,hk⟩ (vm [0,1,2,2,27]) (λ⟨i,l,m1,a⟩ ⟨h1,h2,h3,h4,h5⟩=>?_);dsimp only at h1 h2 h3 h4 h5;refine wb (A2.mk ?_ (A2.mk ?_ (A2.mk ?_ ?_)))<;>intros
 any_goals
  have G:l.length<=9:=(by omega);refine wq (q a m1 h5 (by rw[h4];exact hm)) [0,1,3] ?_;rintro r g ⟨s,m2,y,B,D,E,rfl,rfl⟩;refine wb ?_<;>intros;refine ak ⟨(i+1,l++[s],m2,y),⟨by omega,by simp[h2],λx hx=>?_,by rw[D,h4],E⟩,by omega,vm [0,1,2,141,157]⟩;rcases jh.1 hx with hx|hx;exact h3 x hx;rw[lZ.1 hx];exact B
 all_goals
  refine wo u (.own 4 l.length) (m1.og xs a++[some (ZW l)]) [0,1,2,3,4] [] ?_;exact⟨l,m1,a,by omega,h3,h4,h5,rfl,rfl⟩
def SsZ (xs:List UInt8)(d:Nat):Prop:=∀(k:Nat) (m:MS) (n:Nat),k<=xs.length->m.held.length+d<=100->n<=10->ACall Tryz.prog 75 [.ptr 0 0,.pv (ah d),.pv (ah n)] (m.os xs k) (λv g=>∃(l:List Sm) (m':MS) (k':Nat),l.length<=n/\(∀s∈l,SmD d s)/\m'.held=m.held/\k'<=xs.length/\v= .pv (.sl (l.map qx))/\g=m'.og xs k')
theorem aaC (xs:List UInt8)(d:Nat)(q:StC xs d):SsZ xs d:=by
 intro k m n hk hm hn;refine wz Tryz.func75 (λ_=> []) (h:=λR u=>?_);refine wb ?_<;>intros;refine lI 7 196 11 (by exact we) ?_;refine wl (λt:Nat×List Sm×MS×Nat=> [(0,.ptr 0 0),(1,.pv (ah d)),(2,.pv (ah n)),(7,.own 4 t.2.1.length),(8,.pv (ah t.1))]) (λt=>t.2.2.1.og xs t.2.2.2++[some (ZW t.2.1)]) (λt=>t.1<=n/\t.2.1.length=t.1/\(∀s∈t.2.1,SmD d s)/\t.2.2.1.held=m.held/\t.2.2.2<=xs.length) (λt=>n-t.1) (0,[],m,k) ⟨ay _,rfl,by simp,rfl,hk⟩ (vm [0,1,2,2,27]) (λ⟨i,l,m1,a⟩ ⟨h1,h2,h3,h4,h5⟩=>?_);dsimp only at h1 h2 h3 h4 h5;refine wb (A2.mk ?_ (A2.mk ?_ (A2.mk ?_ ?_)))<;>intros
 any_goals
  have G:l.length<=9:=(by omega);refine wq (q a m1 h5 (by rw[h4];exact hm)) [0,1,3] ?_;rintro r g ⟨s,m2,y,B,D,E,rfl,rfl⟩;refine wb ?_<;>intros;refine ak ⟨(i+1,l++[s],m2,y),⟨by omega,by simp[h2],λx hx=>?_,by rw[D,h4],E⟩,by omega,vm [0,1,2,141,157]⟩;rcases jh.1 hx with hx|hx;exact h3 x hx;rw[lZ.1 hx];exact B
 all_goals
  refine wo u (.pv (.sl (l.map qx))) (m1.og xs a) [0,1,2,3] [(4,none)] ?_;exact⟨l,m1,a,by omega,h3,h4,h5,rfl,rfl⟩
set_option maxRecDepth 20000
theorem Fh (xs:List UInt8)(hx:xs.length<=1000)(d:Nat)(M:SsC xs d)(k:Nat)(m:MS)(s:ByteArray)(hk:k<=xs.length)(hm:m.held.length+d+1<=100):ACall Tryz.prog 152 [.ptr 0 0,.pv (dP s),.pv (ah d)] (m.os xs k) (λv g=>∃(l:List Sm) (E:MS) (G:Nat),l.length<=10/\(∀s∈l,SmD d s)/\E.held=m.held/\G<=xs.length/\v= .own 4 l.length/\g=E.og xs G++[some (ZW l)]):=by refine wz Tryz.func152 (λ_=> [(4,8)]) (h:=λR N=>?_);refine wb ?_<;>intros;refine wq (iE xs k 2 hx hk (by decide) (by decide)) [1] ?_;rintro r g ⟨rfl,O,B,rfl⟩;have hn:=mW xs k (n:=2) (by decide);refine ws ?_;refine wq (M O { m with held:=m.held++[s] } (1+Na xs k 2) B (by simp;omega) (by omega)) [0,1,67] ?_;rintro r g ⟨l,m2,H,X,U,I,V,rfl,rfl⟩;obtain⟨J,L,a,q,u,y,D⟩:=m2;dsimp only at I;subst I;refine wb ?_<;>intros;have Y:((m.held.length:Int)+1-1).toNat=(m.held.map λs=> [dP s]).length:=(by simp);refine wo N (.own 4 l.length) (MS.og ⟨J,L,a,q,u,y,m.held⟩ xs H++[some (ZW l)]) [0,1,2,267,164] [] ?_;exact⟨l,⟨J,L,a,q,u,y,m.held⟩,H,by omega,U,rfl,V,rfl,rfl⟩
set_option maxRecDepth 20000
abbrev u8P (n:Int):PV:= .sc (.int .u8 n)
def acB (n:Int):Bool:=decide (97<=n) && decide (n<=122) || decide (65<=n) && decide (n<=90)
def afE (n:Int):Bool:=decide (48<=n) && decide (n<=57)
def afF (n:Int):Bool:=acB n || afE n || decide (n=95)
theorem Ij (n:Int):FnEq Tryz.prog 122 [.pv (u8P n)] (.pv (boolP (acB n))):=by unfold acB;refine wf Tryz.func122 (λ_=> []) (h:=λR a=>?_);refine wb (A2.mk ?_ (A2.mk ?_ (A2.mk ?_ ?_)))<;>intros;all_goals exact wr a
theorem Zm (n:Int):FnEq Tryz.prog 157 [.pv (u8P n)] (.pv (boolP (afE n))):=by unfold afE;refine wf Tryz.func157 (λ_=> []) (h:=λR a=>?_);refine wb (A2.mk ?_ ?_)<;>intros;all_goals exact wr a
theorem Zn (n:Int):FnEq Tryz.prog 124 [.pv (u8P n)] (.pv (boolP (afF n))):=by unfold afF;refine wf Tryz.func124 (λ_=> []) (h:=λR a=>?_);refine wb ?_<;>intros;refine wE (Ij n) ?_;refine wb (A2.mk ?_ ?_)<;>intros;exact wr a;refine wE (Zm n) ?_;refine wb (A2.mk ?_ ?_)<;>intros;all_goals exact wr a
def OU:List ByteArray:=[⟨#[118,97,114]⟩,⟨#[118,111,108,97,116,105,108,101]⟩,⟨#[109,117,116,101,120]⟩,⟨#[114,119,108,111,99,107]⟩,⟨#[99,111,110,100]⟩,⟨#[102,117,116,117,114,101]⟩,⟨#[116,104,114,101,97,100]⟩,⟨#[105,102]⟩,⟨#[101,108,115,101]⟩,⟨#[119,104,105,108,101]⟩,⟨#[108,111,99,107]⟩,⟨#[114,101,97,100]⟩,⟨#[119,114,105,116,101]⟩,⟨#[116,114,97,110,115,97,99,116,105,111,110]⟩,⟨#[97,116,111,109,105,99]⟩,⟨#[119,97,105,116]⟩,⟨#[110,111,116,105,102,121]⟩,⟨#[110,111,116,105,102,121,97,108,108]⟩,⟨#[115,112,97,119,110]⟩,⟨#[106,111,105,110]⟩,⟨#[115,101,116]⟩,⟨#[103,101,116]⟩]
theorem acC:FnEq Tryz.prog 156 [] (.pv (.sl (jm OU))):=by refine wf Tryz.func156 (λ_=> []) (h:=λR a=>?_);refine wb ?_<;>intros;exact wr a
theorem aoW:OU.length=22:=rfl
theorem acD (s:ByteArray)(h:OU.any (λk=>decide (k=s))=false):FnEq Tryz.prog 123 [.pv (dP s)] (.pv (boolP false)):=by have a:=aoW;refine wf Tryz.func123 (λ_=> []) (h:=λR d=>?_);refine wb ?_<;>intros;refine wE acC ?_;refine wb ?_<;>intros;refine wl (λi:Nat=> [(0,.pv (dP s)),(3,.pv (.sl (jm OU))),(4,.pv (ah i))]) (λ_=> []) (λi=>i<=OU.length) (λi=>OU.length-i) 0 (ay _) (vm []) (λi hi=>?_);refine wb (A2.mk ?_ ?_)<;>intros;refine jR OU (λx=> [dP x]) (by omega) (λx hx=>?_);refine wb (A2.mk ?_ ?_)<;>intros;simp only[Kq,iq] at h;exact absurd ‹_› (h x hx);exact ak ⟨i+1,by omega,by omega,vm []⟩;exact wr d
def lH (s:ByteArray):Bool:=decide (1<=s.size) && decide (s.size<=12) && acB ((s[0]?).getD 0).toNat &&(List.range s.size).all (λi=>afF ((s[i]?).getD 0).toNat) && !OU.any (λk=>decide (k=s))
theorem jH (s:ByteArray)(h:lH s=true):FnEq Tryz.prog 93 [.pv (dP s)] (.pv (boolP true)):=by simp only[lH,dC,iq,wY,jU,tY] at h;obtain⟨⟨⟨⟨h1,h2⟩,h3⟩,h4⟩,h5⟩:=h;refine wf Tryz.func93 (λ_=> []) (h:=λR a=>?_);refine wb ?_<;>intros;refine wE (Ij _) ?_;simp only[Int.toNat_zero,h3];refine wb ?_<;>intros;refine wE (acD s h5) ?_;refine wb ?_<;>intros;refine wl (λi:Nat=> [(0,.pv (dP s)),(3,.pv (ah i))]) (λ_=> []) (λi=>i<=s.size) (λi=>s.size-i) 0 (ay _) (vm []) (λi hi=>?_);refine wb (A2.mk ?_ ?_)<;>intros;refine wE (Zn _) ?_;rw[h4 i (by omega)];refine wb ?_<;>intros;exact ak ⟨i+1,by omega,by omega,vm []⟩;exact wr a
set_option maxRecDepth 20000
set_option maxHeartbeats 4000000
structure DR where
 kind:Int
 name:ByteArray
 size:Int
 init:Int
 on:ByteArray
@[go_sem] def DR.r (d:DR):List PV:=[ah d.kind,ah 0,dP d.name,ah d.size,ah d.init,dP d.on]
def dL:List DR:=[⟨1,⟨#[120]⟩,0,0,bE⟩,⟨1,⟨#[121]⟩,0,1,bE⟩,⟨2,⟨#[118]⟩,0,0,bE⟩,⟨1,⟨#[113]⟩,2,0,bE⟩,⟨3,⟨#[109]⟩,0,0,bE⟩,⟨3,⟨#[110]⟩,0,0,bE⟩,⟨4,⟨#[114]⟩,0,0,bE⟩,⟨5,⟨#[99]⟩,0,0,⟨#[109]⟩⟩,⟨6,⟨#[102]⟩,0,0,bE⟩]
@[go_sem] theorem arA:dL.length=9:=rfl
abbrev Zf:List (List PV):=dL.map DR.r
@[go_sem] def thR (name:ByteArray)(lo:List ByteArray)(b:PV):List PV:=[dP name,ah 0,.sl (jm lo),b]
theorem PR:FnEq Tryz.prog 73 [] (.pv (.sl Zf)):=by refine wf Tryz.func73 (λ_=> []) (h:=λR a=>?_);refine wb ?_<;>intros;exact wr a
theorem Ii (l:List DR)(s:ByteArray)(d:l.length<=1000):FnEq Tryz.prog 140 [.pv (.sl (l.map DR.r)),.pv (dP s)] (.pv (ah (jl (l.map DR.name) s))):=by
 refine wf Tryz.func140 (λ_=> []) (h:=λR a=>?_);refine wb ?_<;>intros;refine wl (λi:Nat=> [(0,.pv (.sl (l.map DR.r))),(1,.pv (dP s)),(5,.pv (ah i))]) (λ_=> []) (λi=>i<=l.length/\jl (l.map DR.name) s=gK s i ((l.map DR.name).drop i)) (λi=>l.length-i) 0 ⟨ay _,rfl⟩ (vm []) (λi ⟨hi,ha⟩=>?_);refine wb (A2.mk ?_ ?_)<;>intros
 . have h2:i<l.length:=(by omega);refine aN (x:=l[i]) (zO _) (by simp[h2]) rfl ?_;refine wb (A2.mk ?_ ?_)<;>intros
   . rw[at_hit (i:=i) (by simpa using h2) (by simpa using ‹l[i].name=s›) ha] at a;exact wr a
   . exact ak ⟨i+1,⟨h2,pM (i:=i) (by simpa using h2) (by simpa using ‹_›) ha⟩,by omega,vm []⟩
 . rw[uH (i:=i) (by simp;omega) ha] at a;exact wr a
set_option maxRecDepth 20000
def aeU (n:Int):Int:=if n=1\/n=2 then 0 else if 3<=n/\n<=5 then 1 else if 6<=n/\n<=18 then 2 else -1
theorem oV (n r:Int)(h:aeU n=r):FnEq Tryz.prog 181 [.pv (ah n)] (.pv (ah r)):=by unfold aeU at h;refine wf Tryz.func181 (λ_=> []) (h:=λR a=>?_);refine wb (A2.mk ?_ (A2.mk ?_ (A2.mk ?_ (A2.mk ?_ (A2.mk ?_ ?_)))))<;>intros;all_goals exact wr a
theorem Yn:FnEq Tryz.prog 177 [rw_ (Qx none).r] (.pv (boolP true)):=by unfold Qx;refine wf Tryz.func177 (λ_=> []) (h:=λR a=>?_);refine wb ?_<;>intros;all_goals exact wr a
attribute [local go_sem] zk
theorem tN (l:Lf):FnEq Tryz.prog 176 [rw_ (zk l)] (.pv (boolP true)):=by
 cases l with
 |
  num n=>
  simp only[zk,lfE,Lf.op,Lf.n,Lf.name];refine wf Tryz.func176 (λ_=> [(1,4),(2,4)]) (h:=λR a=>?_);refine wb ?_<;>intros;refine wE (oV _ 0 rfl) ?_;refine wb ?_<;>intros;refine w1 ?_;refine wb ?_<;>intros;exact wr a
 |
  var k=>
  cases k
  all_goals
   simp only[zk,lfE,Lf.op,Lf.n,Lf.name,Nm.str];refine wf Tryz.func176 (λ_=> [(1,4),(2,4)]) (h:=λR a=>?_);refine wb ?_<;>intros;refine wE (oV _ 0 rfl) ?_;refine wb ?_<;>intros;refine wE (jH _ ?_) ?_;decide+kernel;refine wb ?_<;>intros;refine w1 ?_;refine wb ?_<;>intros;exact wr a
theorem Nw (x:Ex):FnEq Tryz.prog 176 [rw_ (yg x).r] (.pv (boolP true)):=by
 cases x with
 |
  leaf l=>
  have:=tN l
  cases l<;>exact this
 |
  idx l=>
  simp only[yg,Ex.op,Ex.n,Ex.name,Ex.kids];refine wf Tryz.func176 (λ_=> [(1,4),(2,4)]) (h:=λR a=>?_);refine wb ?_<;>intros;refine wE (oV _ 1 rfl) ?_;refine wb ?_<;>intros;refine wE (jH _ ?_) ?_;decide+kernel;refine wb ?_<;>intros;refine w2 ?_;refine wb ?_<;>intros;refine aA (by omega) rfl rfl ?_;refine wb ?_<;>intros;refine wE (tN l) ?_;refine wb ?_<;>intros;exact wr a
 |
  bin k l r=>
  have hk:aeU (binOp k)=2/\binOp k≠1/\binOp k≠2/\binOp k≠3:=(by revert k;decide);obtain⟨hk,d,q,u⟩:=hk;simp only[yg,Ex.op,Ex.n,Ex.name,Ex.kids];generalize binOp k=op at hk d q u;refine wf Tryz.func176 (λ_=> [(1,4),(2,4)]) (h:=λR a=>?_);refine wb ?_<;>intros;refine wE (oV _ 2 hk) ?_;refine wb ?_<;>intros;refine w3 ?_;refine wb ?_<;>intros;refine aA (by omega) rfl rfl ?_;refine wb ?_<;>intros;refine wE (tN l) ?_;refine wb ?_<;>intros;refine aA (by omega) rfl rfl ?_;refine wb ?_<;>intros;refine wE (tN r) ?_;refine wb ?_<;>intros;exact wr a
end AM
namespace AM
open Go Go.Proofs Mk
set_option maxRecDepth 20000
set_option maxHeartbeats 4000000
@[go_sem] theorem amg {s:Sm} :List.take 11 ((qx s).map AV.pv)=(qx s).map AV.pv:=uK (by simp[pR])
abbrev U4 (l:List Sm):PV:= .sl (l.map qx)
def ShS (s:Sm):Prop:=FnEq Tryz.prog 166 [rw_ (qx s)] (.pv (boolP true))
def ShL (l:List Sm):Prop:=FnEq Tryz.prog 139 [.pv (U4 l)] (.pv (boolP true))
theorem shL (l:List Sm)(d:l.length<=1000)(h:∀s∈l,ShS s):ShL l:=by unfold ShL;refine wf Tryz.func139 (λ_=> []) (h:=λR a=>?_);refine wb ?_<;>intros;refine wl (λi:Nat=> [(0,.pv (U4 l)),(3,.pv (ah i))]) (λ_=> []) (λi=>i<=l.length) (λi=>l.length-i) 0 (ay _) (vm []) (λi hi=>?_);refine wb (A2.mk ?_ ?_)<;>intros;refine jR l qx (by omega) (λs hs=>?_);refine wb ?_<;>intros;refine wE (h s hs) ?_;refine wb ?_<;>intros;exact ak ⟨i+1,by omega,by omega,vm []⟩;exact wr a
theorem vV (k:Nat):aX k=⟨#[109,97,105,110]⟩\/aX k=⟨#[116,49]⟩\/aX k=⟨#[116,50]⟩\/aX k=⟨#[116,51]⟩:=by
 match k with
 |0=>exact .inl rfl
 |1=>exact .inr (.inl rfl)
 |2=>exact .inr (.inr (.inl rfl))
 |k+3=>exact .inr (.inr (.inr rfl))
attribute [local go_sem] zk
theorem shR (op:Int)(name arg:ByteArray)(ix:List Lf)(e:Option Ex)(b c:List Sm)(hb:ShL b)(he:ShL c)(hi:ix=[]\/op=1/\∃i,ix=[i])
 (h:e=none/\name=bE/\(op=7\/op=8)/\arg=bE/\c=[]\/e=none/\lH name=true/\1<=name.size/\(4<=op/\op<=6)/\arg=bE/\c=[]\/e=none/\lH name=true/\1<=name.size/\(9<=op/\op<=13)/\arg=bE/\b=[]/\c=[]\/e=none/\lH name=true/\1<=name.size/\op=15/\lH arg=true/\1<=arg.size/\b=[]/\c=[]\/
  ∃x,e=some x/\arg=bE/\(name=bE/\(op=2\/op=3/\c=[])\/lH name=true/\1<=name.size/\(op=1\/op=14)/\b=[]/\c=[])):
 FnEq Tryz.prog 166 [rw_ (tq op name arg (ix.map zk) (Qx e) (b.map qx) (c.map qx))] (.pv (boolP true)):=by
 unfold ShL at hb he;obtain⟨rfl,rfl,rfl|rfl,rfl,rfl⟩|⟨rfl,hn,hs,h,rfl,rfl⟩|⟨rfl,hn,hs,h,rfl,rfl,rfl⟩|⟨rfl,hn,hs,rfl,ha,has,rfl,rfl⟩|⟨x,rfl,rfl,⟨rfl,rfl|⟨rfl,rfl⟩⟩|⟨hn,hs,rfl|rfl,rfl,rfl⟩⟩:=h
 all_goals
  obtain rfl|⟨h1,i,rfl⟩:=hi;all_goals first|(exfalso;omega)|skip
  all_goals
   refine wf Tryz.func166 (λ_=> []) (h:=λR a=>?_);(repeat (refine wb ?_;intros;first|refine wE (jH name hn) ?_|refine wE (jH arg ha) ?_|refine wE (tN i) ?_|refine wE (Nw x) ?_|refine wE Yn ?_|refine wE hb ?_|refine wE he ?_|refine aA (by omega) rfl rfl ?_));refine wb ?_;intros;exact wr a
theorem shS (s:Sm)(hb:ShL s.body)(he:ShL s.els):ShS s:=by
 unfold ShS;rw[fU];refine shR _ _ _ _ _ _ _ hb he ?_ ?_
 cases s<;>first|exact .inl rfl|exact .inr ⟨rfl,_,rfl⟩
 . cases s with
   |asg k e=>exact .inr (.inr (.inr (.inr ⟨e,rfl,rfl,.inr ⟨show lH k.str=true by cases k<;>decide+kernel,show 1<=k.str.size by cases k<;>decide,.inl rfl,rfl,rfl⟩⟩)))
   |asq i e=>exact .inr (.inr (.inr (.inr ⟨e,rfl,rfl,.inr ⟨by show lH ⟨#[113]⟩=true;decide+kernel,au 1,.inl rfl,rfl,rfl⟩⟩)))
   |set e=>exact .inr (.inr (.inr (.inr ⟨e,rfl,rfl,.inr ⟨by show lH ⟨#[102]⟩=true;decide+kernel,au 1,.inr rfl,rfl,rfl⟩⟩)))
   |ite e b c=>exact .inr (.inr (.inr (.inr ⟨e,rfl,rfl,.inl ⟨rfl,.inl rfl⟩⟩)))
   |whl e b=>exact .inr (.inr (.inr (.inr ⟨e,rfl,rfl,.inl ⟨rfl,.inr ⟨rfl,rfl⟩⟩⟩)))
   |blk k b=>exact .inr (.inl ⟨rfl,by cases k<;>(simp only[Sm.name];decide+kernel),by cases k<;>exact au 1,by cases k<;>(simp only[Sm.op];decide),rfl,rfl⟩)
   |tx b=>exact .inl ⟨rfl,rfl,.inl rfl,rfl,rfl⟩
   |atm b=>exact .inl ⟨rfl,rfl,.inr rfl,rfl,rfl⟩
   |sig k=>exact .inr (.inr (.inl ⟨rfl,by show lH ⟨#[99]⟩=true;decide+kernel,au 1,by cases k<;>decide,rfl,rfl,rfl⟩))
   |
    spawn k=>
    have:=vV k;exact .inr (.inr (.inl ⟨rfl,by simp only[Sm.name];obtain h|h|h|h:=this<;>(rw[h];decide+kernel),by simp only[Sm.name];obtain h|h|h|h:=this<;>(rw[h];decide),by simp only[Sm.op];decide,rfl,rfl,rfl⟩))
   |join=>exact .inr (.inr (.inl ⟨rfl,by show lH ⟨#[116,49]⟩=true;decide+kernel,show 1<=ByteArray.size ⟨#[116,49]⟩ by decide,by decide,rfl,rfl,rfl⟩))
   |get=>exact .inr (.inr (.inr (.inl ⟨rfl,by show lH ⟨#[97]⟩=true;decide+kernel,au 1,rfl,by show lH ⟨#[102]⟩=true;decide+kernel,au 1,rfl,rfl⟩)))
theorem abo:∀(d:Nat) (s:Sm),SmD d s->ShS s
 |0,s,h=>shS s (h.1▸shL [] (by decide) (by simp)) (h.2▸shL [] (by decide) (by simp))
 |d+1,s,h=>shS s (shL _ (by have:=h.1.1;omega) λx hx=>abo d x (h.1.2 x hx)) (shL _ (by have:=h.2.1;omega) λx hx=>abo d x (h.2.2 x hx))
end AM
namespace AM
open Go Go.Proofs Mk
set_option maxRecDepth 20000
set_option maxHeartbeats 800000
@[go_sem] def st0:Obj:= .box [.pv (ah 0),.pv (ah 0),.pv (dP bE),.pv (dP bE),.emp,.pv (ah 0),.pv (ah 0),.pv (dP bE),.emp,.emp,.emp]
@[go_sem] def MS.os3 (m:MS)(xs:List UInt8)(k:Nat):List (Option Obj):=(m.os xs k).map some++[some st0]
def X8 (d q:Nat)(n b:Bool)(t:Nat):List (Nat×AV):=[(0,.ptr 0 0),(1,.pv (ah d)),(4,.ptr 3 0),(5,.pv (ah q)),(6,.pv (boolP n)),(t,.pv (boolP b))]
attribute [go_sem] X8
@[go_sem] theorem ak3 {d:Nat} :((d+1:Nat):Int)-1=(d:Int):=by omega
def aqj:List Nm:=[.x,.y,.x,.v]
def aqk:List Nm:=[.a,.b]
theorem gU {s:Sm}(h:s.body=[])(h2:s.els=[]):∀d,SmD d s
 |0=>⟨h,h2⟩
 |d+1=>by unfold SmD;rw[h,h2];simp
theorem ac7 (xs:List UInt8)(hx:xs.length<=1000)(d:Nat)(IH:∀u,u<d->SsC xs u):StC xs d:=by
 intro k m hk hm;refine wz Tryz.func110 (λi=>if i=5 then [(2,5),(3,5)] else if i=7 then [(6,9),(7,9)] else []) (h:=λR M=>?_);refine ws ?_;refine w0 ?_;refine wg ?_;refine wg ?_;refine iO rfl ?_;refine ws ?_;refine wq (iE xs k 18 hx hk (by decide) (by decide)) [1] ?_;rintro r g ⟨rfl,B,E,rfl⟩;have hn:=mW xs k (n:=18) (by decide);generalize Na xs k 18=q at hn;refine ws ?_;refine w0 ?_;generalize a8:({ m with left:=IntKind.i64.wrap (m.left-1) } :MS)=m1;refine jk (λb:Bool=>X8 d q b b 6) (λ_=>m1.os3 xs B) (λb=>b=true->0<d) ?_ (λZ U=>?_)
 . subst a8;refine wb (A2.mk ?_ (A2.mk ?_ ?_))<;>intros
   all_goals first
    |exact ak ⟨false,(λh=>by cases h),vm [0,1,2,3]⟩
    |exact ak ⟨!m.tx,(λ_=>by omega),vm [0,1,2,3]⟩
 have D:m1.held=m.held:=(by rw[<-a8]);rw[<-D] at hm;clear a8;refine ws ?_;refine w0 ?_;refine iO rfl ?_;refine ws ?_;refine w0 ?_;((refine jF rfl ?_;refine ws ?_;first|(refine⟨λ_=>?_,λ_=>?_⟩<;>first|(exfalso;omega)|skip)|(rw[gY];refine⟨λ_=>?_,λ_=>?_⟩)|skip));refine w0 ?_;refine iO rfl ?_;refine ws ?_;refine jR aqj (λn=> [dP n.str]) (j:=q) (show q<4 by omega) (λn _=>?_);refine wb ?_<;>intros;refine wQ (qI xs B m1 hx E) [0,1,2] ⟨⟨1,(0:Nat),bE,[]⟩,k,.leaf (.num (by decide)),hk,rfl,rfl⟩ ?_;rintro r g ⟨e,I,he,y,rfl,rfl⟩;obtain⟨x,rfl⟩:=he.of;refine wb ?_<;>intros;refine wE (nO n.str (yg x)) ?_;refine wb ?_<;>intros;refine wo M (rw_ (tq 1 n.str bE [] (yg x) [] [])) (m1.og xs I) [0,1,2,2] [] ?_;exact⟨.asg n x,m1,I,gU rfl rfl d,D,y,rfl,rfl⟩
 . refine w0 ?_;refine iO rfl ?_;refine ws ?_;refine w0 ?_;((refine jF rfl ?_;refine ws ?_;first|(refine⟨λ_=>?_,λ_=>?_⟩<;>first|(exfalso;omega)|skip)|(rw[gY];refine⟨λ_=>?_,λ_=>?_⟩)|skip));refine w0 ?_;refine iO rfl ?_;refine wb ?_<;>intros;refine wQ (iE xs B 2 hx E (by decide) (by decide)) [1] ⟨rfl,k,hk,rfl⟩ ?_;rintro r g ⟨rfl,I,y,rfl⟩;refine wb ?_<;>intros;refine jR aqk (λn=> [dP n.str]) (mW xs B (by decide)) (λn _=>?_);refine ws ?_;refine wQ (qI xs I m1 hx y) [0,1,2] ⟨⟨1,(0:Nat),bE,[]⟩,k,.leaf (.num (by decide)),hk,rfl,rfl⟩ ?_;rintro r g ⟨e,G,he,a7,rfl,rfl⟩;obtain⟨x,rfl⟩:=he.of;refine wb ?_<;>intros;refine wE (nO n.str (yg x)) ?_;refine wb ?_<;>intros;refine wo M (rw_ (tq 1 n.str bE [] (yg x) [] [])) (m1.og xs G) [0,1,2,2] [] ?_;exact⟨.asg n x,m1,G,gU rfl rfl d,D,a7,rfl,rfl⟩
   . refine w0 ?_;refine iO rfl ?_;refine ws ?_;refine w0 ?_;((refine jF rfl ?_;refine ws ?_;first|(refine⟨λ_=>?_,λ_=>?_⟩<;>first|(exfalso;omega)|skip)|(rw[gY];refine⟨λ_=>?_,λ_=>?_⟩)|skip));refine w0 ?_;refine iO rfl ?_;refine ws ?_;refine wq (yA xs B m1 hx E) [0,1,2] ?_;rintro r g ⟨e,I,he,y,rfl,rfl⟩;obtain⟨i,rfl⟩:=he.of;refine ws ?_;refine wq (qI xs I m1 hx y) [0,1,2] ?_;rintro r g ⟨e,G,he,a7,rfl,rfl⟩;obtain⟨x,rfl⟩:=he.of;refine wb ?_<;>intros;refine wo M (rw_ (tq 1 ⟨#[113]⟩ bE [(lfE i).r] (yg x) [] [])) (m1.og xs G) [0,1,2,2] [] ?_;exact⟨.asq i x,m1,G,gU rfl rfl d,D,a7,rfl,rfl⟩
     . refine w0 ?_;refine jk (λb:Bool=>X8 d q Z b 74) (λ_=>m1.os3 xs B) (λb=>b=true->0<d) ?_ (λb hb=>?_)
       . refine wb (A2.mk ?_ ?_)<;>intros
         all_goals first
          |exact ak ⟨false,(λh=>by cases h),vm [0,1,2,3]⟩
          |exact ak ⟨decide (0<(d:Int)),(λh=>by simpa using h),vm [0,1,2,3]⟩
       refine ws ?_;(((refine jF rfl ?_;refine ws ?_;first|(refine⟨λ_=>?_,λ_=>?_⟩<;>first|(exfalso;omega)|skip)|(rw[gY];refine⟨λ_=>?_,λ_=>?_⟩)|skip));have hd:=hb ‹_›;obtain⟨u,rfl⟩:∃u,d=u+1:=⟨d-1,by omega⟩;refine w0 ?_;refine iO rfl ?_;refine ws ?_;refine wq (qI xs B m1 hx E) [0,1,2] ?_;rintro r g ⟨e,I,he,y,rfl,rfl⟩;obtain⟨x,rfl⟩:=he.of;refine ws ?_;refine wq (IH u (by omega) I m1 1 y (by omega) (by decide)) [0,1,2] ?_;rintro r g ⟨l,m2,G,q1,N,L,O,rfl,rfl⟩;refine wb ?_<;>intros;have ab:m2.held.length+u<=100:=(by rw[L];omega);refine wq (iE xs G 2 hx O (by decide) (by decide)) [1] ?_;rintro r g ⟨rfl,k4,aa,rfl⟩;refine wb (A2.mk ?_ ?_)<;>intros;refine wq (IH u (by omega) k4 m2 1 aa ab (by decide)) [0,1,44] ?_;rintro r g ⟨l2,m3,k5,p1,p2,p3,p4,rfl,rfl⟩;refine wb ?_<;>intros;refine wo M (rw_ (tq 2 bE bE [] (yg x) (l.map qx) (l2.map qx))) (m3.og xs k5) [0,1,2,148] [(45,none),(149,none)] ?_;exact⟨.ite x l l2,m3,k5,⟨⟨by show l.length<=10;omega,N⟩,by show l2.length<=10;omega,p2⟩,by rw[p3,L,D],p4,by rw[fU];rfl,rfl⟩;refine wo M (rw_ (tq 2 bE bE [] (yg x) (l.map qx) [])) (m2.og xs k4) [0,1,2,44] [(45,none)] ?_;exact⟨.ite x l [],m2,k4,⟨⟨by show l.length<=10;omega,N⟩,ay _,λ_ h=>by cases h⟩,by rw[L,D],aa,by rw[fU];rfl,rfl⟩);refine w0 ?_;refine jk (λb:Bool=>X8 d q Z b 100) (λ_=>m1.os3 xs B) (λb=>b=true->0<d) ?_ (λb hb=>?_)
       . refine wb (A2.mk ?_ ?_)<;>intros
         all_goals first
          |exact ak ⟨false,(λh=>by cases h),vm [0,1,2,3]⟩
          |exact ak ⟨decide (0<(d:Int)),(λh=>by simpa using h),vm [0,1,2,3]⟩
       refine ws ?_;(((refine jF rfl ?_;refine ws ?_;first|(refine⟨λ_=>?_,λ_=>?_⟩<;>first|(exfalso;omega)|skip)|(rw[gY];refine⟨λ_=>?_,λ_=>?_⟩)|skip));have hd:=hb ‹_›;obtain⟨u,rfl⟩:∃u,d=u+1:=⟨d-1,by omega⟩;refine w0 ?_;refine wg ?_;refine wg ?_;refine iO rfl ?_;refine ws ?_;refine wE (yz _) ?_;refine wb ?_<;>intros;refine wE (D7 _) ?_;refine wb ?_<;>intros;refine wE (zq 13 ⟨2,0,⟨#[98]⟩,[]⟩ ⟨1,2,bE,[]⟩) ?_;refine wb ?_<;>intros;refine wq (IH u (by omega) B { m1 with loop:=true } 1 E (by show m1.held.length+u<=100;omega) (by decide)) [0,1,2] ?_;rintro r g ⟨l,⟨pY,uY,H,V,X,Y,a6⟩,G,q1,N,L,O,rfl,rfl⟩;dsimp only at L;subst L;refine ws ?_;refine wE (yz _) ?_;refine wb ?_<;>intros;refine wE (D7 _) ?_;refine wb ?_<;>intros;refine wE (zq 6 ⟨2,0,⟨#[98]⟩,[]⟩ ⟨1,1,bE,[]⟩) ?_;refine wb ?_<;>intros;refine wE (nO ⟨#[98]⟩ ⟨6,0,bE,[ER.r ⟨2,0,⟨#[98]⟩,[]⟩,ER.r ⟨1,1,bE,[]⟩]⟩) ?_;refine wb ?_<;>intros;refine wo M (rw_ (tq 3 bE bE [] ⟨13,0,bE,[ER.r ⟨2,0,⟨#[98]⟩,[]⟩,ER.r ⟨1,2,bE,[]⟩]⟩ (l.map qx++[tq 1 ⟨#[98]⟩ bE [] ⟨6,0,bE,[ER.r ⟨2,0,⟨#[98]⟩,[]⟩,ER.r ⟨1,1,bE,[]⟩]⟩ [] []]) [])) (MS.og ⟨pY,uY,H,V,X,m1.loop,m1.held⟩ xs G) [0,1,2,124] [(172,none)] ?_;refine⟨.whl (.bin 4 (.var .b) (.num 2)) (l++[.asg .b (.bin 0 (.var .b) (.num 1))]),⟨pY,uY,H,V,X,m1.loop,m1.held⟩,G,⟨⟨by show (l++_).length<=10;simp;omega,λs hs=>?_⟩,ay _,λ_ h=>by cases h⟩,D,O,by rw[fU];simp only[Sm.body,fQ];rfl,rfl⟩;rcases jh.1 hs with hs|hs;exact N s hs;rw[lZ.1 hs];exact gU rfl rfl u);refine w0 ?_;refine jk (λb:Bool=>X8 d q Z b 133) (λ_=>m1.os3 xs B) (λb=>b=true->(q=8\/q=9)/\0<d) ?_ (λb hb=>?_)
       . refine wb (A2.mk ?_ (A2.mk ?_ (A2.mk ?_ (A2.mk ?_ ?_))))<;>intros
         all_goals first
          |exact ak ⟨false,(λh=>by cases h),vm [0,1,2,3]⟩
          |skip
         all_goals first
          |refine aA (x:=[dP ⟨#[109]⟩]) (by omega) (by rw[show ((q:Int)-8).toNat=0 by omega];rfl) rfl ?_
          |refine aA (x:=[dP ⟨#[110]⟩]) (by omega) (by rw[show ((q:Int)-8).toNat=1 by omega];rfl) rfl ?_
         all_goals
          refine ws ?_;(first|refine wq (uI xs B m1 ⟨#[109]⟩ (by omega)) [0,1,2] ?_|refine wq (uI xs B m1 ⟨#[110]⟩ (by omega)) [0,1,2] ?_);rintro r g ⟨⟨hb,rfl⟩,rfl⟩;refine wb ?_<;>intros;exact ak ⟨!hb,(λ_=>⟨by omega,U ‹_›⟩),vm [0,1,2,3]⟩
       refine ws ?_;(((refine jF rfl ?_;refine ws ?_;first|(refine⟨λ_=>?_,λ_=>?_⟩<;>first|(exfalso;omega)|skip)|(rw[gY];refine⟨λ_=>?_,λ_=>?_⟩)|skip));obtain⟨hq,hd⟩:=hb ‹_›;obtain⟨u,rfl⟩:∃u,d=u+1:=⟨d-1,by omega⟩;refine w0 ?_;refine iO rfl ?_;refine ws ?_;rcases hq with hq|hq;refine aA (x:=[dP ⟨#[109]⟩]) (by omega) (by rw[show ((q:Int)-8).toNat=0 by omega];rfl) rfl ?_;refine wb ?_<;>intros;refine wq (Fh xs hx u (IH u (by omega)) B m1 ⟨#[109]⟩ E (by omega)) [0,1,2] ?_;rintro r g ⟨l,m2,G,q1,N,L,O,rfl,rfl⟩;refine wb ?_<;>intros;refine wo M (rw_ (tq 4 ⟨#[109]⟩ bE [] ⟨0,0,bE,[]⟩ (l.map qx) [])) (m2.og xs G) [0,1,2,92] [(93,none)] ?_;exact⟨.blk .m l,m2,G,⟨⟨q1,N⟩,ay _,λ_ h=>by cases h⟩,by rw[L,D],O,by rw[fU];rfl,rfl⟩;refine aA (x:=[dP ⟨#[110]⟩]) (by omega) (by rw[show ((q:Int)-8).toNat=1 by omega];rfl) rfl ?_;refine wb ?_<;>intros;refine wq (Fh xs hx u (IH u (by omega)) B m1 ⟨#[110]⟩ E (by omega)) [0,1,2] ?_;rintro r g ⟨l,m2,G,q1,N,L,O,rfl,rfl⟩;refine wb ?_<;>intros;refine wo M (rw_ (tq 4 ⟨#[110]⟩ bE [] ⟨0,0,bE,[]⟩ (l.map qx) [])) (m2.og xs G) [0,1,2,92] [(93,none)] ?_;exact⟨.blk .n l,m2,G,⟨⟨q1,N⟩,ay _,λ_ h=>by cases h⟩,by rw[L,D],O,by rw[fU];rfl,rfl⟩);refine w0 ?_;refine jk (λb:Bool=>X8 d q Z b 165) (λ_=>m1.os3 xs B) (λb=>b=true->(q=10\/q=11)/\0<d) ?_ (λb hb=>?_)
       . refine wb (A2.mk ?_ (A2.mk ?_ (A2.mk ?_ (A2.mk ?_ ?_))))<;>intros
         all_goals first
          |exact ak ⟨false,(λh=>by cases h),vm [0,1,2,3]⟩
          |skip
         all_goals
          refine wq (uI xs B m1 ⟨#[114]⟩ (by omega)) [0,1,2] ?_;rintro r g ⟨⟨hb,rfl⟩,rfl⟩;refine wb ?_<;>intros;exact ak ⟨!hb,(λ_=>⟨by omega,U ‹_›⟩),vm [0,1,2,3]⟩
       refine ws ?_;(((refine jF rfl ?_;refine ws ?_;first|(refine⟨λ_=>?_,λ_=>?_⟩<;>first|(exfalso;omega)|skip)|(rw[gY];refine⟨λ_=>?_,λ_=>?_⟩)|skip));obtain⟨hq,hd⟩:=hb ‹_›;obtain⟨u,rfl⟩:∃u,d=u+1:=⟨d-1,by omega⟩;have J:(q:Int)-10+5=5\/(q:Int)-10+5=6:=(by omega);refine w0 ?_;refine iO rfl ?_;refine ws ?_;refine wq (Fh xs hx u (IH u (by omega)) B m1 ⟨#[114]⟩ E (by omega)) [0,1,2] ?_;rintro r g ⟨l,m2,G,q1,N,L,O,rfl,rfl⟩;refine wb ?_<;>intros;refine wo M (rw_ (tq ((q:Int)-10+5) ⟨#[114]⟩ bE [] ⟨0,0,bE,[]⟩ (l.map qx) [])) (m2.og xs G) [0,1,2,52] [(53,none)] ?_;rcases J with J|J;exact⟨.blk .rd l,m2,G,⟨⟨q1,N⟩,ay _,λ_ h=>by cases h⟩,by rw[L,D],O,by rw[fU,J];rfl,rfl⟩;exact⟨.blk .wr l,m2,G,⟨⟨q1,N⟩,ay _,λ_ h=>by cases h⟩,by rw[L,D],O,by rw[fU,J];rfl,rfl⟩);refine w0 ?_;refine jk (λb:Bool=>X8 d q Z b 188) (λ_=>m1.os3 xs B) (λb=>b=true->0<d) ?_ (λb hb=>?_)
       . refine wb (A2.mk ?_ ?_)<;>intros
         all_goals first
          |exact ak ⟨false,(λh=>by cases h),vm [0,1,2,3]⟩
          |exact ak ⟨Z,U,vm [0,1,2,3]⟩
       refine ws ?_;(((refine jF rfl ?_;refine ws ?_;first|(refine⟨λ_=>?_,λ_=>?_⟩<;>first|(exfalso;omega)|skip)|(rw[gY];refine⟨λ_=>?_,λ_=>?_⟩)|skip));have hd:=hb ‹_›;obtain⟨u,rfl⟩:∃u,d=u+1:=⟨d-1,by omega⟩;refine w0 ?_;refine wg ?_;refine iO rfl ?_;refine ws ?_;refine wq (iE xs B 2 hx E (by decide) (by decide)) [1] ?_;rintro r g ⟨rfl,I,y,rfl⟩;have ad:=mW xs B (n:=2) (by decide);refine ws ?_;refine wq (IH 0 (by omega) I { m1 with tx:=true } (1+Na xs B 2) y (by show m1.held.length+0<=100;omega) (by omega)) [0,1,2] ?_;rintro r g ⟨l,⟨pY,uY,H,V,X,Y,a6⟩,G,q1,N,L,O,rfl,rfl⟩;dsimp only at L;subst L;refine wb ?_<;>intros;refine wo M (rw_ (tq 7 bE bE [] ⟨0,0,bE,[]⟩ (l.map qx) [])) (MS.og ⟨pY,uY,H,false,X,Y,m1.held⟩ xs G) [0,1,2,92] [(93,none)] ?_;exact⟨.tx l,⟨pY,uY,H,false,X,Y,m1.held⟩,G,⟨⟨by show l.length<=10;omega,λs hs=>gU (N s hs).1 (N s hs).2 u⟩,ay _,λ_ h=>by cases h⟩,D,O,by rw[fU];rfl,rfl⟩);refine w0 ?_;refine jk (λb:Bool=>X8 d q Z b 210) (λ_=>m1.os3 xs B) (λb=>b=true->0<d) ?_ (λb hb=>?_)
       . refine wb (A2.mk ?_ (A2.mk ?_ ?_))<;>intros
         all_goals first
          |exact ak ⟨false,(λh=>by cases h),vm [0,1,2,3]⟩
          |exact ak ⟨!m1.atomic,(λ_=>U ‹_›),vm [0,1,2,3]⟩
       refine ws ?_;(((refine jF rfl ?_;refine ws ?_;first|(refine⟨λ_=>?_,λ_=>?_⟩<;>first|(exfalso;omega)|skip)|(rw[gY];refine⟨λ_=>?_,λ_=>?_⟩)|skip));have hd:=hb ‹_›;obtain⟨u,rfl⟩:∃u,d=u+1:=⟨d-1,by omega⟩;refine w0 ?_;refine wg ?_;refine iO rfl ?_;refine ws ?_;refine wq (IH u (by omega) B { m1 with atomic:=true } 2 E (by show m1.held.length+u<=100;omega) (by omega)) [0,1,2] ?_;rintro r g ⟨l,⟨pY,uY,H,V,X,Y,a6⟩,G,q1,N,L,O,rfl,rfl⟩;dsimp only at L;subst L;refine wb ?_<;>intros;refine wo M (rw_ (tq 8 bE bE [] ⟨0,0,bE,[]⟩ (l.map qx) [])) (MS.og ⟨pY,uY,H,V,false,Y,m1.held⟩ xs G) [0,1,2,60] [(61,none)] ?_;exact⟨.atm l,⟨pY,uY,H,V,false,Y,m1.held⟩,G,⟨⟨by show l.length<=10;omega,N⟩,ay _,λ_ h=>by cases h⟩,D,O,by rw[fU];rfl,rfl⟩);refine w0 ?_;refine jk (λb:Bool=>X8 d q Z b 235) (λ_=>m1.os3 xs B) (λb=>b=true->0<d) ?_ (λb hb=>?_)
       . refine wb (A2.mk ?_ (A2.mk ?_ (A2.mk ?_ ?_)))<;>intros
         all_goals first
          |exact ak ⟨false,(λh=>by cases h),vm [0,1,2,3]⟩
          |skip
         all_goals
          refine wq (uI xs B m1 ⟨#[109]⟩ (by omega)) [0,1,2] ?_;rintro r g ⟨⟨hb,rfl⟩,rfl⟩;refine wb ?_<;>intros;exact ak ⟨!hb,(λ_=>U ‹_›),vm [0,1,2,3]⟩
       refine ws ?_;(((refine jF rfl ?_;refine ws ?_;first|(refine⟨λ_=>?_,λ_=>?_⟩<;>first|(exfalso;omega)|skip)|(rw[gY];refine⟨λ_=>?_,λ_=>?_⟩)|skip));have hd:=hb ‹_›;obtain⟨u,rfl⟩:∃u,d=u+1:=⟨d-1,by omega⟩;refine w0 ?_;refine iO rfl ?_;refine ws ?_;refine wE (yz _) ?_;refine wb ?_<;>intros;refine wE (nO ⟨#[97]⟩ ⟨2,0,⟨#[120]⟩,[]⟩) ?_;refine wb ?_<;>intros;refine wo M (rw_ (tq 4 ⟨#[109]⟩ bE [] ⟨0,0,bE,[]⟩ [tq 9 ⟨#[99]⟩ bE [] ⟨0,0,bE,[]⟩ [] [],tq 1 ⟨#[97]⟩ bE [] ⟨2,0,⟨#[120]⟩,[]⟩ [] []] [])) (m1.og xs B) [0,1,2,2] [] ?_;exact⟨.blk .m [.sig .wait,.asg .a (.leaf (.var .x))],m1,B,⟨⟨by decide,by simp only[Sm.body,TE];exact⟨gU rfl rfl u,gU rfl rfl u,by simp⟩⟩,ay _,λ_ h=>by cases h⟩,D,E,by rw[fU];rfl,rfl⟩);refine w0 ?_;refine jk (λb:Bool=>X8 d q Z b 258) (λ_=>m1.os3 xs B) (λb=>b=true->0<d) ?_ (λb hb=>?_)
       . refine wb (A2.mk ?_ (A2.mk ?_ ?_))<;>intros
         all_goals first
          |exact ak ⟨false,(λh=>by cases h),vm [0,1,2,3]⟩
          |skip
         all_goals
          refine wq (uI xs B m1 ⟨#[109]⟩ (by omega)) [0,1,2] ?_;rintro r g ⟨⟨hb,rfl⟩,rfl⟩;refine wb ?_<;>intros;exact ak ⟨!hb,(λ_=>U ‹_›),vm [0,1,2,3]⟩
       refine ws ?_;(((refine jF rfl ?_;refine ws ?_;first|(refine⟨λ_=>?_,λ_=>?_⟩<;>first|(exfalso;omega)|skip)|(rw[gY];refine⟨λ_=>?_,λ_=>?_⟩)|skip));have hd:=hb ‹_›;obtain⟨u,rfl⟩:∃u,d=u+1:=⟨d-1,by omega⟩;refine w0 ?_;refine iO rfl ?_;refine ws ?_;refine wq (iE xs B 2 hx E (by decide) (by decide)) [1] ?_;rintro r g ⟨rfl,I,y,rfl⟩;have ad:=mW xs B (n:=2) (by decide);have J:(10:Int)+Na xs B 2=10\/(10:Int)+Na xs B 2=11:=(by omega);refine wb ?_<;>intros;refine wo M (rw_ (tq 4 ⟨#[109]⟩ bE [] ⟨0,0,bE,[]⟩ [tq (10+(Na xs B 2:Int)) ⟨#[99]⟩ bE [] ⟨0,0,bE,[]⟩ [] []] [])) (m1.og xs I) [0,1,2,2] [] ?_;rcases J with J|J;exact⟨.blk .m [.sig .one],m1,I,⟨⟨by decide,by simp only[Sm.body,TE];exact⟨gU rfl rfl u,by simp⟩⟩,ay _,λ_ h=>by cases h⟩,D,y,by rw[fU,J];rfl,rfl⟩;exact⟨.blk .m [.sig .all],m1,I,⟨⟨by decide,by simp only[Sm.body,TE];exact⟨gU rfl rfl u,by simp⟩⟩,ay _,λ_ h=>by cases h⟩,D,y,by rw[fU,J];rfl,rfl⟩);refine w0 ?_;refine jk (λb:Bool=>X8 d q Z b 278) (λ_=>m1.os3 xs B) (λ_=>B<=xs.length) ?_ (λb _=>?_)
       . refine wb (A2.mk ?_ (A2.mk ?_ (A2.mk ?_ ?_)))<;>intros
         all_goals first
          |exact ak ⟨false,E,vm [0,1,2,3]⟩
          |exact ak ⟨!m1.set,E,vm [0,1,2,3]⟩
       refine ws ?_;(((refine jF rfl ?_;refine ws ?_;first|(refine⟨λ_=>?_,λ_=>?_⟩<;>first|(exfalso;omega)|skip)|(rw[gY];refine⟨λ_=>?_,λ_=>?_⟩)|skip));refine wb ?_<;>intros;refine wq (qI xs B { m1 with set:=true } hx E) [0,1,2] ?_;rintro r g ⟨e,I,he,y,rfl,rfl⟩;obtain⟨x,rfl⟩:=he.of;refine wb ?_<;>intros;refine wo M (rw_ (tq 14 ⟨#[102]⟩ bE [] (yg x) [] [])) (MS.og { m1 with set:=true } xs I) [0,1,2,2] [] ?_;exact⟨.set x,{ m1 with set:=true },I,gU rfl rfl d,D,y,rfl,rfl⟩);refine w0 ?_;refine jk (λt:Bool×Nat=>X8 d q Z t.1 308) (λt=>m1.os3 xs t.2) (λt=>t.2<=xs.length) ?_ (λ⟨b,I⟩ y=>?_)
       . refine wb (A2.mk ?_ (A2.mk ?_ ?_))<;>intros
         all_goals first
          |exact ak ⟨(false,B),E,vm [0,1,2,3]⟩
          |skip
         refine wq (iE xs B 2 hx E (by decide) (by decide)) [1] ?_;rintro r g ⟨rfl,I,y,rfl⟩;refine wb ?_<;>intros;exact ak ⟨(decide ((Na xs B 2:Int)=1),I),y,vm [0,1,2,3]⟩
       dsimp only at y;refine ws ?_;(((refine jF rfl ?_;refine ws ?_;first|(refine⟨λ_=>?_,λ_=>?_⟩<;>first|(exfalso;omega)|skip)|(rw[gY];refine⟨λ_=>?_,λ_=>?_⟩)|skip));refine wb ?_<;>intros;refine wo M (rw_ (tq 15 ⟨#[97]⟩ ⟨#[102]⟩ [] ⟨0,0,bE,[]⟩ [] [])) (m1.og xs I) [0,1,2,2] [] ?_;exact⟨.get,m1,I,gU rfl rfl d,D,y,rfl,rfl⟩);refine wb ?_<;>intros;refine wq (qI xs I m1 hx y) [0,1,2] ?_;rintro r g ⟨e,G,he,a7,rfl,rfl⟩;obtain⟨x,rfl⟩:=he.of;refine wb ?_<;>intros;refine wE (nO ⟨#[120]⟩ (yg x)) ?_;refine wb ?_<;>intros;refine wo M (rw_ (tq 1 ⟨#[120]⟩ bE [] (yg x) [] [])) (m1.og xs G) [0,1,2,2] [] ?_;exact⟨.asg .x x,m1,G,gU rfl rfl d,D,a7,rfl,rfl⟩
