/- Words. -/
import Derived.Test.YtfbkkgfkhhibfaaGreatFzj
import Derived.Test.YtfbkkgfkhhibfaaGreatTh
set_option linter.unusedVariables false
set_option linter.unusedSimpArgs false
namespace AM
open Go Go.Proofs Mk
set_option maxRecDepth 20000
abbrev je (ss:List ByteArray):List (List PV):=ss.map λs=> [dJ s]
theorem aeb (ss:List ByteArray)(s:ByteArray)(d:ss.length<=1000000):FnEq Tryz.prog 94 [.pv (.sl (je ss)),.pv (dJ s)] (.pv (ah (jd ss s))):=by
 refine wf Tryz.func94 (λ_=> []) (h:=λR a=>?_);refine wb ?_<;>intros;refine wl (λi:Nat=> [(0,.pv (.sl (je ss))),(1,.pv (dJ s)),(5,.pv (ah i))]) (λ_=> []) (λi=>i<=ss.length/\jd ss s=gu s i (ss.drop i)) (λi=>ss.length-i) 0 ⟨ay _,rfl⟩ (vm []) (λi ⟨hi,ha⟩=>?_);refine wb (A2.mk ?_ ?_)<;>intros
 . have h2:i<ss.length:=(by omega);refine aJ (x:=ss[i]) (zD _) (by simp[h2]) rfl ?_;refine wb (A2.mk ?_ ?_)<;>intros
   . rw[Mk.at_hit h2 ‹_› ha] at a;exact wr a
   . exact aj ⟨i+1,⟨h2,oQ h2 ‹_› ha⟩,by omega,vm []⟩
 . rw[uq (by omega) ha] at a;exact wr a
theorem Q8 (ss:List ByteArray)(s:ByteArray)(d:ss.length<=1000000):ACall Tryz.prog 94 [.own 0 ss.length,.pv (dJ s)] [.row 9 1 (je ss)] (λv g=>v= .pv (ah (jd ss s))/\g=[some (.row 9 1 (je ss))]):=by
 refine wz Tryz.func94 (λ_=> []) (h:=λR a=>?_);refine wb ?_<;>intros;refine wl (λi:Nat=> [(0,.own 0 ss.length),(1,.pv (dJ s)),(5,.pv (ah i))]) (λ_=> [some (.row 9 1 (je ss))]) (λi=>i<=ss.length/\jd ss s=gu s i (ss.drop i)) (λi=>ss.length-i) 0 ⟨ay _,rfl⟩ (vm [0]) (λi ⟨hi,ha⟩=>?_);refine wb (A2.mk ?_ ?_)<;>intros
 . have h2:i<ss.length:=(by omega);refine JK (x:=[dJ ss[i]]) (by simp[h2]) rfl ?_;refine wb (A2.mk ?_ ?_)<;>intros
   . refine wo a (.pv (ah i)) [some (.row 9 1 (je ss))] [0] [] ?_;exact⟨by rw[Mk.at_hit h2 ‹_› ha],rfl⟩
   . exact aj ⟨i+1,⟨h2,oQ h2 ‹_› ha⟩,by omega,vm [0]⟩
 . refine wo a (.pv (ah (-1))) [some (.row 9 1 (je ss))] [0] [] ?_;exact⟨by rw[uq (by omega) ha],rfl⟩
theorem uu (xs:List UInt8)(k:Nat)(m:MS)(s:ByteArray)(hm:m.held.length<=1000000):ACall Tryz.prog 151 [.ptr 0 0,.pv (dJ s)] (m.os xs k) (λv g=>(∃b,v= .pv (boolP b))/\g=(m.os xs k).map some):=by refine wz Tryz.func151 (λ_=> []) (h:=λR a=>?_);refine wb ?_<;>intros;refine wq (Q8 m.held s hm) [2] ?_;rintro r g ⟨rfl,rfl⟩;refine wb ?_<;>intros;refine wo a (.pv (boolP (decide (0<=jd m.held s)))) ((m.os xs k).map some) [0,1,2] [] ?_;exact⟨⟨_,rfl⟩,rfl⟩
set_option maxRecDepth 20000
theorem ACall.post {P:Program}{f:FuncId}{vs:List AV}{pre:List Obj}{p q:AV->List (Option Obj)->Prop}(h:ACall P f vs pre p)(y:∀v g,p v g->q v g):ACall P f vs pre q:=λfr Ψ loc w xs a b c d=>
 (h fr Ψ loc w xs a b c d).mono λe w' ⟨r,v,g,Ψ',u,h1,h2,h3⟩=>⟨r,v,g,Ψ',u,h1,y _ _ h2,h3⟩
def lfE (l:Lf):ER:=⟨l.op,l.n,l.name,[]⟩
def y8 (l:Lf):List PV:=(lfE l).r
def xX (e:Ex):ER:=⟨e.op,e.n,e.name,e.kids.map y8⟩
theorem LfR.of {e:ER}(h:LfR e):∃l,e=lfE l:=by
 cases h with
 |@num n h=>exact ⟨.num ⟨n,h⟩,rfl⟩
 |
  @var s h=>
  simp only[fV,lX,or_false] at h;rcases h with rfl|rfl|rfl|rfl|rfl;exact⟨.var .a,rfl⟩;exact⟨.var .b,rfl⟩;exact⟨.var .x,rfl⟩;exact⟨.var .y,rfl⟩;exact⟨.var .v,rfl⟩
theorem ExR.of {e:ER}(h:ExR e):∃x,e=xX x:=by
 cases h with
 |leaf h=>obtain ⟨l,rfl⟩:=h.of;exact⟨.leaf l,by cases l<;>rfl⟩
 |idx h=>obtain ⟨l,rfl⟩:=h.of;exact⟨.idx l,rfl⟩
 |
  bin ho ha hb=>
  obtain⟨l,rfl⟩:=ha.of;obtain⟨r,rfl⟩:=hb.of;simp only[fV,lX,or_false] at ho;rcases ho with rfl|rfl|rfl|rfl|rfl|rfl;exact⟨.bin 0 l r,rfl⟩;exact⟨.bin 1 l r,rfl⟩;exact⟨.bin 2 l r,rfl⟩;exact⟨.bin 3 l r,rfl⟩;exact⟨.bin 4 l r,rfl⟩;exact⟨.bin 5 l r,rfl⟩
@[go_sem] def sF (op:Int)(name arg:ByteArray)(ix:List (List PV))(e:ER)(b c:List (List PV)):List PV:=[ah op,ah 0,dJ name,dJ arg,.sl ix,ah e.op,ah e.n,dJ e.s,.sl e.l,.sl b,.sl c]
def Qg:Option Ex->ER
 |some e=>xX e
 |none=>⟨0,0,bE,[]⟩
mutual
def pY:Sm->List PV
 | .ite e b c=>sF 2 bE bE [] (xX e) (JX b) (JX c)
 | .whl e b=>sF 3 bE bE [] (xX e) (JX b) []
 | .blk k b=>sF (Sm.op (.blk k [])) (Sm.name (.blk k [])) bE [] (Qg none) (JX b) []
 | .tx b=>sF 7 bE bE [] (Qg none) (JX b) []
 | .atm b=>sF 8 bE bE [] (Qg none) (JX b) []
 |s=>sF s.op s.name s.arg (s.index.map y8) (Qg s.ex) [] []
def JX:List Sm->List (List PV)
 | []=> []
 |s::r=>pY s::JX r
end
theorem Ou:∀l,JX l=l.map pY
 | []=>rfl
 |s::r=>by simp only[JX,kD,Ou r]
theorem fH (s:Sm):pY s=sF s.op s.name s.arg (s.index.map y8) (Qg s.ex) (s.body.map pY) (s.els.map pY):=by cases s<;>simp only[pY,Ou]<;>first|rfl|(rename_i k b;cases k<;>rfl)|skip
@[go_sem] theorem oU (s:Sm):(pY s).length=11:=by rw[fH];rfl
def SmD:Nat->Sm->Prop
 |0,s=>s.body=[]/\s.els=[]
 |d+1,s=>(s.body.length<=10/\∀x∈s.body,SmD d x)/\s.els.length<=10/\∀x∈s.els,SmD d x
theorem nD (s:ByteArray)(e:ER):FnEq Tryz.prog 76 [.pv (dJ s),rw_ e.r] (rw_ (sF 1 s bE [] e [] [])):=by refine wf Tryz.func76 (λ_=> []) (h:=λR a=>?_);refine wb ?_<;>intros;all_goals exact wr a
set_option maxRecDepth 20000
def StC (xs:List UInt8)(d:Nat):Prop:=∀(k:Nat) (m:MS),k<=xs.length->m.held.length+d<=100->ACall Tryz.prog 110 [.ptr 0 0,.pv (ah d)] (m.os xs k) (λv g=>∃(s:Sm) (m':MS) (k':Nat),SmD d s/\m'.held=m.held/\k'<=xs.length/\v=rw_ (pY s)/\g=m'.og xs k')
abbrev ZL (l:List Sm):Obj:= .row 196 11 (l.map pY)
def SsC (xs:List UInt8)(d:Nat):Prop:=∀(k:Nat) (m:MS) (n:Nat),k<=xs.length->m.held.length+d<=100->n<=10->ACall Tryz.prog 75 [.ptr 0 0,.pv (ah d),.pv (ah n)] (m.os xs k) (λv g=>∃(l:List Sm) (m':MS) (k':Nat),l.length<=n/\(∀s∈l,SmD d s)/\m'.held=m.held/\k'<=xs.length/\v= .own 4 l.length/\g=m'.og xs k'++[some (ZL l)])
theorem aau (xs:List UInt8)(d:Nat)(q:StC xs d):SsC xs d:=by
 intro k m n hk hm hn;refine wz Tryz.func75 (λ_=> []) (h:=λR u=>?_);refine wb ?_<;>intros;refine kZ 7 196 11 (by exact we) ?_;refine wl (λt:Nat×List Sm×MS×Nat=> [(0,.ptr 0 0),(1,.pv (ah d)),(2,.pv (ah n)),(7,.own 4 t.2.1.length),(8,.pv (ah t.1))]) (λt=>t.2.2.1.og xs t.2.2.2++[some (ZL t.2.1)]) (λt=>t.1<=n/\t.2.1.length=t.1/\(∀s∈t.2.1,SmD d s)/\t.2.2.1.held=m.held/\t.2.2.2<=xs.length) (λt=>n-t.1) (0,[],m,k) ⟨ay _,rfl,by simp,rfl,hk⟩ (vm [0,1,2,2,27]) (λ⟨i,l,m1,a⟩ ⟨h1,h2,h3,h4,h5⟩=>?_);dsimp only at h1 h2 h3 h4 h5;refine wb (A2.mk ?_ (A2.mk ?_ (A2.mk ?_ ?_)))<;>intros
 any_goals
  have G:l.length<=9:=(by omega);refine wq (q a m1 h5 (by rw[h4];exact hm)) [0,1,3] ?_;rintro r g ⟨s,m2,y,B,D,E,rfl,rfl⟩;refine wb ?_<;>intros;refine aj ⟨(i+1,l++[s],m2,y),⟨by omega,by simp[h2],λx hx=>?_,by rw[D,h4],E⟩,by omega,vm [0,1,2,141,157]⟩;rcases ja.1 hx with hx|hx;exact h3 x hx;rw[lM.1 hx];exact B
 all_goals
  refine wo u (.own 4 l.length) (m1.og xs a++[some (ZL l)]) [0,1,2,3,4] [] ?_;exact⟨l,m1,a,by omega,h3,h4,h5,rfl,rfl⟩
def SsZ (xs:List UInt8)(d:Nat):Prop:=∀(k:Nat) (m:MS) (n:Nat),k<=xs.length->m.held.length+d<=100->n<=10->ACall Tryz.prog 75 [.ptr 0 0,.pv (ah d),.pv (ah n)] (m.os xs k) (λv g=>∃(l:List Sm) (m':MS) (k':Nat),l.length<=n/\(∀s∈l,SmD d s)/\m'.held=m.held/\k'<=xs.length/\v= .pv (.sl (l.map pY))/\g=m'.og xs k')
theorem aav (xs:List UInt8)(d:Nat)(q:StC xs d):SsZ xs d:=by
 intro k m n hk hm hn;refine wz Tryz.func75 (λ_=> []) (h:=λR u=>?_);refine wb ?_<;>intros;refine kZ 7 196 11 (by exact we) ?_;refine wl (λt:Nat×List Sm×MS×Nat=> [(0,.ptr 0 0),(1,.pv (ah d)),(2,.pv (ah n)),(7,.own 4 t.2.1.length),(8,.pv (ah t.1))]) (λt=>t.2.2.1.og xs t.2.2.2++[some (ZL t.2.1)]) (λt=>t.1<=n/\t.2.1.length=t.1/\(∀s∈t.2.1,SmD d s)/\t.2.2.1.held=m.held/\t.2.2.2<=xs.length) (λt=>n-t.1) (0,[],m,k) ⟨ay _,rfl,by simp,rfl,hk⟩ (vm [0,1,2,2,27]) (λ⟨i,l,m1,a⟩ ⟨h1,h2,h3,h4,h5⟩=>?_);dsimp only at h1 h2 h3 h4 h5;refine wb (A2.mk ?_ (A2.mk ?_ (A2.mk ?_ ?_)))<;>intros
 any_goals
  have G:l.length<=9:=(by omega);refine wq (q a m1 h5 (by rw[h4];exact hm)) [0,1,3] ?_;rintro r g ⟨s,m2,y,B,D,E,rfl,rfl⟩;refine wb ?_<;>intros;refine aj ⟨(i+1,l++[s],m2,y),⟨by omega,by simp[h2],λx hx=>?_,by rw[D,h4],E⟩,by omega,vm [0,1,2,141,157]⟩;rcases ja.1 hx with hx|hx;exact h3 x hx;rw[lM.1 hx];exact B
 all_goals
  refine wo u (.pv (.sl (l.map pY))) (m1.og xs a) [0,1,2,3] [(4,none)] ?_;exact⟨l,m1,a,by omega,h3,h4,h5,rfl,rfl⟩
set_option maxRecDepth 20000
theorem E8 (xs:List UInt8)(hx:xs.length<=1000)(d:Nat)(M:SsC xs d)(k:Nat)(m:MS)(s:ByteArray)(hk:k<=xs.length)(hm:m.held.length+d+1<=100):ACall Tryz.prog 152 [.ptr 0 0,.pv (dJ s),.pv (ah d)] (m.os xs k) (λv g=>∃(l:List Sm) (E:MS) (G:Nat),l.length<=10/\(∀s∈l,SmD d s)/\E.held=m.held/\G<=xs.length/\v= .own 4 l.length/\g=E.og xs G++[some (ZL l)]):=by refine wz Tryz.func152 (λ_=> [(4,8)]) (h:=λR N=>?_);refine wb ?_<;>intros;refine wq (iw xs k 2 hx hk (by decide) (by decide)) [1] ?_;rintro r g ⟨rfl,O,B,rfl⟩;have hn:=mF xs k (n:=2) (by decide);refine ws ?_;refine wq (M O { m with held:=m.held++[s] } (1+MO xs k 2) B (by simp;omega) (by omega)) [0,1,67] ?_;rintro r g ⟨l,m2,H,X,U,I,V,rfl,rfl⟩;obtain⟨J,L,a,q,u,y,D⟩:=m2;dsimp only at I;subst I;refine wb ?_<;>intros;have Y:((m.held.length:Int)+1-1).toNat=(m.held.map λs=> [dJ s]).length:=(by simp);refine wo N (.own 4 l.length) (MS.og ⟨J,L,a,q,u,y,m.held⟩ xs H++[some (ZL l)]) [0,1,2,267,164] [] ?_;exact⟨l,⟨J,L,a,q,u,y,m.held⟩,H,by omega,U,rfl,V,rfl,rfl⟩
set_option maxRecDepth 20000
abbrev u8P (n:Int):PV:= .sc (.int .u8 n)
def aco (n:Int):Bool:=decide (97<=n) && decide (n<=122) || decide (65<=n) && decide (n<=90)
def afE (n:Int):Bool:=decide (48<=n) && decide (n<=57)
def afF (n:Int):Bool:=aco n || afE n || decide (n=95)
theorem Ii (n:Int):FnEq Tryz.prog 122 [.pv (u8P n)] (.pv (boolP (aco n))):=by unfold aco;refine wf Tryz.func122 (λ_=> []) (h:=λR a=>?_);refine wb (A2.mk ?_ (A2.mk ?_ (A2.mk ?_ ?_)))<;>intros;all_goals exact wr a
theorem Zc (n:Int):FnEq Tryz.prog 157 [.pv (u8P n)] (.pv (boolP (afE n))):=by unfold afE;refine wf Tryz.func157 (λ_=> []) (h:=λR a=>?_);refine wb (A2.mk ?_ ?_)<;>intros;all_goals exact wr a
theorem Zd (n:Int):FnEq Tryz.prog 124 [.pv (u8P n)] (.pv (boolP (afF n))):=by unfold afF;refine wf Tryz.func124 (λ_=> []) (h:=λR a=>?_);refine wb ?_<;>intros;refine wE (Ii n) ?_;refine wb (A2.mk ?_ ?_)<;>intros;exact wr a;refine wE (Zc n) ?_;refine wb (A2.mk ?_ ?_)<;>intros;all_goals exact wr a
def Oz:List ByteArray:=[⟨#[118,97,114]⟩,⟨#[118,111,108,97,116,105,108,101]⟩,⟨#[109,117,116,101,120]⟩,⟨#[114,119,108,111,99,107]⟩,⟨#[99,111,110,100]⟩,⟨#[102,117,116,117,114,101]⟩,⟨#[116,104,114,101,97,100]⟩,⟨#[105,102]⟩,⟨#[101,108,115,101]⟩,⟨#[119,104,105,108,101]⟩,⟨#[108,111,99,107]⟩,⟨#[114,101,97,100]⟩,⟨#[119,114,105,116,101]⟩,⟨#[116,114,97,110,115,97,99,116,105,111,110]⟩,⟨#[97,116,111,109,105,99]⟩,⟨#[119,97,105,116]⟩,⟨#[110,111,116,105,102,121]⟩,⟨#[110,111,116,105,102,121,97,108,108]⟩,⟨#[115,112,97,119,110]⟩,⟨#[106,111,105,110]⟩,⟨#[115,101,116]⟩,⟨#[103,101,116]⟩]
theorem acp:FnEq Tryz.prog 156 [] (.pv (.sl (je Oz))):=by refine wf Tryz.func156 (λ_=> []) (h:=λR a=>?_);refine wb ?_<;>intros;exact wr a
theorem ao4:Oz.length=22:=rfl
theorem acr (s:ByteArray)(h:Oz.any (λk=>decide (k=s))=false):FnEq Tryz.prog 123 [.pv (dJ s)] (.pv (boolP false)):=by have a:=ao4;refine wf Tryz.func123 (λ_=> []) (h:=λR d=>?_);refine wb ?_<;>intros;refine wE acp ?_;refine wb ?_<;>intros;refine wl (λi:Nat=> [(0,.pv (dJ s)),(3,.pv (.sl (je Oz))),(4,.pv (ah i))]) (λ_=> []) (λi=>i<=Oz.length) (λi=>Oz.length-i) 0 (ay _) (vm []) (λi hi=>?_);refine wb (A2.mk ?_ ?_)<;>intros;refine jJ Oz (λx=> [dJ x]) (by omega) (λx hx=>?_);refine wb (A2.mk ?_ ?_)<;>intros;simp only[JZ,gX] at h;exact absurd ‹_› (h x hx);exact aj ⟨i+1,by omega,by omega,vm []⟩;exact wr d
def kY (s:ByteArray):Bool:=decide (1<=s.size) && decide (s.size<=12) && aco ((s[0]?).getD 0).toNat &&(List.range s.size).all (λi=>afF ((s[i]?).getD 0).toNat) && !Oz.any (λk=>decide (k=s))
theorem jy (s:ByteArray)(h:kY s=true):FnEq Tryz.prog 93 [.pv (dJ s)] (.pv (boolP true)):=by simp only[kY,dH,gX,Et,nO,wX] at h;obtain⟨⟨⟨⟨h1,h2⟩,h3⟩,h4⟩,h5⟩:=h;refine wf Tryz.func93 (λ_=> []) (h:=λR a=>?_);refine wb ?_<;>intros;refine wE (Ii _) ?_;simp only[Int.toNat_zero,h3];refine wb ?_<;>intros;refine wE (acr s h5) ?_;refine wb ?_<;>intros;refine wl (λi:Nat=> [(0,.pv (dJ s)),(3,.pv (ah i))]) (λ_=> []) (λi=>i<=s.size) (λi=>s.size-i) 0 (ay _) (vm []) (λi hi=>?_);refine wb (A2.mk ?_ ?_)<;>intros;refine wE (Zd _) ?_;rw[h4 i (by omega)];refine wb ?_<;>intros;exact aj ⟨i+1,by omega,by omega,vm []⟩;exact wr a
set_option maxRecDepth 20000
set_option maxHeartbeats 4000000
structure DR where
 kind:Int
 name:ByteArray
 size:Int
 init:Int
 on:ByteArray
@[go_sem] def DR.r (d:DR):List PV:=[ah d.kind,ah 0,dJ d.name,ah d.size,ah d.init,dJ d.on]
def dL:List DR:=[⟨1,⟨#[120]⟩,0,0,bE⟩,⟨1,⟨#[121]⟩,0,1,bE⟩,⟨2,⟨#[118]⟩,0,0,bE⟩,⟨1,⟨#[113]⟩,2,0,bE⟩,⟨3,⟨#[109]⟩,0,0,bE⟩,⟨3,⟨#[110]⟩,0,0,bE⟩,⟨4,⟨#[114]⟩,0,0,bE⟩,⟨5,⟨#[99]⟩,0,0,⟨#[109]⟩⟩,⟨6,⟨#[102]⟩,0,0,bE⟩]
@[go_sem] theorem arR:dL.length=9:=rfl
abbrev YZ:List (List PV):=dL.map DR.r
@[go_sem] def thR (name:ByteArray)(lo:List ByteArray)(b:PV):List PV:=[dJ name,ah 0,.sl (je lo),b]
theorem Px:FnEq Tryz.prog 73 [] (.pv (.sl YZ)):=by refine wf Tryz.func73 (λ_=> []) (h:=λR a=>?_);refine wb ?_<;>intros;exact wr a
theorem Ih (l:List DR)(s:ByteArray)(d:l.length<=1000):FnEq Tryz.prog 140 [.pv (.sl (l.map DR.r)),.pv (dJ s)] (.pv (ah (jd (l.map DR.name) s))):=by
 refine wf Tryz.func140 (λ_=> []) (h:=λR a=>?_);refine wb ?_<;>intros;refine wl (λi:Nat=> [(0,.pv (.sl (l.map DR.r))),(1,.pv (dJ s)),(5,.pv (ah i))]) (λ_=> []) (λi=>i<=l.length/\jd (l.map DR.name) s=gu s i ((l.map DR.name).drop i)) (λi=>l.length-i) 0 ⟨ay _,rfl⟩ (vm []) (λi ⟨hi,ha⟩=>?_);refine wb (A2.mk ?_ ?_)<;>intros
 . have h2:i<l.length:=(by omega);refine aJ (x:=l[i]) (zD _) (by simp[h2]) rfl ?_;refine wb (A2.mk ?_ ?_)<;>intros
   . rw[at_hit (i:=i) (by simpa using h2) (by simpa using ‹l[i].name=s›) ha] at a;exact wr a
   . exact aj ⟨i+1,⟨h2,oQ (i:=i) (by simpa using h2) (by simpa using ‹_›) ha⟩,by omega,vm []⟩
 . rw[uq (i:=i) (by simp;omega) ha] at a;exact wr a
set_option maxRecDepth 20000
def aeS (n:Int):Int:=if n=1\/n=2 then 0 else if 3<=n/\n<=5 then 1 else if 6<=n/\n<=18 then 2 else -1
theorem oH (n r:Int)(h:aeS n=r):FnEq Tryz.prog 181 [.pv (ah n)] (.pv (ah r)):=by unfold aeS at h;refine wf Tryz.func181 (λ_=> []) (h:=λR a=>?_);refine wb (A2.mk ?_ (A2.mk ?_ (A2.mk ?_ (A2.mk ?_ (A2.mk ?_ ?_)))))<;>intros;all_goals exact wr a
theorem Ye:FnEq Tryz.prog 177 [rw_ (Qg none).r] (.pv (boolP true)):=by unfold Qg;refine wf Tryz.func177 (λ_=> []) (h:=λR a=>?_);refine wb ?_<;>intros;all_goals exact wr a
attribute [local go_sem] y8
theorem sO (l:Lf):FnEq Tryz.prog 176 [rw_ (y8 l)] (.pv (boolP true)):=by
 cases l with
 |
  num n=>
  simp only[y8,lfE,Lf.op,Lf.n,Lf.name];refine wf Tryz.func176 (λ_=> [(1,4),(2,4)]) (h:=λR a=>?_);refine wb ?_<;>intros;refine wE (oH _ 0 rfl) ?_;refine wb ?_<;>intros;refine w1 ?_;refine wb ?_<;>intros;exact wr a
 |
  var k=>
  cases k
  all_goals
   simp only[y8,lfE,Lf.op,Lf.n,Lf.name,Nm.str];refine wf Tryz.func176 (λ_=> [(1,4),(2,4)]) (h:=λR a=>?_);refine wb ?_<;>intros;refine wE (oH _ 0 rfl) ?_;refine wb ?_<;>intros;refine wE (jy _ ?_) ?_;decide+kernel;refine wb ?_<;>intros;refine w1 ?_;refine wb ?_<;>intros;exact wr a
theorem Nh (x:Ex):FnEq Tryz.prog 176 [rw_ (xX x).r] (.pv (boolP true)):=by
 cases x with
 |
  leaf l=>
  have:=sO l
  cases l<;>exact this
 |
  idx l=>
  simp only[xX,Ex.op,Ex.n,Ex.name,Ex.kids];refine wf Tryz.func176 (λ_=> [(1,4),(2,4)]) (h:=λR a=>?_);refine wb ?_<;>intros;refine wE (oH _ 1 rfl) ?_;refine wb ?_<;>intros;refine wE (jy _ ?_) ?_;decide+kernel;refine wb ?_<;>intros;refine w2 ?_;refine wb ?_<;>intros;refine az (by omega) rfl rfl ?_;refine wb ?_<;>intros;refine wE (sO l) ?_;refine wb ?_<;>intros;exact wr a
 |
  bin k l r=>
  have hk:aeS (binOp k)=2/\binOp k≠1/\binOp k≠2/\binOp k≠3:=(by revert k;decide);obtain⟨hk,d,q,u⟩:=hk;simp only[xX,Ex.op,Ex.n,Ex.name,Ex.kids];generalize binOp k=op at hk d q u;refine wf Tryz.func176 (λ_=> [(1,4),(2,4)]) (h:=λR a=>?_);refine wb ?_<;>intros;refine wE (oH _ 2 hk) ?_;refine wb ?_<;>intros;refine w3 ?_;refine wb ?_<;>intros;refine az (by omega) rfl rfl ?_;refine wb ?_<;>intros;refine wE (sO l) ?_;refine wb ?_<;>intros;refine az (by omega) rfl rfl ?_;refine wb ?_<;>intros;refine wE (sO r) ?_;refine wb ?_<;>intros;exact wr a
end AM
namespace AM
open Go Go.Proofs Mk
set_option maxRecDepth 20000
set_option maxHeartbeats 4000000
@[go_sem] theorem amn {s:Sm} :List.take 11 ((pY s).map AV.pv)=(pY s).map AV.pv:=uy (by simp[oU])
abbrev UN (l:List Sm):PV:= .sl (l.map pY)
def ShS (s:Sm):Prop:=FnEq Tryz.prog 166 [rw_ (pY s)] (.pv (boolP true))
def ShL (l:List Sm):Prop:=FnEq Tryz.prog 139 [.pv (UN l)] (.pv (boolP true))
theorem shL (l:List Sm)(d:l.length<=1000)(h:∀s∈l,ShS s):ShL l:=by unfold ShL;refine wf Tryz.func139 (λ_=> []) (h:=λR a=>?_);refine wb ?_<;>intros;refine wl (λi:Nat=> [(0,.pv (UN l)),(3,.pv (ah i))]) (λ_=> []) (λi=>i<=l.length) (λi=>l.length-i) 0 (ay _) (vm []) (λi hi=>?_);refine wb (A2.mk ?_ ?_)<;>intros;refine jJ l pY (by omega) (λs hs=>?_);refine wb ?_<;>intros;refine wE (h s hs) ?_;refine wb ?_<;>intros;exact aj ⟨i+1,by omega,by omega,vm []⟩;exact wr a
theorem vC (k:Nat):aS k=⟨#[109,97,105,110]⟩\/aS k=⟨#[116,49]⟩\/aS k=⟨#[116,50]⟩\/aS k=⟨#[116,51]⟩:=by
 match k with
 |0=>exact .inl rfl
 |1=>exact .inr (.inl rfl)
 |2=>exact .inr (.inr (.inl rfl))
 |k+3=>exact .inr (.inr (.inr rfl))
attribute [local go_sem] y8
theorem shR (op:Int)(name arg:ByteArray)(ix:List Lf)(e:Option Ex)(b c:List Sm)(hb:ShL b)(he:ShL c)(hi:ix=[]\/op=1/\∃i,ix=[i])
 (h:e=none/\name=bE/\(op=7\/op=8)/\arg=bE/\c=[]\/e=none/\kY name=true/\1<=name.size/\(4<=op/\op<=6)/\arg=bE/\c=[]\/e=none/\kY name=true/\1<=name.size/\(9<=op/\op<=13)/\arg=bE/\b=[]/\c=[]\/e=none/\kY name=true/\1<=name.size/\op=15/\kY arg=true/\1<=arg.size/\b=[]/\c=[]\/
  ∃x,e=some x/\arg=bE/\(name=bE/\(op=2\/op=3/\c=[])\/kY name=true/\1<=name.size/\(op=1\/op=14)/\b=[]/\c=[])):
 FnEq Tryz.prog 166 [rw_ (sF op name arg (ix.map y8) (Qg e) (b.map pY) (c.map pY))] (.pv (boolP true)):=by
 unfold ShL at hb he;obtain⟨rfl,rfl,rfl|rfl,rfl,rfl⟩|⟨rfl,hn,hs,h,rfl,rfl⟩|⟨rfl,hn,hs,h,rfl,rfl,rfl⟩|⟨rfl,hn,hs,rfl,ha,has,rfl,rfl⟩|⟨x,rfl,rfl,⟨rfl,rfl|⟨rfl,rfl⟩⟩|⟨hn,hs,rfl|rfl,rfl,rfl⟩⟩:=h
 all_goals
  obtain rfl|⟨h1,i,rfl⟩:=hi;all_goals first|(exfalso;omega)|skip
  all_goals
   refine wf Tryz.func166 (λ_=> []) (h:=λR a=>?_);(repeat (refine wb ?_;intros;first|refine wE (jy name hn) ?_|refine wE (jy arg ha) ?_|refine wE (sO i) ?_|refine wE (Nh x) ?_|refine wE Ye ?_|refine wE hb ?_|refine wE he ?_|refine az (by omega) rfl rfl ?_));refine wb ?_;intros;exact wr a
theorem shS (s:Sm)(hb:ShL s.body)(he:ShL s.els):ShS s:=by
 unfold ShS;rw[fH];refine shR _ _ _ _ _ _ _ hb he ?_ ?_
 cases s<;>first|exact .inl rfl|exact .inr ⟨rfl,_,rfl⟩
 . cases s with
   |asg k e=>exact .inr (.inr (.inr (.inr ⟨e,rfl,rfl,.inr ⟨show kY k.str=true by cases k<;>decide+kernel,show 1<=k.str.size by cases k<;>decide,.inl rfl,rfl,rfl⟩⟩)))
   |asq i e=>exact .inr (.inr (.inr (.inr ⟨e,rfl,rfl,.inr ⟨by show kY ⟨#[113]⟩=true;decide+kernel,ak 1,.inl rfl,rfl,rfl⟩⟩)))
   |set e=>exact .inr (.inr (.inr (.inr ⟨e,rfl,rfl,.inr ⟨by show kY ⟨#[102]⟩=true;decide+kernel,ak 1,.inr rfl,rfl,rfl⟩⟩)))
   |ite e b c=>exact .inr (.inr (.inr (.inr ⟨e,rfl,rfl,.inl ⟨rfl,.inl rfl⟩⟩)))
   |whl e b=>exact .inr (.inr (.inr (.inr ⟨e,rfl,rfl,.inl ⟨rfl,.inr ⟨rfl,rfl⟩⟩⟩)))
   |blk k b=>exact .inr (.inl ⟨rfl,by cases k<;>(simp only[Sm.name];decide+kernel),by cases k<;>exact ak 1,by cases k<;>(simp only[Sm.op];decide),rfl,rfl⟩)
   |tx b=>exact .inl ⟨rfl,rfl,.inl rfl,rfl,rfl⟩
   |atm b=>exact .inl ⟨rfl,rfl,.inr rfl,rfl,rfl⟩
   |sig k=>exact .inr (.inr (.inl ⟨rfl,by show kY ⟨#[99]⟩=true;decide+kernel,ak 1,by cases k<;>decide,rfl,rfl,rfl⟩))
   |
    spawn k=>
    have:=vC k;exact .inr (.inr (.inl ⟨rfl,by simp only[Sm.name];obtain h|h|h|h:=this<;>(rw[h];decide+kernel),by simp only[Sm.name];obtain h|h|h|h:=this<;>(rw[h];decide),by simp only[Sm.op];decide,rfl,rfl,rfl⟩))
   |join=>exact .inr (.inr (.inl ⟨rfl,by show kY ⟨#[116,49]⟩=true;decide+kernel,show 1<=ByteArray.size ⟨#[116,49]⟩ by decide,by decide,rfl,rfl,rfl⟩))
   |get=>exact .inr (.inr (.inr (.inl ⟨rfl,by show kY ⟨#[97]⟩=true;decide+kernel,ak 1,rfl,by show kY ⟨#[102]⟩=true;decide+kernel,ak 1,rfl,rfl⟩)))
theorem abd:∀(d:Nat) (s:Sm),SmD d s->ShS s
 |0,s,h=>shS s (h.1▸shL [] (by decide) (by simp)) (h.2▸shL [] (by decide) (by simp))
 |d+1,s,h=>shS s (shL _ (by have:=h.1.1;omega) λx hx=>abd d x (h.1.2 x hx)) (shL _ (by have:=h.2.1;omega) λx hx=>abd d x (h.2.2 x hx))
end AM
namespace AM
open Go Go.Proofs Mk
set_option maxRecDepth 20000
set_option maxHeartbeats 800000
@[go_sem] def st0:Obj:= .box [.pv (ah 0),.pv (ah 0),.pv (dJ bE),.pv (dJ bE),.emp,.pv (ah 0),.pv (ah 0),.pv (dJ bE),.emp,.emp,.emp]
@[go_sem] def MS.os3 (m:MS)(xs:List UInt8)(k:Nat):List (Option Obj):=(m.os xs k).map some++[some st0]
def XT (d q:Nat)(n b:Bool)(t:Nat):List (Nat×AV):=[(0,.ptr 0 0),(1,.pv (ah d)),(4,.ptr 3 0),(5,.pv (ah q)),(6,.pv (boolP n)),(t,.pv (boolP b))]
attribute [go_sem] XT
@[go_sem] theorem ald {d:Nat} :((d+1:Nat):Int)-1=(d:Int):=by omega
def aqD:List Nm:=[.x,.y,.x,.v]
def aqE:List Nm:=[.a,.b]
theorem gz {s:Sm}(h:s.body=[])(h2:s.els=[]):∀d,SmD d s
 |0=>⟨h,h2⟩
 |d+1=>by unfold SmD;rw[h,h2];simp
theorem ac3 (xs:List UInt8)(hx:xs.length<=1000)(d:Nat)(IH:∀u,u<d->SsC xs u):StC xs d:=by
 intro k m hk hm;refine wz Tryz.func110 (λi=>if i=5 then [(2,5),(3,5)] else if i=7 then [(6,9),(7,9)] else []) (h:=λR M=>?_);refine ws ?_;refine w0 ?_;refine wg ?_;refine wg ?_;refine iI rfl ?_;refine ws ?_;refine wq (iw xs k 18 hx hk (by decide) (by decide)) [1] ?_;rintro r g ⟨rfl,B,E,rfl⟩;have hn:=mF xs k (n:=18) (by decide);generalize MO xs k 18=q at hn;refine ws ?_;refine w0 ?_;generalize a8:({ m with left:=IntKind.i64.wrap (m.left-1) } :MS)=m1;refine jc (λb:Bool=>XT d q b b 6) (λ_=>m1.os3 xs B) (λb=>b=true->0<d) ?_ (λZ U=>?_)
 . subst a8;refine wb (A2.mk ?_ (A2.mk ?_ ?_))<;>intros
   all_goals first
    |exact aj ⟨false,(λh=>by cases h),vm [0,1,2,3]⟩
    |exact aj ⟨!m.tx,(λ_=>by omega),vm [0,1,2,3]⟩
 have D:m1.held=m.held:=(by rw[<-a8]);rw[<-D] at hm;clear a8;refine ws ?_;refine w0 ?_;refine iI rfl ?_;refine ws ?_;refine w0 ?_;((refine jr rfl ?_;refine ws ?_;first|(refine⟨λ_=>?_,λ_=>?_⟩<;>first|(exfalso;omega)|skip)|(rw[gQ];refine⟨λ_=>?_,λ_=>?_⟩)|skip));refine w0 ?_;refine iI rfl ?_;refine ws ?_;refine jJ aqD (λn=> [dJ n.str]) (j:=q) (show q<4 by omega) (λn _=>?_);refine wb ?_<;>intros;refine wQ (qo xs B m1 hx E) [0,1,2] ⟨⟨1,(0:Nat),bE,[]⟩,k,.leaf (.num (by decide)),hk,rfl,rfl⟩ ?_;rintro r g ⟨e,I,he,y,rfl,rfl⟩;obtain⟨x,rfl⟩:=he.of;refine wb ?_<;>intros;refine wE (nD n.str (xX x)) ?_;refine wb ?_<;>intros;refine wo M (rw_ (sF 1 n.str bE [] (xX x) [] [])) (m1.og xs I) [0,1,2,2] [] ?_;exact⟨.asg n x,m1,I,gz rfl rfl d,D,y,rfl,rfl⟩
 . refine w0 ?_;refine iI rfl ?_;refine ws ?_;refine w0 ?_;((refine jr rfl ?_;refine ws ?_;first|(refine⟨λ_=>?_,λ_=>?_⟩<;>first|(exfalso;omega)|skip)|(rw[gQ];refine⟨λ_=>?_,λ_=>?_⟩)|skip));refine w0 ?_;refine iI rfl ?_;refine wb ?_<;>intros;refine wQ (iw xs B 2 hx E (by decide) (by decide)) [1] ⟨rfl,k,hk,rfl⟩ ?_;rintro r g ⟨rfl,I,y,rfl⟩;refine wb ?_<;>intros;refine jJ aqE (λn=> [dJ n.str]) (mF xs B (by decide)) (λn _=>?_);refine ws ?_;refine wQ (qo xs I m1 hx y) [0,1,2] ⟨⟨1,(0:Nat),bE,[]⟩,k,.leaf (.num (by decide)),hk,rfl,rfl⟩ ?_;rintro r g ⟨e,G,he,a7,rfl,rfl⟩;obtain⟨x,rfl⟩:=he.of;refine wb ?_<;>intros;refine wE (nD n.str (xX x)) ?_;refine wb ?_<;>intros;refine wo M (rw_ (sF 1 n.str bE [] (xX x) [] [])) (m1.og xs G) [0,1,2,2] [] ?_;exact⟨.asg n x,m1,G,gz rfl rfl d,D,a7,rfl,rfl⟩
   . refine w0 ?_;refine iI rfl ?_;refine ws ?_;refine w0 ?_;((refine jr rfl ?_;refine ws ?_;first|(refine⟨λ_=>?_,λ_=>?_⟩<;>first|(exfalso;omega)|skip)|(rw[gQ];refine⟨λ_=>?_,λ_=>?_⟩)|skip));refine w0 ?_;refine iI rfl ?_;refine ws ?_;refine wq (yc xs B m1 hx E) [0,1,2] ?_;rintro r g ⟨e,I,he,y,rfl,rfl⟩;obtain⟨i,rfl⟩:=he.of;refine ws ?_;refine wq (qo xs I m1 hx y) [0,1,2] ?_;rintro r g ⟨e,G,he,a7,rfl,rfl⟩;obtain⟨x,rfl⟩:=he.of;refine wb ?_<;>intros;refine wo M (rw_ (sF 1 ⟨#[113]⟩ bE [(lfE i).r] (xX x) [] [])) (m1.og xs G) [0,1,2,2] [] ?_;exact⟨.asq i x,m1,G,gz rfl rfl d,D,a7,rfl,rfl⟩
     . refine w0 ?_;refine jc (λb:Bool=>XT d q Z b 74) (λ_=>m1.os3 xs B) (λb=>b=true->0<d) ?_ (λb hb=>?_)
       . refine wb (A2.mk ?_ ?_)<;>intros
         all_goals first
          |exact aj ⟨false,(λh=>by cases h),vm [0,1,2,3]⟩
          |exact aj ⟨decide (0<(d:Int)),(λh=>by simpa using h),vm [0,1,2,3]⟩
       refine ws ?_;(((refine jr rfl ?_;refine ws ?_;first|(refine⟨λ_=>?_,λ_=>?_⟩<;>first|(exfalso;omega)|skip)|(rw[gQ];refine⟨λ_=>?_,λ_=>?_⟩)|skip));have hd:=hb ‹_›;obtain⟨u,rfl⟩:∃u,d=u+1:=⟨d-1,by omega⟩;refine w0 ?_;refine iI rfl ?_;refine ws ?_;refine wq (qo xs B m1 hx E) [0,1,2] ?_;rintro r g ⟨e,I,he,y,rfl,rfl⟩;obtain⟨x,rfl⟩:=he.of;refine ws ?_;refine wq (IH u (by omega) I m1 1 y (by omega) (by decide)) [0,1,2] ?_;rintro r g ⟨l,m2,G,q1,N,L,O,rfl,rfl⟩;refine wb ?_<;>intros;have ab:m2.held.length+u<=100:=(by rw[L];omega);refine wq (iw xs G 2 hx O (by decide) (by decide)) [1] ?_;rintro r g ⟨rfl,k4,aa,rfl⟩;refine wb (A2.mk ?_ ?_)<;>intros;refine wq (IH u (by omega) k4 m2 1 aa ab (by decide)) [0,1,44] ?_;rintro r g ⟨l2,m3,k5,p1,p2,p3,p4,rfl,rfl⟩;refine wb ?_<;>intros;refine wo M (rw_ (sF 2 bE bE [] (xX x) (l.map pY) (l2.map pY))) (m3.og xs k5) [0,1,2,148] [(45,none),(149,none)] ?_;exact⟨.ite x l l2,m3,k5,⟨⟨by show l.length<=10;omega,N⟩,by show l2.length<=10;omega,p2⟩,by rw[p3,L,D],p4,by rw[fH];rfl,rfl⟩;refine wo M (rw_ (sF 2 bE bE [] (xX x) (l.map pY) [])) (m2.og xs k4) [0,1,2,44] [(45,none)] ?_;exact⟨.ite x l [],m2,k4,⟨⟨by show l.length<=10;omega,N⟩,ay _,λ_ h=>by cases h⟩,by rw[L,D],aa,by rw[fH];rfl,rfl⟩);refine w0 ?_;refine jc (λb:Bool=>XT d q Z b 100) (λ_=>m1.os3 xs B) (λb=>b=true->0<d) ?_ (λb hb=>?_)
       . refine wb (A2.mk ?_ ?_)<;>intros
         all_goals first
          |exact aj ⟨false,(λh=>by cases h),vm [0,1,2,3]⟩
          |exact aj ⟨decide (0<(d:Int)),(λh=>by simpa using h),vm [0,1,2,3]⟩
       refine ws ?_;(((refine jr rfl ?_;refine ws ?_;first|(refine⟨λ_=>?_,λ_=>?_⟩<;>first|(exfalso;omega)|skip)|(rw[gQ];refine⟨λ_=>?_,λ_=>?_⟩)|skip));have hd:=hb ‹_›;obtain⟨u,rfl⟩:∃u,d=u+1:=⟨d-1,by omega⟩;refine w0 ?_;refine wg ?_;refine wg ?_;refine iI rfl ?_;refine ws ?_;refine wE (x9 _) ?_;refine wb ?_<;>intros;refine wE (DU _) ?_;refine wb ?_<;>intros;refine wE (zh 13 ⟨2,0,⟨#[98]⟩,[]⟩ ⟨1,2,bE,[]⟩) ?_;refine wb ?_<;>intros;refine wq (IH u (by omega) B { m1 with loop:=true } 1 E (by show m1.held.length+u<=100;omega) (by decide)) [0,1,2] ?_;rintro r g ⟨l,⟨pF,uJ,H,V,X,Y,a6⟩,G,q1,N,L,O,rfl,rfl⟩;dsimp only at L;subst L;refine ws ?_;refine wE (x9 _) ?_;refine wb ?_<;>intros;refine wE (DU _) ?_;refine wb ?_<;>intros;refine wE (zh 6 ⟨2,0,⟨#[98]⟩,[]⟩ ⟨1,1,bE,[]⟩) ?_;refine wb ?_<;>intros;refine wE (nD ⟨#[98]⟩ ⟨6,0,bE,[ER.r ⟨2,0,⟨#[98]⟩,[]⟩,ER.r ⟨1,1,bE,[]⟩]⟩) ?_;refine wb ?_<;>intros;refine wo M (rw_ (sF 3 bE bE [] ⟨13,0,bE,[ER.r ⟨2,0,⟨#[98]⟩,[]⟩,ER.r ⟨1,2,bE,[]⟩]⟩ (l.map pY++[sF 1 ⟨#[98]⟩ bE [] ⟨6,0,bE,[ER.r ⟨2,0,⟨#[98]⟩,[]⟩,ER.r ⟨1,1,bE,[]⟩]⟩ [] []]) [])) (MS.og ⟨pF,uJ,H,V,X,m1.loop,m1.held⟩ xs G) [0,1,2,124] [(172,none)] ?_;refine⟨.whl (.bin 4 (.var .b) (.num 2)) (l++[.asg .b (.bin 0 (.var .b) (.num 1))]),⟨pF,uJ,H,V,X,m1.loop,m1.held⟩,G,⟨⟨by show (l++_).length<=10;simp;omega,λs hs=>?_⟩,ay _,λ_ h=>by cases h⟩,D,O,by rw[fH];simp only[Sm.body,fF];rfl,rfl⟩;rcases ja.1 hs with hs|hs;exact N s hs;rw[lM.1 hs];exact gz rfl rfl u);refine w0 ?_;refine jc (λb:Bool=>XT d q Z b 133) (λ_=>m1.os3 xs B) (λb=>b=true->(q=8\/q=9)/\0<d) ?_ (λb hb=>?_)
       . refine wb (A2.mk ?_ (A2.mk ?_ (A2.mk ?_ (A2.mk ?_ ?_))))<;>intros
         all_goals first
          |exact aj ⟨false,(λh=>by cases h),vm [0,1,2,3]⟩
          |skip
         all_goals first
          |refine az (x:=[dJ ⟨#[109]⟩]) (by omega) (by rw[show ((q:Int)-8).toNat=0 by omega];rfl) rfl ?_
          |refine az (x:=[dJ ⟨#[110]⟩]) (by omega) (by rw[show ((q:Int)-8).toNat=1 by omega];rfl) rfl ?_
         all_goals
          refine ws ?_;(first|refine wq (uu xs B m1 ⟨#[109]⟩ (by omega)) [0,1,2] ?_|refine wq (uu xs B m1 ⟨#[110]⟩ (by omega)) [0,1,2] ?_);rintro r g ⟨⟨hb,rfl⟩,rfl⟩;refine wb ?_<;>intros;exact aj ⟨!hb,(λ_=>⟨by omega,U ‹_›⟩),vm [0,1,2,3]⟩
       refine ws ?_;(((refine jr rfl ?_;refine ws ?_;first|(refine⟨λ_=>?_,λ_=>?_⟩<;>first|(exfalso;omega)|skip)|(rw[gQ];refine⟨λ_=>?_,λ_=>?_⟩)|skip));obtain⟨hq,hd⟩:=hb ‹_›;obtain⟨u,rfl⟩:∃u,d=u+1:=⟨d-1,by omega⟩;refine w0 ?_;refine iI rfl ?_;refine ws ?_;rcases hq with hq|hq;refine az (x:=[dJ ⟨#[109]⟩]) (by omega) (by rw[show ((q:Int)-8).toNat=0 by omega];rfl) rfl ?_;refine wb ?_<;>intros;refine wq (E8 xs hx u (IH u (by omega)) B m1 ⟨#[109]⟩ E (by omega)) [0,1,2] ?_;rintro r g ⟨l,m2,G,q1,N,L,O,rfl,rfl⟩;refine wb ?_<;>intros;refine wo M (rw_ (sF 4 ⟨#[109]⟩ bE [] ⟨0,0,bE,[]⟩ (l.map pY) [])) (m2.og xs G) [0,1,2,92] [(93,none)] ?_;exact⟨.blk .m l,m2,G,⟨⟨q1,N⟩,ay _,λ_ h=>by cases h⟩,by rw[L,D],O,by rw[fH];rfl,rfl⟩;refine az (x:=[dJ ⟨#[110]⟩]) (by omega) (by rw[show ((q:Int)-8).toNat=1 by omega];rfl) rfl ?_;refine wb ?_<;>intros;refine wq (E8 xs hx u (IH u (by omega)) B m1 ⟨#[110]⟩ E (by omega)) [0,1,2] ?_;rintro r g ⟨l,m2,G,q1,N,L,O,rfl,rfl⟩;refine wb ?_<;>intros;refine wo M (rw_ (sF 4 ⟨#[110]⟩ bE [] ⟨0,0,bE,[]⟩ (l.map pY) [])) (m2.og xs G) [0,1,2,92] [(93,none)] ?_;exact⟨.blk .n l,m2,G,⟨⟨q1,N⟩,ay _,λ_ h=>by cases h⟩,by rw[L,D],O,by rw[fH];rfl,rfl⟩);refine w0 ?_;refine jc (λb:Bool=>XT d q Z b 165) (λ_=>m1.os3 xs B) (λb=>b=true->(q=10\/q=11)/\0<d) ?_ (λb hb=>?_)
       . refine wb (A2.mk ?_ (A2.mk ?_ (A2.mk ?_ (A2.mk ?_ ?_))))<;>intros
         all_goals first
          |exact aj ⟨false,(λh=>by cases h),vm [0,1,2,3]⟩
          |skip
         all_goals
          refine wq (uu xs B m1 ⟨#[114]⟩ (by omega)) [0,1,2] ?_;rintro r g ⟨⟨hb,rfl⟩,rfl⟩;refine wb ?_<;>intros;exact aj ⟨!hb,(λ_=>⟨by omega,U ‹_›⟩),vm [0,1,2,3]⟩
       refine ws ?_;(((refine jr rfl ?_;refine ws ?_;first|(refine⟨λ_=>?_,λ_=>?_⟩<;>first|(exfalso;omega)|skip)|(rw[gQ];refine⟨λ_=>?_,λ_=>?_⟩)|skip));obtain⟨hq,hd⟩:=hb ‹_›;obtain⟨u,rfl⟩:∃u,d=u+1:=⟨d-1,by omega⟩;have J:(q:Int)-10+5=5\/(q:Int)-10+5=6:=(by omega);refine w0 ?_;refine iI rfl ?_;refine ws ?_;refine wq (E8 xs hx u (IH u (by omega)) B m1 ⟨#[114]⟩ E (by omega)) [0,1,2] ?_;rintro r g ⟨l,m2,G,q1,N,L,O,rfl,rfl⟩;refine wb ?_<;>intros;refine wo M (rw_ (sF ((q:Int)-10+5) ⟨#[114]⟩ bE [] ⟨0,0,bE,[]⟩ (l.map pY) [])) (m2.og xs G) [0,1,2,52] [(53,none)] ?_;rcases J with J|J;exact⟨.blk .rd l,m2,G,⟨⟨q1,N⟩,ay _,λ_ h=>by cases h⟩,by rw[L,D],O,by rw[fH,J];rfl,rfl⟩;exact⟨.blk .wr l,m2,G,⟨⟨q1,N⟩,ay _,λ_ h=>by cases h⟩,by rw[L,D],O,by rw[fH,J];rfl,rfl⟩);refine w0 ?_;refine jc (λb:Bool=>XT d q Z b 188) (λ_=>m1.os3 xs B) (λb=>b=true->0<d) ?_ (λb hb=>?_)
       . refine wb (A2.mk ?_ ?_)<;>intros
         all_goals first
          |exact aj ⟨false,(λh=>by cases h),vm [0,1,2,3]⟩
          |exact aj ⟨Z,U,vm [0,1,2,3]⟩
       refine ws ?_;(((refine jr rfl ?_;refine ws ?_;first|(refine⟨λ_=>?_,λ_=>?_⟩<;>first|(exfalso;omega)|skip)|(rw[gQ];refine⟨λ_=>?_,λ_=>?_⟩)|skip));have hd:=hb ‹_›;obtain⟨u,rfl⟩:∃u,d=u+1:=⟨d-1,by omega⟩;refine w0 ?_;refine wg ?_;refine iI rfl ?_;refine ws ?_;refine wq (iw xs B 2 hx E (by decide) (by decide)) [1] ?_;rintro r g ⟨rfl,I,y,rfl⟩;have ad:=mF xs B (n:=2) (by decide);refine ws ?_;refine wq (IH 0 (by omega) I { m1 with tx:=true } (1+MO xs B 2) y (by show m1.held.length+0<=100;omega) (by omega)) [0,1,2] ?_;rintro r g ⟨l,⟨pF,uJ,H,V,X,Y,a6⟩,G,q1,N,L,O,rfl,rfl⟩;dsimp only at L;subst L;refine wb ?_<;>intros;refine wo M (rw_ (sF 7 bE bE [] ⟨0,0,bE,[]⟩ (l.map pY) [])) (MS.og ⟨pF,uJ,H,false,X,Y,m1.held⟩ xs G) [0,1,2,92] [(93,none)] ?_;exact⟨.tx l,⟨pF,uJ,H,false,X,Y,m1.held⟩,G,⟨⟨by show l.length<=10;omega,λs hs=>gz (N s hs).1 (N s hs).2 u⟩,ay _,λ_ h=>by cases h⟩,D,O,by rw[fH];rfl,rfl⟩);refine w0 ?_;refine jc (λb:Bool=>XT d q Z b 210) (λ_=>m1.os3 xs B) (λb=>b=true->0<d) ?_ (λb hb=>?_)
       . refine wb (A2.mk ?_ (A2.mk ?_ ?_))<;>intros
         all_goals first
          |exact aj ⟨false,(λh=>by cases h),vm [0,1,2,3]⟩
          |exact aj ⟨!m1.atomic,(λ_=>U ‹_›),vm [0,1,2,3]⟩
       refine ws ?_;(((refine jr rfl ?_;refine ws ?_;first|(refine⟨λ_=>?_,λ_=>?_⟩<;>first|(exfalso;omega)|skip)|(rw[gQ];refine⟨λ_=>?_,λ_=>?_⟩)|skip));have hd:=hb ‹_›;obtain⟨u,rfl⟩:∃u,d=u+1:=⟨d-1,by omega⟩;refine w0 ?_;refine wg ?_;refine iI rfl ?_;refine ws ?_;refine wq (IH u (by omega) B { m1 with atomic:=true } 2 E (by show m1.held.length+u<=100;omega) (by omega)) [0,1,2] ?_;rintro r g ⟨l,⟨pF,uJ,H,V,X,Y,a6⟩,G,q1,N,L,O,rfl,rfl⟩;dsimp only at L;subst L;refine wb ?_<;>intros;refine wo M (rw_ (sF 8 bE bE [] ⟨0,0,bE,[]⟩ (l.map pY) [])) (MS.og ⟨pF,uJ,H,V,false,Y,m1.held⟩ xs G) [0,1,2,60] [(61,none)] ?_;exact⟨.atm l,⟨pF,uJ,H,V,false,Y,m1.held⟩,G,⟨⟨by show l.length<=10;omega,N⟩,ay _,λ_ h=>by cases h⟩,D,O,by rw[fH];rfl,rfl⟩);refine w0 ?_;refine jc (λb:Bool=>XT d q Z b 235) (λ_=>m1.os3 xs B) (λb=>b=true->0<d) ?_ (λb hb=>?_)
       . refine wb (A2.mk ?_ (A2.mk ?_ (A2.mk ?_ ?_)))<;>intros
         all_goals first
          |exact aj ⟨false,(λh=>by cases h),vm [0,1,2,3]⟩
          |skip
         all_goals
          refine wq (uu xs B m1 ⟨#[109]⟩ (by omega)) [0,1,2] ?_;rintro r g ⟨⟨hb,rfl⟩,rfl⟩;refine wb ?_<;>intros;exact aj ⟨!hb,(λ_=>U ‹_›),vm [0,1,2,3]⟩
       refine ws ?_;(((refine jr rfl ?_;refine ws ?_;first|(refine⟨λ_=>?_,λ_=>?_⟩<;>first|(exfalso;omega)|skip)|(rw[gQ];refine⟨λ_=>?_,λ_=>?_⟩)|skip));have hd:=hb ‹_›;obtain⟨u,rfl⟩:∃u,d=u+1:=⟨d-1,by omega⟩;refine w0 ?_;refine iI rfl ?_;refine ws ?_;refine wE (x9 _) ?_;refine wb ?_<;>intros;refine wE (nD ⟨#[97]⟩ ⟨2,0,⟨#[120]⟩,[]⟩) ?_;refine wb ?_<;>intros;refine wo M (rw_ (sF 4 ⟨#[109]⟩ bE [] ⟨0,0,bE,[]⟩ [sF 9 ⟨#[99]⟩ bE [] ⟨0,0,bE,[]⟩ [] [],sF 1 ⟨#[97]⟩ bE [] ⟨2,0,⟨#[120]⟩,[]⟩ [] []] [])) (m1.og xs B) [0,1,2,2] [] ?_;exact⟨.blk .m [.sig .wait,.asg .a (.leaf (.var .x))],m1,B,⟨⟨by decide,by simp only[Sm.body,Tj];exact⟨gz rfl rfl u,gz rfl rfl u,by simp⟩⟩,ay _,λ_ h=>by cases h⟩,D,E,by rw[fH];rfl,rfl⟩);refine w0 ?_;refine jc (λb:Bool=>XT d q Z b 258) (λ_=>m1.os3 xs B) (λb=>b=true->0<d) ?_ (λb hb=>?_)
       . refine wb (A2.mk ?_ (A2.mk ?_ ?_))<;>intros
         all_goals first
          |exact aj ⟨false,(λh=>by cases h),vm [0,1,2,3]⟩
          |skip
         all_goals
          refine wq (uu xs B m1 ⟨#[109]⟩ (by omega)) [0,1,2] ?_;rintro r g ⟨⟨hb,rfl⟩,rfl⟩;refine wb ?_<;>intros;exact aj ⟨!hb,(λ_=>U ‹_›),vm [0,1,2,3]⟩
       refine ws ?_;(((refine jr rfl ?_;refine ws ?_;first|(refine⟨λ_=>?_,λ_=>?_⟩<;>first|(exfalso;omega)|skip)|(rw[gQ];refine⟨λ_=>?_,λ_=>?_⟩)|skip));have hd:=hb ‹_›;obtain⟨u,rfl⟩:∃u,d=u+1:=⟨d-1,by omega⟩;refine w0 ?_;refine iI rfl ?_;refine ws ?_;refine wq (iw xs B 2 hx E (by decide) (by decide)) [1] ?_;rintro r g ⟨rfl,I,y,rfl⟩;have ad:=mF xs B (n:=2) (by decide);have J:(10:Int)+MO xs B 2=10\/(10:Int)+MO xs B 2=11:=(by omega);refine wb ?_<;>intros;refine wo M (rw_ (sF 4 ⟨#[109]⟩ bE [] ⟨0,0,bE,[]⟩ [sF (10+(MO xs B 2:Int)) ⟨#[99]⟩ bE [] ⟨0,0,bE,[]⟩ [] []] [])) (m1.og xs I) [0,1,2,2] [] ?_;rcases J with J|J;exact⟨.blk .m [.sig .one],m1,I,⟨⟨by decide,by simp only[Sm.body,Tj];exact⟨gz rfl rfl u,by simp⟩⟩,ay _,λ_ h=>by cases h⟩,D,y,by rw[fH,J];rfl,rfl⟩;exact⟨.blk .m [.sig .all],m1,I,⟨⟨by decide,by simp only[Sm.body,Tj];exact⟨gz rfl rfl u,by simp⟩⟩,ay _,λ_ h=>by cases h⟩,D,y,by rw[fH,J];rfl,rfl⟩);refine w0 ?_;refine jc (λb:Bool=>XT d q Z b 278) (λ_=>m1.os3 xs B) (λ_=>B<=xs.length) ?_ (λb _=>?_)
       . refine wb (A2.mk ?_ (A2.mk ?_ (A2.mk ?_ ?_)))<;>intros
         all_goals first
          |exact aj ⟨false,E,vm [0,1,2,3]⟩
          |exact aj ⟨!m1.set,E,vm [0,1,2,3]⟩
       refine ws ?_;(((refine jr rfl ?_;refine ws ?_;first|(refine⟨λ_=>?_,λ_=>?_⟩<;>first|(exfalso;omega)|skip)|(rw[gQ];refine⟨λ_=>?_,λ_=>?_⟩)|skip));refine wb ?_<;>intros;refine wq (qo xs B { m1 with set:=true } hx E) [0,1,2] ?_;rintro r g ⟨e,I,he,y,rfl,rfl⟩;obtain⟨x,rfl⟩:=he.of;refine wb ?_<;>intros;refine wo M (rw_ (sF 14 ⟨#[102]⟩ bE [] (xX x) [] [])) (MS.og { m1 with set:=true } xs I) [0,1,2,2] [] ?_;exact⟨.set x,{ m1 with set:=true },I,gz rfl rfl d,D,y,rfl,rfl⟩);refine w0 ?_;refine jc (λt:Bool×Nat=>XT d q Z t.1 308) (λt=>m1.os3 xs t.2) (λt=>t.2<=xs.length) ?_ (λ⟨b,I⟩ y=>?_)
       . refine wb (A2.mk ?_ (A2.mk ?_ ?_))<;>intros
         all_goals first
          |exact aj ⟨(false,B),E,vm [0,1,2,3]⟩
          |skip
         refine wq (iw xs B 2 hx E (by decide) (by decide)) [1] ?_;rintro r g ⟨rfl,I,y,rfl⟩;refine wb ?_<;>intros;exact aj ⟨(decide ((MO xs B 2:Int)=1),I),y,vm [0,1,2,3]⟩
       dsimp only at y;refine ws ?_;(((refine jr rfl ?_;refine ws ?_;first|(refine⟨λ_=>?_,λ_=>?_⟩<;>first|(exfalso;omega)|skip)|(rw[gQ];refine⟨λ_=>?_,λ_=>?_⟩)|skip));refine wb ?_<;>intros;refine wo M (rw_ (sF 15 ⟨#[97]⟩ ⟨#[102]⟩ [] ⟨0,0,bE,[]⟩ [] [])) (m1.og xs I) [0,1,2,2] [] ?_;exact⟨.get,m1,I,gz rfl rfl d,D,y,rfl,rfl⟩);refine wb ?_<;>intros;refine wq (qo xs I m1 hx y) [0,1,2] ?_;rintro r g ⟨e,G,he,a7,rfl,rfl⟩;obtain⟨x,rfl⟩:=he.of;refine wb ?_<;>intros;refine wE (nD ⟨#[120]⟩ (xX x)) ?_;refine wb ?_<;>intros;refine wo M (rw_ (sF 1 ⟨#[120]⟩ bE [] (xX x) [] [])) (m1.og xs G) [0,1,2,2] [] ?_;exact⟨.asg .x x,m1,G,gz rfl rfl d,D,a7,rfl,rfl⟩
