/- Words. -/
import Derived.Test.YtfbkkgfkhhibfaaGreatFl
set_option linter.unusedVariables false
set_option linter.unusedSimpArgs false
set_option maxRecDepth 20000
set_option maxHeartbeats 4000000
namespace AM
open Go Go.Proofs Mk
theorem ACall.post {P:Program}{f:FuncId}{vs:List AV}{pre:List Obj}{p q:AV->List (Option Obj)->Prop}(h:ACall P f vs pre p)(a:∀v g,p v g->q v g):ACall P f vs pre q:=let ⟨v,g,h1,h2⟩:=h;⟨v,g,a _ _ h1,h2⟩
def lfE (l:Lf):ER:=⟨l.op,l.n,l.name,[]⟩
def yj (l:Lf):List PV:=(lfE l).r
def wY (e:Ex):ER:=⟨e.op,e.n,e.name,e.kids.map yj⟩
theorem LfR.of {e:ER}(h:LfR e):∃l,e=lfE l:=by
 cases h with
 |@num n h=>exact ⟨.num ⟨n,h⟩,rfl⟩
 |
  @var s h=>
  simp only[dV,jK,or_false] at h;rcases h with rfl|rfl|rfl|rfl|rfl;exact⟨.var .a,rfl⟩;exact⟨.var .b,rfl⟩;exact⟨.var .x,rfl⟩;exact⟨.var .y,rfl⟩;exact⟨.var .v,rfl⟩
theorem ExR.of {e:ER}(h:ExR e):∃x,e=wY x:=by
 cases h with
 |leaf h=>obtain ⟨l,rfl⟩:=h.of;exact⟨.leaf l,by cases l<;>rfl⟩
 |idx h=>obtain ⟨l,rfl⟩:=h.of;exact⟨.idx l,rfl⟩
 |
  bin ho ha hb=>
  obtain⟨l,rfl⟩:=ha.of;obtain⟨r,rfl⟩:=hb.of;simp only[dV,jK,or_false] at ho;rcases ho with rfl|rfl|rfl|rfl|rfl|rfl;exact⟨.bin 0 l r,rfl⟩;exact⟨.bin 1 l r,rfl⟩;exact⟨.bin 2 l r,rfl⟩;exact⟨.bin 3 l r,rfl⟩;exact⟨.bin 4 l r,rfl⟩;exact⟨.bin 5 l r,rfl⟩
@[go_sem] def rM (op:Int)(name arg:ByteArray)(ix:List (List PV))(e:ER)(b c:List (List PV)):List PV:=[ag op,ag 0,dh name,dh arg,.sl ix,ag e.op,ag e.n,dh e.s,.sl e.l,.sl b,.sl c]
def O3:Option Ex->ER
 |some e=>wY e
 |none=>⟨0,0,bE,[]⟩
mutual
def pM:Sm->List PV
 | .ite e b c=>rM 2 bE bE [] (wY e) (Jh b) (Jh c)
 | .whl e b=>rM 3 bE bE [] (wY e) (Jh b) []
 | .blk k b=>rM (Sm.op (.blk k [])) (Sm.name (.blk k [])) bE [] (O3 none) (Jh b) []
 | .tx b=>rM 7 bE bE [] (O3 none) (Jh b) []
 | .atm b=>rM 8 bE bE [] (O3 none) (Jh b) []
 |s=>rM s.op s.name s.arg (s.index.map yj) (O3 s.ex) [] []
def Jh:List Sm->List (List PV)
 | []=> []
 |s::r=>pM s::Jh r
end
theorem Nb:∀l,Jh l=l.map pM
 | []=>rfl
 |s::r=>by simp only[Jh,kH,Nb r]
theorem eG (s:Sm):pM s=rM s.op s.name s.arg (s.index.map yj) (O3 s.ex) (s.body.map pM) (s.els.map pM):=by cases s<;>simp only[pM,Nb]<;>first|rfl|(rename_i k b;cases k<;>rfl)|skip
@[go_sem] theorem oO (s:Sm):(pM s).length=11:=by rw[eG];rfl
def SmD:Nat->Sm->Prop
 |0,s=>s.body=[]/\s.els=[]
 |d+1,s=>(s.body.length<=10/\∀x∈s.body,SmD d x)/\s.els.length<=10/\∀x∈s.els,SmD d x
theorem mP (s:ByteArray)(e:ER):FnEq Tryz.prog 76 [.pv (dh s),rw_ e.r] (rw_ (rM 1 s bE [] e [] [])):=by refine wf Tryz.func76 (λ_=> []) (h:=λR a=>?_);refine wb ?_<;>intros;all_goals exact wr a
def adu (n:Int):Int:=if n=1\/n=2 then 0 else if 3<=n/\n<=5 then 1 else if 6<=n/\n<=18 then 2 else -1
theorem ou (n r:Int)(h:adu n=r):FnEq Tryz.prog 181 [.pv (ag n)] (.pv (ag r)):=by unfold adu at h;refine wf Tryz.func181 (λ_=> []) (h:=λR a=>?_);refine wb (A2.mk ?_ (A2.mk ?_ (A2.mk ?_ (A2.mk ?_ (A2.mk ?_ ?_)))))<;>intros;all_goals exact wr a
theorem WR:FnEq Tryz.prog 177 [rw_ (O3 none).r] (.pv (boolP true)):=by unfold O3;refine wf Tryz.func177 (λ_=> []) (h:=λR a=>?_);refine wb ?_<;>intros;all_goals exact wr a
attribute [local go_sem] yj
theorem rY (l:Lf):FnEq Tryz.prog 176 [rw_ (yj l)] (.pv (boolP true)):=by
 cases l with
 |
  num n=>
  simp only[yj,lfE,Lf.op,Lf.n,Lf.name];refine wf Tryz.func176 (λ_=> [(1,4),(2,4)]) (h:=λR a=>?_);refine wb ?_<;>intros;refine wE (ou _ 0 rfl) ?_;refine wb ?_<;>intros;refine w1 ?_;refine wb ?_<;>intros;exact wr a
 |
  var k=>
  cases k
  all_goals
   simp only[yj,lfE,Lf.op,Lf.n,Lf.name,Nm.str];refine wf Tryz.func176 (λ_=> [(1,4),(2,4)]) (h:=λR a=>?_);refine wb ?_<;>intros;refine wE (ou _ 0 rfl) ?_;refine wb ?_<;>intros;refine wE (jo _ ?_) ?_;decide+kernel;refine wb ?_<;>intros;refine w1 ?_;refine wb ?_<;>intros;exact wr a
theorem LC (x:Ex):FnEq Tryz.prog 176 [rw_ (wY x).r] (.pv (boolP true)):=by
 cases x with
 |
  leaf l=>
  have:=rY l
  cases l<;>exact this
 |
  idx l=>
  simp only[wY,Ex.op,Ex.n,Ex.name,Ex.kids];refine wf Tryz.func176 (λ_=> [(1,4),(2,4)]) (h:=λR a=>?_);refine wb ?_<;>intros;refine wE (ou _ 1 rfl) ?_;refine wb ?_<;>intros;refine wE (jo _ ?_) ?_;decide+kernel;refine wb ?_<;>intros;refine w2 ?_;refine wb ?_<;>intros;refine aj (by omega) rfl rfl ?_;refine wb ?_<;>intros;refine wE (rY l) ?_;refine wb ?_<;>intros;exact wr a
 |
  bin k l r=>
  have hk:adu (binOp k)=2/\binOp k≠1/\binOp k≠2/\binOp k≠3:=(by revert k;decide);obtain⟨hk,d,u,y⟩:=hk;simp only[wY,Ex.op,Ex.n,Ex.name,Ex.kids];generalize binOp k=op at hk d u y;refine wf Tryz.func176 (λ_=> [(1,4),(2,4)]) (h:=λR a=>?_);refine wb ?_<;>intros;refine wE (ou _ 2 hk) ?_;refine wb ?_<;>intros;refine w3 ?_;refine wb ?_<;>intros;refine aj (by omega) rfl rfl ?_;refine wb ?_<;>intros;refine wE (rY l) ?_;refine wb ?_<;>intros;refine aj (by omega) rfl rfl ?_;refine wb ?_<;>intros;refine wE (rY r) ?_;refine wb ?_<;>intros;exact wr a
end AM
namespace AM
open Go Go.Proofs Mk
@[go_sem] theorem aks {s:Sm} :List.take 11 ((pM s).map AV.pv)=(pM s).map AV.pv:=xM (by simp[oO])
abbrev Tt (l:List Sm):PV:= .sl (l.map pM)
def ShS (s:Sm):Prop:=FnEq Tryz.prog 166 [rw_ (pM s)] (.pv (boolP true))
def ShL (l:List Sm):Prop:=FnEq Tryz.prog 139 [.pv (Tt l)] (.pv (boolP true))
theorem shL (l:List Sm)(d:l.length<=1000)(h:∀s∈l,ShS s):ShL l:=by unfold ShL;refine wf Tryz.func139 (λ_=> []) (h:=λR a=>?_);refine wb ?_<;>intros;refine wl (λi:Nat=> [(0,.pv (Tt l)),(3,.pv (ag i))]) (λ_=> []) (λi=>i<=l.length) (λi=>l.length-i) 0 (aG _) (vm []) (λi hi=>?_);refine wb (A2.mk ?_ ?_)<;>intros;refine jH l pM (by omega) (λs hs=>?_);refine wb ?_<;>intros;refine wE (h s hs) ?_;refine wb ?_<;>intros;exact sr_mark ⟨i+1,by omega,by omega,vm []⟩;exact wr a
theorem uD (k:Nat):aQ k=⟨#[109,97,105,110]⟩\/aQ k=⟨#[116,49]⟩\/aQ k=⟨#[116,50]⟩\/aQ k=⟨#[116,51]⟩:=by
 match k with
 |0=>exact .inl rfl
 |1=>exact .inr (.inl rfl)
 |2=>exact .inr (.inr (.inl rfl))
 |k+3=>exact .inr (.inr (.inr rfl))
attribute [local go_sem] yj
theorem shR (op:Int)(name arg:ByteArray)(ix:List Lf)(e:Option Ex)(b c:List Sm)(hb:ShL b)(he:ShL c)(hi:ix=[]\/op=1/\∃i,ix=[i])
 (h:e=none/\name=bE/\(op=7\/op=8)/\arg=bE/\c=[]\/e=none/\kU name=true/\1<=name.size/\(4<=op/\op<=6)/\arg=bE/\c=[]\/e=none/\kU name=true/\1<=name.size/\(9<=op/\op<=13)/\arg=bE/\b=[]/\c=[]\/e=none/\kU name=true/\1<=name.size/\op=15/\kU arg=true/\1<=arg.size/\b=[]/\c=[]\/
  ∃x,e=some x/\arg=bE/\(name=bE/\(op=2\/op=3/\c=[])\/kU name=true/\1<=name.size/\(op=1\/op=14)/\b=[]/\c=[])):
 FnEq Tryz.prog 166 [rw_ (rM op name arg (ix.map yj) (O3 e) (b.map pM) (c.map pM))] (.pv (boolP true)):=by
 unfold ShL at hb he;obtain⟨rfl,rfl,rfl|rfl,rfl,rfl⟩|⟨rfl,hn,hs,h,rfl,rfl⟩|⟨rfl,hn,hs,h,rfl,rfl,rfl⟩|⟨rfl,hn,hs,rfl,ha,has,rfl,rfl⟩|⟨x,rfl,rfl,⟨rfl,rfl|⟨rfl,rfl⟩⟩|⟨hn,hs,rfl|rfl,rfl,rfl⟩⟩:=h
 all_goals
  obtain rfl|⟨h1,i,rfl⟩:=hi;all_goals first|(exfalso;omega)|skip
  all_goals
   refine wf Tryz.func166 (λ_=> []) (h:=λR a=>?_);(repeat (refine wb ?_;intros;first|refine wE (jo name hn) ?_|refine wE (jo arg ha) ?_|refine wE (rY i) ?_|refine wE (LC x) ?_|refine wE WR ?_|refine wE hb ?_|refine wE he ?_|refine aj (by omega) rfl rfl ?_));refine wb ?_;intros;exact wr a
theorem shS (s:Sm)(hb:ShL s.body)(he:ShL s.els):ShS s:=by
 unfold ShS;rw[eG];refine shR _ _ _ _ _ _ _ hb he ?_ ?_
 cases s<;>first|exact .inl rfl|exact .inr ⟨rfl,_,rfl⟩
 . cases s with
   |asg k e=>exact .inr (.inr (.inr (.inr ⟨e,rfl,rfl,.inr ⟨show kU k.str=true by cases k<;>decide+kernel,show 1<=k.str.size by cases k<;>decide,.inl rfl,rfl,rfl⟩⟩)))
   |asq i e=>exact .inr (.inr (.inr (.inr ⟨e,rfl,rfl,.inr ⟨by show kU ⟨#[113]⟩=true;decide+kernel,ax 1,.inl rfl,rfl,rfl⟩⟩)))
   |set e=>exact .inr (.inr (.inr (.inr ⟨e,rfl,rfl,.inr ⟨by show kU ⟨#[102]⟩=true;decide+kernel,ax 1,.inr rfl,rfl,rfl⟩⟩)))
   |ite e b c=>exact .inr (.inr (.inr (.inr ⟨e,rfl,rfl,.inl ⟨rfl,.inl rfl⟩⟩)))
   |whl e b=>exact .inr (.inr (.inr (.inr ⟨e,rfl,rfl,.inl ⟨rfl,.inr ⟨rfl,rfl⟩⟩⟩)))
   |blk k b=>exact .inr (.inl ⟨rfl,by cases k<;>(simp only[Sm.name];decide+kernel),by cases k<;>exact ax 1,by cases k<;>(simp only[Sm.op];decide),rfl,rfl⟩)
   |tx b=>exact .inl ⟨rfl,rfl,.inl rfl,rfl,rfl⟩
   |atm b=>exact .inl ⟨rfl,rfl,.inr rfl,rfl,rfl⟩
   |sig k=>exact .inr (.inr (.inl ⟨rfl,by show kU ⟨#[99]⟩=true;decide+kernel,ax 1,by cases k<;>decide,rfl,rfl,rfl⟩))
   |
    spawn k=>
    have:=uD k;exact .inr (.inr (.inl ⟨rfl,by simp only[Sm.name];obtain h|h|h|h:=this<;>(rw[h];decide+kernel),by simp only[Sm.name];obtain h|h|h|h:=this<;>(rw[h];decide),by simp only[Sm.op];decide,rfl,rfl,rfl⟩))
   |join=>exact .inr (.inr (.inl ⟨rfl,by show kU ⟨#[116,49]⟩=true;decide+kernel,show 1<=ByteArray.size ⟨#[116,49]⟩ by decide,by decide,rfl,rfl,rfl⟩))
   |get=>exact .inr (.inr (.inr (.inl ⟨rfl,by show kU ⟨#[97]⟩=true;decide+kernel,ax 1,rfl,by show kU ⟨#[102]⟩=true;decide+kernel,ax 1,rfl,rfl⟩)))
theorem ZM:∀(d:Nat) (s:Sm),SmD d s->ShS s
 |0,s,h=>shS s (h.1▸shL [] (by decide) (by simp)) (h.2▸shL [] (by decide) (by simp))
 |d+1,s,h=>shS s (shL _ (by have:=h.1.1;omega) λx hx=>ZM d x (h.1.2 x hx)) (shL _ (by have:=h.2.1;omega) λx hx=>ZM d x (h.2.2 x hx))
end AM
namespace AM
open Go Go.Proofs Mk
def StC (xs:List UInt8)(d:Nat):Prop:=∀(k:Nat) (m:MS),k<=xs.length->m.held.length+d<=100->ACall Tryz.prog 110 [.ptr 0 0,.pv (ag d)] (m.os xs k) (λv g=>∃(s:Sm) (m':MS) (k':Nat),SmD d s/\m'.held=m.held/\k'<=xs.length/\v=rw_ (pM s)/\g=m'.og xs k')
abbrev Yr (l:List Sm):Obj:= .row 196 11 (l.map pM)
def SsC (xs:List UInt8)(d:Nat):Prop:=∀(k:Nat) (m:MS) (n:Nat),k<=xs.length->m.held.length+d<=100->n<=10->ACall Tryz.prog 75 [.ptr 0 0,.pv (ag d),.pv (ag n)] (m.os xs k) (λv g=>∃(l:List Sm) (m':MS) (k':Nat),l.length<=n/\(∀s∈l,SmD d s)/\m'.held=m.held/\k'<=xs.length/\v= .own 4 l.length/\g=m'.og xs k'++[some (Yr l)])
theorem YW (xs:List UInt8)(d:Nat)(u:StC xs d):SsC xs d:=by
 intro k m n hk hm hn;refine wz Tryz.func75 (λ_=> []) (h:=λR y=>?_);refine wb ?_<;>intros;refine sr_ghostE 7 196 11 (by exact we) ?_;refine wl (λt:Nat×List Sm×MS×Nat=> [(0,.ptr 0 0),(1,.pv (ag d)),(2,.pv (ag n)),(7,.own 4 t.2.1.length),(8,.pv (ag t.1))]) (λt=>t.2.2.1.og xs t.2.2.2++[some (Yr t.2.1)]) (λt=>t.1<=n/\t.2.1.length=t.1/\(∀s∈t.2.1,SmD d s)/\t.2.2.1.held=m.held/\t.2.2.2<=xs.length) (λt=>n-t.1) (0,[],m,k) ⟨aG _,rfl,by simp,rfl,hk⟩ (vm [0,1,2,2,27]) (λ⟨i,l,m1,a⟩ ⟨h1,h2,h3,h4,h5⟩=>?_);dsimp only at h1 h2 h3 h4 h5;refine wb (A2.mk ?_ (A2.mk ?_ (A2.mk ?_ ?_)))<;>intros
 any_goals
  have G:l.length<=9:=(by omega);refine wq (u a m1 h5 (by rw[h4];exact hm)) [0,1,3] ?_;rintro r g ⟨s,m2,A,B,D,E,rfl,rfl⟩;refine wb ?_<;>intros;refine sr_mark ⟨(i+1,l++[s],m2,A),⟨by omega,by simp[h2],λx hx=>?_,by rw[D,h4],E⟩,by omega,vm [0,1,2,141,157]⟩;rcases jM.1 hx with hx|hx;exact h3 x hx;rw[lX.1 hx];exact B
 all_goals
  refine wo y (.own 4 l.length) (m1.og xs a++[some (Yr l)]) [0,1,2,3,4] [] ?_;exact⟨l,m1,a,by omega,h3,h4,h5,rfl,rfl⟩
def SsZ (xs:List UInt8)(d:Nat):Prop:=∀(k:Nat) (m:MS) (n:Nat),k<=xs.length->m.held.length+d<=100->n<=10->ACall Tryz.prog 75 [.ptr 0 0,.pv (ag d),.pv (ag n)] (m.os xs k) (λv g=>∃(l:List Sm) (m':MS) (k':Nat),l.length<=n/\(∀s∈l,SmD d s)/\m'.held=m.held/\k'<=xs.length/\v= .pv (.sl (l.map pM))/\g=m'.og xs k')
theorem YX (xs:List UInt8)(d:Nat)(u:StC xs d):SsZ xs d:=by
 intro k m n hk hm hn;refine wz Tryz.func75 (λ_=> []) (h:=λR y=>?_);refine wb ?_<;>intros;refine sr_ghostE 7 196 11 (by exact we) ?_;refine wl (λt:Nat×List Sm×MS×Nat=> [(0,.ptr 0 0),(1,.pv (ag d)),(2,.pv (ag n)),(7,.own 4 t.2.1.length),(8,.pv (ag t.1))]) (λt=>t.2.2.1.og xs t.2.2.2++[some (Yr t.2.1)]) (λt=>t.1<=n/\t.2.1.length=t.1/\(∀s∈t.2.1,SmD d s)/\t.2.2.1.held=m.held/\t.2.2.2<=xs.length) (λt=>n-t.1) (0,[],m,k) ⟨aG _,rfl,by simp,rfl,hk⟩ (vm [0,1,2,2,27]) (λ⟨i,l,m1,a⟩ ⟨h1,h2,h3,h4,h5⟩=>?_);dsimp only at h1 h2 h3 h4 h5;refine wb (A2.mk ?_ (A2.mk ?_ (A2.mk ?_ ?_)))<;>intros
 any_goals
  have G:l.length<=9:=(by omega);refine wq (u a m1 h5 (by rw[h4];exact hm)) [0,1,3] ?_;rintro r g ⟨s,m2,A,B,D,E,rfl,rfl⟩;refine wb ?_<;>intros;refine sr_mark ⟨(i+1,l++[s],m2,A),⟨by omega,by simp[h2],λx hx=>?_,by rw[D,h4],E⟩,by omega,vm [0,1,2,141,157]⟩;rcases jM.1 hx with hx|hx;exact h3 x hx;rw[lX.1 hx];exact B
 all_goals
  refine wo y (.pv (.sl (l.map pM))) (m1.og xs a) [0,1,2,3] [(4,none)] ?_;exact⟨l,m1,a,by omega,h3,h4,h5,rfl,rfl⟩
theorem Ew (xs:List UInt8)(hx:xs.length<=1000)(d:Nat)(L:SsC xs d)(k:Nat)(m:MS)(s:ByteArray)(hk:k<=xs.length)(hm:m.held.length+d+1<=100):ACall Tryz.prog 152 [.ptr 0 0,.pv (dh s),.pv (ag d)] (m.os xs k) (λv g=>∃(l:List Sm) (m':MS) (E:Nat),l.length<=10/\(∀s∈l,SmD d s)/\m'.held=m.held/\E<=xs.length/\v= .own 4 l.length/\g=m'.og xs E++[some (Yr l)]):=by refine wz Tryz.func152 (λ_=> [(4,8)]) (h:=λR N=>?_);refine wb ?_<;>intros;refine wq (gz xs k 2 hx hk (by decide) (by decide)) [1] ?_;rintro r g ⟨rfl,O,B,rfl⟩;have hn:=lU xs k (n:=2) (by decide);refine ws ?_;refine wq (L O { m with held:=m.held++[s] } (1+Ld xs k 2) B (by simp;omega) (by omega)) [0,1,67] ?_;rintro r g ⟨l,m2,G,X,U,H,V,rfl,rfl⟩;obtain⟨I,J,a,u,y,A,D⟩:=m2;dsimp only at H;subst H;refine wb ?_<;>intros;have Y:((m.held.length:Int)+1-1).toNat=(m.held.map λs=> [dh s]).length:=(by simp);refine wo N (.own 4 l.length) (MS.og ⟨I,J,a,u,y,A,m.held⟩ xs G++[some (Yr l)]) [0,1,2,267,164] [] ?_;exact⟨l,⟨I,J,a,u,y,A,m.held⟩,G,by omega,U,rfl,V,rfl,rfl⟩
theorem Ic (s:ByteArray):∀(l:List ByteArray) (i:Nat),fH s i l= -1\/(i<=fH s i l/\fH s i l<i+l.length)
 | [],i=> .inl rfl
 |
  x::r,i=>by
  simp only[fH,iO]
  split
  . omega
  . have:=Ic s r (i+1)
    have e:((i+1:Nat):Int)=(i:Int)+1:=rfl
    rw[e] at this
    omega
theorem afF (l:List ByteArray)(s:ByteArray): -1<=iR l s/\iR l s<l.length:=by have:=Ic s l 0;unfold iR;simp only[Int.natCast_zero] at this;omega
@[go_sem] def rG (p:List Sm×Nat):List PV:=thR (aQ p.2) bC (Tt p.1)
@[go_sem] def Aa (bs:List (List Sm)):List PV:=[.sl XR,.sl (bs.zipIdx.map rG)]
theorem nO (bs:List (List Sm)):bs.zipIdx.map (λp=>aQ p.2)=thNames bs.length:=by rw[thNames,JS,<-ZC 0 bs,vz];rfl
theorem Ag (l:List (List Sm×Nat))(s:ByteArray)(d:l.length<=1000):FnEq Tryz.prog 141 [.pv (.sl (l.map rG)),.pv (dh s)] (.pv (ag (iR (l.map λp=>aQ p.2) s))):=by
 refine wf Tryz.func141 (λ_=> []) (h:=λR a=>?_);refine wb ?_<;>intros;refine wl (λi:Nat=> [(0,.pv (.sl (l.map rG))),(1,.pv (dh s)),(5,.pv (ag i))]) (λ_=> []) (λi=>i<=l.length/\iR (l.map λp=>aQ p.2) s=fH s i ((l.map λp=>aQ p.2).drop i)) (λi=>l.length-i) 0 ⟨aG _,rfl⟩ (vm []) (λi ⟨hi,ha⟩=>?_);refine wb (A2.mk ?_ ?_)<;>intros
 . have h2:i<l.length:=(by omega);refine aB (x:=l[i]) (DC _) (by simp[h2]) rfl ?_;refine wb (A2.mk ?_ ?_)<;>intros
   . rw[at_hit (i:=i) (by simpa using h2) (by simpa using ‹aQ l[i].snd=s›) ha] at a;exact wr a
   . exact sr_mark ⟨i+1,⟨h2,oN (i:=i) (by simpa using h2) (by simpa using ‹_›) ha⟩,by omega,vm []⟩
 . rw[sW (i:=i) (by simp;omega) ha] at a;exact wr a
theorem VP (bs:List (List Sm))(hb:bs.length<=4)(t:Nat)(A:t<bs.length)(s:ByteArray):FnEq Tryz.prog 178 [rw_ (Aa bs),.pv (ag t),.pv (dh s)] (.pv (ag (xG bs.length s))):=by
 unfold xG;have h2:=afF yP s;have u:yP.length=9:=rfl;rw[u] at h2;generalize y:iR bC s=lo;generalize B:iR yP s=di at h2;generalize d:iR (thNames bs.length) s=ti;refine wf Tryz.func178 (λ_=> []) (h:=λR a=>?_);refine wb ?_<;>intros;refine aB (x:=(bs[t],t)) (by omega) (by simp[A]) rfl ?_;refine wb ?_<;>intros;refine wE (acK bC s (by decide)) ?_;rw[y];refine wb (A2.mk ?_ ?_)<;>intros;rw[if_pos ‹_›] at a;exact wr a;rw[if_neg (show¬0<=lo by omega)] at a;refine wE (Hf dL s (by decide)) ?_;rw[show iR (dL.map DR.name) s=di from B];refine wb (A2.mk ?_ ?_)<;>intros;rw[if_neg (show¬0<=di by omega)] at a;refine wE (Ag bs.zipIdx s (by simp;omega)) ?_;rw[nO,d];refine wb (A2.mk ?_ ?_)<;>intros;exact wr a;exact wr a;rw[if_pos (show 0<=di by omega)] at a;clear y d u;obtain rfl|rfl|rfl|rfl|rfl|rfl|rfl|rfl|rfl:di=0\/di=1\/di=2\/di=3\/di=4\/di=5\/di=6\/di=7\/di=8:=by omega
 all_goals
  (repeat refine aj (by omega) rfl rfl (wb ?_));exact wr a
theorem KD (bs:List (List Sm))(hb:bs.length<=4)(t:Nat)(d:t<bs.length)(s:ByteArray)(a b:Int):FnEq Tryz.prog 169 [rw_ (Aa bs),.pv (ag t),.pv (dh s),.pv (ag a),.pv (ag b)] (.pv (ag (lQ bs.length s a b))):=by unfold lQ;refine wf Tryz.func169 (λ_=> []) (h:=λR u=>?_);refine wb ?_<;>intros;refine wE (VP bs hb t d s) ?_;refine wb (A2.mk ?_ (A2.mk ?_ (A2.mk ?_ ?_)))<;>intros;all_goals exact wr u
def ach (x:Ex):AV:= .tup [.pv (ag (1+x.kids.length)),.pv (ag (if x.kids=[] then 1 else 2))]
attribute [local go_sem] yj
theorem ZE (x:Ex):FnEq Tryz.prog 179 [rw_ (wY x).r] (ach x):=by
 have leaf:∀l:Lf,FnEq Tryz.prog 179 [rw_ (yj l)] (.tup [.pv (ag 1),.pv (ag 1)]):=λl=>by simp only[yj,lfE];refine wf Tryz.func179 (λ_=> []) (h:=λR a=>?_);refine wb ?_<;>intros;refine w1 ?_;refine wb ?_<;>intros;exact wr a
 cases x with
 |
  leaf l=>
  have:=leaf l
  cases l<;>exact this
 |
  idx l=>
  simp only[wY,Ex.op,Ex.n,Ex.name,Ex.kids,ach];refine wf Tryz.func179 (λ_=> []) (h:=λR a=>?_);refine wb ?_<;>intros;refine w2 ?_;refine wb ?_<;>intros;refine aj (by omega) rfl rfl ?_;refine wb ?_<;>intros;refine wE (leaf l) ?_;refine wb ?_<;>intros;exact wr a
 |
  bin k l r=>
  simp only[wY,Ex.op,Ex.n,Ex.name,Ex.kids,ach];refine wf Tryz.func179 (λ_=> []) (h:=λR a=>?_);refine wb ?_<;>intros;refine w3 ?_;refine wb ?_<;>intros;refine aj (by omega) rfl rfl ?_;refine wb ?_<;>intros;refine wE (leaf l) ?_;refine wb ?_<;>intros;refine aj (by omega) rfl rfl ?_;refine wb ?_<;>intros;refine wE (leaf r) ?_;refine wb ?_<;>intros;exact wr a
theorem TQ (n:Nat)(k:Nm):lQ n k.str 8 1=0:=by
 have h:xG n k.str=8\/xG n k.str=1:=by
  cases k
  exact .inl rfl;exact .inl rfl;exact .inr rfl;exact .inr rfl;exact .inr rfl
 unfold lQ;rcases h with h|h<;>rw[h]<;>rfl
theorem ZF (n:Nat):lQ n ⟨#[113]⟩ 2 2=0:=rfl
theorem VQ (bs:List (List Sm))(hb:bs.length<=4)(t:Nat)(d:t<bs.length)(x:Ex):FnEq Tryz.prog 180 [rw_ (Aa bs),.pv (ag t),rw_ (wY x).r] (.pv (ag 0)):=by
 have leaf:∀l:Lf,FnEq Tryz.prog 180 [rw_ (Aa bs),.pv (ag t),rw_ (yj l)] (.pv (ag 0)):=λl=>by
  cases l with
  |
   num n=>
   simp only[yj,lfE,Lf.op,Lf.n,Lf.name];refine wf Tryz.func180 (λ_=> [(0,3),(0,5),(0,6)]) (h:=λR a=>?_);refine wb ?_<;>intros;refine w1 ?_;refine wb ?_<;>intros;exact wr a
  |
   var k=>
   simp only[yj,lfE,Lf.op,Lf.n,Lf.name];refine wf Tryz.func180 (λ_=> [(0,3),(0,5),(0,6)]) (h:=λR a=>?_);refine wb ?_<;>intros;refine wE (KD bs hb t d k.str 8 1) ?_;rw[TQ];refine wb ?_<;>intros;refine w1 ?_;refine wb ?_<;>intros;exact wr a
 cases x with
 |
  leaf l=>
  have:=leaf l
  cases l<;>exact this
 |
  idx l=>
  simp only[wY,Ex.op,Ex.n,Ex.name,Ex.kids];refine wf Tryz.func180 (λ_=> [(0,3),(0,5),(0,6)]) (h:=λR a=>?_);refine wb ?_<;>intros;refine wE (KD bs hb t d ⟨#[113]⟩ 2 2) ?_;rw[ZF];refine wb ?_<;>intros;refine w2 ?_;refine wb ?_<;>intros;refine aj (by omega) rfl rfl ?_;refine wb ?_<;>intros;refine wE (leaf l) ?_;refine wb ?_<;>intros;exact wr a
 |
  bin k l r=>
  have hk:binOp k≠2/\binOp k≠3:=(by revert k;decide);simp only[wY,Ex.op,Ex.n,Ex.name,Ex.kids];generalize binOp k=op at hk;refine wf Tryz.func180 (λ_=> [(0,3),(0,5),(0,6)]) (h:=λR a=>?_);refine wb ?_<;>intros;refine w3 ?_;refine wb ?_<;>intros;refine aj (by omega) rfl rfl ?_;refine wb ?_<;>intros;refine wE (leaf l) ?_;refine wb ?_<;>intros;refine aj (by omega) rfl rfl ?_;refine wb ?_<;>intros;refine wE (leaf r) ?_;refine wb ?_<;>intros;exact wr a
theorem ZG (bs:List (List Sm))(hb:bs.length<=4)(t:Nat)(ht:t<bs.length)(x:Ex):FnEq Tryz.prog 170 [rw_ (Aa bs),.pv (ag t),rw_ (wY x).r] (.pv (ag 0)):=by (have hk:x.kids.length<=2:=by cases x<;>simp[Ex.kids]);refine wf Tryz.func170 (λ_=> []) (h:=λR hR=>?_);refine wb ?_<;>intros;refine wE (LC x) ?_;refine wb ?_<;>intros;refine wE (ZE x) ?_;unfold ach;refine wb ?_<;>intros;(all_goals first|(exfalso;split at * <;> omega)|skip);refine wE (VQ bs hb t ht x) ?_;refine wb ?_<;>intros;exact wr hR
end AM
namespace AM
open Go Go.Proofs Mk
theorem ad3 (d:DR)(a:d∈dL):FnEq Tryz.prog 138 [rw_ d.r] (.pv (boolP true)):=by
 simp only[dL,dV,jK,or_false] at a;obtain rfl|rfl|rfl|rfl|rfl|rfl|rfl|rfl|rfl:=a
 all_goals
  refine wf Tryz.func138 (λ_=> []) (h:=λR u=>?_);refine wb ?_<;>intros;refine wE (jo _ ?_) ?_;decide+kernel;refine wb ?_<;>intros;first
  |exact wr u
  |
   refine wE (jo _ ?_) ?_;decide+kernel;refine wb ?_<;>intros;exact wr u
theorem aaY (s:ByteArray)(h:s∈bC):kU s=true:=by simp only[bC,dV,jK,or_false] at h;rcases h with rfl|rfl<;>decide+kernel
theorem aaZ (k:Nat):kU (aQ k)=true:=by obtain h|h|h|h:=uD k<;>(rw[h];decide+kernel)
theorem UK (bs:List (List Sm))(h0:0<bs.length)(hb:bs.length<=4)(hs:∀b∈bs,ShL b):FnEq Tryz.prog 102 [rw_ (Aa bs)] (.pv (boolP true)):=by have D:dL.length=9:=rfl;have h2:bC.length=2:=rfl;refine wf Tryz.func102 (λ_=> []) (h:=λR y=>?_);refine wb ?_<;>intros;refine wl (λi:Nat=> [(1,.ptr 0 0),(3,.pv (ag i))]) (λ_=> [some (.box ((Aa bs).map .pv))]) (λi=>i<=9) (λi=>9-i) 0 (aG _) (vm [0]) (λi hi=>?_);refine wb (A2.mk ?_ ?_)<;>intros;refine jH dL DR.r (by omega) (λd A=>?_);refine wb ?_<;>intros;refine wE (ad3 d A) ?_;refine wb ?_<;>intros;exact sr_mark ⟨i+1,by omega,by omega,vm [0]⟩;refine wl (λi:Nat=> [(1,.ptr 0 0),(4,.pv (ag i))]) (λ_=> [some (.box ((Aa bs).map .pv))]) (λi=>i<=bs.length) (λi=>bs.length-i) 0 (aG _) (vm [0]) (λi hi=>?_);refine wb (A2.mk ?_ ?_)<;>intros;refine jH bs.zipIdx rG (by simp;omega) (λp B=>?_);obtain⟨b,k⟩:=p;have a:b∈bs:=(List.mem_zipIdx' B).2▸dm _;refine wb ?_<;>intros;refine wl (λj:Nat=> [(1,.ptr 0 0),(4,.pv (ag i)),(5,.ptr 1 0),(6,.pv (ag j))]) (λ_=> [some (.box ((Aa bs).map .pv)),some (.box ((rG (b,k)).map .pv))]) (λi=>i<=2) (λi=>2-i) 0 (aG _) (vm [0,81]) (λj E=>?_);refine wb (A2.mk ?_ ?_)<;>intros;refine jH bC (λs=> [dh s]) (by omega) (λs u=>?_);refine wb ?_<;>intros;refine wE (jo s (aaY s u)) ?_;refine wb ?_<;>intros;exact sr_mark ⟨j+1,by omega,by omega,vm [0,1]⟩;refine wE (jo _ (aaZ k)) ?_;refine wb ?_<;>intros;refine wE (hs b a) ?_;refine wb ?_<;>intros;exact sr_mark ⟨i+1,by omega,by omega,vm [0]⟩;exact wr y
theorem fJ (l:List DR)(s:ByteArray)(r:Int)(a:l.length<=1000)(h:iR (l.map DR.name) s=r):FnEq Tryz.prog 140 [.pv (.sl (l.map DR.r)),.pv (dh s)] (.pv (ag r)):=h▸Hf l s a
theorem UL:FnEq Tryz.prog 103 [.pv (.sl XR)] (.tup [.pv (ag 0),.pv (ag 0)]):=by refine wf Tryz.func103 (λi=>if i=6 then [(2,4)] else if i=23 then [(2,4)] else []) (h:=λR a=>?_);refine wb ?_<;>intros;refine wn 10 ?_;refine wb ?_;refine aj (by omega) rfl rfl (wb ?_);refine wE (fJ (dL.take 0) dL[0].name (-1) (by decide) rfl) (wb ?_);refine wb ?_;refine aj (by omega) rfl rfl (wb ?_);refine wE (fJ (dL.take 1) dL[1].name (-1) (by decide) rfl) (wb ?_);refine wb ?_;refine aj (by omega) rfl rfl (wb ?_);refine wE (fJ (dL.take 2) dL[2].name (-1) (by decide) rfl) (wb ?_);refine wb ?_;refine aj (by omega) rfl rfl (wb ?_);refine wE (fJ (dL.take 3) dL[3].name (-1) (by decide) rfl) (wb ?_);refine wb ?_;refine aj (by omega) rfl rfl (wb ?_);refine wE (fJ (dL.take 4) dL[4].name (-1) (by decide) rfl) (wb ?_);refine wb ?_;refine aj (by omega) rfl rfl (wb ?_);refine wE (fJ (dL.take 5) dL[5].name (-1) (by decide) rfl) (wb ?_);refine wb ?_;refine aj (by omega) rfl rfl (wb ?_);refine wE (fJ (dL.take 6) dL[6].name (-1) (by decide) rfl) (wb ?_);refine wb ?_;refine aj (by omega) rfl rfl (wb ?_);refine wE (fJ (dL.take 7) dL[7].name (-1) (by decide) rfl) (wb ?_);refine wE (fJ (dL.take 7) ⟨#[109]⟩ 4 (by decide) rfl) (wb ?_);refine aj (by omega) rfl rfl (wb ?_);refine wb ?_;refine aj (by omega) rfl rfl (wb ?_);refine wE (fJ (dL.take 8) dL[8].name (-1) (by decide) rfl) (wb ?_);exact wr a
theorem Tq (k:Nat):iR (dL.map DR.name) (aQ k)= -1:=by obtain h|h|h|h:=uD k<;>(rw[h];rfl)
theorem Jg (bs:List (List Sm))(i:Nat)(hi:i<=bs.length):(bs.zipIdx.take i).map (λp=>aQ p.2)=thNames i:=by rw[oC,nO,thNames,<-oC,List.take_range,yA hi,thNames]
theorem qV (l:List (List Sm×Nat))(s:ByteArray)(r:Int)(a:l.length<=1000)(h:iR (l.map λp=>aQ p.2) s=r):FnEq Tryz.prog 141 [.pv (.sl (l.map rG)),.pv (dh s)] (.pv (ag r)):=h▸Ag l s a
theorem rV (l:List ByteArray)(s:ByteArray)(r:Int)(a:l.length<=1000000)(h:iR l s=r):FnEq Tryz.prog 94 [.pv (.sl (iT l)),.pv (dh s)] (.pv (ag r)):=h▸acK l s a
theorem ad4 (i:Nat)(hi:i<4):iR (thNames i) (aQ i)= -1:=by
 match i,hi with
 |0,_=>rfl
 |1,_=>rfl
 |2,_=>rfl
 |3,_=>rfl
theorem ahH (n:Nat)(hn:n<=4)(s:ByteArray)(hs:s∈bC):iR (thNames n) s= -1:=by
 simp only[bC,dV,jK,or_false] at hs
 match n,hn with
 |0,_=>rfl
 |1,_=>rcases hs with rfl|rfl<;>rfl
 |2,_=>rcases hs with rfl|rfl<;>rfl
 |3,_=>rcases hs with rfl|rfl<;>rfl
 |4,_=>rcases hs with rfl|rfl<;>rfl
@[go_sem] theorem XT:bC.length=2:=rfl
theorem MZ (bs:List (List Sm))(hb:bs.length<=4):FnEq Tryz.prog 104 [rw_ (Aa bs)] (.tup [.pv (ag 0),.pv (ag 0)]):=by
 refine wf Tryz.func104 (λ_=> [(1,3),(8,12),(10,12)]) (h:=λR d=>?_);refine wb ?_<;>intros;refine wl (λi:Nat=> [(1,.ptr 0 0),(4,.pv (ag i))]) (λ_=> [some (.box ((Aa bs).map .pv))]) (λi=>i<=bs.length) (λi=>bs.length-i) 0 (aG _) (vm [0]) (λi hi=>?_);refine wb (A2.mk ?_ ?_)<;>intros;refine aB (x:=(bs[i],i)) (by omega) (by simp<;>omega) rfl ?_;refine wb ?_<;>intros;refine wE (fJ dL (aQ i) (-1) (by decide) (Tq i)) ?_;refine wb ?_<;>intros;rw[<-oC];refine wE (qV (bs.zipIdx.take i) (aQ i) (-1) (by simp;omega) (by rw[Jg bs i hi,ad4 i (by omega)])) ?_;refine wb ?_<;>intros;exact sr_mark ⟨i+1,by omega,by omega,vm [0]⟩;refine wl (λi:Nat=> [(1,.ptr 0 0),(6,.pv (ag i))]) (λ_=> [some (.box ((Aa bs).map .pv))]) (λi=>i<=bs.length) (λi=>bs.length-i) 0 (aG _) (vm [0]) (λi hi=>?_);refine wb (A2.mk ?_ ?_)<;>intros
 . refine aB (x:=(bs[i],i)) (by omega) (by simp<;>omega) rfl ?_;refine wb ?_<;>intros;refine wl (λj:Nat=> [(1,.ptr 0 0),(6,.pv (ag i)),(7,.ptr 1 0),(8,.pv (ag j))]) (λ_=> [some (.box ((Aa bs).map .pv)),some (.box ((rG (bs[i],i)).map .pv))]) (λi=>i<=2) (λi=>2-i) 0 (aG _) (vm [0,81]) (λj u=>?_);refine wb (A2.mk ?_ ?_)<;>intros
   . have a:j<bC.length:=(by rw[XT];omega);refine aB (x:=bC[j]) (by omega) (by simp[a]) rfl ?_;refine wb ?_<;>intros;refine wE (fJ dL bC[j] (-1) (by decide) (by rcases (show j=0\/j=1 by omega) with rfl|rfl<;>rfl)) ?_;refine wb ?_<;>intros;refine wE (qV bs.zipIdx bC[j] (-1) (by simp;omega) (by rw[nO,ahH _ hb _ (dm a)])) ?_;refine wb ?_<;>intros;rw[<-oC];refine wE (rV (bC.take j) bC[j] (-1) (by simp[XT];omega) (by rcases (show j=0\/j=1 by omega) with rfl|rfl<;>rfl)) ?_;refine wb ?_<;>intros;exact sr_mark ⟨j+1,by omega,by omega,vm [0,1]⟩
   exact sr_mark ⟨i+1,by omega,by omega,vm [0]⟩
 exact wr d
theorem Na:∀(m:Nat) (l:List Sm),az l<=m->m<=100000->FnEq Tryz.prog 105 [.pv (Tt l)] (.pv (ag (az l)))
 |
  m,l,h,hm=>by
  have y:=xE l
  have a:∀l',az l'<m->FnEq Tryz.prog 105 [.pv (Tt l')] (.pv (ag (az l'))):=λl' B=>Na (az l') l' (ax _) (by omega)
  refine wf Tryz.func105 (λ_=> [(3,10),(5,10),(6,10),(3,12),(5,12),(6,12)]) (h:=λR d=>?_)
  refine wb ?_<;>intros
  refine wl (λi:Nat=> [(0,.pv (Tt l)),(3,.pv (ag ((l.length+vY (l.take i):Nat)))),(4,.pv (ag i))]) (λ_=> []) (λi=>i<=l.length) (λi=>l.length-i) 0 (aG _) (vm []) (λi hi=>?_)
  have hle:=IZ l i
  refine wb (A2.mk ?_ ?_)<;>intros
  . have h2:i<l.length:=by omega
    have he:=G8 l i l[i] (by simp[h2])
    have u:=IZ l (i+1)
    refine aB (x:=l[i]) (by omega) (by simp[h2]) (oO _) ?_
    rw[eG]
    refine wb ?_<;>intros
    refine wE (a l[i].body (by omega)) ?_
    refine wb ?_<;>intros
    refine aB (x:=l[i]) (by omega) (by simp[h2]) (oO _) ?_
    rw[eG]
    refine wb ?_<;>intros
    refine wE (a l[i].els (by omega)) ?_
    refine wb ?_<;>intros
    exact sr_mark ⟨i+1,by omega,by omega,vm []⟩
  . have A:az l=l.length+vY (l.take i):=by rw[xM (by omega)];exact y
    rw[A] at d
    exact wr d
@[go_sem] def aeQ (bs:List (List Sm))(t:Nat)(a b c:Nat)(ar:List Sm)(sp st:List ByteArray):Obj:= .box [.pv (.sl XR),.pv (.sl (bs.zipIdx.map rG)),.pv (ag t),.own a ar.length,.own b sp.length,.own c st.length]
abbrev JA (l:List ByteArray):Obj:= .row 9 1 (iT l)
@[go_sem] def wOs (bs:List (List Sm))(t:Nat)(ar:List Sm)(sp st:List ByteArray):List Obj:=[aeQ bs t 1 2 3 ar sp st,Yr ar,JA sp,JA st]
@[go_sem] def wOg (bs:List (List Sm))(t:Nat)(ar:List Sm)(sp st:List ByteArray):List (Option Obj):=[some (aeQ bs t 4 5 6 ar sp st),none,none,none,some (Yr ar),some (JA sp),some (JA st)]
def Yt (a b:Int)(s:ByteArray)(x:Sm):Bool:=(decide (x.op=a) || decide (x.op=b)) &&(decide (s=⟨#[]⟩) || decide (x.name=s))
theorem abr (d:List Sm)(a b:Int)(s:ByteArray):mJ d a b s=d.any (Yt a b s):=rfl
@[go_sem] theorem agF {a b:ByteArray} :(a.toList==b.toList)=decide (a=b):=yX
theorem U5 (bs:List (List Sm))(t:Nat)(d:List Sm)(y st:List ByteArray)(a b:Int)(s:ByteArray)(ha:d.length<=100):ACall Tryz.prog 167 [.ptr 0 0,.pv (ag a),.pv (ag b),.pv (dh s)] (wOs bs t d y st) (λv g=>v= .pv (boolP (mJ d a b s))/\g=(wOs bs t d y st).map some):=by
 rw[abr];refine wz Tryz.func167 (λ_=> []) (h:=λR A=>?_);refine wb ?_<;>intros;refine wl (λi:Nat=> [(0,.ptr 0 0),(1,.pv (ag a)),(2,.pv (ag b)),(3,.pv (dh s)),(9,.pv (ag i))]) (λ_=>(wOs bs t d y st).map some) (λi=>i<=d.length/\d.any (Yt a b s)=(d.drop i).any (Yt a b s)) (λi=>d.length-i) 0 ⟨aG _,rfl⟩ (vm [0,1,2,3]) (λi ⟨hi,u⟩=>?_);refine wb (A2.mk ?_ ?_)<;>intros
 . have h2:i<d.length:=(by omega);rw[oG h2,List.any_cons] at u;generalize hx:d[i]=x at u;refine yO (x:=pM x) (by rw[bK,aV h2,hx,ng]) (by rw[eG];rfl) ?_
   cases e:Yt a b s x
   all_goals
    rw[e] at u;simp only[Bool.true_or,Bool.false_or] at u;simp only[Yt,zQ,DW,cZ,xH,gK,lL] at e;(first|(refine wb (A2.mk ?_ (A2.mk ?_ (A2.mk ?_ (A2.mk ?_ (A2.mk ?_ ?_)))))<;>intros)|(refine wb (A2.mk ?_ (A2.mk ?_ (A2.mk ?_ (A2.mk ?_ (A2.mk ?_ (A2.mk ?_ ?_))))))<;>intros))
   all_goals first
    |(exfalso;grind)
    |(refine wo A (.pv (boolP true)) ((wOs bs t d y st).map some) [0,1,2,3] [] ⟨by rw[u],rfl⟩)
    |exact sr_mark ⟨i+1,⟨h2,u⟩,by omega,vm [0,1,2,3]⟩
 refine wo A (.pv (boolP false)) ((wOs bs t d y st).map some) [0,1,2,3] [] ⟨?_,rfl⟩;rw[u,ku (by omega)];rfl
