/- Words. -/
import Derived.Test.YtfbkkgfkhhibfaaGreatFl
set_option linter.unusedVariables false
set_option linter.unusedSimpArgs false
set_option maxRecDepth 20000
set_option maxHeartbeats 8000000
namespace AM
open Go Go.Proofs
def Asc (b:Nat)(l:List Nat):Prop:=l.Pairwise (· < ·)/\∀n∈l,n<b
@[go_sem] def nP (n:Nat):List PV:=[ag n]
abbrev nL (l:List Nat):List (List PV):=l.map nP
theorem Asc.len {b:Nat}{l:List Nat}(h:Asc b l):l.length<=b:=by
 have:∀(l:List Nat) (m:Nat),l.Pairwise (· < ·)->(∀n∈l,m<=n/\n<b)->l.length<=b-m:=by
  intro l;induction l with
  |nil=>intro m _ _;exact aG _
  |
   cons x r ih=>
   intro m h1 h2;have h3:=Je.1 h1;have h4:=h2 x (by simp);have:=ih (x+1) h3.2 (λn hn=>⟨h3.1 n hn,(h2 n (by simp[hn])).2⟩);simp only[iO];omega
 exact this l 0 h.1 (λn hn=>⟨aG _,h.2 n hn⟩)
theorem Asc.weak {b a:Nat}{l:List Nat}(h:Asc b l)(hb:b<=a):Asc a l:=⟨h.1,λn hn=>lJ (h.2 n hn) hb⟩
theorem yz {b:Nat}{l:List Nat}(h:Asc b l):(CT.asc b).ok (.sl (nL l)):=⟨l,rfl,h.1,h.2⟩
theorem Ue {b:Nat}{l:List Nat}{n k:Nat}(h:Asc b l)(hn:n<b)(hk:k<=l.length)(h1:∀x∈l.take k,x<n)(h2:∀x∈l.drop k,n<x):Asc b (l.take k++[n]++l.drop k):=by have d:=h.1;rw[<-JK k l,DU] at d;refine⟨?_,?_⟩;rw[fU,DU];refine⟨d.1,Je.2 ⟨h2,d.2.1⟩,λa ha b hb=>?_⟩;rcases dV.1 hb with rfl|hb;exact h1 a ha;exact d.2.2 a ha b hb;intro x hx;simp only[jM,lX] at hx;rcases hx with (hx|rfl)|hx;exact h.2 x (J9 hx);exact hn;exact h.2 x (Zj hx)
theorem acy {α β:Type}(f:α->β)(l:List α)(k:Nat):(l.map f).take k=(l.take k).map f:=oC.symm
theorem acz {α β:Type}(f:α->β)(l:List α)(k:Nat):(l.map f).drop k=(l.drop k).map f:=qK.symm
attribute [local go_sem] acy acz List.take_length
theorem BX (b:Nat)(hb:b<=400)(l:List Nat)(d:Asc b l)(n:Int):kV Tryz.prog 135 [.pv (.sl (nL l)),.pv (ag n)] (λr=>∃z,r= .pv (boolP z)/\(z=true->∃m∈l,(m:Int)=n)):=by have h4:l.length<=400:=aP d.len hb;refine wf Tryz.func135 (λ_=> []) (h:=λR a=>?_);refine wb ?_<;>intros;refine wl (λk:Nat=> [(0,.pv (.sl (nL l))),(1,.pv (ag n)),(5,.pv (ag k))]) (λ_=> []) (λk=>k<=l.length) (λk=>l.length-k) 0 (aG _) (vm []) (λk hk=>?_);refine wb (A2.mk ?_ ?_)<;>intros;have h2:k<l.length:=(by omega);refine aB (x:=l[k]) (by omega) (by simp[h2]) rfl ?_;refine wb (A2.mk ?_ ?_)<;>intros;exact wt a (.pv (boolP true)) [] ⟨_,rfl,λ_=>⟨l[k],dm h2,by assumption⟩⟩;exact sr_mark ⟨k+1,h2,by omega,vm []⟩;exact wt a (.pv (boolP false)) [] ⟨_,rfl,λh=>by cases h⟩
theorem Uf (b:Nat)(hb:b<=400)(l:List Nat)(d:Asc b l)(n:Nat)(hn:n<b):kV Tryz.prog 162 [.pv (.sl (nL l)),.pv (ag n)] (λr=>∃m,Asc b m/\r= .pv (.sl (nL m))):=by
 have h4:l.length<=400:=aP d.len hb;refine wf Tryz.func162 (λ_=> []) (h:=λR A=>?_);refine wb ?_<;>intros;refine wl (λk:Nat=> [(0,.pv (.sl (nL l))),(1,.pv (ag n)),(5,.pv (ag k))]) (λ_=> []) (λk=>k<=l.length/\∀x∈l.take k,x<n) (λk=>l.length-k) 0 ⟨aG _,by simp⟩ (vm []) (λk ⟨hk,hx⟩=>?_);refine wb (A2.mk ?_ ?_)<;>intros
 . have h2:k<l.length:=(by omega);have hg:=aV h2;have u:=oP (i:=k) (l:=l);generalize l[k]=y at hg;rw[hg] at u;refine aB (x:=y) (by omega) (by simpa using hg) rfl ?_;refine wb (A2.mk ?_ ?_)<;>intros;refine sr_mark ⟨k+1,⟨h2,?_⟩,by omega,vm []⟩;intro x hm;rw[u] at hm;rcases jM.1 hm with hm|hm;exact hx x hm;simp at hm;omega
   . refine aB (x:=y) (by omega) (by simpa using hg) rfl ?_;refine wb (A2.mk ?_ ?_)<;>intros;exact wt A (.pv (.sl (nL l))) [] ⟨l,d,rfl⟩
     . have B:∀x∈l.drop k,n<x:=by
        intro x hm;have D:n<y:=(by omega);have a:=d.1;rw[<-JK k l,DU] at a;rw[oG h2,(bV.1 hg).2] at hm a;rcases dV.1 hm with rfl|hm;exact D;have:=(Je.1 a.2.1).1 x hm;omega
       refine And.intro (by first|omega|(simp;omega)) ?_;refine wb ?_<;>intros;refine And.intro (by first|omega|(simp;omega)) ?_;refine wb ?_<;>intros;refine And.intro (by first|omega|(simp;omega)) ?_;refine wb ?_<;>intros;exact wt A (.pv (.sl (nL (l.take k++[n]++l.drop k)))) [(312,none)] ⟨_,Ue d hn hk hx B,rfl⟩
 obtain rfl:k=l.length:=(by omega);refine And.intro (by first|omega|(simp;omega)) ?_;refine wb ?_<;>intros;refine And.intro (by first|omega|(simp;omega)) ?_;refine wb ?_<;>intros;have a:=Ue d hn hk hx (by simp);rw[oQ] at a;exact wt A (.pv (.sl (nL (l++[n]++l.drop l.length)))) [(312,none)] ⟨_,a,rfl⟩
theorem LD (b:Nat)(hb:b<=400)(l:List Nat)(y:Asc b l)(l2:List Nat)(d:Asc b l2):kV Tryz.prog 132 [.pv (.sl (nL l)),.pv (.sl (nL l2))] (λr=>∃m,Asc b m/\r= .pv (.sl (nL m))):=by have h4:l.length<=400:=aP y.len hb;have h5:l2.length<=400:=aP d.len hb;refine wf Tryz.func132 (λ_=> []) (h:=λR A=>?_);refine wb ?_<;>intros;refine wl (λu:Nat×List Nat=> [(0,.pv (.sl (nL l))),(1,.pv (.sl (nL l2))),(5,.pv (.sl (nL u.2))),(6,.pv (ag u.1))]) (λ_=> []) (λu=>u.1<=l.length/\Asc b u.2) (λu=>l.length-u.1) (0,[]) ⟨aG _,List.Pairwise.nil,λn hn=>nomatch hn⟩ (vm []) (λ⟨k,m⟩ ⟨hk,hm⟩=>?_);dsimp only at hk hm;refine wb (A2.mk ?_ ?_)<;>intros;have h2:k<l.length:=(by omega);refine aB (x:=l[k]) (by omega) (by simp[h2]) rfl ?_;refine wb ?_<;>intros;refine wF (Uf b hb m hm l[k] (y.2 _ (dm h2))) ?_;rintro r ⟨m',a,rfl⟩;refine wb ?_<;>intros;exact sr_mark ⟨(k+1,m'),⟨h2,a⟩,by dsimp only;omega,vm []⟩;refine wl (λu:Nat×List Nat=> [(1,.pv (.sl (nL l2))),(5,.pv (.sl (nL u.2))),(7,.pv (ag u.1))]) (λ_=> []) (λu=>u.1<=l2.length/\Asc b u.2) (λu=>l2.length-u.1) (0,m) ⟨aG _,hm⟩ (vm []) (λ⟨k,m⟩ ⟨hk,hm⟩=>?_);dsimp only at hk hm;refine wb (A2.mk ?_ ?_)<;>intros;have h2:k<l2.length:=(by omega);refine aB (x:=l2[k]) (by omega) (by simp[h2]) rfl ?_;refine wb ?_<;>intros;refine wF (Uf b hb m hm l2[k] (d.2 _ (dm h2))) ?_;rintro r ⟨m',a,rfl⟩;refine wb ?_<;>intros;exact sr_mark ⟨(k+1,m'),⟨h2,a⟩,by dsimp only;omega,vm []⟩;exact wt A (.pv (.sl (nL m))) [] ⟨_,hm,rfl⟩
def rO:List CT->List PV->Prop
 | [],[]=>True
 |ct::r,q::s=>ct.ok q/\rO r s
 |_,_=>False
theorem Fb:∀ {cts:List CT}{row:List PV},rO cts row->row.length=cts.length
 | [],[],_=>rfl
 |_::r,_::s,h=>by simp only[iO];rw[Fb h.2]
 | [],_::_,h=>h.elim
 |_::_,[],h=>h.elim
def TyR (cts:List CT)(n:Nat)(els:List (List PV)):Prop:=els.length=n/\∀row∈els,rO cts row
theorem TyR.row {cts:List CT}{n k:Nat}{els:List (List PV)}{i:Int}{F:List PV->Prop}(h:TyR cts n els)(h0:0<=i)(h1:i<n)(hF:∀a,els[i.toNat]?=some a->rO cts a->F a)(hk:cts.length=k:=by rfl):Hq els i k F:=by have hi:i.toNat<els.length:=(by rw[h.1];omega);have hg:=aV hi;have hc:=h.2 _ (dm hi);exact aj h0 hg (by rw[Fb hc,hk]) (hF _ hg hc)
theorem TyR.ld {cts:List CT}{n j k off:Nat}{g:Bool}{els:List (List PV)}{F:AV->Prop}(h:TyR cts n els)(h1:j<n)(hF:∀a,els[j]?=some a->rO cts a->∃v,vk g k (a.map .pv) off=some v/\F v):abg els j g k off F:=by have hi:j<els.length:=(by rw[h.1];exact h1);have hg:=aV hi;obtain⟨v,d,u⟩:=hF _ hg (h.2 _ (dm hi));exact yO hg d u
theorem TyR.mod {cts:List CT}{n j:Nat}{els:List (List PV)}{f:List PV->List PV}(h:TyR cts n els)(hf:∀row,rO cts row->rO cts (f row)):TyR cts n (els.modify j f):=by
 refine⟨by rw[DX];exact h.1,λrow hr=>?_⟩;obtain⟨i,hi⟩:=mg.1 hr;rw[IE] at hi
 cases hx:els[i]? with
 |none=>rw [hx] at hi;cases hi
 |
  some x=>
  rw[hx] at hi;have hc:=h.2 x (iC hx);injection hi with hi;subst hi;show rO cts (if j=i then f x else x);split;exact hf _ hc;exact hc
theorem TyR.ap {cts:List CT}{n k:Nat}{els:List (List PV)}(h:TyR cts n els)(hn:n<=100000000)(hk:cts.length=k:=by rfl):els.length<=100000000/\∀row∈els,row.length=k:=⟨by rw[h.1];exact hn,λrow hr=>by rw[Fb (h.2 row hr),hk]⟩
theorem TyR.nil {cts:List CT} :TyR cts 0 []:=⟨rfl,λ_ h=>nomatch h⟩
theorem qE {ct:CT}{r:List CT}{a:List PV}(h:rO (ct::r) a):∃p s,a=p::s/\ct.ok p/\rO r s:=by
 cases a with
 |nil=>exact h.elim
 |cons p s=>exact ⟨p,s,rfl,h.1,h.2⟩
theorem KX {a:List PV}(h:rO [] a):a=[]:=by cases a<;>first|rfl|exact h.elim
theorem qw {d:List PV}(h:rO [.int .i64] d):∃a,i64 a/\d=[ag a]:=by obtain⟨p,s,rfl,⟨a,h1,rfl⟩,h2⟩:=qE h;exact⟨a,h1,by rw[KX h2]⟩
theorem Gu {d:List PV}(h:rO [.bool] d):∃b,d=[boolP b]:=by obtain⟨p,s,rfl,⟨a,rfl⟩,h2⟩:=qE h;exact⟨a,by rw[KX h2]⟩
theorem uQ {b:Nat}{a:List PV}(h:rO [.asc b] a):∃l,Asc b l/\a=[.sl (nL l)]:=by obtain⟨p,s,rfl,⟨l,rfl,h1,h3⟩,h2⟩:=qE h;exact⟨l,⟨h1,h3⟩,by rw[KX h2];rfl⟩
end AM
namespace AM
open Go Go.Proofs Mk
abbrev lkC:List CT:=[.int .i64,.asc 400]
abbrev thC:List CT:=[.int .i64,.int .i64,.bool]
structure Sy where
 a:List (List PV)
 b:List (List PV)
 c:List (List PV)
structure SyK (n:Nat)(y:Sy):Prop where
 a:TyR lkC 3 y.a
 b:TyR [.bool] 1 y.b
 c:TyR thC n y.c
@[go_sem] def yx (y:Sy)(tx:Int):List PV:=[.sl y.a,ag tx,.sl y.b,.sl y.c]
theorem qI {a:List PV}(h:rO lkC a):∃x l,i64 x/\Asc 400 l/\a=[ag x,.sl (nL l)]:=by obtain⟨p,s,rfl,⟨x,h1,rfl⟩,h2⟩:=qE h;obtain⟨l,h3,rfl⟩:=uQ h2;exact⟨x,l,h1,h3,rfl⟩
theorem oW {a:List PV}(h:rO thC a):∃x z b,i64 x/\i64 z/\a=[ag x,ag z,boolP b]:=by obtain⟨p,s,rfl,⟨x,h1,rfl⟩,h2⟩:=qE h;obtain⟨p,s,rfl,⟨z,h3,rfl⟩,h4⟩:=qE h2;obtain⟨b,rfl⟩:=Gu h4;exact⟨x,z,b,h1,h3,rfl⟩
@[go_sem] def thI (i:Nat):List PV:=[ag (if i=0 then 1 else 0),ag 0,boolP false]
@[go_sem] def lk0:List PV:=[ag (-1),.sl []]
@[go_sem] def sy0 (n:Nat):Sy:=⟨[lk0,lk0,lk0],[[boolP false]],(List.range n).map thI⟩
theorem aec (n:Nat):SyK n (sy0 n):=by have a:=mV;have y:=WC;have d:i64 (-1):=bM.2 (by decide);have u:rO lkC lk0:=⟨⟨_,d,rfl⟩,yz (l:=[]) ⟨List.Pairwise.nil,λn hn=>nomatch hn⟩,trivial⟩;refine⟨⟨rfl,λrow hr=>?_⟩,⟨rfl,λrow hr=>?_⟩,⟨by simp[sy0],λrow hr=>?_⟩⟩;simp only[sy0,dV,jK,or_false,or_self] at hr;rw[hr];exact u;simp only[sy0,dV,jK,or_false] at hr;rw[hr];exact⟨⟨_,rfl⟩,trivial⟩;obtain⟨i,_,rfl⟩:=iV.1 hr;exact⟨⟨_,by split<;>assumption,rfl⟩,⟨_,a,rfl⟩,⟨_,rfl⟩,trivial⟩
attribute [local go_sem] rep thNames_len List.length_range List.length_map List.set_cons_zero List.set_cons_succ
theorem UQ (n:Nat)(ss:List (Nat×Nat))(hn:n<=4):FnEq Tryz.prog 67 [rw_ (qJ n ss)] (rw_ (yx (sy0 n) (-1))):=by
 refine wf Tryz.func67 (λ_=> []) (h:=λR a=>?_);refine wb ?_<;>intros;refine sr_ghost 24 0 231 2 rfl rfl ?_;refine sr_ghost 24 2 4 1 rfl rfl ?_;refine sr_ghost 24 3 233 3 rfl rfl ?_;refine wn 4 ?_;refine wb ?_<;>intros;refine wn 2 ?_;refine wb ?_<;>intros;refine wl (λk:Nat=> [(1,.ptr 0 0),(2,.ptr 1 0),(3,.ptr 2 0),(6,.pv (ag k))]) (λk=> [some (.box ((qJ n ss).map .pv)),some (.box [.emp,.pv (ag 0),.emp,.emp]),some (.box [.pv (.sl [lk0,lk0,lk0]),.pv (ag (-1)),.pv (.sl [[boolP false]]),.own 3 k]),some (.row 233 3 ((List.range k).map thI))]) (λk=>k<=n) (λk=>n-k) 0 (aG _) (vm [0,8,24,50] [(363,none),(523,none)]) (λk hk=>?_);refine wb (A2.mk ?_ (A2.mk ?_ ?_))<;>intros
 . have e1:(List.range (k+1)).map thI=(List.range k).map thI++[[ag 1,ag 0,boolP false]]:=by
    obtain rfl:k=0:=(by omega);rfl
   refine sr_mark ⟨k+1,by omega,by omega,?_⟩;rw[e1];exact vm [0,1,2,132]
 . have e1:(List.range (k+1)).map thI=(List.range k).map thI++[[ag 0,ag 0,boolP false]]:=by
    have h0:k≠0:=(by omega);rw[List.range_succ,eU,List.map_singleton,thI,if_neg h0]
   refine sr_mark ⟨k+1,by omega,by omega,?_⟩;rw[e1];exact vm [0,1,2,116]
 obtain rfl:k=n:=(by omega);exact wr a [(3,none)]
theorem Nq (n:Nat)(ss:List (Nat×Nat))(hn:n<=4)(y:Sy)(a:SyK n y)(tx:Int):FnEq Tryz.prog 158 [rw_ (qJ n ss),rw_ (yx y tx)] (.pv (boolP true)):=by obtain⟨⟨h1,-⟩,⟨h2,-⟩,⟨h3,-⟩⟩:=a;refine wf Tryz.func158 (λ_=> [(9,15),(11,15),(13,15)]) (h:=λR d=>?_);refine wb ?_<;>intros;refine wn 2 ?_;refine wb ?_<;>intros;(iterate 2 (refine aj (by omega) rfl rfl ?_;refine wb ?_<;>intros));all_goals exact wr d
end AM
namespace AM
open Go Go.Proofs Mk
def aiY:Nat->List (Nat×Nat):=λi=>if i=1 then [(1,4),(1,5),(1,8),(4,8),(5,8),(1,9),(1,11),(4,11),(5,11),(8,11),(9,11)] else if i=5 then [(1,3),(1,5),(1,7),(1,10),(3,10),(5,10),(7,10),(1,12),(3,12),(5,12),(7,12),(1,14),(3,14),(5,14),(7,14),(1,15),(3,15),(5,15),(7,15)] else []
attribute [local go_sem] List.set_cons_zero List.set_cons_succ List.map_append List.length_append List.map_cons List.map_nil List.length_singleton
theorem BV (n:Nat)(y:Sy)(d:SyK n y)(tx:Int)(hn:n<=4):ACall Tryz.prog 131 [rw_ (yx y tx)] [] (λv g=>v= .agg [.own 0 y.a.length,.pv (ag tx),.own 1 y.b.length,.own 2 y.c.length]/\g=[some (.row 231 2 y.a),some (.row 4 1 y.b),some (.row 233 3 y.c)]):=by have h1:=d.a.1;have h2:=d.b.1;have h3:=d.c.1;refine wz Tryz.func131 aiY (h:=λR B=>?_);refine wb ?_<;>intros;refine And.intro (d.b.ap (by omega)) ?_;refine wb ?_<;>intros;refine And.intro (d.c.ap (by omega)) ?_;refine wb ?_<;>intros;refine sr_ghost 104 0 231 2 rfl rfl ?_;refine wl (λu:List (List PV)=> [(1,.ptr 0 0),(2,.ptr 1 0),(3,.ptr 2 0),(4,.pv (ag u.length))]) (λu=> [some (.box ((yx y tx).map .pv)),some (.box [.emp,.pv (ag 0),.emp,.emp]),some (.box [.own 3 u.length,.pv (ag tx),.own 4 y.b.length,.own 5 y.c.length]),some (.row 231 2 u),some (.row 4 1 y.b),some (.row 233 3 y.c)]) (λu=>u.length<=3/\Hd (u=y.a.take u.length)) (λu=>3-u.length) [] ⟨aG _,⟨rfl⟩⟩ (vm [0,8,104,128,56,88]) (λu ⟨hk,A⟩=>?_);refine wb (A2.mk ?_ ?_)<;>intros;refine d.a.row (by omega) (by omega) (λH hg D=>?_);obtain⟨x,l,hx,E,rfl⟩:=qI D;have G:=E.len;refine wb ?_<;>intros;refine aj (by omega) hg rfl ?_;refine wb ?_<;>intros;have e1:(u++[[ag x,.sl (nL l)]]).length=u.length+1:=(by simp);exact sr_mark ⟨u++[[ag x,.sl (nL l)]],⟨by omega,⟨by rw[e1,oP,<-A.out];rw[xe] at hg;rw[hg];rfl⟩⟩,by omega,vm [0,1,2,190,4,5]⟩;have e1:u.length=y.a.length:=(by omega);have A:=A.out;rw[e1,oQ] at A;subst A;refine wo B (.agg [.own 0 y.a.length,.pv (ag tx),.own 1 y.b.length,.own 2 y.c.length]) [some (.row 231 2 y.a),some (.row 4 1 y.b),some (.row 233 3 y.c)] [3,4,5] [] ⟨rfl,rfl⟩
end AM
namespace AM
open Go Go.Proofs
theorem Asc.filter {b:Nat}{l:List Nat}(h:Asc b l)(p:Nat->Bool):Asc b (l.filter p):=⟨h.1.sublist List.filter_sublist,λn hn=>h.2 n (Ir.1 hn).1⟩
def neI (n:Int)(x:Nat):Bool:=decide ((x:Int)≠n)
theorem VM {l:List Nat}{p:Nat->Bool}{k x:Nat}(h:l[k]?=some x):(l.take (k+1)).filter p=(l.take k).filter p++(if p x=true then [x] else []):=by rw[oP,h,List.filter_append];simp[List.filter_cons]
attribute [local go_sem] List.map_append List.length_append List.map_cons List.map_nil List.length_singleton
theorem PH (b:Nat)(hb:b<=400)(l:List Nat)(u:Asc b l)(n:Int):kV Tryz.prog 133 [.pv (.sl (nL l)),.pv (ag n)] (λr=>∃m,Asc b m/\r= .pv (.sl (nL m))):=by have h4:l.length<=400:=aP u.len hb;refine wf Tryz.func133 (λ_=> []) (h:=λR A=>?_);refine wb ?_<;>intros;refine sr_ghostE 5 3 1 (by exact we) ?_;refine wl (λk:Nat=> [(0,.pv (.sl (nL l))),(1,.pv (ag n)),(5,.own 0 ((l.take k).filter (neI n)).length),(6,.pv (ag k))]) (λk=> [some (.row 3 1 (nL ((l.take k).filter (neI n))))]) (λk=>k<=l.length) (λk=>l.length-k) 0 (aG _) (vm [24]) (λk hk=>?_);refine wb (A2.mk ?_ ?_)<;>intros;have h2:k<l.length:=(by omega);have hg:=aV h2;have a:=VM (p:=neI n) hg;have B:((l.take k).filter (neI n)).length<=400:=aP (List.length_filter_le _ _) (by simp;omega);generalize l[k]=y at hg a;refine aB (x:=y) (by omega) (by simpa using hg) rfl ?_;refine wb (A2.mk ?_ ?_)<;>intros;refine aB (x:=y) (by omega) (by simpa using hg) rfl ?_;refine wb ?_<;>intros;have d:neI n y=true:=(by unfold neI;rw[gK];assumption);rw[if_pos d] at a;refine sr_mark ⟨k+1,h2,by omega,?_⟩;rw[a];exact vm [129];have d:¬neI n y=true:=(by unfold neI;rw[gK];omega);rw[if_neg d,pY] at a;refine sr_mark ⟨k+1,h2,by omega,?_⟩;rw[a];exact vm [0];obtain rfl:k=l.length:=(by omega);rw[oQ];exact wt A (.pv (.sl (nL (l.filter (neI n))))) [(0,none)] ⟨_,u.filter _,rfl⟩
end AM
namespace AM
open Go Go.Proofs Mk
structure NmOk (n:Nat)(k o:Int):Prop where
 kd:1<=k/\k<=23
 c:k=3\/k=4->0<=o/\o<5
 l:6<=k/\k<=11->0<=o/\o<3
 d:16<=k/\k<=19->o=0
 t:k=20\/k=21->0<=o/\o<n
 f:22<=k/\k<=23->o=0
def Jp (p:Prop)(r:AV):Prop:=∃z,r= .pv (boolP z)/\(z=true->p)
attribute [local go_sem] thNames_len
theorem X8 (n:Nat)(hn:n<=4)(ss:List (Nat×Nat))(k o:Int):kV Tryz.prog 161 [rw_ (qJ n ss),.pv (ag k),.pv (ag o)] (Jp (NmOk n k o)):=by
 refine wf Tryz.func161 (λ_=> []) (h:=λR a=>?_);refine EI rfl ?_;refine wb (A2.mk ?_ (A2.mk ?_ (A2.mk ?_ (A2.mk ?_ (A2.mk ?_ (A2.mk ?_ (A2.mk ?_ (A2.mk ?_ (A2.mk ?_ (A2.mk ?_ (A2.mk ?_ (A2.mk ?_ (A2.mk ?_ (A2.mk ?_ (A2.mk ?_ (A2.mk ?_ (A2.mk ?_ (A2.mk ?_ (A2.mk ?_ (A2.mk ?_ (A2.mk ?_ (A2.mk ?_ (A2.mk ?_ ?_)))))))))))))))))))))))<;>intros;(all_goals try exact wt a (.pv (boolP (o== -1))) [] ⟨_,rfl,λh=>by simp only[gI] at h;constructor<;>omega⟩);(all_goals try exact wt a (.pv (boolP false)) [] ⟨_,rfl,λh=>by cases h⟩);(all_goals try (refine wE (D6 o 5) ?_;refine wb ?_<;>intros;exact wt a (.pv (boolP (decide (0<=o) && decide (o<5)))) [] ⟨_,rfl,λh=>by simp only[cZ,gK] at h;constructor<;>omega⟩));(all_goals try (refine wE (D6 o 1) ?_;refine wb ?_<;>intros;exact wt a (.pv (boolP (decide (0<=o) && decide (o<1)))) [] ⟨_,rfl,λh=>by simp only[cZ,gK] at h;constructor<;>omega⟩));all_goals try (refine wE (D6 o n) ?_;refine wb ?_<;>intros;exact wt a (.pv (boolP (decide (0<=o) && decide (o<n)))) [] ⟨_,rfl,λh=>by simp only[cZ,gK] at h;constructor<;>omega⟩)
 all_goals
  refine wE (D6 o 3) ?_;refine wb (A2.mk ?_ ?_)<;>intros
  . rename_i hx;simp only[cZ,gK] at hx;obtain rfl|rfl|rfl:o=0\/o=1\/o=2:=by omega
    all_goals
     refine aj (by omega) rfl rfl ?_;refine wb ?_<;>intros
     first
      |exact wt a (.pv (boolP true)) [] ⟨_,rfl,λ_=>by constructor<;>omega⟩
      |exact wt a (.pv (boolP false)) [] ⟨_,rfl,λh=>by cases h⟩
  exact wt a (.pv (boolP false)) [] ⟨_,rfl,λh=>by cases h⟩
end AM
namespace AM
open Go Go.Proofs Mk
theorem ZU {k:Nat}{l:List Nat}(h:Asc k l):Asc (k+1) (l++[k]):=by refine⟨?_,λn hn=>?_⟩;rw[DU];refine⟨h.1,Iu _ _,λa ha b hb=>?_⟩;rw[lX.1 hb];exact h.2 a ha;rcases jM.1 hn with hn|hn;exact Nat.lt_succ_of_lt (h.2 n hn);rw[lX.1 hn];exact EE k
attribute [local go_sem] List.map_append List.length_append List.map_cons List.map_nil List.length_singleton
@[go_sem] def syA (y:Sy)(tx:Int)(a b c:Nat):List AV:=[.own a y.a.length,.pv (ag tx),.own b y.b.length,.own c y.c.length]
@[go_sem] def syO (y:Sy):List Obj:=[.row 231 2 y.a,.row 4 1 y.b,.row 233 3 y.c]
theorem zH (n:Nat)(hn:n<=4)(y:Sy)(d:SyK n y)(tx c:Int):ACall Tryz.prog 134 [.agg (syA y tx 0 1 2),.pv (ag c)] (syO y) (λv g=>(∃ws,Asc n ws/\v= .pv (.sl (nL ws)))/\g=(syO y).map some):=by have h3:=d.c.1;refine wz Tryz.func134 (λ_=> []) (h:=λR A=>?_);refine wb ?_<;>intros;refine sr_ghostE 5 3 1 (by exact we) ?_;refine wl (λu:Nat×List Nat=> [(1,.pv (ag c)),(2,.ptr 3 0),(5,.own 4 u.2.length),(6,.pv (ag u.1))]) (λu=> [some (.row 231 2 y.a),some (.row 4 1 y.b),some (.row 233 3 y.c),some (.box (syA y tx 0 1 2)),some (.row 3 1 (nL u.2))]) (λu=>u.1<=n/\Asc u.1 u.2) (λu=>n-u.1) (0,[]) ⟨aG _,List.Pairwise.nil,λn hn=>nomatch hn⟩ (vm [0,1,2,3,35]) (λ⟨k,ws⟩ ⟨hk,hw⟩=>?_);dsimp only at hk hw;have B:ws.length<=4:=aP hw.len (by omega);refine wb (A2.mk ?_ ?_)<;>intros;refine d.c.ld (by omega) (λE hg D=>?_);obtain⟨x,z,b,hx,G,rfl⟩:=oW D;refine⟨_,rfl,?_⟩;refine wb (A2.mk ?_ ?_)<;>intros;refine yO hg rfl ?_;refine wb (A2.mk ?_ ?_)<;>intros;exact sr_mark ⟨(k+1,ws++[k]),⟨by omega,ZU hw⟩,by dsimp only;omega,vm [0,1,2,3,205]⟩;exact sr_mark ⟨(k+1,ws),⟨by omega,hw.weak (Qu k)⟩,by dsimp only;omega,vm [0,1,2,3,4]⟩;exact sr_mark ⟨(k+1,ws),⟨by omega,hw.weak (Qu k)⟩,by dsimp only;omega,vm [0,1,2,3,4]⟩;exact wo A (.pv (.sl (nL ws))) ((syO y).map some) [0,1,2] [(4,none)] ⟨⟨ws,hw.weak (by omega),rfl⟩,rfl⟩
end AM
namespace AM
open Go Go.Proofs Mk
def bz:Option AV->Prop
 |some (.pv (.sc (.bool _)))=>True
 |_=>False
@[go_sem] theorem ak0 {z:Bool} :bz (some (.pv (.sc (.bool z))))=True:=rfl
theorem aea {x:Option AV}(h:bz x):∃z,x=some (.pv (boolP z)):=by unfold bz at h;split at h;exact⟨_,rfl⟩;exact h.elim
theorem wtB {P:Program}{us:Nat->List (Nat×Nat)}{nt nx t:Nat}{R:Env->Sto->Prop}{hm:P.follows .mixedOrders=true}{k:List It}{c:Code}{env:Env}{σ:Sto}{p:Prop}(hR:∀env σ,jC P 0 [.tmp t] (λv g=>g=[]/\v.lb 0=true/\Jp p v) env σ->R env σ)(hp:p)(hE:bz (env t):=by ((try clear hR);exact we))(hc:Hl c=true:=by rfl):sr ⟨P,us,nt,0,R,hm⟩ (.code c::k) env σ nx:=by obtain⟨z,hz⟩:=aea hE;exact wt hR (.pv (boolP z)) [] ⟨z,rfl,λ_=>hp⟩ (hf:=trivial) (hE:=by simp[rA,hz,wk,FP]) (hc:=hc)
def ahS:Nat->List (Nat×Nat):=λi=>if i=8 then [(11,13),(11,15),(11,17)] else if i=34 then [(1,3),(1,5),(1,7)] else []
attribute [local go_sem] thNames_len
theorem PG (n:Nat)(hn:n<=4)(ss:List (Nat×Nat))(y:Sy)(A:SyK n y)(tx t k o:Int)(U:i64 tx):kV Tryz.prog 130 [rw_ (qJ n ss),rw_ (yx y tx),.pv (ag t),.pv (ag k),.pv (ag o)] (Jp ((0<=t/\t<n)/\NmOk n k o)):=by
 refine wf Tryz.func130 ahS (h:=λR D=>?_);refine wb ?_<;>intros;refine wE (Nq n ss hn y A tx) ?_;refine wb ?_<;>intros;refine wE (D6 t n) ?_;refine wb (A2.mk ?_ ?_)<;>intros;(all_goals try exact wt D (.pv (boolP false)) [] ⟨_,rfl,λh=>by cases h⟩);refine wF (X8 n hn ss k o) ?_;rintro v ⟨z,rfl,V⟩;refine wb (A2.mk ?_ ?_)<;>intros;(all_goals try exact wt D (.pv (boolP false)) [] ⟨_,rfl,λh=>by cases h⟩);rename_i hx L;simp only[cZ,gK] at hx;have H:=V L;have h2:=H.c;have h3:=H.l;have h4:=H.d;have h5:=H.t;have h6:=H.f;refine A.c.row (by omega) (by omega) (λB _ u=>?_);obtain⟨st,X,bt,Y,Z,rfl⟩:=oW u;refine wb (A2.mk ?_ (A2.mk ?_ (A2.mk ?_ (A2.mk ?_ (A2.mk ?_ (A2.mk ?_ (A2.mk ?_ (A2.mk ?_ (A2.mk ?_ (A2.mk ?_ (A2.mk ?_ (A2.mk ?_ (A2.mk ?_ (A2.mk ?_ (A2.mk ?_ (A2.mk ?_ (A2.mk ?_ (A2.mk ?_ (A2.mk ?_ (A2.mk ?_ (A2.mk ?_ (A2.mk ?_ (A2.mk ?_ (A2.mk ?_ ?_))))))))))))))))))))))))<;>intros;all_goals try exact wtB D ⟨hx,H⟩
 all_goals try (first
  |(refine A.c.row (by omega) (by omega) (λB _ u=>?_);obtain⟨E,N,G,_,_,rfl⟩:=oW u;refine wb ?_<;>intros)
  |(refine A.b.row (by omega) (by omega) (λB _ u=>?_);obtain⟨G,rfl⟩:=Gu u;refine wb ?_<;>intros)
  |(have e0:o=0:=h4 (by omega);subst e0;refine aj (by omega) rfl rfl ?_;refine wb ?_<;>intros)
  |(refine A.a.row (by omega) (by omega) (λB _ u=>?_);obtain⟨E,l,_,I,rfl⟩:=qI u;have J:=I.len;(first|(refine wb ?_<;>intros)|(refine wb (A2.mk ?_ ?_)<;>intros)))
  |(refine wF (BX 400 (ax _) _ (by assumption) t) ?_;rintro v ⟨O,rfl,_⟩;skip))
 all_goals try exact wtB D ⟨hx,H⟩
 all_goals try (first
  |(refine A.c.row (by omega) (by omega) (λB _ u=>?_);obtain⟨E,N,G,_,_,rfl⟩:=oW u;skip)
  |(refine A.b.row (by omega) (by omega) (λB _ u=>?_);obtain⟨G,rfl⟩:=Gu u;skip)
  |(have e0:o=0:=h4 (by omega);subst e0;refine aj (by omega) rfl rfl ?_;skip)
  |(refine A.a.row (by omega) (by omega) (λB _ u=>?_);obtain⟨E,l,_,I,rfl⟩:=qI u;have J:=I.len;refine wb ?_<;>intros)
  |(refine wF (BX 400 (ax _) _ (by assumption) t) ?_;rintro v ⟨O,rfl,_⟩;refine wb ?_<;>intros))
 all_goals try exact wtB D ⟨hx,H⟩
 all_goals try (first
  |(refine A.c.row (by omega) (by omega) (λB _ u=>?_);obtain⟨E,N,G,_,_,rfl⟩:=oW u;skip)
  |(refine A.b.row (by omega) (by omega) (λB _ u=>?_);obtain⟨G,rfl⟩:=Gu u;skip)
  |(have e0:o=0:=h4 (by omega);subst e0;refine aj (by omega) rfl rfl ?_;skip)
  |(refine A.a.row (by omega) (by omega) (λB _ u=>?_);obtain⟨E,l,_,I,rfl⟩:=qI u;have J:=I.len;skip)
  |(refine wF (BX 400 (ax _) _ (by assumption) t) ?_;rintro v ⟨O,rfl,_⟩;refine wb ?_<;>intros))
 all_goals try exact wtB D ⟨hx,H⟩
 all_goals try (first
  |(refine A.c.row (by omega) (by omega) (λB _ u=>?_);obtain⟨E,N,G,_,_,rfl⟩:=oW u;skip)
  |(refine A.b.row (by omega) (by omega) (λB _ u=>?_);obtain⟨G,rfl⟩:=Gu u;skip)
  |(have e0:o=0:=h4 (by omega);subst e0;refine aj (by omega) rfl rfl ?_;skip)
  |(refine A.a.row (by omega) (by omega) (λB _ u=>?_);obtain⟨E,l,_,I,rfl⟩:=qI u;have J:=I.len;skip)
  |(refine wF (BX 400 (ax _) _ (by assumption) t) ?_;rintro v ⟨O,rfl,_⟩;skip))
 all_goals try exact wtB D ⟨hx,H⟩
end AM
namespace AM
open Go Go.Proofs Mk
def ApQ (n:Nat)(t k o:Int)(r:AV):Prop:=(∃y tx v,r= .tup [rw_ (yx y tx),.pv (ag v),.pv (boolP true)]/\SyK n y/\i64 tx/\i64 v/\(0<=t/\t<n)/\NmOk n k o)\/r= .tup [rw_ [.sl [],ag 0,.sl [],.sl []],.pv (ag 0),.pv (boolP false)]
theorem adv {n:Nat}{t k o:Int} :ApQ n t k o (.tup [rw_ [.sl [],ag 0,.sl [],.sl []],.pv (ag 0),.pv (boolP false)]):= .inr rfl
theorem eY {n:Nat}{t k o:Int}(h1:0<=t/\t<n)(h2:NmOk n k o){y:Sy}(a:SyK n y){tx v:Int}(h:i64 tx)(d:i64 v):ApQ n t k o (.tup [rw_ (yx y tx),.pv (ag v),.pv (boolP true)]):= .inl ⟨_,_,_,rfl,a,h,d,h1,h2⟩
def amA:Nat->List (Nat×Nat):=λi=>if i=17 then [(1,4),(1,6),(1,8),(1,11)] else if i=19 then [(1,4),(1,6),(1,8),(1,10)] else if i=29 then [(1,3),(1,5),(1,7)] else if i=30 then [(1,4),(4,7),(4,9)] else if i=32 then [(1,3),(1,5),(1,7)] else if i=33 then [(1,4),(4,6),(4,8)] else if i=48 then [(1,4),(1,5)] else []
attribute [local go_sem] thNames_len
section
variable {n j : Nat} {y : Sy}
theorem SyK.sA (h:SyK n y){v:Int}(d:i64 v):SyK n ⟨y.a.modify j λrow=>ag v::row.drop 1,y.b,y.c⟩:=⟨h.a.mod λrow hr=>by obtain⟨x,l,hx,u,rfl⟩:=qI hr;exact⟨⟨_,d,rfl⟩,yz u,trivial⟩,h.b,h.c⟩
theorem SyK.sR (h:SyK n y){m:List Nat}(hm:Asc 400 m):SyK n ⟨y.a.modify j λrow=>row.take 1++[.sl (nL m)]++row.drop 2,y.b,y.c⟩:=⟨h.a.mod λrow hr=>by obtain⟨x,l,hx,d,rfl⟩:=qI hr;exact⟨⟨_,hx,rfl⟩,yz hm,trivial⟩,h.b,h.c⟩
theorem SyK.sB (h:SyK n y){b:Bool} :SyK n ⟨y.a,y.b.modify j λrow=>boolP b::row.drop 1,y.c⟩:=⟨h.a,h.b.mod λrow hr=>by obtain⟨x,rfl⟩:=Gu hr;exact⟨⟨_,rfl⟩,trivial⟩,h.c⟩
theorem SyK.sC (h:SyK n y){v:Int}(d:i64 v):SyK n ⟨y.a,y.b,y.c.modify j λrow=>ag v::row.drop 1⟩:=⟨h.a,h.b,h.c.mod λrow hr=>by obtain⟨x,z,b,hx,u,rfl⟩:=oW hr;exact⟨⟨_,d,rfl⟩,⟨_,u,rfl⟩,⟨_,rfl⟩,trivial⟩⟩
theorem SyK.sD (h:SyK n y){v:Int}(d:i64 v):SyK n ⟨y.a,y.b,y.c.modify j λrow=>row.take 1++[ag v]++row.drop 2⟩:=⟨h.a,h.b,h.c.mod λrow hr=>by obtain⟨x,z,b,hx,u,rfl⟩:=oW hr;exact⟨⟨_,hx,rfl⟩,⟨_,d,rfl⟩,⟨_,rfl⟩,trivial⟩⟩
theorem SyK.sE (h:SyK n y){b:Bool} :SyK n ⟨y.a,y.b,y.c.modify j λrow=>row.take 2++[boolP b]++row.drop 3⟩:=⟨h.a,h.b,h.c.mod λrow hr=>by obtain⟨x,z,b,hx,d,rfl⟩:=oW hr;exact⟨⟨_,hx,rfl⟩,⟨_,d,rfl⟩,⟨_,rfl⟩,trivial⟩⟩
end
attribute [local go_sem] List.length_modify
theorem Ur (n:Nat)(hn:n<=4)(ss:List (Nat×Nat))(y:Sy)(B:SyK n y)(tx t k o w:Int)(A:i64 tx):kV Tryz.prog 99 [rw_ (qJ n ss),rw_ (yx y tx),.pv (ag t),.pv (ag k),.pv (ag o),.pv (ag w)] (ApQ n t k o):=by
 have h1:=B.a.1;have h2:=B.b.1;have h3:=B.c.1;refine wf Tryz.func99 amA (h:=λR D=>?_);refine wb ?_<;>intros;refine wF (PG n hn ss y B tx t k o A) ?_;rintro v ⟨z,rfl,Z⟩;refine wb (A2.mk ?_ ?_)<;>intros;(all_goals try exact wt D (.tup [rw_ [.sl [],ag 0,.sl [],.sl []],.pv (ag 0),.pv (boolP false)]) [] adv);rename_i L;obtain⟨hx,H⟩:=Z L;obtain⟨t,rfl⟩:=Gp hx.1;have h2:=H.c;have h3:=H.l;have h4:=H.d;have h5:=H.t;have h6:=H.f;have E:=mV;have J:i64 (-1):=bM.2 (by omega);have N:i64 t:=bM.2 (by omega);refine wq (BV n y B tx hn) [] ?_;rintro r g ⟨rfl,rfl⟩;refine wb (A2.mk ?_ (A2.mk ?_ (A2.mk ?_ (A2.mk ?_ (A2.mk ?_ (A2.mk ?_ (A2.mk ?_ (A2.mk ?_ (A2.mk ?_ (A2.mk ?_ (A2.mk ?_ (A2.mk ?_ (A2.mk ?_ (A2.mk ?_ (A2.mk ?_ (A2.mk ?_ (A2.mk ?_ (A2.mk ?_ ?_))))))))))))))))))<;>intros;exact wt D (.tup [rw_ (yx ⟨y.a,y.b,y.c.modify t λrow=>ag 2::row.drop 1⟩ tx),.pv (ag 0),.pv (boolP true)]) [(104,none),(105,none),(106,none)] (eY hx H (B.sC (v:=2) (bM.2 (by decide))) A E);exact wt D (.tup [rw_ (yx ⟨y.a,y.b,y.c.modify t λrow=>ag 5::row.drop 1⟩ tx),.pv (ag 0),.pv (boolP true)]) [(104,none),(105,none),(106,none)] (eY hx H (B.sC (v:=5) (bM.2 (by decide))) A E)
 iterate 2
  exact wt D (.tup [rw_ (yx ⟨y.a.modify o.toNat λrow=>ag t::row.drop 1,y.b,y.c⟩ tx),.pv (ag 0),.pv (boolP true)]) [(104,none),(105,none),(106,none)] (eY hx H (B.sA N) A E)
 iterate 2
  exact wt D (.tup [rw_ (yx ⟨y.a.modify o.toNat λrow=>ag (-1)::row.drop 1,y.b,y.c⟩ tx),.pv (ag 0),.pv (boolP true)]) [(104,none),(105,none),(106,none)] (eY hx H (B.sA J) A E)
 refine B.a.ld (by omega) (λps hg O=>?_);obtain⟨x,l,U,G,rfl⟩:=qI O;have V:=G.len;have h1:Asc 400 [t]:=⟨Iu _ _,λm hm=>by rw[lX.1 hm];omega⟩;refine⟨_,rfl,?_⟩;refine wb ?_<;>intros;refine wG (LD 400 (ax _) l G [t] h1) (.pv (.sl (nL l))) ⟨l,G,rfl⟩ ?_;rintro v ⟨m,hm,rfl⟩;refine wb ?_<;>intros;exact wt D (.tup [rw_ (yx ⟨y.a.modify o.toNat λrow=>row.take 1++[.sl (nL m)]++row.drop 2,y.b,y.c⟩ tx),.pv (ag 0),.pv (boolP true)]) [(104,none),(105,none),(106,none)] (eY hx H (B.sR hm) A E);refine B.a.ld (by omega) (λps hg O=>?_);obtain⟨x,l,U,G,rfl⟩:=qI O;have V:=G.len;have h1:Asc 400 [t]:=⟨Iu _ _,λm hm=>by rw[lX.1 hm];omega⟩;refine⟨_,rfl,?_⟩;refine wb ?_<;>intros;refine wG (PH 400 (ax _) l G t) (.pv (.sl (nL l))) ⟨l,G,rfl⟩ ?_;rintro v ⟨m,hm,rfl⟩;refine wb ?_<;>intros;exact wt D (.tup [rw_ (yx ⟨y.a.modify o.toNat λrow=>row.take 1++[.sl (nL m)]++row.drop 2,y.b,y.c⟩ tx),.pv (ag 0),.pv (boolP true)]) [(104,none),(105,none),(106,none)] (eY hx H (B.sR hm) A E);exact wt D (.tup [rw_ (yx ⟨y.a,y.b,y.c⟩ t),.pv (ag 0),.pv (boolP true)]) [(104,none),(105,none),(106,none)] (eY hx H B N E);exact wt D (.tup [rw_ (yx ⟨y.a,y.b,y.c⟩ (-1)),.pv (ag 0),.pv (boolP true)]) [(104,none),(105,none),(106,none)] (eY hx H B J E);exact wt D (.tup [rw_ (yx ⟨y.a,y.b,y.c.modify t λrow=>row.take 2++[boolP true]++row.drop 3⟩ tx),.pv (ag 0),.pv (boolP true)]) [(104,none),(105,none),(106,none)] (eY hx H B.sE A E);exact wt D (.tup [rw_ (yx ⟨y.a,y.b,y.c.modify t λrow=>row.take 2++[boolP false]++row.drop 3⟩ tx),.pv (ag 0),.pv (boolP true)]) [(104,none),(105,none),(106,none)] (eY hx H B.sE A E);obtain rfl:o=0:=h4 (by omega);refine aj (by omega) rfl rfl ?_;refine wb ?_<;>intros;exact wt D (.tup [rw_ (yx ⟨y.a.modify 0 λrow=>ag (-1)::row.drop 1,y.b,(y.c.modify t λrow=>ag 3::row.drop 1).modify t λrow=>row.take 1++[ag 0]++row.drop 2⟩ tx),.pv (ag 0),.pv (boolP true)]) [(104,none),(105,none),(106,none)] (eY hx H (((B.sC (v:=3) (bM.2 (by decide))).sD (v:=0) E).sA J) A E);obtain rfl:o=0:=h4 (by omega);refine aj (by omega) rfl rfl ?_;refine wb ?_<;>intros;exact wt D (.tup [rw_ (yx ⟨y.a.modify 0 λrow=>ag t::row.drop 1,y.b,(y.c.modify t λrow=>ag 2::row.drop 1).modify t λrow=>row.take 1++[ag 0]++row.drop 2⟩ tx),.pv (ag 0),.pv (boolP true)]) [(104,none),(105,none),(106,none)] (eY hx H (((B.sC (v:=2) (bM.2 (by decide))).sD (v:=0) E).sA N) A E)
 . refine wq (zH n hn y B tx o) [104,105,106] ?_;rintro r g ⟨⟨ws,hw,rfl⟩,rfl⟩;have X:ws.length<=4:=aP hw.len (by omega);refine wb (A2.mk ?_ ?_)<;>intros;(all_goals try exact wt D (.tup [rw_ (yx ⟨y.a,y.b,y.c⟩ tx),.pv (ag (-1)),.pv (boolP true)]) [(104,none),(105,none),(106,none)] (eY hx H B A J));have h0:0<ws.length:=(by omega);have hq:=hw.2 _ (dm h0);refine aB (x:=ws[0]) (by omega) (by simp[h0]) rfl ?_;refine wb ?_<;>intros;refine wF (BX 400 (ax _) ws (hw.weak (by omega)) w) ?_;rintro v ⟨z2,rfl,Y⟩;refine wb (A2.mk ?_ ?_)<;>intros;obtain⟨m,hm,rfl⟩:=Y (by assumption);have a6:=hw.2 m hm;refine wb ?_<;>intros;exact wt D (.tup [rw_ (yx ⟨y.a,y.b,y.c.modify m λrow=>ag 4::row.drop 1⟩ tx),.pv (ag m),.pv (boolP true)]) [(104,none),(105,none),(106,none)] (eY hx H (B.sC (v:=4) (bM.2 (by decide))) A (bM.2 (by omega)));exact wt D (.tup [rw_ (yx ⟨y.a,y.b,y.c.modify ws[0] λrow=>ag 4::row.drop 1⟩ tx),.pv (ag (ws[0]:Nat)),.pv (boolP true)]) [(104,none),(105,none),(106,none)] (eY hx H (B.sC (v:=4) (bM.2 (by decide))) A (bM.2 (by omega)))
 refine wq (zH n hn y B tx o) [104,105,106] ?_;rintro r g ⟨⟨ws,hw,rfl⟩,rfl⟩;have X:ws.length<=4:=aP hw.len (by omega);refine wb ?_<;>intros;refine wl (λu:Nat×List (List PV)=> [(7,.ptr 0 0),(12,.ptr 1 0),(18,.pv (.sl (nL ws))),(19,.pv (ag u.1))]) (λu=> [some (.box (syA ⟨y.a,y.b,u.2⟩ tx 2 3 4)),some (.box [.emp,.pv (ag 0),.emp,.emp]),some (.row 231 2 y.a),some (.row 4 1 y.b),some (.row 233 3 u.2)]) (λu=>u.1<=ws.length/\SyK n ⟨y.a,y.b,u.2⟩) (λu=>ws.length-u.1) (0,y.c) ⟨aG _,B⟩ (vm [8,16,104,105,106]) (λ⟨j,c⟩ ⟨hj,hc⟩=>?_);dsimp only at hj hc;refine wb (A2.mk ?_ ?_)<;>intros;have I:j<ws.length:=(by omega);have hq:=hw.2 _ (dm I);have h7:c.length=n:=hc.c.1;refine aB (x:=ws[j]) (by omega) (by simp[I]) rfl ?_;refine wb ?_<;>intros;exact sr_mark ⟨(j+1,c.modify ws[j] λrow=>ag 4::row.drop 1),⟨I,hc.sC (v:=4) (bM.2 (by decide))⟩,by dsimp only;omega,vm [0,1,2,3,4]⟩;exact wt D (.tup [rw_ (yx ⟨y.a,y.b,c⟩ tx),.pv (ag ws.length),.pv (boolP true)]) [(2,none),(3,none),(4,none)] (eY hx H hc A (bM.2 (by omega)));exact wt D (.tup [rw_ (yx ⟨y.a,y.b,y.c.modify o.toNat λrow=>ag 1::row.drop 1⟩ tx),.pv (ag 0),.pv (boolP true)]) [(104,none),(105,none),(106,none)] (eY hx H (B.sC (v:=1) (bM.2 (by decide))) A E);exact wt D (.tup [rw_ (yx ⟨y.a,y.b.modify o.toNat λrow=>boolP true::row.drop 1,y.c⟩ tx),.pv (ag 0),.pv (boolP true)]) [(104,none),(105,none),(106,none)] (eY hx H B.sB A E);exact wt D (.tup [rw_ (yx ⟨y.a,y.b,y.c⟩ tx),.pv (ag 0),.pv (boolP true)]) [(104,none),(105,none),(106,none)] (eY hx H B A E)
