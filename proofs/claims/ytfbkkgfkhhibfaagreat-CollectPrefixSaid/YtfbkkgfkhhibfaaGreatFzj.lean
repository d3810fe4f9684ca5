/- Words. -/
import Derived.Test.YtfbkkgfkhhibfaaGreatAtw
set_option linter.unusedVariables false
set_option linter.unusedSimpArgs false
namespace AM
open Go Go.Proofs
theorem afe (i n:Int):FnEq Tryz.prog 97 [.pv (ah i),.pv (ah n)] (.pv (boolP (decide (0<=i) && decide (i<n)))):=by refine wf Tryz.func97 (λ_=> []) (h:=λR a=>?_);refine wb (A2.mk ?_ ?_)<;>intros;all_goals exact wr a
theorem EH (i n:Int):FnEq Tryz.prog 160 [.pv (ah i),.pv (ah n)] (.pv (boolP (decide (0<=i) && decide (i<n)))):=by refine wf Tryz.func160 (λ_=> []) (h:=λR a=>?_);refine wb (A2.mk ?_ ?_)<;>intros;all_goals exact wr a
theorem ng (a b:Int):FnEq Tryz.prog 168 [.pv (ah a),.pv (ah b)] (.pv (ah (if a=0 then b else a))):=by refine wf Tryz.func168 (λ_=> []) (h:=λR d=>?_);refine wb (A2.mk ?_ ?_)<;>intros;all_goals exact wr d
theorem fV (a:Bool):FnEq Tryz.prog 171 [.pv (boolP a)] (.pv (ah (if a=true then 7 else 0))):=by refine wf Tryz.func171 (λ_=> []) (h:=λR d=>?_);refine wb (A2.mk ?_ ?_)<;>intros;all_goals exact wr d
theorem IC (a:Int):FnEq Tryz.prog 126 [.pv (ah a)] (.pv (boolP (decide (1<=a) && decide (a<=5)))):=by refine wf Tryz.func126 (λ_=> []) (h:=λR d=>?_);refine wb (A2.mk ?_ ?_)<;>intros;all_goals exact wr d
theorem OO (a:Int)(h: -9223372036854775808<=a/\a<=9223372036854775807):FnEq Tryz.prog 164 [.pv (ah a)] (.pv (ah (if a<1\/100<a then 0 else a))):=by refine wf Tryz.func164 (λ_=> []) (h:=λR d=>?_);refine wb (A2.mk ?_ (A2.mk ?_ ?_))<;>intros;all_goals exact wr d
set_option maxRecDepth 20000
set_option maxHeartbeats 8000000
def i64 (n:Int):Prop:=IntKind.i64.wrap n=n
theorem aiW (n:Int):IntKind.i64.wrap (IntKind.i64.wrap n)=IntKind.i64.wrap n:=by simp only[dQ];omega
def VB (r:AV):Prop:=∃y,i64 y/\r= .tup [.pv (ah y),.pv (boolP true)]
theorem UJ (n:Int):VB (.tup [.pv (ah (IntKind.i64.wrap n)),.pv (boolP true)]):=⟨_,aiW n,rfl⟩
theorem Yc {n:Int}(h:i64 n):VB (.tup [.pv (ah n),.pv (boolP true)]):=⟨_,h,rfl⟩
theorem dY {n:Int} :i64 n ↔ -9223372036854775808<=n/\n<9223372036854775808:=by unfold i64;rw[dQ];omega
theorem sF:i64 0:=dY.2 (by decide)
theorem aiX:i64 1:=dY.2 (by decide)
theorem Nq {x y:Int}(hx:i64 x):i64 (x.tmod y):=by rw[dY] at hx|-;have h1:(x.tmod y).natAbs=x.natAbs%y.natAbs:=Int.natAbs_tmod x y;have h2:x.natAbs%y.natAbs<=x.natAbs:=Nat.mod_le _ _;by_cases h:0<=x;have:=Int.tmod_nonneg y h;omega;have h3:(-x).tmod y= -(x.tmod y):=Int.neg_tmod x y;have:=Int.tmod_nonneg y (show 0<= -x by omega);omega
theorem ny (a:Bool):lq Tryz.prog 175 [.pv (boolP a)] (λr=>∃y,i64 y/\r= .pv (ah y)):=by refine wf Tryz.func175 (λ_=> []) (h:=λR d=>?_);refine wb (A2.mk ?_ ?_)<;>intros;exact wt d (.pv (ah 1)) [] ⟨_,aiX,rfl⟩;exact wt d (.pv (ah 0)) [] ⟨_,sF,rfl⟩
theorem QB (op x y:Int)(hx:i64 x)(q:i64 y)(ho:6<=op/\op<=18):lq Tryz.prog 165 [.pv (ah op),.pv (ah x),.pv (ah y)] VB:=by
 refine wf Tryz.func165 (λ_=> []) (h:=λR a=>?_);refine wb (A2.mk ?_ (A2.mk ?_ (A2.mk ?_ (A2.mk ?_ (A2.mk ?_ (A2.mk ?_ (A2.mk ?_ (A2.mk ?_ (A2.mk ?_ (A2.mk ?_ (A2.mk ?_ (A2.mk ?_ (A2.mk ?_ (A2.mk ?_ (A2.mk ?_ (A2.mk ?_ ?_))))))))))))))))<;>intros;all_goals try (exfalso;omega)
 all_goals first
  |exact wt a (.tup [.pv (ah 0),.pv (boolP true)]) [] (Yc sF)
  |exact wt a (.tup [.pv (ah (IntKind.i64.wrap (x+y))),.pv (boolP true)]) [] (UJ _)
  |exact wt a (.tup [.pv (ah (IntKind.i64.wrap (x-y))),.pv (boolP true)]) [] (UJ _)
  |exact wt a (.tup [.pv (ah (IntKind.i64.wrap (x*y))),.pv (boolP true)]) [] (UJ _)
  |exact wt a (.tup [.pv (ah (IntKind.i64.wrap (x.tdiv y))),.pv (boolP true)]) [] (UJ _)
  |exact wt a (.tup [.pv (ah (x.tmod y)),.pv (boolP true)]) [] (Yc (Nq hx))
  |skip
 all_goals first
  |refine wF (ny (x==y)) ?_
  |refine wF (ny (x !=y)) ?_
  |refine wF (ny (decide (x<y))) ?_
  |refine wF (ny (decide (x<=y))) ?_
  |refine wF (ny (decide (y<x))) ?_
  |refine wF (ny (decide (y<=x))) ?_
  |refine wF (ny (y !=0)) ?_
  |refine wF (ny false) ?_
  |refine wF (ny true) ?_
 all_goals
  rintro r ⟨z,d,rfl⟩;refine wb ?_<;>intros;exact wt a (.tup [.pv (ah z),.pv (boolP true)]) [] (Yc d)
theorem Hm (x n:Int)(hx:i64 x)(hn:i64 n):lq Tryz.prog 159 [.pv (ah x),.pv (ah n)] (λr=>∃y,i64 y/\r= .pv (ah y)/\(1<=n->0<=y/\y<n)):=by refine wf Tryz.func159 (λ_=> []) (h:=λR a=>?_);refine wb (A2.mk ?_ (A2.mk ?_ ?_))<;>intros;exact wt a (.pv (ah 0)) [] ⟨0,sF,rfl,λh=>by omega⟩;have h1:=Int.lt_tmod_of_pos x (show 0<n by omega);have h2:=dY.1 hn;have h3:IntKind.i64.wrap (x.tmod n+n)=x.tmod n+n:=dY.2 (by omega);exact wt a (.pv (ah (IntKind.i64.wrap (x.tmod n+n)))) [] ⟨_,aiW _,rfl,λ_=>by rw[h3];omega⟩;have h1:=Int.tmod_lt_of_pos x (show 0<n by omega);exact wt a (.pv (ah (x.tmod n))) [] ⟨_,Nq hx,rfl,λ_=>by omega⟩
set_option maxRecDepth 20000
set_option maxHeartbeats 8000000
def XU:List Int:=[3,3,4,4,5,6,7,8,9,10,11,12,13,14,15,16,18,19,20,21,22,23,2]
def kdF (op:Int):Int:=if op<6\/28<op then 0 else XU.getD (op-6).toNat 0
theorem VI (op:Int):0<=kdF op/\kdF op<=23:=by
 unfold kdF;split;decide
 . rw[qC]
   cases h:XU[(op-6).toNat]? with
   |none=>decide
   |
    some k=>
    have:∀k∈XU,0<=k/\k<=23:=(by decide);exact this k (gZ h)
@[go_sem] def iP (k:Int):List PV:=[ah k]
theorem abW (op:Int)(h:i64 op):FnEq Tryz.prog 128 [.pv (ah op)] (.pv (ah (kdF op))):=by
 refine wf Tryz.func128 (λ_=> []) (h:=λR a=>?_);have h2:=dY.1 h;refine wb (A2.mk ?_ (A2.mk ?_ ?_))<;>intros;have e:kdF op=0:=if_pos (.inl (by assumption));rw[e] at a;exact wr a;have e:kdF op=0:=if_pos (.inr (by assumption));rw[e] at a;exact wr a
 . have hk:(op-6).toNat<XU.length:=(by show _<23;omega);have e:kdF op=XU[(op-6).toNat]:=by
    unfold kdF;rw[if_neg (by omega),qC,bH hk];rfl
   refine aN (l:=XU) (f:=iP) (x:=XU[(op-6).toNat]) (by omega) (bH hk) rfl ?_;rw[<-e];refine wb ?_<;>intros;exact wr a
abbrev UL (xs:List UInt8):PV:= .sl (xs.map λx=> [.sc (.int .u8 x.toNat)])
@[go_sem] def Be (xs:List UInt8)(k:Nat):Obj:= .box [.pv (UL xs),.pv (ah k)]
def Na (xs:List UInt8)(k n:Nat):Nat:=if k<xs.length then (xs.getD k 0).toNat%n else 0
theorem iE (xs:List UInt8)(k n:Nat)(hx:xs.length<=1000)(hk:k<=xs.length)(hn:0<n)(q:n<=1000):ACall Tryz.prog 74 [.ptr 0 0,.pv (ah n)] [Be xs k] (λv g=>v= .pv (ah (Na xs k n))/\∃d:Nat,d<=xs.length/\g=[some (Be xs d)]):=by refine aap (us:=λ_=> [(3,7)]) (by kernel_rfl) Tryz.func74 rfl (BK rfl) (by kernel_rfl) (λR a=>?_);simp only[Tryz.f74,Be] at a|-;refine wb (A2.mk ?_ ?_)<;>intros;refine wo a (.pv (ah 0)) [some (Be xs k)] [0] [] ?_;exact⟨by simp only[Na];rw[if_neg (by omega)];rfl,k,hk,rfl⟩;have h2:k<xs.length:=(by omega);have h3:=xs[k].toNat_lt;refine aN (x:=xs[k]) (by omega) (by rw[show ((k:Int)+1-1).toNat=k by omega];simp[h2]) rfl ?_;have h4:Na xs k n=xs[k].toNat%n:=(by simp[Na,h2]);refine wb ?_<;>intros;refine wo a (.pv (ah (Na xs k n))) [some (Be xs (k+1))] [0] [] ?_;exact⟨rfl,k+1,h2,rfl⟩
set_option maxRecDepth 20000
structure ER where
 op:Int
 n:Int
 s:ByteArray
 l:List (List PV)
@[go_sem] def ER.r (e:ER):List PV:=[ah e.op,ah e.n,dP e.s,.sl e.l]
abbrev bE:ByteArray:=⟨#[]⟩
theorem D7 (n:Int):FnEq Tryz.prog 77 [.pv (ah n)] (rw_ (ER.r ⟨1,n,bE,[]⟩)):=by refine wf Tryz.func77 (λ_=> []) (h:=λR a=>?_);refine wb ?_<;>intros;all_goals exact wr a
theorem yz (n:ByteArray):FnEq Tryz.prog 150 [.pv (dP n)] (rw_ (ER.r ⟨2,0,n,[]⟩)):=by refine wf Tryz.func150 (λ_=> []) (h:=λR a=>?_);refine wb ?_<;>intros;all_goals exact wr a
theorem zq (op:Int)(a b:ER):FnEq Tryz.prog 149 [.pv (ah op),rw_ a.r,rw_ b.r] (rw_ (ER.r ⟨op,0,bE,[a.r,b.r]⟩)):=by refine wf Tryz.func149 (λ_=> []) (h:=λR d=>?_);refine wb ?_<;>intros;all_goals exact wr d
structure MS where
 th:Int
 left:Int
 set:Bool
 tx:Bool
 atomic:Bool
 loop:Bool
 held:List ByteArray
@[go_sem] def MS.os (m:MS)(xs:List UInt8)(k:Nat):List Obj:=[.box [.ptr 1 0,.pv (ah m.th),.pv (ah m.left),.pv (boolP m.set),.pv (boolP m.tx),.pv (boolP m.atomic),.pv (boolP m.loop),.own 2 m.held.length],Be xs k,.row 9 1 (m.held.map λs=> [dP s])]
def names7:List ByteArray:=[⟨#[97]⟩,⟨#[98]⟩,⟨#[120]⟩,⟨#[121]⟩,⟨#[118]⟩,⟨#[120]⟩,⟨#[121]⟩]
theorem mW (xs:List UInt8)(k:Nat){n:Nat}(h:0<n):Na xs k n<n:=by unfold Na;split;exact zt _ h;exact h
@[go_sem] def MS.og (m:MS)(xs:List UInt8)(k:Nat):List (Option Obj):=[some (.box [.ptr 1 0,.pv (ah m.th),.pv (ah m.left),.pv (boolP m.set),.pv (boolP m.tx),.pv (boolP m.atomic),.pv (boolP m.loop),.own 3 m.held.length]),some (Be xs k),none,some (.row 9 1 (m.held.map λs=> [dP s]))]
inductive LfR:ER->Prop
 |num {n:Nat} (h:n<4):LfR ⟨1,n,bE,[]⟩
 |var {s:ByteArray} (h:s∈ [(⟨#[97]⟩:ByteArray),⟨#[98]⟩,⟨#[120]⟩,⟨#[121]⟩,⟨#[118]⟩]):LfR ⟨2,0,s,[]⟩
inductive ExR:ER->Prop
 |leaf {e:ER} (h:LfR e):ExR e
 |idx {e:ER} (h:LfR e):ExR ⟨3,0,⟨#[113]⟩,[e.r]⟩
 |bin {op:Int} {a b:ER} (ho:op∈ [(6:Int),7,8,11,13,17]) (ha:LfR a) (hb:LfR b):ExR ⟨op,0,bE,[a.r,b.r]⟩
theorem yA (xs:List UInt8)(k:Nat)(m:MS)(hx:xs.length<=1000)(hk:k<=xs.length):ACall Tryz.prog 148 [.ptr 0 0,.pv (ah 0)] (m.os xs k) (λv g=>∃(e:ER) (a:Nat),LfR e/\a<=xs.length/\v=rw_ e.r/\g=(m.os xs a).map some):=by
 refine wz Tryz.func148 (λ_=> [(8,13),(9,13),(8,17),(9,17)]) (h:=λR y=>?_);refine wb ?_<;>intros;refine wq (iE xs k 10 hx hk (by decide) (by decide)) [1] ?_;rintro r g ⟨rfl,a,q,rfl⟩;refine wb (A2.mk ?_ (A2.mk ?_ ?_))<;>intros
 any_goals
  refine wq (iE xs a 4 hx q (by decide) (by decide)) [1] ?_;rintro r g ⟨rfl,u,d,rfl⟩;refine ws ?_;refine wE (D7 _) ?_;refine wb ?_<;>intros;refine wo y (rw_ (ER.r ⟨1,Na xs a 4,bE,[]⟩)) ((m.os xs u).map some) [0,1,2] [] ?_;exact⟨_,_,.num (mW xs a (by decide)),d,rfl,rfl⟩
 refine wq (iE xs a 7 hx q (by decide) (by decide)) [1] ?_;rintro r g ⟨rfl,u,d,rfl⟩;refine ws ?_;refine jR names7 (λs=> [dP s]) (mW xs a (by decide)) (λs hs=>?_);refine ws ?_;refine wE (yz _) ?_;refine wb ?_<;>intros;refine wo y (rw_ (ER.r ⟨2,0,s,[]⟩)) ((m.os xs u).map some) [0,1,2] [] ?_;exact⟨_,_,.var (by simp[names7] at hs|-;grind),d,rfl,rfl⟩
def ops6:List Int:=[6,7,8,11,13,17]
theorem qI (xs:List UInt8)(k:Nat)(m:MS)(hx:xs.length<=1000)(hk:k<=xs.length):ACall Tryz.prog 148 [.ptr 0 0,.pv (ah 1)] (m.os xs k) (λv g=>∃(e:ER) (d:Nat),ExR e/\d<=xs.length/\v=rw_ e.r/\g=(m.os xs d).map some):=by refine wz Tryz.func148 (λ_=> [(8,13),(9,13),(8,17),(9,17)]) (h:=λR y=>?_);refine wb ?_<;>intros;refine wq (iE xs k 10 hx hk (by decide) (by decide)) [1] ?_;rintro r g ⟨rfl,d,q,rfl⟩;refine wb (A2.mk ?_ (A2.mk ?_ (A2.mk ?_ ?_)))<;>intros;refine wq (iE xs d 4 hx q (by decide) (by decide)) [1] ?_;rintro r g ⟨rfl,u,a,rfl⟩;refine ws ?_;refine wE (D7 _) ?_;refine wb ?_<;>intros;refine wo y (rw_ (ER.r ⟨1,Na xs d 4,bE,[]⟩)) ((m.os xs u).map some) [0,1,2] [] ?_;exact⟨_,_,.leaf (.num (mW xs d (by decide))),a,rfl,rfl⟩;refine wq (iE xs d 7 hx q (by decide) (by decide)) [1] ?_;rintro r g ⟨rfl,u,a,rfl⟩;refine ws ?_;refine jR names7 (λs=> [dP s]) (mW xs d (by decide)) (λs hs=>?_);refine ws ?_;refine wE (yz _) ?_;refine wb ?_<;>intros;refine wo y (rw_ (ER.r ⟨2,0,s,[]⟩)) ((m.os xs u).map some) [0,1,2] [] ?_;exact⟨_,_,.leaf (.var (by simp[names7] at hs|-;grind)),a,rfl,rfl⟩;refine wq (yA xs d m hx q) [0,1,2] ?_;rintro r g ⟨e,u,he,a,rfl,rfl⟩;refine wb ?_<;>intros;refine wo y (rw_ (ER.r ⟨3,0,⟨#[113]⟩,[e.r]⟩)) ((m.os xs u).map some) [0,1,2] [] ?_;exact⟨_,_,.idx he,a,rfl,rfl⟩;refine wQ (iE xs d 6 hx q (by decide) (by decide)) [1] ⟨rfl,k,hk,rfl⟩ ?_;rintro r g ⟨rfl,u,a,rfl⟩;refine wb ?_<;>intros;refine jR ops6 (λn=> [ah n]) (mW xs d (by decide)) (λop ho=>?_);refine ws ?_;refine wQ (yA xs u m hx a) [0,1,2] ⟨⟨1,(0:Nat),bE,[]⟩,k,.num (by decide),hk,rfl,rfl⟩ ?_;rintro r g ⟨e,H,he,B,rfl,rfl⟩;refine wb ?_<;>intros;refine wQ (yA xs H m hx B) [0,1,2] ⟨⟨1,(0:Nat),bE,[]⟩,k,.num (by decide),hk,rfl,rfl⟩ ?_;rintro r g ⟨G,I,D,E,rfl,rfl⟩;refine wb ?_<;>intros;refine wE (zq op e G) ?_;refine wb ?_<;>intros;refine wo y (rw_ (ER.r ⟨op,0,bE,[e.r,G.r]⟩)) ((m.os xs I).map some) [0,1,2] [] ?_;exact⟨_,_,.bin ho he D,E,rfl,rfl⟩
set_option maxRecDepth 20000
set_option maxHeartbeats 8000000
def Asc (b:Nat)(l:List Nat):Prop:=l.Pairwise (· < ·)/\∀n∈l,n<b
@[go_sem] def nP (n:Nat):List PV:=[ah n]
abbrev nL (l:List Nat):List (List PV):=l.map nP
theorem Asc.len {b:Nat}{l:List Nat}(h:Asc b l):l.length<=b:=by
 have:∀(l:List Nat) (m:Nat),l.Pairwise (· < ·)->(∀n∈l,m<=n/\n<b)->l.length<=b-m:=by
  intro l;induction l with
  |nil=>intro m _ _;exact ay _
  |
   cons x r ih=>
   intro m h1 h2;have h3:=JX.1 h1;have h4:=h2 x (by simp);have:=ih (x+1) h3.2 (λn hn=>⟨h3.1 n hn,(h2 n (by simp[hn])).2⟩);simp only[iZ];omega
 exact this l 0 h.1 (λn hn=>⟨ay _,h.2 n hn⟩)
theorem Asc.weak {b a:Nat}{l:List Nat}(h:Asc b l)(hb:b<=a):Asc a l:=⟨h.1,λn hn=>pF (h.2 n hn) hb⟩
theorem tV {b:Nat}{l:List Nat}(h:Asc b l):(CT.asc b).ok (.sl (nL l)):=⟨l,rfl,h.1,h.2⟩
theorem VE {b:Nat}{l:List Nat}{n k:Nat}(h:Asc b l)(hn:n<b)(hk:k<=l.length)(h1:∀x∈l.take k,x<n)(h2:∀x∈l.drop k,n<x):Asc b (l.take k++[n]++l.drop k):=by have d:=h.1;rw[<-E8 k l,EF] at d;refine⟨?_,?_⟩;rw[gm,EF];refine⟨d.1,JX.2 ⟨h2,d.2.1⟩,λa ha b hb=>?_⟩;rcases gJ.1 hb with rfl|hb;exact h1 a ha;exact d.2.2 a ha b hb;intro x hx;simp only[jh,lZ] at hx;rcases hx with (hx|rfl)|hx;exact h.2 x (LD hx);exact hn;exact h.2 x (aaT hx)
theorem adZ {α β:Type}(f:α->β)(l:List α)(k:Nat):(l.map f).take k=(l.take k).map f:=lC.symm
theorem ad1 {α β:Type}(f:α->β)(l:List α)(k:Nat):(l.map f).drop k=(l.drop k).map f:=pq.symm
attribute [local go_sem] adZ ad1 List.take_length
theorem Jg (b:Nat)(hb:b<=400)(l:List Nat)(d:Asc b l)(n:Int):lq Tryz.prog 135 [.pv (.sl (nL l)),.pv (ah n)] (λr=>∃z,r= .pv (boolP z)/\(z=true->∃m∈l,(m:Int)=n)):=by have h4:l.length<=400:=aK d.len hb;refine wf Tryz.func135 (λ_=> []) (h:=λR a=>?_);refine wb ?_<;>intros;refine wl (λk:Nat=> [(0,.pv (.sl (nL l))),(1,.pv (ah n)),(5,.pv (ah k))]) (λ_=> []) (λk=>k<=l.length) (λk=>l.length-k) 0 (ay _) (vm []) (λk hk=>?_);refine wb (A2.mk ?_ ?_)<;>intros;have h2:k<l.length:=(by omega);refine aN (x:=l[k]) (by omega) (by simp[h2]) rfl ?_;refine wb (A2.mk ?_ ?_)<;>intros;exact wt a (.pv (boolP true)) [] ⟨_,rfl,λ_=>⟨l[k],fA h2,by assumption⟩⟩;exact ak ⟨k+1,h2,by omega,vm []⟩;exact wt a (.pv (boolP false)) [] ⟨_,rfl,λh=>by cases h⟩
theorem VF (b:Nat)(hb:b<=400)(l:List Nat)(d:Asc b l)(n:Nat)(hn:n<b):lq Tryz.prog 162 [.pv (.sl (nL l)),.pv (ah n)] (λr=>∃m,Asc b m/\r= .pv (.sl (nL m))):=by
 have h4:l.length<=400:=aK d.len hb;refine wf Tryz.func162 (λ_=> []) (h:=λR u=>?_);refine wb ?_<;>intros;refine wl (λk:Nat=> [(0,.pv (.sl (nL l))),(1,.pv (ah n)),(5,.pv (ah k))]) (λ_=> []) (λk=>k<=l.length/\∀x∈l.take k,x<n) (λk=>l.length-k) 0 ⟨ay _,by simp⟩ (vm []) (λk ⟨hk,hx⟩=>?_);refine wb (A2.mk ?_ ?_)<;>intros
 . have h2:k<l.length:=(by omega);have hg:=bH h2;have q:=wZ (i:=k) (l:=l);generalize l[k]=y at hg;rw[hg] at q;refine aN (x:=y) (by omega) (by simpa using hg) rfl ?_;refine wb (A2.mk ?_ ?_)<;>intros;refine ak ⟨k+1,⟨h2,?_⟩,by omega,vm []⟩;intro x hm;rw[q] at hm;rcases jh.1 hm with hm|hm;exact hx x hm;simp at hm;omega
   . refine aN (x:=y) (by omega) (by simpa using hg) rfl ?_;refine wb (A2.mk ?_ ?_)<;>intros;exact wt u (.pv (.sl (nL l))) [] ⟨l,d,rfl⟩
     . have B:∀x∈l.drop k,n<x:=by
        intro x hm;have D:n<y:=(by omega);have a:=d.1;rw[<-E8 k l,EF] at a;rw[nY h2,(dF.1 hg).2] at hm a;rcases gJ.1 hm with rfl|hm;exact D;have:=(JX.1 a.2.1).1 x hm;omega
       refine And.intro (by first|omega|(simp;omega)) ?_;refine wb ?_<;>intros;refine And.intro (by first|omega|(simp;omega)) ?_;refine wb ?_<;>intros;refine And.intro (by first|omega|(simp;omega)) ?_;refine wb ?_<;>intros;exact wt u (.pv (.sl (nL (l.take k++[n]++l.drop k)))) [(312,none)] ⟨_,VE d hn hk hx B,rfl⟩
 obtain rfl:k=l.length:=(by omega);refine And.intro (by first|omega|(simp;omega)) ?_;refine wb ?_<;>intros;refine And.intro (by first|omega|(simp;omega)) ?_;refine wb ?_<;>intros;have a:=VE d hn hk hx (by simp);rw[sS] at a;exact wt u (.pv (.sl (nL (l++[n]++l.drop l.length)))) [(312,none)] ⟨_,a,rfl⟩
theorem Nz (b:Nat)(hb:b<=400)(l:List Nat)(y:Asc b l)(l2:List Nat)(d:Asc b l2):lq Tryz.prog 132 [.pv (.sl (nL l)),.pv (.sl (nL l2))] (λr=>∃m,Asc b m/\r= .pv (.sl (nL m))):=by have h4:l.length<=400:=aK y.len hb;have h5:l2.length<=400:=aK d.len hb;refine wf Tryz.func132 (λ_=> []) (h:=λR B=>?_);refine wb ?_<;>intros;refine wl (λu:Nat×List Nat=> [(0,.pv (.sl (nL l))),(1,.pv (.sl (nL l2))),(5,.pv (.sl (nL u.2))),(6,.pv (ah u.1))]) (λ_=> []) (λu=>u.1<=l.length/\Asc b u.2) (λu=>l.length-u.1) (0,[]) ⟨ay _,List.Pairwise.nil,λn hn=>nomatch hn⟩ (vm []) (λ⟨k,m⟩ ⟨hk,hm⟩=>?_);dsimp only at hk hm;refine wb (A2.mk ?_ ?_)<;>intros;have h2:k<l.length:=(by omega);refine aN (x:=l[k]) (by omega) (by simp[h2]) rfl ?_;refine wb ?_<;>intros;refine wF (VF b hb m hm l[k] (y.2 _ (fA h2))) ?_;rintro r ⟨q,a,rfl⟩;refine wb ?_<;>intros;exact ak ⟨(k+1,q),⟨h2,a⟩,by dsimp only;omega,vm []⟩;refine wl (λu:Nat×List Nat=> [(1,.pv (.sl (nL l2))),(5,.pv (.sl (nL u.2))),(7,.pv (ah u.1))]) (λ_=> []) (λu=>u.1<=l2.length/\Asc b u.2) (λu=>l2.length-u.1) (0,m) ⟨ay _,hm⟩ (vm []) (λ⟨k,m⟩ ⟨hk,hm⟩=>?_);dsimp only at hk hm;refine wb (A2.mk ?_ ?_)<;>intros;have h2:k<l2.length:=(by omega);refine aN (x:=l2[k]) (by omega) (by simp[h2]) rfl ?_;refine wb ?_<;>intros;refine wF (VF b hb m hm l2[k] (d.2 _ (fA h2))) ?_;rintro r ⟨q,a,rfl⟩;refine wb ?_<;>intros;exact ak ⟨(k+1,q),⟨h2,a⟩,by dsimp only;omega,vm []⟩;exact wt B (.pv (.sl (nL m))) [] ⟨_,hm,rfl⟩
theorem kH {b:Nat}{F:PV->Prop}(h:∀l,Asc b l->F (.sl (nL l))):SL (.asc b) F:=by rintro p ⟨l,rfl,h1,h2⟩;exact h l ⟨h1,h2⟩
theorem jb {F:PV->Prop}(h:∀n,i64 n->F (ah n)):SL (.int .i64) F:=by rintro p ⟨n,h1,rfl⟩;exact h n h1
theorem Dk {F:PV->Prop}(h:∀b,F (boolP b)):SL .bool F:=by rintro p ⟨b,rfl⟩;exact h b
def MV:List CT->List PV->Prop
 | [],_=>True
 |_::_,[]=>True
 |ct::r,q::s=>ct.ok q/\MV r s
theorem Qn:∀ {cts:List CT}{row:List PV},MV cts row->∀(j:Nat) ct q,cts[j]?=some ct->row[j]?=some q->ct.ok q
 | [],_,_,j,ct,q,h,_=>by simp at h
 |c::r,[],_,j,ct,q,_,h=>by simp at h
 |
  c::r,p::s,hb,0,ct,q,h1,h2=>by
  simp only[oZ,ig] at h1 h2
  subst h1 h2
  exact hb.1
 |c::r,p::s,hb,j+1,ct,q,h1,h2=>Qn hb.2 j ct q (by simpa using h1) (by simpa using h2)
def pU (cts:List CT)(els:List (List PV)):Prop:=∀row∈els,MV cts row
@[go_sem] theorem abw {s:List PV} :MV [] s=True:=by cases s<;>rfl
@[go_sem] theorem XF {ct:CT}{r:List CT}{q:PV}{s:List PV} :MV (ct::r) (q::s)=(ct.ok q/\MV r s):=rfl
@[go_sem] theorem aiR {cts:List CT} :pU cts []=True:=by simp[pU]
@[go_sem] theorem ahL {cts:List CT}{x:List PV}{r:List (List PV)} :pU cts (x::r)=(MV cts x/\pU cts r):=by simp[pU]
@[go_sem] theorem aiS {cts:List CT}{x r:List (List PV)} :pU cts (x++r)=(pU cts x/\pU cts r):=by simp only[pU,jh,qo];exact⟨λh=>⟨λa b=>h a (.inl b),λa b=>h a (.inr b)⟩,λh a b=>b.elim (h.1 a) (h.2 a)⟩
@[go_sem] theorem ok_int {k a:IntKind}{n:Int} :CT.ok (.int k) (.sc (.int a n))=(a=k/\k.wrap n=n):=by simp only[CT.ok,qo];constructor;rintro⟨m,h1,h2⟩;injection h2 with h2;injection h2 with h2 h3;subst h2 h3;exact⟨rfl,h1⟩;rintro⟨rfl,h⟩;exact⟨n,h,rfl⟩
@[go_sem] theorem adO {b:Bool} :CT.ok .bool (.sc (.bool b))=True:=eq_true ⟨b,rfl⟩
@[go_sem] theorem an6 {b:Nat} :CT.ok (.asc b) (.sl [])=True:=eq_true (tV (l:=[]) ⟨List.Pairwise.nil,λn hn=>nomatch hn⟩)
def fzT (cts:List CT):Option Obj->Prop
 |some (.row _ k els)=>cts.length=k/\cts≠ []/\pU cts els
 |_=>False
@[go_sem] theorem an7 {cts:List CT}{e k:Nat}{els:List (List PV)} :fzT cts (some (.row e k els))=(cts.length=k/\cts≠ []/\pU cts els):=rfl
theorem ad3 {σ:Sto}{r:Nat}{cts:List CT}(h:fzT cts (σ r)):yQ σ (r,some cts):=by unfold yQ;dsimp only;generalize σ r=o at h;rcases o with _|(_|⟨e,k,els⟩);exact h;exact h;exact⟨h.1,h.2.1,λrow hr j ct q h1 h2=>Qn (h.2.2 row hr) j ct q h1 h2⟩
@[go_sem] theorem aiT {σ:Sto}{r:Nat}{cts:List CT} :yQ σ (r,some cts)=fzT cts (σ r):=by
 refine propext ⟨λh=>?_,ad3⟩;unfold yQ at h;dsimp only at h;generalize σ r=o at h;rcases o with _|(_|⟨e,k,els⟩);exact h;exact h
 . refine⟨h.1,h.2.1,λrow hr=>?_⟩;have h2:=h.2.2 row hr;clear h hr;induction cts generalizing row with
   |nil=>simp [MV]
   |
    cons c r ih=>
    cases row with
    |nil=>simp [MV]
    |cons p s=>exact ⟨h2 0 c p rfl rfl,ih s (λj ct q e1 a=>h2 (j+1) ct q (by simpa using e1) (by simpa using a))⟩
