/- Words. -/
import Derived.Test.YtfbkkgfkhhibfaaGreatFs
set_option linter.unusedVariables false
set_option linter.unusedSimpArgs false
set_option maxRecDepth 20000
set_option maxHeartbeats 4000000
namespace AM
open Go Go.Proofs Mk
@[go_sem] def st0:Obj:= .box [.pv (ag 0),.pv (ag 0),.pv (dh bE),.pv (dh bE),.emp,.pv (ag 0),.pv (ag 0),.pv (dh bE),.emp,.emp,.emp]
@[go_sem] def MS.os3 (m:MS)(xs:List UInt8)(k:Nat):List (Option Obj):=(m.os xs k).map some++[some st0]
def Wq (d q:Nat)(n b:Bool)(t:Nat):List (Nat×AV):=[(0,.ptr 0 0),(1,.pv (ag d)),(4,.ptr 3 0),(5,.pv (ag q)),(6,.pv (boolP n)),(t,.pv (boolP b))]
attribute [go_sem] Wq
@[go_sem] theorem ajj {d:Nat} :((d+1:Nat):Int)-1=(d:Int):=by omega
def aoI:List Nm:=[.x,.y,.x,.v]
def aoJ:List Nm:=[.a,.b]
theorem fK {s:Sm}(h:s.body=[])(h2:s.els=[]):∀d,SmD d s
 |0=>⟨h,h2⟩
 |d+1=>by unfold SmD;rw[h,h2];simp
theorem abL (xs:List UInt8)(hx:xs.length<=1000)(d:Nat)(IH:∀u,u<d->SsC xs u):StC xs d:=by
 intro k m hk hm;refine wz Tryz.func110 (λi=>if i=5 then [(2,5),(3,5)] else if i=7 then [(6,9),(7,9)] else []) (h:=λR L=>?_);refine ws ?_;refine w0 ?_;refine wg ?_;refine wg ?_;refine ig rfl ?_;refine ws ?_;refine wq (gz xs k 18 hx hk (by decide) (by decide)) [1] ?_;rintro r g ⟨rfl,A,D,rfl⟩;have hn:=lU xs k (n:=18) (by decide);generalize Ld xs k 18=q at hn;refine ws ?_;refine w0 ?_;generalize a8:({ m with left:=IntKind.i64.wrap (m.left-1) } :MS)=m1;refine iy (λb:Bool=>Wq d q b b 6) (λ_=>m1.os3 xs A) (λb=>b=true->0<d) ?_ (λZ U=>?_)
 . subst a8;refine wb (A2.mk ?_ (A2.mk ?_ ?_))<;>intros
   all_goals first
    |exact sr_mark ⟨false,(λh=>by cases h),vm [0,1,2,3]⟩
    |exact sr_mark ⟨!m.tx,(λ_=>by omega),vm [0,1,2,3]⟩
 have B:m1.held=m.held:=(by rw[<-a8]);rw[<-B] at hm;clear a8;refine ws ?_;refine w0 ?_;refine ig rfl ?_;refine ws ?_;refine w0 ?_;((refine ji rfl ?_;refine ws ?_;first|(refine⟨λ_=>?_,λ_=>?_⟩<;>first|(exfalso;omega)|skip)|(rw[fQ];refine⟨λ_=>?_,λ_=>?_⟩)|skip));refine w0 ?_;refine ig rfl ?_;refine ws ?_;refine jH aoI (λn=> [dh n.str]) (j:=q) (show q<4 by omega) (λn _=>?_);refine wb ?_<;>intros;refine wQ (pW xs A m1 hx D) [0,1,2] ⟨⟨1,(0:Nat),bE,[]⟩,k,.leaf (.num (by decide)),hk,rfl,rfl⟩ ?_;rintro r g ⟨e,H,he,y,rfl,rfl⟩;obtain⟨x,rfl⟩:=he.of;refine wb ?_<;>intros;refine wE (mP n.str (wY x)) ?_;refine wb ?_<;>intros;refine wo L (rw_ (rM 1 n.str bE [] (wY x) [] [])) (m1.og xs H) [0,1,2,2] [] ?_;exact⟨.asg n x,m1,H,fK rfl rfl d,B,y,rfl,rfl⟩
 . refine w0 ?_;refine ig rfl ?_;refine ws ?_;refine w0 ?_;((refine ji rfl ?_;refine ws ?_;first|(refine⟨λ_=>?_,λ_=>?_⟩<;>first|(exfalso;omega)|skip)|(rw[fQ];refine⟨λ_=>?_,λ_=>?_⟩)|skip));refine w0 ?_;refine ig rfl ?_;refine wb ?_<;>intros;refine wQ (gz xs A 2 hx D (by decide) (by decide)) [1] ⟨rfl,k,hk,rfl⟩ ?_;rintro r g ⟨rfl,H,y,rfl⟩;refine wb ?_<;>intros;refine jH aoJ (λn=> [dh n.str]) (lU xs A (by decide)) (λn _=>?_);refine ws ?_;refine wQ (pW xs H m1 hx y) [0,1,2] ⟨⟨1,(0:Nat),bE,[]⟩,k,.leaf (.num (by decide)),hk,rfl,rfl⟩ ?_;rintro r g ⟨e,E,he,a7,rfl,rfl⟩;obtain⟨x,rfl⟩:=he.of;refine wb ?_<;>intros;refine wE (mP n.str (wY x)) ?_;refine wb ?_<;>intros;refine wo L (rw_ (rM 1 n.str bE [] (wY x) [] [])) (m1.og xs E) [0,1,2,2] [] ?_;exact⟨.asg n x,m1,E,fK rfl rfl d,B,a7,rfl,rfl⟩
   . refine w0 ?_;refine ig rfl ?_;refine ws ?_;refine w0 ?_;((refine ji rfl ?_;refine ws ?_;first|(refine⟨λ_=>?_,λ_=>?_⟩<;>first|(exfalso;omega)|skip)|(rw[fQ];refine⟨λ_=>?_,λ_=>?_⟩)|skip));refine w0 ?_;refine ig rfl ?_;refine ws ?_;refine wq (xm xs A m1 hx D) [0,1,2] ?_;rintro r g ⟨e,H,he,y,rfl,rfl⟩;obtain⟨i,rfl⟩:=he.of;refine ws ?_;refine wq (pW xs H m1 hx y) [0,1,2] ?_;rintro r g ⟨e,E,he,a7,rfl,rfl⟩;obtain⟨x,rfl⟩:=he.of;refine wb ?_<;>intros;refine wo L (rw_ (rM 1 ⟨#[113]⟩ bE [(lfE i).r] (wY x) [] [])) (m1.og xs E) [0,1,2,2] [] ?_;exact⟨.asq i x,m1,E,fK rfl rfl d,B,a7,rfl,rfl⟩
     . refine w0 ?_;refine iy (λb:Bool=>Wq d q Z b 74) (λ_=>m1.os3 xs A) (λb=>b=true->0<d) ?_ (λb hb=>?_)
       . refine wb (A2.mk ?_ ?_)<;>intros
         all_goals first
          |exact sr_mark ⟨false,(λh=>by cases h),vm [0,1,2,3]⟩
          |exact sr_mark ⟨decide (0<(d:Int)),(λh=>by simpa using h),vm [0,1,2,3]⟩
       refine ws ?_;(((refine ji rfl ?_;refine ws ?_;first|(refine⟨λ_=>?_,λ_=>?_⟩<;>first|(exfalso;omega)|skip)|(rw[fQ];refine⟨λ_=>?_,λ_=>?_⟩)|skip));have hd:=hb ‹_›;obtain⟨u,rfl⟩:∃u,d=u+1:=⟨d-1,by omega⟩;refine w0 ?_;refine ig rfl ?_;refine ws ?_;refine wq (pW xs A m1 hx D) [0,1,2] ?_;rintro r g ⟨e,H,he,y,rfl,rfl⟩;obtain⟨x,rfl⟩:=he.of;refine ws ?_;refine wq (IH u (by omega) H m1 1 y (by omega) (by decide)) [0,1,2] ?_;rintro r g ⟨l,m2,E,q1,N,J,O,rfl,rfl⟩;refine wb ?_<;>intros;have ab:m2.held.length+u<=100:=(by rw[J];omega);refine wq (gz xs E 2 hx O (by decide) (by decide)) [1] ?_;rintro r g ⟨rfl,k4,aa,rfl⟩;refine wb (A2.mk ?_ ?_)<;>intros;refine wq (IH u (by omega) k4 m2 1 aa ab (by decide)) [0,1,44] ?_;rintro r g ⟨l2,m3,k5,p1,p2,p3,p4,rfl,rfl⟩;refine wb ?_<;>intros;refine wo L (rw_ (rM 2 bE bE [] (wY x) (l.map pM) (l2.map pM))) (m3.og xs k5) [0,1,2,148] [(45,none),(149,none)] ?_;exact⟨.ite x l l2,m3,k5,⟨⟨by show l.length<=10;omega,N⟩,by show l2.length<=10;omega,p2⟩,by rw[p3,J,B],p4,by rw[eG];rfl,rfl⟩;refine wo L (rw_ (rM 2 bE bE [] (wY x) (l.map pM) [])) (m2.og xs k4) [0,1,2,44] [(45,none)] ?_;exact⟨.ite x l [],m2,k4,⟨⟨by show l.length<=10;omega,N⟩,aG _,λ_ h=>by cases h⟩,by rw[J,B],aa,by rw[eG];rfl,rfl⟩);refine w0 ?_;refine iy (λb:Bool=>Wq d q Z b 100) (λ_=>m1.os3 xs A) (λb=>b=true->0<d) ?_ (λb hb=>?_)
       . refine wb (A2.mk ?_ ?_)<;>intros
         all_goals first
          |exact sr_mark ⟨false,(λh=>by cases h),vm [0,1,2,3]⟩
          |exact sr_mark ⟨decide (0<(d:Int)),(λh=>by simpa using h),vm [0,1,2,3]⟩
       refine ws ?_;(((refine ji rfl ?_;refine ws ?_;first|(refine⟨λ_=>?_,λ_=>?_⟩<;>first|(exfalso;omega)|skip)|(rw[fQ];refine⟨λ_=>?_,λ_=>?_⟩)|skip));have hd:=hb ‹_›;obtain⟨u,rfl⟩:∃u,d=u+1:=⟨d-1,by omega⟩;refine w0 ?_;refine wg ?_;refine wg ?_;refine ig rfl ?_;refine ws ?_;refine wE (xh _) ?_;refine wb ?_<;>intros;refine wE (CX _) ?_;refine wb ?_<;>intros;refine wE (yD 13 ⟨2,0,⟨#[98]⟩,[]⟩ ⟨1,2,bE,[]⟩) ?_;refine wb ?_<;>intros;refine wq (IH u (by omega) A { m1 with loop:=true } 1 D (by show m1.held.length+u<=100;omega) (by decide)) [0,1,2] ?_;rintro r g ⟨l,⟨Aw,tY,G,V,X,Y,a6⟩,E,q1,N,J,O,rfl,rfl⟩;dsimp only at J;subst J;refine ws ?_;refine wE (xh _) ?_;refine wb ?_<;>intros;refine wE (CX _) ?_;refine wb ?_<;>intros;refine wE (yD 6 ⟨2,0,⟨#[98]⟩,[]⟩ ⟨1,1,bE,[]⟩) ?_;refine wb ?_<;>intros;refine wE (mP ⟨#[98]⟩ ⟨6,0,bE,[ER.r ⟨2,0,⟨#[98]⟩,[]⟩,ER.r ⟨1,1,bE,[]⟩]⟩) ?_;refine wb ?_<;>intros;refine wo L (rw_ (rM 3 bE bE [] ⟨13,0,bE,[ER.r ⟨2,0,⟨#[98]⟩,[]⟩,ER.r ⟨1,2,bE,[]⟩]⟩ (l.map pM++[rM 1 ⟨#[98]⟩ bE [] ⟨6,0,bE,[ER.r ⟨2,0,⟨#[98]⟩,[]⟩,ER.r ⟨1,1,bE,[]⟩]⟩ [] []]) [])) (MS.og ⟨Aw,tY,G,V,X,m1.loop,m1.held⟩ xs E) [0,1,2,124] [(172,none)] ?_;refine⟨.whl (.bin 4 (.var .b) (.num 2)) (l++[.asg .b (.bin 0 (.var .b) (.num 1))]),⟨Aw,tY,G,V,X,m1.loop,m1.held⟩,E,⟨⟨by show (l++_).length<=10;simp;omega,λs hs=>?_⟩,aG _,λ_ h=>by cases h⟩,B,O,by rw[eG];simp only[Sm.body,eU];rfl,rfl⟩;rcases jM.1 hs with hs|hs;exact N s hs;rw[lX.1 hs];exact fK rfl rfl u);refine w0 ?_;refine iy (λb:Bool=>Wq d q Z b 133) (λ_=>m1.os3 xs A) (λb=>b=true->(q=8\/q=9)/\0<d) ?_ (λb hb=>?_)
       . refine wb (A2.mk ?_ (A2.mk ?_ (A2.mk ?_ (A2.mk ?_ ?_))))<;>intros
         all_goals first
          |exact sr_mark ⟨false,(λh=>by cases h),vm [0,1,2,3]⟩
          |skip
         all_goals first
          |refine aj (x:=[dh ⟨#[109]⟩]) (by omega) (by rw[show ((q:Int)-8).toNat=0 by omega];rfl) rfl ?_
          |refine aj (x:=[dh ⟨#[110]⟩]) (by omega) (by rw[show ((q:Int)-8).toNat=1 by omega];rfl) rfl ?_
         all_goals
          refine ws ?_;(first|refine wq (sZ xs A m1 ⟨#[109]⟩ (by omega)) [0,1,2] ?_|refine wq (sZ xs A m1 ⟨#[110]⟩ (by omega)) [0,1,2] ?_);rintro r g ⟨⟨hb,rfl⟩,rfl⟩;refine wb ?_<;>intros;exact sr_mark ⟨!hb,(λ_=>⟨by omega,U ‹_›⟩),vm [0,1,2,3]⟩
       refine ws ?_;(((refine ji rfl ?_;refine ws ?_;first|(refine⟨λ_=>?_,λ_=>?_⟩<;>first|(exfalso;omega)|skip)|(rw[fQ];refine⟨λ_=>?_,λ_=>?_⟩)|skip));obtain⟨hq,hd⟩:=hb ‹_›;obtain⟨u,rfl⟩:∃u,d=u+1:=⟨d-1,by omega⟩;refine w0 ?_;refine ig rfl ?_;refine ws ?_;rcases hq with hq|hq;refine aj (x:=[dh ⟨#[109]⟩]) (by omega) (by rw[show ((q:Int)-8).toNat=0 by omega];rfl) rfl ?_;refine wb ?_<;>intros;refine wq (Ew xs hx u (IH u (by omega)) A m1 ⟨#[109]⟩ D (by omega)) [0,1,2] ?_;rintro r g ⟨l,m2,E,q1,N,J,O,rfl,rfl⟩;refine wb ?_<;>intros;refine wo L (rw_ (rM 4 ⟨#[109]⟩ bE [] ⟨0,0,bE,[]⟩ (l.map pM) [])) (m2.og xs E) [0,1,2,92] [(93,none)] ?_;exact⟨.blk .m l,m2,E,⟨⟨q1,N⟩,aG _,λ_ h=>by cases h⟩,by rw[J,B],O,by rw[eG];rfl,rfl⟩;refine aj (x:=[dh ⟨#[110]⟩]) (by omega) (by rw[show ((q:Int)-8).toNat=1 by omega];rfl) rfl ?_;refine wb ?_<;>intros;refine wq (Ew xs hx u (IH u (by omega)) A m1 ⟨#[110]⟩ D (by omega)) [0,1,2] ?_;rintro r g ⟨l,m2,E,q1,N,J,O,rfl,rfl⟩;refine wb ?_<;>intros;refine wo L (rw_ (rM 4 ⟨#[110]⟩ bE [] ⟨0,0,bE,[]⟩ (l.map pM) [])) (m2.og xs E) [0,1,2,92] [(93,none)] ?_;exact⟨.blk .n l,m2,E,⟨⟨q1,N⟩,aG _,λ_ h=>by cases h⟩,by rw[J,B],O,by rw[eG];rfl,rfl⟩);refine w0 ?_;refine iy (λb:Bool=>Wq d q Z b 165) (λ_=>m1.os3 xs A) (λb=>b=true->(q=10\/q=11)/\0<d) ?_ (λb hb=>?_)
       . refine wb (A2.mk ?_ (A2.mk ?_ (A2.mk ?_ (A2.mk ?_ ?_))))<;>intros
         all_goals first
          |exact sr_mark ⟨false,(λh=>by cases h),vm [0,1,2,3]⟩
          |skip
         all_goals
          refine wq (sZ xs A m1 ⟨#[114]⟩ (by omega)) [0,1,2] ?_;rintro r g ⟨⟨hb,rfl⟩,rfl⟩;refine wb ?_<;>intros;exact sr_mark ⟨!hb,(λ_=>⟨by omega,U ‹_›⟩),vm [0,1,2,3]⟩
       refine ws ?_;(((refine ji rfl ?_;refine ws ?_;first|(refine⟨λ_=>?_,λ_=>?_⟩<;>first|(exfalso;omega)|skip)|(rw[fQ];refine⟨λ_=>?_,λ_=>?_⟩)|skip));obtain⟨hq,hd⟩:=hb ‹_›;obtain⟨u,rfl⟩:∃u,d=u+1:=⟨d-1,by omega⟩;have I:(q:Int)-10+5=5\/(q:Int)-10+5=6:=(by omega);refine w0 ?_;refine ig rfl ?_;refine ws ?_;refine wq (Ew xs hx u (IH u (by omega)) A m1 ⟨#[114]⟩ D (by omega)) [0,1,2] ?_;rintro r g ⟨l,m2,E,q1,N,J,O,rfl,rfl⟩;refine wb ?_<;>intros;refine wo L (rw_ (rM ((q:Int)-10+5) ⟨#[114]⟩ bE [] ⟨0,0,bE,[]⟩ (l.map pM) [])) (m2.og xs E) [0,1,2,52] [(53,none)] ?_;rcases I with I|I;exact⟨.blk .rd l,m2,E,⟨⟨q1,N⟩,aG _,λ_ h=>by cases h⟩,by rw[J,B],O,by rw[eG,I];rfl,rfl⟩;exact⟨.blk .wr l,m2,E,⟨⟨q1,N⟩,aG _,λ_ h=>by cases h⟩,by rw[J,B],O,by rw[eG,I];rfl,rfl⟩);refine w0 ?_;refine iy (λb:Bool=>Wq d q Z b 188) (λ_=>m1.os3 xs A) (λb=>b=true->0<d) ?_ (λb hb=>?_)
       . refine wb (A2.mk ?_ ?_)<;>intros
         all_goals first
          |exact sr_mark ⟨false,(λh=>by cases h),vm [0,1,2,3]⟩
          |exact sr_mark ⟨Z,U,vm [0,1,2,3]⟩
       refine ws ?_;(((refine ji rfl ?_;refine ws ?_;first|(refine⟨λ_=>?_,λ_=>?_⟩<;>first|(exfalso;omega)|skip)|(rw[fQ];refine⟨λ_=>?_,λ_=>?_⟩)|skip));have hd:=hb ‹_›;obtain⟨u,rfl⟩:∃u,d=u+1:=⟨d-1,by omega⟩;refine w0 ?_;refine wg ?_;refine ig rfl ?_;refine ws ?_;refine wq (gz xs A 2 hx D (by decide) (by decide)) [1] ?_;rintro r g ⟨rfl,H,y,rfl⟩;have ad:=lU xs A (n:=2) (by decide);refine ws ?_;refine wq (IH 0 (by omega) H { m1 with tx:=true } (1+Ld xs A 2) y (by show m1.held.length+0<=100;omega) (by omega)) [0,1,2] ?_;rintro r g ⟨l,⟨Aw,tY,G,V,X,Y,a6⟩,E,q1,N,J,O,rfl,rfl⟩;dsimp only at J;subst J;refine wb ?_<;>intros;refine wo L (rw_ (rM 7 bE bE [] ⟨0,0,bE,[]⟩ (l.map pM) [])) (MS.og ⟨Aw,tY,G,false,X,Y,m1.held⟩ xs E) [0,1,2,92] [(93,none)] ?_;exact⟨.tx l,⟨Aw,tY,G,false,X,Y,m1.held⟩,E,⟨⟨by show l.length<=10;omega,λs hs=>fK (N s hs).1 (N s hs).2 u⟩,aG _,λ_ h=>by cases h⟩,B,O,by rw[eG];rfl,rfl⟩);refine w0 ?_;refine iy (λb:Bool=>Wq d q Z b 210) (λ_=>m1.os3 xs A) (λb=>b=true->0<d) ?_ (λb hb=>?_)
       . refine wb (A2.mk ?_ (A2.mk ?_ ?_))<;>intros
         all_goals first
          |exact sr_mark ⟨false,(λh=>by cases h),vm [0,1,2,3]⟩
          |exact sr_mark ⟨!m1.atomic,(λ_=>U ‹_›),vm [0,1,2,3]⟩
       refine ws ?_;(((refine ji rfl ?_;refine ws ?_;first|(refine⟨λ_=>?_,λ_=>?_⟩<;>first|(exfalso;omega)|skip)|(rw[fQ];refine⟨λ_=>?_,λ_=>?_⟩)|skip));have hd:=hb ‹_›;obtain⟨u,rfl⟩:∃u,d=u+1:=⟨d-1,by omega⟩;refine w0 ?_;refine wg ?_;refine ig rfl ?_;refine ws ?_;refine wq (IH u (by omega) A { m1 with atomic:=true } 2 D (by show m1.held.length+u<=100;omega) (by omega)) [0,1,2] ?_;rintro r g ⟨l,⟨Aw,tY,G,V,X,Y,a6⟩,E,q1,N,J,O,rfl,rfl⟩;dsimp only at J;subst J;refine wb ?_<;>intros;refine wo L (rw_ (rM 8 bE bE [] ⟨0,0,bE,[]⟩ (l.map pM) [])) (MS.og ⟨Aw,tY,G,V,false,Y,m1.held⟩ xs E) [0,1,2,60] [(61,none)] ?_;exact⟨.atm l,⟨Aw,tY,G,V,false,Y,m1.held⟩,E,⟨⟨by show l.length<=10;omega,N⟩,aG _,λ_ h=>by cases h⟩,B,O,by rw[eG];rfl,rfl⟩);refine w0 ?_;refine iy (λb:Bool=>Wq d q Z b 235) (λ_=>m1.os3 xs A) (λb=>b=true->0<d) ?_ (λb hb=>?_)
       . refine wb (A2.mk ?_ (A2.mk ?_ (A2.mk ?_ ?_)))<;>intros
         all_goals first
          |exact sr_mark ⟨false,(λh=>by cases h),vm [0,1,2,3]⟩
          |skip
         all_goals
          refine wq (sZ xs A m1 ⟨#[109]⟩ (by omega)) [0,1,2] ?_;rintro r g ⟨⟨hb,rfl⟩,rfl⟩;refine wb ?_<;>intros;exact sr_mark ⟨!hb,(λ_=>U ‹_›),vm [0,1,2,3]⟩
       refine ws ?_;(((refine ji rfl ?_;refine ws ?_;first|(refine⟨λ_=>?_,λ_=>?_⟩<;>first|(exfalso;omega)|skip)|(rw[fQ];refine⟨λ_=>?_,λ_=>?_⟩)|skip));have hd:=hb ‹_›;obtain⟨u,rfl⟩:∃u,d=u+1:=⟨d-1,by omega⟩;refine w0 ?_;refine ig rfl ?_;refine ws ?_;refine wE (xh _) ?_;refine wb ?_<;>intros;refine wE (mP ⟨#[97]⟩ ⟨2,0,⟨#[120]⟩,[]⟩) ?_;refine wb ?_<;>intros;refine wo L (rw_ (rM 4 ⟨#[109]⟩ bE [] ⟨0,0,bE,[]⟩ [rM 9 ⟨#[99]⟩ bE [] ⟨0,0,bE,[]⟩ [] [],rM 1 ⟨#[97]⟩ bE [] ⟨2,0,⟨#[120]⟩,[]⟩ [] []] [])) (m1.og xs A) [0,1,2,2] [] ?_;exact⟨.blk .m [.sig .wait,.asg .a (.leaf (.var .x))],m1,A,⟨⟨by decide,by simp only[Sm.body,QT];exact⟨fK rfl rfl u,fK rfl rfl u,by simp⟩⟩,aG _,λ_ h=>by cases h⟩,B,D,by rw[eG];rfl,rfl⟩);refine w0 ?_;refine iy (λb:Bool=>Wq d q Z b 258) (λ_=>m1.os3 xs A) (λb=>b=true->0<d) ?_ (λb hb=>?_)
       . refine wb (A2.mk ?_ (A2.mk ?_ ?_))<;>intros
         all_goals first
          |exact sr_mark ⟨false,(λh=>by cases h),vm [0,1,2,3]⟩
          |skip
         all_goals
          refine wq (sZ xs A m1 ⟨#[109]⟩ (by omega)) [0,1,2] ?_;rintro r g ⟨⟨hb,rfl⟩,rfl⟩;refine wb ?_<;>intros;exact sr_mark ⟨!hb,(λ_=>U ‹_›),vm [0,1,2,3]⟩
       refine ws ?_;(((refine ji rfl ?_;refine ws ?_;first|(refine⟨λ_=>?_,λ_=>?_⟩<;>first|(exfalso;omega)|skip)|(rw[fQ];refine⟨λ_=>?_,λ_=>?_⟩)|skip));have hd:=hb ‹_›;obtain⟨u,rfl⟩:∃u,d=u+1:=⟨d-1,by omega⟩;refine w0 ?_;refine ig rfl ?_;refine ws ?_;refine wq (gz xs A 2 hx D (by decide) (by decide)) [1] ?_;rintro r g ⟨rfl,H,y,rfl⟩;have ad:=lU xs A (n:=2) (by decide);have I:(10:Int)+Ld xs A 2=10\/(10:Int)+Ld xs A 2=11:=(by omega);refine wb ?_<;>intros;refine wo L (rw_ (rM 4 ⟨#[109]⟩ bE [] ⟨0,0,bE,[]⟩ [rM (10+(Ld xs A 2:Int)) ⟨#[99]⟩ bE [] ⟨0,0,bE,[]⟩ [] []] [])) (m1.og xs H) [0,1,2,2] [] ?_;rcases I with I|I;exact⟨.blk .m [.sig .one],m1,H,⟨⟨by decide,by simp only[Sm.body,QT];exact⟨fK rfl rfl u,by simp⟩⟩,aG _,λ_ h=>by cases h⟩,B,y,by rw[eG,I];rfl,rfl⟩;exact⟨.blk .m [.sig .all],m1,H,⟨⟨by decide,by simp only[Sm.body,QT];exact⟨fK rfl rfl u,by simp⟩⟩,aG _,λ_ h=>by cases h⟩,B,y,by rw[eG,I];rfl,rfl⟩);refine w0 ?_;refine iy (λb:Bool=>Wq d q Z b 278) (λ_=>m1.os3 xs A) (λ_=>A<=xs.length) ?_ (λb _=>?_)
       . refine wb (A2.mk ?_ (A2.mk ?_ (A2.mk ?_ ?_)))<;>intros
         all_goals first
          |exact sr_mark ⟨false,D,vm [0,1,2,3]⟩
          |exact sr_mark ⟨!m1.set,D,vm [0,1,2,3]⟩
       refine ws ?_;(((refine ji rfl ?_;refine ws ?_;first|(refine⟨λ_=>?_,λ_=>?_⟩<;>first|(exfalso;omega)|skip)|(rw[fQ];refine⟨λ_=>?_,λ_=>?_⟩)|skip));refine wb ?_<;>intros;refine wq (pW xs A { m1 with set:=true } hx D) [0,1,2] ?_;rintro r g ⟨e,H,he,y,rfl,rfl⟩;obtain⟨x,rfl⟩:=he.of;refine wb ?_<;>intros;refine wo L (rw_ (rM 14 ⟨#[102]⟩ bE [] (wY x) [] [])) (MS.og { m1 with set:=true } xs H) [0,1,2,2] [] ?_;exact⟨.set x,{ m1 with set:=true },H,fK rfl rfl d,B,y,rfl,rfl⟩);refine w0 ?_;refine iy (λt:Bool×Nat=>Wq d q Z t.1 308) (λt=>m1.os3 xs t.2) (λt=>t.2<=xs.length) ?_ (λ⟨b,H⟩ y=>?_)
       . refine wb (A2.mk ?_ (A2.mk ?_ ?_))<;>intros
         all_goals first
          |exact sr_mark ⟨(false,A),D,vm [0,1,2,3]⟩
          |skip
         refine wq (gz xs A 2 hx D (by decide) (by decide)) [1] ?_;rintro r g ⟨rfl,H,y,rfl⟩;refine wb ?_<;>intros;exact sr_mark ⟨(decide ((Ld xs A 2:Int)=1),H),y,vm [0,1,2,3]⟩
       dsimp only at y;refine ws ?_;(((refine ji rfl ?_;refine ws ?_;first|(refine⟨λ_=>?_,λ_=>?_⟩<;>first|(exfalso;omega)|skip)|(rw[fQ];refine⟨λ_=>?_,λ_=>?_⟩)|skip));refine wb ?_<;>intros;refine wo L (rw_ (rM 15 ⟨#[97]⟩ ⟨#[102]⟩ [] ⟨0,0,bE,[]⟩ [] [])) (m1.og xs H) [0,1,2,2] [] ?_;exact⟨.get,m1,H,fK rfl rfl d,B,y,rfl,rfl⟩);refine wb ?_<;>intros;refine wq (pW xs H m1 hx y) [0,1,2] ?_;rintro r g ⟨e,E,he,a7,rfl,rfl⟩;obtain⟨x,rfl⟩:=he.of;refine wb ?_<;>intros;refine wE (mP ⟨#[120]⟩ (wY x)) ?_;refine wb ?_<;>intros;refine wo L (rw_ (rM 1 ⟨#[120]⟩ bE [] (wY x) [] [])) (m1.og xs E) [0,1,2,2] [] ?_;exact⟨.asg .x x,m1,E,fK rfl rfl d,B,a7,rfl,rfl⟩
theorem wa {P Q:Prop}(h:Q)(s:Hd Q->P:=by (intro h;(try simp -implicitDefEqProofs (disch:=omega) only[go_sem,gQ,pX,↓reduceIte,fG,Nat.reducePow,Nat.reduceLT,Nat.reduceEqDiff,Nat.reduceAdd,Nat.reduceMul,Nat.reduceSub,Nat.reduceLeDiff,Int.reduceAdd,Int.reduceSub,Int.reduceToNat,Int.reduceLT,Int.reduceLE,Int.reduceNeg,Int.reduceEq,Int.reduceNe,Int.reduceBEq,Int.reduceBNe,lS,reduceCtorEq]);(repeat (first|refine And.intro (y8 (by kernel_rfl)) ?_|refine And.intro (by omega) ?_));exact h.out)):P:=s ⟨h⟩
theorem afG (xs:List UInt8)(hx:xs.length<=1000):∀d,StC xs d:=λd=>by
 induction d using Nat.strongRecOn with
 |_ d ih=>exact abL xs hx d (λa h=>YW xs a (ih a h))
def apW:Nat->List (Nat×Nat):=λi=>if i=14 then [(1,4),(1,5)] else if i=15 then [(1,6),(1,7),(1,9)] else if i=17 then [(1,3),(1,4)] else []
structure PgOk (bs:List (List Sm)):Prop where
 n1:1<=bs.length
 n4:bs.length<=4
 l20:∀b∈bs,b.length<=20
 d2:∀b∈bs,∀s∈b,SmD 2 s
theorem uK {K:Nat} :∀(l:List Sm),(∀s∈l,eQ s<=K)->az l<=l.length*K
 | [],_=>by simp[az]
 |
  s::r,h=>by
  have h1:=uK r (λx hx=>h x (JO _ hx))
  have h2:=h s (Rz ..)
  simp only[az,iO,Nat.succ_mul]
  omega
theorem ZK (s:Sm)(h:SmD 0 s):eQ s<=1:=by rw[lD,h.1,h.2];simp[az]
theorem ZL (s:Sm)(h:SmD 1 s):eQ s<=21:=by have h1:=uK s.body (λx hx=>ZK x (h.1.2 x hx));have h2:=uK s.els (λx hx=>ZK x (h.2.2 x hx));have h3:=h.1.1;have h4:=h.2.1;rw[lD];omega
theorem afH (s:Sm)(h:SmD 2 s):eQ s<=421:=by have h1:=uK s.body (λx hx=>ZL x (h.1.2 x hx));have h2:=uK s.els (λx hx=>ZL x (h.2.2 x hx));have h3:=h.1.1;have h4:=h.2.1;rw[lD];omega
theorem TT:∀(bs:List (List Sm)),(∀b∈bs,b.length<=20)->(∀b∈bs,∀s∈b,SmD 2 s)->fD bs<=bs.length*8420
 | [],_,_=>by simp[fD]
 |
  b::r,h1,h2=>by
  have h3:=TT r (λx hx=>h1 x (JO _ hx)) (λx hx=>h2 x (JO _ hx))
  have h4:=uK b (λx hx=>afH x (h2 b (Rz ..) x hx))
  have h5:=h1 b (Rz ..)
  simp only[fD,iO,Nat.succ_mul]
  omega
theorem PgOk.check {bs:List (List Sm)}(h:PgOk bs):FnEq Tryz.prog 68 [rw_ (Aa bs)] (.tup [.pv (ag (pO bs)),.pv (ag 0)]):=
 Ov bs h.n1 h.n4 (λb hb=>shL b (by have:=h.l20 b hb;omega) (λs hs=>ZM 2 s (h.d2 b hb s hs))) (by have:=TT bs h.l20 h.d2;have:=h.n4;omega)
@[go_sem] def apX (m:MS):Obj:= .box [.ptr 2 0,.pv (ag m.th),.pv (ag m.left),.pv (boolP m.set),.pv (boolP m.tx),.pv (boolP m.atomic),.pv (boolP m.loop),.own 3 m.held.length]
@[go_sem] def pS (xs:List UInt8)(k:Nat)(m:MS)(bs:List (List Sm)):List (Option Obj):=[some (.box [.emp,.emp]),some (apX m),some (zK xs k),some (JA m.held),some (.box [.pv (.sl XR),.own 5 bs.length]),some (.row 176 4 (bs.zipIdx.map rG))]
@[go_sem] def pE (n:Int)(i:Nat):List (Nat×AV):=[(2,.ptr 0 0),(3,.ptr 1 0),(4,.ptr 4 0),(5,.pv (ag n)),(6,.pv (.sl (iT (thNames 4)))),(7,.pv (ag i))]
theorem ZN (bs:List (List Sm))(l:List Sm):(bs++[l]).zipIdx.map rG=bs.zipIdx.map rG++[rG (l,bs.length)]:=by simp[List.zipIdx_append]
theorem Ox (i:Nat)(h:i<4):(thNames 4)[i]?=some (aQ i):=by
 match i,h with
 |0,_=>rfl
 |1,_=>rfl
 |2,_=>rfl
 |3,_=>rfl
@[go_sem] def tb (i:Nat)(b:AV):Obj:= .box [.pv (dh (aQ i)),.pv (ag 0),.pv (.sl (iT bC)),b]
theorem smj:pM .join=rM 13 (aQ 1) bE [] ⟨0,0,bE,[]⟩ [] []:=rfl
theorem pg1:PgOk [[.asg .x (.leaf (.num 1))]]:=⟨by decide,by decide,by simp,by simp only[lX,forall_eq];exact fK rfl rfl 2⟩
attribute [local go_sem] List.set_cons_zero List.set_cons_succ ZN bC smj Tt
theorem Pv (xs:List UInt8)(hx:xs.length<=1000):kV Tryz.prog 45 [.pv (SS xs)] (λr=>∃bs,r=rw_ (Aa bs)/\PgOk bs/\pO bs=0):=by
 refine wf Tryz.func45 apW (h:=λR N=>?_);refine wb ?_<;>intros;refine wE Oh ?_;refine wb ?_<;>intros;refine wq (gz xs 0 3 hx (aG _) (by decide) (by decide)) [24] ?_;rintro r g ⟨rfl,k,hk,rfl⟩;have hn:=lU xs 0 (n:=3) (by decide);generalize Ld xs 0 3=q at hn;refine wb ?_<;>intros;refine sr_ghost 40 7 9 1 rfl rfl ?_;refine sr_ghost 72 1 176 4 rfl rfl ?_;refine wl (λu:List (List Sm)×MS×Nat=>pE (2+(q:Int)) u.1.length) (λu=>pS xs u.2.2 u.2.1 u.1) (λu=>u.1.length<=2+q/\(∀b∈u.1,b.length<=20)/\(∀b∈u.1,∀s∈b,SmD 2 s)/\u.2.1.held=[]/\u.2.2<=xs.length) (λu=>2+q-u.1.length) ([],⟨0,20,false,false,false,false,[]⟩,k) ⟨aG _,by simp,by simp,rfl,hk⟩ (vm [0,40,24,168,72,169]) (λ⟨bs,m,k⟩ ⟨hi,G,hs,hm,hk⟩=>?_);dsimp only at hi G hs hm hk;refine ws ?_;refine w0 ?_;refine wg ?_;(refine ji rfl ?_;refine ws ?_;first|(refine⟨λ_=>?_,λ_=>?_⟩<;>first|(exfalso;omega)|skip)|(rw[fQ];refine⟨λ_=>?_,λ_=>?_⟩)|skip)
 . refine w0 ?_;refine wg ?_;refine ig rfl ?_;refine ws ?_;refine aB (x:=aQ bs.length) (by omega) (by rw[xe,Ox _ (by omega)]) rfl ?_;refine ws ?_;refine w0 ?_;refine sr_ghost 118 3 196 11 rfl rfl ?_;refine wg ?_;obtain⟨m',d⟩:∃m':MS,m'= { m with th:=bs.length } :=⟨_,rfl⟩;have O:m'.held=[]:=(by rw[d];exact hm);refine iy (λ_:List Sm=>pE (2+(q:Int)) bs.length++[(8,.ptr 6 0)]) (λl=>pS xs k m' bs++[some (tb bs.length (.own 7 l.length)),some (Yr l)]) (λl=>l.length<=4/\∀s∈l,SmD 2 s) ?_ (λl ⟨Y,hls⟩=>?_)
   . subst d;(((refine ji rfl ?_;refine ws ?_;first|(refine⟨λ_=>?_,λ_=>?_⟩<;>first|(exfalso;omega)|skip)|(rw[fQ];refine⟨λ_=>?_,λ_=>?_⟩)|skip));refine wb ?_<;>intros;refine wl (λu:Nat×List Sm=>pE (2+(q:Int)) bs.length++[(8,.ptr 6 0),(9,.pv (ag u.1))]) (λu=>pS xs k { m with th:=bs.length } bs++[some (tb bs.length (.own 7 u.2.length)),some (Yr u.2)]) (λu=>u.1<=2+q/\u.2.length<=u.1/\∀s∈u.2,SmD 2 s) (λu=>2+q-u.1) (1,[]) ⟨by omega,by simp,by simp⟩ (vm [0,1,2,3,4,5,118,134]) (λ⟨j,l⟩ ⟨Z,H,y⟩=>?_);dsimp only at Z H y;refine wb (A2.mk ?_ ?_)<;>intros;refine aB (x:=aQ j) (by omega) (by rw[xe,Ox _ (by omega)]) rfl ?_;refine wb ?_<;>intros;exact sr_mark ⟨(j+1,l++[.spawn j]),⟨by dsimp only;omega,by simp;omega,by simpa [or_imp,forall_and] using ⟨y,fK rfl rfl 2⟩⟩,by dsimp only;omega,vm [0,1,2,3,4,5,6,96]⟩;exact sr_mark ⟨l,⟨by omega,y⟩,vm [0,1,2,3,4,5,6,7]⟩);refine w0 ?_;exact sr_mark ⟨[],⟨by simp,by simp⟩,vm [0,1,2,3,4,5,118,134]⟩
   clear d;refine wb ?_<;>intros;refine wQ (gz xs k 3 hx hk (by decide) (by decide)) [2] ⟨rfl,k,hk,rfl⟩ ?_;rintro r g ⟨rfl,k2,I,rfl⟩;have J:=lU xs k (n:=3) (by decide);generalize Ld xs k 3=q2 at J;refine wb ?_<;>intros;refine wQ (YX xs 2 (afG xs hx 2) k2 m' (1+q2) I (by rw[O];decide) (by omega)) [1,2,3] ⟨[],m',k,aG _,by simp,rfl,hk,rfl,rfl⟩ ?_;rintro r g ⟨l2,m2,U,p1,p2,p3,V,rfl,rfl⟩;have L:m2.held=[]:=(by rw[p3,O]);refine wa ?_;refine EI rfl ?_;refine iy (λu:List Sm×Nat=>pE (2+(q:Int)) bs.length++[(8,.ptr 6 0)]) (λu=>pS xs u.2 m2 bs++[some (tb bs.length (.pv (Tt u.1)))]) (λu=>u.1.length<=20/\(∀s∈u.1,SmD 2 s)/\u.2<=xs.length) ?_ (λ⟨b,E⟩ ⟨B,D,a⟩=>?_);have A:∀s∈l++l2,SmD 2 s:=λs h=>(jM.1 h).elim (hls s) (p2 s);refine wb (A2.mk ?_ ?_)<;>intros;refine wq (gz xs U 3 hx V (by decide) (by decide)) [2] ?_;rintro r g ⟨rfl,E,a,rfl⟩;refine wb (A2.mk ?_ ?_)<;>intros;refine aj (by omega) rfl rfl ?_;refine wb ?_<;>intros;exact sr_mark ⟨(l++l2++[.join],E),⟨by simp;omega,λs h=>(jM.1 h).elim (A s) (λh=>by rw[lX.1 h];exact fK rfl rfl 2),a⟩,vm [0,1,2,80,4,5,6] [(248,none)]⟩;exact sr_mark ⟨(l++l2,E),⟨by simp;omega,A,a⟩,vm [0,1,2,80,4,5,6] [(88,none)]⟩;exact sr_mark ⟨(l++l2,U),⟨by simp;omega,A,V⟩,vm [0,1,2,80,4,5,6] [(88,none)]⟩;dsimp only at B D a;refine wb ?_<;>intros;refine sr_mark ⟨(bs++[b],m2,E),⟨by simp;omega,λx h=>(jM.1 h).elim (G x) (λh=>by rw[lX.1 h];exact B),λx h=>(jM.1 h).elim (hs x) (λh=>by rw[lX.1 h];exact D),L,a⟩,by simp;omega,vm [0,1,2,3,4,39]⟩
 have X:PgOk bs:=⟨by omega,by omega,G,hs⟩;refine w0 ?_;refine sr_view (pE (2+(q:Int)) bs.length) [some (.box [.emp,.emp]),none,none,none,some (.box ((Aa bs).map .pv))] (vm [0,1,2,3,4] [(5,none)]) ?_;refine wb ?_<;>intros;refine wE X.check ?_;refine wb (A2.mk ?_ ?_)<;>intros;refine wE Oh ?_;refine wb ?_<;>intros;refine wE (CX 1) ?_;refine wb ?_<;>intros;refine wE (mP ⟨#[120]⟩ ⟨1,1,bE,[]⟩) ?_;refine wb ?_<;>intros;exact wt N (rw_ (Aa [[.asg .x (.leaf (.num 1))]])) [] ⟨_,rfl,pg1,rfl⟩;exact wt N (rw_ (Aa bs)) [] ⟨_,rfl,X,‹_›⟩
end AM
namespace AM
open Go Go.Proofs Mk
theorem wd {P:Program}{us:Nat->List (Nat×Nat)}{nt n0 nx:Nat}{R:Env->Sto->Prop}{hm:P.follows .mixedOrders=true}{env:Env}{σ:Sto}{post:AV->List (Option Obj)->Prop}(hR:∀env σ,jC P n0 [] post env σ->R env σ)(g:List (Option Obj))(ls:List Nat)(fl:List (Nat×Option (List CT)))(hp:post (.tup []) g)(hb:vwB n0 ls g (fl.map (·.1))=true:=by kernel_rfl)(hl:g.length<=n0+8:=by exact Au rfl)(hf:vF σ fl:=by ((try clear hR);exact we))(hO:vO (rQ σ fl) g.length (fl.map (·.1)) (lg ls) σ g 0:=by ((try clear hR);exact we)):sr ⟨P,us,nt,n0,R,hm⟩ [] env σ nx:=sr_nil (hR _ _ (JW (.tup []) g ls fl hb hl hp hf (NR ⟨rfl,by simp only[FP,wk,AV.ren,AV.renL,wkL]⟩) hO))
theorem wdr {P:Program}{us:Nat->List (Nat×Nat)}{nt n0 nx:Nat}{R:Env->Sto->Prop}{hm:P.follows .mixedOrders=true}{k:List It}{c:Code}{env:Env}{σ:Sto}{post:AV->List (Option Obj)->Prop}(hR:∀env σ,jC P n0 [] post env σ->R env σ)(g:List (Option Obj))(ls:List Nat)(fl:List (Nat×Option (List CT)))(hp:post (.tup []) g)(hb:vwB n0 ls g (fl.map (·.1))=true:=by kernel_rfl)(hl:g.length<=n0+8:=by exact Au rfl)(hf:vF σ fl:=by ((try clear hR);exact we))(hO:vO (rQ σ fl) g.length (fl.map (·.1)) (lg ls) σ g 0:=by ((try clear hR);exact we))(hc:Hl c=true:=by rfl):sr ⟨P,us,nt,n0,R,hm⟩ (.code c::k) env σ nx:=Kr hc (hR _ _ (JW (.tup []) g ls fl hb hl hp hf (NR ⟨rfl,by simp only[FP,wk,AV.ren,AV.renL,wkL]⟩) hO))
theorem xX (l:List (ByteArray×Bool))(s:ByteArray)(r:Int)(d:l.length<=1000)(h:iR (l.map (·.1)) s=r):FnEq Tryz.prog 107 [.pv (.sl (l.map Pq)),.pv (dh s)] (.pv (ag r)):=by
 subst h;refine wf Tryz.func107 (λ_=> []) (h:=λR a=>?_);refine wb ?_<;>intros;refine wl (λi:Nat=> [(0,.pv (.sl (l.map Pq))),(1,.pv (dh s)),(5,.pv (ag i))]) (λ_=> []) (λi=>i<=l.length/\iR (l.map (·.1)) s=fH s i ((l.map (·.1)).drop i)) (λi=>l.length-i) 0 ⟨aG _,rfl⟩ (vm []) (λi ⟨hi,ha⟩=>?_);refine wb (A2.mk ?_ ?_)<;>intros
 . have h2:i<l.length:=(by omega);refine aB (x:=l[i]) (DC _) (by simp[h2]) rfl ?_;refine wb (A2.mk ?_ ?_)<;>intros
   . rw[at_hit (i:=i) (by simpa using h2) (by simpa using ‹l[i].1=s›) ha] at a;exact wr a
   . exact sr_mark ⟨i+1,⟨h2,oN (i:=i) (by simpa using h2) (by simpa using ‹_›) ha⟩,by omega,vm []⟩
 . rw[sW (i:=i) (by simp;omega) ha] at a;exact wr a
theorem lG (n:Nat)(ss:List (Nat×Nat))(s:ByteArray)(r:Int)(h:iR (OZ.map (·.name)) s=r):FnEq Tryz.prog 172 [rw_ (qJ n ss),.pv (dh s)] (.pv (ag r)):=by
 subst h;refine wf Tryz.func172 (λ_=> []) (h:=λR a=>?_);refine wb ?_<;>intros;refine wl (λi:Nat=> [(1,.pv (dh s)),(2,.ptr 0 0),(5,.pv (ag i))]) (λ_=> [some (.box ((qJ n ss).map .pv))]) (λi=>i<=5/\iR (OZ.map (·.name)) s=fH s i ((OZ.map (·.name)).drop i)) (λi=>5-i) 0 ⟨aG _,rfl⟩ (vm [0]) (λi ⟨hi,ha⟩=>?_);refine wb (A2.mk ?_ ?_)<;>intros
 . have h2:i<OZ.length:=(by rw[TG];omega);refine aB (x:=OZ[i]) (DC _) (by simp[h2]) rfl ?_;refine wb (A2.mk ?_ ?_)<;>intros
   . rw[at_hit (i:=i) (by simpa using h2) (by simpa using ‹OZ[i].name=s›) ha] at a;exact wr a
   . exact sr_mark ⟨i+1,⟨by omega,oN (i:=i) (by simpa using h2) (by simpa using ‹_›) ha⟩,by omega,vm [0]⟩
 . rw[sW (i:=i) (by simp[TG];omega) ha] at a;exact wr a
@[go_sem] def akk (n:Nat)(ss:List (Nat×Nat))(r:Nat)(out:List In)(site next:Int):Obj:= .box [.pv (.sl (OZ.map CeR.r)),.pv (.sl (Po.map Pq)),.pv (.sl (O1.map V3)),.pv (.sl (iT V4)),.pv (.sl (iT (thNames n))),.pv (.sl (ss.map V5)),.pv (.sl (iT bC)),.own r out.length,.pv (ag site),.pv (ag next)]
abbrev inO (out:List In):Obj:= .row 182 6 (out.map In.r)
@[go_sem] def VZ (n:Nat)(ss:List (Nat×Nat))(out:List In)(site next:Int):List Obj:=[akk n ss 1 out site next,inO out]
@[go_sem] def Fp (n:Nat)(ss:List (Nat×Nat))(out:List In)(site next:Int):List (Option Obj):=[some (akk n ss 2 out site next),none,some (inO out)]
theorem dG (n:Nat)(ss:List (Nat×Nat))(out:List In)(site next:Int)(i:In)(ho:out.length<=2000):ACall Tryz.prog 71 [.ptr 0 0,rw_ i.r] (VZ n ss out site next) (λv g=>v= .tup []/\g=Fp n ss (out++[{ i with site:=site }]) site next):=by refine wz Tryz.func71 (λ_=> [(4,5)]) (h:=λR a=>?_);refine wb ?_<;>intros;exact wd a _ [0,1,114] [] ⟨rfl,rfl⟩
theorem afB (n:Nat)(ss:List (Nat×Nat))(out:List In)(site next:Int)(s:ByteArray)(r:Int)(h:iR (O1.map (·.1)) s=r):ACall Tryz.prog 146 [.ptr 0 0,.pv (dh s)] (VZ n ss out site next) (λv g=>v= .pv (ag r)/\g=(VZ n ss out site next).map some):=by
 subst h;refine wz Tryz.func146 (λ_=> []) (h:=λR a=>?_);refine wb ?_<;>intros;refine wl (λi:Nat=> [(0,.ptr 0 0),(1,.pv (dh s)),(5,.pv (ag i))]) (λ_=>(VZ n ss out site next).map some) (λi=>i<=1/\iR (O1.map (·.1)) s=fH s i ((O1.map (·.1)).drop i)) (λi=>1-i) 0 ⟨aG _,rfl⟩ (vm [0,1]) (λi ⟨hi,ha⟩=>?_);refine wb (A2.mk ?_ ?_)<;>intros
 . have h2:i<O1.length:=(by rw[TI];omega);refine aB (x:=O1[i]) (DC _) (by simp[h2]) rfl ?_;refine wb (A2.mk ?_ ?_)<;>intros
   . exact wo a (.pv (ag i)) _ [0,1] [] ⟨by rw[at_hit (i:=i) (by simpa using h2) (by simpa using ‹O1[i].1=s›) ha],rfl⟩
   . exact sr_mark ⟨i+1,⟨by omega,oN (i:=i) (by simpa using h2) (by simpa using ‹_›) ha⟩,by omega,vm [0,1]⟩
 . exact wo a (.pv (ag (-1))) _ [0,1] [] ⟨by rw[sW (i:=i) (by simp[TI];omega) ha],rfl⟩
