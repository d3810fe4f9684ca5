/- Words. -/
import Derived.Test.YtfbkkgfkhhibfaaGreatFk
set_option linter.unusedVariables false
set_option linter.unusedSimpArgs false
namespace AM
open Go Go.Proofs Mk
set_option maxRecDepth 20000
set_option maxHeartbeats 800000
@[go_sem] def st0:Obj:= .box [.pv (ag 0),.pv (ag 0),.pv (bJ bE),.pv (bJ bE),.emp,.pv (ag 0),.pv (ag 0),.pv (bJ bE),.emp,.emp,.emp]
@[go_sem] def MS.os3 (m:MS)(xs:List UInt8)(k:Nat):List (Option Obj):=(m.os xs k).map some++ [some st0]
def QP (d q:Nat)(n b:Bool)(t:Nat):List (Nat×AV):= [(0,.ptr 0 0),(1,.pv (ag d)),(4,.ptr 3 0),(5,.pv (ag q)),(6,.pv (boolP n)),(t,.pv (boolP b))]
attribute [go_sem] QP
@[go_sem] theorem afd {d:Nat} :((d+1:Nat):Int) - 1=(d:Int):=by omega
def akv:List Nm:= [.x,.y,.x,.v]
def akw:List Nm:= [.a,.b]
theorem dY {s:Sm}(h:s.body= [])(h2:s.els= []):∀d,SmD d s
 | 0=>⟨h,h2⟩
 | d+1=>by unfold SmD;rw[h,h2];simp
theorem Xq (xs:List UInt8)(hx:xs.length≤1000)(d:Nat)(IH:∀d',d' < d→SsC xs d'):StC xs d:=by
 intro k m hk hm;refine wz Tryz.func110 (fun i=>if i=5 then [(2,5),(3,5)] else if i=7 then [(6,9),(7,9)] else []) (h:=fun R hR=>?_);refine ws ?_;refine w0 ?_;refine wg ?_;refine wg ?_;refine fD rfl ?_;refine ws ?_;refine wq (eU xs k 18 hx hk (by decide) (by decide)) [1] ?_;rintro r g ⟨rfl,k1,hk1,rfl⟩;have hn:=jM xs k (n:=18) (by decide);generalize FN xs k 18=q at hn;refine ws ?_;refine w0 ?_;generalize hm1:({ m with left:=IntKind.i64.wrap (m.left - 1) } :MS)=m1;refine fQ (fun b:Bool=>QP d q b b 6) (fun _=>m1.os3 xs k1) (fun b=>b=true→0 < d) ?_ (fun nb hnb=>?_)
 · subst hm1;refine wb (A2.mk ?_ (A2.mk ?_ ?_)) <;> intros
   all_goals first
    | exact ai ⟨false,(fun h=>by cases h),vm [0,1,2,3]⟩
    | exact ai ⟨!m.tx,(fun _=>by omega),vm [0,1,2,3]⟩
 have hm2:m1.held=m.held:=by rw[←hm1]
 rw[←hm2] at hm;clear hm1;refine ws ?_;refine w0 ?_;refine fD rfl ?_;refine ws ?_;refine w0 ?_
 (refine gV rfl ?_;refine ws ?_;first | (refine⟨fun _=>?_,fun _=>?_⟩ <;> first | (exfalso;omega) | skip) | (rw[eu];refine⟨fun _=>?_,fun _=>?_⟩) | skip)
 · refine w0 ?_;refine fD rfl ?_;refine ws ?_;refine iC akv (fun n=> [bJ n.str]) (j:=q) (show q < 4 by omega) (fun n _=>?_);refine wb ?_ <;> intros
   refine wQ (lV xs k1 m1 hx hk1) [0,1,2] ⟨⟨1,(0:Nat),bE,[]⟩,k,.leaf (.num (by decide)),hk,rfl,rfl⟩ ?_;rintro r g ⟨e,k2,he,hk2,rfl,rfl⟩;obtain⟨x,rfl⟩:=he.of;refine wb ?_ <;> intros
   refine wE (jZ n.str (qX x)) ?_;refine wb ?_ <;> intros
   refine wo hR (rw_ (nR 1 n.str bE [] (qX x) [] [])) (m1.og xs k2) [0,1,2,2] [] ?_;exact⟨.asg n x,m1,k2,dY rfl rfl d,hm2,hk2,rfl,rfl⟩
 · refine w0 ?_;refine fD rfl ?_;refine ws ?_;refine w0 ?_
   (refine gV rfl ?_;refine ws ?_;first | (refine⟨fun _=>?_,fun _=>?_⟩ <;> first | (exfalso;omega) | skip) | (rw[eu];refine⟨fun _=>?_,fun _=>?_⟩) | skip)
   · refine w0 ?_;refine fD rfl ?_;refine wb ?_ <;> intros
     refine wQ (eU xs k1 2 hx hk1 (by decide) (by decide)) [1] ⟨rfl,k,hk,rfl⟩ ?_;rintro r g ⟨rfl,k2,hk2,rfl⟩;refine wb ?_ <;> intros
     refine iC akw (fun n=> [bJ n.str]) (jM xs k1 (by decide)) (fun n _=>?_);refine ws ?_;refine wQ (lV xs k2 m1 hx hk2) [0,1,2] ⟨⟨1,(0:Nat),bE,[]⟩,k,.leaf (.num (by decide)),hk,rfl,rfl⟩ ?_;rintro r g ⟨e,k3,he,hk3,rfl,rfl⟩;obtain⟨x,rfl⟩:=he.of;refine wb ?_ <;> intros
     refine wE (jZ n.str (qX x)) ?_;refine wb ?_ <;> intros
     refine wo hR (rw_ (nR 1 n.str bE [] (qX x) [] [])) (m1.og xs k3) [0,1,2,2] [] ?_;exact⟨.asg n x,m1,k3,dY rfl rfl d,hm2,hk3,rfl,rfl⟩
   · refine w0 ?_;refine fD rfl ?_;refine ws ?_;refine w0 ?_
     (refine gV rfl ?_;refine ws ?_;first | (refine⟨fun _=>?_,fun _=>?_⟩ <;> first | (exfalso;omega) | skip) | (rw[eu];refine⟨fun _=>?_,fun _=>?_⟩) | skip)
     · refine w0 ?_;refine fD rfl ?_;refine ws ?_;refine wq (ru xs k1 m1 hx hk1) [0,1,2] ?_;rintro r g ⟨e,k2,he,hk2,rfl,rfl⟩;obtain⟨i,rfl⟩:=he.of;refine ws ?_;refine wq (lV xs k2 m1 hx hk2) [0,1,2] ?_;rintro r g ⟨e,k3,he,hk3,rfl,rfl⟩;obtain⟨x,rfl⟩:=he.of;refine wb ?_ <;> intros
       refine wo hR (rw_ (nR 1 ⟨#[113]⟩ bE [(VD i).r] (qX x) [] [])) (m1.og xs k3) [0,1,2,2] [] ?_;exact⟨.asq i x,m1,k3,dY rfl rfl d,hm2,hk3,rfl,rfl⟩
     · refine w0 ?_;refine fQ (fun b:Bool=>QP d q nb b 74) (fun _=>m1.os3 xs k1) (fun b=>b=true→0 < d) ?_ (fun b hb=>?_)
       · refine wb (A2.mk ?_ ?_) <;> intros
         all_goals first
          | exact ai ⟨false,(fun h=>by cases h),vm [0,1,2,3]⟩
          | exact ai ⟨decide (0 < (d:Int)),(fun h=>by simpa using h),vm [0,1,2,3]⟩
       refine ws ?_
       (refine gV rfl ?_;refine ws ?_;first | (refine⟨fun _=>?_,fun _=>?_⟩ <;> first | (exfalso;omega) | skip) | (rw[eu];refine⟨fun _=>?_,fun _=>?_⟩) | skip)
       · have hd:=hb ‹_›;obtain⟨d',rfl⟩:∃d',d=d'+1:=⟨d - 1,by omega⟩;refine w0 ?_;refine fD rfl ?_;refine ws ?_;refine wq (lV xs k1 m1 hx hk1) [0,1,2] ?_;rintro r g ⟨e,k2,he,hk2,rfl,rfl⟩;obtain⟨x,rfl⟩:=he.of;refine ws ?_;refine wq (IH d' (by omega) k2 m1 1 hk2 (by omega) (by decide)) [0,1,2] ?_;rintro r g ⟨l,m2,k3,q1,q2,q3,q4,rfl,rfl⟩;refine wb ?_ <;> intros
         have hm3:m2.held.length+d'≤100:=by rw[q3];omega
         refine wq (eU xs k3 2 hx q4 (by decide) (by decide)) [1] ?_;rintro r g ⟨rfl,k4,hk4,rfl⟩;refine wb (A2.mk ?_ ?_) <;> intros
         · refine wq (IH d' (by omega) k4 m2 1 hk4 hm3 (by decide)) [0,1,44] ?_;rintro r g ⟨l2,m3,k5,p1,p2,p3,p4,rfl,rfl⟩;refine wb ?_ <;> intros
           refine wo hR (rw_ (nR 2 bE bE [] (qX x) (l.map lS) (l2.map lS))) (m3.og xs k5) [0,1,2,148] [(45,none),(149,none)] ?_;exact⟨.ite x l l2,m3,k5,⟨⟨by show l.length≤10;omega,q2⟩,by show l2.length≤10;omega,p2⟩,by rw[p3,q3,hm2],p4,by rw[dJ];rfl,rfl⟩
         · refine wo hR (rw_ (nR 2 bE bE [] (qX x) (l.map lS) [])) (m2.og xs k4) [0,1,2,44] [(45,none)] ?_;exact⟨.ite x l [],m2,k4,⟨⟨by show l.length≤10;omega,q2⟩,Nat.zero_le _,fun _ h=>by cases h⟩,by rw[q3,hm2],hk4,by rw[dJ];rfl,rfl⟩
       refine w0 ?_;refine fQ (fun b:Bool=>QP d q nb b 100) (fun _=>m1.os3 xs k1) (fun b=>b=true→0 < d) ?_ (fun b hb=>?_)
       · refine wb (A2.mk ?_ ?_) <;> intros
         all_goals first
          | exact ai ⟨false,(fun h=>by cases h),vm [0,1,2,3]⟩
          | exact ai ⟨decide (0 < (d:Int)),(fun h=>by simpa using h),vm [0,1,2,3]⟩
       refine ws ?_
       (refine gV rfl ?_;refine ws ?_;first | (refine⟨fun _=>?_,fun _=>?_⟩ <;> first | (exfalso;omega) | skip) | (rw[eu];refine⟨fun _=>?_,fun _=>?_⟩) | skip)
       · have hd:=hb ‹_›;obtain⟨d',rfl⟩:∃d',d=d'+1:=⟨d - 1,by omega⟩;refine w0 ?_;refine wg ?_;refine wg ?_;refine fD rfl ?_;refine ws ?_;refine wE (rq _) ?_;refine wb ?_ <;> intros
         refine wE (xM _) ?_;refine wb ?_ <;> intros
         refine wE (tq 13 ⟨2,0,⟨#[98]⟩,[]⟩ ⟨1,2,bE,[]⟩) ?_;refine wb ?_ <;> intros
         refine wq (IH d' (by omega) k1 { m1 with loop:=true } 1 hk1 (by show m1.held.length+d'≤100;omega) (by decide)) [0,1,2] ?_;rintro r g ⟨l,⟨vI,oW,set2,Xr,at2,lo2,held2⟩,k3,q1,q2,q3,q4,rfl,rfl⟩;dsimp only at q3;subst q3;refine ws ?_;refine wE (rq _) ?_;refine wb ?_ <;> intros
         refine wE (xM _) ?_;refine wb ?_ <;> intros
         refine wE (tq 6 ⟨2,0,⟨#[98]⟩,[]⟩ ⟨1,1,bE,[]⟩) ?_;refine wb ?_ <;> intros
         refine wE (jZ ⟨#[98]⟩ ⟨6,0,bE,[ER.r ⟨2,0,⟨#[98]⟩,[]⟩,ER.r ⟨1,1,bE,[]⟩]⟩) ?_;refine wb ?_ <;> intros
         refine wo hR (rw_ (nR 3 bE bE [] ⟨13,0,bE,[ER.r ⟨2,0,⟨#[98]⟩,[]⟩,ER.r ⟨1,2,bE,[]⟩]⟩ (l.map lS++ [nR 1 ⟨#[98]⟩ bE [] ⟨6,0,bE,[ER.r ⟨2,0,⟨#[98]⟩,[]⟩,ER.r ⟨1,1,bE,[]⟩]⟩ [] []]) [])) (MS.og ⟨vI,oW,set2,Xr,at2,m1.loop,m1.held⟩ xs k3) [0,1,2,124] [(172,none)] ?_;refine⟨.whl (.bin 4 (.var .b) (.num 2)) (l++ [.asg .b (.bin 0 (.var .b) (.num 1))]),⟨vI,oW,set2,Xr,at2,m1.loop,m1.held⟩,k3,⟨⟨by show (l++_).length≤10;simp;omega,fun s hs=>?_⟩,Nat.zero_le _,fun _ h=>by cases h⟩,hm2,q4,by rw[dJ];simp only[Sm.body,List.map_append];rfl,rfl⟩;rcases List.mem_append.1 hs with hs | hs
         · exact q2 s hs
         · rw[List.mem_singleton.1 hs];exact dY rfl rfl d'
       refine w0 ?_;refine fQ (fun b:Bool=>QP d q nb b 133) (fun _=>m1.os3 xs k1) (fun b=>b=true→(q=8∨q=9)∧0 < d) ?_ (fun b hb=>?_)
       · refine wb (A2.mk ?_ (A2.mk ?_ (A2.mk ?_ (A2.mk ?_ ?_)))) <;> intros
         all_goals first
          | exact ai ⟨false,(fun h=>by cases h),vm [0,1,2,3]⟩
          | skip
         all_goals first
          | refine au (x:= [bJ ⟨#[109]⟩]) (by omega) (by rw[show ((q:Int) - 8).toNat=0 by omega];rfl) rfl ?_
          | refine au (x:= [bJ ⟨#[110]⟩]) (by omega) (by rw[show ((q:Int) - 8).toNat=1 by omega];rfl) rfl ?_
         all_goals
          refine ws ?_;first | refine wq (oO xs k1 m1 ⟨#[109]⟩ (by omega)) [0,1,2] ?_ | refine wq (oO xs k1 m1 ⟨#[110]⟩ (by omega)) [0,1,2] ?_
          rintro r g ⟨⟨hb,rfl⟩,rfl⟩;refine wb ?_ <;> intros
          exact ai ⟨!hb,(fun _=>⟨by omega,hnb ‹_›⟩),vm [0,1,2,3]⟩
       refine ws ?_
       (refine gV rfl ?_;refine ws ?_;first | (refine⟨fun _=>?_,fun _=>?_⟩ <;> first | (exfalso;omega) | skip) | (rw[eu];refine⟨fun _=>?_,fun _=>?_⟩) | skip)
       · obtain⟨hq,hd⟩:=hb ‹_›;obtain⟨d',rfl⟩:∃d',d=d'+1:=⟨d - 1,by omega⟩;refine w0 ?_;refine fD rfl ?_;refine ws ?_;rcases hq with hq | hq
         · refine au (x:= [bJ ⟨#[109]⟩]) (by omega) (by rw[show ((q:Int) - 8).toNat=0 by omega];rfl) rfl ?_;refine wb ?_ <;> intros
           refine wq (yP xs hx d' (IH d' (by omega)) k1 m1 ⟨#[109]⟩ hk1 (by omega)) [0,1,2] ?_;rintro r g ⟨l,m2,k3,q1,q2,q3,q4,rfl,rfl⟩;refine wb ?_ <;> intros
           refine wo hR (rw_ (nR 4 ⟨#[109]⟩ bE [] ⟨0,0,bE,[]⟩ (l.map lS) [])) (m2.og xs k3) [0,1,2,92] [(93,none)] ?_;exact⟨.blk .m l,m2,k3,⟨⟨q1,q2⟩,Nat.zero_le _,fun _ h=>by cases h⟩,by rw[q3,hm2],q4,by rw[dJ];rfl,rfl⟩
         · refine au (x:= [bJ ⟨#[110]⟩]) (by omega) (by rw[show ((q:Int) - 8).toNat=1 by omega];rfl) rfl ?_;refine wb ?_ <;> intros
           refine wq (yP xs hx d' (IH d' (by omega)) k1 m1 ⟨#[110]⟩ hk1 (by omega)) [0,1,2] ?_;rintro r g ⟨l,m2,k3,q1,q2,q3,q4,rfl,rfl⟩;refine wb ?_ <;> intros
           refine wo hR (rw_ (nR 4 ⟨#[110]⟩ bE [] ⟨0,0,bE,[]⟩ (l.map lS) [])) (m2.og xs k3) [0,1,2,92] [(93,none)] ?_;exact⟨.blk .n l,m2,k3,⟨⟨q1,q2⟩,Nat.zero_le _,fun _ h=>by cases h⟩,by rw[q3,hm2],q4,by rw[dJ];rfl,rfl⟩
       refine w0 ?_;refine fQ (fun b:Bool=>QP d q nb b 165) (fun _=>m1.os3 xs k1) (fun b=>b=true→(q=10∨q=11)∧0 < d) ?_ (fun b hb=>?_)
       · refine wb (A2.mk ?_ (A2.mk ?_ (A2.mk ?_ (A2.mk ?_ ?_)))) <;> intros
         all_goals first
          | exact ai ⟨false,(fun h=>by cases h),vm [0,1,2,3]⟩
          | skip
         all_goals
          refine wq (oO xs k1 m1 ⟨#[114]⟩ (by omega)) [0,1,2] ?_;rintro r g ⟨⟨hb,rfl⟩,rfl⟩;refine wb ?_ <;> intros
          exact ai ⟨!hb,(fun _=>⟨by omega,hnb ‹_›⟩),vm [0,1,2,3]⟩
       refine ws ?_
       (refine gV rfl ?_;refine ws ?_;first | (refine⟨fun _=>?_,fun _=>?_⟩ <;> first | (exfalso;omega) | skip) | (rw[eu];refine⟨fun _=>?_,fun _=>?_⟩) | skip)
       · obtain⟨hq,hd⟩:=hb ‹_›;obtain⟨d',rfl⟩:∃d',d=d'+1:=⟨d - 1,by omega⟩;have h10:(q:Int) - 10+5=5∨(q:Int) - 10+5=6:=by omega
         refine w0 ?_;refine fD rfl ?_;refine ws ?_;refine wq (yP xs hx d' (IH d' (by omega)) k1 m1 ⟨#[114]⟩ hk1 (by omega)) [0,1,2] ?_;rintro r g ⟨l,m2,k3,q1,q2,q3,q4,rfl,rfl⟩;refine wb ?_ <;> intros
         refine wo hR (rw_ (nR ((q:Int) - 10+5) ⟨#[114]⟩ bE [] ⟨0,0,bE,[]⟩ (l.map lS) [])) (m2.og xs k3) [0,1,2,52] [(53,none)] ?_;rcases h10 with h10 | h10
         · exact⟨.blk .rd l,m2,k3,⟨⟨q1,q2⟩,Nat.zero_le _,fun _ h=>by cases h⟩,by rw[q3,hm2],q4,by rw[dJ,h10];rfl,rfl⟩
         · exact⟨.blk .wr l,m2,k3,⟨⟨q1,q2⟩,Nat.zero_le _,fun _ h=>by cases h⟩,by rw[q3,hm2],q4,by rw[dJ,h10];rfl,rfl⟩
       refine w0 ?_;refine fQ (fun b:Bool=>QP d q nb b 188) (fun _=>m1.os3 xs k1) (fun b=>b=true→0 < d) ?_ (fun b hb=>?_)
       · refine wb (A2.mk ?_ ?_) <;> intros
         all_goals first
          | exact ai ⟨false,(fun h=>by cases h),vm [0,1,2,3]⟩
          | exact ai ⟨nb,hnb,vm [0,1,2,3]⟩
       refine ws ?_
       (refine gV rfl ?_;refine ws ?_;first | (refine⟨fun _=>?_,fun _=>?_⟩ <;> first | (exfalso;omega) | skip) | (rw[eu];refine⟨fun _=>?_,fun _=>?_⟩) | skip)
       · have hd:=hb ‹_›;obtain⟨d',rfl⟩:∃d',d=d'+1:=⟨d - 1,by omega⟩;refine w0 ?_;refine wg ?_;refine fD rfl ?_;refine ws ?_;refine wq (eU xs k1 2 hx hk1 (by decide) (by decide)) [1] ?_;rintro r g ⟨rfl,k2,hk2,rfl⟩;have hn2:=jM xs k1 (n:=2) (by decide);refine ws ?_;refine wq (IH 0 (by omega) k2 { m1 with tx:=true } (1+FN xs k1 2) hk2 (by show m1.held.length+0≤100;omega) (by omega)) [0,1,2] ?_;rintro r g ⟨l,⟨vI,oW,set2,Xr,at2,lo2,held2⟩,k3,q1,q2,q3,q4,rfl,rfl⟩;dsimp only at q3;subst q3;refine wb ?_ <;> intros
         refine wo hR (rw_ (nR 7 bE bE [] ⟨0,0,bE,[]⟩ (l.map lS) [])) (MS.og ⟨vI,oW,set2,false,at2,lo2,m1.held⟩ xs k3) [0,1,2,92] [(93,none)] ?_;exact⟨.tx l,⟨vI,oW,set2,false,at2,lo2,m1.held⟩,k3,⟨⟨by show l.length≤10;omega,fun s hs=>dY (q2 s hs).1 (q2 s hs).2 d'⟩,Nat.zero_le _,fun _ h=>by cases h⟩,hm2,q4,by rw[dJ];rfl,rfl⟩
       refine w0 ?_;refine fQ (fun b:Bool=>QP d q nb b 210) (fun _=>m1.os3 xs k1) (fun b=>b=true→0 < d) ?_ (fun b hb=>?_)
       · refine wb (A2.mk ?_ (A2.mk ?_ ?_)) <;> intros
         all_goals first
          | exact ai ⟨false,(fun h=>by cases h),vm [0,1,2,3]⟩
          | exact ai ⟨!m1.atomic,(fun _=>hnb ‹_›),vm [0,1,2,3]⟩
       refine ws ?_
       (refine gV rfl ?_;refine ws ?_;first | (refine⟨fun _=>?_,fun _=>?_⟩ <;> first | (exfalso;omega) | skip) | (rw[eu];refine⟨fun _=>?_,fun _=>?_⟩) | skip)
       · have hd:=hb ‹_›;obtain⟨d',rfl⟩:∃d',d=d'+1:=⟨d - 1,by omega⟩;refine w0 ?_;refine wg ?_;refine fD rfl ?_;refine ws ?_;refine wq (IH d' (by omega) k1 { m1 with atomic:=true } 2 hk1 (by show m1.held.length+d'≤100;omega) (by omega)) [0,1,2] ?_;rintro r g ⟨l,⟨vI,oW,set2,Xr,at2,lo2,held2⟩,k3,q1,q2,q3,q4,rfl,rfl⟩;dsimp only at q3;subst q3;refine wb ?_ <;> intros
         refine wo hR (rw_ (nR 8 bE bE [] ⟨0,0,bE,[]⟩ (l.map lS) [])) (MS.og ⟨vI,oW,set2,Xr,false,lo2,m1.held⟩ xs k3) [0,1,2,60] [(61,none)] ?_;exact⟨.atm l,⟨vI,oW,set2,Xr,false,lo2,m1.held⟩,k3,⟨⟨by show l.length≤10;omega,q2⟩,Nat.zero_le _,fun _ h=>by cases h⟩,hm2,q4,by rw[dJ];rfl,rfl⟩
       refine w0 ?_;refine fQ (fun b:Bool=>QP d q nb b 235) (fun _=>m1.os3 xs k1) (fun b=>b=true→0 < d) ?_ (fun b hb=>?_)
       · refine wb (A2.mk ?_ (A2.mk ?_ (A2.mk ?_ ?_))) <;> intros
         all_goals first
          | exact ai ⟨false,(fun h=>by cases h),vm [0,1,2,3]⟩
          | skip
         all_goals
          refine wq (oO xs k1 m1 ⟨#[109]⟩ (by omega)) [0,1,2] ?_;rintro r g ⟨⟨hb,rfl⟩,rfl⟩;refine wb ?_ <;> intros
          exact ai ⟨!hb,(fun _=>hnb ‹_›),vm [0,1,2,3]⟩
       refine ws ?_
       (refine gV rfl ?_;refine ws ?_;first | (refine⟨fun _=>?_,fun _=>?_⟩ <;> first | (exfalso;omega) | skip) | (rw[eu];refine⟨fun _=>?_,fun _=>?_⟩) | skip)
       · have hd:=hb ‹_›;obtain⟨d',rfl⟩:∃d',d=d'+1:=⟨d - 1,by omega⟩;refine w0 ?_;refine fD rfl ?_;refine ws ?_;refine wE (rq _) ?_;refine wb ?_ <;> intros
         refine wE (jZ ⟨#[97]⟩ ⟨2,0,⟨#[120]⟩,[]⟩) ?_;refine wb ?_ <;> intros
         refine wo hR (rw_ (nR 4 ⟨#[109]⟩ bE [] ⟨0,0,bE,[]⟩ [nR 9 ⟨#[99]⟩ bE [] ⟨0,0,bE,[]⟩ [] [],nR 1 ⟨#[97]⟩ bE [] ⟨2,0,⟨#[120]⟩,[]⟩ [] []] [])) (m1.og xs k1) [0,1,2,2] [] ?_;exact⟨.blk .m [.sig .wait,.asg .a (.leaf (.var .x))],m1,k1,⟨⟨by decide,by simp only[Sm.body,List.forall_mem_cons];exact⟨dY rfl rfl d',dY rfl rfl d',by simp⟩⟩,Nat.zero_le _,fun _ h=>by cases h⟩,hm2,hk1,by rw[dJ];rfl,rfl⟩
       refine w0 ?_;refine fQ (fun b:Bool=>QP d q nb b 258) (fun _=>m1.os3 xs k1) (fun b=>b=true→0 < d) ?_ (fun b hb=>?_)
       · refine wb (A2.mk ?_ (A2.mk ?_ ?_)) <;> intros
         all_goals first
          | exact ai ⟨false,(fun h=>by cases h),vm [0,1,2,3]⟩
          | skip
         all_goals
          refine wq (oO xs k1 m1 ⟨#[109]⟩ (by omega)) [0,1,2] ?_;rintro r g ⟨⟨hb,rfl⟩,rfl⟩;refine wb ?_ <;> intros
          exact ai ⟨!hb,(fun _=>hnb ‹_›),vm [0,1,2,3]⟩
       refine ws ?_
       (refine gV rfl ?_;refine ws ?_;first | (refine⟨fun _=>?_,fun _=>?_⟩ <;> first | (exfalso;omega) | skip) | (rw[eu];refine⟨fun _=>?_,fun _=>?_⟩) | skip)
       · have hd:=hb ‹_›;obtain⟨d',rfl⟩:∃d',d=d'+1:=⟨d - 1,by omega⟩;refine w0 ?_;refine fD rfl ?_;refine ws ?_;refine wq (eU xs k1 2 hx hk1 (by decide) (by decide)) [1] ?_;rintro r g ⟨rfl,k2,hk2,rfl⟩;have hn2:=jM xs k1 (n:=2) (by decide);have h10:(10:Int)+FN xs k1 2=10∨(10:Int)+FN xs k1 2=11:=by omega
         refine wb ?_ <;> intros
         refine wo hR (rw_ (nR 4 ⟨#[109]⟩ bE [] ⟨0,0,bE,[]⟩ [nR (10+(FN xs k1 2:Int)) ⟨#[99]⟩ bE [] ⟨0,0,bE,[]⟩ [] []] [])) (m1.og xs k2) [0,1,2,2] [] ?_;rcases h10 with h10 | h10
         · exact⟨.blk .m [.sig .one],m1,k2,⟨⟨by decide,by simp only[Sm.body,List.forall_mem_cons];exact⟨dY rfl rfl d',by simp⟩⟩,Nat.zero_le _,fun _ h=>by cases h⟩,hm2,hk2,by rw[dJ,h10];rfl,rfl⟩
         · exact⟨.blk .m [.sig .all],m1,k2,⟨⟨by decide,by simp only[Sm.body,List.forall_mem_cons];exact⟨dY rfl rfl d',by simp⟩⟩,Nat.zero_le _,fun _ h=>by cases h⟩,hm2,hk2,by rw[dJ,h10];rfl,rfl⟩
       refine w0 ?_;refine fQ (fun b:Bool=>QP d q nb b 278) (fun _=>m1.os3 xs k1) (fun _=>k1≤xs.length) ?_ (fun b _=>?_)
       · refine wb (A2.mk ?_ (A2.mk ?_ (A2.mk ?_ ?_))) <;> intros
         all_goals first
          | exact ai ⟨false,hk1,vm [0,1,2,3]⟩
          | exact ai ⟨!m1.set,hk1,vm [0,1,2,3]⟩
       refine ws ?_
       (refine gV rfl ?_;refine ws ?_;first | (refine⟨fun _=>?_,fun _=>?_⟩ <;> first | (exfalso;omega) | skip) | (rw[eu];refine⟨fun _=>?_,fun _=>?_⟩) | skip)
       · refine wb ?_ <;> intros
         refine wq (lV xs k1 { m1 with set:=true } hx hk1) [0,1,2] ?_;rintro r g ⟨e,k2,he,hk2,rfl,rfl⟩;obtain⟨x,rfl⟩:=he.of;refine wb ?_ <;> intros
         refine wo hR (rw_ (nR 14 ⟨#[102]⟩ bE [] (qX x) [] [])) (MS.og { m1 with set:=true } xs k2) [0,1,2,2] [] ?_;exact⟨.set x,{ m1 with set:=true },k2,dY rfl rfl d,hm2,hk2,rfl,rfl⟩
       refine w0 ?_;refine fQ (fun t:Bool×Nat=>QP d q nb t.1 308) (fun t=>m1.os3 xs t.2) (fun t=>t.2≤xs.length) ?_ (fun ⟨b,k2⟩ hk2=>?_)
       · refine wb (A2.mk ?_ (A2.mk ?_ ?_)) <;> intros
         all_goals first
          | exact ai ⟨(false,k1),hk1,vm [0,1,2,3]⟩
          | skip
         refine wq (eU xs k1 2 hx hk1 (by decide) (by decide)) [1] ?_;rintro r g ⟨rfl,k2,hk2,rfl⟩;refine wb ?_ <;> intros
         exact ai ⟨(decide ((FN xs k1 2:Int)=1),k2),hk2,vm [0,1,2,3]⟩
       dsimp only at hk2;refine ws ?_
       (refine gV rfl ?_;refine ws ?_;first | (refine⟨fun _=>?_,fun _=>?_⟩ <;> first | (exfalso;omega) | skip) | (rw[eu];refine⟨fun _=>?_,fun _=>?_⟩) | skip)
       · refine wb ?_ <;> intros
         refine wo hR (rw_ (nR 15 ⟨#[97]⟩ ⟨#[102]⟩ [] ⟨0,0,bE,[]⟩ [] [])) (m1.og xs k2) [0,1,2,2] [] ?_;exact⟨.get,m1,k2,dY rfl rfl d,hm2,hk2,rfl,rfl⟩
       refine wb ?_ <;> intros
       refine wq (lV xs k2 m1 hx hk2) [0,1,2] ?_;rintro r g ⟨e,k3,he,hk3,rfl,rfl⟩;obtain⟨x,rfl⟩:=he.of;refine wb ?_ <;> intros
       refine wE (jZ ⟨#[120]⟩ (qX x)) ?_;refine wb ?_ <;> intros
       refine wo hR (rw_ (nR 1 ⟨#[120]⟩ bE [] (qX x) [] [])) (m1.og xs k3) [0,1,2,2] [] ?_;exact⟨.asg .x x,m1,k3,dY rfl rfl d,hm2,hk3,rfl,rfl⟩
