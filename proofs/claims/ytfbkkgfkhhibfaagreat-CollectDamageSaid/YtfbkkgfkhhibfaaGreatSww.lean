/- Words. -/
import Derived.Test.YtfbkkgfkhhibfaaGreatUnR
set_option linter.unusedVariables false
set_option maxRecDepth 100000
set_option maxHeartbeats 8000000
namespace Go.Proofs.YtfbkkgfkhhibfaaGreat
open Go Go.RowKit Iv
structure In1 (w:World)(B sz bytes:Nat)(A:Option Addr)(n c:Nat)(X:List Value):Prop where
 lies:Lies w B sz A n X
 none_:A=none->c=0
 one:∀u∈X,u.oneCell'=true
 cap:n<=maxLen
 bytes_:n*bytes<=140737488355328
theorem In1.grown {w w':World}{B sz bytes n c:Nat}{A:Option Addr}{X:List Value}(h:In1 w B sz bytes A n c X)(hg:w.grownBy w' none)(hB:B<=w.heap.size):In1 w' B sz bytes A n c X:=
 ⟨h.lies.grown hg hB nofun,h.none_,h.one,h.cap,h.bytes_⟩
def AtCell (X:List Value)(k:Nat):Prop:=∃(s:ByteArray) (a b:Int) (d:Bool) (e:Int),X[k*5+0]?=some (.string s)/\X[k*5+1]?=some (.int .i64 a)/\X[k*5+2]?=some (.int .i64 b)/\X[k*5+3]?=some (.bool d)/\X[k*5+4]?=some (.int .i64 e)
def AtLock (X:List Value)(k:Nat):Prop:=∃(s:ByteArray) (d:Bool),X[k*2+0]?=some (.string s)/\X[k*2+1]?=some (.bool d)
def AtCond (X:List Value)(k:Nat):Prop:=∃(s:ByteArray) (a:Int),X[k*2+0]?=some (.string s)/\X[k*2+1]?=some (.int .i64 a)
def AtStr (X:List Value)(k:Nat):Prop:=∃(s:ByteArray),X[k*1+0]?=some (.string s)
def AtSite (X:List Value)(k:Nat):Prop:=∃(a b e:Int),X[k*3+0]?=some (.int .i64 a)/\X[k*3+1]?=some (.int .i64 b)/\X[k*3+2]?=some (.int .i64 e)
structure WIn (w:World)(B:Nat)(A0:Option Addr)(n0 c0:Nat)(X0:List Value)(A1:Option Addr)(n1 c1:Nat)(X1:List Value)(A2:Option Addr)(n2 c2:Nat)(X2:List Value)(A3:Option Addr)(n3 c3:Nat)(X3:List Value)(A4:Option Addr)(n4 c4:Nat)(X4:List Value)(A5:Option Addr)(n5 c5:Nat)(X5:List Value):Prop where
 h0:In1 w B 5 48 A0 n0 c0 X0
 h1:In1 w B 2 24 A1 n1 c1 X1
 h2:In1 w B 2 24 A2 n2 c2 X2
 h3:In1 w B 1 16 A3 n3 c3 X3
 h4:In1 w B 1 16 A4 n4 c4 X4
 h5:In1 w B 3 24 A5 n5 c5 X5
 s0:∀k,k<n0->AtCell X0 k
 s1:∀k,k<n1->AtLock X1 k
 s2:∀k,k<n2->AtCond X2 k
 s3:∀k,k<n3->AtStr X3 k
 s4:∀k,k<n4->AtStr X4 k
 s5:∀k,k<n5->AtSite X5 k
 a0:0<n0->∃b o,A0=some ⟨b,o,none⟩
 a1:0<n1->∃b o,A1=some ⟨b,o,none⟩
 a2:0<n2->∃b o,A2=some ⟨b,o,none⟩
 a3:0<n3->∃b o,A3=some ⟨b,o,none⟩
 a4:0<n4->∃b o,A4=some ⟨b,o,none⟩
 a5:0<n5->∃b o,A5=some ⟨b,o,none⟩
theorem WIn.grown {w w':World}{B:Nat}{A0:Option Addr}{n0 c0:Nat}{X0:List Value}{A1:Option Addr}{n1 c1:Nat}{X1:List Value}{A2:Option Addr}{n2 c2:Nat}{X2:List Value}{A3:Option Addr}{n3 c3:Nat}{X3:List Value}{A4:Option Addr}{n4 c4:Nat}{X4:List Value}{A5:Option Addr}{n5 c5:Nat}{X5:List Value}(h:WIn w B A0 n0 c0 X0 A1 n1 c1 X1 A2 n2 c2 X2 A3 n3 c3 X3 A4 n4 c4 X4 A5 n5 c5 X5)(hg:w.grownBy w' none)(hB:B<=w.heap.size):WIn w' B A0 n0 c0 X0 A1 n1 c1 X1 A2 n2 c2 X2 A3 n3 c3 X3 A4 n4 c4 X4 A5 n5 c5 X5:=
 ⟨h.h0.grown hg hB,h.h1.grown hg hB,h.h2.grown hg hB,h.h3.grown hg hB,h.h4.grown hg hB,h.h5.grown hg hB,h.s0,h.s1,h.s2,h.s3,h.s4,h.s5,h.a0,h.a1,h.a2,h.a3,h.a4,h.a5⟩
theorem In1.more {w:World}{B a sz bytes n c:Nat}{A:Option Addr}{X:List Value}(h:In1 w B sz bytes A n c X)(hB:B<=a):In1 w a sz bytes A n c X:=⟨h.lies.more hB,h.none_,h.one,h.cap,h.bytes_⟩
theorem WIn.more {w:World}{B a:Nat}{A0:Option Addr}{n0 c0:Nat}{X0:List Value}{A1:Option Addr}{n1 c1:Nat}{X1:List Value}{A2:Option Addr}{n2 c2:Nat}{X2:List Value}{A3:Option Addr}{n3 c3:Nat}{X3:List Value}{A4:Option Addr}{n4 c4:Nat}{X4:List Value}{A5:Option Addr}{n5 c5:Nat}{X5:List Value}(h:WIn w B A0 n0 c0 X0 A1 n1 c1 X1 A2 n2 c2 X2 A3 n3 c3 X3 A4 n4 c4 X4 A5 n5 c5 X5)(hB:B<=a):WIn w a A0 n0 c0 X0 A1 n1 c1 X1 A2 n2 c2 X2 A3 n3 c3 X3 A4 n4 c4 X4 A5 n5 c5 X5:=
 ⟨h.h0.more hB,h.h1.more hB,h.h2.more hB,h.h3.more hB,h.h4.more hB,h.h5.more hB,h.s0,h.s1,h.s2,h.s3,h.s4,h.s5,h.a0,h.a1,h.a2,h.a3,h.a4,h.a5⟩
structure Two (w:World)(B sz:Nat)(A A':Option Addr)(n:Nat)(X:List Value):Prop where
 l:Lies w B sz A n X
 l':Lies w B sz A' n X
 a:0<n->∃b o,A=some ⟨b,o,none⟩
 a':0<n->∃b o,A'=some ⟨b,o,none⟩
theorem Two.grown {w w':World}{B sz n:Nat}{A A':Option Addr}{X:List Value}(h:Two w B sz A A' n X)(hg:w.grownBy w' none)(hB:B<=w.heap.size):Two w' B sz A A' n X:=
 ⟨h.l.grown hg hB nofun,h.l'.grown hg hB nofun,h.a,h.a'⟩
theorem YR (b o m:Nat):(⟨b,o,none⟩:Addr).add m=⟨b,o+m,none⟩:=by cases m<;>simp[Addr.add]
theorem Two.at {w:World}{B sz n k:Nat}{A A':Option Addr}{X:List Value}(h:Two w B sz A A' n X)(hk:k<n)(hs:0<sz):
 ∃b o q o',A=some ⟨b,o,none⟩/\A'=some ⟨q,o',none⟩/\(∀j u,X[k*sz+j]?=some u->w.cell? ⟨b,o+k*sz+j,none⟩=some u)/\(∀j u,X[k*sz+j]?=some u->w.cell? ⟨q,o'+k*sz+j,none⟩=some u):=by obtain⟨b,o,rfl⟩:=h.a (by omega);obtain⟨q,o',rfl⟩:=h.a' (by omega);obtain⟨G,e1,_,c⟩:=h.l.2 (by omega);obtain⟨D,d,_,E⟩:=h.l'.2 (by omega);injection e1 with e1;injection d with d;subst e1 d;exact⟨b,o,q,o',rfl,rfl,λj u y=>by rw[lW,<-YR];exact c _ u y,λj u y=>by rw[lW,<-YR];exact E _ u y⟩
theorem Gw (w:World)(B:Nat)(A0 Rf:Option Addr)(n0 c0 M:Nat)(X0:List Value)(A1 Rh:Option Addr)(n1 c1 N:Nat)(X1:List Value)(A2 Ri:Option Addr)(n2 c2 O:Nat)(X2:List Value)(A3 Rj:Option Addr)(n3 c3 R:Nat)(X3:List Value)(A4 Rk:Option Addr)(n4 c4 DY:Nat)(X4:List Value)(A5 Rl:Option Addr)(n5 c5 Bg:Nat)(X5:List Value)(h0:Two w B 5 A0 Rf n0 X0)(h1:Two w B 2 A1 Rh n1 X1)(h2:Two w B 2 A2 Ri n2 X2)(h3:Two w B 1 A3 Rj n3 X3)(h4:Two w B 1 A4 Rk n4 X4)(h5:Two w B 3 A5 Rl n5 X5)(s0:∀k,k<n0->AtCell X0 k)(s1:∀k,k<n1->AtLock X1 k)(s2:∀k,k<n2->AtCond X2 k)(s3:∀k,k<n3->AtStr X3 k)(s4:∀k,k<n4->AtStr X4 k)(s5:∀k,k<n5->AtSite X5 k)(hB:B<=w.heap.size)(m0:n0<=9000000000000000)(m1:n1<=9000000000000000)(m2:n2<=9000000000000000)(m3:n3<=9000000000000000)(m4:n4<=9000000000000000)(m5:n5<=9000000000000000):
 Calls Tryz.prog 40 #[.agg #[.slice A0 n0 c0,.slice A1 n1 c1,.slice A2 n2 c2,.slice A3 n3 c3,.slice A4 n4 c4,.slice A5 n5 c5],.agg #[.slice Rf n0 M,.slice Rh n1 N,.slice Ri n2 O,.slice Rj n3 R,.slice Rk n4 DY,.slice Rl n5 Bg]] w λe w'=>e= .returned (.bool true)/\w.grownBy w' none:=by
 obtain⟨W,hW⟩:∃W,W=(w.alloc (.cells #[.slice A0 n0 c0,.slice A1 n1 c1,.slice A2 n2 c2,.slice A3 n3 c3,.slice A4 n4 c4,.slice A5 n5 c5] 31)).alloc (.cells #[.slice Rf n0 M,.slice Rh n1 N,.slice Ri n2 O,.slice Rj n3 R,.slice Rk n4 DY,.slice Rl n5 Bg] 31):=⟨_,rfl⟩;have hg:w.grownBy W none:=(by rw[hW];exact af (aP w _ none) (aP _ _ none) (.inl rfl));have al:Held W w.heap.size 31 #[.slice A0 n0 c0,.slice A1 n1 c1,.slice A2 n2 c2,.slice A3 n3 c3,.slice A4 n4 c4,.slice A5 n5 c5]:=(by rw[hW];exact (Held.new w _ _).alloc _);have an:Held W (w.heap.size+1) 31 #[.slice Rf n0 M,.slice Rh n1 N,.slice Ri n2 O,.slice Rj n3 R,.slice Rk n4 DY,.slice Rl n5 Bg]:=(by rw[hW];have:=Held.new (w.alloc (.cells #[.slice A0 n0 c0,.slice A1 n1 c1,.slice A2 n2 c2,.slice A3 n3 c3,.slice A4 n4 c4,.slice A5 n5 c5] 31)) 31 #[.slice Rf n0 M,.slice Rh n1 N,.slice Ri n2 O,.slice Rj n3 R,.slice Rk n4 DY,.slice Rl n5 Bg];rwa [gY] at this);have a6:=ae al;have a7:=ae an;have HG:=ae hg;have H0:=ae (h0.grown hg hB);have S0:=ae s0;have q0:((n0:Int) !=(n0:Int))=false:=(by simp);have H1:=ae (h1.grown hg hB);have S1:=ae s1;have q1:((n1:Int) !=(n1:Int))=false:=(by simp);have H2:=ae (h2.grown hg hB);have S2:=ae s2;have q2:((n2:Int) !=(n2:Int))=false:=(by simp);have H3:=ae (h3.grown hg hB);have S3:=ae s3;have q3:((n3:Int) !=(n3:Int))=false:=(by simp);have H4:=ae (h4.grown hg hB);have S4:=ae s4;have q4:((n4:Int) !=(n4:Int))=false:=(by simp);have H5:=ae (h5.grown hg hB);have S5:=ae s5;have q5:((n5:Int) !=(n5:Int))=false:=(by simp);have HW:=ae hW;clear hW al an hg h0 h1 h2 h3 h4 h5 s0 s1 s2 s3 s4 s5;go_enter Tryz.func40,Tryz.ntmps40;go_wp2_with fail;rw[show (w.alloc (.cells #[.slice A0 n0 c0,.slice A1 n1 c1,.slice A2 n2 c2,.slice A3 n3 c3,.slice A4 n4 c4,.slice A5 n5 c5] 31)).alloc (.cells #[.slice Rf n0 M,.slice Rh n1 N,.slice Ri n2 O,.slice Rj n3 R,.slice Rk n4 DY,.slice Rl n5 Bg] 31)=W from HW.o.symm];go_loopw [5] (λiv wr=>∃k q:Nat,iv= .int .i64 (k:Int)/\k<=n0/\wr=W.drewN q) (λiv _=>n0-(intOf iv).toNat)
 case atStart=>exact ⟨0,0,rfl,ay _,rfl⟩
 case round=>
  obtain⟨k,Y,rfl,hk,rfl⟩:=hrel;have e0:(W.drewN Y).cell? ⟨w.heap.size,0,none⟩=some (.slice A0 n0 c0):=a6.o.cell 0;have f0:(W.drewN Y).cell? ⟨w.heap.size+1,0,none⟩=some (.slice Rf n0 M):=a7.o.cell 0;by_cases u:k<n0
  . obtain⟨gb,go,a,d,hA,G,y,D⟩:=H0.o.at u (by omega);obtain⟨E,Z,b_,d_,e_,H,U,x2,x3,x4⟩:=S0.o k u;have YS:(W.drewN Y).cell? ⟨gb,go+k*5,none⟩=some (.string E):=(by simpa using y 0 _ H);have YT:(W.drewN Y).cell? ⟨a,d+k*5,none⟩=some (.string E):=(by simpa using D 0 _ H);have V:(W.drewN Y).cell? ⟨gb,go+k*5+1,none⟩=some (.int .i64 Z):=(by simpa using y 1 _ U);have X:(W.drewN Y).cell? ⟨a,d+k*5+1,none⟩=some (.int .i64 Z):=(by simpa using D 1 _ U);have ab:(W.drewN Y).cell? ⟨gb,go+k*5+2,none⟩=some (.int .i64 b_):=(by simpa using y 2 _ x2);have ad:(W.drewN Y).cell? ⟨a,d+k*5+2,none⟩=some (.int .i64 b_):=(by simpa using D 2 _ x2);have ao:(W.drewN Y).cell? ⟨gb,go+k*5+3,none⟩=some (.bool d_):=(by simpa using y 3 _ x3);have aq:(W.drewN Y).cell? ⟨a,d+k*5+3,none⟩=some (.bool d_):=(by simpa using D 3 _ x3);have ar:(W.drewN Y).cell? ⟨gb,go+k*5+4,none⟩=some (.int .i64 e_):=(by simpa using y 4 _ x4);have av:(W.drewN Y).cell? ⟨a,d+k*5+4,none⟩=some (.int .i64 e_):=(by simpa using D 4 _ x4);have i0:(0:Int)<=(k:Int):=(by omega);have i1:(k:Int)<(n0:Int):=(by omega);clear y D H U x2 x3 x4;subst hA G;go_upto_region 6 with fail;go_region_held3 (λw'=>w'.cell? ⟨w.heap.size,0,none⟩=some (.slice (some ⟨gb,go,none⟩) n0 c0)/\w'.cell? ⟨w.heap.size+1,0,none⟩=some (.slice (some ⟨a,d,none⟩) n0 M)/\w'.cell? ⟨gb,go+k*5,none⟩=some (.string E)/\w'.cell? ⟨a,d+k*5,none⟩=some (.string E)/\w'.cell? ⟨gb,go+k*5+1,none⟩=some (.int .i64 Z)/\w'.cell? ⟨a,d+k*5+1,none⟩=some (.int .i64 Z)/\w'.cell? ⟨gb,go+k*5+2,none⟩=some (.int .i64 b_)/\w'.cell? ⟨a,d+k*5+2,none⟩=some (.int .i64 b_)/\w'.cell? ⟨gb,go+k*5+3,none⟩=some (.bool d_)/\w'.cell? ⟨a,d+k*5+3,none⟩=some (.bool d_)/\w'.cell? ⟨gb,go+k*5+4,none⟩=some (.int .i64 e_)/\w'.cell? ⟨a,d+k*5+4,none⟩=some (.int .i64 e_)) (first|exact⟨e0,f0,YS,YT,V,X,ab,ad,ao,aq,ar,av⟩|fail) (first|fail);go_wp2_with fail;go_roundw
    case rel=>exact ⟨k+1,Y+1,by go_num,by omega,rfl⟩
    case measure=>simp [intOf];omega
  . obtain rfl:k=n0:=(by omega);go_wp2_with fail;go_loopw [6] (λiv wr=>∃k q:Nat,iv= .int .i64 (k:Int)/\k<=n1/\wr=W.drewN q) (λiv _=>n1-(intOf iv).toNat)
    case atStart=>exact ⟨0,Y,rfl,ay _,rfl⟩
    case round=>
     obtain⟨k,J,rfl,hk,rfl⟩:=hrel;have e1:(W.drewN J).cell? ⟨w.heap.size,1,none⟩=some (.slice A1 n1 c1):=a6.o.cell 1;have f1:(W.drewN J).cell? ⟨w.heap.size+1,1,none⟩=some (.slice Rh n1 N):=a7.o.cell 1;by_cases u:k<n1
     . obtain⟨gb,go,a,d,hA,G,y,D⟩:=H1.o.at u (by omega);obtain⟨E,d_,H,U⟩:=S1.o k u;have YS:(W.drewN J).cell? ⟨gb,go+k*2,none⟩=some (.string E):=(by simpa using y 0 _ H);have YT:(W.drewN J).cell? ⟨a,d+k*2,none⟩=some (.string E):=(by simpa using D 0 _ H);have V:(W.drewN J).cell? ⟨gb,go+k*2+1,none⟩=some (.bool d_):=(by simpa using y 1 _ U);have X:(W.drewN J).cell? ⟨a,d+k*2+1,none⟩=some (.bool d_):=(by simpa using D 1 _ U);have i0:(0:Int)<=(k:Int):=(by omega);have i1:(k:Int)<(n1:Int):=(by omega);clear y D H U;subst hA G;go_upto_region 11 with fail;go_region_held3 (λw'=>w'.cell? ⟨w.heap.size,1,none⟩=some (.slice (some ⟨gb,go,none⟩) n1 c1)/\w'.cell? ⟨w.heap.size+1,1,none⟩=some (.slice (some ⟨a,d,none⟩) n1 N)/\w'.cell? ⟨gb,go+k*2,none⟩=some (.string E)/\w'.cell? ⟨a,d+k*2,none⟩=some (.string E)/\w'.cell? ⟨gb,go+k*2+1,none⟩=some (.bool d_)/\w'.cell? ⟨a,d+k*2+1,none⟩=some (.bool d_)) (first|exact⟨e1,f1,YS,YT,V,X⟩|fail) (first|fail);go_wp2_with fail;go_roundw
       case rel=>exact ⟨k+1,J+1,by go_num,by omega,rfl⟩
       case measure=>simp [intOf];omega
     . obtain rfl:k=n1:=(by omega);go_wp2_with fail;go_loopw [7] (λiv wr=>∃k q:Nat,iv= .int .i64 (k:Int)/\k<=n2/\wr=W.drewN q) (λiv _=>n2-(intOf iv).toNat)
       case atStart=>exact ⟨0,J,rfl,ay _,rfl⟩
       case round=>
        obtain⟨k,L,rfl,hk,rfl⟩:=hrel;have e2:(W.drewN L).cell? ⟨w.heap.size,2,none⟩=some (.slice A2 n2 c2):=a6.o.cell 2;have f2:(W.drewN L).cell? ⟨w.heap.size+1,2,none⟩=some (.slice Ri n2 O):=a7.o.cell 2;by_cases u:k<n2
        . obtain⟨gb,go,a,d,hA,G,y,D⟩:=H2.o.at u (by omega);obtain⟨E,Z,H,U⟩:=S2.o k u;have YS:(W.drewN L).cell? ⟨gb,go+k*2,none⟩=some (.string E):=(by simpa using y 0 _ H);have YT:(W.drewN L).cell? ⟨a,d+k*2,none⟩=some (.string E):=(by simpa using D 0 _ H);have V:(W.drewN L).cell? ⟨gb,go+k*2+1,none⟩=some (.int .i64 Z):=(by simpa using y 1 _ U);have X:(W.drewN L).cell? ⟨a,d+k*2+1,none⟩=some (.int .i64 Z):=(by simpa using D 1 _ U);have i0:(0:Int)<=(k:Int):=(by omega);have i1:(k:Int)<(n2:Int):=(by omega);clear y D H U;subst hA G;go_upto_region 16 with fail;go_region_held3 (λw'=>w'.cell? ⟨w.heap.size,2,none⟩=some (.slice (some ⟨gb,go,none⟩) n2 c2)/\w'.cell? ⟨w.heap.size+1,2,none⟩=some (.slice (some ⟨a,d,none⟩) n2 O)/\w'.cell? ⟨gb,go+k*2,none⟩=some (.string E)/\w'.cell? ⟨a,d+k*2,none⟩=some (.string E)/\w'.cell? ⟨gb,go+k*2+1,none⟩=some (.int .i64 Z)/\w'.cell? ⟨a,d+k*2+1,none⟩=some (.int .i64 Z)) (first|exact⟨e2,f2,YS,YT,V,X⟩|fail) (first|fail);go_wp2_with fail;go_roundw
          case rel=>exact ⟨k+1,L+1,by go_num,by omega,rfl⟩
          case measure=>simp [intOf];omega
        . obtain rfl:k=n2:=(by omega);go_wp2_with fail;go_loopw [8] (λiv wr=>∃k q:Nat,iv= .int .i64 (k:Int)/\k<=n3/\wr=W.drewN q) (λiv _=>n3-(intOf iv).toNat)
          case atStart=>exact ⟨0,L,rfl,ay _,rfl⟩
          case round=>
           obtain⟨k,a8,rfl,hk,rfl⟩:=hrel;have e3:(W.drewN a8).cell? ⟨w.heap.size,3,none⟩=some (.slice A3 n3 c3):=a6.o.cell 3;have f3:(W.drewN a8).cell? ⟨w.heap.size+1,3,none⟩=some (.slice Rj n3 R):=a7.o.cell 3;by_cases u:k<n3
           . obtain⟨gb,go,a,d,hA,G,y,D⟩:=H3.o.at u (by omega);obtain⟨E,H⟩:=S3.o k u;have YS:(W.drewN a8).cell? ⟨gb,go+k,none⟩=some (.string E):=(by simpa using y 0 _ H);have YT:(W.drewN a8).cell? ⟨a,d+k,none⟩=some (.string E):=(by simpa using D 0 _ H);have i0:(0:Int)<=(k:Int):=(by omega);have i1:(k:Int)<(n3:Int):=(by omega);clear y D H;subst hA G;go_upto_region 21 with fail;go_region_held3 (λw'=>w'.cell? ⟨w.heap.size,3,none⟩=some (.slice (some ⟨gb,go,none⟩) n3 c3)/\w'.cell? ⟨w.heap.size+1,3,none⟩=some (.slice (some ⟨a,d,none⟩) n3 R)/\w'.cell? ⟨gb,go+k,none⟩=some (.string E)/\w'.cell? ⟨a,d+k,none⟩=some (.string E)) (first|exact⟨e3,f3,YS,YT⟩|fail) (first|fail);go_wp2_with fail;go_roundw
             case rel=>exact ⟨k+1,a8+1,by go_num,by omega,rfl⟩
             case measure=>simp [intOf];omega
           . obtain rfl:k=n3:=(by omega);go_wp2_with fail;go_loopw [9] (λiv wr=>∃k q:Nat,iv= .int .i64 (k:Int)/\k<=n4/\wr=W.drewN q) (λiv _=>n4-(intOf iv).toNat)
             case atStart=>exact ⟨0,a8,rfl,ay _,rfl⟩
             case round=>
              obtain⟨k,aa,rfl,hk,rfl⟩:=hrel;have e4:(W.drewN aa).cell? ⟨w.heap.size,4,none⟩=some (.slice A4 n4 c4):=a6.o.cell 4;have f4:(W.drewN aa).cell? ⟨w.heap.size+1,4,none⟩=some (.slice Rk n4 DY):=a7.o.cell 4;by_cases u:k<n4
              . obtain⟨gb,go,a,d,hA,G,y,D⟩:=H4.o.at u (by omega);obtain⟨E,H⟩:=S4.o k u;have YS:(W.drewN aa).cell? ⟨gb,go+k,none⟩=some (.string E):=(by simpa using y 0 _ H);have YT:(W.drewN aa).cell? ⟨a,d+k,none⟩=some (.string E):=(by simpa using D 0 _ H);have i0:(0:Int)<=(k:Int):=(by omega);have i1:(k:Int)<(n4:Int):=(by omega);clear y D H;subst hA G;go_upto_region 26 with fail;go_region_held3 (λw'=>w'.cell? ⟨w.heap.size,4,none⟩=some (.slice (some ⟨gb,go,none⟩) n4 c4)/\w'.cell? ⟨w.heap.size+1,4,none⟩=some (.slice (some ⟨a,d,none⟩) n4 DY)/\w'.cell? ⟨gb,go+k,none⟩=some (.string E)/\w'.cell? ⟨a,d+k,none⟩=some (.string E)) (first|exact⟨e4,f4,YS,YT⟩|fail) (first|fail);go_wp2_with fail;go_roundw
                case rel=>exact ⟨k+1,aa+1,by go_num,by omega,rfl⟩
                case measure=>simp [intOf];omega
              . obtain rfl:k=n4:=(by omega);go_wp2_with fail;go_loopw [10] (λiv wr=>∃k q:Nat,iv= .int .i64 (k:Int)/\k<=n5/\wr=W.drewN q) (λiv _=>n5-(intOf iv).toNat)
                case atStart=>exact ⟨0,aa,rfl,ay _,rfl⟩
                case round=>
                 obtain⟨k,I,rfl,hk,rfl⟩:=hrel;have e5:(W.drewN I).cell? ⟨w.heap.size,5,none⟩=some (.slice A5 n5 c5):=a6.o.cell 5;have f5:(W.drewN I).cell? ⟨w.heap.size+1,5,none⟩=some (.slice Rl n5 Bg):=a7.o.cell 5;by_cases u:k<n5
                 . obtain⟨gb,go,a,d,hA,G,y,D⟩:=H5.o.at u (by omega);obtain⟨Z,b_,e_,H,U,x2⟩:=S5.o k u;have YS:(W.drewN I).cell? ⟨gb,go+k*3,none⟩=some (.int .i64 Z):=(by simpa using y 0 _ H);have YT:(W.drewN I).cell? ⟨a,d+k*3,none⟩=some (.int .i64 Z):=(by simpa using D 0 _ H);have V:(W.drewN I).cell? ⟨gb,go+k*3+1,none⟩=some (.int .i64 b_):=(by simpa using y 1 _ U);have X:(W.drewN I).cell? ⟨a,d+k*3+1,none⟩=some (.int .i64 b_):=(by simpa using D 1 _ U);have ab:(W.drewN I).cell? ⟨gb,go+k*3+2,none⟩=some (.int .i64 e_):=(by simpa using y 2 _ x2);have ad:(W.drewN I).cell? ⟨a,d+k*3+2,none⟩=some (.int .i64 e_):=(by simpa using D 2 _ x2);have i0:(0:Int)<=(k:Int):=(by omega);have i1:(k:Int)<(n5:Int):=(by omega);clear y D H U x2;subst hA G;go_upto_region 31 with fail;go_region_held3 (λw'=>w'.cell? ⟨w.heap.size,5,none⟩=some (.slice (some ⟨gb,go,none⟩) n5 c5)/\w'.cell? ⟨w.heap.size+1,5,none⟩=some (.slice (some ⟨a,d,none⟩) n5 Bg)/\w'.cell? ⟨gb,go+k*3,none⟩=some (.int .i64 Z)/\w'.cell? ⟨a,d+k*3,none⟩=some (.int .i64 Z)/\w'.cell? ⟨gb,go+k*3+1,none⟩=some (.int .i64 b_)/\w'.cell? ⟨a,d+k*3+1,none⟩=some (.int .i64 b_)/\w'.cell? ⟨gb,go+k*3+2,none⟩=some (.int .i64 e_)/\w'.cell? ⟨a,d+k*3+2,none⟩=some (.int .i64 e_)) (first|exact⟨e5,f5,YS,YT,V,X,ab,ad⟩|fail) (first|fail);go_wp2_with fail;go_roundw
                   case rel=>exact ⟨k+1,I+1,by go_num,by omega,rfl⟩
                   case measure=>simp [intOf];omega
                 . obtain rfl:k=n5:=(by omega);go_wp2_with fail;go_ret;exact⟨rfl,aH HG.o _⟩
