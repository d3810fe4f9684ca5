/- Words. -/
import Derived.Test.YtfbkkgfkhhibfaaGreatSrt
import Derived.Deep.Cut
import Derived.Deep.DeepCutAuto
set_option linter.unusedVariables false
set_option maxRecDepth 100000
set_option maxHeartbeats 8000000
namespace Go.Proofs.YtfbkkgfkhhibfaaGreat
open Go Go.Shelf Go.RowKit Go.Lib Go.Sort Iv
variable {P : Program} {α : Type} [Inhabited α]
theorem Gv {k:Nat}(L:SortLays P k)(enc:α->List Value)(cf:α->α->Int)(hO:SWO (ltOf cf))(g:Nat)(cb:Array Value)(blk off cap a b:Nat)(y d:Array α)(w0 w:World)
 (eg:∀args w,(callFunc g args).run P w= .ok (.enter g args) w) (G:CmpLays P g cb enc k cf blk off y.size w0)
 (R:RowK enc k w0 blk off y) (hs:d.size=y.size) (S:SWK enc k w0 blk off d w) (av:a+1<b) (hb:b<=y.size) (aw:y.size<1000000000) (hr:SortedIn (ltOf cf) (a+1) b d):
 Calls P 88 #[.slice (some ⟨blk,off,none⟩) y.size cap,.int .i64 a,.int .i64 ((a:Int)+1),.int .i64 b,.func (.func g) #[] cb] w λe w'=>e= .returned (.tuple #[])/\∃d',d'.size=y.size/\PermIn a b d d'/\SortedIn (ltOf cf) a b d'/\SWK enc k w0 blk off d' w':=by
 have mixed:=L.mixed;have t0:=L.t0;have a0:=L.a0;have z0:=L.z0;have v0:=L.v0;have t3:=L.t3;have a3:=L.a3;have z3:=L.z3;have v3:=L.v3;have t4:=L.t4;have a4:=L.a4;have z4:=L.z4;have v4:=L.v4;have t36:=L.t36;have a36:=L.a36;have z36:=L.z36;have v36:=L.v36;have t124:=L.t124;have a124:=L.a124;have z124:=L.z124;have v124:=L.v124;have t96:=L.t96;have a96:=L.a96;have z96:=L.z96;have v96:=L.v96;have aE:=L.aE;have zE:=L.zE;have u36:=jF L.t36;have HC:Aside _:=G;have S0:Aside (SWK enc k w0 blk off d w):=S;have HR:=ae hr;clear S G hr;have i1:IntKind.i64.wrap ((a:Int)+1-(a:Int))=1:=(by rw[dM];omega);have i2:IntKind.i64.wrap ((a:Int)+1)=(a:Int)+1:=(by rw[dM];omega);go_enter L.f87,Tryz.ntmps88;go_wp2_with fail;go_loopg [10,11] (b-a) (λkx aa ab wr=>∃(i j:Nat),aa= .int .i64 (i:Int)/\ab= .int .i64 (j:Int)/\a+1<=i/\i<=j/\j<=b/\j-i<=kx/\Aside (SWK enc k w0 blk off d wr)/\Aside (∀t,a+1<=t->t<i->ltOf cf d[t]! d[a]! =true)/\Aside (∀t,j<=t->t<b->ltOf cf d[t]! d[a]! =false))
 case atStart=>exact ⟨a+1,b,by go_num,rfl,ak _,by omega,ak _,by omega,S0,λt h1 h2=>by omega,λt h1 h2=>by omega⟩
 case round=>
  clear S0 i1;obtain⟨i,j,rfl,rfl,H,aD,U,aL,B,H1,H2⟩:=hrel;by_cases aM:i<j
  . have hz:(i:Int)<(j:Int):=(by omega);obtain⟨h,hh⟩:∃h,h=(i+j)/2:=⟨_,rfl⟩;have aR:i<=h/\h<j:=(by omega);have q1:IntKind.i64.wrap ((i:Int)+(j:Int))=(i:Int)+(j:Int):=(by rw[dM];omega);have q2:IntKind.u64.wrap ((i:Int)+(j:Int))=(i:Int)+(j:Int):=(by rw[IntKind.wrap_u64];omega);have q3:((i:Int)+(j:Int))/2=(h:Int):=(by omega);have q4:IntKind.i64.wrap ((h:Int)+1)=(h:Int)+1:=(by rw[dM];omega);have b1:(h:Int)<(y.size:Int):=(by omega);have b2:(a:Int)<(y.size:Int):=(by omega);clear hh;obtain⟨x1,I⟩:∃x,x=d[h]! :=⟨_,rfl⟩;obtain⟨y1,J⟩:∃x,x=d[a]! :=⟨_,rfl⟩;have MQ:=B.out.ld R (by omega) P (h) (by omega);have MR:=B.out.ld R (by omega) P (a) (by omega);rw[<-I] at MQ;rw[<-J] at MR;have D:=B.out.cmp HC.out (by omega) x1 y1;have V:=ae I;have UD:=ae J;clear I J;by_cases M:cf x1 y1<0
    . have ad:decide (cf x1 y1<0)=true:=decide_eq_true M;go_wp2_with fail;go_quiet_grown (first|(go_at_fn g;refine Calls.grown_of (D _ _)));have X:Aside (SWK enc k w0 blk off d (grow (wr.drewN nq) osq)):=B.out.grown nq osq;clear MQ MR D B;generalize grow (wr.drewN nq) osq=w2 at X|-;go_wp2_with fail;go_roundg (j-(h+1))
      case measure=>omega
      case rel=>exact ⟨h+1,j,by go_num,rfl,by omega,by omega,U,ak _,X,λt t1 t2=>by
       rcases zB t i with c|c;exact H1.out t t1 c
       . have hx:ltOf cf d[h]! d[a]! =true:=(by rw[<-V.out,<-UD.out];exact decide_eq_true M);rcases Bf (show t<=h by omega) with c2|c2
         . cases hq:ltOf cf d[t]! d[a]! with
           |true=>rfl
           |false=>have:=hO.ntrans _ _ _ (HR.out t h (by omega) c2 (by omega)) hq;rw[hx] at this;exact absurd this (by decide)
         . rw[c2];exact hx,H2⟩
    . have ad:decide (cf x1 y1<0)=false:=fC M;go_wp2_with fail;go_quiet_grown (first|(go_at_fn g;refine Calls.grown_of (D _ _)));have X:Aside (SWK enc k w0 blk off d (grow (wr.drewN nq) osq)):=B.out.grown nq osq;clear MQ MR D B;generalize grow (wr.drewN nq) osq=w2 at X|-;go_wp2_with fail;go_roundg (h-i)
      case measure=>omega
      case rel=>exact ⟨i,h,rfl,rfl,H,by omega,by omega,ak _,X,H1,λt t1 t2=>by
       have hx:ltOf cf d[h]! d[a]! =false:=(by rw[<-V.out,<-UD.out];exact fC (by omega));rcases Bf t1 with c2|c2;exact hO.ntrans _ _ _ (HR.out h t (by omega) c2 t2) hx
       . rw[<-c2];exact hx⟩
  . obtain rfl:i=j:=(by omega);have hz:¬(i:Int)<(i:Int):=(by omega);have q1:IntKind.i64.wrap ((i:Int)-1)=(i:Int)-1:=(by rw[dM];omega);go_wp2_with fail;go_loopg [13] (b-a) (λkx al wr=>∃(q:Nat) (u:Array α),al= .int .i64 (q:Int)/\a<=q/\q+1<=i/\i-q<=kx/\u.size=y.size/\Aside (SWK enc k w0 blk off u wr)/\Aside (PermIn a b d u)/\Aside (∀t,u[t]! =fU d a (a+1) (q+1) t))
    case atStart=>exact ⟨a,d,rfl,ak _,H,by omega,hs,B,permIn_refl d a b,λt=>(Ee d a (a+1) (a+1) t (.inr rfl) (by omega) (ak _)).symm⟩
    case round=>
     clear B;obtain⟨q,u,rfl,Y,b0,b6,Z,N,P2,E2⟩:=hrel;by_cases ar:q<i-1
     . have an:(q:Int)<(i:Int)-1:=(by omega);have q5:((q:Int)+1).toNat=q+1:=(by omega);have q6:IntKind.i64.wrap ((q:Int)+1)=(q:Int)+1:=(by rw[dM];omega);have b3:(q:Int)<(y.size:Int):=(by omega);have b4:(q:Int)+1<(y.size:Int):=(by omega);have b5:(0:Int)<=(q:Int)+1:=(by omega);have b8:((q:Nat):Int).toNat=q:=(by omega);have b9:((q+1:Nat):Int).toNat=q+1:=(by omega);have E:Aside (SWK enc k w0 blk off (swp u (q) (q+1)) ((wr.drew.setCells blk (off+(q)* k) (enc u[q+1]!)).setCells blk (off+(q+1)* k) (enc u[q]!))):=N.out.swapped R (q) (q+1) (by omega) (by omega);have a6:=N.out.ld1 R (by omega) P (q) (by omega);have a7:=N.out.ld1 R (by omega) P (q+1) (by omega);have a8:=N.out.st1 R (by omega) P (q) (by omega) u[q+1]!;have O:=N.out.st2 R (by omega) P (q) (q+1) (by omega) (by omega) u[q+1]! u[q]!;have ao:(enc u[q]!).length=k:=R.hk _;have aq:(enc u[q+1]!).length=k:=R.hk _;generalize enc u[q]! =cI2 at E a6 O ao;generalize enc u[q+1]! =cJ2 at E a7 a8 O aq;clear N;go_wp2_with fail;go_big_region_o;clear a6 a7 a8 O;generalize (wr.drew.setCells blk (off+q*k) cJ2).setCells blk (off+(q+1)* k) cI2=w3 at E|-;go_wp2_with fail;go_roundg (i-(q+1))
       case measure=>omega
       case rel=>exact ⟨q+1,_,by go_num,by omega,by omega,ak _,by rw[size_swp];exact Z,E,permIn_trans _ _ _ _ _ P2.out (swp_permIn u a b q (q+1) Y (by omega) (by omega) (by omega) (by omega)),VT d u a q b Y (by omega) (by omega) (by omega) E2.out⟩
     . obtain rfl:i=q+1:=(by omega);have an:¬(q:Int)<((q+1:Nat):Int)-1:=(by omega);go_wp2_with fail;refine bU (xB rfl _ _ _) rfl ?_;exact⟨rfl,u,Z,P2.out,JP hO d u a (q+1) b H U HR.out H1.out H2.out E2.out,N.out⟩
theorem Ef {k:Nat}(L:SortLays P k)(enc:α->List Value)(cf:α->α->Int)(hO:SWO (ltOf cf))(g:Nat)(cb:Array Value)(blk off cap a m:Nat)(y d:Array α)(w0 w:World)
 (eg:∀args w,(callFunc g args).run P w= .ok (.enter g args) w) (G:CmpLays P g cb enc k cf blk off y.size w0)
 (R:RowK enc k w0 blk off y) (hs:d.size=y.size) (S:SWK enc k w0 blk off d w) (av:a+1<m) (hb:m+1<=y.size) (aw:y.size<1000000000) (hr:SortedIn (ltOf cf) a m d):
 Calls P 88 #[.slice (some ⟨blk,off,none⟩) y.size cap,.int .i64 a,.int .i64 m,.int .i64 ((m:Int)+1),.func (.func g) #[] cb] w λe w'=>e= .returned (.tuple #[])/\∃d',d'.size=y.size/\PermIn a (m+1) d d'/\SortedIn (ltOf cf) a (m+1) d'/\SWK enc k w0 blk off d' w':=by
 have mixed:=L.mixed;have t0:=L.t0;have a0:=L.a0;have z0:=L.z0;have v0:=L.v0;have t3:=L.t3;have a3:=L.a3;have z3:=L.z3;have v3:=L.v3;have t4:=L.t4;have a4:=L.a4;have z4:=L.z4;have v4:=L.v4;have t36:=L.t36;have a36:=L.a36;have z36:=L.z36;have v36:=L.v36;have t124:=L.t124;have a124:=L.a124;have z124:=L.z124;have v124:=L.v124;have t96:=L.t96;have a96:=L.a96;have z96:=L.z96;have v96:=L.v96;have aE:=L.aE;have zE:=L.zE;have u36:=jF L.t36;have HC:Aside _:=G;have S0:Aside (SWK enc k w0 blk off d w):=S;have HR:=ae hr;clear S G hr;have i1:IntKind.i64.wrap ((m:Int)-(a:Int))=(m:Int)-(a:Int):=(by rw[dM];omega);have i2:((m:Int)-(a:Int)==1)=false:=(by simp;omega);have i4:¬((m:Int)-(a:Int)=1):=(by omega);have i3:IntKind.i64.wrap ((m:Int)+1-(m:Int))=1:=(by rw[dM];omega);go_enter L.f87,Tryz.ntmps88;go_wp2_with fail;go_loopg [14,15] (m-a) (λkx a8 aa wr=>∃(i j:Nat),a8= .int .i64 (i:Int)/\aa= .int .i64 (j:Int)/\a<=i/\i<=j/\j<=m/\j-i<=kx/\Aside (SWK enc k w0 blk off d wr)/\Aside (∀t,a<=t->t<i->ltOf cf d[m]! d[t]! =false)/\Aside (∀t,j<=t->t<m->ltOf cf d[m]! d[t]! =true))
 case atStart=>exact ⟨a,m,rfl,rfl,ak _,by omega,ak _,by omega,S0,λt h1 h2=>by omega,λt h1 h2=>by omega⟩
 case round=>
  clear S0 i1 i2 i3 i4;obtain⟨i,j,rfl,rfl,U,aD,H,aL,B,H1,H2⟩:=hrel;by_cases aM:i<j
  . have hz:(i:Int)<(j:Int):=(by omega);obtain⟨h,hh⟩:∃h,h=(i+j)/2:=⟨_,rfl⟩;have aR:i<=h/\h<j:=(by omega);have q1:IntKind.i64.wrap ((i:Int)+(j:Int))=(i:Int)+(j:Int):=(by rw[dM];omega);have q2:IntKind.u64.wrap ((i:Int)+(j:Int))=(i:Int)+(j:Int):=(by rw[IntKind.wrap_u64];omega);have q3:((i:Int)+(j:Int))/2=(h:Int):=(by omega);have q4:IntKind.i64.wrap ((h:Int)+1)=(h:Int)+1:=(by rw[dM];omega);have b1:(h:Int)<(y.size:Int):=(by omega);have b2:(m:Int)<(y.size:Int):=(by omega);clear hh;obtain⟨x1,I⟩:∃x,x=d[m]! :=⟨_,rfl⟩;obtain⟨y1,J⟩:∃x,x=d[h]! :=⟨_,rfl⟩;have MQ:=B.out.ld R (by omega) P (m) (by omega);have MR:=B.out.ld R (by omega) P (h) (by omega);rw[<-I] at MQ;rw[<-J] at MR;have D:=B.out.cmp HC.out (by omega) x1 y1;have V:=ae I;have UD:=ae J;clear I J;by_cases M:cf x1 y1<0
    . have ab:decide (cf x1 y1<0)=true:=decide_eq_true M;go_wp2_with fail;go_quiet_grown (first|(go_at_fn g;refine Calls.grown_of (D _ _)));have X:Aside (SWK enc k w0 blk off d (grow (wr.drewN nq) osq)):=B.out.grown nq osq;clear MQ MR D B;generalize grow (wr.drewN nq) osq=w2 at X|-;go_wp2_with fail;go_roundg (h-i)
      case measure=>omega
      case rel=>exact ⟨i,h,rfl,rfl,U,by omega,by omega,ak _,X,H1,λt t1 t2=>by
       have hx:ltOf cf d[m]! d[h]! =true:=(by rw[<-V.out,<-UD.out];exact decide_eq_true M);rcases zB t j with c|c
       . rcases Bf t1 with c2|c2
         . cases hq:ltOf cf d[m]! d[t]! with
           |true=>rfl
           |false=>have:=hO.ntrans _ _ _ hq (HR.out h t (by omega) c2 t2);rw[hx] at this;exact absurd this (by decide)
         rw[<-c2];exact hx
       . exact H2.out t c t2⟩
    . have ab:decide (cf x1 y1<0)=false:=fC M;go_wp2_with fail;go_quiet_grown (first|(go_at_fn g;refine Calls.grown_of (D _ _)));have X:Aside (SWK enc k w0 blk off d (grow (wr.drewN nq) osq)):=B.out.grown nq osq;clear MQ MR D B;generalize grow (wr.drewN nq) osq=w2 at X|-;go_wp2_with fail;go_roundg (j-(h+1))
      case measure=>omega
      case rel=>exact ⟨h+1,j,by go_num,rfl,by omega,by omega,H,ak _,X,λt t1 t2=>by
       have hx:ltOf cf d[m]! d[h]! =false:=(by rw[<-V.out,<-UD.out];exact fC (by omega));rcases Bf (show t<=h by omega) with c2|c2;exact hO.ntrans _ _ _ hx (HR.out t h t1 c2 (by omega))
       . rw[c2];exact hx,H2⟩
  . obtain rfl:i=j:=(by omega);have hz:¬(i:Int)<(i:Int):=(by omega);go_wp2_with fail;go_loopg [17] (m-a) (λkx ad wr=>∃(q:Nat) (u:Array α),ad= .int .i64 (q:Int)/\i<=q/\q<=m/\q-i<=kx/\u.size=y.size/\Aside (SWK enc k w0 blk off u wr)/\Aside (PermIn a (m+1) d u)/\Aside (∀t,u[t]! =fU d q m (m+1) t))
    case atStart=>exact ⟨m,d,rfl,H,ak _,by omega,hs,B,permIn_refl d a (m+1),λt=>(Ee d m m (m+1) t (.inl rfl) (ak _) (by omega)).symm⟩
    case round=>
     clear B;obtain⟨q,u,rfl,b0,al,b6,Y,N,P2,E2⟩:=hrel;by_cases ar:i<q
     . obtain⟨p,rfl⟩:∃p,q=p+1:=⟨q-1,by omega⟩;have an:(i:Int)<(p:Int)+1:=(by omega);have q5:((p:Int)+1).toNat=p+1:=(by omega);have q6:IntKind.i64.wrap (p:Int)=(p:Int):=(by rw[dM];omega);have b3:(p:Int)<(y.size:Int):=(by omega);have b4:(p:Int)+1<(y.size:Int):=(by omega);have b5:(0:Int)<=(p:Int)+1:=(by omega);have b8:((p+1:Nat):Int).toNat=p+1:=(by omega);have b9:((p:Nat):Int).toNat=p:=(by omega);have E:Aside (SWK enc k w0 blk off (swp u (p+1) (p)) ((wr.drew.setCells blk (off+(p+1)* k) (enc u[p]!)).setCells blk (off+(p)* k) (enc u[p+1]!))):=N.out.swapped R (p+1) (p) (by omega) (by omega);have Z:=N.out.ld1 R (by omega) P (p+1) (by omega);have a6:=N.out.ld1 R (by omega) P (p) (by omega);have a7:=N.out.st1 R (by omega) P (p+1) (by omega) u[p]!;have O:=N.out.st2 R (by omega) P (p+1) (p) (by omega) (by omega) u[p]! u[p+1]!;have ao:(enc u[p+1]!).length=k:=R.hk _;have aq:(enc u[p]!).length=k:=R.hk _;generalize enc u[p+1]! =cI2 at E Z O ao;generalize enc u[p]! =cJ2 at E a6 a7 O aq;clear N;go_wp2_with fail;go_big_region_o;clear Z a6 a7 O;generalize (wr.drew.setCells blk (off+(p+1)* k) cJ2).setCells blk (off+p*k) cI2=w3 at E|-;go_wp2_with fail;go_roundg (p-i)
       case measure=>omega
       case rel=>exact ⟨p,_,by first|rfl|go_num|(congr 1;omega),by omega,by omega,ak _,by rw[size_swp];exact Y,E,permIn_trans _ _ _ _ _ P2.out (swp_permIn u a (m+1) (p+1) p (by omega) (by omega) (by omega) (by omega) (by omega)),λt=>by have:=YP d u i (p+1) m (by omega) al (by omega) (by omega) E2.out t;simpa using this⟩
     . obtain rfl:i=q:=(by omega);have an:¬(i:Int)<(i:Int):=(by omega);go_wp2_with fail;refine bU (xB rfl _ _ _) rfl ?_;exact⟨rfl,u,Y,P2.out,Og hO d u a i m U H HR.out H1.out H2.out E2.out,N.out⟩
theorem JQ {k:Nat}(L:SortLays P k)(enc:α->List Value)(cf:α->α->Int)(hO:SWO (ltOf cf))(g:Nat)(cb:Array Value)(blk off cap a m b:Nat)(B d:Array α)(w0 w:World)
 (eg:∀args w,(callFunc g args).run P w= .ok (.enter g args) w) (a6:CmpLays P g cb enc k cf blk off B.size w0)
 (R:RowK enc k w0 blk off B) (hs:d.size=B.size) (S:SWK enc k w0 blk off d w) (bn:a+1<m) (bo:m+1<b) (hb:b<=B.size) (b5:B.size<1000000000) (hl:SortedIn (ltOf cf) a m d) (hr:SortedIn (ltOf cf) m b d)
 (a7:∀(a' m' M:Nat) (u:Array α) (w':World),M-a'<b-a->u.size=B.size->SWK enc k w0 blk off u w'->a'<m'->m'<M->M<=B.size->SortedIn (ltOf cf) a' m' u->SortedIn (ltOf cf) m' M u->
  Calls P 88 #[.slice (some ⟨blk,off,none⟩) B.size cap,.int .i64 a',.int .i64 m',.int .i64 M,.func (.func g) #[] cb] w' λe b6=>e= .returned (.tuple #[])/\∃aa,aa.size=B.size/\PermIn a' M u aa/\SortedIn (ltOf cf) a' M aa/\SWK enc k w0 blk off aa b6):
 Calls P 88 #[.slice (some ⟨blk,off,none⟩) B.size cap,.int .i64 a,.int .i64 m,.int .i64 b,.func (.func g) #[] cb] w λe w'=>e= .returned (.tuple #[])/\∃u,u.size=B.size/\PermIn a b d u/\SortedIn (ltOf cf) a b u/\SWK enc k w0 blk off u w':=by
 have mixed:=L.mixed;have t0:=L.t0;have a0:=L.a0;have z0:=L.z0;have v0:=L.v0;have t3:=L.t3;have a3:=L.a3;have z3:=L.z3;have v3:=L.v3;have t4:=L.t4;have a4:=L.a4;have z4:=L.z4;have v4:=L.v4;have t36:=L.t36;have a36:=L.a36;have z36:=L.z36;have v36:=L.v36;have t124:=L.t124;have a124:=L.a124;have z124:=L.z124;have v124:=L.v124;have t96:=L.t96;have a96:=L.a96;have z96:=L.z96;have v96:=L.v96;have aE:=L.aE;have zE:=L.zE;have u36:=jF L.t36;have bp:∀args w,(callFunc 120 args).run P w= .ok (.enter 120 args) w:=enters_of L.f88 (by kernel_rfl) rfl;have bq:∀args w,(callFunc 88 args).run P w= .ok (.enter 88 args) w:=enters_of L.f87 (by kernel_rfl) rfl;have HC:Aside _:=a6;have pR:=ae a7;have b8:=ae (λ(a' m' M:Nat) (u:Array α) (W:World) (h1:u.size=B.size) (h2:SWK enc k w0 blk off u W) (h3:a'<m') (h4:m'<M) (h5:M<=B.size)=>Q9 L enc g cb blk off cap a' m' M B u w0 W R h1 h2 h3 h4 h5 b5);have S0:Aside (SWK enc k w0 blk off d w):=S;have HL:=ae hl;have HR:=ae hr;obtain⟨q,N⟩:∃q,q=(a+b)/2:=⟨_,rfl⟩;obtain⟨lo,O⟩:∃lo,lo=if m>q then q+m-b else a:=⟨_,rfl⟩;obtain⟨hi,U⟩:∃hi,hi=if m>q then q else m:=⟨_,rfl⟩;have bd:a<q/\q<b/\a<=lo/\lo<=hi/\hi<=m/\hi<=q/\q+m<=lo+b:=(by by_cases c:m>q;rw[if_pos c] at O U;omega;rw[if_neg c] at O U;omega);have br:q<m->b<=q+m:=(by omega);obtain⟨bt,bx,bB,b9,bF,bN,bO⟩:=bd;have ba:=ae N;have Oh:=ae O;have V:=ae U;have aR:=ae (YQ hO d a m b q lo hi N (by omega) (by omega) O U hl hr);have i1:IntKind.i64.wrap ((m:Int)-(a:Int))=(m:Int)-(a:Int):=(by rw[dM];omega);have i2:((m:Int)-(a:Int)==1)=false:=(by simp;omega);have i3:¬((m:Int)-(a:Int)=1):=(by omega);have i4:IntKind.i64.wrap ((b:Int)-(m:Int))=(b:Int)-(m:Int):=(by rw[dM];omega);have i5:((b:Int)-(m:Int)==1)=false:=(by simp;omega);have i6:¬((b:Int)-(m:Int)=1):=(by omega);have i7:IntKind.i64.wrap ((a:Int)+(b:Int))=(a:Int)+(b:Int):=(by rw[dM];omega);have i8:IntKind.u64.wrap ((a:Int)+(b:Int))=(a:Int)+(b:Int):=(by rw[IntKind.wrap_u64];omega);have i9:((a:Int)+(b:Int))/2=(q:Int):=(by omega);have i10:IntKind.i64.wrap ((q:Int)+(m:Int))=(q:Int)+(m:Int):=(by rw[dM];omega);have i11:IntKind.i64.wrap ((q:Int)+(m:Int)-(b:Int))=(q:Int)+(m:Int)-(b:Int):=(by rw[dM];omega);have i12:IntKind.i64.wrap ((q:Int)+(m:Int)-1)=(q:Int)+(m:Int)-1:=(by rw[dM];omega);clear S a6 hl hr a7 N O U;go_enter L.f87,Tryz.ntmps88;go_upto_if 140 with fail;go_cut [20,21] (λD ad wx=>D= .int .i64 (lo:Int)/\ad= .int .i64 (hi:Int)/\wx=w)
 case first=>as_aux_lemma=>
  clear i1 i2 i3 i4 i5 i6 i7 i8 i9;by_cases hm:q<m
  . have c1:(q:Int)<(m:Int):=(by omega);go_wp2_with fail;go_meet
    case rel=>have:=Oh.out;have:=V.out;exact⟨by rw[Oh.out,if_pos hm];congr 1;omega,by rw[V.out,if_pos hm],rfl⟩
  . have c1:¬(q:Int)<(m:Int):=(by omega);go_wp2_with fail;go_meet
    case rel=>exact ⟨by rw[Oh.out,if_neg hm],by rw[V.out,if_neg hm],rfl⟩
 case rest=>
  obtain⟨rfl,rfl,rfl⟩:=hcut;clear i1 i2 i3 i4 i5 i6 i7 i8 i9 i11;go_wp2_with fail;go_loopg [20,21] (hi-lo) (λkx D ad wr=>∃(i j:Nat),D= .int .i64 (i:Int)/\ad= .int .i64 (j:Int)/\lo<=i/\i<=j/\j<=hi/\j-i<=kx/\Aside (SWK enc k w0 blk off d wr)/\Aside (∀c,lo<=c->c<i->ltOf cf d[q+m-1-c]! d[c]! =false)/\Aside (∀c,j<=c->c<hi->ltOf cf d[q+m-1-c]! d[c]! =true))
  case atStart=>exact ⟨lo,hi,rfl,rfl,ak _,b9,ak _,ak _,S0,λc h1 h2=>by omega,λc h1 h2=>by omega⟩
  case round=>
   clear S0;obtain⟨i,j,rfl,rfl,b0,bR,b3,bS,H,H1,H2⟩:=hrel;by_cases c6:i<j
   . have hz:(i:Int)<(j:Int):=(by omega);obtain⟨h,hh⟩:∃h,h=(i+j)/2:=⟨_,rfl⟩;have c7:i<=h/\h<j:=(by omega);obtain⟨p,hp⟩:∃p,p=q+m-1-h:=⟨_,rfl⟩;have c9:p<B.size:=(by omega);have q1:IntKind.i64.wrap ((i:Int)+(j:Int))=(i:Int)+(j:Int):=(by rw[dM];omega);have q2:IntKind.u64.wrap ((i:Int)+(j:Int))=(i:Int)+(j:Int):=(by rw[IntKind.wrap_u64];omega);have q3:((i:Int)+(j:Int))/2=(h:Int):=(by omega);have q4:IntKind.i64.wrap ((h:Int)+1)=(h:Int)+1:=(by rw[dM];omega);have q5:(q:Int)+(m:Int)-1-(h:Int)=(p:Int):=(by omega);have q6:IntKind.i64.wrap (p:Int)=(p:Int):=(by rw[dM];omega);have b1:(h:Int)<(B.size:Int):=(by omega);have b2:(p:Int)<(B.size:Int):=(by omega);have HP:=ae hp;clear hh hp;obtain⟨x1,al⟩:∃x,x=d[p]! :=⟨_,rfl⟩;obtain⟨y1,an⟩:∃x,x=d[h]! :=⟨_,rfl⟩;have MQ:=H.out.ld R (by omega) P (p) (by omega);have MR:=H.out.ld R (by omega) P (h) (by omega);rw[<-al] at MQ;rw[<-an] at MR;have ab:=H.out.cmp HC.out (by omega) x1 y1;have b4:=ae al;have UD:=ae an;clear al an;by_cases ao:cf x1 y1<0
     . as_aux_lemma=>
        have I:decide (cf x1 y1<0)=true:=decide_eq_true ao;go_wp2_with fail;go_quiet_grown (first|(go_at_fn g;refine Calls.grown_of (ab _ _)));have S3:Aside (SWK enc k w0 blk off d (grow (wr.drewN nq) osq)):=H.out.grown nq osq;clear MQ MR ab H;generalize grow (wr.drewN nq) osq=w2 at S3|-;go_wp2_with fail;go_roundg (h-i)
        case measure=>omega
        case rel=>exact ⟨i,h,rfl,rfl,b0,by omega,by omega,ak _,S3,H1,λc t1 t2=>by
         have hx:ltOf cf d[q+m-1-h]! d[h]! =true:=(by rw[<-HP.out,<-b4.out,<-UD.out];exact decide_eq_true ao);rcases Bf t1 with c2|c2
         . cases hq:ltOf cf d[q+m-1-c]! d[c]! with
           |true=>rfl
           |false=>have:=aR.out h c (by omega) c2 t2 hq;rw[hx] at this;exact absurd this (by decide)
         . rw[<-c2];exact hx⟩
     . as_aux_lemma=>
        have I:decide (cf x1 y1<0)=false:=fC ao;go_wp2_with fail;go_quiet_grown (first|(go_at_fn g;refine Calls.grown_of (ab _ _)));have S3:Aside (SWK enc k w0 blk off d (grow (wr.drewN nq) osq)):=H.out.grown nq osq;clear MQ MR ab H;generalize grow (wr.drewN nq) osq=w2 at S3|-;go_wp2_with fail;go_roundg (j-(h+1))
        case measure=>omega
        case rel=>exact ⟨h+1,j,by go_num,rfl,by omega,by omega,b3,ak _,S3,λc t1 t2=>by
         have hx:ltOf cf d[q+m-1-h]! d[h]! =false:=(by rw[<-HP.out,<-b4.out,<-UD.out];exact fC (by omega));rcases Bf (show c<=h by omega) with c2|c2;exact aR.out c h t1 c2 (by omega) hx
         . rw[c2];exact hx,H2⟩
   . obtain rfl:i=j:=(by omega);have hz:¬(i:Int)<(i:Int):=(by omega);obtain⟨e,he⟩:∃e,e+i=q+m:=⟨q+m-i,by omega⟩;have q1:(q:Int)+(m:Int)-(i:Int)=(e:Int):=(by omega);have q2:IntKind.i64.wrap (e:Int)=(e:Int):=(by rw[dM];omega);have SC:=ae (λ(u:Array α) (h:∀t,u[t]! =fU d i m e t)=>ach hO d u a m b q i e ba.out (by omega) (by omega) HL.out HR.out he (by rw[<-Oh.out];exact b0) (by rw[<-V.out];exact b3) (by rw[<-Oh.out];exact H1.out) (by rw[<-V.out];exact H2.out) h);have sb:i<=m/\m<=e/\e<=b/\q<=e/\i<=q/\a<=i:=(by omega);obtain⟨bc,bf,bh,ca,cc,bj⟩:=sb;clear H1 H2 he;go_upto_region 39 with fail;go_cut [20,24,185] (λD G bk wx=>D= .int .i64 (i:Int)/\G= .int .i64 (e:Int)/\bk= .bool (decide (i<m/\m<e))/\wx=wr)
     case first=>as_aux_lemma=>
      by_cases X:i<m
      . have c1:(i:Int)<(m:Int):=(by omega);by_cases z2:m<e
        . have c2:(m:Int)<(e:Int):=(by omega);go_wp2_with fail;go_meet
          case rel=>exact ⟨rfl,rfl,by simp[X,z2],rfl⟩
        . have c2:¬(m:Int)<(e:Int):=(by omega);go_wp2_with fail;go_meet
          case rel=>exact ⟨rfl,rfl,by simp[z2],rfl⟩
      . have c1:¬(i:Int)<(m:Int):=(by omega);go_wp2_with fail;go_meet
        case rel=>exact ⟨rfl,rfl,by simp[X],rfl⟩
     case rest=>
      obtain⟨rfl,rfl,rfl,rfl⟩:=hcut;go_upto_if 185 with fail;go_cut [20,24] (λD G wx=>D= .int .i64 (i:Int)/\G= .int .i64 (e:Int)/\∃E:Array α,E.size=B.size/\Aside (SWK enc k w0 blk off E wx)/\Aside (PermIn a b d E)/\Aside (∀t,E[t]! =fU d i m e t))
      case first=>as_aux_lemma=>
       by_cases c1:i<m/\m<e
       . have X:decide (i<m/\m<e)=true:=decide_eq_true c1;have C:=ae (b8.out i m e d _ hs H.out c1.1 c1.2 (by omega));go_wp2_with (go_at_call 120;refine C.out.mono ?_;rintro e2 w2 ⟨rfl,E,I,aq,ar,Y⟩;replace Y:Aside _:=Y;replace aq:=ae aq;replace ar:=ae ar);go_meet
         case rel=>exact ⟨rfl,rfl,E,I,Y,permIn_mono d E i e a b bj bh (by omega) aq.out,ar.out⟩
       . have X:decide (i<m/\m<e)=false:=fC c1;go_wp2_with fail;go_meet
         case rel=>exact ⟨rfl,rfl,d,hs,H,permIn_refl d a b,λt=>(Ee d i m e t (by omega) bc bf).symm⟩
      case rest=>
       clear H;obtain⟨rfl,rfl,E,I,H,P1,E1⟩:=hcut;have T1:=ae (SC.out E E1.out);clear SC E1;go_upto_region 41 with fail;go_cut [20,24,199] (λD G bl wx=>D= .int .i64 (i:Int)/\G= .int .i64 (e:Int)/\bl= .bool (decide (a<i/\i<q))/\wx=wc)
       case first=>as_aux_lemma=>
        by_cases X:a<i
        . have c1:(a:Int)<(i:Int):=(by omega);by_cases z2:i<q
          . have c2:(i:Int)<(q:Int):=(by omega);go_wp2_with fail;go_meet
            case rel=>exact ⟨rfl,rfl,by simp[X,z2],rfl⟩
          . have c2:¬(i:Int)<(q:Int):=(by omega);go_wp2_with fail;go_meet
            case rel=>exact ⟨rfl,rfl,by simp[z2],rfl⟩
        . have c1:¬(a:Int)<(i:Int):=(by omega);go_wp2_with fail;go_meet
          case rel=>exact ⟨rfl,rfl,by simp[X],rfl⟩
       case rest=>
        obtain⟨rfl,rfl,rfl,rfl⟩:=hcut;go_upto_if 199 with fail;go_cut [24] (λG wx=>G= .int .i64 (e:Int)/\∃d2:Array α,d2.size=B.size/\Aside (SWK enc k w0 blk off d2 wx)/\Aside (PermIn a q E d2)/\Aside (SortedIn (ltOf cf) a q d2))
        case first=>as_aux_lemma=>
         by_cases c1:a<i/\i<q
         . have X:decide (a<i/\i<q)=true:=decide_eq_true c1;have C:=ae (pR.out a i q E _ (by omega) I H.out c1.1 c1.2 (by omega) T1.out.2.2.2.2.2.2.1 T1.out.2.2.2.2.2.2.2.1);go_wp2_with (go_at_call 88;refine C.out.mono ?_;rintro e2 w2 ⟨rfl,d2,Z,av,aw,Y⟩;replace Y:Aside _:=Y;replace av:=ae av;replace aw:=ae aw);go_meet
           case rel=>exact ⟨rfl,d2,Z,Y,av.out,aw.out⟩
         . have X:decide (a<i/\i<q)=false:=fC c1;go_wp2_with fail;go_meet
           case rel=>exact ⟨rfl,E,I,H,permIn_refl E a q,by
            rcases (show i=a\/i=q by omega) with c|c;have:=T1.out.2.2.2.2.2.2.2.1;rwa [c] at this
            . have:=T1.out.2.2.2.2.2.2.1;rwa [c] at this⟩
        case rest=>
         clear H;obtain⟨rfl,d2,Z,Y,P2,Q2⟩:=hcut;have T2:=ae (λx y (h1:q<=x) (J:x<y) (h2:y<b) (h3:ltOf cf E[y]! E[x]! =false)=>(show ltOf cf d2[y]! d2[x]! =false by rw[P2.out.2.1 x (.inr h1),P2.out.2.1 y (.inr (by omega))];exact h3))
         have fin:∀d3 w3,d3.size=B.size->SWK enc k w0 blk off d3 w3->PermIn q b d2 d3->SortedIn (ltOf cf) q b d3->∃u,u.size=B.size/\PermIn a b d u/\SortedIn (ltOf cf) a b u/\SWK enc k w0 blk off u w3:=λd3 w3 h1 h2 h3 h4=>
          ⟨d3,h1,permIn_trans _ _ _ _ _ (permIn_trans _ _ _ _ _ P1.out (permIn_mono E d2 a q a b (ak _) (by omega) (by omega) P2.out)) (permIn_mono d2 d3 q b a b (by omega) (ak _) (by omega) h3),Oi E d2 d3 a q b (by omega) (by omega) (by omega) T1.out.2.2.2.2.2.2.2.2.2.2 P2.out Q2.out h3 h4,h2⟩
         have aD:=ae fin;have U1:=ae (show SortedIn (ltOf cf) q e d2 from λx y h1 J h2=>T2.out x y h1 J (by omega) (T1.out.2.2.2.2.2.2.2.2.1 x y h1 J h2));have U2:=ae (show SortedIn (ltOf cf) e b d2 from λx y h1 J h2=>T2.out x y (by omega) J h2 (T1.out.2.2.2.2.2.2.2.2.2.1 x y h1 J h2));clear fin T1 T2 P1 P2 Q2;by_cases c1:q<e/\e<b
         . have X:(q:Int)<(e:Int):=(by omega);have z2:(e:Int)<(b:Int):=(by omega);have C:=ae (pR.out q e b d2 _ (by omega) Z Y.out c1.1 c1.2 hb U1.out U2.out);go_wp2_with (go_at_call 88;refine C.out.mono ?_;rintro e2 w2 ⟨rfl,d3,bm,aL,aM,S3⟩;replace S3:Aside _:=S3;replace aL:=ae aL;replace aM:=ae aM);go_end0;refine⟨rfl,?_⟩;exact aD.out d3 _ bm S3.out aL.out aM.out
         . have a8:SortedIn (ltOf cf) q b d2:=by
            rcases (show e=q\/e=b by omega) with c|c;have:=U2.out;rwa [c] at this;have:=U1.out;rwa [c] at this
           have HS:=ae a8;clear a8;by_cases X:q<e
           . have z2:(q:Int)<(e:Int):=(by omega);have z3:¬(e:Int)<(b:Int):=(by omega);go_wp2_with fail;go_end0;refine⟨rfl,?_⟩;exact aD.out d2 _ Z Y.out (permIn_refl d2 q b) HS.out
           . have z2:¬(q:Int)<(e:Int):=(by omega);go_wp2_with fail;go_end0;refine⟨rfl,?_⟩;exact aD.out d2 _ Z Y.out (permIn_refl d2 q b) HS.out
theorem JR {k:Nat}(L:SortLays P k)(enc:α->List Value)(cf:α->α->Int)(hO:SWO (ltOf cf))(g:Nat)(D:Array Value)(blk off cap:Nat)(u:Array α)(w0:World)
 (E:∀args w,(callFunc g args).run P w= .ok (.enter g args) w) (q:CmpLays P g D enc k cf blk off u.size w0) (R:RowK enc k w0 blk off u) (y:u.size<1000000000):
 ∀(s a m b:Nat) (d:Array α) (w:World),b-a<=s->d.size=u.size->SWK enc k w0 blk off d w->a<m->m<b->b<=u.size->SortedIn (ltOf cf) a m d->SortedIn (ltOf cf) m b d->
  Calls P 88 #[.slice (some ⟨blk,off,none⟩) u.size cap,.int .i64 a,.int .i64 m,.int .i64 b,.func (.func g) #[] D] w λe w'=>e= .returned (.tuple #[])/\∃B,B.size=u.size/\PermIn a b d B/\SortedIn (ltOf cf) a b B/\SWK enc k w0 blk off B w':=by
 intro s;induction s with
 |zero=>intro a m b d w h;omega
 |
  succ s ih=>
  intro a m b d w h1 h2 h3 h4 h5 G H I;by_cases c1:m=a+1;subst c1;exact Gv L enc cf hO g D blk off cap a b u d w0 w E q R h2 h3 h5 G y I;by_cases c2:b=m+1;subst c2;exact Ef L enc cf hO g D blk off cap a m u d w0 w E q R h2 h3 (by omega) G y H;exact JQ L enc cf hO g D blk off cap a m b u d w0 w E q R h2 h3 (by omega) (by omega) G y H I λa' J M B w' g1 N O U V X Y Z=>ih a' J M B w' (by omega) N O U V X Y Z
end Go.Proofs.YtfbkkgfkhhibfaaGreat
namespace Iv
open Go.Sort
variable {α : Type} [Inhabited α]
def P9 (lt:α->α->Bool)(s a n:Nat)(d:Array α):Prop:=∀x,s ∣ x->x<a->SortedIn lt x (min (x+s) n) d
def BL (lt:α->α->Bool)(s a n:Nat)(d:Array α):Prop:=∀x,s ∣ x->a<=x->x<n->SortedIn lt x (min (x+s) n) d
variable {lt : α -> α -> Bool} {d d' : Array α}
theorem uV {x y:Nat}(h:SortedIn lt x y d)(hk:∀t,x<=t->t<y->d'[t]! =d[t]!):SortedIn lt x y d':=λi j h1 h2 h3=>by
 rw[hk i h1 (by omega),hk j (by omega) h3]
 exact h i j h1 h2 h3
theorem Dl {s x a:Nat}(h1:s ∣ x)(h2:s ∣ a)(h:x<a):x+s<=a:=by have:=Nat.le_of_dvd (by omega) (Nat.dvd_sub h2 h1);omega
theorem FX {s a n:Nat}(hs:s ∣ a)(hn:a+s<=n)(h:P9 lt s a n d)(q:PermIn a (a+s) d d')(hr:SortedIn lt a (a+s) d'):P9 lt s (a+s) n d':=λx h1 h2=>by
 by_cases c:x<a
 . have:=Dl h1 hs c
   exact uV (h x h1 c) λt u y=>q.2.1 t (.inl (by omega))
 . have:x=a:=by
    by_cases c2:a<x;have:=Dl hs h1 c2;omega;omega
   subst this;rw[show min (x+s) n=x+s by omega];exact hr
theorem xU {s a n:Nat}(hs:s ∣ a)(hn:a<=n)(q:n<a+s)(h:P9 lt s a n d)(u:PermIn a n d d')(hr:SortedIn lt a n d'):BL lt s 0 n d':=λx h1 _ h2=>by
 by_cases c:x<a
 . have:=Dl h1 hs c
   exact uV (h x h1 c) λt y B=>u.2.1 t (.inl (by omega))
 . have:x=a:=by
    by_cases c2:a<x;have:=Dl hs h1 c2;omega;omega
   subst this;rw[show min (x+s) n=n by omega];exact hr
theorem Uh {s a e n:Nat}(h:BL lt s a n d)(q:a<=e)(u:PermIn a e d d'):BL lt s e n d':=λx h1 h2 h3=>
 uV (h x h1 (by omega) h3) λt y B=>u.2.1 t (.inr (by omega))
theorem ML {s a:Nat}(h:2*s ∣ a):s ∣ a:=Nat.dvd_trans (Nat.dvd_mul_left s 2) h
theorem Vt {s a n:Nat}(h:BL lt s a n d)(hs:2*s ∣ a)(hn:a+s<=n)(h0:0<s):SortedIn lt a (a+s) d:=by have:=h a (ML hs) (ak _) (by omega);rwa [show min (a+s) n=a+s by omega] at this
theorem Vu {s a n:Nat}(h:BL lt s a n d)(hs:2*s ∣ a)(hn:a+s<n):SortedIn lt (a+s) (min (a+s+s) n) d:=
 h (a+s) ((TV (ML hs)).2 (TY s)) (by omega) hn
end Iv
namespace Go.Proofs.YtfbkkgfkhhibfaaGreat
open Go Go.Shelf Go.RowKit Go.Lib Go.Sort Iv
variable {P : Program} {α : Type} [Inhabited α]
theorem Ui {k:Nat}(L:SortLays P k)(enc:α->List Value)(cf:α->α->Int)(hO:SWO (ltOf cf))(g:Nat)(cb:Array Value)(blk off cap n:Nat)(D d:Array α)(w0 w:World)
 (eg:∀args w,(callFunc g args).run P w= .ok (.enter g args) w) (G:CmpLays P g cb enc k cf blk off D.size w0)
 (R:RowK enc k w0 blk off D) (hs:d.size=D.size) (S:SWK enc k w0 blk off d w) (hn:n=D.size) (a6:D.size<1000000000):
 Calls P 53 #[.slice (some ⟨blk,off,none⟩) D.size cap,.int .i64 n,.func (.func g) #[] cb] w λe w'=>e= .returned (.tuple #[])/\∃d',d'.size=D.size/\PermIn 0 n d d'/\SortedIn (ltOf cf) 0 n d'/\SWK enc k w0 blk off d' w':=by
 have mixed:=L.mixed;have t0:=L.t0;have a0:=L.a0;have z0:=L.z0;have v0:=L.v0;have t3:=L.t3;have a3:=L.a3;have z3:=L.z3;have v3:=L.v3;have t4:=L.t4;have a4:=L.a4;have z4:=L.z4;have v4:=L.v4;have t36:=L.t36;have a36:=L.a36;have z36:=L.z36;have v36:=L.v36;have t124:=L.t124;have a124:=L.a124;have z124:=L.z124;have v124:=L.v124;have t96:=L.t96;have a96:=L.a96;have z96:=L.z96;have v96:=L.v96;have aE:=L.aE;have zE:=L.zE;have u36:=jF L.t36;have an:∀args w,(callFunc 87 args).run P w= .ok (.enter 87 args) w:=enters_of L.f86 (by kernel_rfl) rfl;have ao:∀args w,(callFunc 88 args).run P w= .ok (.enter 88 args) w:=enters_of L.f87 (by kernel_rfl) rfl;have S0:Aside (SWK enc k w0 blk off d w):=S
 have CI:=ae (λ(a b:Nat) (d':Array α) (W:World) (h1:d'.size=D.size) (h2:SWK enc k w0 blk off d' W) (h3:a<=b) (h4:b<=D.size)=>(GV L enc cf g cb blk off cap a b D d' w0 W eg G R h1 h2 h3 h4 a6).mono λe w' h=>(show e= .returned (.tuple #[])/\∃J,J.size=D.size/\PermIn a b d' J/\SortedIn (ltOf cf) a b J/\SWK enc k w0 blk off J w' from
  ⟨h.1,_,((insertionSort_holds hO d' a b h3 (by omega)).1.1).trans h1,(insertionSort_holds hO d' a b h3 (by omega)).1,(insertionSort_holds hO d' a b h3 (by omega)).2,h.2⟩))
 have CM:=ae (λ(a m b:Nat) (d':Array α) (W:World) (h1:d'.size=D.size) (h2:SWK enc k w0 blk off d' W)=>JR L enc cf hO g cb blk off cap D w0 eg G R a6 (b-a) a m b d' W (ak _) h1 h2);have HN:=ae hn;have a7:n<=D.size:=(by omega);have aq:n<1000000000:=(by omega);clear S G hn;go_enter L.f77,Tryz.ntmps53;go_wp2_with fail;go_loopg [7,8] (n) (λkx s7 s8 wr=>∃(a:Nat) (u:Array α),s7= .int .i64 (a:Int)/\s8= .int .i64 ((a:Int)+20)/\a<=n/\n-a<=kx/\u.size=D.size/\Aside (20 ∣ a)/\Aside (SWK enc k w0 blk off u wr)/\Aside (PermIn 0 n d u)/\Aside (P9 (ltOf cf) 20 a n u))
 case atStart=>exact ⟨0,d,rfl,rfl,ay _,by omega,hs,⟨0,rfl⟩,S0,permIn_refl d 0 n,λx _ h=>by omega⟩
 case round=>
  clear S0;obtain⟨a,u,rfl,rfl,a8,ar,aa,DV,S1,P1,R1⟩:=hrel;by_cases O:a+20<=n
  . have z1:(a:Int)+20<=(n:Int):=(by omega);have q1:IntKind.i64.wrap ((a:Int)+20+20)=(a:Int)+20+20:=(by rw[dM];omega);have C:=CI.out a (a+20) u wr aa S1.out (by omega) (by omega);rw[show ((a+20:Nat):Int)=(a:Int)+20 by omega] at C;have C:=ae C;go_wp2_with (go_at_call 87;refine C.out.mono ?_;rintro e2 w2 ⟨rfl,d2,U,q,y,M⟩;replace M:Aside _:=M;replace q:=ae q;replace y:=ae y);go_roundg (n-(a+20))
    case measure=>omega
    case rel=>exact ⟨a+20,d2,by go_num,by first|rfl|go_num|(congr 1;omega),O,ak _,U,(TV DV.out).2 (TY 20),M,permIn_trans _ _ _ _ _ P1.out (permIn_mono u d2 a (a+20) 0 n (ay _) O (by omega) q.out),FX DV.out O R1.out q.out y.out⟩
  . have z1:¬(a:Int)+20<=(n:Int):=(by omega);have C:=ae (CI.out a n u wr aa S1.out a8 a7);go_wp2_with (go_at_call 87;refine C.out.mono ?_;rintro e2 w2 ⟨rfl,d2,U,q,y,M⟩;replace M:Aside _:=M;replace q:=ae q;replace y:=ae y);have P2:Aside (PermIn 0 n d d2):=permIn_trans _ _ _ _ _ P1.out (permIn_mono u d2 a n 0 n (ay _) (ak _) (by omega) q.out);have R2:Aside (BL (ltOf cf) 20 0 n d2):=xU DV.out a8 (by omega) R1.out q.out y.out;clear C S1 P1 R1 q y;go_loopg [6] n (λkx s6 wr=>∃(s:Nat) (u:Array α),s6= .int .i64 (s:Int)/\20<=s/\s<=2000000000/\n-s<=kx/\u.size=D.size/\Aside (SWK enc k w0 blk off u wr)/\Aside (PermIn 0 n d u)/\Aside (BL (ltOf cf) s 0 n u))
    case atStart=>exact ⟨20,d2,rfl,ak _,by omega,by omega,U,M,P2,R2⟩
    case round=>
     clear M P2 R2;obtain⟨s,d3,rfl,av,y,aw,ab,S3,P3,R3⟩:=hrel;by_cases al:s<n
     . have z2:(s:Int)<(n:Int):=(by omega);have q1:IntKind.i64.wrap (2 *(s:Int))=2 *(s:Int):=(by rw[dM];omega);have q2:IntKind.i64.wrap ((s:Int)* 2)=(s:Int)* 2:=(by rw[dM];omega);go_wp2_with fail;go_loopg [7,8] n (λkx s7 s8 wr=>∃(a:Nat) (u:Array α),s7= .int .i64 (a:Int)/\s8= .int .i64 ((a:Int)+2 *(s:Int))/\a<=n/\n-a<=kx/\u.size=D.size/\Aside (2*s ∣ a)/\Aside (SWK enc k w0 blk off u wr)/\Aside (PermIn 0 n d u)/\Aside (P9 (ltOf cf) (2*s) a n u)/\Aside (BL (ltOf cf) s a n u))
       case atStart=>exact ⟨0,d3,rfl,by first|rfl|go_num|(congr 1;omega),ay _,by omega,ab,⟨0,rfl⟩,S3,P3,λx _ h=>by omega,R3⟩
       case round=>
        clear S3 P3 R3;obtain⟨a,Z,rfl,rfl,ad,aD,V,B,S4,P4,A4,B4⟩:=hrel;have q3:IntKind.i64.wrap ((a:Int)+(s:Int))=(a:Int)+(s:Int):=(by rw[dM];omega);by_cases H:a+2*s<=n
        . have z3:(a:Int)+2 *(s:Int)<=(n:Int):=(by omega);have q4:IntKind.i64.wrap ((a:Int)+2 *(s:Int)+2 *(s:Int))=(a:Int)+2 *(s:Int)+2 *(s:Int):=(by rw[dM];omega);have C:=CM.out a (a+s) (a+2*s) Z wr V S4.out (by omega) (by omega) (by omega) (Vt B4.out B.out (by omega) (by omega)) (by have:=Vu B4.out B.out (by omega);rwa [show min (a+s+s) n=a+2*s by omega] at this);rw[show ((a+s:Nat):Int)=(a:Int)+(s:Int) by omega,show ((a+2*s:Nat):Int)=(a:Int)+2 *(s:Int) by omega] at C;have C:=ae C;go_wp2_with (go_at_call 88;refine C.out.mono ?_;rintro e2 w5 ⟨rfl,d5,X,I,E,Y⟩;replace Y:Aside _:=Y;replace I:=ae I;replace E:=ae E);go_roundg (n-(a+2*s))
          case measure=>omega
          case rel=>exact ⟨a+2*s,d5,by first|rfl|go_num|(congr 1;omega),by first|rfl|go_num|(congr 1;omega),H,ak _,X,(TV B.out).2 (TY _),Y,permIn_trans _ _ _ _ _ P4.out (permIn_mono Z d5 a (a+2*s) 0 n (ay _) H (by omega) I.out),FX B.out H A4.out I.out E.out,Uh B4.out (by omega) I.out⟩
        . have z3:¬(a:Int)+2 *(s:Int)<=(n:Int):=(by omega);by_cases N:a+s<n
          . have z4:(a:Int)+(s:Int)<(n:Int):=(by omega);have C:=CM.out a (a+s) n Z wr V S4.out (by omega) N a7 (Vt B4.out B.out (by omega) (by omega)) (by have:=Vu B4.out B.out N;rwa [show min (a+s+s) n=n by omega] at this);rw[show ((a+s:Nat):Int)=(a:Int)+(s:Int) by omega] at C;have C:=ae C;go_wp2_with (go_at_call 88;refine C.out.mono ?_;rintro e2 w5 ⟨rfl,d5,X,I,E,Y⟩;replace Y:Aside _:=Y;replace I:=ae I;replace E:=ae E);go_roundg (n-2*s)
            case measure=>omega
            case rel=>exact ⟨2*s,d5,by first|rfl|go_num|(congr 1;omega),by omega,by omega,ak _,X,Y,permIn_trans _ _ _ _ _ P4.out (permIn_mono Z d5 a n 0 n (ay _) (ak _) (by omega) I.out),xU B.out ad (by omega) A4.out I.out E.out⟩
          . have z4:¬(a:Int)+(s:Int)<(n:Int):=(by omega);go_wp2_with fail;go_roundg (n-2*s)
            case measure=>omega
            case rel=>exact ⟨2*s,Z,by first|rfl|go_num|(congr 1;omega),by omega,by omega,ak _,V,S4,P4,xU B.out ad (by omega) A4.out (permIn_refl Z a n) (by
             by_cases c:a<n;have:=B4.out a (ML B.out) (ak _) c;rwa [show min (a+s) n=n by omega] at this
             . intro i j h1 h2 h3;omega)⟩
     . have z2:¬(s:Int)<(n:Int):=(by omega);go_wp2_with fail;go_end0
       exact⟨rfl,d3,ab,P3.out,by
        by_cases c:0<n;have:=R3.out 0 ⟨0,rfl⟩ (ak _) c;rwa [show min (0+s) n=n by omega] at this
        . intro i j h1 h2 h3;omega,S3.out⟩
theorem EG {k:Nat}(L:SortLays P k)(enc:α->List Value)(cf:α->α->Int)(hO:SWO (ltOf cf))(g:Nat)(q:Array Value)(blk off cap:Nat)(d:Array α)(w:World)
 (y:∀args w,(callFunc g args).run P w= .ok (.enter g args) w) (a:CmpLays P g q enc k cf blk off d.size w) (R:RowK enc k w blk off d) (u:d.size<1000000000):
 Calls P 31 #[.slice (some ⟨blk,off,none⟩) d.size cap,.func (.func g) #[] q] w λe w'=>e= .returned (.tuple #[])/\∃d',d'.size=d.size/\PermIn 0 d.size d d'/\SortedIn (ltOf cf) 0 d.size d'/\SWK enc k w blk off d' w':=by have mixed:=L.mixed;have t0:=L.t0;have a0:=L.a0;have z0:=L.z0;have v0:=L.v0;have t3:=L.t3;have a3:=L.a3;have z3:=L.z3;have v3:=L.v3;have t4:=L.t4;have a4:=L.a4;have z4:=L.z4;have v4:=L.v4;have t36:=L.t36;have a36:=L.a36;have z36:=L.z36;have v36:=L.v36;have t124:=L.t124;have a124:=L.a124;have z124:=L.z124;have v124:=L.v124;have t96:=L.t96;have a96:=L.a96;have z96:=L.z96;have v96:=L.v96;have aE:=L.aE;have zE:=L.zE;have u36:=jF L.t36;have B:∀args w,(callFunc 53 args).run P w= .ok (.enter 53 args) w:=enters_of L.f77 (by kernel_rfl) rfl;have C:=ae (Ui L enc cf hO g q blk off cap d.size d d w w y a R rfl (SWK.start R.hH) rfl u);clear a;go_enter L.f62,Tryz.ntmps31;go_wp2_with (go_at_call 53;refine C.out.mono ?_;rintro D E ⟨rfl,H⟩;replace H:=ae H);go_end0;exact⟨rfl,H.out⟩
