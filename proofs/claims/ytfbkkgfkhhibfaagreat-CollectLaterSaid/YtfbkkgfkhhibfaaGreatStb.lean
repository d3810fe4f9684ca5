/- Words. -/
import Derived.Test.YtfbkkgfkhhibfaaGreatSrt
import Derived.Deep.Cut
import Derived.Deep.DeepCutAuto
set_option linter.unusedVariables false
set_option maxRecDepth 100000
set_option maxHeartbeats 8000000
namespace Go.Proofs.YtfbkkgfkhhibfaaGreat
open Go Go.Shelf Go.RowKit Go.Lib Go.Sort Iv
variable {P : Program} {α : Type} [Inhabited α]
theorem FO {k:Nat}(L:SortLays P k)(enc:α->List Value)(cf:α->α->Int)(hO:SWO (ltOf cf))(g:Nat)(cb:Array Value)(blk off cap a b:Nat)(y d:Array α)(w0 w:World)
 (eg:∀args w,(callFunc g args).run P w= .ok (.enter g args) w) (E:CmpLays P g cb enc k cf blk off y.size w0)
 (R:RowK enc k w0 blk off y) (hs:d.size=y.size) (S:SWK enc k w0 blk off d w) (av:a+1<b) (hb:b<=y.size) (aw:y.size<1000000000) (hr:SortedIn (ltOf cf) (a+1) b d):
 Calls P 88 #[.slice (some ⟨blk,off,none⟩) y.size cap,.int .i64 a,.int .i64 ((a:Int)+1),.int .i64 b,.func (.func g) #[] cb] w λe w'=>e= .returned (.tuple #[])/\∃d',d'.size=y.size/\PermIn a b d d'/\SortedIn (ltOf cf) a b d'/\SWK enc k w0 blk off d' w':=by
 have mixed:=L.mixed;have t0:=L.t0;have a0:=L.a0;have z0:=L.z0;have v0:=L.v0;have t3:=L.t3;have a3:=L.a3;have z3:=L.z3;have v3:=L.v3;have t4:=L.t4;have a4:=L.a4;have z4:=L.z4;have v4:=L.v4;have t36:=L.t36;have a36:=L.a36;have z36:=L.z36;have v36:=L.v36;have t124:=L.t124;have a124:=L.a124;have z124:=L.z124;have v124:=L.v124;have t96:=L.t96;have a96:=L.a96;have z96:=L.z96;have v96:=L.v96;have aE:=L.aE;have zE:=L.zE;have u36:=jy L.t36;have HC:Aside _:=E;have S0:Aside (SWK enc k w0 blk off d w):=S;have HR:=ae hr;clear S E hr;have i1:IntKind.i64.wrap ((a:Int)+1-(a:Int))=1:=(by rw[dD];omega);have i2:IntKind.i64.wrap ((a:Int)+1)=(a:Int)+1:=(by rw[dD];omega);go_enter L.f87,Tryz.ntmps88;go_wp2_with fail;go_loopg [10,11] (b-a) (λkx aa ab wr=>∃(i j:Nat),aa= .int .i64 (i:Int)/\ab= .int .i64 (j:Int)/\a+1<=i/\i<=j/\j<=b/\j-i<=kx/\Aside (SWK enc k w0 blk off d wr)/\Aside (∀t,a+1<=t->t<i->ltOf cf d[t]! d[a]! =true)/\Aside (∀t,j<=t->t<b->ltOf cf d[t]! d[a]! =false))
 case atStart=>exact ⟨a+1,b,by go_num,rfl,ax _,by omega,ax _,by omega,S0,λt h1 h2=>by omega,λt h1 h2=>by omega⟩
 case round=>
  clear S0 i1;obtain⟨i,j,rfl,rfl,G,aD,U,aL,A,H1,H2⟩:=hrel;by_cases aM:i<j
  . have hz:(i:Int)<(j:Int):=(by omega);obtain⟨h,hh⟩:∃h,h=(i+j)/2:=⟨_,rfl⟩;have aR:i<=h/\h<j:=(by omega);have q1:IntKind.i64.wrap ((i:Int)+(j:Int))=(i:Int)+(j:Int):=(by rw[dD];omega);have q2:IntKind.u64.wrap ((i:Int)+(j:Int))=(i:Int)+(j:Int):=(by rw[IntKind.wrap_u64];omega);have q3:((i:Int)+(j:Int))/2=(h:Int):=(by omega);have q4:IntKind.i64.wrap ((h:Int)+1)=(h:Int)+1:=(by rw[dD];omega);have b1:(h:Int)<(y.size:Int):=(by omega);have b2:(a:Int)<(y.size:Int):=(by omega);clear hh;obtain⟨x1,H⟩:∃x,x=d[h]! :=⟨_,rfl⟩;obtain⟨y1,I⟩:∃x,x=d[a]! :=⟨_,rfl⟩;have Lj:=A.out.ld R (by omega) P (h) (by omega);have Ll:=A.out.ld R (by omega) P (a) (by omega);rw[<-H] at Lj;rw[<-I] at Ll;have B:=A.out.cmp HC.out (by omega) x1 y1;have V:=ae H;have S9:=ae I;clear H I;by_cases J:cf x1 y1<0
    . have ad:decide (cf x1 y1<0)=true:=decide_eq_true J;go_wp2_with fail;go_quiet_grown (first|(go_at_fn g;refine Calls.grown_of (B _ _)));have X:Aside (SWK enc k w0 blk off d (grow (wr.drewN nq) osq)):=A.out.grown nq osq;clear Lj Ll B A;generalize grow (wr.drewN nq) osq=w2 at X|-;go_wp2_with fail;go_roundg (j-(h+1))
      case measure=>omega
      case rel=>exact ⟨h+1,j,by go_num,rfl,by omega,by omega,U,ax _,X,λt t1 t2=>by
       rcases vT t i with c|c;exact H1.out t t1 c
       . have hx:ltOf cf d[h]! d[a]! =true:=(by rw[<-V.out,<-S9.out];exact decide_eq_true J);rcases DD (show t<=h by omega) with c2|c2
         . cases hq:ltOf cf d[t]! d[a]! with
           |true=>rfl
           |false=>have:=hO.ntrans _ _ _ (HR.out t h (by omega) c2 (by omega)) hq;rw[hx] at this;exact absurd this (by decide)
         . rw[c2];exact hx,H2⟩
    . have ad:decide (cf x1 y1<0)=false:=eX J;go_wp2_with fail;go_quiet_grown (first|(go_at_fn g;refine Calls.grown_of (B _ _)));have X:Aside (SWK enc k w0 blk off d (grow (wr.drewN nq) osq)):=A.out.grown nq osq;clear Lj Ll B A;generalize grow (wr.drewN nq) osq=w2 at X|-;go_wp2_with fail;go_roundg (h-i)
      case measure=>omega
      case rel=>exact ⟨i,h,rfl,rfl,G,by omega,by omega,ax _,X,H1,λt t1 t2=>by
       have hx:ltOf cf d[h]! d[a]! =false:=(by rw[<-V.out,<-S9.out];exact eX (by omega));rcases DD t1 with c2|c2;exact hO.ntrans _ _ _ (HR.out h t (by omega) c2 t2) hx
       . rw[<-c2];exact hx⟩
  . obtain rfl:i=j:=(by omega);have hz:¬(i:Int)<(i:Int):=(by omega);have q1:IntKind.i64.wrap ((i:Int)-1)=(i:Int)-1:=(by rw[dD];omega);go_wp2_with fail;go_loopg [13] (b-a) (λkx al wr=>∃(q:Nat) (u:Array α),al= .int .i64 (q:Int)/\a<=q/\q+1<=i/\i-q<=kx/\u.size=y.size/\Aside (SWK enc k w0 blk off u wr)/\Aside (PermIn a b d u)/\Aside (∀t,u[t]! =fE d a (a+1) (q+1) t))
    case atStart=>exact ⟨a,d,rfl,ax _,G,by omega,hs,A,permIn_refl d a b,λt=>(DF d a (a+1) (a+1) t (.inr rfl) (by omega) (ax _)).symm⟩
    case round=>
     clear A;obtain⟨q,u,rfl,Y,b0,b6,Z,N,P2,E2⟩:=hrel;by_cases ar:q<i-1
     . have an:(q:Int)<(i:Int)-1:=(by omega);have q5:((q:Int)+1).toNat=q+1:=(by omega);have q6:IntKind.i64.wrap ((q:Int)+1)=(q:Int)+1:=(by rw[dD];omega);have b3:(q:Int)<(y.size:Int):=(by omega);have b4:(q:Int)+1<(y.size:Int):=(by omega);have b5:(0:Int)<=(q:Int)+1:=(by omega);have b8:((q:Nat):Int).toNat=q:=(by omega);have b9:((q+1:Nat):Int).toNat=q+1:=(by omega);have D:Aside (SWK enc k w0 blk off (swp u (q) (q+1)) ((wr.drew.setCells blk (off+(q)* k) (enc u[q+1]!)).setCells blk (off+(q+1)* k) (enc u[q]!))):=N.out.swapped R (q) (q+1) (by omega) (by omega);have a6:=N.out.ld1 R (by omega) P (q) (by omega);have a7:=N.out.ld1 R (by omega) P (q+1) (by omega);have a8:=N.out.st1 R (by omega) P (q) (by omega) u[q+1]!;have O:=N.out.st2 R (by omega) P (q) (q+1) (by omega) (by omega) u[q+1]! u[q]!;have ao:(enc u[q]!).length=k:=R.hk _;have aq:(enc u[q+1]!).length=k:=R.hk _;generalize enc u[q]! =cI2 at D a6 O ao;generalize enc u[q+1]! =cJ2 at D a7 a8 O aq;clear N;go_wp2_with fail;go_big_region_o;clear a6 a7 a8 O;generalize (wr.drew.setCells blk (off+q*k) cJ2).setCells blk (off+(q+1)* k) cI2=w3 at D|-;go_wp2_with fail;go_roundg (i-(q+1))
       case measure=>omega
       case rel=>exact ⟨q+1,_,by go_num,by omega,by omega,ax _,by rw[size_swp];exact Z,D,permIn_trans _ _ _ _ _ P2.out (swp_permIn u a b q (q+1) Y (by omega) (by omega) (by omega) (by omega)),UH d u a q b Y (by omega) (by omega) (by omega) E2.out⟩
     . obtain rfl:i=q+1:=(by omega);have an:¬(q:Int)<((q+1:Nat):Int)-1:=(by omega);go_wp2_with fail;refine iw (vZ rfl _ _ _) rfl ?_;exact⟨rfl,u,Z,P2.out,Ja hO d u a (q+1) b G U HR.out H1.out H2.out E2.out,N.out⟩
theorem DI {k:Nat}(L:SortLays P k)(enc:α->List Value)(cf:α->α->Int)(hO:SWO (ltOf cf))(g:Nat)(cb:Array Value)(blk off cap a m:Nat)(y d:Array α)(w0 w:World)
 (eg:∀args w,(callFunc g args).run P w= .ok (.enter g args) w) (E:CmpLays P g cb enc k cf blk off y.size w0)
 (R:RowK enc k w0 blk off y) (hs:d.size=y.size) (S:SWK enc k w0 blk off d w) (av:a+1<m) (hb:m+1<=y.size) (aw:y.size<1000000000) (hr:SortedIn (ltOf cf) a m d):
 Calls P 88 #[.slice (some ⟨blk,off,none⟩) y.size cap,.int .i64 a,.int .i64 m,.int .i64 ((m:Int)+1),.func (.func g) #[] cb] w λe w'=>e= .returned (.tuple #[])/\∃d',d'.size=y.size/\PermIn a (m+1) d d'/\SortedIn (ltOf cf) a (m+1) d'/\SWK enc k w0 blk off d' w':=by
 have mixed:=L.mixed;have t0:=L.t0;have a0:=L.a0;have z0:=L.z0;have v0:=L.v0;have t3:=L.t3;have a3:=L.a3;have z3:=L.z3;have v3:=L.v3;have t4:=L.t4;have a4:=L.a4;have z4:=L.z4;have v4:=L.v4;have t36:=L.t36;have a36:=L.a36;have z36:=L.z36;have v36:=L.v36;have t124:=L.t124;have a124:=L.a124;have z124:=L.z124;have v124:=L.v124;have t96:=L.t96;have a96:=L.a96;have z96:=L.z96;have v96:=L.v96;have aE:=L.aE;have zE:=L.zE;have u36:=jy L.t36;have HC:Aside _:=E;have S0:Aside (SWK enc k w0 blk off d w):=S;have HR:=ae hr;clear S E hr;have i1:IntKind.i64.wrap ((m:Int)-(a:Int))=(m:Int)-(a:Int):=(by rw[dD];omega);have i2:((m:Int)-(a:Int)==1)=false:=(by simp;omega);have i4:¬((m:Int)-(a:Int)=1):=(by omega);have i3:IntKind.i64.wrap ((m:Int)+1-(m:Int))=1:=(by rw[dD];omega);go_enter L.f87,Tryz.ntmps88;go_wp2_with fail;go_loopg [14,15] (m-a) (λkx a8 aa wr=>∃(i j:Nat),a8= .int .i64 (i:Int)/\aa= .int .i64 (j:Int)/\a<=i/\i<=j/\j<=m/\j-i<=kx/\Aside (SWK enc k w0 blk off d wr)/\Aside (∀t,a<=t->t<i->ltOf cf d[m]! d[t]! =false)/\Aside (∀t,j<=t->t<m->ltOf cf d[m]! d[t]! =true))
 case atStart=>exact ⟨a,m,rfl,rfl,ax _,by omega,ax _,by omega,S0,λt h1 h2=>by omega,λt h1 h2=>by omega⟩
 case round=>
  clear S0 i1 i2 i3 i4;obtain⟨i,j,rfl,rfl,U,aD,G,aL,A,H1,H2⟩:=hrel;by_cases aM:i<j
  . have hz:(i:Int)<(j:Int):=(by omega);obtain⟨h,hh⟩:∃h,h=(i+j)/2:=⟨_,rfl⟩;have aR:i<=h/\h<j:=(by omega);have q1:IntKind.i64.wrap ((i:Int)+(j:Int))=(i:Int)+(j:Int):=(by rw[dD];omega);have q2:IntKind.u64.wrap ((i:Int)+(j:Int))=(i:Int)+(j:Int):=(by rw[IntKind.wrap_u64];omega);have q3:((i:Int)+(j:Int))/2=(h:Int):=(by omega);have q4:IntKind.i64.wrap ((h:Int)+1)=(h:Int)+1:=(by rw[dD];omega);have b1:(h:Int)<(y.size:Int):=(by omega);have b2:(m:Int)<(y.size:Int):=(by omega);clear hh;obtain⟨x1,H⟩:∃x,x=d[m]! :=⟨_,rfl⟩;obtain⟨y1,I⟩:∃x,x=d[h]! :=⟨_,rfl⟩;have Lj:=A.out.ld R (by omega) P (m) (by omega);have Ll:=A.out.ld R (by omega) P (h) (by omega);rw[<-H] at Lj;rw[<-I] at Ll;have B:=A.out.cmp HC.out (by omega) x1 y1;have V:=ae H;have S9:=ae I;clear H I;by_cases J:cf x1 y1<0
    . have ab:decide (cf x1 y1<0)=true:=decide_eq_true J;go_wp2_with fail;go_quiet_grown (first|(go_at_fn g;refine Calls.grown_of (B _ _)));have X:Aside (SWK enc k w0 blk off d (grow (wr.drewN nq) osq)):=A.out.grown nq osq;clear Lj Ll B A;generalize grow (wr.drewN nq) osq=w2 at X|-;go_wp2_with fail;go_roundg (h-i)
      case measure=>omega
      case rel=>exact ⟨i,h,rfl,rfl,U,by omega,by omega,ax _,X,H1,λt t1 t2=>by
       have hx:ltOf cf d[m]! d[h]! =true:=(by rw[<-V.out,<-S9.out];exact decide_eq_true J);rcases vT t j with c|c
       . rcases DD t1 with c2|c2
         . cases hq:ltOf cf d[m]! d[t]! with
           |true=>rfl
           |false=>have:=hO.ntrans _ _ _ hq (HR.out h t (by omega) c2 t2);rw[hx] at this;exact absurd this (by decide)
         rw[<-c2];exact hx
       . exact H2.out t c t2⟩
    . have ab:decide (cf x1 y1<0)=false:=eX J;go_wp2_with fail;go_quiet_grown (first|(go_at_fn g;refine Calls.grown_of (B _ _)));have X:Aside (SWK enc k w0 blk off d (grow (wr.drewN nq) osq)):=A.out.grown nq osq;clear Lj Ll B A;generalize grow (wr.drewN nq) osq=w2 at X|-;go_wp2_with fail;go_roundg (j-(h+1))
      case measure=>omega
      case rel=>exact ⟨h+1,j,by go_num,rfl,by omega,by omega,G,ax _,X,λt t1 t2=>by
       have hx:ltOf cf d[m]! d[h]! =false:=(by rw[<-V.out,<-S9.out];exact eX (by omega));rcases DD (show t<=h by omega) with c2|c2;exact hO.ntrans _ _ _ hx (HR.out t h t1 c2 (by omega))
       . rw[c2];exact hx,H2⟩
  . obtain rfl:i=j:=(by omega);have hz:¬(i:Int)<(i:Int):=(by omega);go_wp2_with fail;go_loopg [17] (m-a) (λkx ad wr=>∃(q:Nat) (u:Array α),ad= .int .i64 (q:Int)/\i<=q/\q<=m/\q-i<=kx/\u.size=y.size/\Aside (SWK enc k w0 blk off u wr)/\Aside (PermIn a (m+1) d u)/\Aside (∀t,u[t]! =fE d q m (m+1) t))
    case atStart=>exact ⟨m,d,rfl,G,ax _,by omega,hs,A,permIn_refl d a (m+1),λt=>(DF d m m (m+1) t (.inl rfl) (ax _) (by omega)).symm⟩
    case round=>
     clear A;obtain⟨q,u,rfl,b0,al,b6,Y,N,P2,E2⟩:=hrel;by_cases ar:i<q
     . obtain⟨p,rfl⟩:∃p,q=p+1:=⟨q-1,by omega⟩;have an:(i:Int)<(p:Int)+1:=(by omega);have q5:((p:Int)+1).toNat=p+1:=(by omega);have q6:IntKind.i64.wrap (p:Int)=(p:Int):=(by rw[dD];omega);have b3:(p:Int)<(y.size:Int):=(by omega);have b4:(p:Int)+1<(y.size:Int):=(by omega);have b5:(0:Int)<=(p:Int)+1:=(by omega);have b8:((p+1:Nat):Int).toNat=p+1:=(by omega);have b9:((p:Nat):Int).toNat=p:=(by omega);have D:Aside (SWK enc k w0 blk off (swp u (p+1) (p)) ((wr.drew.setCells blk (off+(p+1)* k) (enc u[p]!)).setCells blk (off+(p)* k) (enc u[p+1]!))):=N.out.swapped R (p+1) (p) (by omega) (by omega);have Z:=N.out.ld1 R (by omega) P (p+1) (by omega);have a6:=N.out.ld1 R (by omega) P (p) (by omega);have a7:=N.out.st1 R (by omega) P (p+1) (by omega) u[p]!;have O:=N.out.st2 R (by omega) P (p+1) (p) (by omega) (by omega) u[p]! u[p+1]!;have ao:(enc u[p+1]!).length=k:=R.hk _;have aq:(enc u[p]!).length=k:=R.hk _;generalize enc u[p+1]! =cI2 at D Z O ao;generalize enc u[p]! =cJ2 at D a6 a7 O aq;clear N;go_wp2_with fail;go_big_region_o;clear Z a6 a7 O;generalize (wr.drew.setCells blk (off+(p+1)* k) cJ2).setCells blk (off+p*k) cI2=w3 at D|-;go_wp2_with fail;go_roundg (p-i)
       case measure=>omega
       case rel=>exact ⟨p,_,by first|rfl|go_num|(congr 1;omega),by omega,by omega,ax _,by rw[size_swp];exact Y,D,permIn_trans _ _ _ _ _ P2.out (swp_permIn u a (m+1) (p+1) p (by omega) (by omega) (by omega) (by omega) (by omega)),λt=>by have:=XJ d u i (p+1) m (by omega) al (by omega) (by omega) E2.out t;simpa using this⟩
     . obtain rfl:i=q:=(by omega);have an:¬(i:Int)<(i:Int):=(by omega);go_wp2_with fail;refine iw (vZ rfl _ _ _) rfl ?_;exact⟨rfl,u,Y,P2.out,MP hO d u a i m U G HR.out H1.out H2.out E2.out,N.out⟩
theorem Jb {k:Nat}(L:SortLays P k)(enc:α->List Value)(cf:α->α->Int)(hO:SWO (ltOf cf))(g:Nat)(cb:Array Value)(blk off cap a m b:Nat)(B d:Array α)(w0 w:World)
 (eg:∀args w,(callFunc g args).run P w= .ok (.enter g args) w) (a7:CmpLays P g cb enc k cf blk off B.size w0)
 (R:RowK enc k w0 blk off B) (hs:d.size=B.size) (S:SWK enc k w0 blk off d w) (bo:a+1<m) (bp:m+1<b) (hb:b<=B.size) (b6:B.size<1000000000) (hl:SortedIn (ltOf cf) a m d) (hr:SortedIn (ltOf cf) m b d)
 (a8:∀(a' m' N:Nat) (A:Array α) (w':World),N-a'<b-a->A.size=B.size->SWK enc k w0 blk off A w'->a'<m'->m'<N->N<=B.size->SortedIn (ltOf cf) a' m' A->SortedIn (ltOf cf) m' N A->
  Calls P 88 #[.slice (some ⟨blk,off,none⟩) B.size cap,.int .i64 a',.int .i64 m',.int .i64 N,.func (.func g) #[] cb] w' λe b8=>e= .returned (.tuple #[])/\∃ab,ab.size=B.size/\PermIn a' N A ab/\SortedIn (ltOf cf) a' N ab/\SWK enc k w0 blk off ab b8):
 Calls P 88 #[.slice (some ⟨blk,off,none⟩) B.size cap,.int .i64 a,.int .i64 m,.int .i64 b,.func (.func g) #[] cb] w λe w'=>e= .returned (.tuple #[])/\∃A,A.size=B.size/\PermIn a b d A/\SortedIn (ltOf cf) a b A/\SWK enc k w0 blk off A w':=by
 have mixed:=L.mixed;have t0:=L.t0;have a0:=L.a0;have z0:=L.z0;have v0:=L.v0;have t3:=L.t3;have a3:=L.a3;have z3:=L.z3;have v3:=L.v3;have t4:=L.t4;have a4:=L.a4;have z4:=L.z4;have v4:=L.v4;have t36:=L.t36;have a36:=L.a36;have z36:=L.z36;have v36:=L.v36;have t124:=L.t124;have a124:=L.a124;have z124:=L.z124;have v124:=L.v124;have t96:=L.t96;have a96:=L.a96;have z96:=L.z96;have v96:=L.v96;have aE:=L.aE;have zE:=L.zE;have u36:=jy L.t36;have bq:∀args w,(callFunc 120 args).run P w= .ok (.enter 120 args) w:=enters_of L.f88 (by kernel_rfl) rfl;have br:∀args w,(callFunc 88 args).run P w= .ok (.enter 88 args) w:=enters_of L.f87 (by kernel_rfl) rfl;have HC:Aside _:=a7;have vU:=ae a8;have b9:=ae (λ(a' m' N:Nat) (A:Array α) (W:World) (h1:A.size=B.size) (h2:SWK enc k w0 blk off A W) (h3:a'<m') (h4:m'<N) (h5:N<=B.size)=>Qk L enc g cb blk off cap a' m' N B A w0 W R h1 h2 h3 h4 h5 b6);have S0:Aside (SWK enc k w0 blk off d w):=S;have HL:=ae hl;have HR:=ae hr;obtain⟨u,O⟩:∃u,u=(a+b)/2:=⟨_,rfl⟩;obtain⟨lo,U⟩:∃lo,lo=if m>u then u+m-b else a:=⟨_,rfl⟩;obtain⟨hi,V⟩:∃hi,hi=if m>u then u else m:=⟨_,rfl⟩;have bd:a<u/\u<b/\a<=lo/\lo<=hi/\hi<=m/\hi<=u/\u+m<=lo+b:=(by by_cases c:m>u;rw[if_pos c] at U V;omega;rw[if_neg c] at U V;omega);have bt:u<m->b<=u+m:=(by omega);obtain⟨bx,bB,bF,ba,bN,bO,bR⟩:=bd;have bc:=ae O;have UI:=ae U;have X:=ae V;have b0:=ae (XK hO d a m b u lo hi O (by omega) (by omega) U V hl hr);have i1:IntKind.i64.wrap ((m:Int)-(a:Int))=(m:Int)-(a:Int):=(by rw[dD];omega);have i2:((m:Int)-(a:Int)==1)=false:=(by simp;omega);have i3:¬((m:Int)-(a:Int)=1):=(by omega);have i4:IntKind.i64.wrap ((b:Int)-(m:Int))=(b:Int)-(m:Int):=(by rw[dD];omega);have i5:((b:Int)-(m:Int)==1)=false:=(by simp;omega);have i6:¬((b:Int)-(m:Int)=1):=(by omega);have i7:IntKind.i64.wrap ((a:Int)+(b:Int))=(a:Int)+(b:Int):=(by rw[dD];omega);have i8:IntKind.u64.wrap ((a:Int)+(b:Int))=(a:Int)+(b:Int):=(by rw[IntKind.wrap_u64];omega);have i9:((a:Int)+(b:Int))/2=(u:Int):=(by omega);have i10:IntKind.i64.wrap ((u:Int)+(m:Int))=(u:Int)+(m:Int):=(by rw[dD];omega);have i11:IntKind.i64.wrap ((u:Int)+(m:Int)-(b:Int))=(u:Int)+(m:Int)-(b:Int):=(by rw[dD];omega);have i12:IntKind.i64.wrap ((u:Int)+(m:Int)-1)=(u:Int)+(m:Int)-1:=(by rw[dD];omega);clear S a7 hl hr a8 O U V;go_enter L.f87,Tryz.ntmps88;go_upto_if 140 with fail;go_cut [20,21] (λD al wx=>D= .int .i64 (lo:Int)/\al= .int .i64 (hi:Int)/\wx=w)
 case first=>as_aux_lemma=>
  clear i1 i2 i3 i4 i5 i6 i7 i8 i9;by_cases hm:u<m
  . have c1:(u:Int)<(m:Int):=(by omega);go_wp2_with fail;go_meet
    case rel=>have:=UI.out;have:=X.out;exact⟨by rw[UI.out,if_pos hm];congr 1;omega,by rw[X.out,if_pos hm],rfl⟩
  . have c1:¬(u:Int)<(m:Int):=(by omega);go_wp2_with fail;go_meet
    case rel=>exact ⟨by rw[UI.out,if_neg hm],by rw[X.out,if_neg hm],rfl⟩
 case rest=>
  obtain⟨rfl,rfl,rfl⟩:=hcut;clear i1 i2 i3 i4 i5 i6 i7 i8 i9 i11;go_wp2_with fail;go_loopg [20,21] (hi-lo) (λkx D al wr=>∃(i j:Nat),D= .int .i64 (i:Int)/\al= .int .i64 (j:Int)/\lo<=i/\i<=j/\j<=hi/\j-i<=kx/\Aside (SWK enc k w0 blk off d wr)/\Aside (∀c,lo<=c->c<i->ltOf cf d[u+m-1-c]! d[c]! =false)/\Aside (∀c,j<=c->c<hi->ltOf cf d[u+m-1-c]! d[c]! =true))
  case atStart=>exact ⟨lo,hi,rfl,rfl,ax _,ba,ax _,ax _,S0,λc h1 h2=>by omega,λc h1 h2=>by omega⟩
  case round=>
   clear S0;obtain⟨i,j,rfl,rfl,b3,bS,b4,c6,H,H1,H2⟩:=hrel;by_cases c7:i<j
   . have hz:(i:Int)<(j:Int):=(by omega);obtain⟨h,hh⟩:∃h,h=(i+j)/2:=⟨_,rfl⟩;have c9:i<=h/\h<j:=(by omega);obtain⟨p,hp⟩:∃p,p=u+m-1-h:=⟨_,rfl⟩;have ca:p<B.size:=(by omega);have q1:IntKind.i64.wrap ((i:Int)+(j:Int))=(i:Int)+(j:Int):=(by rw[dD];omega);have q2:IntKind.u64.wrap ((i:Int)+(j:Int))=(i:Int)+(j:Int):=(by rw[IntKind.wrap_u64];omega);have q3:((i:Int)+(j:Int))/2=(h:Int):=(by omega);have q4:IntKind.i64.wrap ((h:Int)+1)=(h:Int)+1:=(by rw[dD];omega);have q5:(u:Int)+(m:Int)-1-(h:Int)=(p:Int):=(by omega);have q6:IntKind.i64.wrap (p:Int)=(p:Int):=(by rw[dD];omega);have b1:(h:Int)<(B.size:Int):=(by omega);have b2:(p:Int)<(B.size:Int):=(by omega);have HP:=ae hp;clear hh hp;obtain⟨x1,an⟩:∃x,x=d[p]! :=⟨_,rfl⟩;obtain⟨y1,ao⟩:∃x,x=d[h]! :=⟨_,rfl⟩;have Lj:=H.out.ld R (by omega) P (p) (by omega);have Ll:=H.out.ld R (by omega) P (h) (by omega);rw[<-an] at Lj;rw[<-ao] at Ll;have ad:=H.out.cmp HC.out (by omega) x1 y1;have b5:=ae an;have S9:=ae ao;clear an ao;by_cases aq:cf x1 y1<0
     . as_aux_lemma=>
        have I:decide (cf x1 y1<0)=true:=decide_eq_true aq;go_wp2_with fail;go_quiet_grown (first|(go_at_fn g;refine Calls.grown_of (ad _ _)));have S3:Aside (SWK enc k w0 blk off d (grow (wr.drewN nq) osq)):=H.out.grown nq osq;clear Lj Ll ad H;generalize grow (wr.drewN nq) osq=w2 at S3|-;go_wp2_with fail;go_roundg (h-i)
        case measure=>omega
        case rel=>exact ⟨i,h,rfl,rfl,b3,by omega,by omega,ax _,S3,H1,λc t1 t2=>by
         have hx:ltOf cf d[u+m-1-h]! d[h]! =true:=(by rw[<-HP.out,<-b5.out,<-S9.out];exact decide_eq_true aq);rcases DD t1 with c2|c2
         . cases hq:ltOf cf d[u+m-1-c]! d[c]! with
           |true=>rfl
           |false=>have:=b0.out h c (by omega) c2 t2 hq;rw[hx] at this;exact absurd this (by decide)
         . rw[<-c2];exact hx⟩
     . as_aux_lemma=>
        have I:decide (cf x1 y1<0)=false:=eX aq;go_wp2_with fail;go_quiet_grown (first|(go_at_fn g;refine Calls.grown_of (ad _ _)));have S3:Aside (SWK enc k w0 blk off d (grow (wr.drewN nq) osq)):=H.out.grown nq osq;clear Lj Ll ad H;generalize grow (wr.drewN nq) osq=w2 at S3|-;go_wp2_with fail;go_roundg (j-(h+1))
        case measure=>omega
        case rel=>exact ⟨h+1,j,by go_num,rfl,by omega,by omega,b4,ax _,S3,λc t1 t2=>by
         have hx:ltOf cf d[u+m-1-h]! d[h]! =false:=(by rw[<-HP.out,<-b5.out,<-S9.out];exact eX (by omega));rcases DD (show c<=h by omega) with c2|c2;exact b0.out c h t1 c2 (by omega) hx
         . rw[c2];exact hx,H2⟩
   . obtain rfl:i=j:=(by omega);have hz:¬(i:Int)<(i:Int):=(by omega);obtain⟨e,he⟩:∃e,e+i=u+m:=⟨u+m-i,by omega⟩;have q1:(u:Int)+(m:Int)-(i:Int)=(e:Int):=(by omega);have q2:IntKind.i64.wrap (e:Int)=(e:Int):=(by rw[dD];omega);have SC:=ae (λ(A:Array α) (h:∀t,A[t]! =fE d i m e t)=>aaW hO d A a m b u i e bc.out (by omega) (by omega) HL.out HR.out he (by rw[<-UI.out];exact b3) (by rw[<-X.out];exact b4) (by rw[<-UI.out];exact H1.out) (by rw[<-X.out];exact H2.out) h);have sb:i<=m/\m<=e/\e<=b/\u<=e/\i<=u/\a<=i:=(by omega);obtain⟨bf,bh,bj,cc,cg,bk⟩:=sb;clear H1 H2 he;go_upto_region 39 with fail;go_cut [20,24,185] (λD G bl wx=>D= .int .i64 (i:Int)/\G= .int .i64 (e:Int)/\bl= .bool (decide (i<m/\m<e))/\wx=wr)
     case first=>as_aux_lemma=>
      by_cases Y:i<m
      . have c1:(i:Int)<(m:Int):=(by omega);by_cases z2:m<e
        . have c2:(m:Int)<(e:Int):=(by omega);go_wp2_with fail;go_meet
          case rel=>exact ⟨rfl,rfl,by simp[Y,z2],rfl⟩
        . have c2:¬(m:Int)<(e:Int):=(by omega);go_wp2_with fail;go_meet
          case rel=>exact ⟨rfl,rfl,by simp[z2],rfl⟩
      . have c1:¬(i:Int)<(m:Int):=(by omega);go_wp2_with fail;go_meet
        case rel=>exact ⟨rfl,rfl,by simp[Y],rfl⟩
     case rest=>
      obtain⟨rfl,rfl,rfl,rfl⟩:=hcut;go_upto_if 185 with fail;go_cut [20,24] (λD G wx=>D= .int .i64 (i:Int)/\G= .int .i64 (e:Int)/\∃E:Array α,E.size=B.size/\Aside (SWK enc k w0 blk off E wx)/\Aside (PermIn a b d E)/\Aside (∀t,E[t]! =fE d i m e t))
      case first=>as_aux_lemma=>
       by_cases c1:i<m/\m<e
       . have Y:decide (i<m/\m<e)=true:=decide_eq_true c1;have C:=ae (b9.out i m e d _ hs H.out c1.1 c1.2 (by omega));go_wp2_with (go_at_call 120;refine C.out.mono ?_;rintro e2 w2 ⟨rfl,E,I,ar,av,Z⟩;replace Z:Aside _:=Z;replace ar:=ae ar;replace av:=ae av);go_meet
         case rel=>exact ⟨rfl,rfl,E,I,Z,permIn_mono d E i e a b bk bj (by omega) ar.out,av.out⟩
       . have Y:decide (i<m/\m<e)=false:=eX c1;go_wp2_with fail;go_meet
         case rel=>exact ⟨rfl,rfl,d,hs,H,permIn_refl d a b,λt=>(DF d i m e t (by omega) bf bh).symm⟩
      case rest=>
       clear H;obtain⟨rfl,rfl,E,I,H,P1,E1⟩:=hcut;have T1:=ae (SC.out E E1.out);clear SC E1;go_upto_region 41 with fail;go_cut [20,24,199] (λD G bm wx=>D= .int .i64 (i:Int)/\G= .int .i64 (e:Int)/\bm= .bool (decide (a<i/\i<u))/\wx=wc)
       case first=>as_aux_lemma=>
        by_cases Y:a<i
        . have c1:(a:Int)<(i:Int):=(by omega);by_cases z2:i<u
          . have c2:(i:Int)<(u:Int):=(by omega);go_wp2_with fail;go_meet
            case rel=>exact ⟨rfl,rfl,by simp[Y,z2],rfl⟩
          . have c2:¬(i:Int)<(u:Int):=(by omega);go_wp2_with fail;go_meet
            case rel=>exact ⟨rfl,rfl,by simp[z2],rfl⟩
        . have c1:¬(a:Int)<(i:Int):=(by omega);go_wp2_with fail;go_meet
          case rel=>exact ⟨rfl,rfl,by simp[Y],rfl⟩
       case rest=>
        obtain⟨rfl,rfl,rfl,rfl⟩:=hcut;go_upto_if 199 with fail;go_cut [24] (λG wx=>G= .int .i64 (e:Int)/\∃d2:Array α,d2.size=B.size/\Aside (SWK enc k w0 blk off d2 wx)/\Aside (PermIn a u E d2)/\Aside (SortedIn (ltOf cf) a u d2))
        case first=>as_aux_lemma=>
         by_cases c1:a<i/\i<u
         . have Y:decide (a<i/\i<u)=true:=decide_eq_true c1;have C:=ae (vU.out a i u E _ (by omega) I H.out c1.1 c1.2 (by omega) T1.out.2.2.2.2.2.2.1 T1.out.2.2.2.2.2.2.2.1);go_wp2_with (go_at_call 88;refine C.out.mono ?_;rintro e2 w2 ⟨rfl,d2,a6,aw,aD,Z⟩;replace Z:Aside _:=Z;replace aw:=ae aw;replace aD:=ae aD);go_meet
           case rel=>exact ⟨rfl,d2,a6,Z,aw.out,aD.out⟩
         . have Y:decide (a<i/\i<u)=false:=eX c1;go_wp2_with fail;go_meet
           case rel=>exact ⟨rfl,E,I,H,permIn_refl E a u,by
            rcases (show i=a\/i=u by omega) with c|c;have:=T1.out.2.2.2.2.2.2.2.1;rwa [c] at this
            . have:=T1.out.2.2.2.2.2.2.1;rwa [c] at this⟩
        case rest=>
         clear H;obtain⟨rfl,d2,a6,Z,P2,Q2⟩:=hcut;have T2:=ae (λx y (h1:u<=x) (J:x<y) (h2:y<b) (h3:ltOf cf E[y]! E[x]! =false)=>(show ltOf cf d2[y]! d2[x]! =false by rw[P2.out.2.1 x (.inr h1),P2.out.2.1 y (.inr (by omega))];exact h3))
         have fin:∀d3 w3,d3.size=B.size->SWK enc k w0 blk off d3 w3->PermIn u b d2 d3->SortedIn (ltOf cf) u b d3->∃A,A.size=B.size/\PermIn a b d A/\SortedIn (ltOf cf) a b A/\SWK enc k w0 blk off A w3:=λd3 w3 h1 h2 h3 h4=>
          ⟨d3,h1,permIn_trans _ _ _ _ _ (permIn_trans _ _ _ _ _ P1.out (permIn_mono E d2 a u a b (ax _) (by omega) (by omega) P2.out)) (permIn_mono d2 d3 u b a b (by omega) (ax _) (by omega) h3),MQ E d2 d3 a u b (by omega) (by omega) (by omega) T1.out.2.2.2.2.2.2.2.2.2.2 P2.out Q2.out h3 h4,h2⟩
         have aL:=ae fin;have U1:=ae (show SortedIn (ltOf cf) u e d2 from λx y h1 J h2=>T2.out x y h1 J (by omega) (T1.out.2.2.2.2.2.2.2.2.1 x y h1 J h2));have U2:=ae (show SortedIn (ltOf cf) e b d2 from λx y h1 J h2=>T2.out x y (by omega) J h2 (T1.out.2.2.2.2.2.2.2.2.2.1 x y h1 J h2));clear fin T1 T2 P1 P2 Q2;by_cases c1:u<e/\e<b
         . have Y:(u:Int)<(e:Int):=(by omega);have z2:(e:Int)<(b:Int):=(by omega);have C:=ae (vU.out u e b d2 _ (by omega) a6 Z.out c1.1 c1.2 hb U1.out U2.out);go_wp2_with (go_at_call 88;refine C.out.mono ?_;rintro e2 w2 ⟨rfl,d3,bn,aM,aR,S3⟩;replace S3:Aside _:=S3;replace aM:=ae aM;replace aR:=ae aR);go_end0;refine⟨rfl,?_⟩;exact aL.out d3 _ bn S3.out aM.out aR.out
         . have aa:SortedIn (ltOf cf) u b d2:=by
            rcases (show e=u\/e=b by omega) with c|c;have:=U2.out;rwa [c] at this;have:=U1.out;rwa [c] at this
           have HS:=ae aa;clear aa;by_cases Y:u<e
           . have z2:(u:Int)<(e:Int):=(by omega);have z3:¬(e:Int)<(b:Int):=(by omega);go_wp2_with fail;go_end0;refine⟨rfl,?_⟩;exact aL.out d2 _ a6 Z.out (permIn_refl d2 u b) HS.out
           . have z2:¬(u:Int)<(e:Int):=(by omega);go_wp2_with fail;go_end0;refine⟨rfl,?_⟩;exact aL.out d2 _ a6 Z.out (permIn_refl d2 u b) HS.out
theorem Jc {k:Nat}(L:SortLays P k)(enc:α->List Value)(cf:α->α->Int)(hO:SWO (ltOf cf))(g:Nat)(D:Array Value)(blk off cap:Nat)(y:Array α)(w0:World)
 (E:∀args w,(callFunc g args).run P w= .ok (.enter g args) w) (u:CmpLays P g D enc k cf blk off y.size w0) (R:RowK enc k w0 blk off y) (A:y.size<1000000000):
 ∀(s a m b:Nat) (d:Array α) (w:World),b-a<=s->d.size=y.size->SWK enc k w0 blk off d w->a<m->m<b->b<=y.size->SortedIn (ltOf cf) a m d->SortedIn (ltOf cf) m b d->
  Calls P 88 #[.slice (some ⟨blk,off,none⟩) y.size cap,.int .i64 a,.int .i64 m,.int .i64 b,.func (.func g) #[] D] w λe w'=>e= .returned (.tuple #[])/\∃B,B.size=y.size/\PermIn a b d B/\SortedIn (ltOf cf) a b B/\SWK enc k w0 blk off B w':=by
 intro s;induction s with
 |zero=>intro a m b d w h;omega
 |
  succ s ih=>
  intro a m b d w h1 h2 h3 h4 h5 G H I;by_cases c1:m=a+1;subst c1;exact FO L enc cf hO g D blk off cap a b y d w0 w E u R h2 h3 h5 G A I;by_cases c2:b=m+1;subst c2;exact DI L enc cf hO g D blk off cap a m y d w0 w E u R h2 h3 (by omega) G A H;exact Jb L enc cf hO g D blk off cap a m b y d w0 w E u R h2 h3 (by omega) (by omega) G A H I λa' m' J B w' g1 N O U V X Y Z=>ih a' m' J B w' (by omega) N O U V X Y Z
end Go.Proofs.YtfbkkgfkhhibfaaGreat
namespace Iv
open Go.Sort
variable {α : Type} [Inhabited α]
def OU (lt:α->α->Bool)(s a n:Nat)(d:Array α):Prop:=∀x,s ∣ x->x<a->SortedIn lt x (min (x+s) n) d
def AP (lt:α->α->Bool)(s a n:Nat)(d:Array α):Prop:=∀x,s ∣ x->a<=x->x<n->SortedIn lt x (min (x+s) n) d
variable {lt : α -> α -> Bool} {d d' : Array α}
theorem uo {x y:Nat}(h:SortedIn lt x y d)(hk:∀t,x<=t->t<y->d'[t]! =d[t]!):SortedIn lt x y d':=λi j h1 h2 h3=>by
 rw[hk i h1 (by omega),hk j (by omega) h3]
 exact h i j h1 h2 h3
theorem BP {s x a:Nat}(h1:s ∣ x)(h2:s ∣ a)(h:x<a):x+s<=a:=by have:=Nat.le_of_dvd (by omega) (Nat.dvd_sub h2 h1);omega
theorem Fe {s a n:Nat}(hs:s ∣ a)(hn:a+s<=n)(h:OU lt s a n d)(u:PermIn a (a+s) d d')(hr:SortedIn lt a (a+s) d'):OU lt s (a+s) n d':=λx h1 h2=>by
 by_cases c:x<a
 . have:=BP h1 hs c
   exact uo (h x h1 c) λt y A=>u.2.1 t (.inl (by omega))
 . have:x=a:=by
    by_cases c2:a<x;have:=BP hs h1 c2;omega;omega
   subst this;rw[show min (x+s) n=x+s by omega];exact hr
theorem wW {s a n:Nat}(hs:s ∣ a)(hn:a<=n)(u:n<a+s)(h:OU lt s a n d)(y:PermIn a n d d')(hr:SortedIn lt a n d'):AP lt s 0 n d':=λx h1 _ h2=>by
 by_cases c:x<a
 . have:=BP h1 hs c
   exact uo (h x h1 c) λt A B=>y.2.1 t (.inl (by omega))
 . have:x=a:=by
    by_cases c2:a<x;have:=BP hs h1 c2;omega;omega
   subst this;rw[show min (x+s) n=n by omega];exact hr
theorem Sr {s a e n:Nat}(h:AP lt s a n d)(u:a<=e)(y:PermIn a e d d'):AP lt s e n d':=λx h1 h2 h3=>
 uo (h x h1 (by omega) h3) λt A B=>y.2.1 t (.inr (by omega))
theorem KY {s a:Nat}(h:2*s ∣ a):s ∣ a:=Nat.dvd_trans (Nat.dvd_mul_left s 2) h
theorem Ug {s a n:Nat}(h:AP lt s a n d)(hs:2*s ∣ a)(hn:a+s<=n)(h0:0<s):SortedIn lt a (a+s) d:=by have:=h a (KY hs) (ax _) (by omega);rwa [show min (a+s) n=a+s by omega] at this
theorem Uh {s a n:Nat}(h:AP lt s a n d)(hs:2*s ∣ a)(hn:a+s<n):SortedIn lt (a+s) (min (a+s+s) n) d:=
 h (a+s) ((RD (KY hs)).2 (RF s)) (by omega) hn
end Iv
namespace Go.Proofs.YtfbkkgfkhhibfaaGreat
open Go Go.Shelf Go.RowKit Go.Lib Go.Sort Iv
variable {P : Program} {α : Type} [Inhabited α]
theorem Su {k:Nat}(L:SortLays P k)(enc:α->List Value)(cf:α->α->Int)(hO:SWO (ltOf cf))(g:Nat)(cb:Array Value)(blk off cap n:Nat)(D d:Array α)(w0 w:World)
 (eg:∀args w,(callFunc g args).run P w= .ok (.enter g args) w) (G:CmpLays P g cb enc k cf blk off D.size w0)
 (R:RowK enc k w0 blk off D) (hs:d.size=D.size) (S:SWK enc k w0 blk off d w) (hn:n=D.size) (a6:D.size<1000000000):
 Calls P 53 #[.slice (some ⟨blk,off,none⟩) D.size cap,.int .i64 n,.func (.func g) #[] cb] w λe w'=>e= .returned (.tuple #[])/\∃d',d'.size=D.size/\PermIn 0 n d d'/\SortedIn (ltOf cf) 0 n d'/\SWK enc k w0 blk off d' w':=by
 have mixed:=L.mixed;have t0:=L.t0;have a0:=L.a0;have z0:=L.z0;have v0:=L.v0;have t3:=L.t3;have a3:=L.a3;have z3:=L.z3;have v3:=L.v3;have t4:=L.t4;have a4:=L.a4;have z4:=L.z4;have v4:=L.v4;have t36:=L.t36;have a36:=L.a36;have z36:=L.z36;have v36:=L.v36;have t124:=L.t124;have a124:=L.a124;have z124:=L.z124;have v124:=L.v124;have t96:=L.t96;have a96:=L.a96;have z96:=L.z96;have v96:=L.v96;have aE:=L.aE;have zE:=L.zE;have u36:=jy L.t36;have an:∀args w,(callFunc 87 args).run P w= .ok (.enter 87 args) w:=enters_of L.f86 (by kernel_rfl) rfl;have ao:∀args w,(callFunc 88 args).run P w= .ok (.enter 88 args) w:=enters_of L.f87 (by kernel_rfl) rfl;have S0:Aside (SWK enc k w0 blk off d w):=S
 have CI:=ae (λ(a b:Nat) (d':Array α) (W:World) (h1:d'.size=D.size) (h2:SWK enc k w0 blk off d' W) (h3:a<=b) (h4:b<=D.size)=>(F8 L enc cf g cb blk off cap a b D d' w0 W eg G R h1 h2 h3 h4 a6).mono λe w' h=>(show e= .returned (.tuple #[])/\∃J,J.size=D.size/\PermIn a b d' J/\SortedIn (ltOf cf) a b J/\SWK enc k w0 blk off J w' from
  ⟨h.1,_,((insertionSort_holds hO d' a b h3 (by omega)).1.1).trans h1,(insertionSort_holds hO d' a b h3 (by omega)).1,(insertionSort_holds hO d' a b h3 (by omega)).2,h.2⟩))
 have CM:=ae (λ(a m b:Nat) (d':Array α) (W:World) (h1:d'.size=D.size) (h2:SWK enc k w0 blk off d' W)=>Jc L enc cf hO g cb blk off cap D w0 eg G R a6 (b-a) a m b d' W (ax _) h1 h2);have HN:=ae hn;have a7:n<=D.size:=(by omega);have aq:n<1000000000:=(by omega);clear S G hn;go_enter L.f77,Tryz.ntmps53;go_wp2_with fail;go_loopg [7,8] (n) (λkx s7 s8 wr=>∃(a:Nat) (y:Array α),s7= .int .i64 (a:Int)/\s8= .int .i64 ((a:Int)+20)/\a<=n/\n-a<=kx/\y.size=D.size/\Aside (20 ∣ a)/\Aside (SWK enc k w0 blk off y wr)/\Aside (PermIn 0 n d y)/\Aside (OU (ltOf cf) 20 a n y))
 case atStart=>exact ⟨0,d,rfl,rfl,aG _,by omega,hs,⟨0,rfl⟩,S0,permIn_refl d 0 n,λx _ h=>by omega⟩
 case round=>
  clear S0;obtain⟨a,y,rfl,rfl,a8,ar,aa,DV,S1,P1,R1⟩:=hrel;by_cases U:a+20<=n
  . have z1:(a:Int)+20<=(n:Int):=(by omega);have q1:IntKind.i64.wrap ((a:Int)+20+20)=(a:Int)+20+20:=(by rw[dD];omega);have C:=CI.out a (a+20) y wr aa S1.out (by omega) (by omega);rw[show ((a+20:Nat):Int)=(a:Int)+20 by omega] at C;have C:=ae C;go_wp2_with (go_at_call 87;refine C.out.mono ?_;rintro e2 w2 ⟨rfl,d2,V,u,A,N⟩;replace N:Aside _:=N;replace u:=ae u;replace A:=ae A);go_roundg (n-(a+20))
    case measure=>omega
    case rel=>exact ⟨a+20,d2,by go_num,by first|rfl|go_num|(congr 1;omega),U,ax _,V,(RD DV.out).2 (RF 20),N,permIn_trans _ _ _ _ _ P1.out (permIn_mono y d2 a (a+20) 0 n (aG _) U (by omega) u.out),Fe DV.out U R1.out u.out A.out⟩
  . have z1:¬(a:Int)+20<=(n:Int):=(by omega);have C:=ae (CI.out a n y wr aa S1.out a8 a7);go_wp2_with (go_at_call 87;refine C.out.mono ?_;rintro e2 w2 ⟨rfl,d2,V,u,A,N⟩;replace N:Aside _:=N;replace u:=ae u;replace A:=ae A);have P2:Aside (PermIn 0 n d d2):=permIn_trans _ _ _ _ _ P1.out (permIn_mono y d2 a n 0 n (aG _) (ax _) (by omega) u.out);have R2:Aside (AP (ltOf cf) 20 0 n d2):=wW DV.out a8 (by omega) R1.out u.out A.out;clear C S1 P1 R1 u A;go_loopg [6] n (λkx s6 wr=>∃(s:Nat) (y:Array α),s6= .int .i64 (s:Int)/\20<=s/\s<=2000000000/\n-s<=kx/\y.size=D.size/\Aside (SWK enc k w0 blk off y wr)/\Aside (PermIn 0 n d y)/\Aside (AP (ltOf cf) s 0 n y))
    case atStart=>exact ⟨20,d2,rfl,ax _,by omega,by omega,V,N,P2,R2⟩
    case round=>
     clear N P2 R2;obtain⟨s,d3,rfl,av,A,aw,ab,S3,P3,R3⟩:=hrel;by_cases al:s<n
     . have z2:(s:Int)<(n:Int):=(by omega);have q1:IntKind.i64.wrap (2 *(s:Int))=2 *(s:Int):=(by rw[dD];omega);have q2:IntKind.i64.wrap ((s:Int)* 2)=(s:Int)* 2:=(by rw[dD];omega);go_wp2_with fail;go_loopg [7,8] n (λkx s7 s8 wr=>∃(a:Nat) (y:Array α),s7= .int .i64 (a:Int)/\s8= .int .i64 ((a:Int)+2 *(s:Int))/\a<=n/\n-a<=kx/\y.size=D.size/\Aside (2*s ∣ a)/\Aside (SWK enc k w0 blk off y wr)/\Aside (PermIn 0 n d y)/\Aside (OU (ltOf cf) (2*s) a n y)/\Aside (AP (ltOf cf) s a n y))
       case atStart=>exact ⟨0,d3,rfl,by first|rfl|go_num|(congr 1;omega),aG _,by omega,ab,⟨0,rfl⟩,S3,P3,λx _ h=>by omega,R3⟩
       case round=>
        clear S3 P3 R3;obtain⟨a,d4,rfl,rfl,ad,aD,X,B,S4,P4,A4,B4⟩:=hrel;have q3:IntKind.i64.wrap ((a:Int)+(s:Int))=(a:Int)+(s:Int):=(by rw[dD];omega);by_cases H:a+2*s<=n
        . have z3:(a:Int)+2 *(s:Int)<=(n:Int):=(by omega);have q4:IntKind.i64.wrap ((a:Int)+2 *(s:Int)+2 *(s:Int))=(a:Int)+2 *(s:Int)+2 *(s:Int):=(by rw[dD];omega);have C:=CM.out a (a+s) (a+2*s) d4 wr X S4.out (by omega) (by omega) (by omega) (Ug B4.out B.out (by omega) (by omega)) (by have:=Uh B4.out B.out (by omega);rwa [show min (a+s+s) n=a+2*s by omega] at this);rw[show ((a+s:Nat):Int)=(a:Int)+(s:Int) by omega,show ((a+2*s:Nat):Int)=(a:Int)+2 *(s:Int) by omega] at C;have C:=ae C;go_wp2_with (go_at_call 88;refine C.out.mono ?_;rintro e2 w5 ⟨rfl,d5,Y,I,E,Z⟩;replace Z:Aside _:=Z;replace I:=ae I;replace E:=ae E);go_roundg (n-(a+2*s))
          case measure=>omega
          case rel=>exact ⟨a+2*s,d5,by first|rfl|go_num|(congr 1;omega),by first|rfl|go_num|(congr 1;omega),H,ax _,Y,(RD B.out).2 (RF _),Z,permIn_trans _ _ _ _ _ P4.out (permIn_mono d4 d5 a (a+2*s) 0 n (aG _) H (by omega) I.out),Fe B.out H A4.out I.out E.out,Sr B4.out (by omega) I.out⟩
        . have z3:¬(a:Int)+2 *(s:Int)<=(n:Int):=(by omega);by_cases O:a+s<n
          . have z4:(a:Int)+(s:Int)<(n:Int):=(by omega);have C:=CM.out a (a+s) n d4 wr X S4.out (by omega) O a7 (Ug B4.out B.out (by omega) (by omega)) (by have:=Uh B4.out B.out O;rwa [show min (a+s+s) n=n by omega] at this);rw[show ((a+s:Nat):Int)=(a:Int)+(s:Int) by omega] at C;have C:=ae C;go_wp2_with (go_at_call 88;refine C.out.mono ?_;rintro e2 w5 ⟨rfl,d5,Y,I,E,Z⟩;replace Z:Aside _:=Z;replace I:=ae I;replace E:=ae E);go_roundg (n-2*s)
            case measure=>omega
            case rel=>exact ⟨2*s,d5,by first|rfl|go_num|(congr 1;omega),by omega,by omega,ax _,Y,Z,permIn_trans _ _ _ _ _ P4.out (permIn_mono d4 d5 a n 0 n (aG _) (ax _) (by omega) I.out),wW B.out ad (by omega) A4.out I.out E.out⟩
          . have z4:¬(a:Int)+(s:Int)<(n:Int):=(by omega);go_wp2_with fail;go_roundg (n-2*s)
            case measure=>omega
            case rel=>exact ⟨2*s,d4,by first|rfl|go_num|(congr 1;omega),by omega,by omega,ax _,X,S4,P4,wW B.out ad (by omega) A4.out (permIn_refl d4 a n) (by
             by_cases c:a<n;have:=B4.out a (KY B.out) (ax _) c;rwa [show min (a+s) n=n by omega] at this
             . intro i j h1 h2 h3;omega)⟩
     . have z2:¬(s:Int)<(n:Int):=(by omega);go_wp2_with fail;go_end0
       exact⟨rfl,d3,ab,P3.out,by
        by_cases c:0<n;have:=R3.out 0 ⟨0,rfl⟩ (ax _) c;rwa [show min (0+s) n=n by omega] at this
        . intro i j h1 h2 h3;omega,S3.out⟩
theorem Eb {k:Nat}(L:SortLays P k)(enc:α->List Value)(cf:α->α->Int)(hO:SWO (ltOf cf))(g:Nat)(u:Array Value)(blk off cap:Nat)(d:Array α)(w:World)
 (A:∀args w,(callFunc g args).run P w= .ok (.enter g args) w) (a:CmpLays P g u enc k cf blk off d.size w) (R:RowK enc k w blk off d) (y:d.size<1000000000):
 Calls P 31 #[.slice (some ⟨blk,off,none⟩) d.size cap,.func (.func g) #[] u] w λe w'=>e= .returned (.tuple #[])/\∃d',d'.size=d.size/\PermIn 0 d.size d d'/\SortedIn (ltOf cf) 0 d.size d'/\SWK enc k w blk off d' w':=by have mixed:=L.mixed;have t0:=L.t0;have a0:=L.a0;have z0:=L.z0;have v0:=L.v0;have t3:=L.t3;have a3:=L.a3;have z3:=L.z3;have v3:=L.v3;have t4:=L.t4;have a4:=L.a4;have z4:=L.z4;have v4:=L.v4;have t36:=L.t36;have a36:=L.a36;have z36:=L.z36;have v36:=L.v36;have t124:=L.t124;have a124:=L.a124;have z124:=L.z124;have v124:=L.v124;have t96:=L.t96;have a96:=L.a96;have z96:=L.z96;have v96:=L.v96;have aE:=L.aE;have zE:=L.zE;have u36:=jy L.t36;have B:∀args w,(callFunc 53 args).run P w= .ok (.enter 53 args) w:=enters_of L.f77 (by kernel_rfl) rfl;have C:=ae (Su L enc cf hO g u blk off cap d.size d d w w A a R rfl (SWK.start R.hH) rfl y);clear a;go_enter L.f62,Tryz.ntmps31;go_wp2_with (go_at_call 53;refine C.out.mono ?_;rintro D E ⟨rfl,H⟩;replace H:=ae H);go_end0;exact⟨rfl,H.out⟩
