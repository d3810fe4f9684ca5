/- Words. -/
import Derived.Test.YtfbkkgfkhhibfaaGreatFct
import Derived.Test.YtfbkkgfkhhibfaaGreatProg
import Derived.Test.YtfbkkgfkhhibfaaGreatPsym
import Derived.Shelf.SlSortCmp.KitK
import Derived.Sort.WalkA
import Derived.Deep.LoopGhost
set_option linter.unusedVariables false
set_option maxRecDepth 100000
set_option maxHeartbeats 8000000
namespace Go.Proofs.YtfbkkgfkhhibfaaGreat
open Go Go.Shelf Go.RowKit Go.Lib Go.Sort Iv
structure SortLays (P:Program)(k:Nat):Prop where
 mixed:P.follows .mixedOrders=true
 f62:P.funcs[31]?=some Tryz.f31
 f77:P.funcs[53]?=some Tryz.f53
 f86:P.funcs[87]?=some Tryz.f87
 f87:P.funcs[88]?=some Tryz.f88
 f88:P.funcs[120]?=some Tryz.f120
 f89:P.funcs[155]?=some Tryz.f155
 t0:P.underlying 0=some (TypeDesc.tuple #[])
 a0:∀w,(isAgg 0).run P w= .ok false w
 z0:∀w,(Go.sizeOf 0).run P w= .ok 1 w
 v0:∀w,(zeroValue 0).run P w= .ok (Value.tuple #[]) w
 t3:P.underlying 3=some (TypeDesc.int IntKind.i64)
 a3:∀w,(isAgg 3).run P w= .ok false w
 z3:∀w,(Go.sizeOf 3).run P w= .ok 1 w
 v3:∀w,(zeroValue 3).run P w= .ok (Value.int IntKind.i64 0) w
 t4:P.underlying 4=some (TypeDesc.bool)
 a4:∀w,(isAgg 4).run P w= .ok false w
 z4:∀w,(Go.sizeOf 4).run P w= .ok 1 w
 v4:∀w,(zeroValue 4).run P w= .ok (Value.bool false) w
 t36:P.underlying 48=some (TypeDesc.slice 54)
 a36:∀w,(isAgg 48).run P w= .ok false w
 z36:∀w,(Go.sizeOf 48).run P w= .ok 1 w
 v36:∀w,(zeroValue 48).run P w= .ok (Value.slice none 0 0) w
 t124:P.underlying 100=some (TypeDesc.func #[54,54] #[3] false)
 a124:∀w,(isAgg 100).run P w= .ok false w
 z124:∀w,(Go.sizeOf 100).run P w= .ok 1 w
 v124:∀w,(zeroValue 100).run P w= .ok (Value.nilFunc) w
 t96:P.underlying 132=some (TypeDesc.int IntKind.u64)
 a96:∀w,(isAgg 132).run P w= .ok false w
 z96:∀w,(Go.sizeOf 132).run P w= .ok 1 w
 v96:∀w,(zeroValue 132).run P w= .ok (Value.int IntKind.u64 0) w
 aE:∀w,(isAgg 54).run P w= .ok true w
 zE:∀w,(Go.sizeOf 54).run P w= .ok k w
variable {P : Program} {α : Type} [Inhabited α]
theorem F7 {k:Nat}(L:SortLays P k)(enc:α->List Value)(g:Nat)(Z:Array Value)(blk off cap a b n:Nat)(A d:Array α)(w0 w:World)
 (R:RowK enc k w0 blk off A) (hs:d.size=A.size) (S:SWK enc k w0 blk off d w) (a6:a+n<=b) (hb:b+n<=A.size) (a7:A.size<1000000000):
 Calls P 155 #[.slice (some ⟨blk,off,none⟩) A.size cap,.int .i64 a,.int .i64 b,.int .i64 n,.func (.func g) #[] Z] w λe w'=>e= .returned (.tuple #[])/\SWK enc k w0 blk off (oV d a b n) w':=by
 have mixed:=L.mixed;have t0:=L.t0;have a0:=L.a0;have z0:=L.z0;have v0:=L.v0;have t3:=L.t3;have a3:=L.a3;have z3:=L.z3;have v3:=L.v3;have t4:=L.t4;have a4:=L.a4;have z4:=L.z4;have v4:=L.v4;have t36:=L.t36;have a36:=L.a36;have z36:=L.z36;have v36:=L.v36;have t124:=L.t124;have a124:=L.a124;have z124:=L.z124;have v124:=L.v124;have t96:=L.t96;have a96:=L.a96;have z96:=L.z96;have v96:=L.v96;have aE:=L.aE;have zE:=L.zE;have u36:=jy L.t36;have V:Aside (SWK enc k w0 blk off d w):=S;clear S;go_enter L.f89,Tryz.ntmps155;go_wp2;go_loopg [10] n (λkx H wr=>∃(i:Nat),H= .int .i64 (i:Int)/\i<=n/\n-i<=kx/\Aside (SWK enc k w0 blk off (oV d a b i) wr))
 case atStart=>exact ⟨0,rfl,aG _,by omega,V⟩
 case round=>
  clear V;obtain⟨i,rfl,a8,aa,B⟩:=hrel;by_cases I:i<n
  . have hz:(i:Int)<(n:Int):=(by omega);have J:(oV d a b i).size=A.size:=(by rw[jZ];exact hs);generalize E:oV d a b i=u at J B;have N:=ae E;clear E;have q1:(0:Int)<=(a:Int)+(i:Int):=(by omega);have q2:(a:Int)+(i:Int)<(A.size:Int):=(by omega);have q3:(0:Int)<=(b:Int)+(i:Int):=(by omega);have q4:(b:Int)+(i:Int)<(A.size:Int):=(by omega);have q5:((a:Int)+(i:Int)).toNat=a+i:=(by omega);have q6:((b:Int)+(i:Int)).toNat=b+i:=(by omega);have q7:IntKind.i64.wrap ((a:Int)+(i:Int))=(a:Int)+(i:Int):=(by rw[dD];omega);have q8:IntKind.i64.wrap ((b:Int)+(i:Int))=(b:Int)+(i:Int):=(by rw[dD];omega);have ab:((a+i:Nat):Int).toNat=a+i:=(by omega);have ad:((b+i:Nat):Int).toNat=b+i:=(by omega);have y:Aside (SWK enc k w0 blk off (swp u (a+i) (b+i)) ((wr.drew.setCells blk (off+(a+i)* k) (enc u[b+i]!)).setCells blk (off+(b+i)* k) (enc u[a+i]!))):=B.out.swapped R (a+i) (b+i) (by omega) (by omega);have X:=B.out.ld1 R (by omega) P (a+i) (by omega);have Y:=B.out.ld1 R (by omega) P (b+i) (by omega);have G:=B.out.st1 R (by omega) P (a+i) (by omega) u[b+i]!;have D:=B.out.st2 R (by omega) P (a+i) (b+i) (by omega) (by omega) u[b+i]! u[a+i]!;have O:(enc u[a+i]!).length=k:=R.hk _;have U:(enc u[b+i]!).length=k:=R.hk _;generalize enc u[a+i]! =cI1 at y X D O;generalize enc u[b+i]! =cJ1 at y Y G D U;clear B;go_wp2_with fail;go_big_region_o;clear X Y G D;generalize (wr.drew.setCells blk (off+(a+i)* k) cJ1).setCells blk (off+(b+i)* k) cI1=w2 at y|-;go_wp2;go_roundg (n-(i+1))
    case measure=>omega
    case rel=>exact ⟨i+1,by go_num,I,ax _,by unfold oV;rw[N.out];exact y⟩
  . obtain rfl:i=n:=(by omega);have hz:¬(i:Int)<(i:Int):=(by omega);go_wp2;go_end0;exact⟨rfl,B.out⟩
theorem Qk {k:Nat}(L:SortLays P k)(enc:α->List Value)(g:Nat)(cb:Array Value)(blk off cap a m b:Nat)(B d:Array α)(w0 w:World)
 (R:RowK enc k w0 blk off B) (hs:d.size=B.size) (S:SWK enc k w0 blk off d w) (a6:a<m) (a7:m<b) (hb:b<=B.size) (G:B.size<1000000000):
 Calls P 120 #[.slice (some ⟨blk,off,none⟩) B.size cap,.int .i64 a,.int .i64 m,.int .i64 b,.func (.func g) #[] cb] w λe w'=>e= .returned (.tuple #[])/\∃D,D.size=B.size/\PermIn a b d D/\(∀t,D[t]! =fE d a m b t)/\SWK enc k w0 blk off D w':=by
 have mixed:=L.mixed;have t0:=L.t0;have a0:=L.a0;have z0:=L.z0;have v0:=L.v0;have t3:=L.t3;have a3:=L.a3;have z3:=L.z3;have v3:=L.v3;have t4:=L.t4;have a4:=L.a4;have z4:=L.z4;have v4:=L.v4;have t36:=L.t36;have a36:=L.a36;have z36:=L.z36;have v36:=L.v36;have t124:=L.t124;have a124:=L.a124;have z124:=L.z124;have v124:=L.v124;have t96:=L.t96;have a96:=L.a96;have z96:=L.z96;have v96:=L.v96;have aE:=L.aE;have zE:=L.zE;have u36:=jy L.t36;have a8:∀args w,(callFunc 155 args).run P w= .ok (.enter 155 args) w:=enters_of L.f89 (by kernel_rfl) rfl;have S0:Aside (SWK enc k w0 blk off d w):=S;have H:=ae (λ(a' I J:Nat) (D:Array α) (W:World) (h1:D.size=B.size) (h2:SWK enc k w0 blk off D W) (h3:a'+J<=I) (h4:I+J<=B.size)=>F7 L enc g cb blk off cap a' I J B D w0 W R h1 h2 h3 h4 G);clear S;have i1:IntKind.i64.wrap ((m:Int)-(a:Int))=((m-a:Nat):Int):=(by rw[dD];omega);have i2:IntKind.i64.wrap ((b:Int)-(m:Int))=((b-m:Nat):Int):=(by rw[dD];omega);go_enter L.f88,Tryz.ntmps120;go_wp2_with fail;go_loopg [10,11] (b-a) (λkx N O wr=>∃(i j:Nat) (u:Array α),N= .int .i64 (i:Int)/\O= .int .i64 (j:Int)/\0<i/\0<j/\i<=m-a/\j<=b-m/\i+j<=kx/\u.size=B.size/\Aside (SWK enc k w0 blk off u wr)/\Aside (PermIn a b d u)/\Aside (∀t,fE u (m-i) m (m+j) t=fE d a m b t))
 case atStart=>exact ⟨m-a,b-m,d,by first|rfl|(congr 1;omega),by first|rfl|(congr 1;omega),by omega,by omega,ax _,ax _,by omega,hs,S0,permIn_refl d a b,λt=>by rw[show m-(m-a)=a by omega,show m+(b-m)=b by omega]⟩
 case round=>
  clear S0 i1 i2;obtain⟨i,j,u,rfl,rfl,hi,hj,U,V,aa,y,X,Y,Z⟩:=hrel;have j1:IntKind.i64.wrap ((m:Int)-(i:Int))=(m:Int)-(i:Int):=(by rw[dD];omega);rcases Nat.lt_trichotomy i j with E|E|E
  . have n1:¬(i:Int)=(j:Int):=(by omega);have n2:¬(j:Int)<(i:Int):=(by omega);have n3:((i:Int) !=(j:Int))=true:=(by simp;omega);have j2:IntKind.i64.wrap ((m:Int)+(j:Int))=(m:Int)+(j:Int):=(by rw[dD];omega);have j3:IntKind.i64.wrap ((m:Int)+(j:Int)-(i:Int))=(m:Int)+(j:Int)-(i:Int):=(by rw[dD];omega);have j4:IntKind.i64.wrap ((j:Int)-(i:Int))=(j:Int)-(i:Int):=(by rw[dD];omega);have C:=H.out (m-i) (m+j-i) i u wr y X.out (by omega) (by omega);rw[show ((m-i:Nat):Int)=(m:Int)-(i:Int) by omega,show ((m+j-i:Nat):Int)=(m:Int)+(j:Int)-(i:Int) by omega] at C;have C:=ae C;go_wp2_with (go_at_call 155;refine C.out.mono ?_;rintro e w2 ⟨rfl,A⟩;replace A:Aside _:=A);go_roundg (i+(j-i))
    case measure=>omega
    case rel=>exact ⟨i,j-i,_,rfl,by first|rfl|(congr 1;omega),hi,by omega,U,by omega,ax _,by rw[jZ];exact y,A,permIn_trans _ _ _ _ _ Y.out (wO u a b _ _ _ (by omega) (by omega) (by omega) (by omega)),λt=>by have:=Vr u (m-i) m (m+j) (by omega) (by omega) (by omega) (by omega) t;rw[show m-(m-i)=i by omega] at this;rw[show m+(j-i)=m+j-i by omega,this];exact Z.out t⟩
  . subst E;have C:=H.out (m-i) m i u wr y X.out (by omega) (by omega);rw[show ((m-i:Nat):Int)=(m:Int)-(i:Int) by omega] at C;have C:=ae C;go_wp2_with (go_at_call 155;refine C.out.mono ?_;rintro e w2 ⟨rfl,A⟩;replace A:Aside _:=A);go_end0;exact⟨rfl,_,by rw[jZ];exact y,permIn_trans _ _ _ _ _ Y.out (wO u a b _ _ _ (by omega) (by omega) (by omega) (by omega)),λt=>by have:=YV u (m-i) m (m+i) (by omega) (by omega) (by omega) (by omega) t;rw[show m-(m-i)=i by omega] at this;rw[this];exact Z.out t,A.out⟩
  . have n1:¬(i:Int)=(j:Int):=(by omega);have n2:(j:Int)<(i:Int):=(by omega);have n3:((i:Int) !=(j:Int))=true:=(by simp;omega);have j4:IntKind.i64.wrap ((i:Int)-(j:Int))=(i:Int)-(j:Int):=(by rw[dD];omega);have C:=H.out (m-i) m j u wr y X.out (by omega) (by omega);rw[show ((m-i:Nat):Int)=(m:Int)-(i:Int) by omega] at C;have C:=ae C;go_wp2_with (go_at_call 155;refine C.out.mono ?_;rintro e w2 ⟨rfl,A⟩;replace A:Aside _:=A);go_roundg ((i-j)+j)
    case measure=>omega
    case rel=>exact ⟨i-j,j,_,by first|rfl|(congr 1;omega),rfl,by omega,hj,by omega,V,ax _,by rw[jZ];exact y,A,permIn_trans _ _ _ _ _ Y.out (wO u a b _ _ _ (by omega) (by omega) (by omega) (by omega)),λt=>by have:=Vs u (m-i) m (m+j) (by omega) (by omega) (by omega) (by omega) t;rw[show m+j-m=j by omega] at this;rw[show m-(i-j)=m-i+j by omega,this];exact Z.out t⟩
theorem F8 {k:Nat}(L:SortLays P k)(enc:α->List Value)(cf:α->α->Int)(g:Nat)(cb:Array Value)(blk off cap a b:Nat)(y d:Array α)(w0 w:World)
 (eg:∀args w,(callFunc g args).run P w= .ok (.enter g args) w) (G:CmpLays P g cb enc k cf blk off y.size w0)
 (R:RowK enc k w0 blk off y) (hs:d.size=y.size) (S:SWK enc k w0 blk off d w) (av:a<=b) (hb:b<=y.size) (aw:y.size<1000000000):
 Calls P 87 #[.slice (some ⟨blk,off,none⟩) y.size cap,.int .i64 a,.int .i64 b,.func (.func g) #[] cb] w λe w'=>e= .returned (.tuple #[])/\SWK enc k w0 blk off (Sort.insertionSort (ltOf cf) d a b) w':=by
 have mixed:=L.mixed;have t0:=L.t0;have a0:=L.a0;have z0:=L.z0;have v0:=L.v0;have t3:=L.t3;have a3:=L.a3;have z3:=L.z3;have v3:=L.v3;have t4:=L.t4;have a4:=L.a4;have z4:=L.z4;have v4:=L.v4;have t36:=L.t36;have a36:=L.a36;have z36:=L.z36;have v36:=L.v36;have t124:=L.t124;have a124:=L.a124;have z124:=L.z124;have v124:=L.v124;have t96:=L.t96;have a96:=L.a96;have z96:=L.z96;have v96:=L.v96;have aE:=L.aE;have zE:=L.zE;have u36:=jy L.t36;have HC:Aside _:=G;have S0:Aside (SWK enc k w0 blk off d w):=S;clear S G;have i1:IntKind.i64.wrap ((a:Int)+1)=(a:Int)+1:=(by rw[dD];omega);go_enter L.f86,Tryz.ntmps87;go_wp2;go_loopg [8] (b-a) (λg1 vi wr=>∃(i:Nat) (O:Array α),vi= .int .i64 i/\a<i/\i<=b+1/\b+1-i<=g1+1/\O.size=y.size/\Aside (SWK enc k w0 blk off O wr)/\Hid (insOuter (ltOf cf) a b i O=insOuter (ltOf cf) a b (a+1) d))
 case atStart=>exact ⟨a+1,d,by go_num,by omega,by omega,by omega,hs,S0,rfl⟩
 case round=>
  clear S0 i1;obtain⟨i,O,rfl,aD,hib,aL,a6,S1,HO⟩:=hrel;by_cases U:i<b
  . have V:(i:Int)<(b:Int):=(by omega);have i2:IntKind.i64.wrap ((i:Int)+1)=(i:Int)+1:=(by rw[dD];omega);go_wp2;go_loopg [9] i (λg2 vj a7=>∃(j:Nat) (dj:Array α),vj= .int .i64 j/\a<=j/\j<=i/\j<=g2/\dj.size=y.size/\Aside (SWK enc k w0 blk off dj a7)/\Hid (insInner (ltOf cf) a j dj=insInner (ltOf cf) a i O))
    case atStart=>exact ⟨i,O,rfl,by omega,ax _,ax _,a6,S1,rfl⟩
    case round=>
     clear S1;obtain⟨j,dj,rfl,aM,aR,b0,I,H,HI⟩:=hrel;have out:(j<=a\/ltOf cf dj[j]! dj[j-1]! =false)->Hid (insOuter (ltOf cf) a b (i+1) dj=insOuter (ltOf cf) a b (a+1) d):=(λhs=>by show _=_;rw[<-HO.out,insOuter_go _ _ _ _ _ U,<-HI.out,insInner_stop _ _ _ _ hs]);have X:Aside _:=out;clear out;by_cases a8:a<j
     . have Y:(a:Int)<(j:Int):=(by omega);obtain⟨u,rfl⟩:∃u,j=u+1:=⟨j-1,by omega⟩;obtain⟨xj,B⟩:∃x,dj[u+1]! =x:=⟨_,rfl⟩;obtain⟨xp,D⟩:∃x,dj[u]! =x:=⟨_,rfl⟩;have b1:IntKind.i64.wrap (u:Int)=(u:Int):=(by rw[dD];omega);have jz:(u:Int)+1<(y.size:Int):=(by omega);have b2:(u:Int)<(y.size:Int):=(by omega);have J:(a:Int)<(u:Int)+1:=(by omega);have p0:(0:Int)<=(u:Int)+1:=(by omega);have e0:((u:Int)+1).toNat=u+1:=(by omega);have Lj:=H.out.ld R (by omega) P (u+1) (by omega);have Ll:=H.out.ld R (by omega) P u (by omega);have E:=H.out.cmp HC.out (by omega) xj xp;rw[B] at Lj;rw[D] at Ll;by_cases aa:cf xj xp<0
       . go_wp2_with fail;go_quiet_grown (first|(go_at_fn g;refine Calls.grown_of (E _ _)));go_wp2_with fail;have A:Aside (SWK enc k w0 blk off dj (grow (wr.drewN nq) osq)):=H.out.grown nq osq;clear Lj Ll E H;generalize grow (wr.drewN nq) osq=w2 at A|-;have N:Aside (SWK enc k w0 blk off (swp dj (u+1) u) ((w2.drew.setCells blk (off+(u+1)* k) (enc dj[u]!)).setCells blk (off+u*k) (enc dj[u+1]!))):=A.out.swapped R (u+1) u (by omega) (by omega);have ab:=A.out.ld1 R (by omega) P (u+1) (by omega);have ad:=A.out.ld1 R (by omega) P u (by omega);have al:=A.out.st1 R (by omega) P (u+1) (by omega) dj[u]!;have Z:=A.out.st2 R (by omega) P (u+1) u (by omega) (by omega) dj[u]! dj[u+1]!;have an:(enc dj[u+1]!).length=k:=R.hk _;have ao:(enc dj[u]!).length=k:=R.hk _;have aq:=ae B;have ar:=ae D;clear B D;generalize enc dj[u+1]! =cI at N ab Z an;generalize enc dj[u]! =cJ at N ad al Z ao;clear A;go_big_region_o;(all_goals go_wp2);go_roundg u
         case measure=>omega
         case rel=>refine⟨u,swp dj (u+1) u,by first|rfl|go_num|(congr 1;omega),by omega,by omega,ax _,by rw[size_swp];exact I,N,(show Hid _ from ?_)⟩;show _=_;have:=insInner_go (ltOf cf) a (u+1) dj a8 (by simp only[ve];rw[aq.out,ar.out];exact decide_eq_true aa);simp only[ve] at this;rw[<-HI.out,this]
       . go_wp2_with fail;go_quiet_grown (first|(go_at_fn g;refine Calls.grown_of (E _ _)));have A:Aside (SWK enc k w0 blk off dj (grow (wr.drewN nq) osq)):=H.out.grown nq osq;clear Lj Ll E H;generalize grow (wr.drewN nq) osq=w2 at A|-;go_wp2;go_roundg (b-(i+1))
         case measure=>omega
         case rel=>exact ⟨i+1,dj,by go_num,by omega,by omega,by omega,I,A,X.out (Or.inr (by simp only[ve];rw[B,D];exact eX (by omega)))⟩
     . have Y:decide ((j:Int)>(a:Int))=false:=eX (by omega);have J:¬(a:Int)<(j:Int):=(by omega);go_wp2_with fail;go_big_region_o;(all_goals go_wp2);go_roundg (b-(i+1))
       case measure=>omega
       case rel=>exact ⟨i+1,dj,by go_num,by omega,by omega,by omega,I,H.out.drew,X.out (Or.inl (by omega))⟩
  . have V:¬(i:Int)<(b:Int):=(by omega);go_wp2;go_end0;exact⟨rfl,by unfold Sort.insertionSort;rw[<-HO.out,insOuter_stop _ _ _ _ _ U];exact S1.out⟩
