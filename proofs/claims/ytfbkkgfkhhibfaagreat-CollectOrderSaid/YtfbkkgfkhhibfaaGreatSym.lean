/- Words. -/
import Derived.Test.YtfbkkgfkhhibfaaGreatSrt
import Derived.Deep.Cut
import Derived.Deep.DeepCutAuto
set_option linter.unusedVariables false
set_option maxRecDepth 100000
set_option maxHeartbeats 8000000
namespace Go.Proofs.YtfbkkgfkhhibfaaGreat
open Go Go.Shelf Go.RowKit Go.Lib Go.Sort Iv
variable {P : Program} {α : Type} [Inhabited α]
theorem Aa {k:Nat}(L:SortLays P k)(enc:α→List Value)(cf:α→α→Int)(hO:SWO (ltOf cf))(g:Nat)(cb:Array Value)(blk off cap a b:Nat)(d0 d:Array α)(w0 w:World)
 (eg:∀args w,(callFunc g args).run P w= .ok (.enter g args) w) (hcmp:CmpLays P g cb enc k cf blk off d0.size w0)
 (R:RowK enc k w0 blk off d0) (hs:d.size=d0.size) (S:SWK enc k w0 blk off d w) (hab:a+1 < b) (hb:b≤d0.size) (hsz:d0.size < 1000000000) (hr:SortedIn (ltOf cf) (a+1) b d):
 Calls P 88 #[.slice (some ⟨blk,off,none⟩) d0.size cap,.int .i64 a,.int .i64 ((a:Int)+1),.int .i64 b,.func (.func g) #[] cb] w fun e w'=>e= .returned (.tuple #[])∧∃d',d'.size=d0.size∧PermIn a b d d'∧SortedIn (ltOf cf) a b d'∧SWK enc k w0 blk off d' w':=by
 have mixed:=L.mixed;have t0:=L.t0;have a0:=L.a0;have z0:=L.z0;have v0:=L.v0;have t3:=L.t3;have a3:=L.a3;have z3:=L.z3;have v3:=L.v3;have t4:=L.t4;have a4:=L.a4;have z4:=L.z4;have v4:=L.v4;have t36:=L.t36;have a36:=L.a36;have z36:=L.z36;have v36:=L.v36;have t124:=L.t124;have a124:=L.a124;have z124:=L.z124;have v124:=L.v124;have t96:=L.t96;have a96:=L.a96;have z96:=L.z96;have v96:=L.v96;have aE:=L.aE;have zE:=L.zE;have u36:=run_underlying L.t36;have HC:Aside _:=hcmp;have S0:Aside (SWK enc k w0 blk off d w):=S;have HR:=ae hr;clear S hcmp hr;have i1:IntKind.i64.wrap ((a:Int)+1 - (a:Int))=1:=by rw[IntKind.wrap_i64];omega
 have i2:IntKind.i64.wrap ((a:Int)+1)=(a:Int)+1:=by rw[IntKind.wrap_i64];omega
 go_enter L.f87,Tryz.ntmps88;go_wp2_with fail;go_loopg [10,11] (b - a) (fun kx s10 s11 wr=>∃(i j:Nat),s10= .int .i64 (i:Int)∧s11= .int .i64 (j:Int)∧a+1≤i∧i≤j∧j≤b∧j - i≤kx∧Aside (SWK enc k w0 blk off d wr)∧Aside (∀t,a+1≤t→t < i→ltOf cf d[t]! d[a]! =true)∧Aside (∀t,j≤t→t < b→ltOf cf d[t]! d[a]! =false))
 case atStart=>exact ⟨a+1,b,by go_num,rfl,Nat.le_refl _,by omega,Nat.le_refl _,by omega,S0,fun t h1 h2=>by omega,fun t h1 h2=>by omega⟩
 case round=>
  clear S0 i1;obtain⟨i,j,rfl,rfl,hai,hij,hjb,hkx,S1,H1,H2⟩:=hrel;by_cases hlt:i < j
  · have hz:(i:Int) < (j:Int):=by omega
    obtain⟨h,hh⟩:∃h,h=(i+j) / 2:=⟨_,rfl⟩;have hb1:i≤h∧h < j:=by omega
    have q1:IntKind.i64.wrap ((i:Int)+(j:Int))=(i:Int)+(j:Int):=by rw[IntKind.wrap_i64];omega
    have q2:IntKind.u64.wrap ((i:Int)+(j:Int))=(i:Int)+(j:Int):=by rw[IntKind.wrap_u64];omega
    have q3:((i:Int)+(j:Int)) / 2=(h:Int):=by omega
    have q4:IntKind.i64.wrap ((h:Int)+1)=(h:Int)+1:=by rw[IntKind.wrap_i64];omega
    have b1:(h:Int) < (d0.size:Int):=by omega
    have b2:(a:Int) < (d0.size:Int):=by omega
    clear hh;obtain⟨x1,hx1⟩:∃x,x=d[h]! :=⟨_,rfl⟩;obtain⟨y1,hy1⟩:∃x,x=d[a]! :=⟨_,rfl⟩;have FP:=S1.out.ld R (by omega) P (h) (by omega);have FQ:=S1.out.ld R (by omega) P (a) (by omega);rw[←hx1] at FP;rw[←hy1] at FQ;have hc1:=S1.out.cmp HC.out (by omega) x1 y1;have YD:=ae hx1;have Nw:=ae hy1;clear hx1 hy1;by_cases hlv:cf x1 y1 < 0
    · have hd1:decide (cf x1 y1 < 0)=true:=decide_eq_true hlv;go_wp2_with fail;go_quiet_grown (first | (go_at_fn g;refine Calls.grown_of (hc1 _ _)));have S3:Aside (SWK enc k w0 blk off d (grow (wr.drewN nq) osq)):=S1.out.grown nq osq;clear FP FQ hc1 S1;generalize grow (wr.drewN nq) osq=w2 at S3⊢;go_wp2_with fail;go_roundg (j - (h+1))
      case measure=>omega
      case rel=>exact ⟨h+1,j,by go_num,rfl,by omega,by omega,hjb,Nat.le_refl _,S3,fun t t1 t2=>by
       rcases Nat.lt_or_ge t i with c | c
       · exact H1.out t t1 c
       · have hx:ltOf cf d[h]! d[a]! =true:=by rw[←YD.out,←Nw.out];exact decide_eq_true hlv
         rcases Nat.lt_or_eq_of_le (show t≤h by omega) with c2 | c2
         · cases hq:ltOf cf d[t]! d[a]! with
           | true=>rfl
           | false=>have:=hO.ntrans _ _ _ (HR.out t h (by omega) c2 (by omega)) hq;rw[hx] at this;exact absurd this (by decide)
         · rw[c2];exact hx,H2⟩
    · have hd1:decide (cf x1 y1 < 0)=false:=decide_eq_false hlv;go_wp2_with fail;go_quiet_grown (first | (go_at_fn g;refine Calls.grown_of (hc1 _ _)));have S3:Aside (SWK enc k w0 blk off d (grow (wr.drewN nq) osq)):=S1.out.grown nq osq;clear FP FQ hc1 S1;generalize grow (wr.drewN nq) osq=w2 at S3⊢;go_wp2_with fail;go_roundg (h - i)
      case measure=>omega
      case rel=>exact ⟨i,h,rfl,rfl,hai,by omega,by omega,Nat.le_refl _,S3,H1,fun t t1 t2=>by
       have hx:ltOf cf d[h]! d[a]! =false:=by rw[←YD.out,←Nw.out];exact decide_eq_false (by omega)
       rcases Nat.lt_or_eq_of_le t1 with c2 | c2
       · exact hO.ntrans _ _ _ (HR.out h t (by omega) c2 t2) hx
       · rw[←c2];exact hx⟩
  · obtain rfl:i=j:=by omega
    have hz:¬(i:Int) < (i:Int):=by omega
    have q1:IntKind.i64.wrap ((i:Int) - 1)=(i:Int) - 1:=by rw[IntKind.wrap_i64];omega
    go_wp2_with fail;go_loopg [13] (b - a) (fun kx s13 wr=>∃(q:Nat) (dk:Array α),s13= .int .i64 (q:Int)∧a≤q∧q+1≤i∧i - q≤kx∧dk.size=d0.size∧Aside (SWK enc k w0 blk off dk wr)∧Aside (PermIn a b d dk)∧Aside (∀t,dk[t]! =dQ d a (a+1) (q+1) t))
    case atStart=>exact ⟨a,d,rfl,Nat.le_refl _,hai,by omega,hs,S1,permIn_refl d a b,fun t=>(yg d a (a+1) (a+1) t (.inr rfl) (by omega) (Nat.le_refl _)).symm⟩
    case round=>
     clear S1;obtain⟨q,dk,rfl,haq,hqi,hkq,hdk,S2,P2,E2⟩:=hrel;by_cases hlt2:q < i - 1
     · have hz2:(q:Int) < (i:Int) - 1:=by omega
       have q5:((q:Int)+1).toNat=q+1:=by omega
       have q6:IntKind.i64.wrap ((q:Int)+1)=(q:Int)+1:=by rw[IntKind.wrap_i64];omega
       have b3:(q:Int) < (d0.size:Int):=by omega
       have b4:(q:Int)+1 < (d0.size:Int):=by omega
       have b5:(0:Int)≤(q:Int)+1:=by omega
       have ea2:((q:Nat):Int).toNat=q:=by omega
       have ec2:((q+1:Nat):Int).toNat=q+1:=by omega
       have WA:Aside (SWK enc k w0 blk off (swp dk (q) (q+1)) ((wr.drew.setCells blk (off+(q)* k) (enc dk[q+1]!)).setCells blk (off+(q+1)* k) (enc dk[q]!))):=S2.out.swapped R (q) (q+1) (by omega) (by omega);have ZU:=S2.out.ld1 R (by omega) P (q) (by omega);have ZV:=S2.out.ld1 R (by omega) P (q+1) (by omega);have ZW:=S2.out.st1 R (by omega) P (q) (by omega) dk[q+1]!;have VH:=S2.out.st2 R (by omega) P (q) (q+1) (by omega) (by omega) dk[q+1]! dk[q]!;have n2a:(enc dk[q]!).length=k:=R.hk _;have n2b:(enc dk[q+1]!).length=k:=R.hk _;generalize enc dk[q]! =cI2 at WA ZU VH n2a;generalize enc dk[q+1]! =cJ2 at WA ZV ZW VH n2b;clear S2;go_wp2_with fail;go_big_region_o;clear ZU ZV ZW VH;generalize (wr.drew.setCells blk (off+q * k) cJ2).setCells blk (off+(q+1)* k) cI2=w3 at WA⊢;go_wp2_with fail;go_roundg (i - (q+1))
       case measure=>omega
       case rel=>exact ⟨q+1,_,by go_num,by omega,by omega,Nat.le_refl _,by rw[size_swp];exact hdk,WA,permIn_trans _ _ _ _ _ P2.out (swp_permIn dk a b q (q+1) haq (by omega) (by omega) (by omega) (by omega)),OZ d dk a q b haq (by omega) (by omega) (by omega) E2.out⟩
     · obtain rfl:i=q+1:=by omega
       have hz2:¬(q:Int) < ((q+1:Nat):Int) - 1:=by omega
       go_wp2_with fail;refine bodyPost_ret (results_none rfl _ _ _) rfl ?_;exact⟨rfl,dk,hdk,P2.out,DU hO d dk a (q+1) b hai hjb HR.out H1.out H2.out E2.out,S2.out⟩
theorem yh {k:Nat}(L:SortLays P k)(enc:α→List Value)(cf:α→α→Int)(hO:SWO (ltOf cf))(g:Nat)(cb:Array Value)(blk off cap a m:Nat)(d0 d:Array α)(w0 w:World)
 (eg:∀args w,(callFunc g args).run P w= .ok (.enter g args) w) (hcmp:CmpLays P g cb enc k cf blk off d0.size w0)
 (R:RowK enc k w0 blk off d0) (hs:d.size=d0.size) (S:SWK enc k w0 blk off d w) (hab:a+1 < m) (hb:m+1≤d0.size) (hsz:d0.size < 1000000000) (hr:SortedIn (ltOf cf) a m d):
 Calls P 88 #[.slice (some ⟨blk,off,none⟩) d0.size cap,.int .i64 a,.int .i64 m,.int .i64 ((m:Int)+1),.func (.func g) #[] cb] w fun e w'=>e= .returned (.tuple #[])∧∃d',d'.size=d0.size∧PermIn a (m+1) d d'∧SortedIn (ltOf cf) a (m+1) d'∧SWK enc k w0 blk off d' w':=by
 have mixed:=L.mixed;have t0:=L.t0;have a0:=L.a0;have z0:=L.z0;have v0:=L.v0;have t3:=L.t3;have a3:=L.a3;have z3:=L.z3;have v3:=L.v3;have t4:=L.t4;have a4:=L.a4;have z4:=L.z4;have v4:=L.v4;have t36:=L.t36;have a36:=L.a36;have z36:=L.z36;have v36:=L.v36;have t124:=L.t124;have a124:=L.a124;have z124:=L.z124;have v124:=L.v124;have t96:=L.t96;have a96:=L.a96;have z96:=L.z96;have v96:=L.v96;have aE:=L.aE;have zE:=L.zE;have u36:=run_underlying L.t36;have HC:Aside _:=hcmp;have S0:Aside (SWK enc k w0 blk off d w):=S;have HR:=ae hr;clear S hcmp hr;have i1:IntKind.i64.wrap ((m:Int) - (a:Int))=(m:Int) - (a:Int):=by rw[IntKind.wrap_i64];omega
 have i2:((m:Int) - (a:Int)==1)=false:=by simp;omega
 have i4:¬((m:Int) - (a:Int)=1):=by omega
 have i3:IntKind.i64.wrap ((m:Int)+1 - (m:Int))=1:=by rw[IntKind.wrap_i64];omega
 go_enter L.f87,Tryz.ntmps88;go_wp2_with fail;go_loopg [14,15] (m - a) (fun kx s14 s15 wr=>∃(i j:Nat),s14= .int .i64 (i:Int)∧s15= .int .i64 (j:Int)∧a≤i∧i≤j∧j≤m∧j - i≤kx∧Aside (SWK enc k w0 blk off d wr)∧Aside (∀t,a≤t→t < i→ltOf cf d[m]! d[t]! =false)∧Aside (∀t,j≤t→t < m→ltOf cf d[m]! d[t]! =true))
 case atStart=>exact ⟨a,m,rfl,rfl,Nat.le_refl _,by omega,Nat.le_refl _,by omega,S0,fun t h1 h2=>by omega,fun t h1 h2=>by omega⟩
 case round=>
  clear S0 i1 i2 i3 i4;obtain⟨i,j,rfl,rfl,hai,hij,hjb,hkx,S1,H1,H2⟩:=hrel;by_cases hlt:i < j
  · have hz:(i:Int) < (j:Int):=by omega
    obtain⟨h,hh⟩:∃h,h=(i+j) / 2:=⟨_,rfl⟩;have hb1:i≤h∧h < j:=by omega
    have q1:IntKind.i64.wrap ((i:Int)+(j:Int))=(i:Int)+(j:Int):=by rw[IntKind.wrap_i64];omega
    have q2:IntKind.u64.wrap ((i:Int)+(j:Int))=(i:Int)+(j:Int):=by rw[IntKind.wrap_u64];omega
    have q3:((i:Int)+(j:Int)) / 2=(h:Int):=by omega
    have q4:IntKind.i64.wrap ((h:Int)+1)=(h:Int)+1:=by rw[IntKind.wrap_i64];omega
    have b1:(h:Int) < (d0.size:Int):=by omega
    have b2:(m:Int) < (d0.size:Int):=by omega
    clear hh;obtain⟨x1,hx1⟩:∃x,x=d[m]! :=⟨_,rfl⟩;obtain⟨y1,hy1⟩:∃x,x=d[h]! :=⟨_,rfl⟩;have FP:=S1.out.ld R (by omega) P (m) (by omega);have FQ:=S1.out.ld R (by omega) P (h) (by omega);rw[←hx1] at FP;rw[←hy1] at FQ;have hc1:=S1.out.cmp HC.out (by omega) x1 y1;have YD:=ae hx1;have Nw:=ae hy1;clear hx1 hy1;by_cases hlv:cf x1 y1 < 0
    · have hd1:decide (cf x1 y1 < 0)=true:=decide_eq_true hlv;go_wp2_with fail;go_quiet_grown (first | (go_at_fn g;refine Calls.grown_of (hc1 _ _)));have S3:Aside (SWK enc k w0 blk off d (grow (wr.drewN nq) osq)):=S1.out.grown nq osq;clear FP FQ hc1 S1;generalize grow (wr.drewN nq) osq=w2 at S3⊢;go_wp2_with fail;go_roundg (h - i)
      case measure=>omega
      case rel=>exact ⟨i,h,rfl,rfl,hai,by omega,by omega,Nat.le_refl _,S3,H1,fun t t1 t2=>by
       have hx:ltOf cf d[m]! d[h]! =true:=by rw[←YD.out,←Nw.out];exact decide_eq_true hlv
       rcases Nat.lt_or_ge t j with c | c
       · rcases Nat.lt_or_eq_of_le t1 with c2 | c2
         · cases hq:ltOf cf d[m]! d[t]! with
           | true=>rfl
           | false=>have:=hO.ntrans _ _ _ hq (HR.out h t (by omega) c2 t2);rw[hx] at this;exact absurd this (by decide)
         · rw[←c2];exact hx
       · exact H2.out t c t2⟩
    · have hd1:decide (cf x1 y1 < 0)=false:=decide_eq_false hlv;go_wp2_with fail;go_quiet_grown (first | (go_at_fn g;refine Calls.grown_of (hc1 _ _)));have S3:Aside (SWK enc k w0 blk off d (grow (wr.drewN nq) osq)):=S1.out.grown nq osq;clear FP FQ hc1 S1;generalize grow (wr.drewN nq) osq=w2 at S3⊢;go_wp2_with fail;go_roundg (j - (h+1))
      case measure=>omega
      case rel=>exact ⟨h+1,j,by go_num,rfl,by omega,by omega,hjb,Nat.le_refl _,S3,fun t t1 t2=>by
       have hx:ltOf cf d[m]! d[h]! =false:=by rw[←YD.out,←Nw.out];exact decide_eq_false (by omega)
       rcases Nat.lt_or_eq_of_le (show t≤h by omega) with c2 | c2
       · exact hO.ntrans _ _ _ hx (HR.out t h t1 c2 (by omega))
       · rw[c2];exact hx,H2⟩
  · obtain rfl:i=j:=by omega
    have hz:¬(i:Int) < (i:Int):=by omega
    go_wp2_with fail;go_loopg [17] (m - a) (fun kx s17 wr=>∃(q:Nat) (dk:Array α),s17= .int .i64 (q:Int)∧i≤q∧q≤m∧q - i≤kx∧dk.size=d0.size∧Aside (SWK enc k w0 blk off dk wr)∧Aside (PermIn a (m+1) d dk)∧Aside (∀t,dk[t]! =dQ d q m (m+1) t))
    case atStart=>exact ⟨m,d,rfl,hjb,Nat.le_refl _,by omega,hs,S1,permIn_refl d a (m+1),fun t=>(yg d m m (m+1) t (.inl rfl) (Nat.le_refl _) (by omega)).symm⟩
    case round=>
     clear S1;obtain⟨q,dk,rfl,hiq,hqm,hkq,hdk,S2,P2,E2⟩:=hrel;by_cases hlt2:i < q
     · obtain⟨p,rfl⟩:∃p,q=p+1:=⟨q - 1,by omega⟩;have hz2:(i:Int) < (p:Int)+1:=by omega
       have q5:((p:Int)+1).toNat=p+1:=by omega
       have q6:IntKind.i64.wrap (p:Int)=(p:Int):=by rw[IntKind.wrap_i64];omega
       have b3:(p:Int) < (d0.size:Int):=by omega
       have b4:(p:Int)+1 < (d0.size:Int):=by omega
       have b5:(0:Int)≤(p:Int)+1:=by omega
       have ea2:((p+1:Nat):Int).toNat=p+1:=by omega
       have ec2:((p:Nat):Int).toNat=p:=by omega
       have WA:Aside (SWK enc k w0 blk off (swp dk (p+1) (p)) ((wr.drew.setCells blk (off+(p+1)* k) (enc dk[p]!)).setCells blk (off+(p)* k) (enc dk[p+1]!))):=S2.out.swapped R (p+1) (p) (by omega) (by omega);have ZU:=S2.out.ld1 R (by omega) P (p+1) (by omega);have ZV:=S2.out.ld1 R (by omega) P (p) (by omega);have ZW:=S2.out.st1 R (by omega) P (p+1) (by omega) dk[p]!;have VH:=S2.out.st2 R (by omega) P (p+1) (p) (by omega) (by omega) dk[p]! dk[p+1]!;have n2a:(enc dk[p+1]!).length=k:=R.hk _;have n2b:(enc dk[p]!).length=k:=R.hk _;generalize enc dk[p+1]! =cI2 at WA ZU VH n2a;generalize enc dk[p]! =cJ2 at WA ZV ZW VH n2b;clear S2;go_wp2_with fail;go_big_region_o;clear ZU ZV ZW VH;generalize (wr.drew.setCells blk (off+(p+1)* k) cJ2).setCells blk (off+p * k) cI2=w3 at WA⊢;go_wp2_with fail;go_roundg (p - i)
       case measure=>omega
       case rel=>exact ⟨p,_,by first | rfl | go_num | (congr 1;omega),by omega,by omega,Nat.le_refl _,by rw[size_swp];exact hdk,WA,permIn_trans _ _ _ _ _ P2.out (swp_permIn dk a (m+1) (p+1) p (by omega) (by omega) (by omega) (by omega) (by omega)),fun t=>by have:=SB d dk i (p+1) m (by omega) hqm (by omega) (by omega) E2.out t;simpa using this⟩
     · obtain rfl:i=q:=by omega
       have hz2:¬(i:Int) < (i:Int):=by omega
       go_wp2_with fail;refine bodyPost_ret (results_none rfl _ _ _) rfl ?_;exact⟨rfl,dk,hdk,P2.out,GV hO d dk a i m hai hjb HR.out H1.out H2.out E2.out,S2.out⟩
theorem DW {k:Nat}(L:SortLays P k)(enc:α→List Value)(cf:α→α→Int)(hO:SWO (ltOf cf))(g:Nat)(cb:Array Value)(blk off cap a m b:Nat)(d0 d:Array α)(w0 w:World)
 (eg:∀args w,(callFunc g args).run P w= .ok (.enter g args) w) (hcmp:CmpLays P g cb enc k cf blk off d0.size w0)
 (R:RowK enc k w0 blk off d0) (hs:d.size=d0.size) (S:SWK enc k w0 blk off d w) (ham:a+1 < m) (hmb:m+1 < b) (hb:b≤d0.size) (hsz:d0.size < 1000000000) (hl:SortedIn (ltOf cf) a m d) (hr:SortedIn (ltOf cf) m b d)
 (hrec:∀(a' m' b':Nat) (d':Array α) (w':World),b' - a' < b - a→d'.size=d0.size→SWK enc k w0 blk off d' w'→a' < m'→m' < b'→b'≤d0.size→SortedIn (ltOf cf) a' m' d'→SortedIn (ltOf cf) m' b' d'→
  Calls P 88 #[.slice (some ⟨blk,off,none⟩) d0.size cap,.int .i64 a',.int .i64 m',.int .i64 b',.func (.func g) #[] cb] w' fun e w''=>e= .returned (.tuple #[])∧∃d'',d''.size=d0.size∧PermIn a' b' d' d''∧SortedIn (ltOf cf) a' b' d''∧SWK enc k w0 blk off d'' w''):
 Calls P 88 #[.slice (some ⟨blk,off,none⟩) d0.size cap,.int .i64 a,.int .i64 m,.int .i64 b,.func (.func g) #[] cb] w fun e w'=>e= .returned (.tuple #[])∧∃d',d'.size=d0.size∧PermIn a b d d'∧SortedIn (ltOf cf) a b d'∧SWK enc k w0 blk off d' w':=by
 have mixed:=L.mixed;have t0:=L.t0;have a0:=L.a0;have z0:=L.z0;have v0:=L.v0;have t3:=L.t3;have a3:=L.a3;have z3:=L.z3;have v3:=L.v3;have t4:=L.t4;have a4:=L.a4;have z4:=L.z4;have v4:=L.v4;have t36:=L.t36;have a36:=L.a36;have z36:=L.z36;have v36:=L.v36;have t124:=L.t124;have a124:=L.a124;have z124:=L.z124;have v124:=L.v124;have t96:=L.t96;have a96:=L.a96;have z96:=L.z96;have v96:=L.v96;have aE:=L.aE;have zE:=L.zE;have u36:=run_underlying L.t36;have e88:∀args w,(callFunc 120 args).run P w= .ok (.enter 120 args) w:=enters_of L.f88 (by kernel_rfl) rfl;have e87:∀args w,(callFunc 88 args).run P w= .ok (.enter 88 args) w:=enters_of L.f87 (by kernel_rfl) rfl;have HC:Aside _:=hcmp;have qG:=ae hrec;have ajd:=ae (fun (a' m' b':Nat) (d':Array α) (W:World) (h1:d'.size=d0.size) (h2:SWK enc k w0 blk off d' W) (h3:a' < m') (h4:m' < b') (h5:b'≤d0.size)=>KC L enc g cb blk off cap a' m' b' d0 d' w0 W R h1 h2 h3 h4 h5 hsz);have S0:Aside (SWK enc k w0 blk off d w):=S;have HL:=ae hl;have HR:=ae hr;obtain⟨mid,hmid⟩:∃mid,mid=(a+b) / 2:=⟨_,rfl⟩;obtain⟨lo,hlo⟩:∃lo,lo=if m > mid then mid+m - b else a:=⟨_,rfl⟩;obtain⟨hi,hhi⟩:∃hi,hi=if m > mid then mid else m:=⟨_,rfl⟩
 have bd:a < mid∧mid < b∧a≤lo∧lo≤hi∧hi≤m∧hi≤mid∧mid+m≤lo+b:=by
  by_cases c:m > mid
  · rw[if_pos c] at hlo hhi;omega
  · rw[if_neg c] at hlo hhi;omega
 have bd8:mid < m→b≤mid+m:=by omega
 obtain⟨bd1,bd2,bd3,bd4,bd5,bd6,bd7⟩:=bd;have aje:=ae hmid;have O1:=ae hlo;have HHI:=ae hhi;have adH:=ae (SE hO d a m b mid lo hi hmid (by omega) (by omega) hlo hhi hl hr);have i1:IntKind.i64.wrap ((m:Int) - (a:Int))=(m:Int) - (a:Int):=by rw[IntKind.wrap_i64];omega
 have i2:((m:Int) - (a:Int)==1)=false:=by simp;omega
 have i3:¬((m:Int) - (a:Int)=1):=by omega
 have i4:IntKind.i64.wrap ((b:Int) - (m:Int))=(b:Int) - (m:Int):=by rw[IntKind.wrap_i64];omega
 have i5:((b:Int) - (m:Int)==1)=false:=by simp;omega
 have i6:¬((b:Int) - (m:Int)=1):=by omega
 have i7:IntKind.i64.wrap ((a:Int)+(b:Int))=(a:Int)+(b:Int):=by rw[IntKind.wrap_i64];omega
 have i8:IntKind.u64.wrap ((a:Int)+(b:Int))=(a:Int)+(b:Int):=by rw[IntKind.wrap_u64];omega
 have i9:((a:Int)+(b:Int)) / 2=(mid:Int):=by omega
 have i10:IntKind.i64.wrap ((mid:Int)+(m:Int))=(mid:Int)+(m:Int):=by rw[IntKind.wrap_i64];omega
 have i11:IntKind.i64.wrap ((mid:Int)+(m:Int) - (b:Int))=(mid:Int)+(m:Int) - (b:Int):=by rw[IntKind.wrap_i64];omega
 have i12:IntKind.i64.wrap ((mid:Int)+(m:Int) - 1)=(mid:Int)+(m:Int) - 1:=by rw[IntKind.wrap_i64];omega
 clear S hcmp hl hr hrec hmid hlo hhi;go_enter L.f87,Tryz.ntmps88;go_upto_if 140 with fail;go_cut [20,21] (fun s20 s21 wx=>s20= .int .i64 (lo:Int)∧s21= .int .i64 (hi:Int)∧wx=w)
 case first=>as_aux_lemma=>
  clear i1 i2 i3 i4 i5 i6 i7 i8 i9;by_cases hm:mid < m
  · have c1:(mid:Int) < (m:Int):=by omega
    go_wp2_with fail;go_meet
    case rel=>
     have:=O1.out;have:=HHI.out;exact⟨by rw[O1.out,if_pos hm];congr 1;omega,by rw[HHI.out,if_pos hm],rfl⟩
  · have c1:¬(mid:Int) < (m:Int):=by omega
    go_wp2_with fail;go_meet
    case rel=>exact ⟨by rw[O1.out,if_neg hm],by rw[HHI.out,if_neg hm],rfl⟩
 case rest=>
  obtain⟨rfl,rfl,rfl⟩:=hcut;clear i1 i2 i3 i4 i5 i6 i7 i8 i9 i11;go_wp2_with fail;go_loopg [20,21] (hi - lo) (fun kx s20 s21 wr=>∃(i j:Nat),s20= .int .i64 (i:Int)∧s21= .int .i64 (j:Int)∧lo≤i∧i≤j∧j≤hi∧j - i≤kx∧Aside (SWK enc k w0 blk off d wr)∧Aside (∀c,lo≤c→c < i→ltOf cf d[mid+m - 1 - c]! d[c]! =false)∧Aside (∀c,j≤c→c < hi→ltOf cf d[mid+m - 1 - c]! d[c]! =true))
  case atStart=>exact ⟨lo,hi,rfl,rfl,Nat.le_refl _,bd4,Nat.le_refl _,Nat.le_refl _,S0,fun c h1 h2=>by omega,fun c h1 h2=>by omega⟩
  case round=>
   clear S0;obtain⟨i,j,rfl,rfl,hai,hij,hjb,hkx,S1,H1,H2⟩:=hrel;by_cases hlt:i < j
   · have hz:(i:Int) < (j:Int):=by omega
     obtain⟨h,hh⟩:∃h,h=(i+j) / 2:=⟨_,rfl⟩;have hb1:i≤h∧h < j:=by omega
     obtain⟨p,hp⟩:∃p,p=mid+m - 1 - h:=⟨_,rfl⟩;have hb2:p < d0.size:=by omega
     have q1:IntKind.i64.wrap ((i:Int)+(j:Int))=(i:Int)+(j:Int):=by rw[IntKind.wrap_i64];omega
     have q2:IntKind.u64.wrap ((i:Int)+(j:Int))=(i:Int)+(j:Int):=by rw[IntKind.wrap_u64];omega
     have q3:((i:Int)+(j:Int)) / 2=(h:Int):=by omega
     have q4:IntKind.i64.wrap ((h:Int)+1)=(h:Int)+1:=by rw[IntKind.wrap_i64];omega
     have q5:(mid:Int)+(m:Int) - 1 - (h:Int)=(p:Int):=by omega
     have q6:IntKind.i64.wrap (p:Int)=(p:Int):=by rw[IntKind.wrap_i64];omega
     have b1:(h:Int) < (d0.size:Int):=by omega
     have b2:(p:Int) < (d0.size:Int):=by omega
     have HP:=ae hp;clear hh hp;obtain⟨x1,hx1⟩:∃x,x=d[p]! :=⟨_,rfl⟩;obtain⟨y1,hy1⟩:∃x,x=d[h]! :=⟨_,rfl⟩;have FP:=S1.out.ld R (by omega) P (p) (by omega);have FQ:=S1.out.ld R (by omega) P (h) (by omega);rw[←hx1] at FP;rw[←hy1] at FQ;have hc1:=S1.out.cmp HC.out (by omega) x1 y1;have YD:=ae hx1;have Nw:=ae hy1;clear hx1 hy1;by_cases hlv:cf x1 y1 < 0
     · as_aux_lemma=>
        have hd1:decide (cf x1 y1 < 0)=true:=decide_eq_true hlv;go_wp2_with fail;go_quiet_grown (first | (go_at_fn g;refine Calls.grown_of (hc1 _ _)));have S3:Aside (SWK enc k w0 blk off d (grow (wr.drewN nq) osq)):=S1.out.grown nq osq;clear FP FQ hc1 S1;generalize grow (wr.drewN nq) osq=w2 at S3⊢;go_wp2_with fail;go_roundg (h - i)
        case measure=>omega
        case rel=>exact ⟨i,h,rfl,rfl,hai,by omega,by omega,Nat.le_refl _,S3,H1,fun c t1 t2=>by
         have hx:ltOf cf d[mid+m - 1 - h]! d[h]! =true:=by rw[←HP.out,←YD.out,←Nw.out];exact decide_eq_true hlv
         rcases Nat.lt_or_eq_of_le t1 with c2 | c2
         · cases hq:ltOf cf d[mid+m - 1 - c]! d[c]! with
           | true=>rfl
           | false=>have:=adH.out h c (by omega) c2 t2 hq;rw[hx] at this;exact absurd this (by decide)
         · rw[←c2];exact hx⟩
     · as_aux_lemma=>
        have hd1:decide (cf x1 y1 < 0)=false:=decide_eq_false hlv;go_wp2_with fail;go_quiet_grown (first | (go_at_fn g;refine Calls.grown_of (hc1 _ _)));have S3:Aside (SWK enc k w0 blk off d (grow (wr.drewN nq) osq)):=S1.out.grown nq osq;clear FP FQ hc1 S1;generalize grow (wr.drewN nq) osq=w2 at S3⊢;go_wp2_with fail;go_roundg (j - (h+1))
        case measure=>omega
        case rel=>exact ⟨h+1,j,by go_num,rfl,by omega,by omega,hjb,Nat.le_refl _,S3,fun c t1 t2=>by
         have hx:ltOf cf d[mid+m - 1 - h]! d[h]! =false:=by rw[←HP.out,←YD.out,←Nw.out];exact decide_eq_false (by omega)
         rcases Nat.lt_or_eq_of_le (show c≤h by omega) with c2 | c2
         · exact adH.out c h t1 c2 (by omega) hx
         · rw[c2];exact hx,H2⟩
   · obtain rfl:i=j:=by omega
     have hz:¬(i:Int) < (i:Int):=by omega
     obtain⟨e,he⟩:∃e,e+i=mid+m:=⟨mid+m - i,by omega⟩;have q1:(mid:Int)+(m:Int) - (i:Int)=(e:Int):=by omega
     have q2:IntKind.i64.wrap (e:Int)=(e:Int):=by rw[IntKind.wrap_i64];omega
     have SC:=ae (fun (d':Array α) (h:∀t,d'[t]! =dQ d i m e t)=>WB hO d d' a m b mid i e aje.out (by omega) (by omega) HL.out HR.out he (by rw[←O1.out];exact hai) (by rw[←HHI.out];exact hjb) (by rw[←O1.out];exact H1.out) (by rw[←HHI.out];exact H2.out) h);have sb:i≤m∧m≤e∧e≤b∧mid≤e∧i≤mid∧a≤i:=by omega
     obtain⟨sb1,sb2,sb3,sb4,sb5,sb6⟩:=sb;clear H1 H2 he;go_upto_region 39 with fail;go_cut [20,24,185] (fun s20 s24 ajg wx=>s20= .int .i64 (i:Int)∧s24= .int .i64 (e:Int)∧ajg= .bool (decide (i < m∧m < e))∧wx=wr)
     case first=>as_aux_lemma=>
      by_cases z1:i < m
      · have c1:(i:Int) < (m:Int):=by omega
        by_cases z2:m < e
        · have c2:(m:Int) < (e:Int):=by omega
          go_wp2_with fail;go_meet
          case rel=>exact ⟨rfl,rfl,by simp[z1,z2],rfl⟩
        · have c2:¬(m:Int) < (e:Int):=by omega
          go_wp2_with fail;go_meet
          case rel=>exact ⟨rfl,rfl,by simp[z2],rfl⟩
      · have c1:¬(i:Int) < (m:Int):=by omega
        go_wp2_with fail;go_meet
        case rel=>exact ⟨rfl,rfl,by simp[z1],rfl⟩
     case rest=>
      obtain⟨rfl,rfl,rfl,rfl⟩:=hcut;go_upto_if 185 with fail;go_cut [20,24] (fun s20 s24 wx=>s20= .int .i64 (i:Int)∧s24= .int .i64 (e:Int)∧∃d1:Array α,d1.size=d0.size∧Aside (SWK enc k w0 blk off d1 wx)∧Aside (PermIn a b d d1)∧Aside (∀t,d1[t]! =dQ d i m e t))
      case first=>as_aux_lemma=>
       by_cases c1:i < m∧m < e
       · have z1:decide (i < m∧m < e)=true:=decide_eq_true c1;have C:=ae (ajd.out i m e d _ hs S1.out c1.1 c1.2 (by omega));go_wp2_with (go_at_call 120;refine C.out.mono ?_;rintro e2 w2 ⟨rfl,d1,hd1,hp1,hr1,S2⟩;replace S2:Aside _:=S2;replace hp1:=ae hp1;replace hr1:=ae hr1);go_meet
         case rel=>exact ⟨rfl,rfl,d1,hd1,S2,permIn_mono d d1 i e a b sb6 sb3 (by omega) hp1.out,hr1.out⟩
       · have z1:decide (i < m∧m < e)=false:=decide_eq_false c1;go_wp2_with fail;go_meet
         case rel=>exact ⟨rfl,rfl,d,hs,S1,permIn_refl d a b,fun t=>(yg d i m e t (by omega) sb1 sb2).symm⟩
      case rest=>
       clear S1;obtain⟨rfl,rfl,d1,hd1,S1,P1,E1⟩:=hcut;have T1:=ae (SC.out d1 E1.out);clear SC E1;go_upto_region 41 with fail;go_cut [20,24,199] (fun s20 s24 ajh wx=>s20= .int .i64 (i:Int)∧s24= .int .i64 (e:Int)∧ajh= .bool (decide (a < i∧i < mid))∧wx=wc)
       case first=>as_aux_lemma=>
        by_cases z1:a < i
        · have c1:(a:Int) < (i:Int):=by omega
          by_cases z2:i < mid
          · have c2:(i:Int) < (mid:Int):=by omega
            go_wp2_with fail;go_meet
            case rel=>exact ⟨rfl,rfl,by simp[z1,z2],rfl⟩
          · have c2:¬(i:Int) < (mid:Int):=by omega
            go_wp2_with fail;go_meet
            case rel=>exact ⟨rfl,rfl,by simp[z2],rfl⟩
        · have c1:¬(a:Int) < (i:Int):=by omega
          go_wp2_with fail;go_meet
          case rel=>exact ⟨rfl,rfl,by simp[z1],rfl⟩
       case rest=>
        obtain⟨rfl,rfl,rfl,rfl⟩:=hcut;go_upto_if 199 with fail;go_cut [24] (fun s24 wx=>s24= .int .i64 (e:Int)∧∃d2:Array α,d2.size=d0.size∧Aside (SWK enc k w0 blk off d2 wx)∧Aside (PermIn a mid d1 d2)∧Aside (SortedIn (ltOf cf) a mid d2))
        case first=>as_aux_lemma=>
         by_cases c1:a < i∧i < mid
         · have z1:decide (a < i∧i < mid)=true:=decide_eq_true c1;have C:=ae (qG.out a i mid d1 _ (by omega) hd1 S1.out c1.1 c1.2 (by omega) T1.out.2.2.2.2.2.2.1 T1.out.2.2.2.2.2.2.2.1);go_wp2_with (go_at_call 88;refine C.out.mono ?_;rintro e2 w2 ⟨rfl,d2,hd2,hp2,hs2,S2⟩;replace S2:Aside _:=S2;replace hp2:=ae hp2;replace hs2:=ae hs2);go_meet
           case rel=>exact ⟨rfl,d2,hd2,S2,hp2.out,hs2.out⟩
         · have z1:decide (a < i∧i < mid)=false:=decide_eq_false c1;go_wp2_with fail;go_meet
           case rel=>exact ⟨rfl,d1,hd1,S1,permIn_refl d1 a mid,by
            rcases (show i=a∨i=mid by omega) with c | c
            · have:=T1.out.2.2.2.2.2.2.2.1;rwa [c] at this
            · have:=T1.out.2.2.2.2.2.2.1;rwa [c] at this⟩
        case rest=>
         clear S1;obtain⟨rfl,d2,hd2,S2,P2,Q2⟩:=hcut;have T2:=ae (fun x y (h1:mid≤x) (hxy:x < y) (h2:y < b) (h3:ltOf cf d1[y]! d1[x]! =false)=>(show ltOf cf d2[y]! d2[x]! =false by rw[P2.out.2.1 x (.inr h1),P2.out.2.1 y (.inr (by omega))];exact h3))
         have fin:∀d3 w3,d3.size=d0.size→SWK enc k w0 blk off d3 w3→PermIn mid b d2 d3→SortedIn (ltOf cf) mid b d3→∃d',d'.size=d0.size∧PermIn a b d d'∧SortedIn (ltOf cf) a b d'∧SWK enc k w0 blk off d' w3:=fun d3 w3 h1 h2 h3 h4=>
          ⟨d3,h1,permIn_trans _ _ _ _ _ (permIn_trans _ _ _ _ _ P1.out (permIn_mono d1 d2 a mid a b (Nat.le_refl _) (by omega) (by omega) P2.out)) (permIn_mono d2 d3 mid b a b (by omega) (Nat.le_refl _) (by omega) h3),GX d1 d2 d3 a mid b (by omega) (by omega) (by omega) T1.out.2.2.2.2.2.2.2.2.2.2 P2.out Q2.out h3 h4,h2⟩
         have FIN:=ae fin;have U1:=ae (show SortedIn (ltOf cf) mid e d2 from fun x y h1 hxy h2=>T2.out x y h1 hxy (by omega) (T1.out.2.2.2.2.2.2.2.2.1 x y h1 hxy h2));have U2:=ae (show SortedIn (ltOf cf) e b d2 from fun x y h1 hxy h2=>T2.out x y (by omega) hxy h2 (T1.out.2.2.2.2.2.2.2.2.2.1 x y h1 hxy h2));clear fin T1 T2 P1 P2 Q2;by_cases c1:mid < e∧e < b
         · have z1:(mid:Int) < (e:Int):=by omega
           have z2:(e:Int) < (b:Int):=by omega
           have C:=ae (qG.out mid e b d2 _ (by omega) hd2 S2.out c1.1 c1.2 hb U1.out U2.out);go_wp2_with (go_at_call 88;refine C.out.mono ?_;rintro e2 w2 ⟨rfl,d3,hd3,hp3,hs3,S3⟩;replace S3:Aside _:=S3;replace hp3:=ae hp3;replace hs3:=ae hs3);go_end0;refine⟨rfl,?_⟩;exact FIN.out d3 _ hd3 S3.out hp3.out hs3.out
         · have hsrt:SortedIn (ltOf cf) mid b d2:=by
            rcases (show e=mid∨e=b by omega) with c | c
            · have:=U2.out;rwa [c] at this
            · have:=U1.out;rwa [c] at this
           have HS:=ae hsrt;clear hsrt;by_cases z1:mid < e
           · have z2:(mid:Int) < (e:Int):=by omega
             have z3:¬(e:Int) < (b:Int):=by omega
             go_wp2_with fail;go_end0;refine⟨rfl,?_⟩;exact FIN.out d2 _ hd2 S2.out (permIn_refl d2 mid b) HS.out
           · have z2:¬(mid:Int) < (e:Int):=by omega
             go_wp2_with fail;go_end0;refine⟨rfl,?_⟩;exact FIN.out d2 _ hd2 S2.out (permIn_refl d2 mid b) HS.out
theorem DX {k:Nat}(L:SortLays P k)(enc:α→List Value)(cf:α→α→Int)(hO:SWO (ltOf cf))(g:Nat)(cb:Array Value)(blk off cap:Nat)(d0:Array α)(w0:World)
 (eg:∀args w,(callFunc g args).run P w= .ok (.enter g args) w) (hcmp:CmpLays P g cb enc k cf blk off d0.size w0) (R:RowK enc k w0 blk off d0) (hsz:d0.size < 1000000000):
 ∀(s a m b:Nat) (d:Array α) (w:World),b - a≤s→d.size=d0.size→SWK enc k w0 blk off d w→a < m→m < b→b≤d0.size→SortedIn (ltOf cf) a m d→SortedIn (ltOf cf) m b d→
  Calls P 88 #[.slice (some ⟨blk,off,none⟩) d0.size cap,.int .i64 a,.int .i64 m,.int .i64 b,.func (.func g) #[] cb] w fun e w'=>e= .returned (.tuple #[])∧∃d',d'.size=d0.size∧PermIn a b d d'∧SortedIn (ltOf cf) a b d'∧SWK enc k w0 blk off d' w':=by
 intro s;induction s with
 | zero=>intro a m b d w h;omega
 |
  succ s ih=>
  intro a m b d w h1 h2 h3 h4 h5 h6 h7 h8;by_cases c1:m=a+1
  · subst c1;exact Aa L enc cf hO g cb blk off cap a b d0 d w0 w eg hcmp R h2 h3 h5 h6 hsz h8
  · by_cases c2:b=m+1
    · subst c2;exact yh L enc cf hO g cb blk off cap a m d0 d w0 w eg hcmp R h2 h3 (by omega) h6 hsz h7
    · exact DW L enc cf hO g cb blk off cap a m b d0 d w0 w eg hcmp R h2 h3 (by omega) (by omega) h6 hsz h7 h8 fun a' m' b' d' w' g1 g2 g3 g4 g5 g6 g7 g8=>ih a' m' b' d' w' (by omega) g2 g3 g4 g5 g6 g7 g8
