/- Words. -/
import Derived.Test.YtfbkkgfkhhibfaaGreatCln
import Derived.Deep.RegionLaw
set_option linter.unusedVariables false
set_option maxRecDepth 100000
set_option maxHeartbeats 8000000
namespace Iv
theorem GY {b:Bytes}{i k:Nat}(h1:1<=k)(h2:k<=far i+1)(hi:i<=b.length)(h:far i<k\/min 130 (b.length-i)<=(kR b i (k-1)).1):bP b i=kR b i (k-1):=by unfold bP;rcases h with h|h;rw[show far i=k-1 from by omega];exact P5 b i (k-1) (far i) (by omega) hi h
theorem Tm {b:Bytes}{i k m:Nat}(h1:1<=k)(hm:pG b i k 130=m):kR b i k=if (kR b i (k-1)).1<m then (m,k) else kR b i (k-1):=by obtain⟨j,rfl⟩:∃j,k=j+1:=⟨k-1,by omega⟩;simp only[kR,ve,hm]
theorem yN {i k:Nat} :k<=far i ↔ k<=255/\k<=i:=by unfold far;omega
end Iv
namespace Go.Proofs.YtfbkkgfkhhibfaaGreat
open Go Go.RowKit Iv
theorem Qe (A:Option Addr)(n c B:Nat)(xs:Bytes)(i:Nat)(w:World)(X:Lies w B 1 A n (xs.map bv))(hi:i<=n)(hn:n<=1000000000000):
 Calls Tryz.prog 113 #[.slice A n c,.int .i64 (i:Int)] w λe w'=>e= .returned (.tuple #[.int .i64 ((bP xs i).1:Int),.int .i64 ((bP xs i).2:Int)])/\∃q,w'=w.drewN q:=by
 have G:=ae X.lenB;obtain⟨L,hL⟩:∃L,L=min 130 (n-i):=⟨_,rfl⟩;have al:L<=130:=(by omega);have Y:i+L<=n:=(by omega);have an:L=130\/i+L=n:=(by omega);have Lh:=ae hL;clear hL;go_enter Tryz.func113,Tryz.ntmps113;go_wp2_with fail
 all_goals
  go_loopw [7,8,9] (λs ds d wr=>∃(k q S D:Nat),d= .int .i64 (k:Int)/\1<=k/\k<=far i+1/\kR xs i (k-1)=(S,D)/\s= .int .i64 (S:Int)/\ds= .int .i64 (D:Int)/\wr=w.drewN q) (λ_ _ d _=>300-(intOf d).toNat)
  case atStart=>exact ⟨1,0,0,0,rfl,by omega,by omega,rfl,rfl,rfl,rfl⟩
  case round=>
   obtain⟨k,q,S,D,rfl,H,I,hb,rfl,rfl,rfl⟩:=hrel;have hS:S<=L:=(by have h1:=IK xs i (k-1);have h2:=MF xs i (k-1) (by rw[G.o];exact hi);rw[hb] at h1 h2;have h3:=Lh.o;have h4:=G.o;simp only at h1 h2;omega);have Z:=ae hb;clear hb;by_cases hc:(k<=255/\k<=i)/\S<L
   . obtain⟨⟨ao,aq⟩,hc3⟩:=hc;obtain⟨q0,a6⟩:∃q0,q0=q:=⟨_,rfl⟩;have J:i+L<=xs.length:=(by rw[G.o];exact Y);go_wp2_with fail;go_loopw [10] (λnv wr=>∃(m N:Nat),nv= .int .i64 (m:Int)/\m<=L/\wr=w.drewN N/\(∀j,j<m->xs[i+j]?=xs[i+j-k]?)) (λnv _=>300-(intOf nv).toNat)
     case atStart=>exact ⟨0,q,rfl,aG _,rfl,λj O=>by omega⟩
     case round=>
      clear a6 q0;obtain⟨m,N,rfl,hm,rfl,heq⟩:=hrel;have HE:=ae heq;clear heq;have V:=ae (show Stops xs i k 130 m->kR xs i k=if S<m then (m,k) else (S,D) from λa7=>by have:=Tm H (Dp a7);rw[Z.o] at this;exact this);by_cases ar:m<L
      . obtain⟨ad,x,hA,av,hx,aw⟩:=X.byte (show i+m<n by omega);obtain⟨a8,y,U,aD,hy,aL⟩:=X.byte (show i+m-k<n by omega);subst hA;obtain rfl:ad=a8:=(by injection U);have HX:=ae hx;have HY:=ae hy;clear hx hy U;have e1:IntKind.i64.wrap ((i:Int)+(m:Int))=(i:Int)+(m:Int):=gQ _ (by omega);have e2:IntKind.i64.wrap ((i:Int)+(m:Int)-(k:Int))=(i:Int)+(m:Int)-(k:Int):=gQ _ (by omega);have e3:((i:Int)+(m:Int)).toNat=i+m:=(by omega);have e4:((i:Int)+(m:Int)-(k:Int)).toNat=i+m-k:=(by omega);have p1:(0:Int)<=(i:Int)+(m:Int):=(by omega);have p2:(0:Int)<=(i:Int)+(m:Int)-(k:Int):=(by omega);have p3:(i:Int)+(m:Int)<(n:Int):=(by omega);have p4:(i:Int)+(m:Int)-(k:Int)<(n:Int):=(by omega);have p5:(m:Int)<(n:Int)-(i:Int):=(by omega);have p6:(m:Int)<130:=(by omega);by_cases a:x=y
        . have aa:((x.toNat:Int)==(y.toNat:Int))=true:=(by simp[a]);have u:=ae a;clear a;go_wp2_with fail;go_quiet (fail);clear e1 e2 e3 e4;go_wp2_with fail;go_roundw
          case rel=>exact ⟨m+1,N+nq,by go_num,by omega,by simp,λj O=>by
           by_cases ab:j=m;rw[ab,HX.o,HY.o,u.o]
           . exact HE.o j (by omega)⟩
          case measure=>simp [intOf];omega
        . have aa:((x.toNat:Int)==(y.toNat:Int))=false:=by
           rw[iJ];intro e;exact a (Tc (by omega))
          have u:=ae a;clear a;have E:=ae (V.o ⟨by omega,λj O=>⟨by have:=J;omega,HE.o j O⟩,.inr (λhh=>u.o (by have h1:=hh.2;rw[HX.o,HY.o] at h1;injection h1))⟩);clear V;go_wp2_with fail;go_quiet (fail);clear e1 e2 e3 e4;go_wp2_with fail
          all_goals
           go_roundw
           case rel=>exact ⟨k+1,N+nq,_,_,by go_num,by omega,by have:=yN (i:=i) (k:=k);omega,by rw[ve,E.o];first|exact if_pos (by omega)|exact if_neg (by omega),rfl,rfl,by simp⟩
           case measure=>simp [intOf];omega
      . have E:=ae (V.o ⟨by omega,λj O=>⟨by have:=J;omega,HE.o j O⟩,by
         rcases (show m=130\/i+m=n by omega) with h1|h1;exact .inl h1
         . exact .inr (λhh=>by have:=G.o;omega)⟩)
        clear V;(first|(have hd:decide ((m:Int)<130)=false:=by rw[lL];omega)|(have hd:decide ((m:Int)<(n:Int)-(i:Int))=false:=by rw[lL];omega));go_wp2_with fail;go_quiet (fail);clear hd;go_wp2_with fail
        all_goals
         go_roundw
         case rel=>exact ⟨k+1,N+nq,_,_,by go_num,by omega,by have:=yN (i:=i) (k:=k);omega,by rw[ve,E.o];first|exact if_pos (by omega)|exact if_neg (by omega),rfl,rfl,by simp⟩
         case measure=>simp [intOf];omega
   . have HF:Hid (bP xs i=(S,D)):=by
      refine ae ?_;rw[<-Z.o];refine GY H I (by rw[G.o];exact hi) ?_;rw[Z.o,G.o];unfold far at I|-;have:=Lh.o;simp only;omega
     go_wp2_with fail;all_goals (go_ret2;exact⟨by rw[HF.o];rfl,q,rfl⟩)
def vg (xs:Bytes)(i:Nat):Nat×Nat:=if (bP xs i).1<3 then (0,0) else bP xs i
theorem Qg (A:Option Addr)(n c B:Nat)(xs:Bytes)(i:Nat)(w:World)(U:Lies w B 1 A n (xs.map bv))(hi:i<=n)(hn:n<=1000000000000):
 Calls Tryz.prog 90 #[.slice A n c,.int .i64 (i:Int)] w λe w'=>e= .returned (.tuple #[.int .i64 ((vg xs i).1:Int),.int .i64 ((vg xs i).2:Int)])/\∃q,w'=w.drewN q:=by
 have V:=ae U.lenB;go_enter Tryz.func90,Tryz.ntmps90;go_wp2_with fail;go_loopw [6,7,8] (λs ds d wr=>∃(k q S D:Nat),d= .int .i64 (k:Int)/\1<=k/\k<=far i+1/\kR xs i (k-1)=(S,D)/\s= .int .i64 (S:Int)/\ds= .int .i64 (D:Int)/\wr=w.drewN q) (λ_ _ d _=>300-(intOf d).toNat)
 case atStart=>exact ⟨1,0,0,0,rfl,by omega,by omega,rfl,rfl,rfl,rfl⟩
 case round=>
  obtain⟨k,q,S,D,rfl,L,X,hb,rfl,rfl,rfl⟩:=hrel;have hS:S<=130:=(by have h1:=IK xs i (k-1);rw[hb] at h1;simpa using h1);have HB:=ae hb;clear hb;by_cases hc:k<=255/\k<=i
  . obtain⟨aa,ab⟩:=hc;have E:n<=xs.length:=(by rw[V.o];exact ax _);go_wp2_with fail;go_loopw [9] (λY wr=>∃(m I:Nat),Y= .int .i64 (m:Int)/\m<=130/\i+m<=n/\wr=w.drewN I/\(∀j,j<m->xs[i+j]?=xs[i+j-k]?)) (λY _=>300-(intOf Y).toNat)
    case atStart=>exact ⟨0,q,rfl,aG _,hi,rfl,λj G=>by omega⟩
    case round=>
     obtain⟨m,I,rfl,hm,al,rfl,heq⟩:=hrel;have O:=ae heq;clear heq;have J:=ae (show Stops xs i k 130 m->kR xs i k=if S<m then (m,k) else (S,D) from λZ=>by have:=Tm L (Dp Z);rw[HB.o] at this;exact this);have e1:IntKind.i64.wrap ((i:Int)+(m:Int))=(i:Int)+(m:Int):=gQ _ (by omega);by_cases an:m<130
     . by_cases ao:i+m<n
       . obtain⟨ad,x,hA,aq,hx,ar⟩:=U.byte (show i+m<n by omega);obtain⟨a6,y,N,av,hy,aw⟩:=U.byte (show i+m-k<n by omega);subst hA;obtain rfl:ad=a6:=(by injection N);have HX:=ae hx;have HY:=ae hy;clear hx hy N;have e2:IntKind.i64.wrap ((i:Int)+(m:Int)-(k:Int))=(i:Int)+(m:Int)-(k:Int):=gQ _ (by omega);have e3:((i:Int)+(m:Int)).toNat=i+m:=(by omega);have e4:((i:Int)+(m:Int)-(k:Int)).toNat=i+m-k:=(by omega);have p1:(0:Int)<=(i:Int)+(m:Int):=(by omega);have p2:(0:Int)<=(i:Int)+(m:Int)-(k:Int):=(by omega);have p3:(i:Int)+(m:Int)<(n:Int):=(by omega);have p4:(i:Int)+(m:Int)-(k:Int)<(n:Int):=(by omega);have p6:(m:Int)<130:=(by omega);by_cases a:x=y
         . have a7:((x.toNat:Int)==(y.toNat:Int))=true:=(by simp[a]);have H:=ae a;clear a;go_wp2_with fail;go_quiet (fail);clear e1 e2 e3 e4;go_wp2_with fail;go_roundw
           case rel=>exact ⟨m+1,I+nq,by go_num,by omega,by omega,by simp,λj G=>by
            by_cases a8:j=m;rw[a8,HX.o,HY.o,H.o]
            . exact O.o j (by omega)⟩
           case measure=>simp [intOf];omega
         . have a7:((x.toNat:Int)==(y.toNat:Int))=false:=by
            rw[iJ];intro e;exact a (Tc (by omega))
           have H:=ae a;clear a;have u:=ae (J.o ⟨by omega,λj G=>⟨by have:=E;omega,O.o j G⟩,.inr (λhh=>H.o (by have h1:=hh.2;rw[HX.o,HY.o] at h1;injection h1))⟩);clear J;go_wp2_with fail;go_quiet (fail);clear e1 e2 e3 e4;go_wp2_with fail
           all_goals
            go_roundw
            case rel=>exact ⟨k+1,I+nq,_,_,by go_num,by omega,by have:=yN (i:=i) (k:=k);omega,by rw[ve,u.o];first|exact if_pos (by omega)|exact if_neg (by omega),rfl,rfl,by simp⟩
            case measure=>simp [intOf];omega
       . have u:=ae (J.o ⟨by omega,λj G=>⟨by have:=E;omega,O.o j G⟩,.inr (λhh=>by have:=V.o;omega)⟩);clear J;have p6:(m:Int)<130:=(by omega);have p7:decide ((i:Int)+(m:Int)<(n:Int))=false:=(by rw[lL];omega);go_wp2_with fail;go_quiet (fail);clear e1 p7;go_wp2_with fail
         all_goals
          go_roundw
          case rel=>exact ⟨k+1,I+nq,_,_,by go_num,by omega,by have:=yN (i:=i) (k:=k);omega,by rw[ve,u.o];first|exact if_pos (by omega)|exact if_neg (by omega),rfl,rfl,by simp⟩
          case measure=>simp [intOf];omega
     . have u:=ae (J.o ⟨by omega,λj G=>⟨by have:=E;omega,O.o j G⟩,.inl (by omega)⟩);clear J;have p6:decide ((m:Int)<130)=false:=(by rw[lL];omega);go_wp2_with fail;go_quiet (fail);clear e1 p6;go_wp2_with fail
       all_goals
        go_roundw
        case rel=>exact ⟨k+1,I+nq,_,_,by go_num,by omega,by have:=yN (i:=i) (k:=k);omega,by rw[ve,u.o];first|exact if_pos (by omega)|exact if_neg (by omega),rfl,rfl,by simp⟩
        case measure=>simp [intOf];omega
  . have HF:Hid (bP xs i=(S,D)):=by
     refine ae ?_;rw[<-HB.o];refine GY L X (by rw[V.o];exact hi) (.inl ?_);have:=yN (i:=i) (k:=k);omega
    by_cases h3:S<3
    . have HR:Hid (vg xs i=(0,0)):=by
       refine ae ?_;unfold vg;rw[HF.o];exact if_pos h3
      go_wp2_with fail;all_goals (go_ret2;exact⟨by rw[HR.o];rfl,q,rfl⟩)
    . have HR:Hid (vg xs i=(S,D)):=by
       refine ae ?_;unfold vg;rw[HF.o];exact if_neg h3
      go_wp2_with fail;all_goals (go_ret2;exact⟨by rw[HR.o];rfl,q,rfl⟩)
theorem YY (w:World)(N:Nat)(a:w.heap.size=N)(t:TypeId)(cs:Array Value):Held (w.alloc (.cells cs t)) N t cs:=a▸Held.new w t cs
abbrev PkI (w:World)(gb go gf base:Nat)(A:Option Addr)(n c f:Nat)(ys:Bytes)(v:Value)(wr:World):Prop:=
 PkInv 22 3 5 w gb go gf base A n c f ys v wr
theorem yZ (w:World)(gb go gf base B:Nat)(A:Option Addr)(n c f e:Nat)(xs ys:Bytes)(v:Value)(wr:World)(G:PkI w gb go gf base A n c f ys v wr)
 (nN:Lies w B 1 A n (xs.map bv)) (hB:B<=w.heap.size) (hnc:n<=c) (hn:n<=1000000000) (hf:f<=e) (he:e<=n) (aq:e-f<=128) (hy:ys.length<=100000000000) (a6:base<=wr.heap.size):
 Calls Tryz.prog 112 #[.int .i64 (e:Int),.pointer (some ⟨gf,0,none⟩),.pointer (some ⟨go,0,none⟩),.pointer (some ⟨gb,0,none⟩)] wr λen w'=>en= .returned (.tuple #[])/\∃v',PkI w gb go gf base A n c e (ys++lit xs f e) v' w':=by
 have HL:=ae nN.lenB;obtain⟨cb,co,cf,fo,ff⟩:=G.cells;by_cases a7:f<e
 . obtain⟨i0,hi,I,J,L⟩:=info_parts lC;have HI:=ae hi;have N:=ae I;have O:=ae J;have U:=ae L;clear hi I J L;have hz:(0:Nat)<1:=(by omega);obtain⟨ad,hA,_,_⟩:=nN.2 (by omega);subst hA;obtain⟨A0,c0,a8,_⟩:=ai G.own;subst a8;have V:=ae G;clear G;have X:Value.int .u8 ((e:Int)-(f:Int)-1)=bv (UInt8.ofNat (e-f-1)):=by
    unfold bv;rw[aO (by omega)];congr 1;omega
   have aa:=ae X;clear X;go_enter Tryz.func112,Tryz.ntmps112;go_wp2_with (at_builtin;refine dM _ rfl (.tmp 8) (.tmp 14) _ rfl base 5 i0 (.int .u8 0) 1 1 Tryz.underlying22 HI.o N.o O.o U.o rfl hz _ (Value.slice A0 ys.length c0).ownBlock ys.length (ys.map bv) rfl (App.own (V.o.own.alloc _)) ⟨wr.heap.size,0,none⟩ 1 1 [.int .u8 ((e:Int)-(f:Int)-1)] rfl hz rfl (iL _ _ _) (FU rfl) (by unfold maxLen;omega) (by omega) (by simp;omega) ?_;intro v1 w1 a Y mG;have u:=dn Y;obtain⟨A1,c1,ab,_⟩:=ai a;subst ab;obtain⟨d1,d2,d3,d4,d5⟩:=V.o.seen u);have Y6:w1.ownsRow base 5 1 (.slice A1 (ys.length+1) c1) (ys++[UInt8.ofNat (e-f-1)]).length ((ys++[UInt8.ofNat (e-f-1)]).map bv):=(by rw[bG,eU];rw[aa.o] at a;exact a);have H:=V.o.push Y6 u;obtain⟨Z,y⟩:∃Z,Z=w1.setCell ⟨go,0,none⟩ (.slice A1 (ys.length+1) c1):=⟨_,rfl⟩;have al:base<=Z.heap.size:=(by have:=u.size;rw[y];simp[World.setCell];omega);rw[<-y] at H;rw[show w1.setCell ⟨go,0,none⟩ (.slice A1 (ys.length+1) c1)=Z from y.symm];clear y a Y6 Y u mG d1 d2 d3 d4 d5 cb co cf fo ff;have LB:=nN.grown H.grown hB nofun;obtain⟨cb,co,cf,fo,ff⟩:=H.cells;have hcut:Lies Z B 1 (some (ad.add f)) (e-f) (((xs.take e).drop f).map bv):=(by have h1:=(LB.drop (k:=f) (by omega)).take (m:=e-f) (by omega);simp only[lY] at h1;rw[<-qK,<-oC,<-List.drop_take] at h1;exact h1);have WX:=ae hcut;have j0:(0:Int)<=(f:Int):=(by omega);have j1:(f:Int)<=(e:Int):=(by omega);have j2:(e:Int)<=(c:Int):=(by omega);have j3:¬c=f:=(by omega);have ar:(e:Int).toNat-(f:Int).toNat=e-f:=(by omega);clear hcut
   go_region_law
    ((refine uH _ (by rfl) (.tmp 16) (.tmp 20) _ (by rfl) base 5 i0 (.int .u8 0) 1 1 Tryz.underlying22 HI.o N.o O.o U.o (by rfl) hz (.slice A1 (ys.length+1) c1) _ _ (by rfl) H.drew.own B (some (ad.add f)) (e-f) (c-f) _ (by rfl) WX.o.drew (λe=>nomatch e) (pJ _) (by unfold maxLen;simp;omega) (by simp;omega) al ?_;intro v2 w2 d D pg;obtain⟨A2,c2,an,_⟩:=ai d;subst an;obtain⟨d1,d2,d3,d4,d5⟩:=H.drew.seen D))
   all_goals
    have Y7:w2.ownsRow base 5 1 (.slice A2 (ys.length+1+(e-f)) c2) (ys++lit xs f e).length ((ys++lit xs f e).map bv):=(by have hls:(ys++[UInt8.ofNat (e-f-1)])++(xs.take e).drop f=ys++lit xs f e:=(by unfold lit;rw[if_pos a7];simp);have ao:(ys++lit xs f e).length=ys.length+1+(e-f):=(by rw[<-hls];have:=HL.o;simp;omega);rw[ao,<-hls,eU];rw[bG] at d;exact d);have J2:=H.drew.push Y7 D;obtain⟨W2,E⟩:∃W2,W2=w2.setCell ⟨go,0,none⟩ (.slice A2 (ys.length+1+(e-f)) c2):=⟨_,rfl⟩;rw[<-E] at J2;rw[show w2.setCell ⟨go,0,none⟩ (.slice A2 (ys.length+1+(e-f)) c2)=W2 from E.symm];clear E d Y7 D pg d1 d2 d3 d4 d5 cb co cf fo ff;obtain⟨cb,co,cf,fo,ff⟩:=J2.cells;go_wp2_with fail;go_end0;exact⟨rfl,_,J2.first e⟩
 . obtain rfl:f=e:=(by omega);have UU:lit xs f f=[]:=(by unfold lit;rw[if_neg (by omega)]);rw[UU,pY];have V:=ae G;clear G;go_enter Tryz.func112,Tryz.ntmps112;go_wp2_with fail;go_end0;exact⟨rfl,_,V.o.first f⟩
theorem Vt (A:Option Addr)(n c B:Nat)(xs:Bytes)(w:World)(nN:Lies w B 1 A n (xs.map bv))(hB:B<=w.heap.size)(hnc:n<=c)(hn:n<=1000000000)(u:Nat)(bd:u<=w.heap.size):
 Calls Tryz.prog 80 #[.slice A n c] w λe w'=>∃v',e= .returned v'/\w'.ownsRow u 5 1 v' (pack xs).length ((pack xs).map bv)/\w.grownBy w' none/\At w none v'.ownBlock:=by
 have I:=ae nN.lenB;obtain⟨W,hW⟩:∃W,W=((w.alloc (.cells #[.slice A n c] 22)).alloc (.cells #[.slice none 0 0] 22)).alloc (.cells #[.int .i64 0] 3):=⟨_,rfl⟩;have HW:=ae hW;clear hW;go_enter Tryz.func80,Tryz.ntmps80;have al:=fC xs;obtain⟨i0,hi,a7,a8,aa⟩:=info_parts lC;have HI:=ae hi;have an:=ae a7;have ao:=ae a8;have aq:=ae aa;clear hi a7 a8 aa;have hz:(0:Nat)<1:=(by omega);have ar:xs.length=n:=I.o;have bf:(pack xs).length<=3000000000:=(by omega);have I0:PkI w w.heap.size (w.heap.size+1) (w.heap.size+1+1) (w.heap.size+1+1+1) A n c 0 [] (.slice none 0 0) W:=(by rw[HW.o];refine⟨((Held.new w _ _).alloc _).alloc _,?_,?_,dU _ _ _ _,?_,⟨by omega,by omega,by omega⟩,⟨by omega,by omega,by omega⟩,⟨by omega,by omega,by omega⟩⟩;exact (YY (w.alloc _) _ (by simp) _ _).alloc _;exact YY ((w.alloc _).alloc _) _ (by simp) _ _;exact af (af (aY w _ none) (aY _ _ none) (.inl rfl)) (aY _ _ none) (.inl rfl));go_wp2_with fail;rw[show ((w.alloc (.cells #[.slice A n c] 22)).alloc (.cells #[.slice none 0 0] 22)).alloc (.cells #[.int .i64 0] 3)=W from HW.o.symm];clear ar al;go_loopw [6,7,8] (λiv _ _ wr=>∃(i f:Nat) (ys:Bytes) (v:Value),iv= .int .i64 (i:Int)/\i<=n/\f<=i/\i-f<128/\PkI w w.heap.size (w.heap.size+1) (w.heap.size+1+1) (w.heap.size+1+1+1) A n c f ys v wr/\ys++pk xs f i=pack xs) (λiv _ _ _=>n-(intOf iv).toNat)
 case atStart=>exact ⟨0,0,[],_,rfl,aG _,aG _,by omega,I0,rfl⟩
 case round=>
  clear I0;obtain⟨i,f,ys,v,rfl,O,ab,b9,hI,heq⟩:=hrel;have bh:ys.length<=3000000000:=(by have:=jW List.length heq;rw[bG] at this;omega);have U:w.heap.size+1+1+1<=wr.heap.size:=(by have:=hI.hf.lt;omega);obtain⟨cb,co,cf,fo,ff⟩:=hI.cells;have LB:=nN.grown hI.grown hB nofun;have HE:=ae heq;have YZ:=ae hI;clear heq hI;by_cases J:i<n
  . have CM:=ae (Qe A n c B xs i wr LB O (by omega));obtain⟨S,D,V⟩:∃S D,bP xs i=(S,D):=⟨_,_,rfl⟩;rw[V] at CM;have Z:=ae V;clear V;by_cases h3:3<=S
    . obtain⟨b1,b2,b3,b4,b5,_⟩:=oL (b:=xs) (i:=i) (by rw[I.o];exact J) (by rw[Z.o];exact h3);rw[Z.o] at b1 b2 b3 b4 b5;rw[I.o] at b5;simp only at b1 b2 b3 b4 b5;have X:=ae (BJ (b:=xs) (f:=f) (i:=i) (by rw[I.o];exact J) (by rw[Z.o];exact h3))
      go_wp2_with (first
       |(go_at_call 113;refine CM.o.mono ?_;rintro e w1 ⟨rfl,q,rfl⟩))
      refine (yZ w _ _ _ _ B A n c f i xs ys v _ (YZ.o.drewN q) nN hB hnc hn ab O (by omega) (by omega) U).mono ?_;rintro e w2 ⟨rfl,v2,d⟩;have av:(ys++lit xs f i).length<=3000000200:=(by have h1:=xx xs (f:=f) (e:=i) ab (by rw[I.o];exact O);rw[bG,h1];split<;>omega);obtain⟨L,Y⟩:∃L,L=ys++lit xs f i:=⟨_,rfl⟩;rw[<-Y] at d av;have aw:=ae Y;obtain⟨A2,c2,aD,_⟩:=ai d.own;subst aD;have ba:w.heap.size+1+1+1<=w2.heap.size:=(by have:=d.hf.lt;omega);clear cb co cf fo ff Y;obtain⟨cb,co,cf,fo,ff⟩:=d.cells;have y:=ae d;clear d;go_wp2_with (at_builtin;refine dM _ rfl (.tmp 25) (.tmp 31) _ rfl (w.heap.size+1+1+1) 5 i0 (.int .u8 0) 1 1 Tryz.underlying22 HI.o an.o ao.o aq.o rfl hz _ (Value.slice A2 L.length c2).ownBlock L.length (L.map bv) rfl (App.own (y.o.own.alloc _)) ⟨w2.heap.size,0,none⟩ 2 2 [.int .u8 ((S:Int)+125),.int .u8 (D:Int)] rfl (by omega) rfl (Ho _ _ _ _) (ahZ rfl rfl) (by unfold maxLen;omega) (by omega) (by simp;omega) ?_;intro v3 w3 a ad pI;have E:=dn ad;obtain⟨A3,c3,aL,_⟩:=ai a;subst aL;obtain⟨d1,d2,d3,d4,d5⟩:=y.o.seen E);have nS:w3.ownsRow (w.heap.size+1+1+1) 5 1 (.slice A3 (L.length+2) c3) (L++[UInt8.ofNat (S+125),UInt8.ofNat D]).length ((L++[UInt8.ofNat (S+125),UInt8.ofNat D]).map bv):=(by have e1:Value.int .u8 ((S:Int)+125)=bv (UInt8.ofNat (S+125)):=(by unfold bv;rw[aO (by omega)];rfl);have e2:Value.int .u8 (D:Int)=bv (UInt8.ofNat D):=(by unfold bv;rw[aO (by omega)]);rw[e1,e2] at a;rw[bG,eU];exact a);have J3:=(y.o.push nS E).first (i+S);have G:Value.int .i64 ((i+S:Nat):Int)= .int .i64 ((i:Int)+(S:Int)):=(by simp);rw[G] at J3;have aM:=ae J3;clear a nS J3 G ad E pI d1 d2 d3 d4 d5;go_roundw
      case rel=>refine⟨i+S,i+S,L++[UInt8.ofNat (S+125),UInt8.ofNat D],_,by go_num,by omega,by omega,by omega,aM.o,?_⟩;rw[<-HE.o,X.o,Z.o,aw.o];simp
      case measure=>simp [intOf];omega
    . by_cases H:i+1-f=128
      . have X:=ae (BK (b:=xs) (f:=f) (i:=i) (by rw[I.o];exact J) (by rw[Z.o];simp only;omega) H);have aR:(((i:Int)+1-(f:Int))==128)=true:=by rw[gI];omega
        go_wp2_with (first
         |(go_at_call 113;refine CM.o.mono ?_;rintro e w1 ⟨rfl,q,rfl⟩))
        rw[show Value.int .i64 ((i:Int)+1)= .int .i64 ((i+1:Nat):Int) from by simp];refine (yZ w _ _ _ _ B A n c f (i+1) xs ys v _ (YZ.o.drewN q) nN hB hnc hn (by omega) (by omega) (by omega) (by omega) U).mono ?_;rintro e w2 ⟨rfl,v2,d⟩;have y:=ae d;clear d;go_wp2_with fail;go_roundw
        case rel=>refine⟨i+1,i+1,ys++lit xs f (i+1),_,by go_num,by omega,by omega,by omega,y.o,?_⟩;rw[<-HE.o,X.o,fU]
        case measure=>simp [intOf];omega
      . have X:=ae (BL (b:=xs) (f:=f) (i:=i) (by rw[I.o];exact J) (by rw[Z.o];simp only;omega) H);have aR:(((i:Int)+1-(f:Int))==128)=false:=(by rw[iJ];omega);have b0:=YZ;clear YZ
        go_wp2_with (first
         |(go_at_call 113;refine CM.o.mono ?_;rintro e w1 ⟨rfl,q,rfl⟩))
        go_roundw
        case rel=>refine⟨i+1,f,ys,_,by go_num,by omega,by omega,by omega,b0.o.drewN q,?_⟩;rw[<-HE.o,X.o]
        case measure=>simp [intOf];omega
  . have bc:i=n:=(by omega);have X:=ae (IL (b:=xs) (f:=f) (i:=i) (by rw[I.o];omega));go_wp2_with fail;refine (yZ w _ _ _ _ B A n c f n xs ys v _ YZ.o nN hB hnc hn (by omega) (by omega) (by omega) (by omega) U).mono ?_;rintro e w2 ⟨rfl,v2,d⟩;have N:ys++lit xs f n=pack xs:=by
     have h1:=HE.o;rw[X.o,I.o] at h1;exact h1
    rw[N] at d;obtain⟨bj,bk,bl,bm,bn⟩:=d.cells;have a6:=dI d.own (base':=u) (by omega);have b6:=d.grown;have b8:At w none v2.ownBlock:=by
     cases hv:v2.ownBlock with
     |none=>exact .inl rfl
     |some g=>exact .inr ⟨g,rfl,by have:=(d.own.lt g hv).1;omega⟩
    clear N d cb co cf fo ff;go_wp2_with fail;go_ret;exact⟨v2,rfl,a6,b6,b8⟩
theorem Ah (base:Nat)(v pv:Value)(ys d:Bytes)(w:World)(h:w.ownsRow base 5 1 v ys.length (ys.map bv))(H:w.ownsRow base 5 1 pv d.length (d.map bv))(D:Apart v pv)
 (I:d.length<=128) (hy:ys.length<=100000000000) (a7:base<=w.heap.size):
 Calls Tryz.prog 91 #[v,pv] w λe w'=>∃v',e= .returned v'/\w'.ownsRow base 5 1 v' (ys++FT d).length ((ys++FT d).map bv)/\w.grownBy w' v.ownBlock/\At w v.ownBlock v'.ownBlock:=by
 obtain⟨A,c,hv,_,_,a8,_⟩:=ai h;obtain⟨Ap,cp,aa,_,_,J,L⟩:=ai H;subst hv aa;obtain⟨y,E⟩:∃y,y=d.length:=⟨_,rfl⟩;rw[<-E] at H D J I|-;have B:=ae E;clear E;by_cases h0:y=0
 . subst h0;have UU:FT d=[]:=(by unfold FT;rw[if_neg (by rw[<-B.o];omega)]);rw[UU,pY];have HH:=ae h;clear h H;go_enter Tryz.func91,Tryz.ntmps91;go_wp2_with fail;go_ret;exact⟨_,rfl,HH.o,bI w _,.inl rfl⟩
 . obtain⟨i0,hi,N,O,U⟩:=info_parts lC;have HI:=ae hi;have V:=ae N;have X:=ae O;have Y:=ae U;clear hi N O U;have hz:(0:Nat)<1:=(by omega);have aq:((y:Int)==0)=false:=(by rw[iJ];omega);have HH:=ae h;have HP:=ae H;have ab:=ae D;have ad:=ae L;clear h H D L a8 J;go_enter Tryz.func91,Tryz.ntmps91
   go_wp2_with (first
    |(at_builtin;refine dM _ rfl (.tmp 9) (.tmp 14) _ rfl base 5 i0 (.int .u8 0) 1 1 Tryz.underlying22 HI.o V.o X.o Y.o rfl hz _ (Value.slice A ys.length c).ownBlock ys.length (ys.map bv) rfl (App.own (HH.o.alloc _)) ⟨w.heap.size,0,none⟩ 1 1 [.int .u8 ((y:Int)-1)] rfl hz rfl (iL _ _ _) (FU rfl) (by unfold maxLen;omega) (by omega) (by simp;omega) ?_;intro v1 w1 G Z mG;have a:=dn Z;have a6:=mG.alloc;have al:=wI ab.o HP.o a;clear Z mG)
    |(at_builtin;refine dw _ rfl (.tmp 16) (.tmp 17) _ rfl base 5 i0 (.int .u8 0) 1 1 Tryz.underlying22 HI.o V.o X.o Y.o rfl hz _ (ys.length+1) _ rfl G w1.heap.size Ap y cp (d.map bv) rfl (Lies.ofOwn al) ad.o (pJ _) (by unfold maxLen;omega) (by omega) (by have:=a.size;omega) ?_;intro v2 w2 u an pg))
   go_ret;have ao:Value.int .u8 ((y:Int)-1)=bv (UInt8.ofNat (y-1)):=(by unfold bv;rw[aO (by omega)];congr 1;omega);have UU:ys++FT d=(ys++[UInt8.ofNat (y-1)])++d:=(by unfold FT;rw[if_pos (by rw[<-B.o];omega),<-B.o];simp);have hlen:(ys++FT d).length=ys.length+1+y:=(by rw[UU];have:=B.o;simp;omega);refine⟨v2,rfl,?_,af a an a6,a6.trans pg a.size⟩;rw[hlen,UU,eU,eU];rw[ao] at u;exact u
theorem UG (A:Option Addr)(n c B:Nat)(xs:Bytes)(w:World)(nN:Lies w B 1 A n (xs.map bv))(hB:B<=w.heap.size)(hnc:n<=c)(hn:n<=1000000000)(base:Nat)(a7:base<=w.heap.size):
 Calls Tryz.prog 62 #[.slice A n c] w λe w'=>∃v',e= .returned v'/\w'.ownsRow base 5 1 v' (pack xs).length ((pack xs).map bv)/\w.grownBy w' none/\At w none v'.ownBlock:=by
 have H:=ae nN.lenB;have bk:=fC xs;have bl:xs.length=n:=H.o;have a8:(pack xs).length<=3000000000:=(by omega);obtain⟨i0,hi,b0,b6,b8⟩:=info_parts lC;have HI:=ae hi;have aa:=ae b0;have ab:=ae b6;have ad:=ae b8;clear hi b0 b6 b8 bl bk;have hz:(0:Nat)<1:=(by omega);go_enter Tryz.func62,Tryz.ntmps62;go_wp2_with fail
 go_loopw [3,4,5,6,7] (λv pv iv _ _ wr=>∃(i f:Nat) (ys:Bytes) (vv pp:Value),vv=v/\pp=pv/\iv= .int .i64 (i:Int)/\i<=n/\f<=i/\i-f<128/\wr.ownsRow base 5 1 vv ys.length (ys.map bv)/\
  wr.ownsRow base 5 1 pp (i-f) (((xs.take i).drop f).map bv)/\Apart vv pp/\w.grownBy wr none/\At w none vv.ownBlock/\At w none pp.ownBlock/\ys++pk xs f i=pack xs) (λ_ _ iv _ _ _=>n-(intOf iv).toNat)
 case atStart=>exact ⟨0,0,[],_,_,rfl,rfl,rfl,aG _,aG _,by omega,dU _ _ _ _,dU _ _ _ _,Apart.nil _,bI w none,.inl rfl,.inl rfl,rfl⟩
 case round=>
  obtain⟨i,f,ys,vv,pp,rfl,rfl,rfl,al,an,b',hv,hp,ao,u,Y,U,heq⟩:=hrel;have c7:ys.length<=3000000000:=(by have:=jW List.length heq;rw[bG] at this;omega);have b9:base<=wr.heap.size:=aP a7 u.size;have aq:((xs.take i).drop f).length=i-f:=(by have:=H.o;simp;omega);have LB:=nN.grown u hB nofun;obtain⟨Av,cv,bm,_,_,bn,_⟩:=ai hv;obtain⟨Ap,cp,bo,_,_,bp,bq⟩:=ai hp;have ba:wr.ownsRow base 5 1 pp ((xs.take i).drop f).length (((xs.take i).drop f).map bv):=(by rw[aq];exact hp);have CL:=ae (λ(W:World) (hW:wr.grownBy W none)=>Ah base vv pp ys ((xs.take i).drop f) W (ay hv hW nofun) (ay ba hW nofun) ao (by rw[aq];omega) (by omega) (aP b9 hW.size));subst bm bo;have HE:=ae heq;have HV:=ae hv;have HP:=ae hp;have br:=ae ao;have bc:=ae (Ns (b:=xs) (f:=f) (e:=i) an (by rw[H.o];exact al));clear heq hv hp ao ba aq bn bp bq;by_cases I:i<n
  . have CM:=ae (Qg A n c B xs i wr LB al (by omega));obtain⟨S,D,J⟩:∃S D,bP xs i=(S,D):=⟨_,_,rfl⟩;have UW:=ae J;by_cases h3:3<=S
    . have L:vg xs i=(S,D):=(by unfold vg;rw[J];exact if_neg (by simp only;omega));rw[L] at CM;obtain⟨b1,b2,b3,b4,b5,_⟩:=oL (b:=xs) (i:=i) (by rw[H.o];exact I) (by rw[UW.o];exact h3);rw[UW.o] at b1 b2 b3 b4 b5;rw[H.o] at b5;simp only at b1 b2 b3 b4 b5;have Le:=ae (BJ (b:=xs) (f:=f) (i:=i) (by rw[H.o];exact I) (by rw[UW.o];exact h3));clear J L
      go_wp2_with (first
       |(go_at_call 90;refine CM.o.mono ?_;rintro e w1 ⟨rfl,q,rfl⟩))
      refine (CL.o _ (aT (bI wr none) q)).mono ?_;rintro e w2 ⟨v2,rfl,d,V,pg⟩;rw[bc.o] at d;have bt:(ys++lit xs f i).length<=3000000200:=(by have h1:=xx xs (f:=f) (e:=i) an (by rw[H.o];exact al);rw[bG,h1];split<;>omega);obtain⟨Z,ar⟩:∃Z,Z=ys++lit xs f i:=⟨_,rfl⟩;rw[<-ar] at d bt;have bx:=ae ar;obtain⟨A2,c2,bB,_⟩:=ai d;subst bB;have av:=tu V;have bd:=pg.drewN;have c6:base<=w2.heap.size:=aP b9 av.size;clear ar V pg;go_wp2_with (at_builtin;refine dM _ rfl (.tmp 23) (.tmp 29) _ rfl base 5 i0 (.int .u8 0) 1 1 Tryz.underlying22 HI.o aa.o ab.o ad.o rfl hz _ (Value.slice A2 Z.length c2).ownBlock Z.length (Z.map bv) rfl (App.own (d.alloc _)) ⟨w2.heap.size,0,none⟩ 2 2 [.int .u8 ((S:Int)+125),.int .u8 (D:Int)] rfl (by omega) rfl (Ho _ _ _ _) (ahZ rfl rfl) (by unfold maxLen;omega) (by omega) (by simp;omega) ?_;intro v3 w3 a E O);have y:=dn E;have rH:=O.alloc;clear E O;have nS:w3.ownsRow base 5 1 v3 (Z++[UInt8.ofNat (S+125),UInt8.ofNat D]).length ((Z++[UInt8.ofNat (S+125),UInt8.ofNat D]).map bv):=(by have e1:Value.int .u8 ((S:Int)+125)=bv (UInt8.ofNat (S+125)):=(by unfold bv;rw[aO (by omega)];rfl);have e2:Value.int .u8 (D:Int)=bv (UInt8.ofNat D):=(by unfold bv;rw[aO (by omega)]);rw[e1,e2] at a;rw[bG,eU];exact a);have Gz:=ae nS;have Qx:=af (af u av Y) y (Y.trans bd u.size);have O:=(Y.trans bd u.size).trans rH (aP u.size av.size);clear a nS d;go_roundw
      case rel=>refine⟨i+S,i+S,Z++[UInt8.ofNat (S+125),UInt8.ofNat D],_,_,rfl,rfl,by go_num,by omega,by omega,by omega,Gz.o,?_,Apart.nil _,Qx,O,.inl rfl,?_⟩;have h0:(xs.take (i+S)).drop (i+S)=[]:=ku (by simp;omega);rw[h0,rD];exact dU _ _ _ _;rw[<-HE.o,Le.o,UW.o,bx.o];simp
      case measure=>simp [intOf];omega
    . have L:vg xs i=(0,0):=(by unfold vg;rw[J];exact if_pos (by simp only;omega));rw[L] at CM;obtain⟨c9,x,hA,_,hx,ca⟩:=LB.byte I;have a8:=UX an hx;have bf:=ae a8;subst hA;have bh:Apart (.slice Ap (i-f) cp) (.slice Av ys.length cv):=br.o.symm;have X:=ae bh;clear J L hx a8 bh;by_cases N:i+1-f=128
      . have Le:=ae (BK (b:=xs) (f:=f) (i:=i) (by rw[H.o];exact I) (by rw[UW.o];simp only;omega) N);have bF:(((i-f:Nat):Int)+1==128)=true:=by rw[gI];omega
        go_wp2_with (first
         |(go_at_call 90;refine CM.o.mono ?_;rintro e w1 ⟨rfl,q,rfl⟩)
         |(at_builtin;refine dM _ rfl (.tmp 34) (.tmp 39) _ rfl base 5 i0 (.int .u8 0) 1 1 Tryz.underlying22 HI.o aa.o ab.o ad.o rfl hz _ (Value.slice Ap (i-f) cp).ownBlock (i-f) (((xs.take i).drop f).map bv) rfl (App.own ((ay HP.o (aT (bI wr none) q) nofun).alloc _)) ⟨wr.heap.size,0,none⟩ 1 1 [.int .u8 (x.toNat:Int)] rfl hz rfl (iL _ _ _) (FU rfl) (by unfold maxLen;omega) (by omega) (by simp;omega) ?_;intro v3 w3 a E O;have y:=tu (dn E);have rH:=(O.alloc).drewN;obtain⟨A3,c3,aw,_⟩:=ai a;subst aw))
        have Ya:((xs.take (i+1)).drop f).length=i-f+1:=(by have:=H.o;simp;omega);have nS:w3.ownsRow base 5 1 (.slice A3 (i-f+1) c3) (i-f+1) (((xs.take (i+1)).drop f).map bv):=(by rw[bf.o,eU];exact a);have Yb:=wI X.o HV.o y;have Yc:Apart (.slice Av ys.length cv) (.slice A3 (i-f+1) c3):=(X.o.step HV.o rH).symm;have Qx:=af u y U;have bj:=U.trans rH u.size;have aD:=ae nS;have aL:=ae Yb;have aM:=ae Yc;have aR:=ae Ya;clear a E O nS Yb Yc Ya;refine (Ah base _ _ ys ((xs.take (i+1)).drop f) w3 aL.o (by rw[aR.o];exact aD.o) aM.o (by rw[aR.o];omega) (by omega) (by have:=Qx.size;omega)).mono ?_;rintro e w4 ⟨v4,rfl,G,bN,vH⟩;rw[Ns (b:=xs) (f:=f) (e:=i+1) (by omega) (by rw[H.o];omega)] at G;have LZ:=ae G;clear G;have bO:=af Qx bN Y;have bR:=Y.trans vH Qx.size;go_wp2_with fail;go_roundw
        case rel=>refine⟨i+1,i+1,ys++lit xs f (i+1),_,_,rfl,rfl,by go_num,by omega,by omega,by omega,LZ.o,?_,Apart.nil _,bO,bR,.inl rfl,?_⟩;have h0:(xs.take (i+1)).drop (i+1)=[]:=ku (by simp;omega);rw[h0,rD];exact dU _ _ _ _;rw[<-HE.o,Le.o,fU]
        case measure=>simp [intOf];omega
      . have Le:=ae (BL (b:=xs) (f:=f) (i:=i) (by rw[H.o];exact I) (by rw[UW.o];simp only;omega) N);have bF:(((i-f:Nat):Int)+1==128)=false:=by rw[iJ];omega
        go_wp2_with (first
         |(go_at_call 90;refine CM.o.mono ?_;rintro e w1 ⟨rfl,q,rfl⟩)
         |(at_builtin;refine dM _ rfl (.tmp 34) (.tmp 39) _ rfl base 5 i0 (.int .u8 0) 1 1 Tryz.underlying22 HI.o aa.o ab.o ad.o rfl hz _ (Value.slice Ap (i-f) cp).ownBlock (i-f) (((xs.take i).drop f).map bv) rfl (App.own ((ay HP.o (aT (bI wr none) q) nofun).alloc _)) ⟨wr.heap.size,0,none⟩ 1 1 [.int .u8 (x.toNat:Int)] rfl hz rfl (iL _ _ _) (FU rfl) (by unfold maxLen;omega) (by omega) (by simp;omega) ?_;intro v3 w3 a E O;have y:=tu (dn E);have rH:=(O.alloc).drewN;obtain⟨A3,c3,aw,_⟩:=ai a;subst aw))
        have Ya:((xs.take (i+1)).drop f).length=i-f+1:=(by have:=H.o;simp;omega);have nS:w3.ownsRow base 5 1 (.slice A3 (i-f+1) c3) (i-f+1) (((xs.take (i+1)).drop f).map bv):=(by rw[bf.o,eU];exact a);have Yb:=wI X.o HV.o y;have Yc:Apart (.slice Av ys.length cv) (.slice A3 (i-f+1) c3):=(X.o.step HV.o rH).symm;have Qx:=af u y U;have bj:=U.trans rH u.size;have aD:=ae nS;have aL:=ae Yb;have aM:=ae Yc;have aR:=ae Ya;clear a E O nS Yb Yc Ya;go_roundw
        case rel=>refine⟨i+1,f,ys,_,_,rfl,rfl,by go_num,by omega,by omega,by omega,aL.o,?_,aM.o,Qx,Y,bj,?_⟩;rw[show i+1-f=i-f+1 from by omega];exact aD.o;rw[<-HE.o,Le.o]
        case measure=>simp [intOf];omega
  . have bS:=ae (show i=n by omega);have Le:=ae (IL (b:=xs) (f:=f) (i:=i) (by rw[H.o];omega));go_wp2_with fail;refine (CL.o _ (bI wr none)).mono ?_;rintro e w2 ⟨v2,rfl,d,V,pg⟩;have a6:ys++FT ((xs.take i).drop f)=pack xs:=(by rw[bc.o,<-HE.o,Le.o,H.o,bS.o]);rw[a6] at d;have CZ:=ae d;clear d a6;go_wp2_with fail;go_ret;exact⟨v2,rfl,CZ.o,af u V Y,Y.trans pg u.size⟩
