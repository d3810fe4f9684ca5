/- Words. -/
import Derived.Test.YtfbkkgfkhhibfaaGreatUnR
import Derived.Deep.RegionLaw
set_option linter.unusedVariables false
set_option maxRecDepth 100000
set_option maxHeartbeats 8000000
namespace Iv
theorem H9 {b:Bytes}{i k:Nat}(h1:1<=k)(h2:k<=far i+1)(hi:i<=b.length)(h:far i<k\/min 130 (b.length-i)<=(kT b i (k-1)).1):bY b i=kT b i (k-1):=by unfold bY;rcases h with h|h;rw[show far i=k-1 from by omega];exact QT b i (k-1) (far i) (by omega) hi h
theorem UH {b:Bytes}{i k m:Nat}(h1:1<=k)(hm:pO b i k 130=m):kT b i k=if (kT b i (k-1)).1<m then (m,k) else kT b i (k-1):=by obtain⟨j,rfl⟩:∃j,k=j+1:=⟨k-1,by omega⟩;simp only[kT,wK,hm]
theorem zC {i k:Nat} :k<=far i ↔ k<=255/\k<=i:=by unfold far;omega
end Iv
namespace Go.Proofs.YtfbkkgfkhhibfaaGreat
open Go Go.RowKit Iv
theorem Q5 (A:Option Addr)(n c B:Nat)(xs:Bytes)(i:Nat)(w:World)(R:Lies w B 1 A n (xs.map bv))(hi:i<=n)(hn:n<=1000000000000):
 Calls Tryz.prog 113 #[.slice A n c,.int .i64 (i:Int)] w λe w'=>e= .returned (.tuple #[.int .i64 ((bY xs i).1:Int),.int .i64 ((bY xs i).2:Int)])/\∃q,w'=w.drewN q:=by
 have E:=ae R.lenB;obtain⟨L,hL⟩:∃L,L=min 130 (n-i):=⟨_,rfl⟩;have ab:L<=130:=(by omega);have U:i+L<=n:=(by omega);have al:L=130\/i+L=n:=(by omega);have Ht:=ae hL;clear hL;go_enter Tryz.func113,Tryz.ntmps113;go_wp2_with fail
 all_goals
  go_loopw [7,8,9] (λs ds d wr=>∃(k q S D:Nat),d= .int .i64 (k:Int)/\1<=k/\k<=far i+1/\kT xs i (k-1)=(S,D)/\s= .int .i64 (S:Int)/\ds= .int .i64 (D:Int)/\wr=w.drewN q) (λ_ _ d _=>300-(intOf d).toNat)
  case atStart=>exact ⟨1,0,0,0,rfl,by omega,by omega,rfl,rfl,rfl,rfl⟩
  case round=>
   obtain⟨k,q,S,D,rfl,G,H,hb,rfl,rfl,rfl⟩:=hrel;have hS:S<=L:=(by have h1:=JB xs i (k-1);have h2:=NT xs i (k-1) (by rw[E.o];exact hi);rw[hb] at h1 h2;have h3:=Ht.o;have h4:=E.o;simp only at h1 h2;omega);have V:=ae hb;clear hb;by_cases hc:(k<=255/\k<=i)/\S<L
   . obtain⟨⟨an,ao⟩,hc3⟩:=hc;obtain⟨X,Y⟩:∃X,X=q:=⟨_,rfl⟩;have I:i+L<=xs.length:=(by rw[E.o];exact U);go_wp2_with fail;go_loopw [10] (λZ wr=>∃(m J:Nat),Z= .int .i64 (m:Int)/\m<=L/\wr=w.drewN J/\(∀j,j<m->xs[i+j]?=xs[i+j-k]?)) (λZ _=>300-(intOf Z).toNat)
     case atStart=>exact ⟨0,q,rfl,ay _,rfl,λj M=>by omega⟩
     case round=>
      clear Y X;obtain⟨m,J,rfl,hm,rfl,heq⟩:=hrel;have HE:=ae heq;clear heq;have O:=ae (show Stops xs i k 130 m->kT xs i k=if S<m then (m,k) else (S,D) from λa6=>by have:=UH G (D7 a6);rw[V.o] at this;exact this);by_cases aq:m<L
      . obtain⟨ad,x,hA,ar,hx,av⟩:=R.byte (show i+m<n by omega);obtain⟨a7,y,N,aw,hy,aD⟩:=R.byte (show i+m-k<n by omega);subst hA;obtain rfl:ad=a7:=(by injection N);have HX:=ae hx;have HY:=ae hy;clear hx hy N;have e1:IntKind.i64.wrap ((i:Int)+(m:Int))=(i:Int)+(m:Int):=eY _ (by omega);have e2:IntKind.i64.wrap ((i:Int)+(m:Int)-(k:Int))=(i:Int)+(m:Int)-(k:Int):=eY _ (by omega);have e3:((i:Int)+(m:Int)).toNat=i+m:=(by omega);have e4:((i:Int)+(m:Int)-(k:Int)).toNat=i+m-k:=(by omega);have p1:(0:Int)<=(i:Int)+(m:Int):=(by omega);have p2:(0:Int)<=(i:Int)+(m:Int)-(k:Int):=(by omega);have p3:(i:Int)+(m:Int)<(n:Int):=(by omega);have p4:(i:Int)+(m:Int)-(k:Int)<(n:Int):=(by omega);have p5:(m:Int)<(n:Int)-(i:Int):=(by omega);have p6:(m:Int)<130:=(by omega);by_cases a:x=y
        . have a8:((x.toNat:Int)==(y.toNat:Int))=true:=(by simp[a]);have YK:=ae a;clear a;go_wp2_with fail;go_quiet (fail);clear e1 e2 e3 e4;go_wp2_with fail;go_roundw
          case rel=>exact ⟨m+1,J+nq,by go_num,by omega,by simp,λj M=>by
           by_cases aa:j=m;rw[aa,HX.o,HY.o,YK.o]
           . exact HE.o j (by omega)⟩
          case measure=>simp [intOf];omega
        . have a8:((x.toNat:Int)==(y.toNat:Int))=false:=by
           rw[fO];intro e;exact a (yw (by omega))
          have YK:=ae a;clear a;have u:=ae (O.o ⟨by omega,λj M=>⟨by have:=I;omega,HE.o j M⟩,.inr (λhh=>YK.o (by have h1:=hh.2;rw[HX.o,HY.o] at h1;injection h1))⟩);clear O;go_wp2_with fail;go_quiet (fail);clear e1 e2 e3 e4;go_wp2_with fail
          all_goals
           go_roundw
           case rel=>exact ⟨k+1,J+nq,_,_,by go_num,by omega,by have:=zC (i:=i) (k:=k);omega,by rw[wK,u.o];first|exact if_pos (by omega)|exact if_neg (by omega),rfl,rfl,by simp⟩
           case measure=>simp [intOf];omega
      . have u:=ae (O.o ⟨by omega,λj M=>⟨by have:=I;omega,HE.o j M⟩,by
         rcases (show m=130\/i+m=n by omega) with h1|h1;exact .inl h1
         . exact .inr (λhh=>by have:=E.o;omega)⟩)
        clear O;(first|(have hd:decide ((m:Int)<130)=false:=by rw[ji];omega)|(have hd:decide ((m:Int)<(n:Int)-(i:Int))=false:=by rw[ji];omega));go_wp2_with fail;go_quiet (fail);clear hd;go_wp2_with fail
        all_goals
         go_roundw
         case rel=>exact ⟨k+1,J+nq,_,_,by go_num,by omega,by have:=zC (i:=i) (k:=k);omega,by rw[wK,u.o];first|exact if_pos (by omega)|exact if_neg (by omega),rfl,rfl,by simp⟩
         case measure=>simp [intOf];omega
   . have HF:Hid (bY xs i=(S,D)):=by
      refine ae ?_;rw[<-V.o];refine H9 G H (by rw[E.o];exact hi) ?_;rw[V.o,E.o];unfold far at H|-;have:=Ht.o;simp only;omega
     go_wp2_with fail;all_goals (go_ret2;exact⟨by rw[HF.o];rfl,q,rfl⟩)
def wL (xs:Bytes)(i:Nat):Nat×Nat:=if (bY xs i).1<3 then (0,0) else bY xs i
theorem Q7 (A:Option Addr)(n c B:Nat)(xs:Bytes)(i:Nat)(w:World)(N:Lies w B 1 A n (xs.map bv))(hi:i<=n)(hn:n<=1000000000000):
 Calls Tryz.prog 90 #[.slice A n c,.int .i64 (i:Int)] w λe w'=>e= .returned (.tuple #[.int .i64 ((wL xs i).1:Int),.int .i64 ((wL xs i).2:Int)])/\∃q,w'=w.drewN q:=by
 have O:=ae N.lenB;go_enter Tryz.func90,Tryz.ntmps90;go_wp2_with fail;go_loopw [6,7,8] (λs ds d wr=>∃(k q S D:Nat),d= .int .i64 (k:Int)/\1<=k/\k<=far i+1/\kT xs i (k-1)=(S,D)/\s= .int .i64 (S:Int)/\ds= .int .i64 (D:Int)/\wr=w.drewN q) (λ_ _ d _=>300-(intOf d).toNat)
 case atStart=>exact ⟨1,0,0,0,rfl,by omega,by omega,rfl,rfl,rfl,rfl⟩
 case round=>
  obtain⟨k,q,S,D,rfl,J,R,hb,rfl,rfl,rfl⟩:=hrel;have hS:S<=130:=(by have h1:=JB xs i (k-1);rw[hb] at h1;simpa using h1);have HB:=ae hb;clear hb;by_cases hc:k<=255/\k<=i
  . obtain⟨a7,a8⟩:=hc;have E:n<=xs.length:=(by rw[O.o];exact ak _);go_wp2_with fail;go_loopw [9] (λU wr=>∃(m H:Nat),U= .int .i64 (m:Int)/\m<=130/\i+m<=n/\wr=w.drewN H/\(∀j,j<m->xs[i+j]?=xs[i+j-k]?)) (λU _=>300-(intOf U).toNat)
    case atStart=>exact ⟨0,q,rfl,ay _,hi,rfl,λj G=>by omega⟩
    case round=>
     obtain⟨m,H,rfl,hm,aa,rfl,heq⟩:=hrel;have M:=ae heq;clear heq;have I:=ae (show Stops xs i k 130 m->kT xs i k=if S<m then (m,k) else (S,D) from λV=>by have:=UH J (D7 V);rw[HB.o] at this;exact this);have e1:IntKind.i64.wrap ((i:Int)+(m:Int))=(i:Int)+(m:Int):=eY _ (by omega);by_cases ab:m<130
     . by_cases al:i+m<n
       . obtain⟨ad,x,hA,an,hx,ao⟩:=N.byte (show i+m<n by omega);obtain⟨X,y,L,aq,hy,ar⟩:=N.byte (show i+m-k<n by omega);subst hA;obtain rfl:ad=X:=(by injection L);have HX:=ae hx;have HY:=ae hy;clear hx hy L;have e2:IntKind.i64.wrap ((i:Int)+(m:Int)-(k:Int))=(i:Int)+(m:Int)-(k:Int):=eY _ (by omega);have e3:((i:Int)+(m:Int)).toNat=i+m:=(by omega);have e4:((i:Int)+(m:Int)-(k:Int)).toNat=i+m-k:=(by omega);have p1:(0:Int)<=(i:Int)+(m:Int):=(by omega);have p2:(0:Int)<=(i:Int)+(m:Int)-(k:Int):=(by omega);have p3:(i:Int)+(m:Int)<(n:Int):=(by omega);have p4:(i:Int)+(m:Int)-(k:Int)<(n:Int):=(by omega);have Y:(m:Int)<130:=(by omega);by_cases a:x=y
         . have Z:((x.toNat:Int)==(y.toNat:Int))=true:=(by simp[a]);have YK:=ae a;clear a;go_wp2_with fail;go_quiet (fail);clear e1 e2 e3 e4;go_wp2_with fail;go_roundw
           case rel=>exact ⟨m+1,H+nq,by go_num,by omega,by omega,by simp,λj G=>by
            by_cases a6:j=m;rw[a6,HX.o,HY.o,YK.o]
            . exact M.o j (by omega)⟩
           case measure=>simp [intOf];omega
         . have Z:((x.toNat:Int)==(y.toNat:Int))=false:=by
            rw[fO];intro e;exact a (yw (by omega))
           have YK:=ae a;clear a;have u:=ae (I.o ⟨by omega,λj G=>⟨by have:=E;omega,M.o j G⟩,.inr (λhh=>YK.o (by have h1:=hh.2;rw[HX.o,HY.o] at h1;injection h1))⟩);clear I;go_wp2_with fail;go_quiet (fail);clear e1 e2 e3 e4;go_wp2_with fail
           all_goals
            go_roundw
            case rel=>exact ⟨k+1,H+nq,_,_,by go_num,by omega,by have:=zC (i:=i) (k:=k);omega,by rw[wK,u.o];first|exact if_pos (by omega)|exact if_neg (by omega),rfl,rfl,by simp⟩
            case measure=>simp [intOf];omega
       . have u:=ae (I.o ⟨by omega,λj G=>⟨by have:=E;omega,M.o j G⟩,.inr (λhh=>by have:=O.o;omega)⟩);clear I;have Y:(m:Int)<130:=(by omega);have p7:decide ((i:Int)+(m:Int)<(n:Int))=false:=(by rw[ji];omega);go_wp2_with fail;go_quiet (fail);clear e1 p7;go_wp2_with fail
         all_goals
          go_roundw
          case rel=>exact ⟨k+1,H+nq,_,_,by go_num,by omega,by have:=zC (i:=i) (k:=k);omega,by rw[wK,u.o];first|exact if_pos (by omega)|exact if_neg (by omega),rfl,rfl,by simp⟩
          case measure=>simp [intOf];omega
     . have u:=ae (I.o ⟨by omega,λj G=>⟨by have:=E;omega,M.o j G⟩,.inl (by omega)⟩);clear I;have Y:decide ((m:Int)<130)=false:=(by rw[ji];omega);go_wp2_with fail;go_quiet (fail);clear e1 Y;go_wp2_with fail
       all_goals
        go_roundw
        case rel=>exact ⟨k+1,H+nq,_,_,by go_num,by omega,by have:=zC (i:=i) (k:=k);omega,by rw[wK,u.o];first|exact if_pos (by omega)|exact if_neg (by omega),rfl,rfl,by simp⟩
        case measure=>simp [intOf];omega
  . have HF:Hid (bY xs i=(S,D)):=by
     refine ae ?_;rw[<-HB.o];refine H9 J R (by rw[O.o];exact hi) (.inl ?_);have:=zC (i:=i) (k:=k);omega
    by_cases h3:S<3
    . have HR:Hid (wL xs i=(0,0)):=by
       refine ae ?_;unfold wL;rw[HF.o];exact if_pos h3
      go_wp2_with fail;all_goals (go_ret2;exact⟨by rw[HR.o];rfl,q,rfl⟩)
    . have HR:Hid (wL xs i=(S,D)):=by
       refine ae ?_;unfold wL;rw[HF.o];exact if_neg h3
      go_wp2_with fail;all_goals (go_ret2;exact⟨by rw[HR.o];rfl,q,rfl⟩)
theorem aaw (w:World)(N:Nat)(a:w.heap.size=N)(t:TypeId)(cs:Array Value):Held (w.alloc (.cells cs t)) N t cs:=a▸Held.new w t cs
abbrev PkI (w:World)(gb go gf base:Nat)(A:Option Addr)(n c f:Nat)(ys:Bytes)(v:Value)(wr:World):Prop:=
 PkInv 22 3 5 w gb go gf base A n c f ys v wr
theorem zX (w:World)(gb go gf base B:Nat)(A:Option Addr)(n c f e:Nat)(xs ys:Bytes)(v:Value)(wr:World)(G:PkI w gb go gf base A n c f ys v wr)
 (mf:Lies w B 1 A n (xs.map bv)) (hB:B<=w.heap.size) (hnc:n<=c) (hn:n<=1000000000) (hf:f<=e) (he:e<=n) (aq:e-f<=128) (hy:ys.length<=100000000000) (a6:base<=wr.heap.size):
 Calls Tryz.prog 112 #[.int .i64 (e:Int),.pointer (some ⟨gf,0,none⟩),.pointer (some ⟨go,0,none⟩),.pointer (some ⟨gb,0,none⟩)] wr λen w'=>en= .returned (.tuple #[])/\∃v',PkI w gb go gf base A n c e (ys++lit xs f e) v' w':=by
 have HL:=ae mf.lenB;obtain⟨Z,co,cf,fo,ff⟩:=G.cells;by_cases a7:f<e
 . obtain⟨i0,hi,I,J,L⟩:=info_parts jU;have HI:=ae hi;have M:=ae I;have N:=ae J;have O:=ae L;clear hi I J L;have hz:(0:Nat)<1:=(by omega);obtain⟨ad,hA,_,_⟩:=mf.2 (by omega);subst hA;obtain⟨A0,c0,a8,_⟩:=ai G.own;subst a8;have u:=ae G;clear G;have R:Value.int .u8 ((e:Int)-(f:Int)-1)=bv (UInt8.ofNat (e-f-1)):=by
    unfold bv;rw[aT (by omega)];congr 1;omega
   have aa:=ae R;clear R;go_enter Tryz.func112,Tryz.ntmps112;go_wp2_with (at_builtin;refine bW _ rfl (.tmp 8) (.tmp 14) _ rfl base 5 i0 (.int .u8 0) 1 1 Tryz.underlying22 HI.o M.o N.o O.o rfl hz _ (Value.slice A0 ys.length c0).ownBlock ys.length (ys.map bv) rfl (App.own (u.o.own.alloc _)) ⟨wr.heap.size,0,none⟩ 1 1 [.int .u8 ((e:Int)-(f:Int)-1)] rfl hz rfl (gZ _ _ _) (BQ rfl) (by unfold maxLen;omega) (by omega) (by simp;omega) ?_;intro v1 w1 a U lT;have q:=dA U;obtain⟨A1,c1,ab,_⟩:=ai a;subst ab;obtain⟨d1,d2,d3,d4,d5⟩:=u.o.seen q);have V:w1.ownsRow base 5 1 (.slice A1 (ys.length+1) c1) (ys++[UInt8.ofNat (e-f-1)]).length ((ys++[UInt8.ofNat (e-f-1)]).map bv):=(by rw[aY,fF];rw[aa.o] at a;exact a);have H:=u.o.push V q;obtain⟨X,y⟩:∃X,X=w1.setCell ⟨go,0,none⟩ (.slice A1 (ys.length+1) c1):=⟨_,rfl⟩;have al:base<=X.heap.size:=(by have:=q.size;rw[y];simp[World.setCell];omega);rw[<-y] at H;rw[show w1.setCell ⟨go,0,none⟩ (.slice A1 (ys.length+1) c1)=X from y.symm];clear y a V U q lT d1 d2 d3 d4 d5 Z co cf fo ff;have LB:=mf.grown H.grown hB nofun;obtain⟨Z,co,cf,fo,ff⟩:=H.cells;have hcut:Lies X B 1 (some (ad.add f)) (e-f) (((xs.take e).drop f).map bv):=(by have h1:=(LB.drop (k:=f) (by omega)).take (m:=e-f) (by omega);simp only[iY] at h1;rw[<-oL,<-kU,<-List.drop_take] at h1;exact h1);have Jo:=ae hcut;have j0:(0:Int)<=(f:Int):=(by omega);have j1:(f:Int)<=(e:Int):=(by omega);have j2:(e:Int)<=(c:Int):=(by omega);have j3:¬c=f:=(by omega);have ar:(e:Int).toNat-(f:Int).toNat=e-f:=(by omega);clear hcut
   go_region_law
    ((refine qA _ (by rfl) (.tmp 16) (.tmp 20) _ (by rfl) base 5 i0 (.int .u8 0) 1 1 Tryz.underlying22 HI.o M.o N.o O.o (by rfl) hz (.slice A1 (ys.length+1) c1) _ _ (by rfl) H.drew.own B (some (ad.add f)) (e-f) (c-f) _ (by rfl) Jo.o.drew (λe=>nomatch e) (mG _) (by unfold maxLen;simp;omega) (by simp;omega) al ?_;intro v2 w2 d D mW;obtain⟨A2,c2,an,_⟩:=ai d;subst an;obtain⟨d1,d2,d3,d4,d5⟩:=H.drew.seen D))
   all_goals
    have Y:w2.ownsRow base 5 1 (.slice A2 (ys.length+1+(e-f)) c2) (ys++lit xs f e).length ((ys++lit xs f e).map bv):=(by have hls:(ys++[UInt8.ofNat (e-f-1)])++(xs.take e).drop f=ys++lit xs f e:=(by unfold lit;rw[if_pos a7];simp);have ao:(ys++lit xs f e).length=ys.length+1+(e-f):=(by rw[<-hls];have:=HL.o;simp;omega);rw[ao,<-hls,fF];rw[aY] at d;exact d);have J2:=H.drew.push Y D;obtain⟨W2,E⟩:∃W2,W2=w2.setCell ⟨go,0,none⟩ (.slice A2 (ys.length+1+(e-f)) c2):=⟨_,rfl⟩;rw[<-E] at J2;rw[show w2.setCell ⟨go,0,none⟩ (.slice A2 (ys.length+1+(e-f)) c2)=W2 from E.symm];clear E d Y D mW d1 d2 d3 d4 d5 Z co cf fo ff;obtain⟨Z,co,cf,fo,ff⟩:=J2.cells;go_wp2_with fail;go_end0;exact⟨rfl,_,J2.first e⟩
 . obtain rfl:f=e:=(by omega);have V3:lit xs f f=[]:=(by unfold lit;rw[if_neg (by omega)]);rw[V3,nN];have u:=ae G;clear G;go_enter Tryz.func112,Tryz.ntmps112;go_wp2_with fail;go_end0;exact⟨rfl,_,u.o.first f⟩
theorem WZ (A:Option Addr)(n c B:Nat)(xs:Bytes)(w:World)(Z:Lies w B 1 A n (xs.map bv))(hB:B<=w.heap.size)(hnc:n<=c)(hn:n<=1000000000)(u:Nat)(bd:u<=w.heap.size):
 Calls Tryz.prog 80 #[.slice A n c] w λe w'=>∃v',e= .returned v'/\w'.ownsRow u 5 1 v' (pack xs).length ((pack xs).map bv)/\w.grownBy w' none/\At w none v'.ownBlock:=by
 have J:=ae Z.lenB;obtain⟨W,hW⟩:∃W,W=((w.alloc (.cells #[.slice A n c] 22)).alloc (.cells #[.slice none 0 0] 22)).alloc (.cells #[.int .i64 0] 3):=⟨_,rfl⟩;have HW:=ae hW;clear hW;go_enter Tryz.func80,Tryz.ntmps80;have al:=iy xs;obtain⟨i0,hi,a7,a8,aa⟩:=info_parts jU;have HI:=ae hi;have an:=ae a7;have ao:=ae a8;have aq:=ae aa;clear hi a7 a8 aa;have hz:(0:Nat)<1:=(by omega);have ar:xs.length=n:=J.o;have bf:(pack xs).length<=3000000000:=(by omega);have I0:PkI w w.heap.size (w.heap.size+1) (w.heap.size+1+1) (w.heap.size+1+1+1) A n c 0 [] (.slice none 0 0) W:=(by rw[HW.o];refine⟨((Held.new w _ _).alloc _).alloc _,?_,?_,dw _ _ _ _,?_,⟨by omega,by omega,by omega⟩,⟨by omega,by omega,by omega⟩,⟨by omega,by omega,by omega⟩⟩;exact (aaw (w.alloc _) _ (by simp) _ _).alloc _;exact aaw ((w.alloc _).alloc _) _ (by simp) _ _;exact af (af (aP w _ none) (aP _ _ none) (.inl rfl)) (aP _ _ none) (.inl rfl));go_wp2_with fail;rw[show ((w.alloc (.cells #[.slice A n c] 22)).alloc (.cells #[.slice none 0 0] 22)).alloc (.cells #[.int .i64 0] 3)=W from HW.o.symm];clear ar al;go_loopw [6,7,8] (λiv _ _ wr=>∃(i f:Nat) (ys:Bytes) (v:Value),iv= .int .i64 (i:Int)/\i<=n/\f<=i/\i-f<128/\PkI w w.heap.size (w.heap.size+1) (w.heap.size+1+1) (w.heap.size+1+1+1) A n c f ys v wr/\ys++pk xs f i=pack xs) (λiv _ _ _=>n-(intOf iv).toNat)
 case atStart=>exact ⟨0,0,[],_,rfl,ay _,ay _,by omega,I0,rfl⟩
 case round=>
  clear I0;obtain⟨i,f,ys,v,rfl,O,ab,b9,hI,heq⟩:=hrel;have bh:ys.length<=3000000000:=(by have:=jY List.length heq;rw[aY] at this;omega);have R:w.heap.size+1+1+1<=wr.heap.size:=(by have:=hI.hf.lt;omega);obtain⟨cb,co,cf,fo,ff⟩:=hI.cells;have LB:=Z.grown hI.grown hB nofun;have HE:=ae heq;have y:=ae hI;clear heq hI;by_cases L:i<n
  . have CM:=ae (Q5 A n c B xs i wr LB O (by omega));obtain⟨S,D,U⟩:∃S D,bY xs i=(S,D):=⟨_,_,rfl⟩;rw[U] at CM;have Y:=ae U;clear U;by_cases h3:3<=S
    . obtain⟨b1,b2,b3,b4,b5,_⟩:=oN (b:=xs) (i:=i) (by rw[J.o];exact L) (by rw[Y.o];exact h3);rw[Y.o] at b1 b2 b3 b4 b5;rw[J.o] at b5;simp only at b1 b2 b3 b4 b5;have V:=ae (CO (b:=xs) (f:=f) (i:=i) (by rw[J.o];exact L) (by rw[Y.o];exact h3))
      go_wp2_with (first
       |(go_at_call 113;refine CM.o.mono ?_;rintro e w1 ⟨rfl,q,rfl⟩))
      refine (zX w _ _ _ _ B A n c f i xs ys v _ (y.o.drewN q) Z hB hnc hn ab O (by omega) (by omega) R).mono ?_;rintro e w2 ⟨rfl,v2,d⟩;have av:(ys++lit xs f i).length<=3000000200:=(by have h1:=yz xs (f:=f) (e:=i) ab (by rw[J.o];exact O);rw[aY,h1];split<;>omega);obtain⟨M,X⟩:∃M,M=ys++lit xs f i:=⟨_,rfl⟩;rw[<-X] at d av;have aw:=ae X;obtain⟨A2,c2,aD,_⟩:=ai d.own;subst aD;have ba:w.heap.size+1+1+1<=w2.heap.size:=(by have:=d.hf.lt;omega);clear cb co cf fo ff X;obtain⟨cb,co,cf,fo,ff⟩:=d.cells;have E:=ae d;clear d;go_wp2_with (at_builtin;refine bW _ rfl (.tmp 25) (.tmp 31) _ rfl (w.heap.size+1+1+1) 5 i0 (.int .u8 0) 1 1 Tryz.underlying22 HI.o an.o ao.o aq.o rfl hz _ (Value.slice A2 M.length c2).ownBlock M.length (M.map bv) rfl (App.own (E.o.own.alloc _)) ⟨w2.heap.size,0,none⟩ 2 2 [.int .u8 ((S:Int)+125),.int .u8 (D:Int)] rfl (by omega) rfl (Ip _ _ _ _) (ajK rfl rfl) (by unfold maxLen;omega) (by omega) (by simp;omega) ?_;intro v3 w3 a ad lD;have G:=dA ad;obtain⟨A3,c3,aL,_⟩:=ai a;subst aL;obtain⟨d1,d2,d3,d4,d5⟩:=E.o.seen G);have nZ:w3.ownsRow (w.heap.size+1+1+1) 5 1 (.slice A3 (M.length+2) c3) (M++[UInt8.ofNat (S+125),UInt8.ofNat D]).length ((M++[UInt8.ofNat (S+125),UInt8.ofNat D]).map bv):=(by have e1:Value.int .u8 ((S:Int)+125)=bv (UInt8.ofNat (S+125)):=(by unfold bv;rw[aT (by omega)];rfl);have e2:Value.int .u8 (D:Int)=bv (UInt8.ofNat D):=(by unfold bv;rw[aT (by omega)]);rw[e1,e2] at a;rw[aY,fF];exact a);have J3:=(E.o.push nZ G).first (i+S);have H:Value.int .i64 ((i+S:Nat):Int)= .int .i64 ((i:Int)+(S:Int)):=(by simp);rw[H] at J3;have aM:=ae J3;clear a nZ J3 H ad G lD d1 d2 d3 d4 d5;go_roundw
      case rel=>refine⟨i+S,i+S,M++[UInt8.ofNat (S+125),UInt8.ofNat D],_,by go_num,by omega,by omega,by omega,aM.o,?_⟩;rw[<-HE.o,V.o,Y.o,aw.o];simp
      case measure=>simp [intOf];omega
    . by_cases I:i+1-f=128
      . have V:=ae (CV (b:=xs) (f:=f) (i:=i) (by rw[J.o];exact L) (by rw[Y.o];simp only;omega) I);have aR:(((i:Int)+1-(f:Int))==128)=true:=by rw[eG];omega
        go_wp2_with (first
         |(go_at_call 113;refine CM.o.mono ?_;rintro e w1 ⟨rfl,q,rfl⟩))
        rw[show Value.int .i64 ((i:Int)+1)= .int .i64 ((i+1:Nat):Int) from by simp];refine (zX w _ _ _ _ B A n c f (i+1) xs ys v _ (y.o.drewN q) Z hB hnc hn (by omega) (by omega) (by omega) (by omega) R).mono ?_;rintro e w2 ⟨rfl,v2,d⟩;have E:=ae d;clear d;go_wp2_with fail;go_roundw
        case rel=>refine⟨i+1,i+1,ys++lit xs f (i+1),_,by go_num,by omega,by omega,by omega,E.o,?_⟩;rw[<-HE.o,V.o,fM]
        case measure=>simp [intOf];omega
      . have V:=ae (CX (b:=xs) (f:=f) (i:=i) (by rw[J.o];exact L) (by rw[Y.o];simp only;omega) I);have aR:(((i:Int)+1-(f:Int))==128)=false:=(by rw[fO];omega);have b0:=y;clear y
        go_wp2_with (first
         |(go_at_call 113;refine CM.o.mono ?_;rintro e w1 ⟨rfl,q,rfl⟩))
        go_roundw
        case rel=>refine⟨i+1,f,ys,_,by go_num,by omega,by omega,by omega,b0.o.drewN q,?_⟩;rw[<-HE.o,V.o]
        case measure=>simp [intOf];omega
  . have bc:i=n:=(by omega);have V:=ae (JC (b:=xs) (f:=f) (i:=i) (by rw[J.o];omega));go_wp2_with fail;refine (zX w _ _ _ _ B A n c f n xs ys v _ y.o Z hB hnc hn (by omega) (by omega) (by omega) (by omega) R).mono ?_;rintro e w2 ⟨rfl,v2,d⟩;have N:ys++lit xs f n=pack xs:=by
     have h1:=HE.o;rw[V.o,J.o] at h1;exact h1
    rw[N] at d;obtain⟨bj,bk,bl,bm,bn⟩:=d.cells;have a6:=dK d.own (base':=u) (by omega);have b6:=d.grown;have b8:At w none v2.ownBlock:=by
     cases hv:v2.ownBlock with
     |none=>exact .inl rfl
     |some g=>exact .inr ⟨g,rfl,by have:=(d.own.lt g hv).1;omega⟩
    clear N d cb co cf fo ff;go_wp2_with fail;go_ret;exact⟨v2,rfl,a6,b6,b8⟩
theorem Bq (base:Nat)(v pv:Value)(ys d:Bytes)(w:World)(h:w.ownsRow base 5 1 v ys.length (ys.map bv))(E:w.ownsRow base 5 1 pv d.length (d.map bv))(B:Apart v pv)
 (G:d.length<=128) (hy:ys.length<=100000000000) (Y:base<=w.heap.size):
 Calls Tryz.prog 91 #[v,pv] w λe w'=>∃v',e= .returned v'/\w'.ownsRow base 5 1 v' (ys++Gz d).length ((ys++Gz d).map bv)/\w.grownBy w' v.ownBlock/\At w v.ownBlock v'.ownBlock:=by
 obtain⟨A,c,hv,_,_,Z,_⟩:=ai h;obtain⟨Ap,cp,a6,_,_,H,I⟩:=ai E;subst hv a6;obtain⟨u,UC⟩:∃u,u=d.length:=⟨_,rfl⟩;rw[<-UC] at E B H G|-;have y:=ae UC;clear UC;by_cases h0:u=0
 . subst h0;have X:Gz d=[]:=(by unfold Gz;rw[if_neg (by rw[<-y.o];omega)]);rw[X,nN];have HH:=ae h;clear h E;go_enter Tryz.func91,Tryz.ntmps91;go_wp2_with fail;go_ret;exact⟨_,rfl,HH.o,aW w _,.inl rfl⟩
 . obtain⟨i0,hi,J,L,M⟩:=info_parts jU;have HI:=ae hi;have N:=ae J;have O:=ae L;have R:=ae M;clear hi J L M;have hz:(0:Nat)<1:=(by omega);have al:((u:Int)==0)=false:=(by rw[fO];omega);have HH:=ae h;have HP:=ae E;have a7:=ae B;have a8:=ae I;clear h E B I Z H;go_enter Tryz.func91,Tryz.ntmps91
   go_wp2_with (first
    |(at_builtin;refine bW _ rfl (.tmp 9) (.tmp 14) _ rfl base 5 i0 (.int .u8 0) 1 1 Tryz.underlying22 HI.o N.o O.o R.o rfl hz _ (Value.slice A ys.length c).ownBlock ys.length (ys.map bv) rfl (App.own (HH.o.alloc _)) ⟨w.heap.size,0,none⟩ 1 1 [.int .u8 ((u:Int)-1)] rfl hz rfl (gZ _ _ _) (BQ rfl) (by unfold maxLen;omega) (by omega) (by simp;omega) ?_;intro v1 w1 D U lT;have a:=dA U;have V:=lT.alloc;have aa:=xE a7.o HP.o a;clear U lT)
    |(at_builtin;refine dn _ rfl (.tmp 16) (.tmp 17) _ rfl base 5 i0 (.int .u8 0) 1 1 Tryz.underlying22 HI.o N.o O.o R.o rfl hz _ (ys.length+1) _ rfl D w1.heap.size Ap u cp (d.map bv) rfl (Lies.ofOwn aa) a8.o (mG _) (by unfold maxLen;omega) (by omega) (by have:=a.size;omega) ?_;intro v2 w2 q ab mW))
   go_ret;have ad:Value.int .u8 ((u:Int)-1)=bv (UInt8.ofNat (u-1)):=(by unfold bv;rw[aT (by omega)];congr 1;omega);have X:ys++Gz d=(ys++[UInt8.ofNat (u-1)])++d:=(by unfold Gz;rw[if_pos (by rw[<-y.o];omega),<-y.o];simp);have hlen:(ys++Gz d).length=ys.length+1+u:=(by rw[X];have:=y.o;simp;omega);refine⟨v2,rfl,?_,af a ab V,V.trans mW a.size⟩;rw[hlen,X,fF,fF];rw[ad] at q;exact q
theorem VS (A:Option Addr)(n c B:Nat)(xs:Bytes)(w:World)(mf:Lies w B 1 A n (xs.map bv))(hB:B<=w.heap.size)(hnc:n<=c)(hn:n<=1000000000)(base:Nat)(a6:base<=w.heap.size):
 Calls Tryz.prog 62 #[.slice A n c] w λe w'=>∃v',e= .returned v'/\w'.ownsRow base 5 1 v' (pack xs).length ((pack xs).map bv)/\w.grownBy w' none/\At w none v'.ownBlock:=by
 have H:=ae mf.lenB;have bj:=iy xs;have bk:xs.length=n:=H.o;have a7:(pack xs).length<=3000000000:=(by omega);obtain⟨i0,hi,aR,b0,b6⟩:=info_parts jU;have HI:=ae hi;have a8:=ae aR;have aa:=ae b0;have ab:=ae b6;clear hi aR b0 b6 bk bj;have hz:(0:Nat)<1:=(by omega);go_enter Tryz.func62,Tryz.ntmps62;go_wp2_with fail
 go_loopw [3,4,5,6,7] (λv pv iv _ _ wr=>∃(i f:Nat) (ys:Bytes) (vv pp:Value),vv=v/\pp=pv/\iv= .int .i64 (i:Int)/\i<=n/\f<=i/\i-f<128/\wr.ownsRow base 5 1 vv ys.length (ys.map bv)/\
  wr.ownsRow base 5 1 pp (i-f) (((xs.take i).drop f).map bv)/\Apart vv pp/\w.grownBy wr none/\At w none vv.ownBlock/\At w none pp.ownBlock/\ys++pk xs f i=pack xs) (λ_ _ iv _ _ _=>n-(intOf iv).toNat)
 case atStart=>exact ⟨0,0,[],_,_,rfl,rfl,rfl,ay _,ay _,by omega,dw _ _ _ _,dw _ _ _ _,Apart.nil _,aW w none,.inl rfl,.inl rfl,rfl⟩
 case round=>
  obtain⟨i,f,ys,vv,pp,rfl,rfl,rfl,ad,al,bS,hv,hp,an,u,V,O,heq⟩:=hrel;have c6:ys.length<=3000000000:=(by have:=jY List.length heq;rw[aY] at this;omega);have b8:base<=wr.heap.size:=aG a6 u.size;have ao:((xs.take i).drop f).length=i-f:=(by have:=H.o;simp;omega);have LB:=mf.grown u hB nofun;obtain⟨Av,cv,bl,_,_,bm,_⟩:=ai hv;obtain⟨Ap,cp,bn,_,_,bo,bp⟩:=ai hp;have b9:wr.ownsRow base 5 1 pp ((xs.take i).drop f).length (((xs.take i).drop f).map bv):=(by rw[ao];exact hp);have CL:=ae (λ(W:World) (hW:wr.grownBy W none)=>Bq base vv pp ys ((xs.take i).drop f) W (ax hv hW nofun) (ax b9 hW nofun) an (by rw[ao];omega) (by omega) (aG b8 hW.size));subst bl bn;have HE:=ae heq;have HV:=ae hv;have HP:=ae hp;have bq:=ae an;have ba:=ae (OC (b:=xs) (f:=f) (e:=i) al (by rw[H.o];exact ad));clear heq hv hp an b9 ao bm bo bp;by_cases I:i<n
  . have CM:=ae (Q7 A n c B xs i wr LB ad (by omega));obtain⟨S,D,J⟩:∃S D,bY xs i=(S,D):=⟨_,_,rfl⟩;have V4:=ae J;by_cases h3:3<=S
    . have L:wL xs i=(S,D):=(by unfold wL;rw[J];exact if_neg (by simp only;omega));rw[L] at CM;obtain⟨b1,b2,b3,b4,b5,_⟩:=oN (b:=xs) (i:=i) (by rw[H.o];exact I) (by rw[V4.o];exact h3);rw[V4.o] at b1 b2 b3 b4 b5;rw[H.o] at b5;simp only at b1 b2 b3 b4 b5;have RH:=ae (CO (b:=xs) (f:=f) (i:=i) (by rw[H.o];exact I) (by rw[V4.o];exact h3));clear J L
      go_wp2_with (first
       |(go_at_call 90;refine CM.o.mono ?_;rintro e w1 ⟨rfl,q,rfl⟩))
      refine (CL.o _ (aH (aW wr none) q)).mono ?_;rintro e w2 ⟨v2,rfl,d,R,mW⟩;rw[ba.o] at d;have br:(ys++lit xs f i).length<=3000000200:=(by have h1:=yz xs (f:=f) (e:=i) al (by rw[H.o];exact ad);rw[aY,h1];split<;>omega);obtain⟨X,aq⟩:∃X,X=ys++lit xs f i:=⟨_,rfl⟩;rw[<-aq] at d br;have bt:=ae aq;obtain⟨A2,c2,bx,_⟩:=ai d;subst bx;have ar:=uz R;have bc:=mW.drewN;have b':base<=w2.heap.size:=aG b8 ar.size;clear aq R mW;go_wp2_with (at_builtin;refine bW _ rfl (.tmp 23) (.tmp 29) _ rfl base 5 i0 (.int .u8 0) 1 1 Tryz.underlying22 HI.o a8.o aa.o ab.o rfl hz _ (Value.slice A2 X.length c2).ownBlock X.length (X.map bv) rfl (App.own (d.alloc _)) ⟨w2.heap.size,0,none⟩ 2 2 [.int .u8 ((S:Int)+125),.int .u8 (D:Int)] rfl (by omega) rfl (Ip _ _ _ _) (ajK rfl rfl) (by unfold maxLen;omega) (by omega) (by simp;omega) ?_;intro v3 w3 a E N);have y:=dA E;have mg:=N.alloc;clear E N;have Y:w3.ownsRow base 5 1 v3 (X++[UInt8.ofNat (S+125),UInt8.ofNat D]).length ((X++[UInt8.ofNat (S+125),UInt8.ofNat D]).map bv):=(by have e1:Value.int .u8 ((S:Int)+125)=bv (UInt8.ofNat (S+125)):=(by unfold bv;rw[aT (by omega)];rfl);have e2:Value.int .u8 (D:Int)=bv (UInt8.ofNat D):=(by unfold bv;rw[aT (by omega)]);rw[e1,e2] at a;rw[aY,fF];exact a);have CG:=ae Y;have RI:=af (af u ar V) y (V.trans bc u.size);have N:=(V.trans bc u.size).trans mg (aG u.size ar.size);clear a Y d;go_roundw
      case rel=>refine⟨i+S,i+S,X++[UInt8.ofNat (S+125),UInt8.ofNat D],_,_,rfl,rfl,by go_num,by omega,by omega,by omega,CG.o,?_,Apart.nil _,RI,N,.inl rfl,?_⟩;have h0:(xs.take (i+S)).drop (i+S)=[]:=jK (by simp;omega);rw[h0,qm];exact dw _ _ _ _;rw[<-HE.o,RH.o,V4.o,bt.o];simp
      case measure=>simp [intOf];omega
    . have L:wL xs i=(0,0):=(by unfold wL;rw[J];exact if_pos (by simp only;omega));rw[L] at CM;obtain⟨c7,x,hA,_,hx,c9⟩:=LB.byte I;have a7:=V5 al hx;have bd:=ae a7;subst hA;have bf:Apart (.slice Ap (i-f) cp) (.slice Av ys.length cv):=bq.o.symm;have U:=ae bf;clear J L hx a7 bf;by_cases M:i+1-f=128
      . have RH:=ae (CV (b:=xs) (f:=f) (i:=i) (by rw[H.o];exact I) (by rw[V4.o];simp only;omega) M);have bB:(((i-f:Nat):Int)+1==128)=true:=by rw[eG];omega
        go_wp2_with (first
         |(go_at_call 90;refine CM.o.mono ?_;rintro e w1 ⟨rfl,q,rfl⟩)
         |(at_builtin;refine bW _ rfl (.tmp 34) (.tmp 39) _ rfl base 5 i0 (.int .u8 0) 1 1 Tryz.underlying22 HI.o a8.o aa.o ab.o rfl hz _ (Value.slice Ap (i-f) cp).ownBlock (i-f) (((xs.take i).drop f).map bv) rfl (App.own ((ax HP.o (aH (aW wr none) q) nofun).alloc _)) ⟨wr.heap.size,0,none⟩ 1 1 [.int .u8 (x.toNat:Int)] rfl hz rfl (gZ _ _ _) (BQ rfl) (by unfold maxLen;omega) (by omega) (by simp;omega) ?_;intro v3 w3 a E N;have y:=uz (dA E);have mg:=(N.alloc).drewN;obtain⟨A3,c3,av,_⟩:=ai a;subst av))
        have Zm:((xs.take (i+1)).drop f).length=i-f+1:=(by have:=H.o;simp;omega);have Y:w3.ownsRow base 5 1 (.slice A3 (i-f+1) c3) (i-f+1) (((xs.take (i+1)).drop f).map bv):=(by rw[bd.o,fF];exact a);have Zn:=xE U.o HV.o y;have Zo:Apart (.slice Av ys.length cv) (.slice A3 (i-f+1) c3):=(U.o.step HV.o mg).symm;have RI:=af u y O;have bh:=O.trans mg u.size;have aw:=ae Y;have aD:=ae Zn;have aL:=ae Zo;have aM:=ae Zm;clear a E N Y Zn Zo Zm;refine (Bq base _ _ ys ((xs.take (i+1)).drop f) w3 aD.o (by rw[aM.o];exact aw.o) aL.o (by rw[aM.o];omega) (by omega) (by have:=RI.size;omega)).mono ?_;rintro e w4 ⟨v4,rfl,G,bF,mX⟩;rw[OC (b:=xs) (f:=f) (e:=i+1) (by omega) (by rw[H.o];omega)] at G;have Hu:=ae G;clear G;have bN:=af RI bF V;have bO:=V.trans mX RI.size;go_wp2_with fail;go_roundw
        case rel=>refine⟨i+1,i+1,ys++lit xs f (i+1),_,_,rfl,rfl,by go_num,by omega,by omega,by omega,Hu.o,?_,Apart.nil _,bN,bO,.inl rfl,?_⟩;have h0:(xs.take (i+1)).drop (i+1)=[]:=jK (by simp;omega);rw[h0,qm];exact dw _ _ _ _;rw[<-HE.o,RH.o,fM]
        case measure=>simp [intOf];omega
      . have RH:=ae (CX (b:=xs) (f:=f) (i:=i) (by rw[H.o];exact I) (by rw[V4.o];simp only;omega) M);have bB:(((i-f:Nat):Int)+1==128)=false:=by rw[fO];omega
        go_wp2_with (first
         |(go_at_call 90;refine CM.o.mono ?_;rintro e w1 ⟨rfl,q,rfl⟩)
         |(at_builtin;refine bW _ rfl (.tmp 34) (.tmp 39) _ rfl base 5 i0 (.int .u8 0) 1 1 Tryz.underlying22 HI.o a8.o aa.o ab.o rfl hz _ (Value.slice Ap (i-f) cp).ownBlock (i-f) (((xs.take i).drop f).map bv) rfl (App.own ((ax HP.o (aH (aW wr none) q) nofun).alloc _)) ⟨wr.heap.size,0,none⟩ 1 1 [.int .u8 (x.toNat:Int)] rfl hz rfl (gZ _ _ _) (BQ rfl) (by unfold maxLen;omega) (by omega) (by simp;omega) ?_;intro v3 w3 a E N;have y:=uz (dA E);have mg:=(N.alloc).drewN;obtain⟨A3,c3,av,_⟩:=ai a;subst av))
        have Zm:((xs.take (i+1)).drop f).length=i-f+1:=(by have:=H.o;simp;omega);have Y:w3.ownsRow base 5 1 (.slice A3 (i-f+1) c3) (i-f+1) (((xs.take (i+1)).drop f).map bv):=(by rw[bd.o,fF];exact a);have Zn:=xE U.o HV.o y;have Zo:Apart (.slice Av ys.length cv) (.slice A3 (i-f+1) c3):=(U.o.step HV.o mg).symm;have RI:=af u y O;have bh:=O.trans mg u.size;have aw:=ae Y;have aD:=ae Zn;have aL:=ae Zo;have aM:=ae Zm;clear a E N Y Zn Zo Zm;go_roundw
        case rel=>refine⟨i+1,f,ys,_,_,rfl,rfl,by go_num,by omega,by omega,by omega,aD.o,?_,aL.o,RI,V,bh,?_⟩;rw[show i+1-f=i-f+1 from by omega];exact aw.o;rw[<-HE.o,RH.o]
        case measure=>simp [intOf];omega
  . have bR:=ae (show i=n by omega);have RH:=ae (JC (b:=xs) (f:=f) (i:=i) (by rw[H.o];omega));go_wp2_with fail;refine (CL.o _ (aW wr none)).mono ?_;rintro e w2 ⟨v2,rfl,d,R,mW⟩;have Z:ys++Gz ((xs.take i).drop f)=pack xs:=(by rw[ba.o,<-HE.o,RH.o,H.o,bR.o]);rw[Z] at d;have yj:=ae d;clear d Z;go_wp2_with fail;go_ret;exact⟨v2,rfl,yj.o,af u R V,V.trans mW u.size⟩
