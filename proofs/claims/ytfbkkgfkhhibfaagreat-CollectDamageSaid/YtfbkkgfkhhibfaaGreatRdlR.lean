/- Words. -/
import Derived.Test.YtfbkkgfkhhibfaaGreatAppR
import Derived.Laws.DeepNot64
set_option linter.unusedVariables false
set_option maxRecDepth 100000
set_option maxHeartbeats 8000000
namespace Go.Proofs.YtfbkkgfkhhibfaaGreat
open Go Go.RowKit Iv
def three (r:Int×Nat×Int):Value:= .tuple #[.int .i64 r.1,.int .i64 (r.2.1:Int),.int .i64 r.2.2]
theorem Zf (A:Option Addr)(n c:Nat)(xs:Bytes)(w:World)(B:Nat)(h:Lies w B 1 A n (xs.map bv))(hn:n<=1000000000000):
 Calls Tryz.prog 116 #[.slice A n c] w λe w'=>e= .returned (three (nT xs))/\w=w':=by
 have HL:=ae h.lenB;go_enter Tryz.func116,Tryz.ntmps116;go_wp2;go_loop [5,6,7,8,11] (λu _ _ _ i=>∃(k acc:Nat),i= .int .i64 k/\k<=n/\k<=9/\u= .int .u64 acc/\acc<128^k/\xm (xs.drop k) k acc=nT xs) (λ_ _ _ _ i=>n-(intOf i).toNat)
 case atStart=>exact ⟨0,0,rfl,by omega,by omega,rfl,by simp,rfl⟩
 case round=>
  obtain⟨k,acc,rfl,a8,R,rfl,E,d⟩:=hrel;by_cases U:k<n
  . obtain⟨ad,x,rfl,aa,hx,hc⟩:=h.byte U;have bx:=gJ x;have q:xs.drop k=x::xs.drop (k+1):=by
     obtain⟨hl,V⟩:=dD.1 hx;rw[nM hl,V]
    rw[q] at d;simp only[xm] at d;clear hx q;have hand:bits .and .u8 (x.toNat:Int) 127=((x.toNat%128:Nat):Int):=(by have:=u8_and_nat x.toNat 127 bx (by omega);rw[nat_mask7] at this;exact this);by_cases ha:k=9/\1<x.toNat
    . rw[if_pos ha] at d;obtain⟨X,ab⟩:=ha;have y:=ae d;have al:(1:Int)<(x.toNat:Int):=(by omega);have an:((k:Int)==9)=true:=(by rw[eG];omega);clear d E X;go_wp2_with fail;go_ret3;exact⟨by rw[<-y.o];rfl,rfl⟩
    . rw[if_neg ha] at d;obtain⟨Y,I⟩:=UO (x:=x.toNat) E R (by omega);by_cases hb:128<=x.toNat
      . rw[if_pos hb] at d;have y:=ae d;have ao:k<9:=(by omega);have J:acc+x.toNat%128*128^k<128^(k+1):=by
         have h1:x.toNat%128*128^k<=127*128^k:=lN _ (by omega);rw[Nat.pow_succ];omega
        have Z:=ae J;clear d J;generalize acc+x.toNat%128*128^k=a at *
        have L:((k:Int)==9)=false:=(by rw[fO];omega);go_wp2_with fail;go_round
        case rel=>exact ⟨k+1,a,by go_num,by omega,by omega,rfl,Z.o,y.o⟩
        case measure=>simp [intOf];omega
      . rw[if_neg hb] at d;have H:x.toNat%128=x.toNat:=(by omega);rw[H] at I;have aq:bits .or .u64 (acc:Int) (IntKind.u64.wrap ((x.toNat:Int)%128*2^(7*k)))=((acc+x.toNat*128^k:Nat):Int):=by
         rw[H] at Y;exact Y
        clear Y;have M:((k:Int)==9)=true->¬(1:Int)<(x.toNat:Int):=(by intro h;rw[eG] at h;omega);have ar:¬(128:Int)<=(x.toNat:Int):=(by omega);by_cases D:x.toNat=0/\0<k
        . rw[if_pos D] at d;have y:=ae d;have O:((x.toNat:Int)==0)=true:=(by rw[eG];omega);have z2:(0:Int)<(k:Int):=(by omega);generalize acc+x.toNat*128^k=a at *
          clear d D
          cases L:((k:Int)==9)
          . clear M;go_wp2_with fail;go_ret3;exact⟨by rw[<-y.o];rfl,rfl⟩
          . have av:=M L;clear M;go_wp2_with fail;go_ret3;exact⟨by rw[<-y.o];rfl,rfl⟩
        . rw[if_neg D] at d;have y:=ae d;clear d H;generalize acc+x.toNat*128^k=a at *
          have a6:bits .and .u64 (a:Int) 1=((a%2:Nat):Int):=(by have:=u64_and_nat a 1 I (by omega);rw[nat_mask1] at this;exact this);have O:(((x.toNat:Int)==0)=false)\/(((x.toNat:Int)==0)=true/\¬(0:Int)<(k:Int)/\x.toNat=0):=(by by_cases h:x.toNat=0;exact .inr ⟨by rw[eG];omega,by omega,h⟩;exact .inl (by rw[fO];omega));have N:(((a:Int)%2 !=0)=true/\Hz a= -((a/2:Nat):Int)-1)\/(((a:Int)%2 !=0)=false/\Hz a=((a/2:Nat):Int)):=(by unfold Hz;rcases LM a with h|h;exact .inr ⟨by rw[rU];omega,by rw[if_neg (by omega)]⟩;exact .inl ⟨by rw[eQ];omega,by rw[if_pos h]⟩);have a7:(((k:Int)==9)=true/\¬(1:Int)<(x.toNat:Int))\/((k:Int)==9)=false:=by
           cases h:((k:Int)==9)
           exact .inr rfl;exact .inl ⟨rfl,M h⟩
          clear M D;rcases O with O|⟨O,z2,z3⟩
          all_goals
           rcases a7 with ⟨k1,k2⟩|k1
           all_goals
            rcases N with ⟨o1,o2⟩|⟨o1,o2⟩
            all_goals
             have HO:=ae o2;clear o2;(try clear z3);go_wp2_with fail;go_ret3;exact⟨by rw[<-y.o];show Ending.returned (.tuple #[.int .i64 _,_,_])= .returned (.tuple #[.int .i64 (Hz a),_,_]);rw[HO.o];rfl,rfl⟩
  . obtain rfl:k=n:=(by omega);have y:=ae d;have G:xs.drop k=[]:=jK (by have:=HL.o;omega);have Z:=ae G;clear d G;go_wp2_with fail;go_ret3;exact⟨by rw[<-y.o,Z.o];rfl,rfl⟩
theorem Zg (A:Option Addr)(n c:Nat)(xs:Bytes)(w:World)(B:Nat)(h:Lies w B 1 A n (xs.map bv))(hn:n<=1000000000000):
 Calls Tryz.prog 83 #[.slice A n c] w λe w'=>e= .returned (three (nT xs))/\w=w':=by
 have HL:=ae h.lenB;go_enter Tryz.func83,Tryz.ntmps83;go_wp2;go_loop [5,6,7] (λu i _=>∃(k acc:Nat),i= .int .i64 k/\k<=n/\k<=9/\u= .int .u64 acc/\acc<128^k/\xm (xs.drop k) k acc=nT xs) (λ_ i _=>n-(intOf i).toNat)
 case atStart=>exact ⟨0,0,rfl,by omega,by omega,rfl,by simp,rfl⟩
 case round=>
  obtain⟨k,acc,rfl,aa,R,rfl,E,d⟩:=hrel;by_cases U:k<n
  . obtain⟨ad,x,rfl,ab,hx,hc⟩:=h.byte U;have bx:=gJ x;have q:xs.drop k=x::xs.drop (k+1):=by
     obtain⟨hl,V⟩:=dD.1 hx;rw[nM hl,V]
    rw[q] at d;simp only[xm] at d;clear hx q;have hand:bits .and .u8 (x.toNat:Int) 127=((x.toNat%128:Nat):Int):=(by have:=u8_and_nat x.toNat 127 bx (by omega);rw[nat_mask7] at this;exact this);by_cases ha:k=9/\1<x.toNat
    . rw[if_pos ha] at d;obtain⟨X,al⟩:=ha;have y:=ae d;have an:(1:Int)<(x.toNat:Int):=(by omega);have ao:((k:Int)==9)=true:=(by rw[eG];omega);clear d E X;go_wp2_with fail;go_ret3;exact⟨by rw[<-y.o];rfl,rfl⟩
    . rw[if_neg ha] at d;obtain⟨Y,I⟩:=UO (x:=x.toNat) E R (by omega);by_cases hb:128<=x.toNat
      . rw[if_pos hb] at d;have y:=ae d;have aq:k<9:=(by omega);have J:acc+x.toNat%128*128^k<128^(k+1):=by
         have h1:x.toNat%128*128^k<=127*128^k:=lN _ (by omega);rw[Nat.pow_succ];omega
        have Z:=ae J;clear d J;generalize acc+x.toNat%128*128^k=a at *
        have L:((k:Int)==9)=false:=(by rw[fO];omega);go_wp2_with fail;go_round
        case rel=>exact ⟨k+1,a,by go_num,by omega,by omega,rfl,Z.o,y.o⟩
        case measure=>simp [intOf];omega
      . rw[if_neg hb] at d;have H:x.toNat%128=x.toNat:=(by omega);rw[H] at I;have ar:bits .or .u64 (acc:Int) (IntKind.u64.wrap ((x.toNat:Int)%128*2^(7*k)))=((acc+x.toNat*128^k:Nat):Int):=by
         rw[H] at Y;exact Y
        clear Y;have M:((k:Int)==9)=true->¬(1:Int)<(x.toNat:Int):=(by intro h;rw[eG] at h;omega);have av:¬(128:Int)<=(x.toNat:Int):=(by omega);by_cases D:x.toNat=0/\0<k
        . rw[if_pos D] at d;have y:=ae d;have O:((x.toNat:Int)==0)=true:=(by rw[eG];omega);have z2:(0:Int)<(k:Int):=(by omega);generalize acc+x.toNat*128^k=a at *
          clear d D
          cases L:((k:Int)==9)
          . clear M;go_wp2_with fail;go_ret3;exact⟨by rw[<-y.o];rfl,rfl⟩
          . have aw:=M L;clear M;go_wp2_with fail;go_ret3;exact⟨by rw[<-y.o];rfl,rfl⟩
        . rw[if_neg D] at d;have y:=ae d;clear d H;generalize acc+x.toNat*128^k=a at *
          have a8:bits .xor .i64 (-1) ((a:Int)/2)= -1-((a:Int)/2):=i64_not (a/2) (by omega);have a6:bits .and .u64 (a:Int) 1=((a%2:Nat):Int):=(by have:=u64_and_nat a 1 I (by omega);rw[nat_mask1] at this;exact this);have O:(((x.toNat:Int)==0)=false)\/(((x.toNat:Int)==0)=true/\¬(0:Int)<(k:Int)/\x.toNat=0):=(by by_cases h:x.toNat=0;exact .inr ⟨by rw[eG];omega,by omega,h⟩;exact .inl (by rw[fO];omega));have N:(((a:Int)%2==1)=true/\Hz a= -1-((a/2:Nat):Int))\/(((a:Int)%2==1)=false/\Hz a=((a/2:Nat):Int)):=(by unfold Hz;rcases LM a with h|h;exact .inr ⟨by rw[fO];omega,by rw[if_neg (by omega)]⟩;exact .inl ⟨by rw[eG];omega,by rw[if_pos h];omega⟩);have a7:(((k:Int)==9)=true/\¬(1:Int)<(x.toNat:Int))\/((k:Int)==9)=false:=by
           cases h:((k:Int)==9)
           exact .inr rfl;exact .inl ⟨rfl,M h⟩
          clear M D;rcases O with O|⟨O,z2,z3⟩
          all_goals
           rcases a7 with ⟨k1,k2⟩|k1
           all_goals
            rcases N with ⟨o1,o2⟩|⟨o1,o2⟩
            all_goals
             have HO:=ae o2;clear o2;(try clear z3);go_wp2_with fail
             all_goals
              go_ret3;exact⟨by rw[<-y.o];show Ending.returned (.tuple #[.int .i64 _,_,_])= .returned (.tuple #[.int .i64 (Hz a),_,_]);rw[HO.o];rfl,rfl⟩
  . obtain rfl:k=n:=(by omega);have y:=ae d;have G:xs.drop k=[]:=jK (by have:=HL.o;omega);have Z:=ae G;clear d G;go_wp2_with fail;go_ret3;exact⟨by rw[<-y.o,Z.o];rfl,rfl⟩
theorem Ey (A:Option Addr)(n c:Nat)(xs:Bytes)(w:World)(B:Nat)(h:Lies w B 1 A n (xs.map bv))(hn:n<=1000000000000){m:Int}{k:Nat}{a:Int}(hg:nT xs=(m,k,a)):
 Calls Tryz.prog 116 #[.slice A n c] w λe w'=>e= .returned (.tuple #[.int .i64 m,.int .i64 (k:Int),.int .i64 a])/\w=w':=by have:=Zf A n c xs w B h hn;rw[hg] at this;exact this
theorem Ru (A:Option Addr)(n c:Nat)(xs:Bytes)(w:World)(B:Nat)(h:Lies w B 1 A n (xs.map bv))(hn:n<=1000000000000){m:Int}{k:Nat}{a:Int}(hg:nT xs=(m,k,a)):
 Calls Tryz.prog 83 #[.slice A n c] w λe w'=>e= .returned (.tuple #[.int .i64 m,.int .i64 (k:Int),.int .i64 a])/\w=w':=by have:=Zg A n c xs w B h hn;rw[hg] at this;exact this
theorem eU {b:Bytes}{s:Rd}(h:s.at_<=b.length):(rdNum b s).2.at_<=b.length/\s.at_<=(rdNum b s).2.at_:=by unfold rdNum;split;split;rename_i h1;have:=qw (l:=b.drop s.at_) (n:=(nT (b.drop s.at_)).1) (k:=(nT (b.drop s.at_)).2.1) (by rw[<-h1]);have h2:=this.2.2.2.1;rw[pG] at h2;dsimp only;omega;exact⟨h,ak _⟩;exact⟨h,ak _⟩
def rdCells (A:Option Addr)(n c:Nat)(s:Rd):Array Value:=#[.slice A n c,.int .i64 (s.at_:Int),.int .i64 s.err]
theorem jm (g:Nat)(A:Option Addr)(n c B:Nat)(xs:Bytes)(s:Rd)(w:World)(hg:Held w g 293 (rdCells A n c s))(h:Lies w B 1 A n (xs.map bv))(hnc:n<=c)(ho:A=none->c=0)(hn:n<=1000000000)(hs:s.at_<=n):
 Calls Tryz.prog 173 #[.pointer (some ⟨g,0,none⟩)] w λe w'=>e= .returned (.int .i64 (rdNum xs s).1)/\Held w' g 293 (rdCells A n c (rdNum xs s).2)/\w.grownBy w' (some g):=by
 have H:xs.length=n:=h.lenB;have L:w.cell? ⟨g,0,none⟩=some (.slice A n c):=hg.cell 0;have M:w.cell? ⟨g,1,none⟩=some (.int .i64 (s.at_:Int)):=hg.cell 1;have N:w.cell? ⟨g,2,none⟩=some (.int .i64 s.err):=hg.cell 2;by_cases he:s.err=0
 . obtain⟨a,y⟩:=s;dsimp only at he hs L M N hg|-;subst he;have hcut:Lies w B 1 (if c=a then A else A.map λx=>x.add a) (n-a) ((xs.drop a).map bv):=by
    have:=h.dropIf hs hnc;rwa [iY,<-oL] at this
   obtain⟨A',I⟩:∃A',(if c=a then A else A.map λx=>x.add a)=A':=⟨_,rfl⟩;rw[I] at hcut;obtain⟨m,k,y,d⟩:∃m k y,nT (xs.drop a)=(m,k,y):=⟨_,_,_,rfl⟩;have CP:=ae (Ey A' (n-a) (c-a) (xs.drop a) w.drew B hcut.drew (by omega) d);have O:((0:Int) !=0)=false:=rfl;have V:(0:Int)<=(a:Int):=(by omega);have X:(a:Int)<=(n:Int):=(by omega);have Y:(n:Int)<=(c:Int):=(by omega);have z0:=hg.free 0;have Z:=hg.free 1;have z2:=hg.free 2;by_cases u:y=0
   . subst u;have ho:=qw d;have hk:k<=n-a:=(by have:=ho.2.2.2.1;rw[pG] at this;omega);have q:rdNum xs ⟨a,0⟩=(m,⟨a+k,0⟩):=by
      unfold rdNum;rw[if_pos rfl];dsimp only;rw[d,if_pos rfl]
     rw[q];have G:=ae hg;clear q d ho H hg hcut h;go_enter Tryz.func173,Tryz.ntmps173;go_wp2_with fail
     go_region_held3 (λw'=>w'.cell? ⟨g,0,none⟩=some (.slice A n c)/\w'.cell? ⟨g,1,none⟩=some (.int .i64 (a:Int))) (go_keep) (first
      |(go_at_call 116;((with_reducible refine CP.o.mono ?_);rintro e w1 ⟨rfl,rfl⟩)))
     go_wp2_with fail;go_ret;have D:=(G.o.store 1 (.int .i64 ((a:Int)+(k:Int)))).drew;exact⟨rfl,D,aA (ag w g 1 _)⟩
   . obtain⟨R,J,E⟩:=(NR (xs.drop a)).resolve_left (by rw[d];exact u);rw[d] at E;simp only[Prod.mk.injEq] at E;obtain⟨rfl,rfl,rfl⟩:=E;have q:rdNum xs ⟨a,0⟩=(0,⟨a,y⟩):=by
      unfold rdNum;rw[if_pos rfl];dsimp only;rw[d,if_neg u]
     rw[q];have G:=ae hg;have U:(y !=0)=true:=(by rw[eQ];exact u);clear q d H hg hcut h u J;go_enter Tryz.func173,Tryz.ntmps173;go_wp2_with fail
     go_region_held3 (λw'=>w'.cell? ⟨g,0,none⟩=some (.slice A n c)/\w'.cell? ⟨g,1,none⟩=some (.int .i64 (a:Int))) (go_keep) (first
      |(go_at_call 116;((with_reducible refine CP.o.mono ?_);rintro e w1 ⟨rfl,rfl⟩)))
     go_wp2_with fail;go_ret;have D:=(G.o.store 2 (.int .i64 y)).drew;exact⟨rfl,D,aA (ag w g 2 _)⟩
 . have hb:(s.err !=0)=true:=(by rw[eQ];exact he);have q:rdNum xs s=(0,s):=qx he;rw[q];have G:=ae hg;clear q he H hg;go_enter Tryz.func173,Tryz.ntmps173;go_wp2_with fail;go_ret;exact⟨rfl,G.o,aW w _⟩
theorem iL (g:Nat)(A:Option Addr)(n c B:Nat)(xs:Bytes)(s:Rd)(w:World)(hg:Held w g 128 (rdCells A n c s))(h:Lies w B 1 A n (xs.map bv))(hnc:n<=c)(ho:A=none->c=0)(hn:n<=1000000000)(hs:s.at_<=n):
 Calls Tryz.prog 47 #[.pointer (some ⟨g,0,none⟩)] w λe w'=>e= .returned (.int .i64 (rdNum xs s).1)/\Held w' g 128 (rdCells A n c (rdNum xs s).2)/\w.grownBy w' (some g):=by
 have H:xs.length=n:=h.lenB;have L:w.cell? ⟨g,0,none⟩=some (.slice A n c):=hg.cell 0;have M:w.cell? ⟨g,1,none⟩=some (.int .i64 (s.at_:Int)):=hg.cell 1;have N:w.cell? ⟨g,2,none⟩=some (.int .i64 s.err):=hg.cell 2;by_cases he:s.err=0
 . obtain⟨a,y⟩:=s;dsimp only at he hs L M N hg|-;subst he;have hcut:Lies w B 1 (if c=a then A else A.map λx=>x.add a) (n-a) ((xs.drop a).map bv):=by
    have:=h.dropIf hs hnc;rwa [iY,<-oL] at this
   obtain⟨A',I⟩:∃A',(if c=a then A else A.map λx=>x.add a)=A':=⟨_,rfl⟩;rw[I] at hcut;obtain⟨m,k,y,d⟩:∃m k y,nT (xs.drop a)=(m,k,y):=⟨_,_,_,rfl⟩;have CP:=ae (Ru A' (n-a) (c-a) (xs.drop a) w.drew B hcut.drew (by omega) d);have O:((0:Int) !=0)=false:=rfl;have V:(0:Int)<=(a:Int):=(by omega);have X:(a:Int)<=(n:Int):=(by omega);have Y:(n:Int)<=(c:Int):=(by omega);have z0:=hg.free 0;have Z:=hg.free 1;have z2:=hg.free 2;by_cases u:y=0
   . subst u;have ho:=qw d;have hk:k<=n-a:=(by have:=ho.2.2.2.1;rw[pG] at this;omega);have q:rdNum xs ⟨a,0⟩=(m,⟨a+k,0⟩):=by
      unfold rdNum;rw[if_pos rfl];dsimp only;rw[d,if_pos rfl]
     rw[q];have G:=ae hg;clear q d ho H hg hcut h;go_enter Tryz.func47,Tryz.ntmps47;go_wp2_with fail
     go_region_held3 (λw'=>w'.cell? ⟨g,0,none⟩=some (.slice A n c)/\w'.cell? ⟨g,1,none⟩=some (.int .i64 (a:Int))) (go_keep) (first
      |(go_at_call 83;((with_reducible refine CP.o.mono ?_);rintro e w1 ⟨rfl,rfl⟩)))
     go_wp2_with fail;go_ret;have D:=(G.o.store 1 (.int .i64 ((a:Int)+(k:Int)))).drew;exact⟨rfl,D,aA (ag w g 1 _)⟩
   . obtain⟨R,J,E⟩:=(NR (xs.drop a)).resolve_left (by rw[d];exact u);rw[d] at E;simp only[Prod.mk.injEq] at E;obtain⟨rfl,rfl,rfl⟩:=E;have q:rdNum xs ⟨a,0⟩=(0,⟨a,y⟩):=by
      unfold rdNum;rw[if_pos rfl];dsimp only;rw[d,if_neg u]
     rw[q];have G:=ae hg;have U:(y !=0)=true:=(by rw[eQ];exact u);clear q d H hg hcut h u J;go_enter Tryz.func47,Tryz.ntmps47;go_wp2_with fail
     go_region_held3 (λw'=>w'.cell? ⟨g,0,none⟩=some (.slice A n c)/\w'.cell? ⟨g,1,none⟩=some (.int .i64 (a:Int))) (go_keep) (first
      |(go_at_call 83;((with_reducible refine CP.o.mono ?_);rintro e w1 ⟨rfl,rfl⟩)))
     go_wp2_with fail;go_ret;have D:=(G.o.store 2 (.int .i64 y)).drew;exact⟨rfl,D,aA (ag w g 2 _)⟩
 . have hb:(s.err !=0)=true:=(by rw[eQ];exact he);have q:rdNum xs s=(0,s):=qx he;rw[q];have G:=ae hg;clear q he H hg;go_enter Tryz.func47,Tryz.ntmps47;go_wp2_with fail;go_ret;exact⟨rfl,G.o,aW w _⟩
theorem vI (b:Bytes)(s:Rd):inI64 (rdNum b s).1:=by by_cases h:(rdNum b s).2.err=0;exact (D9 h).1;unfold rdNum at h|-;split;split;rename_i h1 h2;rw[if_pos h1,if_pos h2] at h;exact absurd rfl h;exact⟨by omega,by omega⟩;exact⟨by omega,by omega⟩
def Fa (xs:Bytes)(N:Nat)(s1:Rd)(L0:List Int)(last:Int)(s':Rd)(i:Nat):Prop:=
 L0.length=i/\i<=N/\(i=0->s'=s1)/\(0<i->N<=400)/\(L0++(dG xs (N-i) last s').1,(dG xs (N-i) last s').2)=dG xs N 0 s1
theorem BG {xs:Bytes}{N:Nat}{s1:Rd}{d:List Int}{last:Int}{a:Rd}{k:Nat}(h:Fa xs N s1 d last a k)(hk:k<N)(he:a.err=0)(h4:N<=400):
 Fa xs N s1 (d++[wrap64 (last+(rdNum xs a).1)]) (wrap64 (last+(rdNum xs a).1)) (rdNum xs a).2 (k+1):=by obtain⟨h1,h2,h3,h5,q⟩:=h;refine⟨by simp[h1],by omega,λh=>by omega,λ_=>h4,?_⟩;rw[<-q,show N-k=(N-(k+1))+1 from by omega,dG,if_pos he];simp only[fM,xu,kN]
theorem rE {xs:Bytes}{N:Nat}{s1:Rd}{d:List Int}{last:Int}{a:Rd}{k:Nat}(h:Fa xs N s1 d last a k)(hk:N<=k\/a.err≠0):dG xs N 0 s1=(d,a):=by obtain⟨h1,h2,h3,h5,q⟩:=h;rw[<-q];rcases hk with hk|hk;rw[show N-k=0 from by omega];simp[dG];rw[AZ hk];simp
theorem Fb {a b c:World}{o o':Option Nat}(h:a.grownBy b o)(d:b.grownBy c o')(q:At a none o'):a.grownBy c o:=by
 refine⟨d.os.trans h.os,d.tape.trans h.tape,d.output.trans h.output,aG h.size d.size,λk hk u=>?_⟩;have h1:=h.block k hk u;refine (d.block k (oM hk h.size) ?_).trans h1;rcases q with rfl|⟨g,rfl,hg⟩
 . exactλe=>nomatch e
 intro e;injection e with e;omega
theorem jb {w w':World}{base e sz n g:Nat}{v:Value}{xs:List Value}(h:w.ownsRow base e sz v n xs)(hg:w.grownBy w' (some g))(a:v.ownBlock≠some g):w'.ownsRow base e sz v n xs:=by refine⟨h.1,?_⟩;rcases h.2 with h2|⟨b,cap,cur,rfl,hb,hh,h3⟩;exact .inl h2;refine .inr ⟨b,cap,cur,rfl,hb,?_,h3⟩;refine (hg.block b (iW.1 hh).1 ?_).trans hh;intro e;injection e with e;exact a (by rw[e];rfl)
theorem Io (g:Nat)(A:Option Addr)(n c B:Nat)(xs:Bytes)(s:Rd)(w:World)(hg:Held w g 293 (rdCells A n c s))(h:Lies w B 1 A n (xs.map bv))(bj:B<=g)(hnc:n<=c)(ho:A=none->c=0)(hn:n<=1000000000)(hs:s.at_<=n)(base:Nat)(b1:base<=w.heap.size):
 Calls Tryz.prog 174 #[.pointer (some ⟨g,0,none⟩)] w λe w'=>∃v',e= .returned v'/\w'.ownsRow base 3 1 v' (dS xs s).1.length ((dS xs s).1.map iv)/\Held w' g 293 (rdCells A n c (dS xs s).2)/\w.grownBy w' (some g)/\At w none v'.ownBlock:=by
 have hl:xs.length=n:=h.lenB;have CN:=ae (jm g A n c B xs s w hg h hnc ho hn hs);obtain⟨m,s0,hp⟩:∃m s0,rdNum xs s=(m,s0):=⟨_,_,rfl⟩;have U:=vI xs s;have a:=(eU (b:=xs) (s:=s) (by omega)).1;rw[hp] at U a;obtain⟨s1,V⟩:∃s1,s1=oO (rdNum xs s):=⟨_,rfl⟩;have E:dS xs s=dG xs m.toNat 0 s1:=(by unfold dS;rw[<-V,hp]);have u:s1=if s0.err=0/\(m<0\/400<m) then ⟨s0.at_,11⟩ else s0:=(by rw[V,hp];rfl);have lT:s1.at_<=n:=(by rw[u];split;exact aG a (by omega);exact aG a (by omega));have OV:s1.err=0->0<=m/\m<=400:=(by intro he;rw[u] at he;by_cases hc:s0.err=0/\(m<0\/400<m);rw[if_pos hc] at he;exact absurd (show (11:Int)=0 from he) (by decide);rw[if_neg hc] at he;have:¬(m<0\/400<m):=λM=>hc ⟨he,M⟩;omega);rw[E];have HP:=ae hp;have a8:=ae u;have b2:=ae OV;have bl:=ae U;have HO:=ae ho;clear E V u OV hp U a ho;have b3:=hg.lt;have HG:=ae hg;clear hg;go_enter Tryz.func174,Tryz.ntmps174;go_wp2_with fail;refine CN.o.mono ?_;rintro e w1 ⟨rfl,G,aa⟩;rw[HP.o] at G|-;go_upto_region 2 with fail;have f2:w1.cell? ⟨g,2,none⟩=some (.int .i64 s0.err):=G.cell 2;have z2:=G.free 2;obtain⟨tb,ab⟩:∃tb,tb=decide (s0.err=0/\(m<0\/400<m)):=⟨_,rfl⟩;have WV:=ae ab;have ad:=ae G;have qj:=ae aa;clear ab G aa;go_cut [21] (λv21 wx=>v21= .bool tb/\wx=w1)
 case first=>
  by_cases he:s0.err=0
  . have hb:(s0.err==0)=true:=(by rw[eG];exact he);by_cases h1:m<0
    . have H:Hid (tb=true):=(by rw[WV.o,Bo];exact⟨he,.inl h1⟩);clear he;go_wp2_with fail;go_meet;exact⟨by rw[H.o],rfl⟩
    . by_cases h2:400<m
      . have H:Hid (tb=true):=(by rw[WV.o,Bo];exact⟨he,.inr h2⟩);clear he;go_wp2_with fail;go_meet;exact⟨by rw[H.o],rfl⟩
      . have H:Hid (tb=false):=(by rw[WV.o,ji];intro M;omega);clear he;go_wp2_with fail;go_meet;exact⟨by rw[H.o],rfl⟩
  . have hb:(s0.err==0)=false:=(by rw[fO];exact he);have H:Hid (tb=false):=(by rw[WV.o,ji];intro M;exact he M.1);clear he;go_wp2_with fail;go_meet;exact⟨by rw[H.o],rfl⟩
 case rest=>
  obtain⟨rfl,rfl⟩:=hcut;go_upto_if 21 with fail;go_cut [3] (λv3 wx=>v3= .int .i64 m/\Held wx g 293 (rdCells A n c s1)/\w.grownBy wx (some g))
  case first=>
   cases tb
   . have hs:s1=s0:=by
      have:=WV.o.symm;rw[ji] at this;rw[a8.o,if_neg this]
     have H:=ae hs;clear hs;go_wp2_with fail;go_meet;exact⟨rfl,by rw[H.o];exact ad.o,qj.o⟩
   . have hs:s1=⟨s0.at_,11⟩:=by
      have:=WV.o.symm;rw[Bo] at this;rw[a8.o,if_pos this]
     have H:=ae hs;clear hs;go_wp2_with fail;go_meet;exact⟨rfl,by rw[H.o];exact ad.o.store 2 (.int .i64 11),au qj.o (ag wc g 2 _)⟩
  case rest=>
   obtain⟨rfl,al,an⟩:=hcut;have I:=uF;obtain⟨i0,hi,ao,aq,ar⟩:=info_parts I;have HI:=ae hi;have b4:=ae ao;have b5:=ae aq;have b6:=ae ar;clear hi ao aq ar I;have hz:(0:Nat)<1:=(by omega);obtain⟨N,hN⟩:∃N,N=m.toNat:=⟨_,rfl⟩;have X:=ae hN;clear hN;go_wp2_with fail
   go_loopw [4,5,6] (λv la i wr=>∃(k:Nat) (last:Int) (D:Rd) (Y:List Int) (vv:Value),vv=v/\i= .int .i64 k/\la= .int .i64 last/\Fa xs N s1 Y last D k/\D.at_<=n/\Held wr g 293 (rdCells A n c D)/\
    wr.ownsRow base 3 1 vv Y.length (Y.map iv)/\w.grownBy wr (some g)/\At w none vv.ownBlock) (λ_ _ i _=>N-(intOf i).toNat)
   case atStart=>exact ⟨0,0,s1,[],_,rfl,rfl,rfl,⟨rfl,ay _,λ_=>rfl,λh=>by omega,by simp⟩,lT,al,dw _ _ _ _,an,.inl rfl⟩
   case round=>
    clear al an;obtain⟨k,last,D,Y,vv,rfl,rfl,rfl,d,b8,M,y,q,a⟩:=hrel;have f2:wr.cell? ⟨g,2,none⟩=some (.int .i64 D.err):=M.cell 2;have bm:k<=N:=d.2.1;have bn:g<w.heap.size:=b3;have b9:B<=w.heap.size:=(by omega);have av:vv.ownBlock≠some g:=by
     rcases a with h0|⟨b0,h1,h2⟩
     . rw[h0];exactλh=>nomatch h
     rw[h1];intro h;injection h with h;omega
    by_cases bo:(k:Int)<m
    . by_cases he:D.err=0
      . have Z:N<=400:=by
         rcases oI k with h0|h0;have h1:=d.2.2.1 h0;have:=b2.o (by rw[<-h1];exact he);rw[X.o];omega;exact d.2.2.2.1 h0
        have J:Y.length=k:=d.1;have ba:=ae (jm g A n c B xs D wr M (h.grown q b9 (λg' aw=>by injection aw with aw;omega)) hnc HO.o hn b8);have bc:=ae (BG d (by have:=X.o;omega) he Z);have Fe:=(eU (b:=xs) (s:=D) (by omega)).1;obtain⟨x,s2,a7⟩:∃x s2,rdNum xs D=(x,s2):=⟨_,_,rfl⟩;have bd:=vI xs D;rw[a7] at Fe bd;have aD:=ae a7;have bf:=ae Fe;have hb:(D.err==0)=true:=(by rw[eG];exact he);clear d he a7 Fe;go_wp2_with fail;refine ba.o.mono ?_;rintro e w2 ⟨rfl,aL,O⟩;rw[aD.o] at aL|-;have L:=jb y O av;rw[J] at L;have bp:=ae Z;have bk:k+1<=400:=(by have:=X.o;omega);clear y Z;go_wp2_with (at_builtin;refine bW _ rfl (.tmp 41) (.tmp 43) _ rfl base 3 i0 (.int .i64 0) 1 8 Tryz.underlying37 HI.o b4.o b5.o b6.o rfl hz _ vv.ownBlock k (Y.map iv) rfl (App.own (L.alloc _)) ⟨w2.heap.size,0,none⟩ 1 1 [.int .i64 (wrap64 (last+x))] rfl hz rfl (gZ _ _ _) (BQ rfl) (by unfold maxLen;omega) (by omega) (by have:=q.size;have:=O.size;simp;omega) ?_;intro v' w3 a6 aM lD);have R:=dA aM;have mg:=lD.alloc;have bh:w.heap.size<=w2.heap.size:=aG q.size O.size;clear aM lD;go_roundw
        case rel=>have aR:=bc.o;rw[aD.o] at aR;refine⟨k+1,wrap64 (last+x),s2,Y++[wrap64 (last+x)],v',rfl,by go_num,rfl,aR,aG bf.o (nY hl),aL.grown R (λe=>av e.symm),?_,Fb (au q O) R a,a.trans mg bh⟩;rw[aY,fF,J];exact a6
        case measure=>simp [intOf];have:=X.o;omega
      . have HE:=ae (rE d (.inr he));have hb:(D.err==0)=false:=(by rw[fO];exact he);have HR:=ae (show w.grownBy wr (some g) from q);clear d he;go_wp2_with fail;go_ret;rw[<-X.o,HE.o];exact⟨_,rfl,y,M,q,a⟩
    . have HE:=ae (rE d (.inl (by have:=X.o;omega)));clear d;go_wp2_with fail;go_ret;rw[<-X.o,HE.o];exact⟨_,rfl,y,M,q,a⟩
theorem IV (g:Nat)(A:Option Addr)(n c B:Nat)(xs:Bytes)(s:Rd)(w:World)(hg:Held w g 128 (rdCells A n c s))(h:Lies w B 1 A n (xs.map bv))(bj:B<=g)(hnc:n<=c)(ho:A=none->c=0)(hn:n<=1000000000)(hs:s.at_<=n)(base:Nat)(b1:base<=w.heap.size):
 Calls Tryz.prog 115 #[.pointer (some ⟨g,0,none⟩)] w λe w'=>∃v',e= .returned v'/\w'.ownsRow base 3 1 v' (dS xs s).1.length ((dS xs s).1.map iv)/\Held w' g 128 (rdCells A n c (dS xs s).2)/\w.grownBy w' (some g)/\At w none v'.ownBlock:=by
 have hl:xs.length=n:=h.lenB;have CN:=ae (iL g A n c B xs s w hg h hnc ho hn hs);obtain⟨m,s0,hp⟩:∃m s0,rdNum xs s=(m,s0):=⟨_,_,rfl⟩;have U:=vI xs s;have a:=(eU (b:=xs) (s:=s) (by omega)).1;rw[hp] at U a;obtain⟨s1,V⟩:∃s1,s1=oO (rdNum xs s):=⟨_,rfl⟩;have E:dS xs s=dG xs m.toNat 0 s1:=(by unfold dS;rw[<-V,hp]);have u:s1=if s0.err=0/\(m<0\/400<m) then ⟨s0.at_,11⟩ else s0:=(by rw[V,hp];rfl);have lT:s1.at_<=n:=(by rw[u];split;exact aG a (by omega);exact aG a (by omega));have OV:s1.err=0->0<=m/\m<=400:=(by intro he;rw[u] at he;by_cases hc:s0.err=0/\(m<0\/400<m);rw[if_pos hc] at he;exact absurd (show (11:Int)=0 from he) (by decide);rw[if_neg hc] at he;have:¬(m<0\/400<m):=λM=>hc ⟨he,M⟩;omega);rw[E];have HP:=ae hp;have a8:=ae u;have b2:=ae OV;have bl:=ae U;have HO:=ae ho;clear E V u OV hp U a ho;have b3:=hg.lt;have HG:=ae hg;clear hg;go_enter Tryz.func115,Tryz.ntmps115;go_wp2_with fail;refine CN.o.mono ?_;rintro e w1 ⟨rfl,G,aa⟩;rw[HP.o] at G|-;go_upto_region 2 with fail;have f2:w1.cell? ⟨g,2,none⟩=some (.int .i64 s0.err):=G.cell 2;have z2:=G.free 2;obtain⟨tb,ab⟩:∃tb,tb=decide (s0.err=0/\(m<0\/400<m)):=⟨_,rfl⟩;have WV:=ae ab;have ad:=ae G;have qj:=ae aa;clear ab G aa;go_cut [21] (λv21 wx=>v21= .bool tb/\wx=w1)
 case first=>
  by_cases he:s0.err=0
  . have hb:(s0.err==0)=true:=(by rw[eG];exact he);by_cases h1:m<0
    . have H:Hid (tb=true):=(by rw[WV.o,Bo];exact⟨he,.inl h1⟩);clear he;go_wp2_with fail;go_meet;exact⟨by rw[H.o],rfl⟩
    . by_cases h2:400<m
      . have H:Hid (tb=true):=(by rw[WV.o,Bo];exact⟨he,.inr h2⟩);clear he;go_wp2_with fail;go_meet;exact⟨by rw[H.o],rfl⟩
      . have H:Hid (tb=false):=(by rw[WV.o,ji];intro M;omega);clear he;go_wp2_with fail;go_meet;exact⟨by rw[H.o],rfl⟩
  . have hb:(s0.err==0)=false:=(by rw[fO];exact he);have H:Hid (tb=false):=(by rw[WV.o,ji];intro M;exact he M.1);clear he;go_wp2_with fail;go_meet;exact⟨by rw[H.o],rfl⟩
 case rest=>
  obtain⟨rfl,rfl⟩:=hcut;go_upto_if 21 with fail;go_cut [3] (λv3 wx=>v3= .int .i64 m/\Held wx g 128 (rdCells A n c s1)/\w.grownBy wx (some g))
  case first=>
   cases tb
   . have hs:s1=s0:=by
      have:=WV.o.symm;rw[ji] at this;rw[a8.o,if_neg this]
     have H:=ae hs;clear hs;go_wp2_with fail;go_meet;exact⟨rfl,by rw[H.o];exact ad.o,qj.o⟩
   . have hs:s1=⟨s0.at_,11⟩:=by
      have:=WV.o.symm;rw[Bo] at this;rw[a8.o,if_pos this]
     have H:=ae hs;clear hs;go_wp2_with fail;go_meet;exact⟨rfl,by rw[H.o];exact ad.o.store 2 (.int .i64 11),au qj.o (ag wc g 2 _)⟩
  case rest=>
   obtain⟨rfl,al,an⟩:=hcut;have I:=uF;obtain⟨i0,hi,ao,aq,ar⟩:=info_parts I;have HI:=ae hi;have b4:=ae ao;have b5:=ae aq;have b6:=ae ar;clear hi ao aq ar I;have hz:(0:Nat)<1:=(by omega);obtain⟨N,hN⟩:∃N,N=m.toNat:=⟨_,rfl⟩;have X:=ae hN;clear hN;go_wp2_with fail
   go_loopw [4,5,6] (λv la i wr=>∃(k:Nat) (last:Int) (D:Rd) (Y:List Int) (vv:Value),vv=v/\i= .int .i64 k/\la= .int .i64 last/\Fa xs N s1 Y last D k/\D.at_<=n/\Held wr g 128 (rdCells A n c D)/\
    wr.ownsRow base 3 1 vv Y.length (Y.map iv)/\w.grownBy wr (some g)/\At w none vv.ownBlock) (λ_ _ i _=>N-(intOf i).toNat)
   case atStart=>exact ⟨0,0,s1,[],_,rfl,rfl,rfl,⟨rfl,ay _,λ_=>rfl,λh=>by omega,by simp⟩,lT,al,dw _ _ _ _,an,.inl rfl⟩
   case round=>
    clear al an;obtain⟨k,last,D,Y,vv,rfl,rfl,rfl,d,b8,M,y,q,a⟩:=hrel;have f2:wr.cell? ⟨g,2,none⟩=some (.int .i64 D.err):=M.cell 2;have bm:k<=N:=d.2.1;have bn:g<w.heap.size:=b3;have b9:B<=w.heap.size:=(by omega);have av:vv.ownBlock≠some g:=by
     rcases a with h0|⟨b0,h1,h2⟩
     . rw[h0];exactλh=>nomatch h
     rw[h1];intro h;injection h with h;omega
    by_cases bo:(k:Int)<m
    . by_cases he:D.err=0
      . have Z:N<=400:=by
         rcases oI k with h0|h0;have h1:=d.2.2.1 h0;have:=b2.o (by rw[<-h1];exact he);rw[X.o];omega;exact d.2.2.2.1 h0
        have J:Y.length=k:=d.1;have ba:=ae (iL g A n c B xs D wr M (h.grown q b9 (λg' aw=>by injection aw with aw;omega)) hnc HO.o hn b8);have bc:=ae (BG d (by have:=X.o;omega) he Z);have Fe:=(eU (b:=xs) (s:=D) (by omega)).1;obtain⟨x,s2,a7⟩:∃x s2,rdNum xs D=(x,s2):=⟨_,_,rfl⟩;have bd:=vI xs D;rw[a7] at Fe bd;have aD:=ae a7;have bf:=ae Fe;have hb:(D.err==0)=true:=(by rw[eG];exact he);clear d he a7 Fe;go_wp2_with fail;refine ba.o.mono ?_;rintro e w2 ⟨rfl,aL,O⟩;rw[aD.o] at aL|-;have L:=jb y O av;rw[J] at L;have bp:=ae Z;have bk:k+1<=400:=(by have:=X.o;omega);clear y Z;go_wp2_with (at_builtin;refine bW _ rfl (.tmp 41) (.tmp 43) _ rfl base 3 i0 (.int .i64 0) 1 8 Tryz.underlying37 HI.o b4.o b5.o b6.o rfl hz _ vv.ownBlock k (Y.map iv) rfl (App.own (L.alloc _)) ⟨w2.heap.size,0,none⟩ 1 1 [.int .i64 (wrap64 (last+x))] rfl hz rfl (gZ _ _ _) (BQ rfl) (by unfold maxLen;omega) (by omega) (by have:=q.size;have:=O.size;simp;omega) ?_;intro v' w3 a6 aM lD);have R:=dA aM;have mg:=lD.alloc;have bh:w.heap.size<=w2.heap.size:=aG q.size O.size;clear aM lD;go_roundw
        case rel=>have aR:=bc.o;rw[aD.o] at aR;refine⟨k+1,wrap64 (last+x),s2,Y++[wrap64 (last+x)],v',rfl,by go_num,rfl,aR,aG bf.o (nY hl),aL.grown R (λe=>av e.symm),?_,Fb (au q O) R a,a.trans mg bh⟩;rw[aY,fF,J];exact a6
        case measure=>simp [intOf];have:=X.o;omega
      . have HE:=ae (rE d (.inr he));have hb:(D.err==0)=false:=(by rw[fO];exact he);have HR:=ae (show w.grownBy wr (some g) from q);clear d he;go_wp2_with fail;go_ret;rw[<-X.o,HE.o];exact⟨_,rfl,y,M,q,a⟩
    . have HE:=ae (rE d (.inl (by have:=X.o;omega)));clear d;go_wp2_with fail;go_ret;rw[<-X.o,HE.o];exact⟨_,rfl,y,M,q,a⟩
