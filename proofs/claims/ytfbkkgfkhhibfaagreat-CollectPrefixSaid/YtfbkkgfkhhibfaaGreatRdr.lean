/- Words. -/
import Derived.Test.YtfbkkgfkhhibfaaGreatCln
import Derived.Laws.DeepNot64
import Derived.Deep.RegionHeld3
set_option linter.unusedVariables false
set_option maxRecDepth 100000
set_option maxHeartbeats 8000000
namespace Iv
open Go Go.RowKit
theorem ajG {x:Nat}(h:x<18446744073709551616):18446744073709551615 ^^^ x=18446744073709551615-x:=by
 refine Nat.eq_of_testBit_eq λi=>?_;have e1:(18446744073709551615:Nat)=2^64-1:=(by decide);have a:18446744073709551615-x=2^64-(x+1):=(by omega);rw[a,Nat.testBit_xor,e1,Nat.testBit_two_pow_sub_one,Nat.testBit_two_pow_sub_succ (by omega)];by_cases hi:i<64;simp[hi]
 . have:x.testBit i=false:=Nat.testBit_lt_two_pow (pF h (by
    rw[show (18446744073709551616:Nat)=2^64 from by decide];exact Ko (by omega) (by omega)))
   simp[hi,this]
theorem Zl {m:Int}(h:inI64 m)(h0:¬m<0):IntKind.u64.wrap (IntKind.u64.wrap m*2)=((H6 m:Nat):Int):=by unfold inI64 at h;unfold H6;rw[if_neg h0,IntKind.wrap_u64,IntKind.wrap_u64];omega
theorem OQ {m:Int}(h:inI64 m)(h0:m<0):bits .xor .u64 IntKind.u64.max (IntKind.u64.wrap (IntKind.u64.wrap m*2))=((H6 m:Nat):Int):=by unfold inI64 at h;have e:IntKind.u64.wrap (IntKind.u64.wrap m*2)=(((2*m+18446744073709551616).toNat:Nat):Int):=(by rw[IntKind.wrap_u64,IntKind.wrap_u64];omega);rw[e];have hx:=u64_xor_nat 18446744073709551615 ((2*m+18446744073709551616).toNat) (by omega) (by omega);rw[ajG (by omega)] at hx;refine qi ?_ (hx.trans ?_);rfl;unfold H6;rw[if_pos h0];omega
theorem ajH (b:Nat)(h:b<256):b ||| 128=b%128+128:=by have:∀b:Fin 256,b.val ||| 128=b.val%128+128:=(by decide+kernel);exact this ⟨b,h⟩
theorem EG (u:Nat):bits .or .u8 ((u:Int)%256) 128=((u%128+128:Nat):Int):=by have h:=u8_or_nat (u%256) 128 (by omega) (by omega);rw[ajH _ (by omega)] at h;refine qi ?_ (h.trans ?_);rfl;omega
theorem afD (k:Nat):(2:Nat)^(7*k)=128^k:=by rw[Nat.pow_mul]
theorem OT {x k:Nat}(hx:x<128)(hk:k<=9)(a:k=9->x<=1):x*128^k<18446744073709551616:=by by_cases h:k=9;have:=a h;subst h;have:(128:Nat)^9=9223372036854775808:=(by decide);rw[this];omega;have h1:(128:Nat)^k<=128^8:=Ko (by omega) (by omega);have h2:(128:Nat)^8=72057594037927936:=(by decide);have h3:x*128^k<=127*128^8:=zU (by omega) h1;omega
theorem U5 {acc k x:Nat}(a:acc<128^k)(hk:k<=9)(q:k=9->x%128<=1):
 bits .or .u64 (acc:Int) (IntKind.u64.wrap ((x:Int)%128*2^(7*k)))=((acc+x%128*128^k:Nat):Int)/\acc+x%128*128^k<18446744073709551616:=by have hs:=OT (x:=x%128) (by omega) hk q;have y:(128:Nat)^k<=128^9:=Ko (by omega) hk;have d:(128:Nat)^9=9223372036854775808:=(by decide);have e:((x:Int)%128*2^(7*k))=((x%128*128^k:Nat):Int):=(by rw[<-afD];push_cast;rfl);have hw:IntKind.u64.wrap ((x:Int)%128*2^(7*k))=((x%128*128^k:Nat):Int):=(by rw[e,IntKind.wrap_u64];omega);have u:acc ||| x%128*128^k=acc+x%128*128^k:=(by rw[Nat.or_comm,nat_join (7*k) (x%128*128^k) acc (by rw[afD];exact Nat.mul_mod_left _ _) (by rw[afD];exact a),Sj]);refine⟨?_,?_⟩;rw[hw,u64_or_nat acc _ (by omega) hs,u];have hm:acc+x%128*128^k<128^k+x%128*128^k:=(by omega);by_cases h:k=9;have:=q h;subst h;rw[d] at a hm hs|-;omega;have h1:(128:Nat)^k<=128^8:=Ko (by omega) (by omega);have h2:(128:Nat)^8=72057594037927936:=(by decide);have h3:x%128*128^k<=127*128^8:=zU (by omega) h1;omega
end Iv
namespace Go.Proofs.YtfbkkgfkhhibfaaGreat
open Go Go.RowKit Iv
theorem ES (base:Nat)(v:Value)(o:Option Nat)(xs:Bytes)(m:Int)(w:World)(a6:App w base 5 1 v o xs.length (xs.map bv))(hm:inI64 m)(hx:xs.length<=1000000000000)(G:base<=w.heap.size):
 Calls Tryz.prog 111 #[v,.int .i64 m] w λe w'=>∃v',e= .returned v'/\w'.ownsRow base 5 1 v' (xs++aP m).length ((xs++aP m).map bv)/\w.grownBy w' o/\At w o v'.ownBlock:=by
 obtain⟨i0,hi,H,I,J⟩:=info_parts kY;have HI:=ae hi;have L:=ae H;have M:=ae I;have N:=ae J;clear hi H I J;have ab:=Eh hm.1 hm.2;have HQ:=ae (show aP m=jO (H6 m) from rfl);have hlen:=aS hm;have O:¬m<0->IntKind.u64.wrap (IntKind.u64.wrap m*2)=((H6 m:Nat):Int):=Zl hm;have R:m<0->bits .xor .u64 IntKind.u64.max (IntKind.u64.wrap (IntKind.u64.wrap m*2))=((H6 m:Nat):Int):=OQ hm;have HM:=ae hm;clear hm;go_enter Tryz.func111,Tryz.ntmps111;by_cases D:m<0
 all_goals
  (first|(have hd:=R D)|(have hd:=O D));clear O R;generalize H6 m=q0 at *
  go_wp2;clear hd
  go_loopw [0,5] (λb u wr=>∃(o':Option Nat) (ys:Bytes) (q:Nat),u= .int .u64 (q:Int)/\App wr base 5 1 b o' ys.length (ys.map bv)/\ys++jO q=xs++jO q0/\w.grownBy wr o/\At w o o'/\base<=wr.heap.size)
   (λ_ u _=>(intOf u).toNat)
  case atStart=>exact ⟨o,xs,q0,rfl,a6,rfl,bu w o,.inl rfl,G⟩
  case round=>
   obtain⟨o',ys,q,rfl,U,heq,d,y,a7⟩:=hrel;have HE:=ae heq;have V:=kU List.length heq;simp only[bI] at V;have ad:ys.length+1<=1000000000100:=(by have:=qJ q;have:aP m=jO q0:=HQ.o;rw[this] at hlen;omega);clear heq V;by_cases hq:128<=q
   . have a8:=EG q;have HV:=ae (rE hq);have X:(0:Nat)<1:=(by omega);go_wp2_with (at_builtin;refine cZ _ rfl (.tmp 15) (.tmp 19) _ rfl base 5 i0 (.int .u8 0) 1 1 Tryz.underlying22 HI.o L.o M.o N.o rfl X _ o' ys.length (ys.map bv) rfl (U.alloc _) ⟨wr.heap.size,0,none⟩ 1 1 [.int .u8 ((q:Int)%128+128)] rfl X rfl (iC _ _ _) (Cb rfl) (by unfold maxLen;omega) (by omega) (by simp;omega) ?_;intro v' w1 a B Z);have hb:Value.int .u8 ((q:Int)%128+128)=bv (UInt8.ofNat (q%128+128)):=by
      unfold bv;rw[aW (by omega)];rfl
     rw[hb] at a;have Y:=dG B;have nz:=Z.alloc;clear B Z a8 hb;go_roundw
     case rel=>refine⟨v'.ownBlock,ys++[UInt8.ofNat (q%128+128)],q/128,by go_num,?_,?_,af d Y y,y.trans nz d.size,aK a7 Y.size⟩;rw[bI,fQ];exact App.own a;rw[gm,<-HE.o,HV.o];rfl
     case measure=>simp [intOf];omega
   . have X:(0:Nat)<1:=(by omega);have HV:=ae (rD (show q<128 by omega));go_wp2_with (at_builtin;refine cZ _ rfl (.tmp 23) (.tmp 26) _ rfl base 5 i0 (.int .u8 0) 1 1 Tryz.underlying22 HI.o L.o M.o N.o rfl X _ o' ys.length (ys.map bv) rfl (U.alloc _) ⟨wr.heap.size,0,none⟩ 1 1 [.int .u8 (q:Int)] rfl X rfl (iC _ _ _) (Cb rfl) (by unfold maxLen;omega) (by omega) (by simp;omega) ?_;intro v' w1 a B Z);have hb:Value.int .u8 (q:Int)=bv (UInt8.ofNat q):=by
      unfold bv;rw[aW (by omega)]
     rw[hb] at a;have HF:xs++aP m=ys++[UInt8.ofNat q]:=(by rw[show aP m=jO q0 from HQ.o,<-HE.o,HV.o]);have E:w1.ownsRow base 5 1 v' (xs++aP m).length ((xs++aP m).map bv):=(by rw[HF,bI,fQ];exact a);have aa:=ae E;clear E HF hb a;go_ret;exact⟨v',rfl,aa.o,af d (dG B) y,y.trans Z.alloc d.size⟩
theorem Td (A:Option Addr)(n c B:Nat)(xs:Bytes)(m:Int)(w:World)(h:Lies w B 1 A n (xs.map bv))(hnc:n<=c)(hm:inI64 m)(hx:n<=1000000000000)(base:Nat)(a:base<=w.heap.size):
 Calls Tryz.prog 81 #[.slice A n c,.int .i64 m] w λe w'=>∃v',e= .returned v'/\w'.ownsRow base 5 1 v' (xs++aP m).length ((xs++aP m).map bv)/\w.grownBy w' none/\At w none v'.ownBlock:=by have y:=ae h.lenB;have d:=ES base (.slice A n n) none xs m w (by rw[y.o];exact App.cut h) hm (by rw[y.o];exact hx) a;have D:=ae d;clear d hm;have h0:(0:Int)<=(n:Int):=(by omega);go_enter Tryz.func81,Tryz.ntmps81;go_wp2_with fail;refine D.o.mono ?_;rintro e w1 ⟨v',rfl,q,hg,u⟩;go_wp2_with fail;go_ret;exact⟨v',rfl,q,hg,u⟩
theorem uj (A:Option Addr)(n c B:Nat)(xs:Bytes)(m:Int)(w:World)(h:Lies w B 1 A n (xs.map bv))(ho:A=none->c=0)(hm:inI64 m)(hx:n<=1000000000000)(base:Nat)(d:base<=w.heap.size):
 Calls Tryz.prog 63 #[.slice A n c,.int .i64 m] w λe w'=>∃v',e= .returned v'/\w'.ownsRow base 5 1 v' (xs++aP m).length ((xs++aP m).map bv)/\w.grownBy w' none/\At w none v'.ownBlock:=by
 obtain⟨i0,hi,R,U,V⟩:=info_parts kY;have HI:=ae hi;have L:=ae R;have M:=ae U;have N:=ae V;clear hi R U V;have HX:=ae h.lenB;have HO:=ae ho;clear ho;have ao:=Eh hm.1 hm.2;have HQ:=ae (show aP m=jO (H6 m) from rfl);have hlen:=aS hm;have X:¬m<0->IntKind.u64.wrap (IntKind.u64.wrap m*2)=((H6 m:Nat):Int):=Zl hm;have Y:m<0->bits .xor .u64 IntKind.u64.max (IntKind.u64.wrap (IntKind.u64.wrap m*2))=((H6 m:Nat):Int):=OQ hm;have O:(0:Nat)<1:=(by omega);clear hm;go_enter Tryz.func63,Tryz.ntmps63;by_cases H:m<0
 all_goals
  (first|(have hd:=Y H)|(have hd:=X H));clear X Y;generalize H6 m=q0 at *
  go_wp2_with (at_builtin;refine dH _ rfl (.tmp 14) (.tmp 15) _ rfl base 5 i0 (.int .u8 0) 1 1 Tryz.underlying22 HI.o L.o M.o N.o rfl O _ 0 [] rfl (xm w base 5 1 d) B A n c (xs.map bv) rfl (h.allocAny _) HO.o (oI _) (by unfold maxLen;omega) (by omega) (by simp;omega) ?_;intro v0 w0 y Z a6);have I:=PT Z (au _) none;have ab:=a6.ofNew (au _);have hA0:App w0 base 5 1 v0 v0.ownBlock xs.length (xs.map bv):=(by rw[HX.o];have:=App.own y;rwa [fG,lG] at this);clear hd y Z a6
  go_loopw [5,6] (λu b wr=>∃(o':Option Nat) (ys:Bytes) (q:Nat),u= .int .u64 (q:Int)/\App wr base 5 1 b o' ys.length (ys.map bv)/\ys++jO q=xs++jO q0/\w.grownBy wr none/\At w none o'/\base<=wr.heap.size)
   (λu _ _=>(intOf u).toNat)
  case atStart=>exact ⟨v0.ownBlock,xs,q0,rfl,hA0,rfl,I,ab,aK d I.size⟩
  case round=>
   obtain⟨o',ys,q,rfl,a7,heq,D,E,ad⟩:=hrel;have HE:=ae heq;have a8:=kU List.length heq;simp only[bI] at a8;have aq:ys.length+1<=1000000000100:=(by have:=qJ q;have:aP m=jO q0:=HQ.o;rw[this] at hlen;have:=HX.o;omega);clear heq a8;by_cases hq:128<=q
   . have al:=EG q;have HV:=ae (rE hq);have O:(0:Nat)<1:=(by omega);go_wp2_with (at_builtin;refine cZ _ rfl (.tmp 19) (.tmp 23) _ rfl base 5 i0 (.int .u8 0) 1 1 Tryz.underlying22 HI.o L.o M.o N.o rfl O _ o' ys.length (ys.map bv) rfl (a7.alloc _) ⟨wr.heap.size,0,none⟩ 1 1 [.int .u8 ((q:Int)%128+128)] rfl O rfl (iC _ _ _) (Cb rfl) (by unfold maxLen;omega) (by omega) (by simp;omega) ?_;intro v' w1 a G mr);have hb:Value.int .u8 ((q:Int)%128+128)=bv (UInt8.ofNat (q%128+128)):=by
      unfold bv;rw[aW (by omega)];rfl
     rw[hb] at a;have aa:=dG G;have nz:=mr.alloc;clear G mr al hb;go_roundw
     case rel=>refine⟨v'.ownBlock,ys++[UInt8.ofNat (q%128+128)],q/128,by go_num,?_,?_,af D aa E,E.trans nz D.size,aK ad aa.size⟩;rw[bI,fQ];exact App.own a;rw[gm,<-HE.o,HV.o];rfl
     case measure=>simp [intOf];omega
   . have O:(0:Nat)<1:=(by omega);have HV:=ae (rD (show q<128 by omega));go_wp2_with (at_builtin;refine cZ _ rfl (.tmp 27) (.tmp 30) _ rfl base 5 i0 (.int .u8 0) 1 1 Tryz.underlying22 HI.o L.o M.o N.o rfl O _ o' ys.length (ys.map bv) rfl (a7.alloc _) ⟨wr.heap.size,0,none⟩ 1 1 [.int .u8 (q:Int)] rfl O rfl (iC _ _ _) (Cb rfl) (by unfold maxLen;omega) (by omega) (by simp;omega) ?_;intro v' w1 a G mr);have hb:Value.int .u8 (q:Int)=bv (UInt8.ofNat q):=by
      unfold bv;rw[aW (by omega)]
     rw[hb] at a;have HF:xs++aP m=ys++[UInt8.ofNat q]:=(by rw[show aP m=jO q0 from HQ.o,<-HE.o,HV.o]);have J:w1.ownsRow base 5 1 v' (xs++aP m).length ((xs++aP m).map bv):=(by rw[HF,bI,fQ];exact a);have an:=ae J;clear J HF hb a;go_ret;exact⟨v',rfl,an.o,af D (dG G) E,E.trans mr.alloc D.size⟩
def three (r:Int×Nat×Int):Value:= .tuple #[.int .i64 r.1,.int .i64 (r.2.1:Int),.int .i64 r.2.2]
theorem Zp (A:Option Addr)(n c:Nat)(xs:Bytes)(w:World)(B:Nat)(h:Lies w B 1 A n (xs.map bv))(hn:n<=1000000000000):
 Calls Tryz.prog 116 #[.slice A n c] w λe w'=>e= .returned (three (nG xs))/\w=w':=by
 have HL:=ae h.lenB;go_enter Tryz.func116,Tryz.ntmps116;go_wp2;go_loop [5,6,7,8,11] (λu _ _ _ i=>∃(k acc:Nat),i= .int .i64 k/\k<=n/\k<=9/\u= .int .u64 acc/\acc<128^k/\uw (xs.drop k) k acc=nG xs) (λ_ _ _ _ i=>n-(intOf i).toNat)
 case atStart=>exact ⟨0,0,rfl,by omega,by omega,rfl,by simp,rfl⟩
 case round=>
  obtain⟨k,acc,rfl,a8,R,rfl,E,d⟩:=hrel;by_cases U:k<n
  . obtain⟨ad,x,rfl,aa,hx,hc⟩:=h.byte U;have bx:=iF x;have q:xs.drop k=x::xs.drop (k+1):=by
     obtain⟨hl,V⟩:=dF.1 hx;rw[nY hl,V]
    rw[q] at d;simp only[uw] at d;clear hx q;have hand:bits .and .u8 (x.toNat:Int) 127=((x.toNat%128:Nat):Int):=(by have:=u8_and_nat x.toNat 127 bx (by omega);rw[nat_mask7] at this;exact this);by_cases ha:k=9/\1<x.toNat
    . rw[if_pos ha] at d;obtain⟨X,ab⟩:=ha;have y:=ae d;have al:(1:Int)<(x.toNat:Int):=(by omega);have an:((k:Int)==9)=true:=(by rw[dV];omega);clear d E X;go_wp2_with fail;go_ret3;exact⟨by rw[<-y.o];rfl,rfl⟩
    . rw[if_neg ha] at d;obtain⟨Y,I⟩:=U5 (x:=x.toNat) E R (by omega);by_cases hb:128<=x.toNat
      . rw[if_pos hb] at d;have y:=ae d;have ao:k<9:=(by omega);have J:acc+x.toNat%128*128^k<128^(k+1):=by
         have h1:x.toNat%128*128^k<=127*128^k:=mf _ (by omega);rw[Nat.pow_succ];omega
        have Z:=ae J;clear d J;generalize acc+x.toNat%128*128^k=a at *
        have L:((k:Int)==9)=false:=(by rw[gq];omega);go_wp2_with fail;go_round
        case rel=>exact ⟨k+1,a,by go_num,by omega,by omega,rfl,Z.o,y.o⟩
        case measure=>simp [intOf];omega
      . rw[if_neg hb] at d;have H:x.toNat%128=x.toNat:=(by omega);rw[H] at I;have aq:bits .or .u64 (acc:Int) (IntKind.u64.wrap ((x.toNat:Int)%128*2^(7*k)))=((acc+x.toNat*128^k:Nat):Int):=by
         rw[H] at Y;exact Y
        clear Y;have M:((k:Int)==9)=true->¬(1:Int)<(x.toNat:Int):=(by intro h;rw[dV] at h;omega);have ar:¬(128:Int)<=(x.toNat:Int):=(by omega);by_cases D:x.toNat=0/\0<k
        . rw[if_pos D] at d;have y:=ae d;have O:((x.toNat:Int)==0)=true:=(by rw[dV];omega);have z2:(0:Int)<(k:Int):=(by omega);generalize acc+x.toNat*128^k=a at *
          clear d D
          cases L:((k:Int)==9)
          . clear M;go_wp2_with fail;go_ret3;exact⟨by rw[<-y.o];rfl,rfl⟩
          . have av:=M L;clear M;go_wp2_with fail;go_ret3;exact⟨by rw[<-y.o];rfl,rfl⟩
        . rw[if_neg D] at d;have y:=ae d;clear d H;generalize acc+x.toNat*128^k=a at *
          have a6:bits .and .u64 (a:Int) 1=((a%2:Nat):Int):=(by have:=u64_and_nat a 1 I (by omega);rw[nat_mask1] at this;exact this);have O:(((x.toNat:Int)==0)=false)\/(((x.toNat:Int)==0)=true/\¬(0:Int)<(k:Int)/\x.toNat=0):=(by by_cases h:x.toNat=0;exact .inr ⟨by rw[dV];omega,by omega,h⟩;exact .inl (by rw[gq];omega));have N:(((a:Int)%2 !=0)=true/\H7 a= -((a/2:Nat):Int)-1)\/(((a:Int)%2 !=0)=false/\H7 a=((a/2:Nat):Int)):=(by unfold H7;rcases LY a with h|h;exact .inr ⟨by rw[sN];omega,by rw[if_neg (by omega)]⟩;exact .inl ⟨by rw[fB];omega,by rw[if_pos h]⟩);have a7:(((k:Int)==9)=true/\¬(1:Int)<(x.toNat:Int))\/((k:Int)==9)=false:=by
           cases h:((k:Int)==9)
           exact .inr rfl;exact .inl ⟨rfl,M h⟩
          clear M D;rcases O with O|⟨O,z2,z3⟩
          all_goals
           rcases a7 with ⟨k1,k2⟩|k1
           all_goals
            rcases N with ⟨o1,o2⟩|⟨o1,o2⟩
            all_goals
             have HO:=ae o2;clear o2;(try clear z3);go_wp2_with fail;go_ret3;exact⟨by rw[<-y.o];show Ending.returned (.tuple #[.int .i64 _,_,_])= .returned (.tuple #[.int .i64 (H7 a),_,_]);rw[HO.o];rfl,rfl⟩
  . obtain rfl:k=n:=(by omega);have y:=ae d;have G:xs.drop k=[]:=jT (by have:=HL.o;omega);have Z:=ae G;clear d G;go_wp2_with fail;go_ret3;exact⟨by rw[<-y.o,Z.o];rfl,rfl⟩
theorem Zq (A:Option Addr)(n c:Nat)(xs:Bytes)(w:World)(B:Nat)(h:Lies w B 1 A n (xs.map bv))(hn:n<=1000000000000):
 Calls Tryz.prog 83 #[.slice A n c] w λe w'=>e= .returned (three (nG xs))/\w=w':=by
 have HL:=ae h.lenB;go_enter Tryz.func83,Tryz.ntmps83;go_wp2;go_loop [5,6,7] (λu i _=>∃(k acc:Nat),i= .int .i64 k/\k<=n/\k<=9/\u= .int .u64 acc/\acc<128^k/\uw (xs.drop k) k acc=nG xs) (λ_ i _=>n-(intOf i).toNat)
 case atStart=>exact ⟨0,0,rfl,by omega,by omega,rfl,by simp,rfl⟩
 case round=>
  obtain⟨k,acc,rfl,aa,R,rfl,E,d⟩:=hrel;by_cases U:k<n
  . obtain⟨ad,x,rfl,ab,hx,hc⟩:=h.byte U;have bx:=iF x;have q:xs.drop k=x::xs.drop (k+1):=by
     obtain⟨hl,V⟩:=dF.1 hx;rw[nY hl,V]
    rw[q] at d;simp only[uw] at d;clear hx q;have hand:bits .and .u8 (x.toNat:Int) 127=((x.toNat%128:Nat):Int):=(by have:=u8_and_nat x.toNat 127 bx (by omega);rw[nat_mask7] at this;exact this);by_cases ha:k=9/\1<x.toNat
    . rw[if_pos ha] at d;obtain⟨X,al⟩:=ha;have y:=ae d;have an:(1:Int)<(x.toNat:Int):=(by omega);have ao:((k:Int)==9)=true:=(by rw[dV];omega);clear d E X;go_wp2_with fail;go_ret3;exact⟨by rw[<-y.o];rfl,rfl⟩
    . rw[if_neg ha] at d;obtain⟨Y,I⟩:=U5 (x:=x.toNat) E R (by omega);by_cases hb:128<=x.toNat
      . rw[if_pos hb] at d;have y:=ae d;have aq:k<9:=(by omega);have J:acc+x.toNat%128*128^k<128^(k+1):=by
         have h1:x.toNat%128*128^k<=127*128^k:=mf _ (by omega);rw[Nat.pow_succ];omega
        have Z:=ae J;clear d J;generalize acc+x.toNat%128*128^k=a at *
        have L:((k:Int)==9)=false:=(by rw[gq];omega);go_wp2_with fail;go_round
        case rel=>exact ⟨k+1,a,by go_num,by omega,by omega,rfl,Z.o,y.o⟩
        case measure=>simp [intOf];omega
      . rw[if_neg hb] at d;have H:x.toNat%128=x.toNat:=(by omega);rw[H] at I;have ar:bits .or .u64 (acc:Int) (IntKind.u64.wrap ((x.toNat:Int)%128*2^(7*k)))=((acc+x.toNat*128^k:Nat):Int):=by
         rw[H] at Y;exact Y
        clear Y;have M:((k:Int)==9)=true->¬(1:Int)<(x.toNat:Int):=(by intro h;rw[dV] at h;omega);have av:¬(128:Int)<=(x.toNat:Int):=(by omega);by_cases D:x.toNat=0/\0<k
        . rw[if_pos D] at d;have y:=ae d;have O:((x.toNat:Int)==0)=true:=(by rw[dV];omega);have z2:(0:Int)<(k:Int):=(by omega);generalize acc+x.toNat*128^k=a at *
          clear d D
          cases L:((k:Int)==9)
          . clear M;go_wp2_with fail;go_ret3;exact⟨by rw[<-y.o];rfl,rfl⟩
          . have aw:=M L;clear M;go_wp2_with fail;go_ret3;exact⟨by rw[<-y.o];rfl,rfl⟩
        . rw[if_neg D] at d;have y:=ae d;clear d H;generalize acc+x.toNat*128^k=a at *
          have a8:bits .xor .i64 (-1) ((a:Int)/2)= -1-((a:Int)/2):=i64_not (a/2) (by omega);have a6:bits .and .u64 (a:Int) 1=((a%2:Nat):Int):=(by have:=u64_and_nat a 1 I (by omega);rw[nat_mask1] at this;exact this);have O:(((x.toNat:Int)==0)=false)\/(((x.toNat:Int)==0)=true/\¬(0:Int)<(k:Int)/\x.toNat=0):=(by by_cases h:x.toNat=0;exact .inr ⟨by rw[dV];omega,by omega,h⟩;exact .inl (by rw[gq];omega));have N:(((a:Int)%2==1)=true/\H7 a= -1-((a/2:Nat):Int))\/(((a:Int)%2==1)=false/\H7 a=((a/2:Nat):Int)):=(by unfold H7;rcases LY a with h|h;exact .inr ⟨by rw[gq];omega,by rw[if_neg (by omega)]⟩;exact .inl ⟨by rw[dV];omega,by rw[if_pos h];omega⟩);have a7:(((k:Int)==9)=true/\¬(1:Int)<(x.toNat:Int))\/((k:Int)==9)=false:=by
           cases h:((k:Int)==9)
           exact .inr rfl;exact .inl ⟨rfl,M h⟩
          clear M D;rcases O with O|⟨O,z2,z3⟩
          all_goals
           rcases a7 with ⟨k1,k2⟩|k1
           all_goals
            rcases N with ⟨o1,o2⟩|⟨o1,o2⟩
            all_goals
             have HO:=ae o2;clear o2;(try clear z3);go_wp2_with fail
             all_goals
              go_ret3;exact⟨by rw[<-y.o];show Ending.returned (.tuple #[.int .i64 _,_,_])= .returned (.tuple #[.int .i64 (H7 a),_,_]);rw[HO.o];rfl,rfl⟩
  . obtain rfl:k=n:=(by omega);have y:=ae d;have G:xs.drop k=[]:=jT (by have:=HL.o;omega);have Z:=ae G;clear d G;go_wp2_with fail;go_ret3;exact⟨by rw[<-y.o,Z.o];rfl,rfl⟩
theorem EJ (A:Option Addr)(n c:Nat)(xs:Bytes)(w:World)(B:Nat)(h:Lies w B 1 A n (xs.map bv))(hn:n<=1000000000000){m:Int}{k:Nat}{a:Int}(hg:nG xs=(m,k,a)):
 Calls Tryz.prog 116 #[.slice A n c] w λe w'=>e= .returned (.tuple #[.int .i64 m,.int .i64 (k:Int),.int .i64 a])/\w=w':=by have:=Zp A n c xs w B h hn;rw[hg] at this;exact this
theorem Sr (A:Option Addr)(n c:Nat)(xs:Bytes)(w:World)(B:Nat)(h:Lies w B 1 A n (xs.map bv))(hn:n<=1000000000000){m:Int}{k:Nat}{a:Int}(hg:nG xs=(m,k,a)):
 Calls Tryz.prog 83 #[.slice A n c] w λe w'=>e= .returned (.tuple #[.int .i64 m,.int .i64 (k:Int),.int .i64 a])/\w=w':=by have:=Zq A n c xs w B h hn;rw[hg] at this;exact this
theorem fD {b:Bytes}{s:Rd}(h:s.at_<=b.length):(rdNum b s).2.at_<=b.length/\s.at_<=(rdNum b s).2.at_:=by unfold rdNum;split;split;rename_i h1;have:=qK (l:=b.drop s.at_) (n:=(nG (b.drop s.at_)).1) (k:=(nG (b.drop s.at_)).2.1) (by rw[<-h1]);have h2:=this.2.2.2.1;rw[qf] at h2;dsimp only;omega;exact⟨h,au _⟩;exact⟨h,au _⟩
def rdCells (A:Option Addr)(n c:Nat)(s:Rd):Array Value:=#[.slice A n c,.int .i64 (s.at_:Int),.int .i64 s.err]
theorem jC (g:Nat)(A:Option Addr)(n c B:Nat)(xs:Bytes)(s:Rd)(w:World)(hg:Held w g 293 (rdCells A n c s))(h:Lies w B 1 A n (xs.map bv))(hnc:n<=c)(ho:A=none->c=0)(hn:n<=1000000000)(hs:s.at_<=n):
 Calls Tryz.prog 173 #[.pointer (some ⟨g,0,none⟩)] w λe w'=>e= .returned (.int .i64 (rdNum xs s).1)/\Held w' g 293 (rdCells A n c (rdNum xs s).2)/\w.grownBy w' (some g):=by
 have H:xs.length=n:=h.lenB;have L:w.cell? ⟨g,0,none⟩=some (.slice A n c):=hg.cell 0;have M:w.cell? ⟨g,1,none⟩=some (.int .i64 (s.at_:Int)):=hg.cell 1;have N:w.cell? ⟨g,2,none⟩=some (.int .i64 s.err):=hg.cell 2;by_cases he:s.err=0
 . obtain⟨a,y⟩:=s;dsimp only at he hs L M N hg|-;subst he;have hcut:Lies w B 1 (if c=a then A else A.map λx=>x.add a) (n-a) ((xs.drop a).map bv):=by
    have:=h.dropIf hs hnc;rwa [je,<-pq] at this
   obtain⟨A',I⟩:∃A',(if c=a then A else A.map λx=>x.add a)=A':=⟨_,rfl⟩;rw[I] at hcut;obtain⟨m,k,y,d⟩:∃m k y,nG (xs.drop a)=(m,k,y):=⟨_,_,_,rfl⟩;have CP:=ae (EJ A' (n-a) (c-a) (xs.drop a) w.drew B hcut.drew (by omega) d);have O:((0:Int) !=0)=false:=rfl;have V:(0:Int)<=(a:Int):=(by omega);have X:(a:Int)<=(n:Int):=(by omega);have Y:(n:Int)<=(c:Int):=(by omega);have z0:=hg.free 0;have Z:=hg.free 1;have z2:=hg.free 2;by_cases u:y=0
   . subst u;have ho:=qK d;have hk:k<=n-a:=(by have:=ho.2.2.2.1;rw[qf] at this;omega);have q:rdNum xs ⟨a,0⟩=(m,⟨a+k,0⟩):=by
      unfold rdNum;rw[if_pos rfl];dsimp only;rw[d,if_pos rfl]
     rw[q];have G:=ae hg;clear q d ho H hg hcut h;go_enter Tryz.func173,Tryz.ntmps173;go_wp2_with fail
     go_region_held3 (λw'=>w'.cell? ⟨g,0,none⟩=some (.slice A n c)/\w'.cell? ⟨g,1,none⟩=some (.int .i64 (a:Int))) (go_keep) (first
      |(go_at_call 116;((with_reducible refine CP.o.mono ?_);rintro e w1 ⟨rfl,rfl⟩)))
     go_wp2_with fail;go_ret;have D:=(G.o.store 1 (.int .i64 ((a:Int)+(k:Int)))).drew;exact⟨rfl,D,aB (ag w g 1 _)⟩
   . obtain⟨R,J,E⟩:=(Ob (xs.drop a)).resolve_left (by rw[d];exact u);rw[d] at E;simp only[Prod.mk.injEq] at E;obtain⟨rfl,rfl,rfl⟩:=E;have q:rdNum xs ⟨a,0⟩=(0,⟨a,y⟩):=by
      unfold rdNum;rw[if_pos rfl];dsimp only;rw[d,if_neg u]
     rw[q];have G:=ae hg;have U:(y !=0)=true:=(by rw[fB];exact u);clear q d H hg hcut h u J;go_enter Tryz.func173,Tryz.ntmps173;go_wp2_with fail
     go_region_held3 (λw'=>w'.cell? ⟨g,0,none⟩=some (.slice A n c)/\w'.cell? ⟨g,1,none⟩=some (.int .i64 (a:Int))) (go_keep) (first
      |(go_at_call 116;((with_reducible refine CP.o.mono ?_);rintro e w1 ⟨rfl,rfl⟩)))
     go_wp2_with fail;go_ret;have D:=(G.o.store 2 (.int .i64 y)).drew;exact⟨rfl,D,aB (ag w g 2 _)⟩
 . have hb:(s.err !=0)=true:=(by rw[fB];exact he);have q:rdNum xs s=(0,s):=nM he;rw[q];have G:=ae hg;clear q he H hg;go_enter Tryz.func173,Tryz.ntmps173;go_wp2_with fail;go_ret;exact⟨rfl,G.o,bu w _⟩
theorem iT (g:Nat)(A:Option Addr)(n c B:Nat)(xs:Bytes)(s:Rd)(w:World)(hg:Held w g 128 (rdCells A n c s))(h:Lies w B 1 A n (xs.map bv))(hnc:n<=c)(ho:A=none->c=0)(hn:n<=1000000000)(hs:s.at_<=n):
 Calls Tryz.prog 47 #[.pointer (some ⟨g,0,none⟩)] w λe w'=>e= .returned (.int .i64 (rdNum xs s).1)/\Held w' g 128 (rdCells A n c (rdNum xs s).2)/\w.grownBy w' (some g):=by
 have H:xs.length=n:=h.lenB;have L:w.cell? ⟨g,0,none⟩=some (.slice A n c):=hg.cell 0;have M:w.cell? ⟨g,1,none⟩=some (.int .i64 (s.at_:Int)):=hg.cell 1;have N:w.cell? ⟨g,2,none⟩=some (.int .i64 s.err):=hg.cell 2;by_cases he:s.err=0
 . obtain⟨a,y⟩:=s;dsimp only at he hs L M N hg|-;subst he;have hcut:Lies w B 1 (if c=a then A else A.map λx=>x.add a) (n-a) ((xs.drop a).map bv):=by
    have:=h.dropIf hs hnc;rwa [je,<-pq] at this
   obtain⟨A',I⟩:∃A',(if c=a then A else A.map λx=>x.add a)=A':=⟨_,rfl⟩;rw[I] at hcut;obtain⟨m,k,y,d⟩:∃m k y,nG (xs.drop a)=(m,k,y):=⟨_,_,_,rfl⟩;have CP:=ae (Sr A' (n-a) (c-a) (xs.drop a) w.drew B hcut.drew (by omega) d);have O:((0:Int) !=0)=false:=rfl;have V:(0:Int)<=(a:Int):=(by omega);have X:(a:Int)<=(n:Int):=(by omega);have Y:(n:Int)<=(c:Int):=(by omega);have z0:=hg.free 0;have Z:=hg.free 1;have z2:=hg.free 2;by_cases u:y=0
   . subst u;have ho:=qK d;have hk:k<=n-a:=(by have:=ho.2.2.2.1;rw[qf] at this;omega);have q:rdNum xs ⟨a,0⟩=(m,⟨a+k,0⟩):=by
      unfold rdNum;rw[if_pos rfl];dsimp only;rw[d,if_pos rfl]
     rw[q];have G:=ae hg;clear q d ho H hg hcut h;go_enter Tryz.func47,Tryz.ntmps47;go_wp2_with fail
     go_region_held3 (λw'=>w'.cell? ⟨g,0,none⟩=some (.slice A n c)/\w'.cell? ⟨g,1,none⟩=some (.int .i64 (a:Int))) (go_keep) (first
      |(go_at_call 83;((with_reducible refine CP.o.mono ?_);rintro e w1 ⟨rfl,rfl⟩)))
     go_wp2_with fail;go_ret;have D:=(G.o.store 1 (.int .i64 ((a:Int)+(k:Int)))).drew;exact⟨rfl,D,aB (ag w g 1 _)⟩
   . obtain⟨R,J,E⟩:=(Ob (xs.drop a)).resolve_left (by rw[d];exact u);rw[d] at E;simp only[Prod.mk.injEq] at E;obtain⟨rfl,rfl,rfl⟩:=E;have q:rdNum xs ⟨a,0⟩=(0,⟨a,y⟩):=by
      unfold rdNum;rw[if_pos rfl];dsimp only;rw[d,if_neg u]
     rw[q];have G:=ae hg;have U:(y !=0)=true:=(by rw[fB];exact u);clear q d H hg hcut h u J;go_enter Tryz.func47,Tryz.ntmps47;go_wp2_with fail
     go_region_held3 (λw'=>w'.cell? ⟨g,0,none⟩=some (.slice A n c)/\w'.cell? ⟨g,1,none⟩=some (.int .i64 (a:Int))) (go_keep) (first
      |(go_at_call 83;((with_reducible refine CP.o.mono ?_);rintro e w1 ⟨rfl,rfl⟩)))
     go_wp2_with fail;go_ret;have D:=(G.o.store 2 (.int .i64 y)).drew;exact⟨rfl,D,aB (ag w g 2 _)⟩
 . have hb:(s.err !=0)=true:=(by rw[fB];exact he);have q:rdNum xs s=(0,s):=nM he;rw[q];have G:=ae hg;clear q he H hg;go_enter Tryz.func47,Tryz.ntmps47;go_wp2_with fail;go_ret;exact⟨rfl,G.o,bu w _⟩
