/- Words. -/
import Derived.Test.YtfbkkgfkhhibfaaGreatOpen
import Derived.Great.BuildSlice
set_option linter.unusedVariables false
set_option maxRecDepth 100000
set_option maxHeartbeats 8000000
namespace Iv
open Go Go.RowKit
theorem adN {x:Nat}(h:x < 18446744073709551616):18446744073709551615 ^^^ x=18446744073709551615 - x:=by
 refine Nat.eq_of_testBit_eq fun i=>?_
 have e1:(18446744073709551615:Nat)=2 ^ 64 - 1:=by decide
 have e2:18446744073709551615 - x=2 ^ 64 - (x+1):=by omega
 rw[e2,Nat.testBit_xor,e1,Nat.testBit_two_pow_sub_one,Nat.testBit_two_pow_sub_succ (by omega)];by_cases hi:i < 64
 · simp[hi]
 · have:x.testBit i=false:=Nat.testBit_lt_two_pow (Nat.lt_of_lt_of_le h (by
    rw[show (18446744073709551616:Nat)=2 ^ 64 from by decide];exact Nat.pow_le_pow_right (by omega) (by omega)))
   simp[hi,this]
theorem Tc {m:Int}(h:inI64 m)(h0:¬m < 0):IntKind.u64.wrap (IntKind.u64.wrap m * 2)=((Bq m:Nat):Int):=by
 unfold inI64 at h;unfold Bq;rw[if_neg h0,IntKind.wrap_u64,IntKind.wrap_u64];omega
theorem Hg {m:Int}(h:inI64 m)(h0:m < 0):bits .xor .u64 IntKind.u64.max (IntKind.u64.wrap (IntKind.u64.wrap m * 2))=((Bq m:Nat):Int):=by
 unfold inI64 at h
 have e:IntKind.u64.wrap (IntKind.u64.wrap m * 2)=(((2 * m+18446744073709551616).toNat:Nat):Int):=by
  rw[IntKind.wrap_u64,IntKind.wrap_u64];omega
 rw[e];have hx:=u64_xor_nat 18446744073709551615 ((2 * m+18446744073709551616).toNat) (by omega) (by omega);rw[adN (by omega)] at hx;refine Eq.trans ?_ (hx.trans ?_)
 · rfl
 · unfold Bq;rw[if_pos h0];omega
theorem adO (b:Nat)(h:b < 256):b ||| 128=b % 128+128:=by
 have:∀b:Fin 256,b.val ||| 128=b.val % 128+128:=by decide+kernel
 exact this ⟨b,h⟩
theorem yx (u:Nat):bits .or .u8 ((u:Int) % 256) 128=((u % 128+128:Nat):Int):=by
 have h:=u8_or_nat (u % 256) 128 (by omega) (by omega);rw[adO _ (by omega)] at h;refine Eq.trans ?_ (h.trans ?_)
 · rfl
 · omega
theorem Z8 (k:Nat):(2:Nat) ^ (7 * k)=128 ^ k:=by rw[Nat.pow_mul]
theorem Hl {x k:Nat}(hx:x < 128)(hk:k≤9)(h9:k=9→x≤1):x * 128 ^ k < 18446744073709551616:=by
 by_cases h:k=9
 · have:=h9 h;subst h;have:(128:Nat) ^ 9=9223372036854775808:=by decide
   rw[this];omega
 · have h1:(128:Nat) ^ k≤128 ^ 8:=Nat.pow_le_pow_right (by omega) (by omega);have h2:(128:Nat) ^ 8=72057594037927936:=by decide
   have h3:x * 128 ^ k≤127 * 128 ^ 8:=Nat.mul_le_mul (by omega) h1;omega
theorem WL {acc k x:Nat}(hacc:acc < 128 ^ k)(hk:k≤9)(h9:k=9→x % 128≤1):
 bits .or .u64 (acc:Int) (IntKind.u64.wrap ((x:Int) % 128 * 2 ^ (7 * k)))=((acc+x % 128 * 128 ^ k:Nat):Int)∧acc+x % 128 * 128 ^ k < 18446744073709551616:=by
 have hs:=Hl (x:=x % 128) (by omega) hk h9;have hp:(128:Nat) ^ k≤128 ^ 9:=Nat.pow_le_pow_right (by omega) hk;have h9':(128:Nat) ^ 9=9223372036854775808:=by decide
 have e:((x:Int) % 128 * 2 ^ (7 * k))=((x % 128 * 128 ^ k:Nat):Int):=by
  rw[←Z8];push_cast;rfl
 have hw:IntKind.u64.wrap ((x:Int) % 128 * 2 ^ (7 * k))=((x % 128 * 128 ^ k:Nat):Int):=by
  rw[e,IntKind.wrap_u64];omega
 have hj:acc ||| x % 128 * 128 ^ k=acc+x % 128 * 128 ^ k:=by
  rw[Nat.or_comm,nat_join (7 * k) (x % 128 * 128 ^ k) acc (by rw[Z8];exact Nat.mul_mod_left _ _) (by rw[Z8];exact hacc),Nat.add_comm]
 refine⟨?_,?_⟩
 · rw[hw,u64_or_nat acc _ (by omega) hs,hj]
 · have hm:acc+x % 128 * 128 ^ k < 128 ^ k+x % 128 * 128 ^ k:=by omega
   by_cases h:k=9
   · have:=h9 h;subst h;rw[h9'] at hacc hm hs⊢;omega
   · have h1:(128:Nat) ^ k≤128 ^ 8:=Nat.pow_le_pow_right (by omega) (by omega);have h2:(128:Nat) ^ 8=72057594037927936:=by decide
     have h3:x % 128 * 128 ^ k≤127 * 128 ^ 8:=Nat.mul_le_mul (by omega) h1;omega
end Iv
theorem ae {p : Prop} (h : p) : Go.RowKit.Hid p := h
namespace Go.Proofs.YtfbkkgfkhhibfaaGreat
open Go Go.RowKit Iv
theorem yG (base:Nat)(v:Value)(o:Option Nat)(xs:Bytes)(m:Int)(w:World)(aj1:App w base 5 1 v o xs.length (xs.map bv))(hm:inI64 m)(hx:xs.length≤1000000000000)(hbase:base≤w.heap.size):
 Calls Tryz.prog 111 #[v,.int .i64 m] w fun e w'=>∃v',e= .returned v'∧w'.ownsRow base 5 1 v' (xs++aF m).length ((xs++aF m).map bv)∧w.grownBy w' o∧At w o v'.ownBlock:=by
 obtain⟨i0,hi,hz0,hz1,hz2⟩:=info_parts jF;have HI:=ae hi;have HZ0:=ae hz0;have HZ1:=ae hz1;have HZ2:=ae hz2;clear hi hz0 hz1 hz2;have hzl:=xW hm.1 hm.2;have HQ:=ae (show aF m=iy (Bq m) from rfl);have hlen:=aI hm;have hup:¬m < 0→IntKind.u64.wrap (IntKind.u64.wrap m * 2)=((Bq m:Nat):Int):=Tc hm;have hdn:m < 0→bits .xor .u64 IntKind.u64.max (IntKind.u64.wrap (IntKind.u64.wrap m * 2))=((Bq m:Nat):Int):=Hg hm;have HM:=ae hm;clear hm;go_enter Tryz.func111,Tryz.ntmps111;by_cases hneg:m < 0
 all_goals
  first | (have hd:=hdn hneg) | (have hd:=hup hneg)
  clear hup hdn;generalize Bq m=q0 at *
  go_wp2;clear hd
  go_loopw [0,5] (fun b u wr=>∃(o':Option Nat) (ys:Bytes) (q:Nat),u= .int .u64 (q:Int)∧App wr base 5 1 b o' ys.length (ys.map bv)∧ys++iy q=xs++iy q0∧w.grownBy wr o∧At w o o'∧base≤wr.heap.size)
   (fun _ u _=>(intOf u).toNat)
  case atStart=>exact ⟨o,xs,q0,rfl,aj1,rfl,World.grownBy.refl w o,.inl rfl,hbase⟩
  case round=>
   obtain⟨o',ys,q,rfl,hap,heq,hgr,hat,hbr⟩:=hrel;have HE:=ae heq;have hll:=congrArg List.length heq;simp only[List.length_append] at hll
   have hyl:ys.length+1≤1000000000100:=by
    have:=lX q;have:aF m=iy q0:=HQ.out;rw[this] at hlen;omega
   clear heq hll;by_cases hq:128≤q
   · have hor:=yx q;have HV:=ae (mW hq);have hz:(0:Nat) < 1:=by omega
     go_wp2_with (at_builtin;refine bK _ rfl (.tmp 15) (.tmp 19) _ rfl base 5 i0 (.int .u8 0) 1 1 Tryz.underlying22 HI.out HZ0.out HZ1.out HZ2.out rfl hz _ o' ys.length (ys.map bv) rfl (hap.alloc _) ⟨wr.heap.size,0,none⟩ 1 1 [.int .u8 ((q:Int) % 128+128)] rfl hz rfl (fK _ _ _) (Am rfl) (by unfold maxLen;omega) (by omega) (by simp;omega) ?_;intro v' w1 hown1 hg1 jT)
     have hb:Value.int .u8 ((q:Int) % 128+128)=bv (UInt8.ofNat (q % 128+128)):=by
      unfold bv;rw[aK (by omega)];rfl
     rw[hb] at hown1;have hg2:=bM hg1;have lJ:=jT.alloc;clear hg1 jT hor hb;go_roundw
     case rel=>
      refine⟨v'.ownBlock,ys++ [UInt8.ofNat (q % 128+128)],q / 128,by go_num,?_,?_,af hgr hg2 hat,hat.trans lJ hgr.size,Nat.le_trans hbr hg2.size⟩
      · rw[List.length_append,List.map_append];exact App.own hown1
      · rw[List.append_assoc,←HE.out,HV.out];rfl
     case measure=>simp [intOf];omega
   · have hz:(0:Nat) < 1:=by omega
     have HV:=ae (mV (show q < 128 by omega));go_wp2_with (at_builtin;refine bK _ rfl (.tmp 23) (.tmp 26) _ rfl base 5 i0 (.int .u8 0) 1 1 Tryz.underlying22 HI.out HZ0.out HZ1.out HZ2.out rfl hz _ o' ys.length (ys.map bv) rfl (hap.alloc _) ⟨wr.heap.size,0,none⟩ 1 1 [.int .u8 (q:Int)] rfl hz rfl (fK _ _ _) (Am rfl) (by unfold maxLen;omega) (by omega) (by simp;omega) ?_;intro v' w1 hown1 hg1 jT)
     have hb:Value.int .u8 (q:Int)=bv (UInt8.ofNat q):=by
      unfold bv;rw[aK (by omega)]
     rw[hb] at hown1
     have HF:xs++aF m=ys++ [UInt8.ofNat q]:=by
      rw[show aF m=iy q0 from HQ.out,←HE.out,HV.out]
     have hfin:w1.ownsRow base 5 1 v' (xs++aF m).length ((xs++aF m).map bv):=by
      rw[HF,List.length_append,List.map_append];exact hown1
     have HF2:=ae hfin;clear hfin HF hb hown1;go_ret;exact⟨v',rfl,HF2.out,af hgr (bM hg1) hat,hat.trans jT.alloc hgr.size⟩
theorem Ls (A:Option Addr)(n c B:Nat)(xs:Bytes)(m:Int)(w:World)(h:Lies w B 1 A n (xs.map bv))(hnc:n≤c)(hm:inI64 m)(hx:n≤1000000000000)(base:Nat)(hbase:base≤w.heap.size):
 Calls Tryz.prog 81 #[.slice A n c,.int .i64 m] w fun e w'=>∃v',e= .returned v'∧w'.ownsRow base 5 1 v' (xs++aF m).length ((xs++aF m).map bv)∧w.grownBy w' none∧At w none v'.ownBlock:=by
 have HL:=ae h.lenB;have hc1:=yG base (.slice A n n) none xs m w (by rw[HL.out];exact App.cut h) hm (by rw[HL.out];exact hx) hbase;have HC:=ae hc1;clear hc1 hm;have h0:(0:Int)≤(n:Int):=by omega
 go_enter Tryz.func81,Tryz.ntmps81;go_wp2_with fail;refine HC.out.mono ?_;rintro e w1 ⟨v',rfl,hown,hg,hat⟩;go_wp2_with fail;go_ret;exact⟨v',rfl,hown,hg,hat⟩
theorem oq (A:Option Addr)(n c B:Nat)(xs:Bytes)(m:Int)(w:World)(h:Lies w B 1 A n (xs.map bv))(ho:A=none→c=0)(hm:inI64 m)(hx:n≤1000000000000)(base:Nat)(hbase:base≤w.heap.size):
 Calls Tryz.prog 63 #[.slice A n c,.int .i64 m] w fun e w'=>∃v',e= .returned v'∧w'.ownsRow base 5 1 v' (xs++aF m).length ((xs++aF m).map bv)∧w.grownBy w' none∧At w none v'.ownBlock:=by
 obtain⟨i0,hi,hz0,hz1,hz2⟩:=info_parts jF;have HI:=ae hi;have HZ0:=ae hz0;have HZ1:=ae hz1;have HZ2:=ae hz2;clear hi hz0 hz1 hz2;have HX:=ae h.lenB;have HO:=ae ho;clear ho;have hzl:=xW hm.1 hm.2;have HQ:=ae (show aF m=iy (Bq m) from rfl);have hlen:=aI hm;have hup:¬m < 0→IntKind.u64.wrap (IntKind.u64.wrap m * 2)=((Bq m:Nat):Int):=Tc hm;have hdn:m < 0→bits .xor .u64 IntKind.u64.max (IntKind.u64.wrap (IntKind.u64.wrap m * 2))=((Bq m:Nat):Int):=Hg hm;have hz:(0:Nat) < 1:=by omega
 clear hm;go_enter Tryz.func63,Tryz.ntmps63;by_cases hneg:m < 0
 all_goals
  first | (have hd:=hdn hneg) | (have hd:=hup hneg)
  clear hup hdn;generalize Bq m=q0 at *
  go_wp2_with (at_builtin;refine bP _ rfl (.tmp 14) (.tmp 15) _ rfl base 5 i0 (.int .u8 0) 1 1 Tryz.underlying22 HI.out HZ0.out HZ1.out HZ2.out rfl hz _ 0 [] rfl (qw w base 5 1 hbase) B A n c (xs.map bv) rfl (h.allocAny _) HO.out (lN _) (by unfold maxLen;omega) (by omega) (by simp;omega) ?_;intro v0 w0 hown0 hg0 agk);have hg0':=II hg0 (Nat.le_refl _) none;have agl:=agk.ofNew (Nat.le_refl _)
  have hA0:App w0 base 5 1 v0 v0.ownBlock xs.length (xs.map bv):=by
   rw[HX.out];have:=App.own hown0;rwa [Nat.zero_add,List.nil_append] at this
  clear hd hown0 hg0 agk
  go_loopw [5,6] (fun u b wr=>∃(o':Option Nat) (ys:Bytes) (q:Nat),u= .int .u64 (q:Int)∧App wr base 5 1 b o' ys.length (ys.map bv)∧ys++iy q=xs++iy q0∧w.grownBy wr none∧At w none o'∧base≤wr.heap.size)
   (fun u _ _=>(intOf u).toNat)
  case atStart=>exact ⟨v0.ownBlock,xs,q0,rfl,hA0,rfl,hg0',agl,Nat.le_trans hbase hg0'.size⟩
  case round=>
   obtain⟨o',ys,q,rfl,hap,heq,hgr,hat,hbr⟩:=hrel;have HE:=ae heq;have hll:=congrArg List.length heq;simp only[List.length_append] at hll
   have hyl:ys.length+1≤1000000000100:=by
    have:=lX q;have:aF m=iy q0:=HQ.out;rw[this] at hlen;have:=HX.out;omega
   clear heq hll;by_cases hq:128≤q
   · have hor:=yx q;have HV:=ae (mW hq);have hz:(0:Nat) < 1:=by omega
     go_wp2_with (at_builtin;refine bK _ rfl (.tmp 19) (.tmp 23) _ rfl base 5 i0 (.int .u8 0) 1 1 Tryz.underlying22 HI.out HZ0.out HZ1.out HZ2.out rfl hz _ o' ys.length (ys.map bv) rfl (hap.alloc _) ⟨wr.heap.size,0,none⟩ 1 1 [.int .u8 ((q:Int) % 128+128)] rfl hz rfl (fK _ _ _) (Am rfl) (by unfold maxLen;omega) (by omega) (by simp;omega) ?_;intro v' w1 hown1 hg1 jT)
     have hb:Value.int .u8 ((q:Int) % 128+128)=bv (UInt8.ofNat (q % 128+128)):=by
      unfold bv;rw[aK (by omega)];rfl
     rw[hb] at hown1;have hg2:=bM hg1;have lJ:=jT.alloc;clear hg1 jT hor hb;go_roundw
     case rel=>
      refine⟨v'.ownBlock,ys++ [UInt8.ofNat (q % 128+128)],q / 128,by go_num,?_,?_,af hgr hg2 hat,hat.trans lJ hgr.size,Nat.le_trans hbr hg2.size⟩
      · rw[List.length_append,List.map_append];exact App.own hown1
      · rw[List.append_assoc,←HE.out,HV.out];rfl
     case measure=>simp [intOf];omega
   · have hz:(0:Nat) < 1:=by omega
     have HV:=ae (mV (show q < 128 by omega));go_wp2_with (at_builtin;refine bK _ rfl (.tmp 27) (.tmp 30) _ rfl base 5 i0 (.int .u8 0) 1 1 Tryz.underlying22 HI.out HZ0.out HZ1.out HZ2.out rfl hz _ o' ys.length (ys.map bv) rfl (hap.alloc _) ⟨wr.heap.size,0,none⟩ 1 1 [.int .u8 (q:Int)] rfl hz rfl (fK _ _ _) (Am rfl) (by unfold maxLen;omega) (by omega) (by simp;omega) ?_;intro v' w1 hown1 hg1 jT)
     have hb:Value.int .u8 (q:Int)=bv (UInt8.ofNat q):=by
      unfold bv;rw[aK (by omega)]
     rw[hb] at hown1
     have HF:xs++aF m=ys++ [UInt8.ofNat q]:=by
      rw[show aF m=iy q0 from HQ.out,←HE.out,HV.out]
     have hfin:w1.ownsRow base 5 1 v' (xs++aF m).length ((xs++aF m).map bv):=by
      rw[HF,List.length_append,List.map_append];exact hown1
     have HF2:=ae hfin;clear hfin HF hb hown1;go_ret;exact⟨v',rfl,HF2.out,af hgr (bM hg1) hat,hat.trans jT.alloc hgr.size⟩
theorem Jn (c:Nat)(h:c < 4294967296):bits .and .u32 (c:Int) 1=((c % 2:Nat):Int):=by
 have:=u32_and_nat c 1 h (by omega);rw[nat_mask1] at this;exact this
theorem Vu (A:Option Addr)(n c:Nat)(xs:Bytes)(w:World)(B:Nat)(h:Lies w B 1 A n (xs.map bv))(hn:n≤1000000000000):
 Calls Tryz.prog 114 #[.slice A n c] w fun e w'=>e= .returned (.int .u32 (wS xs:Nat))∧w=w':=by
 have HL:=ae h.lenB;go_enter Tryz.func114,Tryz.ntmps114;go_wp2;go_loop [3,5,6,9,17] (fun s _ _ i _=>∃k:Nat,i= .int .i64 k∧k≤n∧s= .int .u32 (ed 4294967295 (xs.take k):Nat)) (fun _ _ _ i _=>n - (intOf i).toNat)
 case atStart=>exact ⟨0,rfl,by omega,rfl⟩
 case round=>
  obtain⟨k,rfl,hk,rfl⟩:=hrel;by_cases hlt:k < n
  · obtain⟨ad,x,rfl,hb1,hx,hc⟩:=h.byte hlt;have hS:=kL (xs.take k) (c:=4294967295) (by omega);have hbx:=jf x;have HT:=ae (show ed 4294967295 (xs.take (k+1))=fJ 8 (ed 4294967295 (xs.take k) ^^^ x.toNat) from by rw[mG hx,oJ];rfl);clear hx;generalize ed 4294967295 (xs.take k)=s at *
    have abX:=u32_xor_nat s x.toNat hS (by omega);have hD:=oH hS (show x.toNat < 4294967296 from by omega);go_wp2;go_loop [3,6,17] (fun s' _ j=>∃m:Nat,j= .int .i64 m∧m≤8∧s'= .int .u32 (fJ m (s ^^^ x.toNat):Nat)) (fun _ _ j=>8 - (intOf j).toNat)
    case atStart=>exact ⟨0,rfl,by omega,rfl⟩
    case round=>
     obtain⟨m,rfl,hm,rfl⟩:=hrel;have hM:=oI m hD;have HM:=ae (qm m (s ^^^ x.toNat));generalize hy0:fJ m (s ^^^ x.toNat)=y at *
     have HY0:=ae hy0;clear hy0;have hand:=Jn y hM;have hodd:bits .xor .u32 ((y:Int) / 2) 3988292384=((y / 2 ^^^ 3988292384:Nat):Int):=u32_xor_nat (y / 2) 3988292384 (by omega) (by omega);by_cases hm8:m < 8
     · rcases Nat.mod_two_eq_zero_or_one y with hy | hy
       · have hne:(((y:Int) % 2) !=0)=false:=by rw[bne_eq_false_iff_eq];omega
         have HY:=ae (show gZ y=y / 2 from by unfold gZ;rw[if_neg (by omega)]);clear hy;go_wp2;go_round
         case rel=>exact ⟨m+1,by go_num,by omega,by rw[HM.out,HY.out];go_num⟩
         case measure=>simp [intOf];omega
       · have hne:(((y:Int) % 2) !=0)=true:=by rw[bne_iff_ne];omega
         have HY:=ae (show gZ y=(y / 2) ^^^ 3988292384 from by unfold gZ;rw[if_pos hy]);clear hy;go_wp2;go_round
         case rel=>exact ⟨m+1,by go_num,by omega,by rw[HM.out,HY.out]⟩
         case measure=>simp [intOf];omega
     · have hm9:m=8:=by omega
       subst hm9;go_wp2;go_round
       case rel=>exact ⟨k+1,by go_num,by omega,by rw[HT.out,HY0.out]⟩
       case measure=>simp [intOf];omega
  · have hkn:k=n:=by omega
    subst hkn;have hS:=kL (xs.take k) (c:=4294967295) (by omega);have HT:=ae (show wS xs=4294967295 ^^^ ed 4294967295 (xs.take k) from by unfold wS;rw[List.take_of_length_le (by have:=HL.out;omega)]);generalize ed 4294967295 (xs.take k)=s at *
    have abX:bits .xor .u32 IntKind.u32.max (s:Int)=((4294967295 ^^^ s:Nat):Int):=u32_xor_nat 4294967295 s (by omega) hS;go_wp2;go_ret;exact⟨bg (by rw[HT.out]),rfl⟩
theorem Sz (A:Option Addr)(n c:Nat)(xs:Bytes)(w:World)(B:Nat)(h:Lies w B 1 A n (xs.map bv))(hn:n≤1000000000000):
 Calls Tryz.prog 48 #[.slice A n c] w fun e w'=>e= .returned (.int .u32 (wS xs:Nat))∧w=w':=by
 have HL:=ae h.lenB;go_enter Tryz.func48,Tryz.ntmps48;go_wp2;go_loop [3,4,5] (fun s i _=>∃k:Nat,i= .int .i64 k∧k≤n∧s= .int .u32 (ed 4294967295 (xs.take k):Nat)) (fun _ i _=>n - (intOf i).toNat)
 case atStart=>exact ⟨0,rfl,by omega,rfl⟩
 case round=>
  obtain⟨k,rfl,hk,rfl⟩:=hrel;by_cases hlt:k < n
  · obtain⟨ad,x,rfl,hb1,hx,hc⟩:=h.byte hlt;have hS:=kL (xs.take k) (c:=4294967295) (by omega);have hbx:=jf x;have HT:=ae (show ed 4294967295 (xs.take (k+1))=fJ 8 (ed 4294967295 (xs.take k) ^^^ x.toNat) from by rw[mG hx,oJ];rfl);clear hx;generalize ed 4294967295 (xs.take k)=s at *
    have abX:=u32_xor_nat s x.toNat hS (by omega);have hD:=oH hS (show x.toNat < 4294967296 from by omega);go_wp2;go_loop [3,5] (fun s' j=>∃m:Nat,j= .int .i64 m∧m≤8∧s'= .int .u32 (fJ m (s ^^^ x.toNat):Nat)) (fun _ j=>8 - (intOf j).toNat)
    case atStart=>exact ⟨0,rfl,by omega,rfl⟩
    case round=>
     obtain⟨m,rfl,hm,rfl⟩:=hrel;have hM:=oI m hD;have HM:=ae (qm m (s ^^^ x.toNat));generalize hy0:fJ m (s ^^^ x.toNat)=y at *
     have HY0:=ae hy0;clear hy0;have hand:=Jn y hM;have hodd:bits .xor .u32 ((y:Int) / 2) 3988292384=((y / 2 ^^^ 3988292384:Nat):Int):=u32_xor_nat (y / 2) 3988292384 (by omega) (by omega);by_cases hm8:m < 8
     · rcases Nat.mod_two_eq_zero_or_one y with hy | hy
       · have hne:(((y:Int) % 2)==1)=false:=by rw[beq_eq_false_iff_ne];omega
         have HY:=ae (show gZ y=y / 2 from by unfold gZ;rw[if_neg (by omega)]);clear hy;go_wp2;go_round
         case rel=>exact ⟨m+1,by go_num,by omega,by rw[HM.out,HY.out];go_num⟩
         case measure=>simp [intOf];omega
       · have hne:(((y:Int) % 2)==1)=true:=by rw[beq_iff_eq];omega
         have HY:=ae (show gZ y=(y / 2) ^^^ 3988292384 from by unfold gZ;rw[if_pos hy]);clear hy;go_wp2;go_round
         case rel=>exact ⟨m+1,by go_num,by omega,by rw[HM.out,HY.out]⟩
         case measure=>simp [intOf];omega
     · have hm9:m=8:=by omega
       subst hm9;go_wp2;go_round
       case rel=>exact ⟨k+1,by go_num,by omega,by rw[HT.out,HY0.out]⟩
       case measure=>simp [intOf];omega
  · have hkn:k=n:=by omega
    subst hkn;have hS:=kL (xs.take k) (c:=4294967295) (by omega);have HT:=ae (show wS xs=4294967295 ^^^ ed 4294967295 (xs.take k) from by unfold wS;rw[List.take_of_length_le (by have:=HL.out;omega)]);generalize ed 4294967295 (xs.take k)=s at *
    have abX:bits .xor .u32 (s:Int) 4294967295=((4294967295 ^^^ s:Nat):Int):=by rw[Nat.xor_comm];exact u32_xor_nat s 4294967295 hS (by omega)
    go_wp2;go_ret;exact⟨bg (by rw[HT.out]),rfl⟩
theorem eQ {P:Program}{ops:Array Oper}{rest:List Oper}{o:Oper}{a:Act}{w:World}{Q:Exit→Act→World→Prop}(hg:o.guard=none)(t e:TypeId)(ho:o.op= .buildSlice t 0 #[])
 (ie:TypeInfo) (hu:P.underlying t=some (.slice e)) (hie:P.info? e=some ie)
 (h:∀w',w'=w.alloc (.cells #[] e)→wpList P ops Q rest (a.put o.dst (.slice (some ⟨w.heap.size,0,none⟩) 0 0)) w'):wpList P ops Q (o :: rest) a w:=by
 refine wpList_plain hg fun K hK=>?_
 unfold Oper.wp execOp
 have hr:(Instr.buildSlice t 0 #[]).run P w= .ok (.slice (some ⟨w.heap.size,0,none⟩) 0 0) (w.alloc (.cells #[] e)):=by
  simp[Instr.buildSlice,run_underlying hu,sizeOf,typeInfo,hie,newRow,Instr.fill];simp[show Array.range 0=#[] from by decide]
 simp[ho,hr,Result.andThen];exact hK _ _ (h _ rfl)
theorem jI (w:World)(o:Obj):w.grownBy (w.alloc o) none:=bM (World.grownBy.refl _ none)
theorem F8:(Tryz.prog.info? 144).map (fun i=>(i.zero.map fun z=>z.cells.size,i.size,i.bytes))=some (some 5,5,48):=by kernel_rfl
theorem zN (w:World)(B:Nat)(A:Option Addr)(n c:Nat)(xs:List Value)(hl:Lies w B 5 A n xs)(hB:B≤w.heap.size)(ho:A=none→c=0)(h1:∀u∈xs,u.oneCell'=true)
 (hn:n≤maxLen) (hby:n * 48≤140737488355328):
 Calls Tryz.prog 55 #[.slice A n c] w fun e w'=>∃A' n' c',e= .returned (.slice A' n' c')∧n'=n∧w'.ownsRow w.heap.size 144 5 (.slice A' n' c') n xs∧w.grownBy w' none:=by
 cases A with
 |
  none=>
  obtain rfl:=ho rfl
  obtain rfl:n=0:=by
   rcases Nat.eq_zero_or_pos n with h0 | h0
   · exact h0
   · obtain⟨ad,h,_⟩:=hl.2 h0
     cases h
  obtain rfl:xs= []:=List.eq_nil_of_length_eq_zero (by simpa using hl.1);clear hl ho h1 hn hby
  have qn:=fun (w:World)=>Lib.run_eql_slice_nil (P:=Tryz.prog) w 25 144 none 0 0 0 0 Tryz.underlying25
  go_enter Tryz.func55,Tryz.ntmps55;go_wp2_with fail;go_ret;exact⟨none,0,0,rfl,rfl,World.ownsRow_nil _ _ _ _,World.grownBy.refl w none⟩
 |
  some ad=>
  obtain⟨i0,hi,hh⟩:∃i0,Tryz.prog.info? 144=some i0∧(i0.zero.map (fun z=>z.cells.size),i0.size,i0.bytes)=(some 5,5,48):=by
   have:=F8
   cases hx:Tryz.prog.info? 144 with
   | none=>rw [hx] at this;cases this
   | some i0=>rw [hx] at this;exact⟨i0,rfl,by simpa using this⟩
  injection hh with hz0 hh;injection hh with hz1 hz2
  obtain⟨z,hz,hzs⟩:∃z,i0.zero=some z∧z.cells.size=5:=by
   cases hx:i0.zero with
   | none=>rw [hx] at hz0;cases hz0
   | some z=>rw [hx] at hz0;exact⟨z,rfl,by simpa using hz0⟩
  have HI:=ae hi;have HZ0:=ae hz;have QJ:=ae hzs;have HZ1:=ae hz1;have HZ2:=ae hz2;have HL:=ae hl;have H1:=ae h1;have Yy:=ae ho;have h0:(0:Nat) < 5:=by omega
  clear hz0 hz1 hz2 hi hz hzs hl h1 ho;have qn:=fun (w:World)=>Lib.run_eql_slice_nil (P:=Tryz.prog) w 25 144 (some ad) n c 0 0 Tryz.underlying25
  go_enter Tryz.func55,Tryz.ntmps55
  go_wp2_with (first
   | (at_builtin;refine bP _ rfl (.tmp 5) (.tmp 6) _ rfl w.heap.size 144 i0 z 5 48 Tryz.underlying25 HI.out HZ0.out HZ1.out HZ2.out QJ.out h0 _ 0 [] rfl HE.out B (some ad) n c xs rfl HL2.out (fun e=>nomatch e) H1.out (by omega) (by omega) wO.out ?_;intro v2 w2 hown2 hg2 lJ)
   | (
    refine eQ rfl _ 144 rfl i0 Tryz.underlying25 HI.out ?_;intro w1 hw1;have HE:Hid (w1.ownsRow w.heap.size 144 5 (.slice (some ⟨w.heap.size,0,none⟩) 0 0) 0 []):=ae (by rw[hw1];exact World.ownsRow_made w #[] 0 (Nat.le_refl _) (Nat.zero_le _) (by simp));have nZ:Hid (w.grownBy w1 none):=ae (by rw[hw1];exact jI w _);have wO:Hid (w.heap.size≤w1.heap.size):=ae nZ.out.size;have HL2:Hid (Lies w1 B 5 (some ad) n xs):=ae (HL.out.grown nZ.out hB (fun g e=>nomatch e));clear hw1))
  go_ret;obtain⟨A',c',hv,_⟩:=aj hown2;exact⟨A',0+n,c',by rw[hv];rfl,by omega,by rw[←hv];simpa using hown2,af nZ.out hg2 (.inr ⟨_,rfl,Nat.le_refl _⟩)⟩
theorem F9:(Tryz.prog.info? 147).map (fun i=>(i.zero.map fun z=>z.cells.size,i.size,i.bytes))=some (some 2,2,24):=by kernel_rfl
theorem zO (w:World)(B:Nat)(A:Option Addr)(n c:Nat)(xs:List Value)(hl:Lies w B 2 A n xs)(hB:B≤w.heap.size)(ho:A=none→c=0)(h1:∀u∈xs,u.oneCell'=true)
 (hn:n≤maxLen) (hby:n * 24≤140737488355328):
 Calls Tryz.prog 56 #[.slice A n c] w fun e w'=>∃A' n' c',e= .returned (.slice A' n' c')∧n'=n∧w'.ownsRow w.heap.size 147 2 (.slice A' n' c') n xs∧w.grownBy w' none:=by
 cases A with
 |
  none=>
  obtain rfl:=ho rfl
  obtain rfl:n=0:=by
   rcases Nat.eq_zero_or_pos n with h0 | h0
   · exact h0
   · obtain⟨ad,h,_⟩:=hl.2 h0
     cases h
  obtain rfl:xs= []:=List.eq_nil_of_length_eq_zero (by simpa using hl.1);clear hl ho h1 hn hby
  have qn:=fun (w:World)=>Lib.run_eql_slice_nil (P:=Tryz.prog) w 26 147 none 0 0 0 0 Tryz.underlying26
  go_enter Tryz.func56,Tryz.ntmps56;go_wp2_with fail;go_ret;exact⟨none,0,0,rfl,rfl,World.ownsRow_nil _ _ _ _,World.grownBy.refl w none⟩
 |
  some ad=>
  obtain⟨i0,hi,hh⟩:∃i0,Tryz.prog.info? 147=some i0∧(i0.zero.map (fun z=>z.cells.size),i0.size,i0.bytes)=(some 2,2,24):=by
   have:=F9
   cases hx:Tryz.prog.info? 147 with
   | none=>rw [hx] at this;cases this
   | some i0=>rw [hx] at this;exact⟨i0,rfl,by simpa using this⟩
  injection hh with hz0 hh;injection hh with hz1 hz2
  obtain⟨z,hz,hzs⟩:∃z,i0.zero=some z∧z.cells.size=2:=by
   cases hx:i0.zero with
   | none=>rw [hx] at hz0;cases hz0
   | some z=>rw [hx] at hz0;exact⟨z,rfl,by simpa using hz0⟩
  have HI:=ae hi;have HZ0:=ae hz;have QJ:=ae hzs;have HZ1:=ae hz1;have HZ2:=ae hz2;have HL:=ae hl;have H1:=ae h1;have Yy:=ae ho;have h0:(0:Nat) < 2:=by omega
  clear hz0 hz1 hz2 hi hz hzs hl h1 ho;have qn:=fun (w:World)=>Lib.run_eql_slice_nil (P:=Tryz.prog) w 26 147 (some ad) n c 0 0 Tryz.underlying26
  go_enter Tryz.func56,Tryz.ntmps56
  go_wp2_with (first
   | (at_builtin;refine bP _ rfl (.tmp 5) (.tmp 6) _ rfl w.heap.size 147 i0 z 2 24 Tryz.underlying26 HI.out HZ0.out HZ1.out HZ2.out QJ.out h0 _ 0 [] rfl HE.out B (some ad) n c xs rfl HL2.out (fun e=>nomatch e) H1.out (by omega) (by omega) wO.out ?_;intro v2 w2 hown2 hg2 lJ)
   | (
    refine eQ rfl _ 147 rfl i0 Tryz.underlying26 HI.out ?_;intro w1 hw1;have HE:Hid (w1.ownsRow w.heap.size 147 2 (.slice (some ⟨w.heap.size,0,none⟩) 0 0) 0 []):=ae (by rw[hw1];exact World.ownsRow_made w #[] 0 (Nat.le_refl _) (Nat.zero_le _) (by simp));have nZ:Hid (w.grownBy w1 none):=ae (by rw[hw1];exact jI w _);have wO:Hid (w.heap.size≤w1.heap.size):=ae nZ.out.size;have HL2:Hid (Lies w1 B 2 (some ad) n xs):=ae (HL.out.grown nZ.out hB (fun g e=>nomatch e));clear hw1))
  go_ret;obtain⟨A',c',hv,_⟩:=aj hown2;exact⟨A',0+n,c',by rw[hv];rfl,by omega,by rw[←hv];simpa using hown2,af nZ.out hg2 (.inr ⟨_,rfl,Nat.le_refl _⟩)⟩
theorem Gf:(Tryz.prog.info? 150).map (fun i=>(i.zero.map fun z=>z.cells.size,i.size,i.bytes))=some (some 2,2,24):=by kernel_rfl
theorem zQ (w:World)(B:Nat)(A:Option Addr)(n c:Nat)(xs:List Value)(hl:Lies w B 2 A n xs)(hB:B≤w.heap.size)(ho:A=none→c=0)(h1:∀u∈xs,u.oneCell'=true)
 (hn:n≤maxLen) (hby:n * 24≤140737488355328):
 Calls Tryz.prog 57 #[.slice A n c] w fun e w'=>∃A' n' c',e= .returned (.slice A' n' c')∧n'=n∧w'.ownsRow w.heap.size 150 2 (.slice A' n' c') n xs∧w.grownBy w' none:=by
 cases A with
 |
  none=>
  obtain rfl:=ho rfl
  obtain rfl:n=0:=by
   rcases Nat.eq_zero_or_pos n with h0 | h0
   · exact h0
   · obtain⟨ad,h,_⟩:=hl.2 h0
     cases h
  obtain rfl:xs= []:=List.eq_nil_of_length_eq_zero (by simpa using hl.1);clear hl ho h1 hn hby
  have qn:=fun (w:World)=>Lib.run_eql_slice_nil (P:=Tryz.prog) w 27 150 none 0 0 0 0 Tryz.underlying27
  go_enter Tryz.func57,Tryz.ntmps57;go_wp2_with fail;go_ret;exact⟨none,0,0,rfl,rfl,World.ownsRow_nil _ _ _ _,World.grownBy.refl w none⟩
 |
  some ad=>
  obtain⟨i0,hi,hh⟩:∃i0,Tryz.prog.info? 150=some i0∧(i0.zero.map (fun z=>z.cells.size),i0.size,i0.bytes)=(some 2,2,24):=by
   have:=Gf
   cases hx:Tryz.prog.info? 150 with
   | none=>rw [hx] at this;cases this
   | some i0=>rw [hx] at this;exact⟨i0,rfl,by simpa using this⟩
  injection hh with hz0 hh;injection hh with hz1 hz2
  obtain⟨z,hz,hzs⟩:∃z,i0.zero=some z∧z.cells.size=2:=by
   cases hx:i0.zero with
   | none=>rw [hx] at hz0;cases hz0
   | some z=>rw [hx] at hz0;exact⟨z,rfl,by simpa using hz0⟩
  have HI:=ae hi;have HZ0:=ae hz;have QJ:=ae hzs;have HZ1:=ae hz1;have HZ2:=ae hz2;have HL:=ae hl;have H1:=ae h1;have Yy:=ae ho;have h0:(0:Nat) < 2:=by omega
  clear hz0 hz1 hz2 hi hz hzs hl h1 ho;have qn:=fun (w:World)=>Lib.run_eql_slice_nil (P:=Tryz.prog) w 27 150 (some ad) n c 0 0 Tryz.underlying27
  go_enter Tryz.func57,Tryz.ntmps57
  go_wp2_with (first
   | (at_builtin;refine bP _ rfl (.tmp 5) (.tmp 6) _ rfl w.heap.size 150 i0 z 2 24 Tryz.underlying27 HI.out HZ0.out HZ1.out HZ2.out QJ.out h0 _ 0 [] rfl HE.out B (some ad) n c xs rfl HL2.out (fun e=>nomatch e) H1.out (by omega) (by omega) wO.out ?_;intro v2 w2 hown2 hg2 lJ)
   | (
    refine eQ rfl _ 150 rfl i0 Tryz.underlying27 HI.out ?_;intro w1 hw1;have HE:Hid (w1.ownsRow w.heap.size 150 2 (.slice (some ⟨w.heap.size,0,none⟩) 0 0) 0 []):=ae (by rw[hw1];exact World.ownsRow_made w #[] 0 (Nat.le_refl _) (Nat.zero_le _) (by simp));have nZ:Hid (w.grownBy w1 none):=ae (by rw[hw1];exact jI w _);have wO:Hid (w.heap.size≤w1.heap.size):=ae nZ.out.size;have HL2:Hid (Lies w1 B 2 (some ad) n xs):=ae (HL.out.grown nZ.out hB (fun g e=>nomatch e));clear hw1))
  go_ret;obtain⟨A',c',hv,_⟩:=aj hown2;exact⟨A',0+n,c',by rw[hv];rfl,by omega,by rw[←hv];simpa using hown2,af nZ.out hg2 (.inr ⟨_,rfl,Nat.le_refl _⟩)⟩
theorem JJ:(Tryz.prog.info? 9).map (fun i=>(i.zero.map fun z=>z.cells.size,i.size,i.bytes))=some (some 1,1,16):=by kernel_rfl
theorem Dl (w:World)(B:Nat)(A:Option Addr)(n c:Nat)(xs:List Value)(hl:Lies w B 1 A n xs)(hB:B≤w.heap.size)(ho:A=none→c=0)(h1:∀u∈xs,u.oneCell'=true)
 (hn:n≤maxLen) (hby:n * 16≤140737488355328):
 Calls Tryz.prog 58 #[.slice A n c] w fun e w'=>∃A' n' c',e= .returned (.slice A' n' c')∧n'=n∧w'.ownsRow w.heap.size 9 1 (.slice A' n' c') n xs∧w.grownBy w' none:=by
 cases A with
 |
  none=>
  obtain rfl:=ho rfl
  obtain rfl:n=0:=by
   rcases Nat.eq_zero_or_pos n with h0 | h0
   · exact h0
   · obtain⟨ad,h,_⟩:=hl.2 h0
     cases h
  obtain rfl:xs= []:=List.eq_nil_of_length_eq_zero (by simpa using hl.1);clear hl ho h1 hn hby
  have qn:=fun (w:World)=>Lib.run_eql_slice_nil (P:=Tryz.prog) w 28 9 none 0 0 0 0 Tryz.underlying28
  go_enter Tryz.func58,Tryz.ntmps58;go_wp2_with fail;go_ret;exact⟨none,0,0,rfl,rfl,World.ownsRow_nil _ _ _ _,World.grownBy.refl w none⟩
 |
  some ad=>
  obtain⟨i0,hi,hh⟩:∃i0,Tryz.prog.info? 9=some i0∧(i0.zero.map (fun z=>z.cells.size),i0.size,i0.bytes)=(some 1,1,16):=by
   have:=JJ
   cases hx:Tryz.prog.info? 9 with
   | none=>rw [hx] at this;cases this
   | some i0=>rw [hx] at this;exact⟨i0,rfl,by simpa using this⟩
  injection hh with hz0 hh;injection hh with hz1 hz2
  obtain⟨z,hz,hzs⟩:∃z,i0.zero=some z∧z.cells.size=1:=by
   cases hx:i0.zero with
   | none=>rw [hx] at hz0;cases hz0
   | some z=>rw [hx] at hz0;exact⟨z,rfl,by simpa using hz0⟩
  have HI:=ae hi;have HZ0:=ae hz;have QJ:=ae hzs;have HZ1:=ae hz1;have HZ2:=ae hz2;have HL:=ae hl;have H1:=ae h1;have Yy:=ae ho;have h0:(0:Nat) < 1:=by omega
  clear hz0 hz1 hz2 hi hz hzs hl h1 ho;have qn:=fun (w:World)=>Lib.run_eql_slice_nil (P:=Tryz.prog) w 28 9 (some ad) n c 0 0 Tryz.underlying28
  go_enter Tryz.func58,Tryz.ntmps58
  go_wp2_with (first
   | (at_builtin;refine bP _ rfl (.tmp 5) (.tmp 6) _ rfl w.heap.size 9 i0 z 1 16 Tryz.underlying28 HI.out HZ0.out HZ1.out HZ2.out QJ.out h0 _ 0 [] rfl HE.out B (some ad) n c xs rfl HL2.out (fun e=>nomatch e) H1.out (by omega) (by omega) wO.out ?_;intro v2 w2 hown2 hg2 lJ)
   | (
    refine eQ rfl _ 9 rfl i0 Tryz.underlying28 HI.out ?_;intro w1 hw1;have HE:Hid (w1.ownsRow w.heap.size 9 1 (.slice (some ⟨w.heap.size,0,none⟩) 0 0) 0 []):=ae (by rw[hw1];exact World.ownsRow_made w #[] 0 (Nat.le_refl _) (Nat.zero_le _) (by simp));have nZ:Hid (w.grownBy w1 none):=ae (by rw[hw1];exact jI w _);have wO:Hid (w.heap.size≤w1.heap.size):=ae nZ.out.size;have HL2:Hid (Lies w1 B 1 (some ad) n xs):=ae (HL.out.grown nZ.out hB (fun g e=>nomatch e));clear hw1))
  go_ret;obtain⟨A',c',hv,_⟩:=aj hown2;exact⟨A',0+n,c',by rw[hv];rfl,by omega,by rw[←hv];simpa using hown2,af nZ.out hg2 (.inr ⟨_,rfl,Nat.le_refl _⟩)⟩
theorem Gg:(Tryz.prog.info? 154).map (fun i=>(i.zero.map fun z=>z.cells.size,i.size,i.bytes))=some (some 3,3,24):=by kernel_rfl
theorem zS (w:World)(B:Nat)(A:Option Addr)(n c:Nat)(xs:List Value)(hl:Lies w B 3 A n xs)(hB:B≤w.heap.size)(ho:A=none→c=0)(h1:∀u∈xs,u.oneCell'=true)
 (hn:n≤maxLen) (hby:n * 24≤140737488355328):
 Calls Tryz.prog 59 #[.slice A n c] w fun e w'=>∃A' n' c',e= .returned (.slice A' n' c')∧n'=n∧w'.ownsRow w.heap.size 154 3 (.slice A' n' c') n xs∧w.grownBy w' none:=by
 cases A with
 |
  none=>
  obtain rfl:=ho rfl
  obtain rfl:n=0:=by
   rcases Nat.eq_zero_or_pos n with h0 | h0
   · exact h0
   · obtain⟨ad,h,_⟩:=hl.2 h0
     cases h
  obtain rfl:xs= []:=List.eq_nil_of_length_eq_zero (by simpa using hl.1);clear hl ho h1 hn hby
  have qn:=fun (w:World)=>Lib.run_eql_slice_nil (P:=Tryz.prog) w 29 154 none 0 0 0 0 Tryz.underlying29
  go_enter Tryz.func59,Tryz.ntmps59;go_wp2_with fail;go_ret;exact⟨none,0,0,rfl,rfl,World.ownsRow_nil _ _ _ _,World.grownBy.refl w none⟩
 |
  some ad=>
  obtain⟨i0,hi,hh⟩:∃i0,Tryz.prog.info? 154=some i0∧(i0.zero.map (fun z=>z.cells.size),i0.size,i0.bytes)=(some 3,3,24):=by
   have:=Gg
   cases hx:Tryz.prog.info? 154 with
   | none=>rw [hx] at this;cases this
   | some i0=>rw [hx] at this;exact⟨i0,rfl,by simpa using this⟩
  injection hh with hz0 hh;injection hh with hz1 hz2
  obtain⟨z,hz,hzs⟩:∃z,i0.zero=some z∧z.cells.size=3:=by
   cases hx:i0.zero with
   | none=>rw [hx] at hz0;cases hz0
   | some z=>rw [hx] at hz0;exact⟨z,rfl,by simpa using hz0⟩
  have HI:=ae hi;have HZ0:=ae hz;have QJ:=ae hzs;have HZ1:=ae hz1;have HZ2:=ae hz2;have HL:=ae hl;have H1:=ae h1;have Yy:=ae ho;have h0:(0:Nat) < 3:=by omega
  clear hz0 hz1 hz2 hi hz hzs hl h1 ho;have qn:=fun (w:World)=>Lib.run_eql_slice_nil (P:=Tryz.prog) w 29 154 (some ad) n c 0 0 Tryz.underlying29
  go_enter Tryz.func59,Tryz.ntmps59
  go_wp2_with (first
   | (at_builtin;refine bP _ rfl (.tmp 5) (.tmp 6) _ rfl w.heap.size 154 i0 z 3 24 Tryz.underlying29 HI.out HZ0.out HZ1.out HZ2.out QJ.out h0 _ 0 [] rfl HE.out B (some ad) n c xs rfl HL2.out (fun e=>nomatch e) H1.out (by omega) (by omega) wO.out ?_;intro v2 w2 hown2 hg2 lJ)
   | (
    refine eQ rfl _ 154 rfl i0 Tryz.underlying29 HI.out ?_;intro w1 hw1;have HE:Hid (w1.ownsRow w.heap.size 154 3 (.slice (some ⟨w.heap.size,0,none⟩) 0 0) 0 []):=ae (by rw[hw1];exact World.ownsRow_made w #[] 0 (Nat.le_refl _) (Nat.zero_le _) (by simp));have nZ:Hid (w.grownBy w1 none):=ae (by rw[hw1];exact jI w _);have wO:Hid (w.heap.size≤w1.heap.size):=ae nZ.out.size;have HL2:Hid (Lies w1 B 3 (some ad) n xs):=ae (HL.out.grown nZ.out hB (fun g e=>nomatch e));clear hw1))
  go_ret;obtain⟨A',c',hv,_⟩:=aj hown2;exact⟨A',0+n,c',by rw[hv];rfl,by omega,by rw[←hv];simpa using hown2,af nZ.out hg2 (.inr ⟨_,rfl,Nat.le_refl _⟩)⟩
