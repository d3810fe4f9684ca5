/- Words. -/
import Derived.Test.YtfbkkgfkhhibfaaGreatCln
import Derived.Deep.DeepCutAuto
import Derived.IntWalk
import Derived.Deep.RegionLaw
import Derived.Deep.RegionHeld3
set_option linter.unusedVariables false
set_option maxRecDepth 100000
set_option maxHeartbeats 8000000
namespace Iv
theorem BB {b:Bytes}{i k:Nat}(h1:1≤k)(h2:k≤far i+1)(hi:i≤b.length)(h:far i < k∨min 130 (b.length - i)≤(jk b i (k - 1)).1):bu b i=jk b i (k - 1):=by
 unfold bu;rcases h with h | h
 · rw[show far i=k - 1 from by omega]
 · exact JX b i (k - 1) (far i) (by omega) hi h
theorem NH {b:Bytes}{i k m:Nat}(h1:1≤k)(hm:lL b i k 130=m):jk b i k=if (jk b i (k - 1)).1 < m then (m,k) else jk b i (k - 1):=by
 obtain⟨j,rfl⟩:∃j,k=j+1:=⟨k - 1,by omega⟩;simp only[jk,Nat.add_sub_cancel,hm]
theorem tX {i k:Nat} :k≤far i ↔ k≤255∧k≤i:=by unfold far;omega
end Iv
namespace Go.Proofs.YtfbkkgfkhhibfaaGreat
open Go Go.RowKit Iv
theorem Kv (A:Option Addr)(n c B:Nat)(xs:Bytes)(i:Nat)(w:World)(kQ:Lies w B 1 A n (xs.map bv))(hi:i≤n)(hn:n≤1000000000000):
 Calls Tryz.prog 113 #[.slice A n c,.int .i64 (i:Int)] w fun e w'=>e= .returned (.tuple #[.int .i64 ((bu xs i).1:Int),.int .i64 ((bu xs i).2:Int)])∧∃q,w'=w.drewN q:=by
 have HL:=ae kQ.lenB;obtain⟨L,hL⟩:∃L,L=min 130 (n - i):=⟨_,rfl⟩;have hL1:L≤130:=by omega
 have hL2:i+L≤n:=by omega
 have hL3:L=130∨i+L=n:=by omega
 have FO:=ae hL;clear hL;go_enter Tryz.func113,Tryz.ntmps113;go_wp2_with fail
 all_goals
  go_loopw [7,8,9] (fun s ds d wr=>∃(k q S D:Nat),d= .int .i64 (k:Int)∧1≤k∧k≤far i+1∧jk xs i (k - 1)=(S,D)∧s= .int .i64 (S:Int)∧ds= .int .i64 (D:Int)∧wr=w.drewN q) (fun _ _ d _=>300 - (intOf d).toNat)
  case atStart=>exact ⟨1,0,0,0,rfl,by omega,by omega,rfl,rfl,rfl,rfl⟩
  case round=>
   obtain⟨k,q,S,D,rfl,hk1,hk2,hb,rfl,rfl,rfl⟩:=hrel
   have hS:S≤L:=by
    have h1:=Dv xs i (k - 1);have h2:=Gy xs i (k - 1) (by rw[HL.out];exact hi);rw[hb] at h1 h2;have h3:=FO.out;have h4:=HL.out;simp only at h1 h2;omega
   have HB:=ae hb;clear hb;by_cases hc:(k≤255∧k≤i)∧S < L
   · obtain⟨⟨hc1,hc2⟩,hc3⟩:=hc;obtain⟨q0,hq0⟩:∃q0,q0=q:=⟨_,rfl⟩;have hb0:i+L≤xs.length:=by rw[HL.out];exact hL2
     go_wp2_with fail;go_loopw [10] (fun nv wr=>∃(m q2:Nat),nv= .int .i64 (m:Int)∧m≤L∧wr=w.drewN q2∧(∀j,j < m→xs[i+j]?=xs[i+j - k]?)) (fun nv _=>300 - (intOf nv).toNat)
     case atStart=>exact ⟨0,q,rfl,Nat.zero_le _,rfl,fun j hj=>by omega⟩
     case round=>
      clear hq0 q0;obtain⟨m,q2,rfl,hm,rfl,heq⟩:=hrel;have HE:=ae heq;clear heq;have HN:=ae (show Stops xs i k 130 m→jk xs i k=if S < m then (m,k) else (S,D) from fun hst=>by have:=NH hk1 (xX hst);rw[HB.out] at this;exact this);by_cases hmL:m < L
      · obtain⟨ad,x,hA,hb1,hx,hcx⟩:=kQ.byte (show i+m < n by omega);obtain⟨ad',y,hA',hb2,hy,hcy⟩:=kQ.byte (show i+m - k < n by omega);subst hA;obtain rfl:ad=ad':=by injection hA'
        have HX:=ae hx;have HY:=ae hy;clear hx hy hA';have e1:IntKind.i64.wrap ((i:Int)+(m:Int))=(i:Int)+(m:Int):=IntWalk.i64_in _ (by omega);have e2:IntKind.i64.wrap ((i:Int)+(m:Int) - (k:Int))=(i:Int)+(m:Int) - (k:Int):=IntWalk.i64_in _ (by omega);have e3:((i:Int)+(m:Int)).toNat=i+m:=by omega
        have e4:((i:Int)+(m:Int) - (k:Int)).toNat=i+m - k:=by omega
        have p1:(0:Int)≤(i:Int)+(m:Int):=by omega
        have p2:(0:Int)≤(i:Int)+(m:Int) - (k:Int):=by omega
        have p3:(i:Int)+(m:Int) < (n:Int):=by omega
        have p4:(i:Int)+(m:Int) - (k:Int) < (n:Int):=by omega
        have p5:(m:Int) < (n:Int) - (i:Int):=by omega
        have p6:(m:Int) < 130:=by omega
        by_cases hxy:x=y
        · have hne:((x.toNat:Int)==(y.toNat:Int))=true:=by simp[hxy]
          have Wu:=ae hxy;clear hxy;go_wp2_with fail;go_quiet (fail);clear e1 e2 e3 e4;go_wp2_with fail;go_roundw
          case rel=>exact ⟨m+1,q2+nq,by go_num,by omega,by simp,fun j hj=>by
           by_cases hjm:j=m
           · rw[hjm,HX.out,HY.out,Wu.out]
           · exact HE.out j (by omega)⟩
          case measure=>simp [intOf];omega
        · have hne:((x.toNat:Int)==(y.toNat:Int))=false:=by
           rw[beq_eq_false_iff_ne];intro e;exact hxy (Nz (by omega))
          have Wu:=ae hxy;clear hxy;have HST:=ae (HN.out ⟨by omega,fun j hj=>⟨by have:=hb0;omega,HE.out j hj⟩,.inr (fun hh=>Wu.out (by have h1:=hh.2;rw[HX.out,HY.out] at h1;injection h1))⟩);clear HN;go_wp2_with fail;go_quiet (fail);clear e1 e2 e3 e4;go_wp2_with fail
          all_goals
           go_roundw
           case rel=>exact ⟨k+1,q2+nq,_,_,by go_num,by omega,by have:=tX (i:=i) (k:=k);omega,by rw[Nat.add_sub_cancel,HST.out];first | exact if_pos (by omega) | exact if_neg (by omega),rfl,rfl,by simp⟩
           case measure=>simp [intOf];omega
      · have HST:=ae (HN.out ⟨by omega,fun j hj=>⟨by have:=hb0;omega,HE.out j hj⟩,by
         rcases (show m=130∨i+m=n by omega) with h1 | h1
         · exact .inl h1
         · exact .inr (fun hh=>by have:=HL.out;omega)⟩)
        clear HN;first | (have hd:decide ((m:Int) < 130)=false:=by rw[decide_eq_false_iff_not];omega) | (have hd:decide ((m:Int) < (n:Int) - (i:Int))=false:=by rw[decide_eq_false_iff_not];omega)
        go_wp2_with fail;go_quiet (fail);clear hd;go_wp2_with fail
        all_goals
         go_roundw
         case rel=>exact ⟨k+1,q2+nq,_,_,by go_num,by omega,by have:=tX (i:=i) (k:=k);omega,by rw[Nat.add_sub_cancel,HST.out];first | exact if_pos (by omega) | exact if_neg (by omega),rfl,rfl,by simp⟩
         case measure=>simp [intOf];omega
   · have HF:Hid (bu xs i=(S,D)):=by
      refine ae ?_;rw[←HB.out];refine BB hk1 hk2 (by rw[HL.out];exact hi) ?_;rw[HB.out,HL.out];unfold far at hk2⊢;have:=FO.out;simp only;omega
     go_wp2_with fail;all_goals (go_ret2;exact⟨by rw[HF.out];rfl,q,rfl⟩)
def qp (xs:Bytes)(i:Nat):Nat×Nat:=if (bu xs i).1 < 3 then (0,0) else bu xs i
theorem Kw (A:Option Addr)(n c B:Nat)(xs:Bytes)(i:Nat)(w:World)(kQ:Lies w B 1 A n (xs.map bv))(hi:i≤n)(hn:n≤1000000000000):
 Calls Tryz.prog 90 #[.slice A n c,.int .i64 (i:Int)] w fun e w'=>e= .returned (.tuple #[.int .i64 ((qp xs i).1:Int),.int .i64 ((qp xs i).2:Int)])∧∃q,w'=w.drewN q:=by
 have HL:=ae kQ.lenB;go_enter Tryz.func90,Tryz.ntmps90;go_wp2_with fail;go_loopw [6,7,8] (fun s ds d wr=>∃(k q S D:Nat),d= .int .i64 (k:Int)∧1≤k∧k≤far i+1∧jk xs i (k - 1)=(S,D)∧s= .int .i64 (S:Int)∧ds= .int .i64 (D:Int)∧wr=w.drewN q) (fun _ _ d _=>300 - (intOf d).toNat)
 case atStart=>exact ⟨1,0,0,0,rfl,by omega,by omega,rfl,rfl,rfl,rfl⟩
 case round=>
  obtain⟨k,q,S,D,rfl,hk1,hk2,hb,rfl,rfl,rfl⟩:=hrel
  have hS:S≤130:=by
   have h1:=Dv xs i (k - 1);rw[hb] at h1;simpa using h1
  have HB:=ae hb;clear hb;by_cases hc:k≤255∧k≤i
  · obtain⟨hc1,hc2⟩:=hc;have hb0:n≤xs.length:=by rw[HL.out];exact Nat.le_refl _
    go_wp2_with fail;go_loopw [9] (fun nv wr=>∃(m q2:Nat),nv= .int .i64 (m:Int)∧m≤130∧i+m≤n∧wr=w.drewN q2∧(∀j,j < m→xs[i+j]?=xs[i+j - k]?)) (fun nv _=>300 - (intOf nv).toNat)
    case atStart=>exact ⟨0,q,rfl,Nat.zero_le _,hi,rfl,fun j hj=>by omega⟩
    case round=>
     obtain⟨m,q2,rfl,hm,hmn,rfl,heq⟩:=hrel;have HE:=ae heq;clear heq;have HN:=ae (show Stops xs i k 130 m→jk xs i k=if S < m then (m,k) else (S,D) from fun hst=>by have:=NH hk1 (xX hst);rw[HB.out] at this;exact this);have e1:IntKind.i64.wrap ((i:Int)+(m:Int))=(i:Int)+(m:Int):=IntWalk.i64_in _ (by omega);by_cases hmL:m < 130
     · by_cases an9:i+m < n
       · obtain⟨ad,x,hA,hb1,hx,hcx⟩:=kQ.byte (show i+m < n by omega);obtain⟨ad',y,hA',hb2,hy,hcy⟩:=kQ.byte (show i+m - k < n by omega);subst hA;obtain rfl:ad=ad':=by injection hA'
         have HX:=ae hx;have HY:=ae hy;clear hx hy hA';have e2:IntKind.i64.wrap ((i:Int)+(m:Int) - (k:Int))=(i:Int)+(m:Int) - (k:Int):=IntWalk.i64_in _ (by omega);have e3:((i:Int)+(m:Int)).toNat=i+m:=by omega
         have e4:((i:Int)+(m:Int) - (k:Int)).toNat=i+m - k:=by omega
         have p1:(0:Int)≤(i:Int)+(m:Int):=by omega
         have p2:(0:Int)≤(i:Int)+(m:Int) - (k:Int):=by omega
         have p3:(i:Int)+(m:Int) < (n:Int):=by omega
         have p4:(i:Int)+(m:Int) - (k:Int) < (n:Int):=by omega
         have p6:(m:Int) < 130:=by omega
         by_cases hxy:x=y
         · have hne:((x.toNat:Int)==(y.toNat:Int))=true:=by simp[hxy]
           have Wu:=ae hxy;clear hxy;go_wp2_with fail;go_quiet (fail);clear e1 e2 e3 e4;go_wp2_with fail;go_roundw
           case rel=>exact ⟨m+1,q2+nq,by go_num,by omega,by omega,by simp,fun j hj=>by
            by_cases hjm:j=m
            · rw[hjm,HX.out,HY.out,Wu.out]
            · exact HE.out j (by omega)⟩
           case measure=>simp [intOf];omega
         · have hne:((x.toNat:Int)==(y.toNat:Int))=false:=by
            rw[beq_eq_false_iff_ne];intro e;exact hxy (Nz (by omega))
           have Wu:=ae hxy;clear hxy;have HST:=ae (HN.out ⟨by omega,fun j hj=>⟨by have:=hb0;omega,HE.out j hj⟩,.inr (fun hh=>Wu.out (by have h1:=hh.2;rw[HX.out,HY.out] at h1;injection h1))⟩);clear HN;go_wp2_with fail;go_quiet (fail);clear e1 e2 e3 e4;go_wp2_with fail
           all_goals
            go_roundw
            case rel=>exact ⟨k+1,q2+nq,_,_,by go_num,by omega,by have:=tX (i:=i) (k:=k);omega,by rw[Nat.add_sub_cancel,HST.out];first | exact if_pos (by omega) | exact if_neg (by omega),rfl,rfl,by simp⟩
            case measure=>simp [intOf];omega
       · have HST:=ae (HN.out ⟨by omega,fun j hj=>⟨by have:=hb0;omega,HE.out j hj⟩,.inr (fun hh=>by have:=HL.out;omega)⟩);clear HN;have p6:(m:Int) < 130:=by omega
         have p7:decide ((i:Int)+(m:Int) < (n:Int))=false:=by rw[decide_eq_false_iff_not];omega
         go_wp2_with fail;go_quiet (fail);clear e1 p7;go_wp2_with fail
         all_goals
          go_roundw
          case rel=>exact ⟨k+1,q2+nq,_,_,by go_num,by omega,by have:=tX (i:=i) (k:=k);omega,by rw[Nat.add_sub_cancel,HST.out];first | exact if_pos (by omega) | exact if_neg (by omega),rfl,rfl,by simp⟩
          case measure=>simp [intOf];omega
     · have HST:=ae (HN.out ⟨by omega,fun j hj=>⟨by have:=hb0;omega,HE.out j hj⟩,.inl (by omega)⟩);clear HN;have p6:decide ((m:Int) < 130)=false:=by rw[decide_eq_false_iff_not];omega
       go_wp2_with fail;go_quiet (fail);clear e1 p6;go_wp2_with fail
       all_goals
        go_roundw
        case rel=>exact ⟨k+1,q2+nq,_,_,by go_num,by omega,by have:=tX (i:=i) (k:=k);omega,by rw[Nat.add_sub_cancel,HST.out];first | exact if_pos (by omega) | exact if_neg (by omega),rfl,rfl,by simp⟩
        case measure=>simp [intOf];omega
  · have HF:Hid (bu xs i=(S,D)):=by
     refine ae ?_;rw[←HB.out];refine BB hk1 hk2 (by rw[HL.out];exact hi) (.inl ?_);have:=tX (i:=i) (k:=k);omega
    by_cases h3:S < 3
    · have HR:Hid (qp xs i=(0,0)):=by
       refine ae ?_;unfold qp;rw[HF.out];exact if_pos h3
      go_wp2_with fail;all_goals (go_ret2;exact⟨by rw[HR.out];rfl,q,rfl⟩)
    · have HR:Hid (qp xs i=(S,D)):=by
       refine ae ?_;unfold qp;rw[HF.out];exact if_neg h3
      go_wp2_with fail;all_goals (go_ret2;exact⟨by rw[HR.out];rfl,q,rfl⟩)
theorem Ut (w:World)(N:Nat)(hN:w.heap.size=N)(t:TypeId)(cs:Array Value):Held (w.alloc (.cells cs t)) N t cs:=hN▸Held.new w t cs
abbrev PkI (w:World)(gb go gf base:Nat)(A:Option Addr)(n c f:Nat)(ys:Bytes)(v:Value)(wr:World):Prop:=
 PkInv 22 3 5 w gb go gf base A n c f ys v wr
theorem uo (w:World)(gb go gf base B:Nat)(A:Option Addr)(n c f e:Nat)(xs ys:Bytes)(v:Value)(wr:World)(hI:PkI w gb go gf base A n c f ys v wr)
 (kQ:Lies w B 1 A n (xs.map bv)) (hB:B≤w.heap.size) (hnc:n≤c) (hn:n≤1000000000) (hf:f≤e) (he:e≤n) (h128:e - f≤128) (hy:ys.length≤100000000000) (hbase:base≤wr.heap.size):
 Calls Tryz.prog 112 #[.int .i64 (e:Int),.pointer (some ⟨gf,0,none⟩),.pointer (some ⟨go,0,none⟩),.pointer (some ⟨gb,0,none⟩)] wr fun en w'=>en= .returned (.tuple #[])∧∃v',PkI w gb go gf base A n c e (ys++lit xs f e) v' w':=by
 have HL:=ae kQ.lenB;obtain⟨cb,co,cf,fo,ff⟩:=hI.cells;by_cases hfe:f < e
 · obtain⟨i0,hi,hz0,hz1,hz2⟩:=info_parts jF;have HI:=ae hi;have HZ0:=ae hz0;have HZ1:=ae hz1;have HZ2:=ae hz2;clear hi hz0 hz1 hz2;have hz:(0:Nat) < 1:=by omega
   obtain⟨ad,hA,_,_⟩:=kQ.2 (by omega);subst hA;obtain⟨A0,c0,hv0,_⟩:=aj hI.own;subst hv0;have Uu:=ae hI;clear hI
   have hbv:Value.int .u8 ((e:Int) - (f:Int) - 1)=bv (UInt8.ofNat (e - f - 1)):=by
    unfold bv;rw[aK (by omega)];congr 1;omega
   have HBV:=ae hbv;clear hbv;go_enter Tryz.func112,Tryz.ntmps112;go_wp2_with (at_builtin;refine bK _ rfl (.tmp 8) (.tmp 14) _ rfl base 5 i0 (.int .u8 0) 1 1 Tryz.underlying22 HI.out HZ0.out HZ1.out HZ2.out rfl hz _ (Value.slice A0 ys.length c0).ownBlock ys.length (ys.map bv) rfl (App.own (Uu.out.own.alloc _)) ⟨wr.heap.size,0,none⟩ 1 1 [.int .u8 ((e:Int) - (f:Int) - 1)] rfl hz rfl (fK _ _ _) (Am rfl) (by unfold maxLen;omega) (by omega) (by simp;omega) ?_;intro v1 w1 hown1 hg1 jT;have hg1':=bM hg1;obtain⟨A1,c1,hv1,_⟩:=aj hown1;subst hv1;obtain⟨d1,d2,d3,d4,d5⟩:=Uu.out.seen hg1')
   have Uw:w1.ownsRow base 5 1 (.slice A1 (ys.length+1) c1) (ys++ [UInt8.ofNat (e - f - 1)]).length ((ys++ [UInt8.ofNat (e - f - 1)]).map bv):=by
    rw[List.length_append,List.map_append];rw[HBV.out] at hown1;exact hown1
   have J1:=Uu.out.push Uw hg1';obtain⟨W1,hW1⟩:∃W1,W1=w1.setCell ⟨go,0,none⟩ (.slice A1 (ys.length+1) c1):=⟨_,rfl⟩
   have hbW:base≤W1.heap.size:=by
    have:=hg1'.size;rw[hW1];simp[World.setCell];omega
   rw[←hW1] at J1;rw[show w1.setCell ⟨go,0,none⟩ (.slice A1 (ys.length+1) c1)=W1 from hW1.symm];clear hW1 hown1 Uw hg1 hg1' jT d1 d2 d3 d4 d5 cb co cf fo ff;have LB:=kQ.grown J1.grown hB (fun g hg=>nomatch hg);obtain⟨cb,co,cf,fo,ff⟩:=J1.cells
   have hcut:Lies W1 B 1 (some (ad.add f)) (e - f) (((xs.take e).drop f).map bv):=by
    have h1:=(LB.drop (k:=f) (by omega)).take (m:=e - f) (by omega);simp only[Nat.mul_one] at h1;rw[←List.map_drop,←List.map_take,←List.drop_take] at h1;exact h1
   have Rk:=ae hcut;have j0:(0:Int)≤(f:Int):=by omega
   have j1:(f:Int)≤(e:Int):=by omega
   have j2:(e:Int)≤(c:Int):=by omega
   have j3:¬c=f:=by omega
   have hme:(e:Int).toNat - (f:Int).toNat=e - f:=by omega
   clear hcut
   go_region_law
    ((refine pX _ (by rfl) (.tmp 16) (.tmp 20) _ (by rfl) base 5 i0 (.int .u8 0) 1 1 Tryz.underlying22 HI.out HZ0.out HZ1.out HZ2.out (by rfl) hz (.slice A1 (ys.length+1) c1) _ _ (by rfl) J1.drew.own B (some (ad.add f)) (e - f) (c - f) _ (by rfl) Rk.out.drew (fun e=>nomatch e) (lN _) (by unfold maxLen;simp;omega) (by simp;omega) hbW ?_;intro v2 w2 hown2 hg2 lJ;obtain⟨A2,c2,hv2,_⟩:=aj hown2;subst hv2;obtain⟨d1,d2,d3,d4,d5⟩:=J1.drew.seen hg2))
   all_goals
    have Ux:w2.ownsRow base 5 1 (.slice A2 (ys.length+1+(e - f)) c2) (ys++lit xs f e).length ((ys++lit xs f e).map bv):=by
     have hls:(ys++ [UInt8.ofNat (e - f - 1)])++(xs.take e).drop f=ys++lit xs f e:=by
      unfold lit;rw[if_pos hfe];simp
     have hll:(ys++lit xs f e).length=ys.length+1+(e - f):=by
      rw[←hls];have:=HL.out;simp;omega
     rw[hll,←hls,List.map_append];rw[List.length_append] at hown2;exact hown2
    have J2:=J1.drew.push Ux hg2;obtain⟨W2,hW2⟩:∃W2,W2=w2.setCell ⟨go,0,none⟩ (.slice A2 (ys.length+1+(e - f)) c2):=⟨_,rfl⟩;rw[←hW2] at J2;rw[show w2.setCell ⟨go,0,none⟩ (.slice A2 (ys.length+1+(e - f)) c2)=W2 from hW2.symm];clear hW2 hown2 Ux hg2 lJ d1 d2 d3 d4 d5 cb co cf fo ff;obtain⟨cb,co,cf,fo,ff⟩:=J2.cells;go_wp2_with fail;go_end0;exact⟨rfl,_,J2.first e⟩
 · obtain rfl:f=e:=by omega
   have Pg:lit xs f f= []:=by unfold lit;rw[if_neg (by omega)]
   rw[Pg,List.append_nil];have Uu:=ae hI;clear hI;go_enter Tryz.func112,Tryz.ntmps112;go_wp2_with fail;go_end0;exact⟨rfl,_,Uu.out.first f⟩
theorem P8 (A:Option Addr)(n c B:Nat)(xs:Bytes)(w:World)(kQ:Lies w B 1 A n (xs.map bv))(hB:B≤w.heap.size)(hnc:n≤c)(hn:n≤1000000000)(base0:Nat)(akZ:base0≤w.heap.size):
 Calls Tryz.prog 80 #[.slice A n c] w fun e w'=>∃v',e= .returned v'∧w'.ownsRow base0 5 1 v' (pack xs).length ((pack xs).map bv)∧w.grownBy w' none∧At w none v'.ownBlock:=by
 have HL:=ae kQ.lenB;obtain⟨W,hW⟩:∃W,W=((w.alloc (.cells #[.slice A n c] 22)).alloc (.cells #[.slice none 0 0] 22)).alloc (.cells #[.int .i64 0] 3):=⟨_,rfl⟩;have HW:=ae hW;clear hW;go_enter Tryz.func80,Tryz.ntmps80;have hpb:=dA xs;obtain⟨i0,hi,hz0,hz1,hz2⟩:=info_parts jF;have HI:=ae hi;have HZ0:=ae hz0;have HZ1:=ae hz1;have HZ2:=ae hz2;clear hi hz0 hz1 hz2;have hz:(0:Nat) < 1:=by omega
 have hln:xs.length=n:=HL.out;have hpn:(pack xs).length≤3000000000:=by omega
 have I0:PkI w w.heap.size (w.heap.size+1) (w.heap.size+1+1) (w.heap.size+1+1+1) A n c 0 [] (.slice none 0 0) W:=by
  rw[HW.out];refine⟨((Held.new w _ _).alloc _).alloc _,?_,?_,World.ownsRow_nil _ _ _ _,?_,⟨by omega,by omega,by omega⟩,⟨by omega,by omega,by omega⟩,⟨by omega,by omega,by omega⟩⟩
  · exact (Ut (w.alloc _) _ (by simp) _ _).alloc _
  · exact Ut ((w.alloc _).alloc _) _ (by simp) _ _
  · exact af (af (World.grownBy_alloc w _ none) (World.grownBy_alloc _ _ none) (.inl rfl)) (World.grownBy_alloc _ _ none) (.inl rfl)
 go_wp2_with fail;rw[show ((w.alloc (.cells #[.slice A n c] 22)).alloc (.cells #[.slice none 0 0] 22)).alloc (.cells #[.int .i64 0] 3)=W from HW.out.symm];clear hln hpb;go_loopw [6,7,8] (fun iv _ _ wr=>∃(i f:Nat) (ys:Bytes) (v:Value),iv= .int .i64 (i:Int)∧i≤n∧f≤i∧i - f < 128∧PkI w w.heap.size (w.heap.size+1) (w.heap.size+1+1) (w.heap.size+1+1+1) A n c f ys v wr∧ys++pk xs f i=pack xs) (fun iv _ _ _=>n - (intOf iv).toNat)
 case atStart=>exact ⟨0,0,[],_,rfl,Nat.zero_le _,Nat.zero_le _,by omega,I0,rfl⟩
 case round=>
  clear I0;obtain⟨i,f,ys,v,rfl,hin,hfi,h128,hI,heq⟩:=hrel
  have hyl:ys.length≤3000000000:=by
   have:=congrArg List.length heq;rw[List.length_append] at this;omega
  have hbw:w.heap.size+1+1+1≤wr.heap.size:=by have:=hI.hf.lt;omega
  obtain⟨cb,co,cf,fo,ff⟩:=hI.cells;have LB:=kQ.grown hI.grown hB (fun g hg=>nomatch hg);have HE:=ae heq;have Uu:=ae hI;clear heq hI;by_cases hlt:i < n
  · have CM:=ae (Kv A n c B xs i wr LB hin (by omega));obtain⟨S,D,hSD⟩:∃S D,bu xs i=(S,D):=⟨_,_,rfl⟩;rw[hSD] at CM;have Ph:=ae hSD;clear hSD;by_cases h3:3≤S
    · obtain⟨b1,b2,b3,b4,b5,_⟩:=lh (b:=xs) (i:=i) (by rw[HL.out];exact hlt) (by rw[Ph.out];exact h3);rw[Ph.out] at b1 b2 b3 b4 b5;rw[HL.out] at b5;simp only at b1 b2 b3 b4 b5;have KR:=ae (wU (b:=xs) (f:=f) (i:=i) (by rw[HL.out];exact hlt) (by rw[Ph.out];exact h3))
      go_wp2_with (first
       | (go_at_call 113;refine CM.out.mono ?_;rintro e w1 ⟨rfl,q,rfl⟩))
      refine (uo w _ _ _ _ B A n c f i xs ys v _ (Uu.out.drewN q) kQ hB hnc hn hfi hin (by omega) (by omega) hbw).mono ?_;rintro e w2 ⟨rfl,v2,I2⟩
      have hy2:(ys++lit xs f i).length≤3000000200:=by
       have h1:=rG xs (f:=f) (e:=i) hfi (by rw[HL.out];exact hin);rw[List.length_append,h1];split <;> omega
      obtain⟨y2,hY2⟩:∃y2,y2=ys++lit xs f i:=⟨_,rfl⟩;rw[←hY2] at I2 hy2;have V5:=ae hY2;obtain⟨A2,c2,hv2,_⟩:=aj I2.own;subst hv2;have hbw2:w.heap.size+1+1+1≤w2.heap.size:=by have:=I2.hf.lt;omega
      clear cb co cf fo ff hY2;obtain⟨cb,co,cf,fo,ff⟩:=I2.cells;have II2:=ae I2;clear I2;go_wp2_with (at_builtin;refine bK _ rfl (.tmp 25) (.tmp 31) _ rfl (w.heap.size+1+1+1) 5 i0 (.int .u8 0) 1 1 Tryz.underlying22 HI.out HZ0.out HZ1.out HZ2.out rfl hz _ (Value.slice A2 y2.length c2).ownBlock y2.length (y2.map bv) rfl (App.own (II2.out.own.alloc _)) ⟨w2.heap.size,0,none⟩ 2 2 [.int .u8 ((S:Int)+125),.int .u8 (D:Int)] rfl (by omega) rfl (BO _ _ _ _) (adW rfl rfl) (by unfold maxLen;omega) (by omega) (by simp;omega) ?_;intro v3 w3 hown3 hg3 lM;have hg3':=bM hg3;obtain⟨A3,c3,hv3,_⟩:=aj hown3;subst hv3;obtain⟨d1,d2,d3,d4,d5⟩:=II2.out.seen hg3')
      have kS:w3.ownsRow (w.heap.size+1+1+1) 5 1 (.slice A3 (y2.length+2) c3) (y2++ [UInt8.ofNat (S+125),UInt8.ofNat D]).length ((y2++ [UInt8.ofNat (S+125),UInt8.ofNat D]).map bv):=by
       have e1:Value.int .u8 ((S:Int)+125)=bv (UInt8.ofNat (S+125)):=by
        unfold bv;rw[aK (by omega)];rfl
       have e2:Value.int .u8 (D:Int)=bv (UInt8.ofNat D):=by
        unfold bv;rw[aK (by omega)]
       rw[e1,e2] at hown3;rw[List.length_append,List.map_append];exact hown3
      have J3:=(II2.out.push kS hg3').first (i+S);have ecast:Value.int .i64 ((i+S:Nat):Int)= .int .i64 ((i:Int)+(S:Int)):=by simp
      rw[ecast] at J3;have HJ3:=ae J3;clear hown3 kS J3 ecast hg3 hg3' lM d1 d2 d3 d4 d5;go_roundw
      case rel=>
       refine⟨i+S,i+S,y2++ [UInt8.ofNat (S+125),UInt8.ofNat D],_,by go_num,by omega,by omega,by omega,HJ3.out,?_⟩;rw[←HE.out,KR.out,Ph.out,V5.out];simp
      case measure=>simp [intOf];omega
    · by_cases hfull:i+1 - f=128
      · have KR:=ae (wV (b:=xs) (f:=f) (i:=i) (by rw[HL.out];exact hlt) (by rw[Ph.out];simp only;omega) hfull);have hbe:(((i:Int)+1 - (f:Int))==128)=true:=by rw[beq_iff_eq];omega
        go_wp2_with (first
         | (go_at_call 113;refine CM.out.mono ?_;rintro e w1 ⟨rfl,q,rfl⟩))
        rw[show Value.int .i64 ((i:Int)+1)= .int .i64 ((i+1:Nat):Int) from by simp];refine (uo w _ _ _ _ B A n c f (i+1) xs ys v _ (Uu.out.drewN q) kQ hB hnc hn (by omega) (by omega) (by omega) (by omega) hbw).mono ?_;rintro e w2 ⟨rfl,v2,I2⟩;have II2:=ae I2;clear I2;go_wp2_with fail;go_roundw
        case rel=>
         refine⟨i+1,i+1,ys++lit xs f (i+1),_,by go_num,by omega,by omega,by omega,II2.out,?_⟩;rw[←HE.out,KR.out,List.append_assoc]
        case measure=>simp [intOf];omega
      · have KR:=ae (wW (b:=xs) (f:=f) (i:=i) (by rw[HL.out];exact hlt) (by rw[Ph.out];simp only;omega) hfull);have hbe:(((i:Int)+1 - (f:Int))==128)=false:=by rw[beq_eq_false_iff_ne];omega
        have HIQ:=Uu;clear Uu
        go_wp2_with (first
         | (go_at_call 113;refine CM.out.mono ?_;rintro e w1 ⟨rfl,q,rfl⟩))
        go_roundw
        case rel=>
         refine⟨i+1,f,ys,_,by go_num,by omega,by omega,by omega,HIQ.out.drewN q,?_⟩;rw[←HE.out,KR.out]
        case measure=>simp [intOf];omega
  · have hin2:i=n:=by omega
    have KR:=ae (Dw (b:=xs) (f:=f) (i:=i) (by rw[HL.out];omega));go_wp2_with fail;refine (uo w _ _ _ _ B A n c f n xs ys v _ Uu.out kQ hB hnc hn (by omega) (by omega) (by omega) (by omega) hbw).mono ?_;rintro e w2 ⟨rfl,v2,I2⟩
    have hfin:ys++lit xs f n=pack xs:=by
     have h1:=HE.out;rw[KR.out,HL.out] at h1;exact h1
    rw[hfin] at I2;obtain⟨cb2,co2,cf2,fo2,ff2⟩:=I2.cells;have hown:=bW I2.own (base':=base0) (by omega);have hgr:=I2.grown
    have hat:At w none v2.ownBlock:=by
     cases hv:v2.ownBlock with
     | none=>exact .inl rfl
     | some g=>exact .inr ⟨g,rfl,by have:=(I2.own.lt g hv).1;omega⟩
    clear hfin I2 cb co cf fo ff;go_wp2_with fail;go_ret;exact⟨v2,rfl,hown,hgr,hat⟩
