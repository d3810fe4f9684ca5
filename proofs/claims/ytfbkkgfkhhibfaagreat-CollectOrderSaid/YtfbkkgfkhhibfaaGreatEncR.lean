/- Words. -/
import Derived.Test.YtfbkkgfkhhibfaaGreatEnc
set_option linter.unusedVariables false
set_option maxRecDepth 100000
set_option maxHeartbeats 8000000
namespace Go.Proofs.YtfbkkgfkhhibfaaGreat
open Go Go.RowKit Iv
theorem ve (base:Nat)(v pv:Value)(ys ps:Bytes)(w:World)(h:w.ownsRow base 5 1 v ys.length (ys.map bv))(hp:w.ownsRow base 5 1 pv ps.length (ps.map bv))(hap:Apart v pv)
 (h128:ps.length≤128) (hy:ys.length≤100000000000) (hbase:base≤w.heap.size):
 Calls Tryz.prog 91 #[v,pv] w fun e w'=>∃v',e= .returned v'∧w'.ownsRow base 5 1 v' (ys++Ak ps).length ((ys++Ak ps).map bv)∧w.grownBy w' v.ownBlock∧At w v.ownBlock v'.ownBlock:=by
 obtain⟨A,c,hv,_,_,hlv,_⟩:=aj h;obtain⟨Ap,cp,hpv,_,_,hlp,hop⟩:=aj hp;subst hv hpv;obtain⟨np,VF⟩:∃np,np=ps.length:=⟨_,rfl⟩;rw[←VF] at hp hap hlp h128⊢;have HNP:=ae VF;clear VF;by_cases h0:np=0
 · subst h0;have Pg:Ak ps= []:=by unfold Ak;rw[if_neg (by rw[←HNP.out];omega)]
   rw[Pg,List.append_nil];have HH:=ae h;clear h hp;go_enter Tryz.func91,Tryz.ntmps91;go_wp2_with fail;go_ret;exact⟨_,rfl,HH.out,World.grownBy.refl w _,.inl rfl⟩
 · obtain⟨i0,hi,hz0,hz1,hz2⟩:=info_parts jF;have HI:=ae hi;have HZ0:=ae hz0;have HZ1:=ae hz1;have HZ2:=ae hz2;clear hi hz0 hz1 hz2;have hz:(0:Nat) < 1:=by omega
   have hbe:((np:Int)==0)=false:=by rw[beq_eq_false_iff_ne];omega
   have HH:=ae h;have HP:=ae hp;have HAP:=ae hap;have HOP:=ae hop;clear h hp hap hop hlv hlp;go_enter Tryz.func91,Tryz.ntmps91
   go_wp2_with (first
    | (at_builtin;refine bK _ rfl (.tmp 9) (.tmp 14) _ rfl base 5 i0 (.int .u8 0) 1 1 Tryz.underlying22 HI.out HZ0.out HZ1.out HZ2.out rfl hz _ (Value.slice A ys.length c).ownBlock ys.length (ys.map bv) rfl (App.own (HH.out.alloc _)) ⟨w.heap.size,0,none⟩ 1 1 [.int .u8 ((np:Int) - 1)] rfl hz rfl (fK _ _ _) (Am rfl) (by unfold maxLen;omega) (by omega) (by simp;omega) ?_;intro v1 w1 hown1 hg1 jT;have hg1':=bM hg1;have YJ:=jT.alloc;have hp1:=qK HAP.out HP.out hg1';clear hg1 jT)
    | (at_builtin;refine bP _ rfl (.tmp 16) (.tmp 17) _ rfl base 5 i0 (.int .u8 0) 1 1 Tryz.underlying22 HI.out HZ0.out HZ1.out HZ2.out rfl hz _ (ys.length+1) _ rfl hown1 w1.heap.size Ap np cp (ps.map bv) rfl (Lies.ofOwn hp1) HOP.out (lN _) (by unfold maxLen;omega) (by omega) (by have:=hg1'.size;omega) ?_;intro v2 w2 hown2 hg2 lJ))
   go_ret
   have hbv:Value.int .u8 ((np:Int) - 1)=bv (UInt8.ofNat (np - 1)):=by
    unfold bv;rw[aK (by omega)];congr 1;omega
   have Pg:ys++Ak ps=(ys++ [UInt8.ofNat (np - 1)])++ps:=by
    unfold Ak;rw[if_pos (by rw[←HNP.out];omega),←HNP.out];simp
   have hlen:(ys++Ak ps).length=ys.length+1+np:=by
    rw[Pg];have:=HNP.out;simp;omega
   refine⟨v2,rfl,?_,af hg1' hg2 YJ,YJ.trans lJ hg1'.size⟩;rw[hlen,Pg,List.map_append,List.map_append];rw[hbv] at hown2;exact hown2
theorem OY (A:Option Addr)(n c B:Nat)(xs:Bytes)(w:World)(kQ:Lies w B 1 A n (xs.map bv))(hB:B≤w.heap.size)(hnc:n≤c)(hn:n≤1000000000)(base:Nat)(hbase:base≤w.heap.size):
 Calls Tryz.prog 62 #[.slice A n c] w fun e w'=>∃v',e= .returned v'∧w'.ownsRow base 5 1 v' (pack xs).length ((pack xs).map bv)∧w.grownBy w' none∧At w none v'.ownBlock:=by
 have HL:=ae kQ.lenB;have hpb:=dA xs;have hln:xs.length=n:=HL.out;have hpn:(pack xs).length≤3000000000:=by omega
 obtain⟨i0,hi,hz0,hz1,hz2⟩:=info_parts jF;have HI:=ae hi;have HZ0:=ae hz0;have HZ1:=ae hz1;have HZ2:=ae hz2;clear hi hz0 hz1 hz2 hln hpb;have hz:(0:Nat) < 1:=by omega
 go_enter Tryz.func62,Tryz.ntmps62;go_wp2_with fail
 go_loopw [3,4,5,6,7] (fun v pv iv _ _ wr=>∃(i f:Nat) (ys:Bytes) (vv pp:Value),vv=v∧pp=pv∧iv= .int .i64 (i:Int)∧i≤n∧f≤i∧i - f < 128∧wr.ownsRow base 5 1 vv ys.length (ys.map bv)∧
  wr.ownsRow base 5 1 pp (i - f) (((xs.take i).drop f).map bv)∧Apart vv pp∧w.grownBy wr none∧At w none vv.ownBlock∧At w none pp.ownBlock∧ys++pk xs f i=pack xs) (fun _ _ iv _ _ _=>n - (intOf iv).toNat)
 case atStart=>exact ⟨0,0,[],_,_,rfl,rfl,rfl,Nat.zero_le _,Nat.zero_le _,by omega,World.ownsRow_nil _ _ _ _,World.ownsRow_nil _ _ _ _,Apart.nil _,World.grownBy.refl w none,.inl rfl,.inl rfl,rfl⟩
 case round=>
  obtain⟨i,f,ys,vv,pp,rfl,rfl,rfl,hin,hfi,h128,hv,hp,hap,hgr,Hq,WR,heq⟩:=hrel
  have hyl:ys.length≤3000000000:=by
   have:=congrArg List.length heq;rw[List.length_append] at this;omega
  have hbw:base≤wr.heap.size:=Nat.le_trans hbase hgr.size;have hpl:((xs.take i).drop f).length=i - f:=by have:=HL.out;simp;omega
  have LB:=kQ.grown hgr hB (fun g hg=>nomatch hg);obtain⟨Av,cv,hvv,_,_,hlv,_⟩:=aj hv;obtain⟨Ap,cp,hpv,_,_,hlp,hop⟩:=aj hp;have hp':wr.ownsRow base 5 1 pp ((xs.take i).drop f).length (((xs.take i).drop f).map bv):=by rw[hpl];exact hp
  have CL:=ae (fun (W:World) (hW:wr.grownBy W none)=>ve base vv pp ys ((xs.take i).drop f) W (ay hv hW (fun g _ e=>nomatch e)) (ay hp' hW (fun g _ e=>nomatch e)) hap (by rw[hpl];omega) (by omega) (Nat.le_trans hbw hW.size));subst hvv hpv;have HE:=ae heq;have HV:=ae hv;have HP:=ae hp;have HAP:=ae hap;have HLP:=ae (Hr (b:=xs) (f:=f) (e:=i) hfi (by rw[HL.out];exact hin));clear heq hv hp hap hp' hpl hlv hlp hop;by_cases hlt:i < n
  · have CM:=ae (Kw A n c B xs i wr LB hin (by omega));obtain⟨S,D,hSD⟩:∃S D,bu xs i=(S,D):=⟨_,_,rfl⟩;have Ph:=ae hSD;by_cases h3:3≤S
    · have hbr:qp xs i=(S,D):=by unfold qp;rw[hSD];exact if_neg (by simp only;omega)
      rw[hbr] at CM;obtain⟨b1,b2,b3,b4,b5,_⟩:=lh (b:=xs) (i:=i) (by rw[HL.out];exact hlt) (by rw[Ph.out];exact h3);rw[Ph.out] at b1 b2 b3 b4 b5;rw[HL.out] at b5;simp only at b1 b2 b3 b4 b5;have KR:=ae (wU (b:=xs) (f:=f) (i:=i) (by rw[HL.out];exact hlt) (by rw[Ph.out];exact h3));clear hSD hbr
      go_wp2_with (first
       | (go_at_call 90;refine CM.out.mono ?_;rintro e w1 ⟨rfl,q,rfl⟩))
      refine (CL.out _ (aH (World.grownBy.refl wr none) q)).mono ?_;rintro e w2 ⟨v2,rfl,hown2,hg2,lJ⟩;rw[HLP.out] at hown2
      have hy2:(ys++lit xs f i).length≤3000000200:=by
       have h1:=rG xs (f:=f) (e:=i) hfi (by rw[HL.out];exact hin);rw[List.length_append,h1];split <;> omega
      obtain⟨y2,hY2⟩:∃y2,y2=ys++lit xs f i:=⟨_,rfl⟩;rw[←hY2] at hown2 hy2;have V5:=ae hY2;obtain⟨A2,c2,hv2,_⟩:=aj hown2;subst hv2;have aaj:=oP hg2;have YK:=lJ.drewN;have hbw2:base≤w2.heap.size:=Nat.le_trans hbw aaj.size;clear hY2 hg2 lJ;go_wp2_with (at_builtin;refine bK _ rfl (.tmp 23) (.tmp 29) _ rfl base 5 i0 (.int .u8 0) 1 1 Tryz.underlying22 HI.out HZ0.out HZ1.out HZ2.out rfl hz _ (Value.slice A2 y2.length c2).ownBlock y2.length (y2.map bv) rfl (App.own (hown2.alloc _)) ⟨w2.heap.size,0,none⟩ 2 2 [.int .u8 ((S:Int)+125),.int .u8 (D:Int)] rfl (by omega) rfl (BO _ _ _ _) (adW rfl rfl) (by unfold maxLen;omega) (by omega) (by simp;omega) ?_;intro v3 w3 hown3 hg3 lM);have hg3':=bM hg3;have nK:=lM.alloc;clear hg3 lM
      have kS:w3.ownsRow base 5 1 v3 (y2++ [UInt8.ofNat (S+125),UInt8.ofNat D]).length ((y2++ [UInt8.ofNat (S+125),UInt8.ofNat D]).map bv):=by
       have e1:Value.int .u8 ((S:Int)+125)=bv (UInt8.ofNat (S+125)):=by
        unfold bv;rw[aK (by omega)];rfl
       have e2:Value.int .u8 (D:Int)=bv (UInt8.ofNat D):=by
        unfold bv;rw[aK (by omega)]
       rw[e1,e2] at hown3;rw[List.length_append,List.map_append];exact hown3
      have Bi:=ae kS;have KT:=af (af hgr aaj Hq) hg3' (Hq.trans YK hgr.size);have lM:=(Hq.trans YK hgr.size).trans nK (Nat.le_trans hgr.size aaj.size);clear hown3 kS hown2;go_roundw
      case rel=>
       refine⟨i+S,i+S,y2++ [UInt8.ofNat (S+125),UInt8.ofNat D],_,_,rfl,rfl,by go_num,by omega,by omega,by omega,Bi.out,?_,Apart.nil _,KT,lM,.inl rfl,?_⟩
       · have h0:(xs.take (i+S)).drop (i+S)= []:=List.drop_eq_nil_of_le (by simp;omega);rw[h0,Nat.sub_self];exact World.ownsRow_nil _ _ _ _
       · rw[←HE.out,KR.out,Ph.out,V5.out];simp
      case measure=>simp [intOf];omega
    · have hbr:qp xs i=(0,0):=by unfold qp;rw[hSD];exact if_pos (by simp only;omega)
      rw[hbr] at CM;obtain⟨adx,x,hA,_,hx,hcx⟩:=LB.byte hlt;have hpn:=Pj hfi hx;have HPN:=ae hpn;subst hA;have adX:Apart (.slice Ap (i - f) cp) (.slice Av ys.length cv):=HAP.out.symm;have WS:=ae adX;clear hSD hbr hx hpn adX;by_cases hfull:i+1 - f=128
      · have KR:=ae (wV (b:=xs) (f:=f) (i:=i) (by rw[HL.out];exact hlt) (by rw[Ph.out];simp only;omega) hfull);have hbe:(((i - f:Nat):Int)+1==128)=true:=by rw[beq_iff_eq];omega
        go_wp2_with (first
         | (go_at_call 90;refine CM.out.mono ?_;rintro e w1 ⟨rfl,q,rfl⟩)
         | (at_builtin;refine bK _ rfl (.tmp 34) (.tmp 39) _ rfl base 5 i0 (.int .u8 0) 1 1 Tryz.underlying22 HI.out HZ0.out HZ1.out HZ2.out rfl hz _ (Value.slice Ap (i - f) cp).ownBlock (i - f) (((xs.take i).drop f).map bv) rfl (App.own ((ay HP.out (aH (World.grownBy.refl wr none) q) (fun g _ e=>nomatch e)).alloc _)) ⟨wr.heap.size,0,none⟩ 1 1 [.int .u8 (x.toNat:Int)] rfl hz rfl (fK _ _ _) (Am rfl) (by unfold maxLen;omega) (by omega) (by simp;omega) ?_;intro v3 w3 hown3 hg3 lM;have hg3':=oP (bM hg3);have nK:=(lM.alloc).drewN;obtain⟨A3,c3,hv3,_⟩:=aj hown3;subst hv3))
        have Tn:((xs.take (i+1)).drop f).length=i - f+1:=by have:=HL.out;simp;omega
        have kS:w3.ownsRow base 5 1 (.slice A3 (i - f+1) c3) (i - f+1) (((xs.take (i+1)).drop f).map bv):=by
         rw[HPN.out,List.map_append];exact hown3
        have Tq:=qK WS.out HV.out hg3';have Tt:Apart (.slice Av ys.length cv) (.slice A3 (i - f+1) c3):=(WS.out.step HV.out nK).symm;have KT:=af hgr hg3' WR;have YL:=WR.trans nK hgr.size;have HW3:=ae kS;have HV3:=ae Tq;have aak:=ae Tt;have aal:=ae Tn;clear hown3 hg3 lM kS Tq Tt Tn;refine (ve base _ _ ys ((xs.take (i+1)).drop f) w3 HV3.out (by rw[aal.out];exact HW3.out) aak.out (by rw[aal.out];omega) (by omega) (by have:=KT.size;omega)).mono ?_;rintro e w4 ⟨v4,rfl,hown4,hg4,qx⟩;rw[Hr (b:=xs) (f:=f) (e:=i+1) (by omega) (by rw[HL.out];omega)] at hown4;have Gq:=ae hown4;clear hown4;have aju:=af KT hg4 Hq;have adY:=Hq.trans qx KT.size;go_wp2_with fail;go_roundw
        case rel=>
         refine⟨i+1,i+1,ys++lit xs f (i+1),_,_,rfl,rfl,by go_num,by omega,by omega,by omega,Gq.out,?_,Apart.nil _,aju,adY,.inl rfl,?_⟩
         · have h0:(xs.take (i+1)).drop (i+1)= []:=List.drop_eq_nil_of_le (by simp;omega);rw[h0,Nat.sub_self];exact World.ownsRow_nil _ _ _ _
         · rw[←HE.out,KR.out,List.append_assoc]
        case measure=>simp [intOf];omega
      · have KR:=ae (wW (b:=xs) (f:=f) (i:=i) (by rw[HL.out];exact hlt) (by rw[Ph.out];simp only;omega) hfull);have hbe:(((i - f:Nat):Int)+1==128)=false:=by rw[beq_eq_false_iff_ne];omega
        go_wp2_with (first
         | (go_at_call 90;refine CM.out.mono ?_;rintro e w1 ⟨rfl,q,rfl⟩)
         | (at_builtin;refine bK _ rfl (.tmp 34) (.tmp 39) _ rfl base 5 i0 (.int .u8 0) 1 1 Tryz.underlying22 HI.out HZ0.out HZ1.out HZ2.out rfl hz _ (Value.slice Ap (i - f) cp).ownBlock (i - f) (((xs.take i).drop f).map bv) rfl (App.own ((ay HP.out (aH (World.grownBy.refl wr none) q) (fun g _ e=>nomatch e)).alloc _)) ⟨wr.heap.size,0,none⟩ 1 1 [.int .u8 (x.toNat:Int)] rfl hz rfl (fK _ _ _) (Am rfl) (by unfold maxLen;omega) (by omega) (by simp;omega) ?_;intro v3 w3 hown3 hg3 lM;have hg3':=oP (bM hg3);have nK:=(lM.alloc).drewN;obtain⟨A3,c3,hv3,_⟩:=aj hown3;subst hv3))
        have Tn:((xs.take (i+1)).drop f).length=i - f+1:=by have:=HL.out;simp;omega
        have kS:w3.ownsRow base 5 1 (.slice A3 (i - f+1) c3) (i - f+1) (((xs.take (i+1)).drop f).map bv):=by
         rw[HPN.out,List.map_append];exact hown3
        have Tq:=qK WS.out HV.out hg3';have Tt:Apart (.slice Av ys.length cv) (.slice A3 (i - f+1) c3):=(WS.out.step HV.out nK).symm;have KT:=af hgr hg3' WR;have YL:=WR.trans nK hgr.size;have HW3:=ae kS;have HV3:=ae Tq;have aak:=ae Tt;have aal:=ae Tn;clear hown3 hg3 lM kS Tq Tt Tn;go_roundw
        case rel=>
         refine⟨i+1,f,ys,_,_,rfl,rfl,by go_num,by omega,by omega,by omega,HV3.out,?_,aak.out,KT,Hq,YL,?_⟩
         · rw[show i+1 - f=i - f+1 from by omega];exact HW3.out
         · rw[←HE.out,KR.out]
        case measure=>simp [intOf];omega
  · have HIN:=ae (show i=n by omega);have KR:=ae (Dw (b:=xs) (f:=f) (i:=i) (by rw[HL.out];omega));go_wp2_with fail;refine (CL.out _ (World.grownBy.refl wr none)).mono ?_;rintro e w2 ⟨v2,rfl,hown2,hg2,lJ⟩
    have hfin:ys++Ak ((xs.take i).drop f)=pack xs:=by
     rw[HLP.out,←HE.out,KR.out,HL.out,HIN.out]
    rw[hfin] at hown2;have xN:=ae hown2;clear hown2 hfin;go_wp2_with fail;go_ret;exact⟨v2,rfl,xN.out,af hgr hg2 Hq,Hq.trans lJ hgr.size⟩
theorem DI (x:Blk)(A:Option Addr)(n c B:Nat)(w:World)(h:Recs w B A n x.recs)(hB:B≤w.heap.size)(hrec:∀r∈x.recs,RecOk r)(hn:n≤64)(base:Nat)(hbase:base≤w.heap.size):
 Calls Tryz.prog 61 #[.agg #[.int .i64 x.thread,.int .i64 x.first,.slice A n c]] w fun e w'=>∃A' n' c',e= .returned (.slice A' n' c')∧OutR w base A' n' c' (aP (-1) x.recs) w':=by
 have HL:=ae h.1;obtain⟨W,hW⟩:∃W,W=w.alloc (.cells #[.int .i64 x.thread,.int .i64 x.first,.slice A n c] 50):=⟨_,rfl⟩;have iW:w.grownBy W none:=by rw[hW];exact World.grownBy_alloc w _ none
 have hb0:Held W w.heap.size 50 #[.int .i64 x.thread,.int .i64 x.first,.slice A n c]:=by rw[hW];exact Held.new _ _ _
 have HW:=ae hW;have HB0:=ae hb0;have qG:=ae hrec;have hpl:=gz x.recs (-1) hrec;rw[h.1] at hpl;obtain⟨P,hP⟩:∃P,P=aP (-1) x.recs:=⟨_,rfl⟩;rw[←hP] at hpl;have HP:=ae hP;have hbW:base≤W.heap.size:=Nat.le_trans hbase iW.size;have hRW:=h.grown iW hB (fun _ e=>nomatch e);have hBW:B≤W.heap.size:=Nat.le_trans hB iW.size;clear hW hb0 hP hrec;go_enter Tryz.func61,Tryz.ntmps61;go_wp2_with fail;rw[show w.alloc (.cells #[.int .i64 x.thread,.int .i64 x.first,.slice A n c] 50)=W from HW.out.symm];go_loopw [3,4,5] (fun pv sv iv wr=>∃(k:Nat) (seq:Int) (ys:Bytes) (Ap:Option Addr) (np cp:Nat),pv= .slice Ap np cp∧iv= .int .i64 (k:Int)∧k≤n∧sv= .int .i64 seq∧inI64 seq∧OutR W base Ap np cp ys wr∧ys++aP seq (x.recs.drop k)=P) (fun _ _ iv _=>n - (intOf iv).toNat)
 case atStart=>exact ⟨0,-1,[],none,0,0,rfl,rfl,Nat.zero_le _,rfl,⟨by omega,by omega⟩,⟨⟨World.ownsRow_nil _ _ _ _,World.grownBy.refl W none,.inl rfl⟩,rfl,Nat.le_refl _,fun _=>rfl⟩,by rw[HP.out];rfl⟩
 case round=>
  obtain⟨k,seq,ys,Ap,np,cp,rfl,rfl,hk,rfl,hseq,hout,heq⟩:=hrel;have HE:=ae heq
  have hyl:ys.length≤600000:=by
   have:=congrArg List.length heq;rw[List.length_append] at this;omega
  have hg:=hout.1.2.1;have VF:np=ys.length:=hout.2.1;have HNP:=ae VF;have aoa:np≤600000:=by omega
  have ZK:=ae hout;have f2:wr.cell? ⟨w.heap.size,2,none⟩=some (.slice A n c):=(HB0.out.grown hg (fun e=>nomatch e)).cell 2;clear heq VF hout;by_cases hlt:k < n
  · obtain⟨b,o,r,Ad,nd,cd,Af,nf,cf,hA,hb,hr,hH⟩:=hRW.at hlt;have hHr:=hH.grown hb hg hBW (fun _ e=>nomatch e);obtain⟨c0,c1,c2,c3,c4,c5,c6,c7⟩:=hHr.all;have hrm:r∈x.recs:=List.mem_of_getElem? hr;have HRO:=ae (qG.out r hrm);have CAP:=ae (Gp (W0:=W) Ap np cp wr.heap.size ys r Ad nd cd Af nf cf seq wr ZK.out.lies ZK.out.2.2.2 (by omega) HRO.out hseq hg (hH.ld.more hBW) (hH.lf.more hBW) base hbW);unfold recV at CAP;have HPD:=ae (rH hr seq);have HHH:=ae (fun (W':World) (hgg:W.grownBy W' none)=>(hH.grown hb hgg hBW (fun _ e=>nomatch e)).all.1);clear hH hr hHr hrm;subst hA;go_wp2_with fail;refine CAP.out.mono ?_;rintro e w3 ⟨A3,n3,k3,rfl,hO3⟩;clear c0 c1 c2 c3 c4 c5 c6 c7 f2;have f2:w3.cell? ⟨w.heap.size,2,none⟩=some (.slice (some ⟨b,o,none⟩) n c):=(HB0.out.grown hO3.1.2.1 (fun e=>nomatch e)).cell 2;have c0:=HHH.out w3 hO3.1.2.1;have Bi:=ae hO3;clear hO3;go_wp2_with fail;go_roundw
    case rel=>exact ⟨k+1,r.seq,ys++bD r seq,A3,n3,k3,rfl,by go_num,by omega,rfl,HRO.out.seq,Bi.out,by rw[←HE.out,HPD.out,List.append_assoc]⟩
    case measure=>simp [intOf];omega
  · have hyP:ys=P:=by
     have e1:=HE.out;rw[List.drop_eq_nil_of_le (by rw[HL.out];omega),aP,List.append_nil] at e1;exact e1
    have HYP:=ae hyP;clear hyP;go_wp2_with fail;go_ret;refine⟨Ap,np,cp,rfl,?_⟩;obtain⟨⟨q1,q2,q3⟩,q4,q5,q6⟩:=ZK.out;rw[←HP.out,←HYP.out];exact⟨⟨q1,af iW q2 (.inl rfl),(At.refl w none).trans q3 iW.size⟩,q4,q5,q6⟩
theorem uU (x:Blk)(A:Option Addr)(n c B:Nat)(w:World)(h:Recs w B A n x.recs)(hB:B≤w.heap.size)(hin:∀r∈x.recs,RecNums r)(base:Nat)(hbase:base≤w.heap.size):
 Calls Tryz.prog 37 #[.agg #[.int .i64 x.thread,.int .i64 x.first,.slice A n c]] w (DJ w base x):=by
 have HL:=ae h.1;obtain⟨W,hW⟩:∃W,W=w.alloc (.cells #[.int .i64 x.thread,.int .i64 x.first,.slice A n c] 50):=⟨_,rfl⟩;have iW:w.grownBy W none:=by rw[hW];exact World.grownBy_alloc w _ none
 have hb0:Held W w.heap.size 50 #[.int .i64 x.thread,.int .i64 x.first,.slice A n c]:=by rw[hW];exact Held.new _ _ _
 have HW:=ae hW;have HB0:=ae hb0;have hRW:=h.grown iW hB (fun _ e=>nomatch e);have hBW:B≤W.heap.size:=Nat.le_trans hB iW.size;have hbW:base≤W.heap.size:=Nat.le_trans hbase iW.size;have CF:=ae (Sr x A n c B W hRW hBW);clear hW hb0;by_cases hf:fits x=0
 · obtain⟨z0,z1,z2,z3,z4,z5,z6⟩:=dR hf;have adw:n≤64:=by rw[←h.1];exact z1
   have hpl:=gz x.recs (-1) (rM z6 hin);rw[h.1] at hpl;have CPL:=ae (fun (W1:World) (hg:W.grownBy W1 none)=>DI x A n c B W1 (hRW.grown hg hBW (fun _ e=>nomatch e)) (Nat.le_trans hBW hg.size) (rM z6 hin) adw base (Nat.le_trans hbW hg.size));obtain⟨P,hP⟩:∃P,P=aP (-1) x.recs:=⟨_,rfl⟩;rw[←hP] at hpl CPL;have HP:=ae hP;have hq:=dA P;obtain⟨Q,hQ⟩:∃Q,Q=pack P:=⟨_,rfl⟩;rw[←hQ] at hq;have HQ:=ae hQ;rw[hf] at CF;have HF0:=ae hf;clear hP hQ z0 z1 z6 hin hf;have aod:P.length≤600000:=by omega
   have aoe:Q.length≤700000:=by omega
   clear hq hpl;obtain⟨i0,hi,hz0,hz1,hz2⟩:=info_parts jF;have HI:=ae hi;have HZ0:=ae hz0;have HZ1:=ae hz1;have HZ2:=ae hz2;have hz:(0:Nat) < 1:=by omega
   clear hi hz0 hz1 hz2;go_enter Tryz.func37,Tryz.ntmps37;go_wp2_with fail;rw[show w.alloc (.cells #[.int .i64 x.thread,.int .i64 x.first,.slice A n c] 50)=W from HW.out.symm];refine CF.out.mono ?_;rintro e w1 ⟨rfl,hg1⟩;have f0:w1.cell? ⟨w.heap.size,0,none⟩=some (.int .i64 x.thread):=(HB0.out.grown hg1 (fun e=>nomatch e)).cell 0;have f1:w1.cell? ⟨w.heap.size,1,none⟩=some (.int .i64 x.first):=(HB0.out.grown hg1 (fun e=>nomatch e)).cell 1;have f2:w1.cell? ⟨w.heap.size,2,none⟩=some (.slice A n c):=(HB0.out.grown hg1 (fun e=>nomatch e)).cell 2;go_wp2_with fail;clear f0 f1 f2;refine (CPL.out w1 hg1).mono ?_;rintro e w2 ⟨A2,n2,c2,rfl,hO2⟩;have hg2:=af hg1 hO2.1.2.1 (.inl rfl);have hn2:n2=P.length:=hO2.2.1;have CPK:=ae (OY A2 n2 c2 w2.heap.size P w2 hO2.lies (Nat.le_refl _) hO2.2.2.1 (by omega) base (Nat.le_trans hbW hg2.size));rw[←HQ.out] at CPK;have xN:=ae hO2;clear hO2;subst hn2;go_wp2_with fail;refine CPK.out.mono ?_;rintro e w3 ⟨v3,rfl,hown3,hg3,lM⟩;obtain⟨A3,c3,hv3,ZL,ZM,hl3,ho3⟩:=aj hown3;subst hv3;have HL3:=ae hl3;have ZN:=af hg2 hg3 (.inl rfl);have hbw3:base≤w3.heap.size:=Nat.le_trans hbW ZN.size;have HB3:=ae (HB0.out.grown ZN (fun e=>nomatch e));have f0:w3.cell? ⟨w.heap.size,0,none⟩=some (.int .i64 x.thread):=HB3.out.cell 0;have f1:w3.cell? ⟨w.heap.size,1,none⟩=some (.int .i64 x.first):=HB3.out.cell 1;have fz:w.heap.size < w3.heap.size:=HB3.out.lt
   have O0:(w3.alloc (.cells #[.int .u8 84,.int .u8 x.thread] 5)).ownsRow base 5 1 (.slice (some ⟨w3.heap.size,0,none⟩) 2 2) 2 (([84,UInt8.ofNat (x.thread % 256).toNat]:Bytes).map bv):=by
    rw[←yc x.thread ⟨by omega,by omega⟩];exact NI w3 base 5 [.int .u8 84,.int .u8 x.thread] hbw3 (by unfold maxLen;simp)
   obtain⟨y0,hy0⟩:∃y,y=([84,UInt8.ofNat (x.thread % 256).toNat]:Bytes):=⟨_,rfl⟩;have aof:y0.length=2:=by rw[hy0];rfl
   rw[←hy0] at O0;have HY0:=ae hy0;have C0:=ae (oq (some ⟨w3.heap.size,0,none⟩) 2 2 _ y0 x.first _ (Lies.ofOwn O0) (fun e=>nomatch e) ⟨by omega,by omega⟩ (by omega) base (Nat.le_trans hbw3 (World.grownBy_alloc w3 _ none).size));have GL:=ae (World.grownBy_alloc w3 (.cells #[.int .u8 84,.int .u8 x.thread] 5) none);have q1:=aI (n:=x.first) ⟨by omega,by omega⟩;have q2:=aI (n:=(n:Int)) ⟨by omega,by omega⟩;have q3:=aI (n:=(P.length:Int)) ⟨by omega,by omega⟩;have q4:=aI (n:=(Q.length:Int)) ⟨by omega,by omega⟩;clear hown3 hl3 O0 hy0;go_wp2_with fail;clear f0 f1;refine C0.out.mono ?_;rintro e w4 ⟨v4,rfl,hown4,hg4,qx⟩;have ZO:w3.grownBy w4 none:=af GL.out hg4 (.inl rfl);obtain⟨y1,hy1⟩:∃y,y=y0++aF x.first:=⟨_,rfl⟩;have aog:y1.length≤12:=by rw[hy1,List.length_append];omega
   rw[←hy1] at hown4;have Nw:=ae hy1;obtain⟨A4,c4,hv4,aoh,aoi,hl4,ho4⟩:=aj hown4;subst hv4;have f2:w4.cell? ⟨w.heap.size,2,none⟩=some (.slice A n c):=(HB3.out.grown ZO (fun e=>nomatch e)).cell 2;have C1:=ae (oq A4 y1.length c4 _ y1 (n:Int) w4 hl4 ho4 ⟨by omega,by omega⟩ (by omega) base (Nat.le_trans hbw3 ZO.size));clear hown4 hl4 hy1;go_wp2_with fail;clear f2;refine C1.out.mono ?_;rintro e w5 ⟨v5,rfl,hown5,hg5,ZP⟩;have adB:=af ZO hg5 (.inl rfl);obtain⟨y2,hy2⟩:∃y,y=y1++aF (n:Int):=⟨_,rfl⟩;have aok:y2.length≤22:=by rw[hy2,List.length_append];omega
   rw[←hy2] at hown5;have V5:=ae hy2;obtain⟨A5,c5,hv5,Zw,Zx,hl5,Zy⟩:=aj hown5;subst hv5;have C2:=ae (oq A5 y2.length c5 _ y2 (P.length:Int) w5 hl5 Zy ⟨by omega,by omega⟩ (by omega) base (Nat.le_trans hbw3 adB.size));clear hown5 hl5 hy2;go_wp2_with fail;refine C2.out.mono ?_;rintro e w6 ⟨v6,rfl,hown6,Ky,aol⟩;have ZQ:=af adB Ky (.inl rfl);obtain⟨y3,hy3⟩:∃y,y=y2++aF (P.length:Int):=⟨_,rfl⟩;have aom:y3.length≤32:=by rw[hy3,List.length_append];omega
   rw[←hy3] at hown6;have HY3:=ae hy3;obtain⟨A6,c6,hv6,aon,aoo,hl6,ho6⟩:=aj hown6;subst hv6;have C3:=ae (oq A6 y3.length c6 _ y3 (Q.length:Int) w6 hl6 ho6 ⟨by omega,by omega⟩ (by omega) base (Nat.le_trans hbw3 ZQ.size));clear hown6 hl6 hy3;go_wp2_with fail;refine C3.out.mono ?_;rintro e w7 ⟨v7,rfl,oM,Kz,ZR⟩;have Wx:=af ZQ Kz (.inl rfl);obtain⟨y4,hy4⟩:∃y,y=y3++aF (Q.length:Int):=⟨_,rfl⟩;have aop:y4.length≤42:=by rw[hy4,List.length_append];omega
   rw[←hy4] at oM
   have hhead:y4=eP x.thread x.first n P.length Q.length:=by
    rw[hy4,HY3.out,V5.out,Nw.out,HY0.out];unfold eP;simp only[List.append_assoc,List.cons_append,List.nil_append]
   have adC:=ae hhead;have adD:base≤w7.heap.size:=Nat.le_trans hbw3 Wx.size;have LQ:=ae (HL3.out.grown Wx (Nat.le_refl _) (fun _ e=>nomatch e));clear q1 q2 q3 q4 hy4 hhead;go_wp2_with (at_builtin;refine bP _ rfl (.tmp 39) (.tmp 40) _ rfl base 5 i0 (.int .u8 0) 1 1 Tryz.underlying22 HI.out HZ0.out HZ1.out HZ2.out rfl hz _ y4.length (y4.map bv) rfl oM w3.heap.size A3 Q.length c3 (Q.map bv) rfl LQ.out ho3 (lN _) (by unfold maxLen;omega) (by omega) adD ?_;intro v8 w8 GR Wy ai3;rw[←List.map_append] at GR;obtain⟨A8,c8,hv8,aor,aos,hl8,ho8⟩:=aj GR;subst hv8);have hW3:w.grownBy w3 none:=af iW ZN (.inl rfl);have Su:At w3 none v7.ownBlock:=(At.refl w3 none).trans ZR ZQ.size;have ai5:w3.grownBy w8 none:=af Wx Wy Su;have ai6:=af hW3 ai5 (.inl rfl);have ai7:=ae ((At.refl w none).trans (Su.trans ai3 Wx.size) hW3.size)
   have hbody:y4++Q=aT x:=by
    rw[adC.out,HQ.out,HP.out];unfold aT;rw[HL.out]
   have hbl:(aT x).length=y4.length+Q.length:=by rw[←hbody,List.length_append]
   rw[hbody] at GR hl8;have HO8:=ae GR;obtain⟨s1,s2,s3,s4,hs4⟩:=qH (wS (aT x));have Sv:=ae (Sz A8 (y4.length+Q.length) c8 (aT x) w8 w8.heap.size hl8 (by omega));have hcl:=RU (aT x);have hsc:=yf (wS (aT x)) hcl;rw[hs4] at hsc;obtain⟨s,hs⟩:∃s,s=wS (aT x):=⟨_,rfl⟩;rw[←hs] at Sv hcl hsc hs4;have HS:=ae hs;have HS4:=ae hs4;have HSC:=ae hsc;have HBL:=ae hbl;have hb8:base≤w8.heap.size:=Nat.le_trans adD Wy.size;clear GR hl8 hs4 hs hsc hbody hbl oM ZR Su;refine Sv.out.mono ?_;rintro e w9 ⟨rfl,rfl⟩;have LS:=ae (BC (T:=5) (xs:=([s1,s2,s3,s4]:Bytes).map bv) (Held.new w8 _ _));rw[←HSC.out] at LS;have O8:=ae (HO8.out.alloc (.cells #[.int .u8 ((s:Int) / 16777216),.int .u8 ((s:Int) / 65536 % 256),.int .u8 ((s:Int) / 256 % 256),.int .u8 ((s:Int) % 256)] 5));go_wp2_with (at_builtin;refine bP _ rfl (.tmp 44) (.tmp 56) _ rfl base 5 i0 (.int .u8 0) 1 1 Tryz.underlying22 HI.out HZ0.out HZ1.out HZ2.out rfl hz _ (y4.length+Q.length) ((aT x).map bv) rfl O8.out (w8.heap.size+1) (some ⟨w8.heap.size,0,none⟩) 4 4 (([s1,s2,s3,s4]:Bytes).map bv) rfl LS.out (fun e=>nomatch e) (lN _) (by unfold maxLen;omega) (by omega) (by simp;omega) ?_;intro v10 w10 SA ai9 amv;rw[←List.map_append] at SA);go_ret2;have henc:=uV HF0.out;refine⟨v10,by rw[henc];rfl,?_,af (af ai6 (World.grownBy_alloc w8 _ none) (.inl rfl)) ai9 ai7.out⟩;rw[henc];show w10.ownsRow base 5 1 v10 (ak x).length ((ak x).map bv);unfold ak;rw[←HS.out,HS4.out,List.length_append,HBL.out];exact SA
 · obtain⟨er,her⟩:∃er,er=fits x:=⟨_,rfl⟩;rw[←her] at CF hf;have HF:=ae her.symm;have hne:(er !=0)=true:=by rw[bne_iff_ne];exact hf
   have HNE:=ae hf;clear her hf;go_enter Tryz.func37,Tryz.ntmps37;go_wp2_with fail;rw[show w.alloc (.cells #[.int .i64 x.thread,.int .i64 x.first,.slice A n c] 50)=W from HW.out.symm];refine CF.out.mono ?_;rintro e w1 ⟨rfl,hg1⟩;go_wp2_with fail;go_ret2;exact qI HF.out HNE.out (af iW hg1 (.inl rfl))
