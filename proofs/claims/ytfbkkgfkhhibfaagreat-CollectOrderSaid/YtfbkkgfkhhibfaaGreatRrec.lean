/- Words. -/
import Derived.Test.YtfbkkgfkhhibfaaGreatRecM
set_option linter.unusedVariables false
set_option maxRecDepth 100000
set_option maxHeartbeats 8000000
namespace Go.Proofs.YtfbkkgfkhhibfaaGreat
open Go Go.RowKit Iv
theorem Gl (A:Option Addr)(n c B:Nat)(xs:Bytes)(most:Int)(w:World)(kQ:Lies w B 1 A n (xs.map bv))(hB:B≤w.heap.size)(hnc:n≤c)(hn:n≤1000000000)(base:Nat)(hbase:base≤w.heap.size):
 Calls Tryz.prog 153 #[.slice A n c,.int .i64 most] w fun e w'=>∃v',e= .returned (.tuple #[v',.int .i64 (unpack xs most).2])∧w'.ownsRow base 5 1 v' (unpack xs most).1.length ((unpack xs most).1.map bv)∧w.grownBy w' none∧At w none v'.ownBlock:=by
 have HL:=ae kQ.lenB;obtain⟨i0,hi,hz0,hz1,hz2⟩:=info_parts jF;have HI:=ae hi;have HZ0:=ae hz0;have HZ1:=ae hz1;have HZ2:=ae hz2;clear hi hz0 hz1 hz2;have hz:(0:Nat) < 1:=by omega
 go_enter Tryz.func153,Tryz.ntmps153;go_wp2_with fail;go_loopw [6,7,8,9,77] (fun v iv _ _ _ wr=>∃(k:Nat) (ys:Bytes) (vv:Value),vv=v∧iv= .int .i64 (k:Int)∧k≤n∧UnAt 5 w base most xs k ys vv wr) (fun _ iv _ _ _ _=>n - (intOf iv).toNat)
 case atStart=>exact ⟨0,[],_,rfl,rfl,Nat.zero_le _,UnAt.start _ _ _ _ _⟩
 case round=>
  obtain⟨k,ys,vv,rfl,rfl,hkn,hU⟩:=hrel;have hyl:ys.length≤130 * k:=hU.len;have LB:=kQ.grown hU.grown hB (fun g hg=>nomatch hg);obtain⟨Av,cv,hvv,_⟩:=aj hU.own;subst hvv;have HU:=ae hU;have hbw:base≤wr.heap.size:=Nat.le_trans hbase hU.grown.size;clear hU;by_cases hlt:k < n
  · obtain⟨ad,x,hA,_,hx,hcx⟩:=LB.byte hlt;subst hA;have hx8:=jf x;have HX:=ae hx;clear hx;by_cases h7:x.toNat < 128
    · have HF:=HU.out.lit HX.out h7;rw[HL.out] at HF;by_cases h1:n - (k+1) < x.toNat+1
      · rw[if_pos h1] at HF;have Zi:=ae HF;clear HF;go_wp2_with fail;go_ret2;rw[Zi.out];exact⟨_,rfl,World.ownsRow_nil _ _ _ _,HU.out.grown,.inl rfl⟩
      · rw[if_neg h1] at HF;by_cases h2:most < (ys.length:Int)+x.toNat+1
        · rw[if_pos h2] at HF;have Zi:=ae HF;clear HF;go_wp2_with fail;go_ret2;rw[Zi.out];exact⟨_,rfl,World.ownsRow_nil _ _ _ _,HU.out.grown,.inl rfl⟩
        · have hcut:Lies wr B 1 (some ⟨ad.block,ad.off+(k+1),none⟩) (k+x.toNat+2 - (k+1)) (((xs.drop (k+1)).take (x.toNat+1)).map bv):=by
           have h1:=(LB.drop (k:=k+1) (by omega)).take (m:=x.toNat+1) (by omega);simp only[Nat.mul_one] at h1;rw[←List.map_drop,←List.map_take] at h1;rw[show k+x.toNat+2 - (k+1)=x.toNat+1 from by omega];rw[show (⟨ad.block,ad.off+(k+1),none⟩:Addr)=ad.add (k+1) from by simp[Addr.add]];exact h1
          have Rk:=ae hcut;have AO:¬c=k+1:=by omega
          clear HF hcut;go_wp2_with (at_builtin;refine bP _ rfl (.tmp 35) (.tmp 43) _ rfl base 5 i0 (.int .u8 0) 1 1 Tryz.underlying22 HI.out HZ0.out HZ1.out HZ2.out rfl hz _ ys.length (ys.map bv) rfl HU.out.own B (some ⟨ad.block,ad.off+(k+1),none⟩) (k+x.toNat+2 - (k+1)) (c - (k+1)) _ rfl Rk.out (fun e=>nomatch e) (lN _) (by unfold maxLen;omega) (by omega) hbw ?_;intro v2 w2 hown2 hg2 lJ);rw[show k+x.toNat+2 - (k+1)=x.toNat+1 from by omega] at hown2;have HN:=ae (HU.out.litNext HX.out h7 (by rw[HL.out];omega) (by omega) hown2 hg2 lJ);clear hown2 hg2 lJ;go_roundw
          case rel=>exact ⟨k+x.toNat+2,_,_,rfl,by go_num,by omega,HN.out⟩
          case measure=>simp [intOf];omega
    · have h7':128≤x.toNat:=by omega
      by_cases h1:n≤k+1
      · have HF:=ae (HU.out.one HX.out h7' (by rw[HL.out];exact h1));go_wp2_with fail;go_ret2;rw[HF.out];exact⟨_,rfl,World.ownsRow_nil _ _ _ _,HU.out.grown,.inl rfl⟩
      · obtain⟨ad',d,hA',_,hd,hcd⟩:=LB.byte (show k+1 < n by omega);obtain rfl:ad=ad':=by injection hA'
        have hd8:=jf d;rw[show ad.add (k+1)=(⟨ad.block,ad.off+(k+1),none⟩:Addr) from by simp[Addr.add]] at hcd;have HD:=ae hd;have HF:=HU.out.copy HX.out h7' hd;clear hd hA';by_cases h0:d.toNat=0∨ys.length < d.toNat
        · rw[if_pos h0] at HF;have Zi:=ae HF;clear HF;by_cases h00:d.toNat=0
          · have hbe:(((d.toNat:Nat):Int)==0)=true:=by rw[beq_iff_eq];omega
            clear h00 h0;go_wp2_with fail;go_ret2;rw[Zi.out];exact⟨_,rfl,World.ownsRow_nil _ _ _ _,HU.out.grown,.inl rfl⟩
          · have hbe:(((d.toNat:Nat):Int)==0)=false:=by rw[beq_eq_false_iff_ne];omega
            have h01:(ys.length:Int) < (d.toNat:Int):=by omega
            clear h00 h0;go_wp2_with fail;go_ret2;rw[Zi.out];exact⟨_,rfl,World.ownsRow_nil _ _ _ _,HU.out.grown,.inl rfl⟩
        · rw[if_neg h0] at HF;have hbe:(((d.toNat:Nat):Int)==0)=false:=by rw[beq_eq_false_iff_ne];omega
          have h01:(d.toNat:Int)≤(ys.length:Int):=by omega
          have h02:1≤d.toNat:=by omega
          have H0:=ae h0;clear h0;by_cases h2:most < (ys.length:Int)+x.toNat - 125
          · rw[if_pos h2] at HF;have Zi:=ae HF;clear HF;go_wp2_with fail;go_ret2;rw[Zi.out];exact⟨_,rfl,World.ownsRow_nil _ _ _ _,HU.out.grown,.inl rfl⟩
          · clear HF;obtain⟨N,hN⟩:∃N,N=x.toNat - 125:=⟨_,rfl⟩;have HNN:=ae hN;have hN1:(N:Int)=(x.toNat:Int) - 125:=by omega
            have Yz:=ae hN1;have hN2:N≤130:=by omega
            clear hN hN1;go_wp2_with fail;go_loopw [6,77] (fun v jv wr=>∃(j:Nat) (zs:Bytes) (v2:Value),v2=v∧jv= .int .i64 (j:Int)∧CpAt 5 w base ys d.toNat N j zs v2 wr) (fun _ jv _=>N - (intOf jv).toNat)
            case atStart=>exact ⟨0,ys,_,rfl,rfl,⟨HU.out.own,HU.out.grown,HU.out.at_,by simp,Nat.zero_le _,rfl⟩⟩
            case round=>
             obtain⟨j,zs,v2,rfl,rfl,hC⟩:=hrel;have hjN:=hC.le;have hz1:zs.length≤ys.length+130:=by have:=hC.len;omega
             have hz2:ys.length≤zs.length:=by have:=hC.len;omega
             have hz3:(d.toNat:Int)≤(zs.length:Int):=by omega
             by_cases hj:j < N
             · obtain⟨y,hy⟩:=hC.get h02 (by omega);obtain⟨A2,c2,hv2,_,_,hl2,_⟩:=aj hC.own;obtain⟨ad2,y',hA2,_,hy',hcy⟩:=hl2.byte (show zs.length - d.toNat < zs.length by omega);obtain rfl:y=y':=by rw[hy] at hy';injection hy'
               subst hv2 hA2;have HY:=ae hy;have HC:=ae hC;have hjx:(j:Int) < (x.toNat:Int) - 125:=by have:=Yz.out;omega
               have hbz:base≤wr.heap.size:=Nat.le_trans hbase hC.grown.size;clear hy hy' hC hl2;go_wp2_with (at_builtin;refine bK _ rfl (.tmp 79) (.tmp 87) _ rfl base 5 i0 (.int .u8 0) 1 1 Tryz.underlying22 HI.out HZ0.out HZ1.out HZ2.out rfl hz _ (Value.slice (some ad2) zs.length c2).ownBlock zs.length (zs.map bv) rfl (App.own (HC.out.own.alloc _)) ⟨wr.heap.size,0,none⟩ 1 1 [.int .u8 (y.toNat:Int)] rfl hz rfl (fK _ _ _) (Am rfl) (by unfold maxLen;omega) (by omega) (by simp;omega) ?_;intro v3 w3 hown3 hg3 lM);have hg3':=bM hg3;have nK:=lM.alloc;have HCN:=ae (HC.out.next hj HY.out hown3 hg3' nK);clear hown3 hg3 lM hg3' nK;go_roundw
               case rel=>exact ⟨j+1,_,_,rfl,by go_num,HCN.out⟩
               case measure=>simp [intOf];omega
             · have HZ:=ae (hC.done (by omega));have hjx:¬(j:Int) < (x.toNat:Int) - 125:=by have:=Yz.out;omega
               have HC:=ae hC;clear hC;have HU2:=ae (HU.out.copyNext HX.out h7' HD.out H0.out (by omega) (by rw[HZ.out,HNN.out]) HC.out.own HC.out.grown HC.out.at_);go_wp2_with fail;go_roundw
               case rel=>exact ⟨k+2,_,_,rfl,by go_num,by omega,HU2.out⟩
               case measure=>simp [intOf];omega
  · have HF:=ae (HU.out.done (by rw[HL.out];omega));go_wp2_with fail;go_ret2;rw[HF.out];exact⟨_,rfl,HU.out.own,HU.out.grown,HU.out.at_⟩
def iH (rs:List Rec):Option (List Rec×Bytes)→Option (List Rec)
 | some (l,[])=>some (rs++l)
 | _=>none
def iI (thread:Int)(N:Nat)(ps:Bytes):Option (List Rec):=iH [] (dG thread N (-1) ps)
theorem Rj {thread seq:Int}{m k:Nat}{ps:Bytes}{r:Rec}(rs:List Rec)(h:dI ps thread seq=(r,k,0)):iH rs (dG thread (m+1) seq ps)=iH (rs++ [r]) (dG thread m r.seq (ps.drop k)):=by
 rw[dG,h];simp only[if_true]
 cases dG thread m r.seq (ps.drop k) with
 | none=>rfl
 |
  some p=>
  obtain⟨l,t⟩:=p
  cases t with
  | nil=>simp [iH]
  | cons a b=>rfl
theorem VR {thread seq:Int}{m:Nat}{ps:Bytes}(rs:List Rec)(h:(dI ps thread seq).2.2≠0):iH rs (dG thread (m+1) seq ps)=none:=by
 rw[dG,if_neg h];rfl
theorem VS {thread seq:Int}{ps:Bytes}(rs:List Rec):iH rs (dG thread 0 seq ps)=if ps.length=0 then some rs else none:=by
 cases ps with
 | nil=>simp [dG,iH]
 | cons a b=>simp [dG,iH]
def Nu (w:World)(res:Option (List Rec))(e:Ending)(w':World):Prop:=
 ∃(A:Option Addr) (n c:Nat) (rs:List Rec) (ok:Bool),e= .returned (.tuple #[.slice A n c,.bool ok])∧RecsNew w' w.heap.size A n rs∧w.grownBy w' none∧n≤c∧c≤maxLen∧(A=none→c=0)∧res=(if ok then some rs else none)
theorem oh {w w':World}{res:Option (List Rec)}(hr:res=none)(hg:w.grownBy w' none):Nu w res (.returned (.tuple #[.slice none 0 0,.bool false])) w':=
 ⟨none,0,0,[],false,rfl,RecsNew.nil _ _ _,hg,Nat.le_refl _,Nat.zero_le _,fun _=>rfl,hr⟩
theorem vV (A:Option Addr)(n c B:Nat)(xs:Bytes)(L:Int)(N:Nat)(thread:Int)(w:World)(h:Lies w B 1 A n (xs.map bv))(hB:B≤w.heap.size)(hnc:n≤c)(hn:n≤2000000)(hN:N≤1000000)(ht:inI64 thread):
 Calls Tryz.prog 118 #[.slice A n c,.int .i64 L,.int .i64 (N:Int),.int .i64 thread] w
  (Nu w (if (unpack xs L).2=0∧((unpack xs L).1.length:Int)=L then iI thread N (unpack xs L).1 else none)):=by
 have CU:=ae (Gl A n c B xs L w h hB hnc (by omega) w.heap.size (Nat.le_refl _));have hul:=JL xs L;rw[h.lenB] at hul;obtain⟨ps,er,hu⟩:∃ps er,unpack xs L=(ps,er):=⟨_,_,rfl⟩;rw[hu] at CU hul⊢;dsimp only at hul⊢;have HT:=ae ht;clear hu h ht;by_cases he:er=0
 · subst he;by_cases hlen:(ps.length:Int)=L
   · have hne:((ps.length:Int) !=L)=false:=by rw[bne_eq_false_iff_eq];exact hlen
     have zU:Hid ((if (0:Int)=0∧(ps.length:Int)=L then iI thread N ps else none)=iI thread N ps):=ae (if_pos ⟨rfl,hlen⟩);rw[zU.out];obtain⟨i0,hi,hz0,hz1,hz2⟩:=info_parts xK;have HI:=ae hi;have HZ0:=ae hz0;have HZ1:=ae hz1;have HZ2:=ae hz2;have hz:(0:Nat) < 8:=by omega
     clear hi hz0 hz1 hz2 hlen zU;go_enter Tryz.func118,Tryz.ntmps118;go_wp2_with fail;refine CU.out.mono ?_;rintro e w1 ⟨v1,rfl,hown1,hg1,jT⟩;obtain⟨A1,c1,hv1,JM,hcm1,hl1,ho1⟩:=aj hown1;subst hv1;have HL1:=ae hl1;have FM:=ae ho1;have Yz:=ae JM;clear hown1 hl1 ho1;go_wp2_with fail
     go_loopw [10,12,13,32] (fun pv lv sv iv wr=>∃(k:Nat) (seq:Int) (ps':Bytes) (Ap:Option Addr) (np cp:Nat) (rs:List Rec) (css:List Value) (vv:Value),vv=lv∧iv= .int .i64 (k:Int)∧k≤N∧sv= .int .i64 seq∧pv= .slice Ap np cp∧np≤cp∧(Ap=none→cp=0)∧np≤260000000∧
      Lies wr w1.heap.size 1 Ap np (ps'.map bv)∧wr.ownsRow w1.heap.size 54 8 vv rs.length css∧RowsAt wr w1.heap.size vv.ownBlock css rs∧rs.length=k∧w1.grownBy wr none∧At w1 none vv.ownBlock∧iH rs (dG thread (N - k) seq ps')=iI thread N ps) (fun _ _ _ iv _=>N - (intOf iv).toNat)
     case atStart=>exact ⟨0,-1,ps,A1,ps.length,c1,[],[],_,rfl,rfl,Nat.zero_le _,rfl,rfl,Yz.out,FM.out,by omega,HL1.out,World.ownsRow_nil _ _ _ _,RowsAt.nil _ _ _,rfl,World.grownBy.refl w1 none,.inl rfl,rfl⟩
     case round=>
      obtain⟨k,seq,ps',Ap,np,cp,rs,css,vv,rfl,rfl,hk,rfl,rfl,VF,hop,hnb,hlp,hown,hrow,hrl,hg,hat,hfin⟩:=hrel;have zV:=ae hfin;have HOP:=ae hop;have HLP:=ae hlp;have HRL:=ae hrl;have HLB:=ae hlp.lenB;have HG:=ae (af hg1 hg (.inl rfl));clear hfin hop hrl;by_cases hlt:k < N
      · obtain⟨r,kk,er,hgr⟩:∃r kk er,dI ps' thread seq=(r,kk,er):=⟨_,_,_,rfl⟩;have CR:=ae (Gm Ap np cp w1.heap.size ps' thread seq wr HLP.out hg.size VF HOP.out (by omega) hgr);unfold recV at CR;have VG:=ae hgr;have adi:Hid (N - k=(N - (k+1))+1):=ae (by omega);by_cases her:er=0
        · subst her;have ho:=uK HT.out hgr;have hkk:kk≤np:=by rw[←HLB.out];exact ho.2.2.2.2.1
          have HFN:=ae (show iH (rs++ [r]) (dG thread (N - (k+1)) r.seq (ps'.drop kk))=iI thread N ps from by rw[←zV.out,adi.out,Rj rs VG.out]);obtain⟨A',hA'⟩:∃A',(if cp=kk then Ap else Ap.map fun x=>x.add kk)=A':=⟨_,rfl⟩
          have hcut:Lies wr w1.heap.size 1 A' (np - kk) ((ps'.drop kk).map bv):=by
           have:=hlp.dropIf hkk VF;rw[Nat.mul_one,←List.map_drop,hA'] at this;exact this
          have adk:A'=none→cp - kk=0:=by
           intro e0;rw[←hA'] at e0;split at e0
           · omega
           · simp only[Option.map_eq_none_iff] at e0;have:=HOP.out e0;omega
          obtain⟨Av,cv,hvv,hvn,hvm,_,hvo⟩:=aj hown;have hlt0:∀g,vv.ownBlock=some g→g < wr.heap.size:=fun g e=>(hown.lt g e).2
          have VT:w1.heap.size≤wr.heap.size:=hg.size;have Rk:=ae hcut;have HA0:=ae adk;have HOWN:=ae hown;have zW:=ae hrow;have Zu:=ae hlt0;have HVO:=ae hvo;have k1:(0:Int)≤(kk:Int):=by omega
          have k2:(kk:Int)≤(np:Int):=by omega
          have k3:(kk:Int)≤(cp:Int):=by omega
          clear ho hgr hlp hown hrow hcut adk hlt0 hvo;subst hvv;go_upto_region 8 with fail;go_wp2_with fail;refine CR.out.mono ?_;rintro e w2 ⟨Ad,cd,Af,cf,rfl,hd2,hf2,hg2⟩;obtain⟨W2,hW2⟩:∃W2,W2=w2.alloc (.cells #[.int .i64 r.seq,.int .i64 r.ev.thread,.int .i64 r.ev.kind,.int .i64 r.ev.obj,.int .i64 r.ev.value,.int .i64 r.ev.site,.slice Ad r.ev.deps.length cd,.slice Af r.ev.from_.length cf] 54):=⟨_,rfl⟩;have lK:w2.grownBy W2 none:=by rw[hW2];exact World.grownBy_alloc w2 _ none
          have hb2:Held W2 w2.heap.size 54 (recV r Ad r.ev.deps.length cd Af r.ev.from_.length cf):=by rw[hW2];exact Held.new _ _ _
          have Rl:=af hg2 lK (.inl rfl);have HB2:=ae hb2;have HW2:=ae hW2;have aiF:=ae (ay HOWN.out Rl (fun _ _ e=>nomatch e));have aiG:=ae (zW.out.keep Rl);have HOD:=ae (Off.ofOwn hd2 Zu.out);have aiI:=ae (Lo.ofOwn hd2 VT);have aiJ:=ae (Lo.ofOwn hf2 VT);have HOF:=ae (Off.ofOwn hf2 Zu.out);have HLD:=ae (((Lies.ofOwn hd2).grown lK (Nat.le_refl _) (fun _ e=>nomatch e)).more lK.size);have HLF:=ae (((Lies.ofOwn hf2).grown lK (Nat.le_refl _) (fun _ e=>nomatch e)).more lK.size);have Gn:=ae Rl;have hsz:wr.heap.size≤w2.heap.size:=hg2.size;have hsz2:w1.heap.size≤W2.heap.size:=Nat.le_trans VT Rl.size;have VU:=ae hb2.lt;clear hW2 hb2 hd2 hf2 lK Rl;go_upto_region 9 with fail;rw[show w2.alloc (.cells #[.int .i64 r.seq,.int .i64 r.ev.thread,.int .i64 r.ev.kind,.int .i64 r.ev.obj,.int .i64 r.ev.value,.int .i64 r.ev.site,.slice Ad r.ev.deps.length cd,.slice Af r.ev.from_.length cf] 54)=W2 from HW2.out.symm];obtain⟨d0,d1,d2,d3,d4,d5,d6,d7⟩:=Rn HB2.out;go_wp2_with (at_builtin;refine bK _ rfl (.tmp 44) (.tmp 46) _ rfl w1.heap.size 54 i0 _ 8 96 Tryz.underlying48 HI.out HZ0.out HZ1.out HZ2.out rfl hz _ (Value.slice Av rs.length cv).ownBlock rs.length css rfl (App.own (aiF.out.alloc _)) ⟨W2.heap.size,0,none⟩ 1 1 (recV r Ad r.ev.deps.length cd Af r.ev.from_.length cf).toList rfl (by omega) rfl (Ro W2 _ r Ad _ cd Af _ cf) (Rq _ _ _ _ _ _ _) (by unfold maxLen;have:=HRL.out;omega) (by have:=HRL.out;omega) (by simp;omega) ?_;intro v4 w4 hown4 hg4 qx;obtain⟨A4,c4,hv4,aiL,aiM,_,aiN⟩:=aj hown4;have hd0:w4.cell? ⟨w2.heap.size,0,none⟩=some (.int .i64 r.seq):=(((HB2.out.alloc _).grown hg4 (fun e=>by have:=Zu.out _ e.symm;omega)).cell 0);subst hv4);have Zv:wr.grownBy w4 (Value.slice Av rs.length cv).ownBlock:=af (af (dO Gn.out _) (World.grownBy_alloc W2 _ _) (.inl rfl)) hg4 (.inl rfl);have YA:At wr (Value.slice Av rs.length cv).ownBlock (Value.slice A4 (rs.length+1) c4).ownBlock:=(At.refl wr _).trans qx (by have:=Gn.out.size;simp;omega);have adn:=((RowsAt.snoc (cd:=cd) (cf:=cf) (aiG.out.keep (World.grownBy_alloc W2 (.cells (recV r Ad r.ev.deps.length cd Af r.ev.from_.length cf) 54) none)) ((HLD.out.allocAny _).more (World.grownBy_alloc W2 _ none).size) ((HLF.out.allocAny _).more (World.grownBy_alloc W2 _ none).size) HOD.out HOF.out aiI.out aiJ.out)).grow hg4 qx;have aiO:=ae adn;have aiP:=ae hown4;have aiQ:=ae (Rk.out.grown Zv VT (fun g e=>(HOWN.out.lt g e).1));have Nv:=ae (af hg Zv hat);have aiR:=ae (hat.trans YA hg.size);clear hown4 adn Zv YA hg4 qx;go_roundw
          case rel=>exact ⟨k+1,r.seq,ps'.drop kk,A',np - kk,cp - kk,rs++ [r],_,_,rfl,by go_num,by omega,rfl,rfl,by omega,HA0.out,by omega,aiQ.out,by rw[List.length_append];exact aiP.out,aiO.out,by rw[List.length_append,HRL.out];rfl,Nv.out,aiR.out,HFN.out⟩
          case measure=>simp [intOf];omega
        · have ado:=ae (show iI thread N ps=none from by rw[←zV.out,adi.out,VR rs (by rw[VG.out];exact her)]);have hbe:(er !=0)=true:=by rw[bne_iff_ne];exact her
          clear her hgr hown hrow hlp;go_wp2_with fail;refine CR.out.mono ?_;rintro e w2 ⟨Ad,cd,Af,cf,rfl,hd2,hf2,hg2⟩;clear hd2 hf2;go_wp2_with fail;go_ret2;exact oh ado.out (af (af HG.out hg2 (.inl rfl)) (World.grownBy_alloc w2 _ none) (.inl rfl))
      · have hkN:k=N:=by omega
        have HKN:=ae hkN;have aiS:=ae (show iI thread N ps=if np=0 then some rs else none from by rw[←zV.out,HKN.out,Nat.sub_self,VS,HLB.out]);have HRR:=ae hrow;have HOW:=ae hown;clear hkN hlp hrow;obtain⟨A5,c5,hv5,Zw,Zx,hl5,Zy⟩:=aj hown;subst hv5;clear hown hl5;go_wp2_with fail;go_ret2;refine⟨A5,rs.length,c5,rs,((np:Int)==0),rfl,(HRR.out.recs HOW.out rfl (Nat.le_refl _)).lower hg1.size,HG.out,Zw,Zx,Zy,?_⟩;rw[aiS.out];by_cases h0:np=0 <;> simp[h0]
   · have hne:((ps.length:Int) !=L)=true:=by rw[bne_iff_ne];exact hlen
     have zU:Hid ((if (0:Int)=0∧(ps.length:Int)=L then iI thread N ps else none)=none):=ae (if_neg (fun hh=>hlen hh.2));rw[zU.out];clear hlen zU;go_enter Tryz.func118,Tryz.ntmps118;go_wp2_with fail;refine CU.out.mono ?_;rintro e w1 ⟨v1,rfl,hown1,hg1,jT⟩;obtain⟨A1,c1,hv1,JM,hcm1,hl1,ho1⟩:=aj hown1;subst hv1;clear hown1 hl1;go_wp2_with fail;go_ret2;exact oh rfl hg1
 · have zU:Hid ((if er=0∧(ps.length:Int)=L then iI thread N ps else none)=none):=ae (if_neg (fun hh=>he hh.1));have hbe:(er !=0)=true:=by rw[bne_iff_ne];exact he
   rw[zU.out];clear he zU;go_enter Tryz.func118,Tryz.ntmps118;go_wp2_with fail;refine CU.out.mono ?_;rintro e w1 ⟨v1,rfl,hown1,hg1,jT⟩;clear hown1;go_wp2_with fail;go_ret2;exact oh rfl hg1
