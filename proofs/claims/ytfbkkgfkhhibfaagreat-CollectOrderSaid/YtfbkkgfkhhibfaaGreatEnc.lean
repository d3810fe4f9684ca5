/- Words. -/
import Derived.Test.YtfbkkgfkhhibfaaGreatRecM
import Derived.Test.YtfbkkgfkhhibfaaGreatPkP
set_option linter.unusedVariables false
set_option maxRecDepth 100000
set_option maxHeartbeats 8000000
namespace Go.Proofs.YtfbkkgfkhhibfaaGreat
open Go Go.RowKit Iv
theorem Jk (n:Nat):bv (UInt8.ofNat n)= .int .u8 ((n:Int) % 256):=by
 unfold bv;congr 1
theorem yf (s:Nat)(h:s < 4294967296):(#[.int .u8 ((s:Int) / 16777216),.int .u8 ((s:Int) / 65536 % 256),.int .u8 ((s:Int) / 256 % 256),.int .u8 ((s:Int) % 256)]:Array Value)=((qF s).map bv).toArray:=by
 unfold qF;simp only[List.map_cons,List.map_nil,Jk];rw[show ((s / 16777216:Nat):Int) % 256=(s:Int) / 16777216 from by omega,show ((s / 65536:Nat):Int) % 256=(s:Int) / 65536 % 256 from by omega,show ((s / 256:Nat):Int) % 256=(s:Int) / 256 % 256 from by omega]
theorem sF (A:Option Addr)(n c B:Nat)(xs:Bytes)(w:World)(h:Lies w B 1 A n (xs.map bv))(hB:B≤w.heap.size)(hn:n≤1000000000):
 Calls Tryz.prog 82 #[.slice A n c] w fun e w'=>e= .returned (.agg ((qF (wS xs)).map bv).toArray)∧w.grownBy w' none:=by
 have CS:=ae (fun (W:World) (hg:w.grownBy W none)=>Vu A n c xs W B (h.grown hg hB (fun _ e=>nomatch e)) (by omega));have hlt:=RU xs;obtain⟨s,hs⟩:∃s,s=wS xs:=⟨_,rfl⟩;rw[←hs] at CS hlt⊢;have HS:=ae hlt;clear hs;go_enter Tryz.func82,Tryz.ntmps82;go_wp2_with fail;refine (CS.out _ (World.grownBy_alloc w _ none)).mono ?_;rintro e w1 ⟨rfl,rfl⟩;go_wp2_with fail;refine bodyPost_ret (v:= .agg #[.int .u8 ((s:Int) / 16777216),.int .u8 ((s:Int) / 65536 % 256),.int .u8 ((s:Int) / 256 % 256),.int .u8 ((s:Int) % 256)]) (by simp[results,Tryz.results82,go_sem]) rfl ⟨?_,World.grownBy_alloc w _ none⟩;rw[yf s HS.out]
structure RecNums (r:Rec):Prop where
 seq:inI64 r.seq
 thread:inI64 r.ev.thread
 kind:inI64 r.ev.kind
 obj:inI64 r.ev.obj
 value:inI64 r.ev.value
 site:inI64 r.ev.site
 deps:allI64 r.ev.deps
 from_:allI64 r.ev.from_
theorem rM {thread seq:Int}{rs:List Rec}(h:okRecs thread seq rs=true)(hn:∀r∈rs,RecNums r):∀r∈rs,RecOk r:=by
 intro r hr;have h1:=jE thread rs seq h r hr;have h2:=hn r hr;exact⟨h2.seq,h2.thread,h2.kind,h2.obj,h2.value,h2.site,h2.deps,h2.from_,h1.2.1,h1.2.2.1⟩
theorem rH {rs:List Rec}{k:Nat}{r:Rec}(hr:rs[k]?=some r)(seq:Int):aP seq (rs.drop k)=bD r seq++aP r.seq (rs.drop (k+1)):=by
 obtain⟨hl,rfl⟩:=List.getElem?_eq_some_iff.1 hr;rw[List.drop_eq_getElem_cons hl,aP]
def pI:List Int→Bytes
 | []=> []
 | n :: t=>aF n++pI t
theorem vN (a b c d:Int):pI [a,b,c,d]=aF a++(aF b++(aF c++aF d)):=by simp[pI]
def DJ (w:World)(base:Nat)(x:Blk)(e:Ending)(w':World):Prop:=
 ∃v',e= .returned (.tuple #[v',.int .i64 (encode x).2])∧w'.ownsRow base 5 1 v' (encode x).1.length ((encode x).1.map bv)∧w.grownBy w' none
theorem qI {w w':World}{base:Nat}{x:Blk}{er:Int}(hf:fits x=er)(h0:er≠0)(hg:w.grownBy w' none):DJ w base x (.returned (.tuple #[.slice none 0 0,.int .i64 er])) w':=by
 have:encode x=([],er):=by unfold encode;rw[hf,if_neg h0]
 refine⟨.slice none 0 0,by rw[this],?_,hg⟩;rw[this];exact World.ownsRow_nil _ _ _ _
theorem NI (w:World)(base:Nat)(e:TypeId)(xs:List Value)(hb:base≤w.heap.size)(hm:xs.length≤maxLen):(w.alloc (.cells xs.toArray e)).ownsRow base e 1 (.slice (some ⟨w.heap.size,0,none⟩) xs.length xs.length) xs.length xs:=
 ⟨by simp,.inr ⟨w.heap.size,xs.length,xs.toArray,rfl,hb,heap_alloc_new w _,Nat.le_refl _,hm,by simp,by simp⟩⟩
theorem yc (t:Int)(h:0≤t∧t < 4):([.int .u8 84,.int .u8 t]:List Value)=([84,UInt8.ofNat (t % 256).toNat]:Bytes).map bv:=by
 simp only[List.map_cons,List.map_nil,Jk];rw[show (((t % 256).toNat:Nat):Int) % 256=t from by omega];rfl
theorem agu (g j:Nat):(⟨g,0,none⟩:Addr).add j=⟨g,j,none⟩:=by unfold Addr.add;split <;> simp_all
theorem BC {W:World}{g:Nat}{T:TypeId}{xs:List Value}(h:Held W g T xs.toArray):Lies W (g+1) 1 (some ⟨g,0,none⟩) xs.length xs:=
 ⟨by simp,fun _=>⟨_,rfl,Nat.lt_succ_self _,fun j u hu=>by rw[agu,h.cell j];simpa using hu⟩⟩
theorem qH (c:Nat):∃a b d e:UInt8,qF c= [a,b,d,e]:=⟨_,_,_,_,rfl⟩
theorem uV {x:Blk}(h:fits x=0):encode x=(ak x,0):=by unfold encode;rw[if_pos h]
theorem Fv (x:Blk)(A:Option Addr)(n c B:Nat)(w:World)(h:Recs w B A n x.recs)(hB:B≤w.heap.size)(hin:∀r∈x.recs,RecNums r)(hf0:fits x=0)(base:Nat)(hbase:base≤w.heap.size):
 Calls Tryz.prog 46 #[.agg #[.int .i64 x.thread,.int .i64 x.first,.slice A n c]] w (DJ w base x):=by
 have HL:=ae h.1;obtain⟨z0,z1,z2,z3,z4,z5,z6⟩:=dR hf0;have adw:n≤64:=by rw[←h.1];exact z1
 have anH:0 < n:=by rw[←h.1];exact z0
 have hok:kJ x=true:=by
  unfold fits at hf0;rw[if_neg (by omega)] at hf0;split at hf0
  · assumption
  · cases hf0
 obtain⟨W,hW⟩:∃W,W=w.alloc (.cells #[.int .i64 x.thread,.int .i64 x.first,.slice A n c] 50):=⟨_,rfl⟩;have iW:w.grownBy W none:=by rw[hW];exact World.grownBy_alloc w _ none
 have hb0:Held W w.heap.size 50 #[.int .i64 x.thread,.int .i64 x.first,.slice A n c]:=by rw[hW];exact Held.new _ _ _
 have HW:=ae hW;have HB0:=ae hb0;have alZ:=ae (rM z6 hin);have HIN:=ae hin;have hpl:=gz x.recs (-1) (rM z6 hin);rw[h.1] at hpl;obtain⟨P,hP⟩:∃P,P=aP (-1) x.recs:=⟨_,rfl⟩;rw[←hP] at hpl;have HP:=ae hP;have CA:=ae (uP x A n c B W (h.grown iW hB (fun _ e=>nomatch e)) (Nat.le_trans hB iW.size) (by omega));rw[hok] at CA;have HF0:=ae hf0;have hbW:base≤W.heap.size:=Nat.le_trans hbase iW.size;clear hW hb0 hok z0 z1 z6 hP hin hf0;go_enter Tryz.func46,Tryz.ntmps46;go_wp2_with fail;rw[show w.alloc (.cells #[.int .i64 x.thread,.int .i64 x.first,.slice A n c] 50)=W from HW.out.symm];refine CA.out.mono ?_;rintro e w1 ⟨rfl,hg1⟩;have HB1:=ae (HB0.out.grown hg1 (fun e=>nomatch e));have f0:w1.cell? ⟨w.heap.size,0,none⟩=some (.int .i64 x.thread):=HB1.out.cell 0;have f1:w1.cell? ⟨w.heap.size,1,none⟩=some (.int .i64 x.first):=HB1.out.cell 1;have f2:w1.cell? ⟨w.heap.size,2,none⟩=some (.slice A n c):=HB1.out.cell 2;go_wp2_with fail;clear f0 f1 f2;go_loopw [4,5,7,23] (fun pv sv _ iv wr=>∃(k:Nat) (seq:Int) (ys:Bytes) (vv:Value),vv=pv∧iv= .int .i64 (k:Int)∧k≤n∧sv= .int .i64 seq∧inI64 seq∧wr.ownsRow base 5 1 vv ys.length (ys.map bv)∧W.grownBy wr none∧At W none vv.ownBlock∧ys++aP seq (x.recs.drop k)=P) (fun _ _ _ iv _=>n - (intOf iv).toNat)
 case atStart=>exact ⟨0,-1,[],_,rfl,rfl,Nat.zero_le _,rfl,⟨by omega,by omega⟩,World.ownsRow_nil _ _ _ _,hg1,.inl rfl,by rw[HP.out];rfl⟩
 case round=>
  clear hg1;obtain⟨k,seq,ys,vv,rfl,rfl,hk,rfl,hseq,hown,hg,hat,heq⟩:=hrel;have HE:=ae heq
  have hyl:ys.length≤600000:=by
   have:=congrArg List.length heq;rw[List.length_append] at this;omega
  have hgw:=af iW hg (.inl rfl);have hbr:base≤wr.heap.size:=Nat.le_trans hbase hgw.size;clear heq;by_cases hlt:k < n
  · obtain⟨b,o,r,Ad,nd,cd,Af,nf,cf,hA,hb,hr,hH⟩:=(h.grown hgw hB (fun _ e=>nomatch e)).at hlt;obtain⟨c0,c1,c2,c3,c4,c5,c6,c7⟩:=hH.all;obtain⟨Ap,cp,hpv,hpc,hpm,hpl2,hpo⟩:=aj hown;subst hpv;obtain⟨W2,hW2⟩:∃W2,W2=wr.alloc (.cells #[.int .i64 r.seq,.int .i64 r.ev.thread,.int .i64 r.ev.kind,.int .i64 r.ev.obj,.int .i64 r.ev.value,.int .i64 r.ev.site,.slice Ad nd cd,.slice Af nf cf] 54):=⟨_,rfl⟩;have lK:wr.grownBy W2 none:=by rw[hW2];exact World.grownBy_alloc wr _ none
    have hb2:Held W2 wr.heap.size 54 (recV r Ad nd cd Af nf cf):=by rw[hW2];exact Held.new _ _ _
    have HB2:=ae hb2;have HW2:=ae hW2;have hBr:B≤wr.heap.size:=Nat.le_trans hB hgw.size;have hrm:r∈x.recs:=List.mem_of_getElem? hr;have HRO:=ae (alZ.out r hrm)
    have CAP:=ae (Hy Ap ys.length cp wr.heap.size ys r Ad nd cd Af nf cf seq W2 (hpl2.grown lK (Nat.le_refl _) (fun _ e=>nomatch e)) hpc (by omega) HRO.out hseq
     ((hH.ld.grown lK hBr (fun _ e=>nomatch e)).more hBr) ((hH.lf.grown lK hBr (fun _ e=>nomatch e)).more hBr) lK.size base (Nat.le_trans hbr lK.size))
    unfold recV at CAP;have HPD:=ae (rH hr seq);have agv:=ae lK;clear hH hr hW2 hb2 hpl2 hown lK hrm;subst hA;go_upto_region 10 with fail;rw[show wr.alloc (.cells #[.int .i64 r.seq,.int .i64 r.ev.thread,.int .i64 r.ev.kind,.int .i64 r.ev.obj,.int .i64 r.ev.value,.int .i64 r.ev.site,.slice Ad nd cd,.slice Af nf cf] 54)=W2 from HW2.out.symm];clear c0 c1 c2 c3 c4 c5 c6 c7;obtain⟨d0,d1,d2,d3,d4,d5,d6,d7⟩:=Rn HB2.out;go_wp2_with fail;refine CAP.out.mono ?_;rintro e w3 ⟨v3,rfl,hown3,hg3,lM⟩;clear d0 d1 d2 d3 d4 d5 d6 d7;have d0:w3.cell? ⟨wr.heap.size,0,none⟩=some (.int .i64 r.seq):=(HB2.out.grown hg3 (fun e=>nomatch e)).cell 0;have al0:=af agv.out hg3 (.inl rfl);have hgn:=af hg al0 (.inl rfl);have LP:At W none v3.ownBlock:=(At.refl W none).trans lM (Nat.le_trans hg.size agv.out.size);have Bi:=ae hown3;clear hown3;go_wp2_with fail;go_roundw
    case rel=>exact ⟨k+1,r.seq,ys++bD r seq,_,rfl,by go_num,by omega,rfl,HRO.out.seq,Bi.out,hgn,LP,by rw[←HE.out,HPD.out,List.append_assoc]⟩
    case measure=>simp [intOf];omega
  · have hyP:ys=P:=by
     have e1:=HE.out;rw[List.drop_eq_nil_of_le (by rw[HL.out];omega),aP,List.append_nil] at e1;exact e1
    subst hyP;obtain⟨Ap,cp,hpv,hpc,hpm,hpl2,hpo⟩:=aj hown;subst hpv;have CPK:=ae (P8 Ap ys.length cp wr.heap.size ys wr hpl2 (Nat.le_refl _) hpc (by omega) base hbr);obtain⟨Q,hQ⟩:∃Q,Q=pack ys:=⟨_,rfl⟩;rw[←hQ] at CPK
    have hql:Q.length≤700000:=by
     have:=dA ys;rw[hQ];omega
    have HQ:=ae hQ;have Qn:=ae (HB0.out.grown hg (fun e=>nomatch e));clear hQ hown hpl2;go_wp2_with fail;refine CPK.out.mono ?_;rintro e w2 ⟨v2,rfl,hown2,hg2,lJ⟩;obtain⟨A2,c2,hv2,AO,hcm2,hl2,ho2⟩:=aj hown2;subst hv2;have xN:=ae hown2;have HL2:=ae hl2;have hbw2:base≤w2.heap.size:=Nat.le_trans hbr hg2.size;have f0:w2.cell? ⟨w.heap.size,0,none⟩=some (.int .i64 x.thread):=(Qn.out.grown hg2 (fun e=>nomatch e)).cell 0;have f1:w2.cell? ⟨w.heap.size,1,none⟩=some (.int .i64 x.first):=(Qn.out.grown hg2 (fun e=>nomatch e)).cell 1;have f2:w2.cell? ⟨w.heap.size,2,none⟩=some (.slice A n c):=(Qn.out.grown hg2 (fun e=>nomatch e)).cell 2;have fz:w.heap.size < w2.heap.size:=(Qn.out.grown hg2 (fun e=>nomatch e)).lt;clear hown2 hl2;go_wp2_with fail;obtain⟨Hd,hHd⟩:∃Hd,Hd=eP x.thread x.first n ys.length Q.length:=⟨_,rfl⟩
    have hst:([84,UInt8.ofNat (x.thread % 256).toNat]:Bytes)++pI ([x.first,(n:Int),(ys.length:Int),(Q.length:Int)].drop 0)=Hd:=by
     rw[hHd,List.drop_zero,vN];rfl
    have hHl:Hd.length≤100:=by
     rw[←hst,List.drop_zero,vN];have q1:=aI (n:=x.first) ⟨by omega,by omega⟩;have q2:=aI (n:=(n:Int)) ⟨by omega,by omega⟩;have q3:=aI (n:=(ys.length:Int)) ⟨by omega,by omega⟩;have q4:=aI (n:=(Q.length:Int)) ⟨by omega,by omega⟩;simp only[List.length_append,List.length_cons,List.length_nil];omega
    have HST:=ae hst;have HHD:=ae hHd
    have O0:(w2.alloc (.cells #[.int .u8 84,.int .u8 x.thread] 5)).ownsRow base 5 1 (.slice (some ⟨w2.heap.size,0,none⟩) 2 2) 2 (([84,UInt8.ofNat (x.thread % 256).toNat]:Bytes).map bv):=by
     rw[←yc x.thread ⟨by omega,by omega⟩];exact NI w2 base 5 [.int .u8 84,.int .u8 x.thread] hbw2 (by unfold maxLen;simp)
    have PI:=ae O0;clear hst hHd O0;go_loopw [9,11,50] (fun bvv _ iv wx=>∃(k:Nat) (zs:Bytes) (vb:Value),vb=bvv∧iv= .int .i64 (k:Int)∧k≤4∧wx.ownsRow base 5 1 vb zs.length (zs.map bv)∧w2.grownBy wx none∧At w2 none vb.ownBlock∧zs++pI ([x.first,(n:Int),(ys.length:Int),(Q.length:Int)].drop k)=Hd) (fun _ _ iv _=>4 - (intOf iv).toNat)
    case atStart=>exact ⟨0,[84,UInt8.ofNat (x.thread % 256).toNat],_,rfl,rfl,by omega,PI.out,World.grownBy_alloc w2 _ none,.inr ⟨_,rfl,Nat.le_refl _⟩,HST.out⟩
    case round=>
     obtain⟨k2,zs,vb,rfl,rfl,hk4,hob,hgb,agw,hzs⟩:=hrel;have QJ:=ae hzs
     have hzl:zs.length≤100:=by
      have:=congrArg List.length hzs;rw[List.length_append] at this;omega
     have hbx:base≤wr.heap.size:=Nat.le_trans hbw2 hgb.size;clear hzs;by_cases hlt4:k2 < 4
     · have hix:∃m:Int,inI64 m∧(∀w,(Instr.index 202 (.agg #[.int .i64 x.first,.int .i64 (n:Int),.int .i64 (ys.length:Int),.int .i64 (Q.length:Int)]) (.int .i64 (k2:Int))).run Tryz.prog w= .ok (.int .i64 m) w)∧
        pI ([x.first,(n:Int),(ys.length:Int),(Q.length:Int)].drop k2)=aF m++pI ([x.first,(n:Int),(ys.length:Int),(Q.length:Int)].drop (k2+1)):=by
        rcases (show k2=0∨k2=1∨k2=2∨k2=3 by omega) with rfl | rfl | rfl | rfl
        · exact⟨x.first,⟨by omega,by omega⟩,fun w=>by kernel_rfl,rfl⟩
        · exact⟨n,⟨by omega,by omega⟩,fun w=>by kernel_rfl,rfl⟩
        · exact⟨ys.length,⟨by omega,by omega⟩,fun w=>by kernel_rfl,rfl⟩
        · exact⟨Q.length,⟨by omega,by omega⟩,fun w=>by kernel_rfl,rfl⟩
       obtain⟨m,hm,hidx,hpa⟩:=hix;have HPA:=ae hpa;obtain⟨Ab,cb,hvb,hnb,_,hlb,_⟩:=aj hob;subst hvb;have CPI:=ae (Ls Ab zs.length cb wr.heap.size zs m wr hlb hnb hm (by omega) base hbx);clear hpa hm hob hlb;go_wp2_with fail;refine CPI.out.mono ?_;rintro e w4 ⟨v4,rfl,hown4,hg4,qx⟩;have Gq:=ae hown4;have hgn:=af hgb hg4 (.inl rfl);have LP:At w2 none v4.ownBlock:=(At.refl w2 none).trans qx hgb.size;clear hown4;go_wp2_with fail;go_roundw
       case rel=>exact ⟨k2+1,zs++aF m,_,rfl,by go_num,by omega,Gq.out,hgn,LP,by rw[←QJ.out,HPA.out,List.append_assoc]⟩
       case measure=>simp [intOf];omega
     · have agx:k2=4:=by omega
       have hzH:zs=Hd:=by
        have e1:=QJ.out;rw[agx] at e1;simpa [pI] using e1
       obtain⟨i0,hi,hz0,hz1,hz2⟩:=info_parts jF;have HI:=ae hi;have HZ0:=ae hz0;have HZ1:=ae hz1;have HZ2:=ae hz2;have hz:(0:Nat) < 1:=by omega
       have HZH:=ae hzH;have LQ:=ae (HL2.out.grown hgb (Nat.le_refl _) (fun _ e=>nomatch e));clear hi hz0 hz1 hz2 agx hzH;go_wp2_with (at_builtin;refine bP _ rfl (.tmp 57) (.tmp 58) _ rfl base 5 i0 (.int .u8 0) 1 1 Tryz.underlying22 HI.out HZ0.out HZ1.out HZ2.out rfl hz _ zs.length (zs.map bv) rfl hob w2.heap.size A2 Q.length c2 (Q.map bv) rfl LQ.out ho2 (lN _) (by unfold maxLen;omega) (by omega) hbx ?_;intro v5 w5 hown5 hg5 ZP;rw[←List.map_append] at hown5;obtain⟨A5,c5,hv5,Zw,Zx,hl5,Zy⟩:=aj hown5;subst hv5);have agy:w.grownBy w2 none:=af (af iW hg (.inl rfl)) hg2 (.inl rfl);have agz:w.grownBy w5 none:=af agy (af hgb hg5 (agw)) (.inl rfl);have al1:=ae ((At.refl w none).trans (agw.trans ZP hgb.size) agy.size)
       have hbody:zs++Q=aT x:=by
        rw[HZH.out,HHD.out,HQ.out,HP.out];unfold aT;rw[HL.out]
       have hbl:(aT x).length=zs.length+Q.length:=by rw[←hbody,List.length_append]
       rw[hbody] at hown5 hl5;have JQ:=ae hown5;obtain⟨s1,s2,s3,s4,hs4⟩:=qH (wS (aT x));have Sv:=ae (sF A5 (zs.length+Q.length) c5 w5.heap.size (aT x) w5 hl5 (Nat.le_refl _) (by omega));rw[hs4] at Sv;simp only[List.map_cons,List.map_nil,bv] at Sv;have HS4:=ae hs4;have HBD:=ae hbody;have HBL:=ae hbl;have hb5:base≤w5.heap.size:=Nat.le_trans hbase agz.size;clear hown5 hl5 hs4 hbody hbl hob;refine Sv.out.mono ?_;rintro e w6 ⟨rfl,Ky⟩;have hb6:base≤w6.heap.size:=Nat.le_trans hb5 Ky.size;have LS:=ae (BC (T:=203) (xs:=([s1,s2,s3,s4]:Bytes).map bv) (Held.new w6 _ _));simp only[List.map_cons,List.map_nil,bv,List.length_cons,List.length_nil] at LS;have O6:=ae ((ay JQ.out Ky (fun _ _ e=>nomatch e)).alloc (.cells #[.int .u8 (s1.toNat:Int),.int .u8 (s2.toNat:Int),.int .u8 (s3.toNat:Int),.int .u8 (s4.toNat:Int)] 203));go_wp2_with (at_builtin;refine bP _ rfl (.tmp 62) (.tmp 63) _ rfl base 5 i0 (.int .u8 0) 1 1 Tryz.underlying22 HI.out HZ0.out HZ1.out HZ2.out rfl hz _ (zs.length+Q.length) ((aT x).map bv) rfl O6.out (w6.heap.size+1) (some ⟨w6.heap.size,0,none⟩) 4 4 (([s1,s2,s3,s4]:Bytes).map bv) rfl LS.out (fun e=>nomatch e) (lN _) (by unfold maxLen;omega) (by omega) (by simp;omega) ?_;intro v7 w7 oM Kz ZR;rw[←List.map_append] at oM);go_ret2;have henc:=uV HF0.out;refine⟨v7,by rw[henc];rfl,?_,af (af (af agz Ky (.inl rfl)) (World.grownBy_alloc w6 _ none) (.inl rfl)) Kz al1.out⟩;rw[henc];show w7.ownsRow base 5 1 v7 (ak x).length ((ak x).map bv);unfold ak;rw[HS4.out,List.length_append,HBL.out];exact oM
theorem IC (x:Blk)(A:Option Addr)(n c B:Nat)(w:World)(h:Recs w B A n x.recs)(hB:B≤w.heap.size)(hin:∀r∈x.recs,RecNums r)(hn:n≤1000000)(base:Nat)(hbase:base≤w.heap.size):
 Calls Tryz.prog 46 #[.agg #[.int .i64 x.thread,.int .i64 x.first,.slice A n c]] w (DJ w base x):=by
 have HL:=ae h.1;obtain⟨W,hW⟩:∃W,W=w.alloc (.cells #[.int .i64 x.thread,.int .i64 x.first,.slice A n c] 50):=⟨_,rfl⟩;have iW:w.grownBy W none:=by rw[hW];exact World.grownBy_alloc w _ none
 have hb0:Held W w.heap.size 50 #[.int .i64 x.thread,.int .i64 x.first,.slice A n c]:=by rw[hW];exact Held.new _ _ _
 have HW:=ae hW;have HB0:=ae hb0;clear hW hb0;by_cases h64:64 < n
 · have HF:Hid (fits x=2):=ae (by unfold fits;rw[if_pos (by rw[HL.out];exact h64)]);go_enter Tryz.func46,Tryz.ntmps46;go_wp2_with fail;go_ret2;exact qI HF.out (by decide) (World.grownBy_alloc w _ none)
 · have CA:=ae (uP x A n c B W (h.grown iW hB (fun _ e=>nomatch e)) (Nat.le_trans hB iW.size) hn);by_cases hok:kJ x=true
   · exact Fv x A n c B w h hB hin (by unfold fits;rw[if_neg (by rw[HL.out];exact h64),if_pos hok]) base hbase
   · have hok':kJ x=false:=by simpa using hok
     have HF:Hid (fits x=1):=ae (by unfold fits;rw[if_neg (by rw[HL.out];exact h64),hok'];rfl);rw[hok'] at CA;clear hok hok';go_enter Tryz.func46,Tryz.ntmps46;go_wp2_with fail;rw[show w.alloc (.cells #[.int .i64 x.thread,.int .i64 x.first,.slice A n c] 50)=W from HW.out.symm];refine CA.out.mono ?_;rintro e w1 ⟨rfl,hg1⟩;go_wp2_with fail;go_ret2;exact qI HF.out (by decide) (af iW hg1 (.inl rfl))
