/- Words. -/
import Derived.Test.YtfbkkgfkhhibfaaGreatPlnR
import Derived.RangeFuncNested
import Derived.RangeFuncBound
import Derived.RangeFuncCalls
import Derived.RangeFuncLeaves
import Derived.Shelf.Abstract
import Derived.Shelf.RegionOpen
import Derived.OwnWalkIn
import Derived.TacticsInMore
import Derived.LoopNIn
import Derived.LoopIn
set_option linter.unusedVariables false
set_option maxRecDepth 100000
set_option maxHeartbeats 8000000
namespace Go.Proofs.YtfbkkgfkhhibfaaGreat
open Go Go.RowKit Go.Shelf Iv
attribute [local go_sem] Oper.semAt_some
structure Kept (B gb gt:Nat)(w w':World):Prop where
 size:w.heap.size≤w'.heap.size
 b:w'.heap[gb]?=w.heap[gb]?
 t:w'.heap[gt]?=w.heap[gt]?
 low:∀k,k < B→w'.heap[k]?=w.heap[k]?
theorem Kept.lies {B gb gt sz n:Nat}{w w':World}{A:Option Addr}{xs:List Value}(h:Kept B gb gt w w')(hl:Lies w B sz A n xs):Lies w' B sz A n xs:=
 hl.same fun p hp=>World.cell?_of_block (h.low p.block hp)
def Ul (w:World)(g:Nat):Nat:=match w.cell? ⟨g,0,none⟩ with | some (.slice _ n _)=>n | _=>0
theorem rZ {w:World}{g n c:Nat}{A:Option Addr}{t:TypeId}(h:Held w g t #[.slice A n c]):Ul w g=n:=by
 unfold Ul;rw[show w.cell? ⟨g,0,none⟩=some (.slice A n c) from h.cell 0]
theorem yT {w:World}{lo n g:Nat}{A:Option Addr}{rs:List Rec}(h:RecsNew w lo A n rs)(hg:g < lo)(v:Value):RecsNew (w.setCell ⟨g,0,none⟩ v) lo A n rs:=
 (((h.off (o:=some g) (fun x e=>by cases e;exact hg)).grow (o':=some g) (ah w g 0 v) (.inl rfl)).new)
theorem TW (n:Nat)(hn:1≤n)(l gb gt:Nat)(A:Option Addr)(nb c B:Nat)(xs:Bytes)(th:Int)(w:World)
 (h:Lies w B 1 A nb (xs.map bv)) (hB:B≤gb) (hne:gb≠gt) (hnc:nb≤c) (hcm:c≤maxLen) (ho:A=none→c=0) (Zl:nb≤1000000)
 (hgb:Held w gb 22 #[.slice A nb c]) (hgt:Held w gt 3 #[.int .i64 th])
 (J:List (Blk×Nat)→World→Prop) (hJ:∀p W W',J p W→W.grownBy W' (some gb)→J p W') (h0:J [] w)
 (hY:∀pre x k (W0 W:World) (A':Option Addr) (n' c':Nat),J pre W0→W0.grownBy W (some gb)→RecsNew W W0.heap.size A' n' x.recs→n'≤c'→c'≤maxLen→(A'=none→c'=0)→pre.length≤sizeB pre→sizeB pre+k≤nb→
  YieldAt Fence.wide (n - 1) Tryz.prog l #[.agg #[.int .i64 x.thread,.int .i64 x.first,.slice A' n' c'],.int .i64 (k:Int)] W fun e W'=>e= .returned (.bool true)∧J (pre++ [(x,k)]) W'∧Kept B gb gt W W'):
 CallsIn Fence.wide n Tryz.prog 85 #[.func (.yield l) #[] #[],.pointer (some ⟨gb,0,none⟩),.pointer (some ⟨gt,0,none⟩)] w fun e w'=>(∃v,e= .returned v)∧J (aJ th xs 0 (-1)) w':=by
 have HLN:=ae h.lenB;have HNE:=ae hne;have HJ:=ae hJ;have HY:=ae hY;have hn1:1≤n - 1+1:=by omega
 unfold maxLen at hcm
 have hst:∃(k:Nat) (rc la:Int) (done:List (Blk×Nat)) (Ab:Option Addr) (cb:Nat),Value.int .i64 0= .int .i64 rc∧Value.int .i64 (-1)= .int .i64 la∧k≤nb∧(0≤rc∧rc≤1000)∧inI64 la∧Held w gb 22 #[.slice Ab (nb - k) cb]∧Held w gt 3 #[.int .i64 th]∧Lies w B 1 Ab (nb - k) ((xs.drop k).map bv)∧nb - k≤cb∧cb≤maxLen∧(Ab=none→cb=0)∧J done w∧done++aJ th (xs.drop k) rc la=aJ th xs 0 (-1)∧sizeB done=k∧done.length≤k:=
  ⟨0,0,-1,[],A,c,rfl,rfl,Nat.zero_le _,⟨by omega,by omega⟩,⟨by omega,by omega⟩,hgb,hgt,h,hnc,by unfold maxLen;omega,ho,h0,rfl,rfl,Nat.le_refl _⟩
 have HST:=ae hst;clear h ho hJ hY h0 hgb hgt hst hne;refine callsIn_of_wp Tryz.func85 rfl trivial ?_ rfl;simp only[Tryz.ntmps85,List.size_toArray,List.length_cons,List.length_nil,Nat.reduceAdd,Nat.reduceSub,Array.replicate_succ,Array.replicate_zero,List.push_toArray,List.append_toArray,List.nil_append,List.cons_append];gi_wp2_with fail;gi_loopw [4,5] (fun cv qv wr=>∃(k:Nat) (rc la:Int) (done:List (Blk×Nat)) (Ab:Option Addr) (cb:Nat),cv= .int .i64 rc∧qv= .int .i64 la∧k≤nb∧(0≤rc∧rc≤1000)∧inI64 la∧Held wr gb 22 #[.slice Ab (nb - k) cb]∧Held wr gt 3 #[.int .i64 th]∧Lies wr B 1 Ab (nb - k) ((xs.drop k).map bv)∧nb - k≤cb∧cb≤maxLen∧(Ab=none→cb=0)∧J done wr∧done++aJ th (xs.drop k) rc la=aJ th xs 0 (-1)∧sizeB done=k∧done.length≤k) (fun _ _ wr=>Ul wr gb)
 case atStart=>exact HST.out
 case round=>
  obtain⟨k,rc,la,done,Ab,cb,rfl,rfl,hk,⟨hr0,hr1⟩,hla,hgb,hgt,hl,AO,hcm2,ho2,hJd,hall,hsz,hdl⟩:=hrel;obtain⟨d,hd⟩:∃d,d=Iv.decode (xs.drop k):=⟨_,rfl⟩;have CD:=ae (Ih Ab (nb - k) cb B (xs.drop k) wr hl (by have:=hgb.lt;omega) AO hcm2 ho2 (by omega));rw[←hd] at CD;have HD:=ae hd;have HL:=ae hl;have HLA:=ae hla;have xN:=ae ho2;have HGB:=ae hgb;have HGT:=ae hgt;have HJD:=ae hJd;have H8:=ae hall;have VU:=ae hsz;have xb:wr.cell? ⟨gb,0,none⟩=some (.slice Ab (nb - k) cb):=hgb.cell 0;unfold maxLen at hcm2;clear hd hl hla ho2 hgb hgt hJd hall hsz;gi_wp2_with fail;refine⟨trivial,?_⟩;refine (callsIn_wide.2 CD.out).mono ?_;rintro e w2 ⟨A2,n2,c2,rfl,Um,hg2,ZL,ZM,ho3⟩;obtain⟨⟨vI,fi,rs⟩,sz,er⟩:=d;dsimp only at Um⊢;have hww:wr.heap.size≤w2.heap.size:=hg2.size;obtain⟨W2,hW2⟩:∃W2,W2=w2.alloc (.cells #[.int .i64 vI,.int .i64 fi,.slice A2 n2 c2] 50):=⟨_,rfl⟩;have lK:w2.grownBy W2 none:=by rw[hW2];exact World.grownBy_alloc w2 _ none
  have Xw:=af hg2 lK (.inl rfl);have qG:=ae (Um.keep lK (fun _ e=>nomatch e));have Gn:=ae Xw;have Xx:=HGB.out.grown Xw (fun e=>nomatch e);have hgt2:=HGT.out.grown Xw (fun e=>nomatch e);have hlt2:gb < wr.heap.size:=HGB.out.lt;have apW:gt < wr.heap.size:=HGT.out.lt;have xt:W2.cell? ⟨gt,0,none⟩=some (.int .i64 th):=hgt2.cell 0;have xb2:W2.cell? ⟨gb,0,none⟩=some (.slice Ab (nb - k) cb):=Xx.cell 0;have xf:W2.frozen? ⟨gb,0,none⟩=false:=Xx.free 0;have Xh:=ae Xx;have afp:=ae hgt2;have HW2:=ae hW2;rw[hW2] at xt xb2 xf
  have hfin:∀W',W2.grownBy W' none→aJ th (xs.drop k) rc la= []→(∃v,Ending.returned (Value.tuple #[])= .returned v)∧J (aJ th xs 0 (-1)) W':=by
   intro W' hg' hnil;have hg3:=af Gn.out hg' (.inl rfl);rw[←H8.out,hnil,List.append_nil];exact⟨⟨_,rfl⟩,HJ.out _ _ _ HJD.out (dO hg3 _)⟩
  have zV:=ae hfin;clear xb hW2 hg2 lK Xw Xx hgt2 hfin Um;by_cases he:er=0
  · subst he;by_cases ht:vI=th
    · subst ht;by_cases hf:fi=rc
      · subst hf;obtain⟨f0,fk,fl,fp⟩:=oK HD.out.symm;obtain⟨z0,z1,z2,z3,z4,z5,z6⟩:=dR f0;have hln:rs.length=n2:=qG.out.1;dsimp only at z0 z1 z4 z5;have apX:(xs.drop k).length=nb - k:=by rw[List.length_drop,HLN.out]
        obtain⟨r0,PZ⟩:∃r0,rs[0]?=some r0:=⟨rs[0],List.getElem?_eq_getElem z0⟩;obtain⟨m,hm⟩:∃m,n2=m+1:=⟨n2 - 1,by omega⟩;obtain⟨rl,hrl⟩:∃rl,rs[m]?=some rl:=⟨rs[m],List.getElem?_eq_getElem (by omega)⟩;obtain⟨b,o,_,_,_,_,_,_,rfl,q0⟩:=qG.out.2 0 r0 PZ;obtain⟨b',o',_,_,_,_,_,_,eA,ql⟩:=qG.out.2 m rl hrl;injection eA with eA;injection eA with eA1 eA2;subst eA1 eA2;have y0:W2.cell? ⟨b,o,none⟩=some (.int .i64 r0.seq):=by have:=q0.cells 0 (.int .i64 r0.seq) rfl;simpa using this
        have yl:W2.cell? ⟨b,o+m * 8,none⟩=some (.int .i64 rl.seq):=by have:=ql.cells 0 (.int .i64 rl.seq) rfl;simpa using this
        rw[HW2.out] at y0 yl;have i0:(n2==0)=false:=by simp;omega
        have i1:(0:Int) < (n2:Int):=by omega
        have i4:((n2:Int)==0)=false:=by simp;omega
        obtain⟨rs',hrs⟩:∃rs',rs=r0 :: rs':=by
         cases rs with
         | nil=>simp at PZ
         | cons a l=>simp at PZ;exact⟨l,by rw[PZ]⟩
        have afq:Hid (lg vI fi la (Iv.decode (xs.drop k))=decide (la < r0.seq)):=ae (by rw[←HD.out];unfold lg;rw[hrs];simp);by_cases hq:r0.seq≤la
        · have LU:=ae (show aJ vI (xs.drop k) fi la= [] from eY (by rw[afq.out];exact decide_eq_false (by omega)));clear hrs fp fk fl f0 PZ hrl hm hln;gi_wp2_with fail;refine bodyPost_ret (results_none rfl _ _ _) rfl ?_;exact zV.out _ (by rw[HW2.out];exact World.grownBy.refl _ none) LU.out
        · have Zc:=ae (kG (th:=vI) (recs:=fi) (last:=la) (b:=xs.drop k) (by rw[afq.out];exact decide_eq_true (by omega)))
          have HLS:Hid (iJ (⟨vI,fi,rs⟩:Blk) la=rl.seq):=ae (by
           unfold iJ;dsimp only;rw[List.getLast?_eq_getElem?,show rs.length - 1=m by omega,hrl])
          have afr:=ae ((P5 (xs.drop k)).1 rl (by rw[←HD.out];exact List.mem_of_getElem? hrl)).seq;have afs:sz≤nb - k:=by omega
          have afu:=ae (show 0≤fi+(n2:Int)∧fi+(n2:Int)≤1000 by omega);have hsp:0 < sz:=fp;have hmm:(n2:Int) - 1=(m:Int):=by omega
          have hkz:k+sz≤nb:=by omega
          have hw1:IntKind.i64.wrap (fi+(n2:Int))=fi+(n2:Int):=IntWalk.i64_in _ (by omega);have hwm:IntKind.i64.wrap (m:Int)=(m:Int):=IntWalk.i64_in _ (by omega);have i2:(0:Int)≤(m:Int):=by omega
          have i3:(m:Int) < (n2:Int):=by omega
          have j1:(0:Int)≤(sz:Int):=by omega
          have j2:(sz:Int)≤((nb - k:Nat):Int):=by omega
          have j3:(sz:Int)≤(cb:Int):=by omega
          clear hrs fk fl f0 PZ hrl hm hln;by_cases hcs:sz=cb
          · subst hcs;obtain⟨W3,hW3⟩:∃W3,W3=W2.setCell ⟨gb,0,none⟩ (Value.slice Ab 0 0):=⟨_,rfl⟩;have hg3:wr.grownBy W3 (some gb):=by rw[hW3];exact af (dO Gn.out _) (ah W2 gb 0 _) (.inl rfl)
            have hb3:Held W3 gb 22 #[Value.slice Ab 0 0]:=by rw[hW3];exact Xh.out.store 0 _
            have ht3:Held W3 gt 3 #[.int .i64 vI]:=by rw[hW3];exact afp.out.far (fun e=>HNE.out e.symm) _
            have hr3:RecsNew W3 wr.heap.size (some ⟨b,o,none⟩) n2 rs:=by rw[hW3];exact yT qG.out hlt2 _
            have hyy:=HY.out done ⟨vI,fi,rs⟩ sz wr W3 (some ⟨b,o,none⟩) n2 c2 HJD.out hg3 hr3 ZL ZM ho3 (by rw[VU.out];exact hdl) (by rw[VU.out];exact hkz);obtain⟨fn,tmps,assign,body,hy,hR⟩:=hyy;dsimp only at hy;have hl3:Lies W3 B 1 (Ab) (nb - k - sz) (((xs.drop k).map bv).drop (sz * 1)):=(by have:=HL.out.dropIf (k:=sz) afs AO;rw[if_pos rfl] at this;simpa using this:Lies wr B 1 (Ab) (nb - k - sz) (((xs.drop k).map bv).drop (sz * 1))).grown hg3 (by omega) (fun g e=>by cases e;exact hB);have HB3:=ae hb3;have HT3:=ae ht3;have HL3:=ae hl3;rw[hW3,HW2.out] at hy;have HW3:=ae hW3;have HRR:=ae hR;clear hW3 hb3 ht3 hl3 hr3 hR hg3;gi_wp2_with fail;have hR:=HRR.out;rw[HW3.out,HW2.out] at hR;refine hR.mono ?_;rintro e W4 ⟨rfl,hJ4,hK4⟩;have Un:Kept B gb gt W3 W4:=by rw[HW3.out,HW2.out];exact hK4
            have HJ4:=ae hJ4;have Xy:=ae Un;clear hJ4 hK4 Un hy hR;gi_wp2_with fail;go_roundw
            case rel=>exact ⟨k+sz,fi+(n2:Int),rl.seq,done++ [(⟨vI,fi,rs⟩,sz)],Ab,0,rfl,rfl,hkz,afu.out,afr.out,(Xy.out.b.trans (by rw[show nb - (k+sz)=0 by omega];exact HB3.out)),Xy.out.t.trans HT3.out,by
             have:=Xy.out.lies HL3.out;rw[Nat.mul_one,←List.map_drop,List.drop_drop] at this;rw[show nb - (k+sz)=nb - k - sz by omega];exact this,by omega,by unfold maxLen;omega,fun e=>rfl,HJ4.out,by
             rw[←H8.out,Zc.out,←HD.out,List.append_assoc];dsimp only;rw[HLS.out,List.drop_drop,qG.out.1];rfl,by unfold sizeB at VU⊢;rw[List.map_append,List.sum_append,VU.out];simp,by rw[List.length_append];simp;omega⟩
            case measure=>
             rw[rZ (Xy.out.b.trans HB3.out),rZ HGB.out];omega
          · have hcs':¬(cb:Int)=(sz:Int):=by omega
            obtain⟨W3,hW3⟩:∃W3:World,W3=W3:=⟨w,rfl⟩;clear hW3 W3;obtain⟨W3,hW3⟩:∃W3,W3=W2.setCell ⟨gb,0,none⟩ (Value.slice (Ab.map fun x=>x.add sz) (nb - k - sz) (cb - sz)):=⟨_,rfl⟩;have hg3:wr.grownBy W3 (some gb):=by rw[hW3];exact af (dO Gn.out _) (ah W2 gb 0 _) (.inl rfl)
            have hb3:Held W3 gb 22 #[Value.slice (Ab.map fun x=>x.add sz) (nb - k - sz) (cb - sz)]:=by rw[hW3];exact Xh.out.store 0 _
            have ht3:Held W3 gt 3 #[.int .i64 vI]:=by rw[hW3];exact afp.out.far (fun e=>HNE.out e.symm) _
            have hr3:RecsNew W3 wr.heap.size (some ⟨b,o,none⟩) n2 rs:=by rw[hW3];exact yT qG.out hlt2 _
            have hyy:=HY.out done ⟨vI,fi,rs⟩ sz wr W3 (some ⟨b,o,none⟩) n2 c2 HJD.out hg3 hr3 ZL ZM ho3 (by rw[VU.out];exact hdl) (by rw[VU.out];exact hkz);obtain⟨fn,tmps,assign,body,hy,hR⟩:=hyy;dsimp only at hy;have hl3:Lies W3 B 1 (Ab.map fun x=>x.add sz) (nb - k - sz) (((xs.drop k).map bv).drop (sz * 1)):=(by have:=HL.out.dropIf (k:=sz) afs AO;rw[if_neg (fun e=>hcs e.symm)] at this;simpa using this:Lies wr B 1 (Ab.map fun x=>x.add sz) (nb - k - sz) (((xs.drop k).map bv).drop (sz * 1))).grown hg3 (by omega) (fun g e=>by cases e;exact hB);have HB3:=ae hb3;have HT3:=ae ht3;have HL3:=ae hl3;rw[hW3,HW2.out] at hy;have HW3:=ae hW3;have HRR:=ae hR;clear hW3 hb3 ht3 hl3 hr3 hR hg3;gi_wp2_with fail;have hR:=HRR.out;rw[HW3.out,HW2.out] at hR;refine hR.mono ?_;rintro e W4 ⟨rfl,hJ4,hK4⟩;have Un:Kept B gb gt W3 W4:=by rw[HW3.out,HW2.out];exact hK4
            have HJ4:=ae hJ4;have Xy:=ae Un;clear hJ4 hK4 Un hy hR;gi_wp2_with fail;go_roundw
            case rel=>exact ⟨k+sz,fi+(n2:Int),rl.seq,done++ [(⟨vI,fi,rs⟩,sz)],Ab.map fun x=>x.add sz,cb - sz,rfl,rfl,hkz,afu.out,afr.out,(Xy.out.b.trans (by rw[show nb - (k+sz)=nb - k - sz by omega];exact HB3.out)),Xy.out.t.trans HT3.out,by
             have:=Xy.out.lies HL3.out;rw[Nat.mul_one,←List.map_drop,List.drop_drop] at this;rw[show nb - (k+sz)=nb - k - sz by omega];exact this,by omega,by unfold maxLen;omega,fun e=>by have:=xN.out (by simpa using e);omega,HJ4.out,by
             rw[←H8.out,Zc.out,←HD.out,List.append_assoc];dsimp only;rw[HLS.out,List.drop_drop,qG.out.1];rfl,by unfold sizeB at VU⊢;rw[List.map_append,List.sum_append,VU.out];simp,by rw[List.length_append];simp;omega⟩
            case measure=>
             rw[rZ (Xy.out.b.trans HB3.out),rZ HGB.out];omega
      · have hbf:(fi !=rc)=true:=by rw[bne_iff_ne];exact hf
        have LU:=ae (show aJ vI (xs.drop k) rc la= [] from eY (by rw[←HD.out];unfold lg;simp[hf]));clear hf;gi_wp2_with fail;refine bodyPost_ret (results_none rfl _ _ _) rfl ?_;exact zV.out _ (by rw[HW2.out];exact World.grownBy.refl _ none) LU.out
    · have hbt:(vI !=th)=true:=by rw[bne_iff_ne];exact ht
      have LU:=ae (show aJ th (xs.drop k) rc la= [] from eY (by rw[←HD.out];unfold lg;simp[ht]));clear ht;gi_wp2_with fail;refine bodyPost_ret (results_none rfl _ _ _) rfl ?_;exact zV.out _ (by rw[HW2.out];exact World.grownBy.refl _ none) LU.out
  · have LU:=ae (show aJ th (xs.drop k) rc la= [] from eY (by rw[←HD.out];unfold lg;simp[he]));have hbe:(er !=0)=true:=by rw[bne_iff_ne];exact he
    clear he;gi_wp2_with fail;refine bodyPost_ret (results_none rfl _ _ _) rfl ?_;exact zV.out _ (by rw[HW2.out];exact World.grownBy.refl _ none) LU.out
end Go.Proofs.YtfbkkgfkhhibfaaGreat
namespace Iv
open Go Go.RowKit
variable {F : Fence} {N : Nat} {P : Program}
theorem Eh (w:World){ops:Array Oper}{rest:List Oper}{o:Oper}{a:Act}{Q:Exit→Act→World→Prop}(hg:o.guard=none)(s x:Operand)(t:TypeId)
 (hop:o.op=Op.call { callee:=Callee.builtin Builtin.append,args:=#[s,x],argTypes:=#[t,t] })
 (base:Nat) (e:TypeId) (i:TypeInfo) (z:Value) (size bytes:Nat) (ht:P.underlying t=some (.slice e)) (hi:P.info? e=some i) (hz:i.zero=some z)
 (hsize:i.size=size) (hby:i.bytes=bytes) (hzs:z.cells.size=size) (hsz:0 < size)
 (v:Value) (ow:Option Nat) (n:Nat) (xs:List Value) (hs:a.eval s=v) (h:App w base e size v ow n xs)
 (ad:Addr) (m c:Nat) (news:List Value) (hx:a.eval x= .slice (some ad) m c) (hm:0 < m) (hn:news.length=m * size) (hc:∀j u,news[j]?=some u→w.cell? (ad.add j)=some u) (h1:∀u∈news,u.oneCell'=true)
 (h63:n+m≤maxLen) (hbytes:(n+m)* bytes≤140737488355328) (hbase:base≤w.heap.size)
 (hK:∀v' w',w'.ownsRow base e size v' (n+m) (xs++news)→w.grownBy w' ow→At w ow v'.ownBlock→wpListIn F N P ops Q rest (a.put o.dst v') w'):
 wpListIn F N P ops Q (o :: rest) a w:=by
 refine wpListIn_plain hg fun K hK'=>?_
 obtain⟨v',w',hrun,r1,r2,r3⟩:=NR (P:=P) w base t o.type e i z size bytes ht hi hz hsize hby hzs hsz v ow n xs h ad m c news hm hn hc h1 h63 hbytes hbase;unfold Oper.wpIn;refine⟨?_,?_⟩
 · simp[Oper.about,hop,resolve,Target.leads,Sem.run_pure]
 · rw[Oper.semAt_plain F _ _ (by rw[hop];intro c hc';cases hc')];simp[execOp,hop,resolve,invoke,builtin,hs,hx,hrun,Result.andThen];exact hK' _ _ (hK v' w' r1 r2 r3)
end Iv
namespace Go.Proofs.YtfbkkgfkhhibfaaGreat
open Go Go.RowKit Go.Shelf Iv
attribute [local go_sem] Oper.semAt_some
theorem TU (v u:Value)(w:World)(hv:v.oneCell'=true)(hu:u.oneCell'=true):Calls Tryz.prog 52 #[v,u] w fun e w'=>e= .returned (.func (.func 85) #[] #[.pointer (some ⟨w.heap.size,0,none⟩),.pointer (some ⟨w.heap.size+1,0,none⟩)])∧w'=(w.alloc (.cells #[v] 22)).alloc (.cells #[u] 3):=by
 go_enter Tryz.func52,Tryz.ntmps52;go_wp2;go_ret;exact⟨rfl,rfl⟩
theorem TV {w:World}{base b2 e sz n:Nat}{v:Value}{xs:List Value}(h:w.ownsRow base e sz v n xs)(hb:b2≤base):w.ownsRow b2 e sz v n xs:=
 ⟨h.1,h.2.imp id fun ⟨g,cap,cur,e1,e2,r⟩=>⟨g,cap,cur,e1,Nat.le_trans hb e2,r⟩⟩
theorem BlksAt.lower {w:World}{lo lo':Nat}{o:Option Nat}{css:List Value}{xs:List Blk}(h:BlksAt w lo o css xs)(hl:lo'≤lo):BlksAt w lo' o css xs:=
 ⟨h.1,fun k x hx=>by
  obtain⟨A,n,c,q1,q2,q3⟩:=h.2 k x hx
  exact⟨A,n,c,q1,q2.lower hl,q3⟩⟩
structure BlJ (w:World)(lb sb D:Nat)(R:Loop)(pre:List (Blk×Nat))(v:Value)(css:List Value)(W:World):Prop where
 l:Held W lb 45 #[v]
 s:Held W sb 3 #[.int .i64 (sizeB pre:Int)]
 d:W.heap[D]?=some (.deferred (some []))
 r:W.heap[D+1]?=some (.loop R)
 own:W.ownsRow (D+2) 50 3 v pre.length css
 blks:BlksAt W (D+2) v.ownBlock css (pre.map (·.1))
 grown:w.grownBy W none
 o0:w.heap.size≤lb
 o1:lb < sb
 o2:sb < D
variable {w : World} {lb sb D : Nat} {R : Loop} {pre : List (Blk × Nat)} {v : Value} {css : List Value} {W W' : World}
theorem BlJ.keep (h:BlJ w lb sb D R pre v css W){row:Option Nat}(hg:W.grownBy W' row)(hr:∀g,row=some g→sb < g∧g < D):BlJ w lb sb D R pre v css W':=
 ⟨
  h.l.grown hg (fun e=>by have:=hr _ e.symm;have:=h.o1;omega),h.s.grown hg (fun e=>by have:=hr _ e.symm;omega),
  (hg.block _ (Array.getElem?_eq_some_iff.1 h.d).1 (fun e=>by have:=hr _ e.symm;omega)).trans h.d,
  (hg.block _ (Array.getElem?_eq_some_iff.1 h.r).1 (fun e=>by have:=hr _ e.symm;omega)).trans h.r,
  ay h.own hg (fun g e1 e2=>by have:=hr _ e2;have:=(h.own.lt g e1).1;omega),
  h.blks.keep hg (fun g e=>by have:=hr _ e;omega),
  af h.grown hg (by
   cases row with
   | none=>exact .inl rfl
   | some g=>exact .inr ⟨g,rfl,by have:=hr _ rfl;have:=h.o0;have:=h.o1;omega⟩),h.o0,h.o1,h.o2⟩
theorem BlJ.round (h:BlJ w lb sb D R pre v css W){R2:Loop}{x:Blk}{k:Nat}{A:Option Addr}{n c:Nat}{W3 W4:World}{v':Value}{ob:Obj}
 (hrec:RecsOff W (D+2) v.ownBlock A n x.recs) (hnc:n≤c) (hcm:c≤maxLen) (ho:A=none→c=0)
 (h3:W3=((W.alloc ob).putObj (D+1) (.loop R2)).alloc (.cells (oL x A n c) 50))
 (hown:W4.ownsRow (D+2) 50 3 v' (pre.length+1) (css++(oL x A n c).toList)) (hg4:W3.grownBy W4 v.ownBlock) (hat:At W3 v.ownBlock v'.ownBlock):
 BlJ w lb sb D R (pre++ [(x,k)]) v' (css++(oL x A n c).toList) (((W4.setCell ⟨lb,0,none⟩ v').setCell ⟨sb,0,none⟩ (.int .i64 (sizeB (pre++ [(x,k)]):Int))).putObj (D+1) (.loop R))∧
 ∀g,g < D+1→g≠lb→g≠sb→(((W4.setCell ⟨lb,0,none⟩ v').setCell ⟨sb,0,none⟩ (.int .i64 (sizeB (pre++ [(x,k)]):Int))).putObj (D+1) (.loop R)).heap[g]?=W.heap[g]?:=by
 have hDs:D+1 < W.heap.size:=(Array.getElem?_eq_some_iff.1 h.r).1;have o0:=h.o0;have o1:=h.o1;have o2:=h.o2;have g1:W.grownBy (W.alloc ob) none:=World.grownBy_alloc W _ none;have g2:=grownBy_putObj' (W.alloc ob) (D+1) (.loop R2);have g3:((W.alloc ob).putObj (D+1) (.loop R2)).grownBy W3 none:=by rw[h3];exact World.grownBy_alloc _ _ none
 have YT:W.grownBy W3 (some (D+1)):=af (af (dO g1 _) g2 (.inl rfl)) (dO g3 _) (.inl rfl);have hrow:∀g,v.ownBlock=some g→D+2≤g:=fun g e=>(h.own.lt g e).1
 have hrow':∀g,v'.ownBlock=some g→D+2≤g∧g < W4.heap.size:=fun g e=>hown.lt g e
 have hn1:∀g,g < D+2→some g≠v.ownBlock:=fun g hg e=>by have:=hrow g e.symm;omega
 have hn1':∀g,g < D+2→some g≠v'.ownBlock:=fun g hg e=>by have:=hrow' g e.symm;omega
 obtain⟨W5,h5⟩:∃W5,W5=W4.setCell ⟨lb,0,none⟩ v':=⟨_,rfl⟩;obtain⟨W6,h6⟩:∃W6,W6=W5.setCell ⟨sb,0,none⟩ (.int .i64 (sizeB (pre++ [(x,k)]):Int)):=⟨_,rfl⟩;obtain⟨W7,h7⟩:∃W7,W7=W6.putObj (D+1) (.loop R):=⟨_,rfl⟩;have g5:W4.grownBy W5 (some lb):=by rw[h5];exact ah W4 lb 0 _
 have g6:W5.grownBy W6 (some sb):=by rw[h6];exact ah W5 sb 0 _
 have g7:W6.grownBy W7 (some (D+1)):=by rw[h7];exact grownBy_putObj' W6 _ _
 have s4:W.heap.size≤W4.heap.size:=Nat.le_trans YT.size hg4.size;have s6:W.heap.size≤W6.heap.size:=Nat.le_trans (Nat.le_trans s4 g5.size) g6.size
 have keep:∀g,g < W.heap.size→g≠lb→g≠sb→g≠D+1→some g≠v.ownBlock→W7.heap[g]?=W.heap[g]?:=fun g a1 a2 a3 a4 a5=>
  (g7.block g (by omega) (fun e=>a4 (by cases e;rfl))).trans ((g6.block g (Nat.lt_of_lt_of_le a1 (Nat.le_trans s4 g5.size)) (fun e=>a3 (by cases e;rfl))).trans ((g5.block g (by omega) (fun e=>a2 (by cases e;rfl))).trans ((hg4.block g (Nat.lt_of_lt_of_le a1 YT.size) a5).trans (YT.block g a1 (fun e=>a4 (by cases e;rfl))))))
 rw[←h5,←h6,←h7];refine⟨⟨?_,?_,(keep D (by omega) (by omega) (by omega) (by omega) (hn1 D (by omega))).trans h.d,?_,?_,?_,?_,o0,o1,o2⟩,fun g a1 a2 a3=>keep g (by omega) a2 a3 (by omega) (hn1 g (by omega))⟩
 · have a4:Held W4 lb 45 #[v]:=(h.l.grown YT (fun e=>by cases e;omega)).grown hg4 (hn1 lb (by omega));have a5:Held W5 lb 45 #[v']:=by rw[h5];exact a4.store 0 v'
   exact (a5.grown g6 (fun e=>by cases e;omega)).grown g7 (fun e=>by cases e;omega)
 · have a4:Held W4 sb 3 #[.int .i64 (sizeB pre:Int)]:=(h.s.grown YT (fun e=>by cases e;omega)).grown hg4 (hn1 sb (by omega));have a6:Held W6 sb 3 #[.int .i64 (sizeB (pre++ [(x,k)]):Int)]:=by rw[h6];exact (a4.grown g5 (fun e=>by cases e;omega)).store 0 _
   exact a6.grown g7 (fun e=>by cases e;omega)
 · rw[h7];exact World.putObj_heap_same (by omega)
 · rw[List.length_append];refine ay (ay (ay hown g5 (fun g e1 e2=>?_)) g6 (fun g e1 e2=>?_)) g7 (fun g e1 e2=>?_)
   · cases e2;exact hn1' lb (by omega) e1.symm
   · cases e2;exact hn1' sb (by omega) e1.symm
   · cases e2;exact hn1' (D+1) (by omega) e1.symm
 · rw[List.map_append];have b3:BlksAt W3 (D+2) v.ownBlock css (pre.map (·.1)):=h.blks.keep YT (fun g e=>by cases e;omega);have b4:=(b3.snoc (x:=x) (hrec.keep YT (fun g e=>by cases e;omega)) hnc hcm ho).grow hg4 hat;exact ((b4.keep g5 (fun g e=>by cases e;omega)).keep g6 (fun g e=>by cases e;omega)).keep g7 (fun g e=>by cases e;omega)
 · have q3:=af h.grown YT (.inr ⟨_,rfl,by omega⟩);have q4:w.grownBy W4 none:=Ei q3 hg4 (fun g e=>by have:=hrow g e;omega);exact af (af (af q4 g5 (.inr ⟨_,rfl,o0⟩)) g6 (.inr ⟨_,rfl,by omega⟩)) g7 (.inr ⟨_,rfl,by omega⟩)
section
variable {F : Fence} {N : Nat} {P : Program}
theorem qj {g:Operand}{ps:Array Tmp}{assign body:Code}{Q:Exit→Act→World→Prop}{a:Act}{w:World}(hro:F.round=none)(h1:1≤N){gf:Nat}{lb:Array Value}
 (hg:a.eval g= .func (.func gf) #[] lb) (hFg:F.fn gf) (eg:∀args w,(callFunc gf args).run P w= .ok (.enter gf args) w) (I:World→Prop)
 (hcall:∀(fn:FuncId),F.fn fn→∀(rec:LoopState→Option Code→Loop),(∀st pe,rec st pe= { state:=st,pending:=pe,fn,tmps:=a.tmps,params:=ps,assign,body,defers:=w.heap.size })→
  CallsIn F (N - 1) P gf (#[.func (.yield (w.heap.size+1)) #[] #[]]++lb) ((w.alloc (.deferred (some []))).alloc (.loop (rec .ready none))) fun e W=>(∃v,e= .returned v)∧W.heap[w.heap.size+1]?=some (.loop (rec .ready none))∧I W)
 (hdone:∀(r r':Loop) (W:World),I W→W.heap[w.heap.size+1]?=some (.loop r)→Q .normal { a with defers:= { target:= .collected w.heap.size,args:=#[] } :: a.defers } (W.putObj (w.heap.size+1) (.loop r'))):
 (Code.rangeFunc g ps assign body).wpIn F N P Q a w:=by
 refine wpIn_rangeFunc ?_;intro fn hfn;rw[hro];obtain⟨rec,hrec⟩:∃rec:LoopState→Option Code→Loop,rec=fun st pe=> { state:=st,pending:=pe,fn,tmps:=a.tmps,params:=ps,assign,body,defers:=w.heap.size } :=⟨_,rfl⟩
 obtain⟨W1,hW1⟩:∃W1,(w.alloc (.deferred (some []))).alloc (.loop (rec .ready none))=W1:=⟨_,rfl⟩
 refine⟨w.heap.size+1,[{ target:= .collected w.heap.size,args:=#[] }],W1,{ target:= .fn (.func gf) lb,args:=#[.func (.yield (w.heap.size+1)) #[] #[]] },W1,gf,
  #[.func (.yield (w.heap.size+1)) #[] #[]]++lb,W1,?_,?_,?_,?_,fun _=>h1,?_⟩
 · rw[←hW1,hrec];exact run_enterLoop_outer _ _ _ _ _
 · simp only[resolve,hg];simp[go_sem]
 · intro f' hf';simp[Target.leads] at hf';subst hf';exact hFg
 · simp[invoke,go_sem,eg]
 · rw[←hW1];refine (hcall fn hfn rec (fun st pe=>by rw[hrec])).mono ?_;rintro e W2 ⟨⟨v,rfl⟩,hl,hi⟩;exact⟨none,_,by have:=run_endLoop (P:=P) hl (by rw[hrec];simp);rw[hrec] at this;exact this,hdone _ _ _ hi hl⟩
theorem Aw {l m:Nat}{args:Array Value}{W:World}{R:Ending→World→Prop}{fn:FuncId}(hfn:F.fn fn){tmps:Array Value}{ps:Array Tmp}{assign body:Code}{D:Nat}{rec:LoopState→Option Code→Loop}
 (hrec:∀st pe,rec st pe= { state:=st,pending:=pe,fn,tmps,params:=ps,assign,body,defers:=D }) (hl:W.heap[l]?=some (.loop (rec .ready none))) (hs:args.size=ps.size)
 (h:assign.wpIn (F.inRound l) m P (Exit.then (fun a₁ w₁=>w₁.heap[l]?=some (.loop (rec .ready none))∧body.wpIn (F.inRound l) m P (roundPost P l R) a₁ (w₁.putObj l (.loop (rec .busy none)))) (fun _ _ _=>False)) { tmps:=(ps.zip args).foldl (fun t (p,v)=>t.setIfInBounds p v) tmps,defers:= [] } W):
 YieldAt F m P l args W R:=by
 have hy:=run_yield (P:=P) (args:=args) hl (by rw[hrec];exact hs);rw[hrec] at hy;refine⟨fn,_,assign,body,hy,roundIn_of_wpIn hfn (wpIn_mono h ?_)⟩;intro e a' w' hq
 cases e with
 |
  normal=>
  obtain⟨hl',hb⟩:=hq;refine⟨_,run_beginRound hl' (by rw[hrec]),?_⟩;have:({ rec .ready none with state:= .busy } :Loop)=rec .busy none:=by rw[hrec,hrec]
  rw[this];exact hb
 | exit id=>exact hq
 | goto t=>exact hq
 | ret=>exact hq
 | panic ch=>exact hq
 | outgrown=>exact hq
end
theorem vz (A:Option Addr)(n c B:Nat)(xs:Bytes)(th:Int)(w:World)(h:Lies w B 1 A n (xs.map bv))(hB:B≤w.heap.size)(hnc:n≤c)(hcm:c≤maxLen)(ho:A=none→c=0)(Zl:n≤1000000):
 Calls Tryz.prog 30 #[.slice A n c,.int .i64 th] w (Wv (aJ th xs 0 (-1)) w):=by
 have HL:=ae h;have HLN:=ae h.lenB;have HO:=ae ho;clear h ho;refine (callsIn_wide (n:=3)).1 ?_;refine callsIn_of_wp_marks Tryz.func30 rfl trivial ?_ rfl;simp only[Tryz.ntmps30,List.size_toArray,List.length_cons,List.length_nil,Nat.reduceAdd,Nat.reduceSub,Array.replicate_succ,Array.replicate_zero,List.push_toArray,List.append_toArray,List.nil_append,List.cons_append];gi_wp2_with fail;refine⟨trivial,?_⟩;refine (callsIn_wide.2 (TU _ _ _ rfl rfl)).mono ?_;rintro e w1 ⟨rfl,rfl⟩;gi_wp2_with fail;obtain⟨W0,hW0⟩:∃W0,W0=((((w.alloc (.cells #[.slice none 0 0] 45)).alloc (.cells #[.int .i64 0] 3)).alloc (.cells #[.slice A n c] 22)).alloc (.cells #[.int .i64 th] 3)):=⟨_,rfl⟩;obtain⟨lb,hlb⟩:∃lb,lb=w.heap.size:=⟨_,rfl⟩;obtain⟨sb,hsb⟩:∃sb,sb=w.heap.size+1:=⟨_,rfl⟩;obtain⟨gb,hgb⟩:∃gb,gb=w.heap.size+1+1:=⟨_,rfl⟩;obtain⟨gt,hgt⟩:∃gt,gt=w.heap.size+1+1+1:=⟨_,rfl⟩;rw[←hW0,←hgt,←hgb,←hsb,←hlb];have hD:W0.heap.size=w.heap.size+4:=by rw[hW0];simp
 have q0:Held W0 lb 45 #[.slice none 0 0]:=by
  rw[hW0,hlb];exact ((((Held.new w _ _).alloc _).alloc _).alloc _)
 have q1:Held W0 sb 3 #[.int .i64 0]:=by
  rw[hW0,hsb];have:=(((Held.new (w.alloc (.cells #[.slice none 0 0] 45)) 3 #[.int .i64 0]).alloc (.cells #[.slice A n c] 22)).alloc (.cells #[.int .i64 th] 3));rwa [World.size_alloc] at this
 have q2:Held W0 gb 22 #[.slice A n c]:=by
  rw[hW0,hgb];have:=((Held.new ((w.alloc (.cells #[.slice none 0 0] 45)).alloc (.cells #[.int .i64 0] 3)) 22 #[.slice A n c]).alloc (.cells #[.int .i64 th] 3));rwa [World.size_alloc,World.size_alloc] at this
 have q3:Held W0 gt 3 #[.int .i64 th]:=by
  rw[hW0,hgt];have:=(Held.new (((w.alloc (.cells #[.slice none 0 0] 45)).alloc (.cells #[.int .i64 0] 3)).alloc (.cells #[.slice A n c] 22)) 3 #[.int .i64 th]);rwa [World.size_alloc,World.size_alloc,World.size_alloc] at this
 have hg0:w.grownBy W0 none:=by
  rw[hW0];exact af (af (af (World.grownBy_alloc w _ none) (World.grownBy_alloc _ _ none) (.inl rfl)) (World.grownBy_alloc _ _ none) (.inl rfl)) (World.grownBy_alloc _ _ none) (.inl rfl)
 have o1:lb < sb∧sb < gb∧gb < gt∧gt < W0.heap.size∧w.heap.size≤lb∧B≤lb:=by omega
 have HL0:=ae (HL.out.grown hg0 hB (fun _ e=>nomatch e));obtain⟨o1,o2,o3,o4,o5,o6⟩:=o1;obtain⟨D,hDD⟩:∃D,D=W0.heap.size:=⟨_,rfl⟩;have HQ:=ae (And.intro q0 (And.intro q1 (And.intro q2 (And.intro q3 hg0))));clear hW0 hlb hsb hgb hgt hD q0 q1 q2 q3 hg0
 refine qj rfl (by omega) (gf:=85) (lb:=#[.pointer (some ⟨gb,0,none⟩),.pointer (some ⟨gt,0,none⟩)]) rfl trivial (enters_of Tryz.func85 (by kernel_rfl) rfl)
  (fun W=>∃v css R,BlJ w lb sb W0.heap.size R (aJ th xs 0 (-1)) v css W) ?call ?done
 case call=>
  intro fn hfn rec hrec;obtain⟨q0,q1,q2,q3,hg0⟩:=HQ.out;obtain⟨W1,hW1⟩:∃W1,(W0.alloc (.deferred (some []))).alloc (.loop (rec .ready none))=W1:=⟨_,rfl⟩;have hg1:W0.grownBy W1 none:=by rw[←hW1];exact af (World.grownBy_alloc W0 _ none) (World.grownBy_alloc _ _ none) (.inl rfl)
  have hL1:W1.heap[W0.heap.size+1]?=some (.loop (rec .ready none)):=by
   rw[←hW1];have:=World.alloc_heap_new (W0.alloc (.deferred (some []))) (.loop (rec .ready none));rwa [World.size_alloc] at this
  have hK1:W1.heap[W0.heap.size]?=some (.deferred (some [])):=by
   rw[←hW1];exact (Below.heap_alloc _ _ _ (by simp)).trans (World.alloc_heap_new W0 _)
  rw[hW1]
  refine (TW (3 - 1) (by omega) (W0.heap.size+1) gb gt A n c B xs th W1 (HL0.out.grown hg1 (by omega) (fun _ e=>nomatch e)) (by omega) (by omega) hnc hcm HO.out Zl (q2.grown hg1 (fun e=>nomatch e)) (q3.grown hg1 (fun e=>nomatch e))
   (fun pre W=>∃v css,BlJ w lb sb W0.heap.size (rec .ready none) pre v css W) ?_ ?_ ?_).mono ?_
  · rintro p W W' ⟨v,css,hJ⟩ hg;exact⟨v,css,hJ.keep hg (fun g e=>by cases e;exact⟨o2,by omega⟩)⟩
  · exact⟨.slice none 0 0,[],q0.grown hg1 (fun e=>nomatch e),q1.grown hg1 (fun e=>nomatch e),hK1,hL1,World.ownsRow_nil _ _ _ _,BlksAt.nil _ _ _,af hg0 hg1 (.inl rfl),o5,o1,by omega⟩
  · rintro pre x k Wp W A' n' c' ⟨v,css,hJ⟩ hg hr hnc' hcm' ho' hpl hpk;have hJW:=hJ.keep hg (fun g e=>by cases e;exact⟨o2,by omega⟩);have hoff:RecsOff W (W0.heap.size+2) v.ownBlock A' n' x.recs:=(hr.off (fun g e=>(hJ.own.lt g e).2)).lower (by have:=(Array.getElem?_eq_some_iff.1 hJ.r).1;omega);refine Aw hfn hrec hJW.r rfl ?_;have HJW:=ae hJW;have qG:=ae hrec;have aj3:=ae hoff;clear hJ hg hr hoff hrec hJW;gi_wp2_with fail;have hJ:=HJW.out;have hDs:W0.heap.size+1 < W.heap.size:=(Array.getElem?_eq_some_iff.1 hJ.r).1;refine⟨(Below.heap_alloc _ _ _ hDs).trans hJ.r,?_⟩;obtain⟨W2,hW2⟩:∃W2,W2=((W.alloc (.cells #[.int .i64 x.thread,.int .i64 x.first,.slice A' n' c'] 50)).putObj (W0.heap.size+1) (.loop (rec .busy none))):=⟨_,rfl⟩;rw[←hW2];have s2:W2.heap.size=W.heap.size+1:=by rw[hW2];simp
    have gW2:W.grownBy W2 (some (W0.heap.size+1)):=by rw[hW2];exact af (dO (World.grownBy_alloc W _ none) _) (grownBy_putObj' _ _ _) (.inl rfl)
    have hxb:Held W2 W.heap.size 50 #[.int .i64 x.thread,.int .i64 x.first,.slice A' n' c']:=by rw[hW2];exact (Held.new W _ _).grown (grownBy_putObj' _ _ _) (fun e=>by injection e with e;omega)
    have aaS:=hJ.l.grown gW2 (fun e=>by cases e;omega);have aeW:=hJ.s.grown gW2 (fun e=>by cases e;omega);have hown2:W2.ownsRow (W0.heap.size+2) 50 3 v pre.length css:=ay hJ.own gW2 (fun g e1 e2=>by injection e2 with e2;have:=(hJ.own.lt _ e1).1;omega);obtain⟨Av,cv,hvv,hvn,hvm,_,hvo⟩:=aj hJ.own;have x0:W2.cell? ⟨W.heap.size,0,none⟩=some (.int .i64 x.thread):=hxb.cell 0;have x1:W2.cell? ⟨W.heap.size,1,none⟩=some (.int .i64 x.first):=hxb.cell 1;have x2:W2.cell? ⟨W.heap.size,2,none⟩=some (.slice A' n' c'):=hxb.cell 2;have y0:W2.cell? ⟨lb,0,none⟩=some v:=aaS.cell 0;have hLB:=ae aaS;have hSB:=ae aeW;have YU:=ae hown2;have HW2:=ae hW2;have hpn:pre.length≤n:=by omega
    have aeX:∀g,v.ownBlock=some g→g≠lb∧g≠sb:=fun g e=>by have:=(hJ.own.lt g e).1;omega
    have Xb:=ae aeX;have aoQ:lb < W2.heap.size:=by omega
    have aoR:sb < W2.heap.size:=by omega
    have hlo:W0.heap.size+2≤W2.heap.size:=by omega
    have aoS:¬lb=sb:=by omega
    have aoT:(sizeB pre:Int)+(k:Int)≤1000000:=by omega
    have hwr:IntKind.i64.wrap ((sizeB pre:Int)+(k:Int))=(sizeB pre:Int)+(k:Int):=IntWalk.i64_in _ (by omega);obtain⟨j0,hi,hz0,hz1,hz2⟩:=info_parts Si;have HI:=ae hi;have HZ0:=ae hz0;have HZ1:=ae hz1;have HZ2:=ae hz2;have HS2:=ae s2;clear hW2 hxb aaS aeW hown2 hvo hi hz0 hz1 hz2 hJ gW2 aeX s2;subst hvv;gi_wp2_with (gi_at_builtin;refine Eh _ rfl (.tmp 15) (.tmp 17) _ rfl (W0.heap.size+2) 50 j0 _ 3 40 Tryz.underlying45 HI.out HZ0.out HZ1.out HZ2.out rfl (by omega) _ (Value.slice Av pre.length cv).ownBlock pre.length css rfl (App.own (YU.out.alloc _)) ⟨W2.heap.size,0,none⟩ 1 1 (oL x A' n' c').toList rfl (by omega) rfl (Xc W2 x A' n' c') (RZ _ _ _ _) (by unfold maxLen;omega) (by omega) (by simp;omega) ?_;intro v4 w4 hown4 hg4 qx;obtain⟨A4,c4,hv4,aiL,aiM,_,aiN⟩:=aj hown4;have hl4:w4.cell? ⟨lb,0,none⟩=some (.slice Av pre.length cv):=(((hLB.out.alloc _).grown hg4 (fun e=>(Xb.out _ e.symm).1 rfl)).cell 0);have hf4:w4.frozen? ⟨lb,0,none⟩=false:=(((hLB.out.alloc _).grown hg4 (fun e=>(Xb.out _ e.symm).1 rfl)).free 0);have hs4:w4.cell? ⟨sb,0,none⟩=some (.int .i64 (sizeB pre:Int)):=(((hSB.out.alloc _).grown hg4 (fun e=>(Xb.out _ e.symm).2 rfl)).cell 0);have aoU:w4.frozen? ⟨sb,0,none⟩=false:=(((hSB.out.alloc _).grown hg4 (fun e=>(Xb.out _ e.symm).2 rfl)).free 0);have Gq:=ae hown4;have Nv:=ae hg4;have HA4:=ae qx;clear hown4 hg4 qx;subst hv4);have aj6:((sizeB (pre++ [(x,k)]):Nat):Int)=(sizeB pre:Int)+(k:Int):=by unfold sizeB;rw[List.map_append,List.sum_append];simp
    have key:=HJW.out.round (k:=k) (R2:=rec .busy none) aj3.out hnc' hcm' ho' (by rw[HW2.out];rfl) Gq.out Nv.out HA4.out;rw[aj6] at key
    have aeY:((w4.setCell ⟨lb,0,none⟩ (.slice A4 (pre.length+1) c4)).setCell ⟨sb,0,none⟩ (.int .i64 ((sizeB pre:Int)+(k:Int)))).heap[W0.heap.size+1]?=some (.loop (rec .busy none)):=by
     refine (Below.heap_setCell _ _ _ _ (by show W0.heap.size+1≠sb;omega)).trans ((Below.heap_setCell _ _ _ _ (by show W0.heap.size+1≠lb;omega)).trans ((Nv.out.block _ (by rw[World.size_alloc,HS2.out];omega) (fun e=>by have:=(YU.out.lt _ e.symm).1;omega)).trans ((Below.heap_alloc _ _ _ (by rw[HS2.out];omega)).trans ?_)));rw[HW2.out];exact World.putObj_heap_same (by simp;omega)
    have hend:=run_endRound (P:=Tryz.prog) none aeY;have hrd:({ rec .busy none with state:= .ready,pending:=none } :Loop)=rec .ready none:=by rw[qG.out,qG.out]
    simp only[Option.isNone_none,if_true] at hend;rw[hrd] at hend;refine⟨_,_,hend,rfl,⟨_,_,key.1⟩,⟨?_,key.2 gb (by omega) (by omega) (by omega),key.2 gt (by omega) (by omega) (by omega),fun g hg=>key.2 g (by omega) (by omega) (by omega)⟩⟩;have:=Nv.out.size;simp at this⊢;have:=HS2.out;omega
  · rintro e W ⟨⟨v,rfl⟩,v',css,hJ⟩;exact⟨⟨v,rfl⟩,hJ.r,v',css,_,hJ⟩
 case done=>
  rintro r r' W ⟨v,css,R,hJ⟩ hl;have gP:=grownBy_putObj' W (W0.heap.size+1) (.loop r');have aaT:=hJ.l.grown gP (fun e=>by cases e;omega);have aaU:=hJ.s.grown gP (fun e=>by cases e;omega);have hd':(W.putObj (W0.heap.size+1) (.loop r')).heap[W0.heap.size]?=some (.deferred (some [])):=(gP.block _ (Array.getElem?_eq_some_iff.1 hJ.d).1 (fun e=>by injection e with e;omega)).trans hJ.d;have hown':=ay hJ.own gP (fun g e1 e2=>by injection e2 with e2;have:=(hJ.own.lt _ e1).1;omega);have hblk':=hJ.blks.keep gP (fun g e=>by injection e with e;omega);have aaV:=af hJ.grown gP (.inr ⟨_,rfl,by omega⟩);obtain⟨Av,cv,hvv,hvn,hvm,_,hvo⟩:=aj hJ.own;obtain⟨W9,iQ⟩:∃W9,W9=W.putObj (W0.heap.size+1) (.loop r'):=⟨_,rfl⟩;rw[←iQ] at aaT aaU hd' hown' hblk' aaV⊢;have y0:W9.cell? ⟨lb,0,none⟩=some v:=aaT.cell 0;have y1:W9.cell? ⟨sb,0,none⟩=some (.int .i64 (sizeB (aJ th xs 0 (-1)):Int)):=aaU.cell 0;have HD':=ae hd';have HO':=ae hown';have HB':=ae hblk';have HR':=ae aaV;clear iQ hJ gP aaT aaU hd' hown' hblk' aaV hvo hl;subst hvv;gi_wp2_with fail;refine wpIn_wide.2 ?_;go_region;all_goals (try gi_wp2_with fail)
  all_goals (refine⟨by simp,.inl ⟨_,_,rfl,run_takeDeferred HD'.out,?_⟩⟩)
  all_goals (refine⟨_,results_tmp2 rfl _ _ _,?_⟩)
  have gP2:W9.grownBy (W9.drew.putObj W0.heap.size (.deferred none)) (some W0.heap.size):=by
   have:=grownBy_putObj' W9.drew W0.heap.size (.deferred none);exact ax (aN (World.grownBy.refl W9 _)) this
  exact⟨_,css,rfl,TV (ay HO'.out gP2 (fun g e1 e2=>by injection e2 with e2;have:=(HO'.out.lt _ e1).1;omega)) (by omega),(HB'.out.keep gP2 (fun g e=>by injection e with e;omega)).lower (by omega),af HR'.out gP2 (.inr ⟨_,rfl,by omega⟩)⟩
