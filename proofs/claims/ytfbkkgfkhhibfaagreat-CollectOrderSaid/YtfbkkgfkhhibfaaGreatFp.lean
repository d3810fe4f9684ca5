/- Words. -/
import Derived.Test.YtfbkkgfkhhibfaaGreatFk
set_option linter.unusedVariables false
set_option linter.unusedSimpArgs false
namespace AM
open Go Go.Proofs Mk
set_option maxRecDepth 20000
set_option maxHeartbeats 4000000
theorem CG (s:ByteArray):∀(l:List ByteArray) (i:Nat),dU s i l= -1∨(i≤dU s i l∧dU s i l < i+l.length)
 | [],i=> .inl rfl
 |
  x :: r,i=>by
  simp only[dU,List.length_cons]
  split
  · omega
  · have:=CG s r (i+1)
    have e:((i+1:Nat):Int)=(i:Int)+1:=rfl
    rw[e] at this
    omega
theorem abO (l:List ByteArray)(s:ByteArray): -1≤fU l s∧fU l s < l.length:=by
 have:=CG s l 0;unfold fU;simp only[Int.natCast_zero] at this;omega
@[go_sem] def nJ (p:List Sm×Nat):List PV:=thR (aO p.2) aZ (NM p.1)
@[go_sem] def uY (bs:List (List Sm)):List PV:= [.sl SS,.sl (bs.zipIdx.map nJ)]
theorem kR (bs:List (List Sm)):bs.zipIdx.map (fun p=>aO p.2)=thNames bs.length:=by
 rw[thNames,List.range_eq_range',←List.zipIdx_map_snd 0 bs,List.map_map];rfl
theorem uZ (l:List (List Sm×Nat))(s:ByteArray)(hl:l.length≤1000):FnEq Tryz.prog 141 [.pv (.sl (l.map nJ)),.pv (bJ s)] (.pv (ag (fU (l.map fun p=>aO p.2) s))):=by
 refine wf Tryz.func141 (fun _=> []) (h:=fun R hR=>?_);refine wb ?_ <;> intros
 refine wl (fun i:Nat=> [(0,.pv (.sl (l.map nJ))),(1,.pv (bJ s)),(5,.pv (ag i))]) (fun _=> []) (fun i=>i≤l.length∧fU (l.map fun p=>aO p.2) s=dU s i ((l.map fun p=>aO p.2).drop i)) (fun i=>l.length - i) 0 ⟨Nat.zero_le _,rfl⟩ (vm []) (fun i ⟨hi,ha⟩=>?_);refine wb (A2.mk ?_ ?_) <;> intros
 · have h2:i < l.length:=by omega
   refine aB (x:=l[i]) (Int.natCast_nonneg _) (by simp[h2]) rfl ?_;refine wb (A2.mk ?_ ?_) <;> intros
   · rw[at_hit (i:=i) (by simpa using h2) (by simpa using ‹aO l[i].snd=s›) ha] at hR;exact wr hR
   · exact ai ⟨i+1,⟨h2,lu (i:=i) (by simpa using h2) (by simpa using ‹_›) ha⟩,by omega,vm []⟩
 · rw[oN (i:=i) (by simp;omega) ha] at hR;exact wr hR
theorem Qs (bs:List (List Sm))(hb:bs.length≤4)(t:Nat)(ht:t < bs.length)(s:ByteArray):FnEq Tryz.prog 178 [rw_ (uY bs),.pv (ag t),.pv (bJ s)] (.pv (ag (rP bs.length s))):=by
 unfold rP;have h2:=abO tY s;have h9:tY.length=9:=rfl;rw[h9] at h2;generalize hl:fU aZ s=lo;generalize hd:fU tY s=di at h2;generalize ht':fU (thNames bs.length) s=ti;refine wf Tryz.func178 (fun _=> []) (h:=fun R hR=>?_);refine wb ?_ <;> intros
 refine aB (x:=(bs[t],t)) (by omega) (by simp[ht]) rfl ?_;refine wb ?_ <;> intros
 refine wE (YC aZ s (by decide)) ?_;rw[hl];refine wb (A2.mk ?_ ?_) <;> intros
 · rw[if_pos ‹_›] at hR;exact wr hR
 rw[if_neg (show¬0≤lo by omega)] at hR;refine wE (BJ dL s (by decide)) ?_;rw[show fU (dL.map DR.name) s=di from hd];refine wb (A2.mk ?_ ?_) <;> intros
 · rw[if_neg (show¬0≤di by omega)] at hR;refine wE (uZ bs.zipIdx s (by simp;omega)) ?_;rw[kR,ht'];refine wb (A2.mk ?_ ?_) <;> intros
   · exact wr hR
   · exact wr hR
 rw[if_pos (show 0≤di by omega)] at hR;clear hl ht' h9;obtain rfl | rfl | rfl | rfl | rfl | rfl | rfl | rfl | rfl:di=0∨di=1∨di=2∨di=3∨di=4∨di=5∨di=6∨di=7∨di=8:=by omega
 all_goals
  repeat refine au (by omega) rfl rfl (wb ?_)
  exact wr hR
theorem EY (bs:List (List Sm))(hb:bs.length≤4)(t:Nat)(ht:t < bs.length)(s:ByteArray)(a b:Int):FnEq Tryz.prog 169 [rw_ (uY bs),.pv (ag t),.pv (bJ s),.pv (ag a),.pv (ag b)] (.pv (ag (jK bs.length s a b))):=by
 unfold jK;refine wf Tryz.func169 (fun _=> []) (h:=fun R hR=>?_);refine wb ?_ <;> intros
 refine wE (Qs bs hb t ht s) ?_;refine wb (A2.mk ?_ (A2.mk ?_ (A2.mk ?_ ?_))) <;> intros
 all_goals exact wr hR
def XZ (x:Ex):AV:= .tup [.pv (ag (1+x.kids.length)),.pv (ag (if x.kids= [] then 1 else 2))]
attribute [local go_sem] sV
theorem U5 (x:Ex):FnEq Tryz.prog 179 [rw_ (qX x).r] (XZ x):=by
 have leaf:∀l:Lf,FnEq Tryz.prog 179 [rw_ (sV l)] (.tup [.pv (ag 1),.pv (ag 1)]):=fun l=>by
  simp only[sV,VD];refine wf Tryz.func179 (fun _=> []) (h:=fun R hR=>?_);refine wb ?_ <;> intros
  refine w1 ?_;refine wb ?_ <;> intros
  exact wr hR
 cases x with
 |
  leaf l=>
  have:=leaf l
  cases l <;> exact this
 |
  idx l=>
  simp only[qX,Ex.op,Ex.n,Ex.name,Ex.kids,XZ];refine wf Tryz.func179 (fun _=> []) (h:=fun R hR=>?_);refine wb ?_ <;> intros
  refine w2 ?_;refine wb ?_ <;> intros
  refine au (by omega) rfl rfl ?_;refine wb ?_ <;> intros
  refine wE (leaf l) ?_;refine wb ?_ <;> intros
  exact wr hR
 |
  bin k l r=>
  simp only[qX,Ex.op,Ex.n,Ex.name,Ex.kids,XZ];refine wf Tryz.func179 (fun _=> []) (h:=fun R hR=>?_);refine wb ?_ <;> intros
  refine w3 ?_;refine wb ?_ <;> intros
  refine au (by omega) rfl rfl ?_;refine wb ?_ <;> intros
  refine wE (leaf l) ?_;refine wb ?_ <;> intros
  refine au (by omega) rfl rfl ?_;refine wb ?_ <;> intros
  refine wE (leaf r) ?_;refine wb ?_ <;> intros
  exact wr hR
theorem Og (n:Nat)(k:Nm):jK n k.str 8 1=0:=by
 have h:rP n k.str=8∨rP n k.str=1:=by
  cases k
  · exact .inl rfl
  · exact .inl rfl
  · exact .inr rfl
  · exact .inr rfl
  · exact .inr rfl
 unfold jK;rcases h with h | h <;> rw[h] <;> rfl
theorem U6 (n:Nat):jK n ⟨#[113]⟩ 2 2=0:=rfl
theorem Qu (bs:List (List Sm))(hb:bs.length≤4)(t:Nat)(ht:t < bs.length)(x:Ex):FnEq Tryz.prog 180 [rw_ (uY bs),.pv (ag t),rw_ (qX x).r] (.pv (ag 0)):=by
 have leaf:∀l:Lf,FnEq Tryz.prog 180 [rw_ (uY bs),.pv (ag t),rw_ (sV l)] (.pv (ag 0)):=fun l=>by
  cases l with
  |
   num n=>
   simp only[sV,VD,Lf.op,Lf.n,Lf.name];refine wf Tryz.func180 (fun _=> [(0,3),(0,5),(0,6)]) (h:=fun R hR=>?_);refine wb ?_ <;> intros
   refine w1 ?_;refine wb ?_ <;> intros
   exact wr hR
  |
   var k=>
   simp only[sV,VD,Lf.op,Lf.n,Lf.name];refine wf Tryz.func180 (fun _=> [(0,3),(0,5),(0,6)]) (h:=fun R hR=>?_);refine wb ?_ <;> intros
   refine wE (EY bs hb t ht k.str 8 1) ?_;rw[Og];refine wb ?_ <;> intros
   refine w1 ?_;refine wb ?_ <;> intros
   exact wr hR
 cases x with
 |
  leaf l=>
  have:=leaf l
  cases l <;> exact this
 |
  idx l=>
  simp only[qX,Ex.op,Ex.n,Ex.name,Ex.kids];refine wf Tryz.func180 (fun _=> [(0,3),(0,5),(0,6)]) (h:=fun R hR=>?_);refine wb ?_ <;> intros
  refine wE (EY bs hb t ht ⟨#[113]⟩ 2 2) ?_;rw[U6];refine wb ?_ <;> intros
  refine w2 ?_;refine wb ?_ <;> intros
  refine au (by omega) rfl rfl ?_;refine wb ?_ <;> intros
  refine wE (leaf l) ?_;refine wb ?_ <;> intros
  exact wr hR
 |
  bin k l r=>
  have hk:binOp k≠2∧binOp k≠3:=by revert k;decide
  simp only[qX,Ex.op,Ex.n,Ex.name,Ex.kids];generalize binOp k=op at hk;refine wf Tryz.func180 (fun _=> [(0,3),(0,5),(0,6)]) (h:=fun R hR=>?_);refine wb ?_ <;> intros
  refine w3 ?_;refine wb ?_ <;> intros
  refine au (by omega) rfl rfl ?_;refine wb ?_ <;> intros
  refine wE (leaf l) ?_;refine wb ?_ <;> intros
  refine au (by omega) rfl rfl ?_;refine wb ?_ <;> intros
  refine wE (leaf r) ?_;refine wb ?_ <;> intros
  exact wr hR
theorem U7 (bs:List (List Sm))(hb:bs.length≤4)(t:Nat)(ht:t < bs.length)(x:Ex):FnEq Tryz.prog 170 [rw_ (uY bs),.pv (ag t),rw_ (qX x).r] (.pv (ag 0)):=by
 have hk:x.kids.length≤2:=by cases x <;> simp[Ex.kids]
 refine wf Tryz.func170 (fun _=> []) (h:=fun R hR=>?_);refine wb ?_ <;> intros
 refine wE (F5 x) ?_;refine wb ?_ <;> intros
 refine wE (U5 x) ?_;unfold XZ;refine wb ?_ <;> intros
 all_goals first | (exfalso;split at * <;> omega) | skip
 refine wE (Qu bs hb t ht x) ?_;refine wb ?_ <;> intros
 exact wr hR
end AM
namespace AM
open Go Go.Proofs Mk
set_option maxRecDepth 20000
set_option maxHeartbeats 4000000
theorem ZZ (d:DR)(hd:d∈dL):FnEq Tryz.prog 138 [rw_ d.r] (.pv (boolP true)):=by
 simp only[dL,List.mem_cons,List.not_mem_nil,or_false] at hd;obtain rfl | rfl | rfl | rfl | rfl | rfl | rfl | rfl | rfl:=hd
 all_goals
  refine wf Tryz.func138 (fun _=> []) (h:=fun R hR=>?_);refine wb ?_ <;> intros
  refine wE (gY _ ?_) ?_;decide+kernel;refine wb ?_ <;> intros
  first
  | exact wr hR
  |
   refine wE (gY _ ?_) ?_;decide+kernel;refine wb ?_ <;> intros
   exact wr hR
theorem WG (s:ByteArray)(h:s∈aZ):jm s=true:=by
 simp only[aZ,List.mem_cons,List.not_mem_nil,or_false] at h;rcases h with rfl | rfl <;> decide+kernel
theorem WH (k:Nat):jm (aO k)=true:=by
 obtain h | h | h | h:=pV k <;> (rw[h];decide+kernel)
theorem O4 (bs:List (List Sm))(h0:0 < bs.length)(hb:bs.length≤4)(hs:∀b∈bs,WJ b):FnEq Tryz.prog 102 [rw_ (uY bs)] (.pv (boolP true)):=by
 have h9:dL.length=9:=rfl;have h2:aZ.length=2:=rfl;refine wf Tryz.func102 (fun _=> []) (h:=fun R hR=>?_);refine wb ?_ <;> intros
 refine wl (fun i:Nat=> [(1,.ptr 0 0),(3,.pv (ag i))]) (fun _=> [some (.box ((uY bs).map .pv))]) (fun i=>i≤9) (fun i=>9 - i) 0 (Nat.zero_le _) (vm [0]) (fun i hi=>?_);refine wb (A2.mk ?_ ?_) <;> intros
 · refine iC dL DR.r (by omega) (fun d hd=>?_);refine wb ?_ <;> intros
   refine wE (ZZ d hd) ?_;refine wb ?_ <;> intros
   exact ai ⟨i+1,by omega,by omega,vm [0]⟩
 refine wl (fun i:Nat=> [(1,.ptr 0 0),(4,.pv (ag i))]) (fun _=> [some (.box ((uY bs).map .pv))]) (fun i=>i≤bs.length) (fun i=>bs.length - i) 0 (Nat.zero_le _) (vm [0]) (fun i hi=>?_);refine wb (A2.mk ?_ ?_) <;> intros
 · refine iC bs.zipIdx nJ (by simp;omega) (fun p hp=>?_);obtain⟨b,k⟩:=p;have hbb:b∈bs:=(List.mem_zipIdx' hp).2▸List.getElem_mem _;refine wb ?_ <;> intros
   refine wl (fun j:Nat=> [(1,.ptr 0 0),(4,.pv (ag i)),(5,.ptr 1 0),(6,.pv (ag j))]) (fun _=> [some (.box ((uY bs).map .pv)),some (.box ((nJ (b,k)).map .pv))]) (fun i=>i≤2) (fun i=>2 - i) 0 (Nat.zero_le _) (vm [0,81]) (fun j hj=>?_);refine wb (A2.mk ?_ ?_) <;> intros
   · refine iC aZ (fun s=> [bJ s]) (by omega) (fun s hs'=>?_);refine wb ?_ <;> intros
     refine wE (gY s (WG s hs')) ?_;refine wb ?_ <;> intros
     exact ai ⟨j+1,by omega,by omega,vm [0,1]⟩
   refine wE (gY _ (WH k)) ?_;refine wb ?_ <;> intros
   refine wE (hs b hbb) ?_;refine wb ?_ <;> intros
   exact ai ⟨i+1,by omega,by omega,vm [0]⟩
 exact wr hR
theorem dV (l:List DR)(s:ByteArray)(r:Int)(hl:l.length≤1000)(h:fU (l.map DR.name) s=r):FnEq Tryz.prog 140 [.pv (.sl (l.map DR.r)),.pv (bJ s)] (.pv (ag r)):=h▸BJ l s hl
theorem O5:FnEq Tryz.prog 103 [.pv (.sl SS)] (.tup [.pv (ag 0),.pv (ag 0)]):=by
 refine wf Tryz.func103 (fun i=>if i=6 then [(2,4)] else if i=23 then [(2,4)] else []) (h:=fun R hR=>?_);refine wb ?_ <;> intros
 refine wn 10 ?_;refine wb ?_;refine au (by omega) rfl rfl (wb ?_);refine wE (dV (dL.take 0) dL[0].name (-1) (by decide) rfl) (wb ?_);refine wb ?_;refine au (by omega) rfl rfl (wb ?_);refine wE (dV (dL.take 1) dL[1].name (-1) (by decide) rfl) (wb ?_);refine wb ?_;refine au (by omega) rfl rfl (wb ?_);refine wE (dV (dL.take 2) dL[2].name (-1) (by decide) rfl) (wb ?_);refine wb ?_;refine au (by omega) rfl rfl (wb ?_);refine wE (dV (dL.take 3) dL[3].name (-1) (by decide) rfl) (wb ?_);refine wb ?_;refine au (by omega) rfl rfl (wb ?_);refine wE (dV (dL.take 4) dL[4].name (-1) (by decide) rfl) (wb ?_);refine wb ?_;refine au (by omega) rfl rfl (wb ?_);refine wE (dV (dL.take 5) dL[5].name (-1) (by decide) rfl) (wb ?_);refine wb ?_;refine au (by omega) rfl rfl (wb ?_);refine wE (dV (dL.take 6) dL[6].name (-1) (by decide) rfl) (wb ?_);refine wb ?_;refine au (by omega) rfl rfl (wb ?_);refine wE (dV (dL.take 7) dL[7].name (-1) (by decide) rfl) (wb ?_);refine wE (dV (dL.take 7) ⟨#[109]⟩ 4 (by decide) rfl) (wb ?_);refine au (by omega) rfl rfl (wb ?_);refine wb ?_;refine au (by omega) rfl rfl (wb ?_);refine wE (dV (dL.take 8) dL[8].name (-1) (by decide) rfl) (wb ?_);exact wr hR
set_option maxRecDepth 20000
set_option maxHeartbeats 4000000
theorem NL (k:Nat):fU (dL.map DR.name) (aO k)= -1:=by
 obtain h | h | h | h:=pV k <;> (rw[h];rfl)
theorem D6 (bs:List (List Sm))(i:Nat)(hi:i≤bs.length):(bs.zipIdx.take i).map (fun p=>aO p.2)=thNames i:=by
 rw[List.map_take,kR,thNames,←List.map_take,List.take_range,Nat.min_eq_left hi,thNames]
theorem ng (l:List (List Sm×Nat))(s:ByteArray)(r:Int)(hl:l.length≤1000)(h:fU (l.map fun p=>aO p.2) s=r):FnEq Tryz.prog 141 [.pv (.sl (l.map nJ)),.pv (bJ s)] (.pv (ag r)):=h▸uZ l s hl
theorem nU (l:List ByteArray)(s:ByteArray)(r:Int)(hl:l.length≤1000000)(h:fU l s=r):FnEq Tryz.prog 94 [.pv (.sl (fV l)),.pv (bJ s)] (.pv (ag r)):=h▸YC l s hl
theorem Z4 (i:Nat)(hi:i < 4):fU (thNames i) (aO i)= -1:=by
 match i,hi with
 | 0,_=>rfl
 | 1,_=>rfl
 | 2,_=>rfl
 | 3,_=>rfl
theorem adJ (n:Nat)(hn:n≤4)(s:ByteArray)(hs:s∈aZ):fU (thNames n) s= -1:=by
 simp only[aZ,List.mem_cons,List.not_mem_nil,or_false] at hs
 match n,hn with
 | 0,_=>rfl
 | 1,_=>rcases hs with rfl | rfl <;> rfl
 | 2,_=>rcases hs with rfl | rfl <;> rfl
 | 3,_=>rcases hs with rfl | rfl <;> rfl
 | 4,_=>rcases hs with rfl | rfl <;> rfl
@[go_sem] theorem SV:aZ.length=2:=rfl
theorem G9 (bs:List (List Sm))(hb:bs.length≤4):FnEq Tryz.prog 104 [rw_ (uY bs)] (.tup [.pv (ag 0),.pv (ag 0)]):=by
 refine wf Tryz.func104 (fun _=> [(1,3),(8,12),(10,12)]) (h:=fun R hR=>?_);refine wb ?_ <;> intros
 refine wl (fun i:Nat=> [(1,.ptr 0 0),(4,.pv (ag i))]) (fun _=> [some (.box ((uY bs).map .pv))]) (fun i=>i≤bs.length) (fun i=>bs.length - i) 0 (Nat.zero_le _) (vm [0]) (fun i hi=>?_);refine wb (A2.mk ?_ ?_) <;> intros
 · refine aB (x:=(bs[i],i)) (by omega) (by simp <;> omega) rfl ?_
   refine wb ?_ <;> intros
   refine wE (dV dL (aO i) (-1) (by decide) (NL i)) ?_;refine wb ?_ <;> intros
   rw[←List.map_take];refine wE (ng (bs.zipIdx.take i) (aO i) (-1) (by simp;omega) (by rw[D6 bs i hi,Z4 i (by omega)])) ?_;refine wb ?_ <;> intros
   exact ai ⟨i+1,by omega,by omega,vm [0]⟩
 refine wl (fun i:Nat=> [(1,.ptr 0 0),(6,.pv (ag i))]) (fun _=> [some (.box ((uY bs).map .pv))]) (fun i=>i≤bs.length) (fun i=>bs.length - i) 0 (Nat.zero_le _) (vm [0]) (fun i hi=>?_);refine wb (A2.mk ?_ ?_) <;> intros
 · refine aB (x:=(bs[i],i)) (by omega) (by simp <;> omega) rfl ?_
   refine wb ?_ <;> intros
   refine wl (fun j:Nat=> [(1,.ptr 0 0),(6,.pv (ag i)),(7,.ptr 1 0),(8,.pv (ag j))]) (fun _=> [some (.box ((uY bs).map .pv)),some (.box ((nJ (bs[i],i)).map .pv))]) (fun i=>i≤2) (fun i=>2 - i) 0 (Nat.zero_le _) (vm [0,81]) (fun j hj=>?_);refine wb (A2.mk ?_ ?_) <;> intros
   · have hj2:j < aZ.length:=by rw[SV];omega
     refine aB (x:=aZ[j]) (by omega) (by simp[hj2]) rfl ?_;refine wb ?_ <;> intros
     refine wE (dV dL aZ[j] (-1) (by decide) (by rcases (show j=0∨j=1 by omega) with rfl | rfl <;> rfl)) ?_
     refine wb ?_ <;> intros
     refine wE (ng bs.zipIdx aZ[j] (-1) (by simp;omega) (by rw[kR,adJ _ hb _ (List.getElem_mem hj2)])) ?_;refine wb ?_ <;> intros
     rw[←List.map_take];refine wE (nU (aZ.take j) aZ[j] (-1) (by simp[SV];omega) (by rcases (show j=0∨j=1 by omega) with rfl | rfl <;> rfl)) ?_
     refine wb ?_ <;> intros
     exact ai ⟨j+1,by omega,by omega,vm [0,1]⟩
   exact ai ⟨i+1,by omega,by omega,vm [0]⟩
 exact wr hR
theorem Ha:∀(m:Nat) (l:List Sm),az l≤m→m≤100000→FnEq Tryz.prog 105 [.pv (NM l)] (.pv (ag (az l)))
 |
  m,l,h,hm=>by
  have hl:=rO l
  have ih:∀l',az l' < m→FnEq Tryz.prog 105 [.pv (NM l')] (.pv (ag (az l'))):=fun l' h'=>Ha (az l') l' (Nat.le_refl _) (by omega)
  refine wf Tryz.func105 (fun _=> [(3,10),(5,10),(6,10),(3,12),(5,12),(6,12)]) (h:=fun R hR=>?_)
  refine wb ?_ <;> intros
  refine wl (fun i:Nat=> [(0,.pv (NM l)),(3,.pv (ag ((l.length+qJ (l.take i):Nat)))),(4,.pv (ag i))]) (fun _=> []) (fun i=>i≤l.length) (fun i=>l.length - i) 0 (Nat.zero_le _) (vm []) (fun i hi=>?_)
  have hle:=DL l i
  refine wb (A2.mk ?_ ?_) <;> intros
  · have h2:i < l.length:=by omega
    have he:=BD l i l[i] (by simp[h2])
    have hle2:=DL l (i+1)
    refine aB (x:=l[i]) (by omega) (by simp[h2]) (lC _) ?_
    rw[dJ]
    refine wb ?_ <;> intros
    refine wE (ih l[i].body (by omega)) ?_
    refine wb ?_ <;> intros
    refine aB (x:=l[i]) (by omega) (by simp[h2]) (lC _) ?_
    rw[dJ]
    refine wb ?_ <;> intros
    refine wE (ih l[i].els (by omega)) ?_
    refine wb ?_ <;> intros
    exact ai ⟨i+1,by omega,by omega,vm []⟩
  · have hz:az l=l.length+qJ (l.take i):=by rw[List.take_of_length_le (by omega)];exact hl
    rw[hz] at hR
    exact wr hR
set_option maxRecDepth 20000
set_option maxHeartbeats 4000000
@[go_sem] def aaR (bs:List (List Sm))(t:Nat)(a b c:Nat)(ar:List Sm)(sp st:List ByteArray):Obj:= .box [.pv (.sl SS),.pv (.sl (bs.zipIdx.map nJ)),.pv (ag t),.own a ar.length,.own b sp.length,.own c st.length]
abbrev Eg (l:List ByteArray):Obj:= .row 9 1 (fV l)
@[go_sem] def YS (bs:List (List Sm))(t:Nat)(ar:List Sm)(sp st:List ByteArray):List Obj:= [aaR bs t 1 2 3 ar sp st,TS ar,Eg sp,Eg st]
@[go_sem] def wOg (bs:List (List Sm))(t:Nat)(ar:List Sm)(sp st:List ByteArray):List (Option Obj):= [some (aaR bs t 4 5 6 ar sp st),none,none,none,some (TS ar),some (Eg sp),some (Eg st)]
def TT (a b:Int)(s:ByteArray)(x:Sm):Bool:=(decide (x.op=a) || decide (x.op=b)) &&(decide (s=⟨#[]⟩) || decide (x.name=s))
theorem Xa (ar:List Sm)(a b:Int)(s:ByteArray):jV ar a b s=ar.any (TT a b s):=rfl
@[go_sem] theorem acK {a b:ByteArray} :(a.toList==b.toList)=decide (a=b):=ui
theorem PD (bs:List (List Sm))(t:Nat)(ar:List Sm)(sp st:List ByteArray)(a b:Int)(s:ByteArray)(ha:ar.length≤100):ACall Tryz.prog 167 [.ptr 0 0,.pv (ag a),.pv (ag b),.pv (bJ s)] (YS bs t ar sp st) (fun v g=>v= .pv (boolP (jV ar a b s))∧g=(YS bs t ar sp st).map some):=by
 rw[Xa];refine wz Tryz.func167 (fun _=> []) (h:=fun R hR=>?_);refine wb ?_ <;> intros
 refine wl (fun i:Nat=> [(0,.ptr 0 0),(1,.pv (ag a)),(2,.pv (ag b)),(3,.pv (bJ s)),(9,.pv (ag i))]) (fun _=>(YS bs t ar sp st).map some) (fun i=>i≤ar.length∧ar.any (TT a b s)=(ar.drop i).any (TT a b s)) (fun i=>ar.length - i) 0 ⟨Nat.zero_le _,rfl⟩ (vm [0,1,2,3]) (fun i ⟨hi,hd⟩=>?_);refine wb (A2.mk ?_ ?_) <;> intros
 · have h2:i < ar.length:=by omega
   rw[List.drop_eq_getElem_cons h2,List.any_cons] at hd;generalize hx:ar[i]=x at hd;refine DK (x:=lS x) (by rw[List.getElem?_map,List.getElem?_eq_getElem h2,hx,Option.map_some]) (by rw[dJ];rfl) ?_
   cases e:TT a b s x
   all_goals
    rw[e] at hd;simp only[Bool.true_or,Bool.false_or] at hd;simp only[TT,Bool.and_eq_false_iff,Bool.or_eq_false_iff,Bool.and_eq_true,Bool.or_eq_true,decide_eq_true_eq,decide_eq_false_iff_not] at e
    (first | (refine wb (A2.mk ?_ (A2.mk ?_ (A2.mk ?_ (A2.mk ?_ (A2.mk ?_ ?_))))) <;> intros) | (refine wb (A2.mk ?_ (A2.mk ?_ (A2.mk ?_ (A2.mk ?_ (A2.mk ?_ (A2.mk ?_ ?_)))))) <;> intros))
   all_goals first
    | (exfalso;grind)
    | (refine wo hR (.pv (boolP true)) ((YS bs t ar sp st).map some) [0,1,2,3] [] ⟨by rw[hd],rfl⟩)
    | exact ai ⟨i+1,⟨h2,hd⟩,by omega,vm [0,1,2,3]⟩
 · refine wo hR (.pv (boolP false)) ((YS bs t ar sp st).map some) [0,1,2,3] [] ⟨?_,rfl⟩;rw[hd,List.drop_eq_nil_of_le (by omega)];rfl
