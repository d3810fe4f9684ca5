/- Words. -/
import Derived.Test.YtfbkkgfkhhibfaaGreatFh
set_option linter.unusedVariables false
set_option linter.unusedSimpArgs false
namespace AM
open Go Go.Proofs Mk
set_option maxRecDepth 20000
set_option maxHeartbeats 4000000
theorem IP (s:ByteArray):∀(l:List ByteArray) (i:Nat),gu s i l= -1\/(i<=gu s i l/\gu s i l<i+l.length)
 | [],i=> .inl rfl
 |
  x::r,i=>by
  simp only[gu,iR]
  split
  . omega
  . have:=IP s r (i+1)
    have e:((i+1:Nat):Int)=(i:Int)+1:=rfl
    rw[e] at this
    omega
theorem ahE (l:List ByteArray)(s:ByteArray): -1<=jd l s/\jd l s<l.length:=by have:=IP s l 0;unfold jd;simp only[Int.natCast_zero] at this;omega
@[go_sem] def rW (p:List Sm×Nat):List PV:=thR (aS p.2) bK (UN p.1)
@[go_sem] def Bi (bs:List (List Sm)):List PV:=[.sl YZ,.sl (bs.zipIdx.map rW)]
theorem nX (bs:List (List Sm)):bs.zipIdx.map (λp=>aS p.2)=thNames bs.length:=by rw[thNames,KW,<-aa3 0 bs,wW];rfl
theorem Bj (l:List (List Sm×Nat))(s:ByteArray)(d:l.length<=1000):FnEq Tryz.prog 141 [.pv (.sl (l.map rW)),.pv (dJ s)] (.pv (ah (jd (l.map λp=>aS p.2) s))):=by
 refine wf Tryz.func141 (λ_=> []) (h:=λR a=>?_);refine wb ?_<;>intros;refine wl (λi:Nat=> [(0,.pv (.sl (l.map rW))),(1,.pv (dJ s)),(5,.pv (ah i))]) (λ_=> []) (λi=>i<=l.length/\jd (l.map λp=>aS p.2) s=gu s i ((l.map λp=>aS p.2).drop i)) (λi=>l.length-i) 0 ⟨ay _,rfl⟩ (vm []) (λi ⟨hi,ha⟩=>?_);refine wb (A2.mk ?_ ?_)<;>intros
 . have h2:i<l.length:=(by omega);refine aJ (x:=l[i]) (zD _) (by simp[h2]) rfl ?_;refine wb (A2.mk ?_ ?_)<;>intros
   . rw[at_hit (i:=i) (by simpa using h2) (by simpa using ‹aS l[i].snd=s›) ha] at a;exact wr a
   . exact aj ⟨i+1,⟨h2,oQ (i:=i) (by simpa using h2) (by simpa using ‹_›) ha⟩,by omega,vm []⟩
 . rw[uq (i:=i) (by simp;omega) ha] at a;exact wr a
theorem Xt (bs:List (List Sm))(hb:bs.length<=4)(t:Nat)(y:t<bs.length)(s:ByteArray):FnEq Tryz.prog 178 [rw_ (Bi bs),.pv (ah t),.pv (dJ s)] (.pv (ah (yD bs.length s))):=by
 unfold yD;have h2:=ahE zG s;have q:zG.length=9:=rfl;rw[q] at h2;generalize u:jd bK s=lo;generalize B:jd zG s=di at h2;generalize d:jd (thNames bs.length) s=ti;refine wf Tryz.func178 (λ_=> []) (h:=λR a=>?_);refine wb ?_<;>intros;refine aJ (x:=(bs[t],t)) (by omega) (by simp[y]) rfl ?_;refine wb ?_<;>intros;refine wE (aeb bK s (by decide)) ?_;rw[u];refine wb (A2.mk ?_ ?_)<;>intros;rw[if_pos ‹_›] at a;exact wr a;rw[if_neg (show¬0<=lo by omega)] at a;refine wE (Ih dL s (by decide)) ?_;rw[show jd (dL.map DR.name) s=di from B];refine wb (A2.mk ?_ ?_)<;>intros;rw[if_neg (show¬0<=di by omega)] at a;refine wE (Bj bs.zipIdx s (by simp;omega)) ?_;rw[nX,d];refine wb (A2.mk ?_ ?_)<;>intros;exact wr a;exact wr a;rw[if_pos (show 0<=di by omega)] at a;clear u d q;obtain rfl|rfl|rfl|rfl|rfl|rfl|rfl|rfl|rfl:di=0\/di=1\/di=2\/di=3\/di=4\/di=5\/di=6\/di=7\/di=8:=by omega
 all_goals
  (repeat refine az (by omega) rfl rfl (wb ?_));exact wr a
theorem LW (bs:List (List Sm))(hb:bs.length<=4)(t:Nat)(d:t<bs.length)(s:ByteArray)(a b:Int):FnEq Tryz.prog 169 [rw_ (Bi bs),.pv (ah t),.pv (dJ s),.pv (ah a),.pv (ah b)] (.pv (ah (mi bs.length s a b))):=by unfold mi;refine wf Tryz.func169 (λ_=> []) (h:=λR q=>?_);refine wb ?_<;>intros;refine wE (Xt bs hb t d s) ?_;refine wb (A2.mk ?_ (A2.mk ?_ (A2.mk ?_ ?_)))<;>intros;all_goals exact wr q
def adH (x:Ex):AV:= .tup [.pv (ah (1+x.kids.length)),.pv (ah (if x.kids=[] then 1 else 2))]
attribute [local go_sem] y8
theorem aa4 (x:Ex):FnEq Tryz.prog 179 [rw_ (xX x).r] (adH x):=by
 have leaf:∀l:Lf,FnEq Tryz.prog 179 [rw_ (y8 l)] (.tup [.pv (ah 1),.pv (ah 1)]):=λl=>by simp only[y8,lfE];refine wf Tryz.func179 (λ_=> []) (h:=λR a=>?_);refine wb ?_<;>intros;refine w1 ?_;refine wb ?_<;>intros;exact wr a
 cases x with
 |
  leaf l=>
  have:=leaf l
  cases l<;>exact this
 |
  idx l=>
  simp only[xX,Ex.op,Ex.n,Ex.name,Ex.kids,adH];refine wf Tryz.func179 (λ_=> []) (h:=λR a=>?_);refine wb ?_<;>intros;refine w2 ?_;refine wb ?_<;>intros;refine az (by omega) rfl rfl ?_;refine wb ?_<;>intros;refine wE (leaf l) ?_;refine wb ?_<;>intros;exact wr a
 |
  bin k l r=>
  simp only[xX,Ex.op,Ex.n,Ex.name,Ex.kids,adH];refine wf Tryz.func179 (λ_=> []) (h:=λR a=>?_);refine wb ?_<;>intros;refine w3 ?_;refine wb ?_<;>intros;refine az (by omega) rfl rfl ?_;refine wb ?_<;>intros;refine wE (leaf l) ?_;refine wb ?_<;>intros;refine az (by omega) rfl rfl ?_;refine wb ?_<;>intros;refine wE (leaf r) ?_;refine wb ?_<;>intros;exact wr a
theorem Ve (n:Nat)(k:Nm):mi n k.str 8 1=0:=by
 have h:yD n k.str=8\/yD n k.str=1:=by
  cases k
  exact .inl rfl;exact .inl rfl;exact .inr rfl;exact .inr rfl;exact .inr rfl
 unfold mi;rcases h with h|h<;>rw[h]<;>rfl
theorem aa5 (n:Nat):mi n ⟨#[113]⟩ 2 2=0:=rfl
theorem Xu (bs:List (List Sm))(hb:bs.length<=4)(t:Nat)(d:t<bs.length)(x:Ex):FnEq Tryz.prog 180 [rw_ (Bi bs),.pv (ah t),rw_ (xX x).r] (.pv (ah 0)):=by
 have leaf:∀l:Lf,FnEq Tryz.prog 180 [rw_ (Bi bs),.pv (ah t),rw_ (y8 l)] (.pv (ah 0)):=λl=>by
  cases l with
  |
   num n=>
   simp only[y8,lfE,Lf.op,Lf.n,Lf.name];refine wf Tryz.func180 (λ_=> [(0,3),(0,5),(0,6)]) (h:=λR a=>?_);refine wb ?_<;>intros;refine w1 ?_;refine wb ?_<;>intros;exact wr a
  |
   var k=>
   simp only[y8,lfE,Lf.op,Lf.n,Lf.name];refine wf Tryz.func180 (λ_=> [(0,3),(0,5),(0,6)]) (h:=λR a=>?_);refine wb ?_<;>intros;refine wE (LW bs hb t d k.str 8 1) ?_;rw[Ve];refine wb ?_<;>intros;refine w1 ?_;refine wb ?_<;>intros;exact wr a
 cases x with
 |
  leaf l=>
  have:=leaf l
  cases l<;>exact this
 |
  idx l=>
  simp only[xX,Ex.op,Ex.n,Ex.name,Ex.kids];refine wf Tryz.func180 (λ_=> [(0,3),(0,5),(0,6)]) (h:=λR a=>?_);refine wb ?_<;>intros;refine wE (LW bs hb t d ⟨#[113]⟩ 2 2) ?_;rw[aa5];refine wb ?_<;>intros;refine w2 ?_;refine wb ?_<;>intros;refine az (by omega) rfl rfl ?_;refine wb ?_<;>intros;refine wE (leaf l) ?_;refine wb ?_<;>intros;exact wr a
 |
  bin k l r=>
  have hk:binOp k≠2/\binOp k≠3:=(by revert k;decide);simp only[xX,Ex.op,Ex.n,Ex.name,Ex.kids];generalize binOp k=op at hk;refine wf Tryz.func180 (λ_=> [(0,3),(0,5),(0,6)]) (h:=λR a=>?_);refine wb ?_<;>intros;refine w3 ?_;refine wb ?_<;>intros;refine az (by omega) rfl rfl ?_;refine wb ?_<;>intros;refine wE (leaf l) ?_;refine wb ?_<;>intros;refine az (by omega) rfl rfl ?_;refine wb ?_<;>intros;refine wE (leaf r) ?_;refine wb ?_<;>intros;exact wr a
theorem aa6 (bs:List (List Sm))(hb:bs.length<=4)(t:Nat)(ht:t<bs.length)(x:Ex):FnEq Tryz.prog 170 [rw_ (Bi bs),.pv (ah t),rw_ (xX x).r] (.pv (ah 0)):=by (have hk:x.kids.length<=2:=by cases x<;>simp[Ex.kids]);refine wf Tryz.func170 (λ_=> []) (h:=λR hR=>?_);refine wb ?_<;>intros;refine wE (Nh x) ?_;refine wb ?_<;>intros;refine wE (aa4 x) ?_;unfold adH;refine wb ?_<;>intros;(all_goals first|(exfalso;split at * <;> omega)|skip);refine wE (Xu bs hb t ht x) ?_;refine wb ?_<;>intros;exact wr hR
end AM
namespace AM
open Go Go.Proofs Mk
set_option maxRecDepth 20000
set_option maxHeartbeats 4000000
theorem afA (d:DR)(a:d∈dL):FnEq Tryz.prog 138 [rw_ d.r] (.pv (boolP true)):=by
 simp only[dL,fV,lX,or_false] at a;obtain rfl|rfl|rfl|rfl|rfl|rfl|rfl|rfl|rfl:=a
 all_goals
  refine wf Tryz.func138 (λ_=> []) (h:=λR q=>?_);refine wb ?_<;>intros;refine wE (jy _ ?_) ?_;decide+kernel;refine wb ?_<;>intros;first
  |exact wr q
  |
   refine wE (jy _ ?_) ?_;decide+kernel;refine wb ?_<;>intros;exact wr q
theorem ack (s:ByteArray)(h:s∈bK):kY s=true:=by simp only[bK,fV,lX,or_false] at h;rcases h with rfl|rfl<;>decide+kernel
theorem acm (k:Nat):kY (aS k)=true:=by obtain h|h|h|h:=vC k<;>(rw[h];decide+kernel)
theorem VV (bs:List (List Sm))(h0:0<bs.length)(hb:bs.length<=4)(hs:∀b∈bs,ShL b):FnEq Tryz.prog 102 [rw_ (Bi bs)] (.pv (boolP true)):=by have D:dL.length=9:=rfl;have h2:bK.length=2:=rfl;refine wf Tryz.func102 (λ_=> []) (h:=λR u=>?_);refine wb ?_<;>intros;refine wl (λi:Nat=> [(1,.ptr 0 0),(3,.pv (ah i))]) (λ_=> [some (.box ((Bi bs).map .pv))]) (λi=>i<=9) (λi=>9-i) 0 (ay _) (vm [0]) (λi hi=>?_);refine wb (A2.mk ?_ ?_)<;>intros;refine jJ dL DR.r (by omega) (λd y=>?_);refine wb ?_<;>intros;refine wE (afA d y) ?_;refine wb ?_<;>intros;exact aj ⟨i+1,by omega,by omega,vm [0]⟩;refine wl (λi:Nat=> [(1,.ptr 0 0),(4,.pv (ah i))]) (λ_=> [some (.box ((Bi bs).map .pv))]) (λi=>i<=bs.length) (λi=>bs.length-i) 0 (ay _) (vm [0]) (λi hi=>?_);refine wb (A2.mk ?_ ?_)<;>intros;refine jJ bs.zipIdx rW (by simp;omega) (λp B=>?_);obtain⟨b,k⟩:=p;have a:b∈bs:=(List.mem_zipIdx' B).2▸eu _;refine wb ?_<;>intros;refine wl (λj:Nat=> [(1,.ptr 0 0),(4,.pv (ah i)),(5,.ptr 1 0),(6,.pv (ah j))]) (λ_=> [some (.box ((Bi bs).map .pv)),some (.box ((rW (b,k)).map .pv))]) (λi=>i<=2) (λi=>2-i) 0 (ay _) (vm [0,81]) (λj E=>?_);refine wb (A2.mk ?_ ?_)<;>intros;refine jJ bK (λs=> [dJ s]) (by omega) (λs q=>?_);refine wb ?_<;>intros;refine wE (jy s (ack s q)) ?_;refine wb ?_<;>intros;exact aj ⟨j+1,by omega,by omega,vm [0,1]⟩;refine wE (jy _ (acm k)) ?_;refine wb ?_<;>intros;refine wE (hs b a) ?_;refine wb ?_<;>intros;exact aj ⟨i+1,by omega,by omega,vm [0]⟩;exact wr u
theorem gy (l:List DR)(s:ByteArray)(r:Int)(a:l.length<=1000)(h:jd (l.map DR.name) s=r):FnEq Tryz.prog 140 [.pv (.sl (l.map DR.r)),.pv (dJ s)] (.pv (ah r)):=h▸Ih l s a
theorem VW:FnEq Tryz.prog 103 [.pv (.sl YZ)] (.tup [.pv (ah 0),.pv (ah 0)]):=by refine wf Tryz.func103 (λi=>if i=6 then [(2,4)] else if i=23 then [(2,4)] else []) (h:=λR a=>?_);refine wb ?_<;>intros;refine wn 10 ?_;refine wb ?_;refine az (by omega) rfl rfl (wb ?_);refine wE (gy (dL.take 0) dL[0].name (-1) (by decide) rfl) (wb ?_);refine wb ?_;refine az (by omega) rfl rfl (wb ?_);refine wE (gy (dL.take 1) dL[1].name (-1) (by decide) rfl) (wb ?_);refine wb ?_;refine az (by omega) rfl rfl (wb ?_);refine wE (gy (dL.take 2) dL[2].name (-1) (by decide) rfl) (wb ?_);refine wb ?_;refine az (by omega) rfl rfl (wb ?_);refine wE (gy (dL.take 3) dL[3].name (-1) (by decide) rfl) (wb ?_);refine wb ?_;refine az (by omega) rfl rfl (wb ?_);refine wE (gy (dL.take 4) dL[4].name (-1) (by decide) rfl) (wb ?_);refine wb ?_;refine az (by omega) rfl rfl (wb ?_);refine wE (gy (dL.take 5) dL[5].name (-1) (by decide) rfl) (wb ?_);refine wb ?_;refine az (by omega) rfl rfl (wb ?_);refine wE (gy (dL.take 6) dL[6].name (-1) (by decide) rfl) (wb ?_);refine wb ?_;refine az (by omega) rfl rfl (wb ?_);refine wE (gy (dL.take 7) dL[7].name (-1) (by decide) rfl) (wb ?_);refine wE (gy (dL.take 7) ⟨#[109]⟩ 4 (by decide) rfl) (wb ?_);refine az (by omega) rfl rfl (wb ?_);refine wb ?_;refine az (by omega) rfl rfl (wb ?_);refine wE (gy (dL.take 8) dL[8].name (-1) (by decide) rfl) (wb ?_);exact wr a
set_option maxRecDepth 20000
set_option maxHeartbeats 4000000
theorem UM (k:Nat):jd (dL.map DR.name) (aS k)= -1:=by obtain h|h|h|h:=vC k<;>(rw[h];rfl)
theorem JW (bs:List (List Sm))(i:Nat)(hi:i<=bs.length):(bs.zipIdx.take i).map (λp=>aS p.2)=thNames i:=by rw[kU,nX,thNames,<-kU,List.take_range,Dz hi,thNames]
theorem qX (l:List (List Sm×Nat))(s:ByteArray)(r:Int)(a:l.length<=1000)(h:jd (l.map λp=>aS p.2) s=r):FnEq Tryz.prog 141 [.pv (.sl (l.map rW)),.pv (dJ s)] (.pv (ah r)):=h▸Bj l s a
theorem sK (l:List ByteArray)(s:ByteArray)(r:Int)(a:l.length<=1000000)(h:jd l s=r):FnEq Tryz.prog 94 [.pv (.sl (je l)),.pv (dJ s)] (.pv (ah r)):=h▸aeb l s a
theorem afB (i:Nat)(hi:i<4):jd (thNames i) (aS i)= -1:=by
 match i,hi with
 |0,_=>rfl
 |1,_=>rfl
 |2,_=>rfl
 |3,_=>rfl
theorem ajC (n:Nat)(hn:n<=4)(s:ByteArray)(hs:s∈bK):jd (thNames n) s= -1:=by
 simp only[bK,fV,lX,or_false] at hs
 match n,hn with
 |0,_=>rfl
 |1,_=>rcases hs with rfl|rfl<;>rfl
 |2,_=>rcases hs with rfl|rfl<;>rfl
 |3,_=>rcases hs with rfl|rfl<;>rfl
 |4,_=>rcases hs with rfl|rfl<;>rfl
@[go_sem] theorem Y6:bK.length=2:=rfl
theorem Oq (bs:List (List Sm))(hb:bs.length<=4):FnEq Tryz.prog 104 [rw_ (Bi bs)] (.tup [.pv (ah 0),.pv (ah 0)]):=by
 refine wf Tryz.func104 (λ_=> [(1,3),(8,12),(10,12)]) (h:=λR d=>?_);refine wb ?_<;>intros;refine wl (λi:Nat=> [(1,.ptr 0 0),(4,.pv (ah i))]) (λ_=> [some (.box ((Bi bs).map .pv))]) (λi=>i<=bs.length) (λi=>bs.length-i) 0 (ay _) (vm [0]) (λi hi=>?_);refine wb (A2.mk ?_ ?_)<;>intros;refine aJ (x:=(bs[i],i)) (by omega) (by simp<;>omega) rfl ?_;refine wb ?_<;>intros;refine wE (gy dL (aS i) (-1) (by decide) (UM i)) ?_;refine wb ?_<;>intros;rw[<-kU];refine wE (qX (bs.zipIdx.take i) (aS i) (-1) (by simp;omega) (by rw[JW bs i hi,afB i (by omega)])) ?_;refine wb ?_<;>intros;exact aj ⟨i+1,by omega,by omega,vm [0]⟩;refine wl (λi:Nat=> [(1,.ptr 0 0),(6,.pv (ah i))]) (λ_=> [some (.box ((Bi bs).map .pv))]) (λi=>i<=bs.length) (λi=>bs.length-i) 0 (ay _) (vm [0]) (λi hi=>?_);refine wb (A2.mk ?_ ?_)<;>intros
 . refine aJ (x:=(bs[i],i)) (by omega) (by simp<;>omega) rfl ?_;refine wb ?_<;>intros;refine wl (λj:Nat=> [(1,.ptr 0 0),(6,.pv (ah i)),(7,.ptr 1 0),(8,.pv (ah j))]) (λ_=> [some (.box ((Bi bs).map .pv)),some (.box ((rW (bs[i],i)).map .pv))]) (λi=>i<=2) (λi=>2-i) 0 (ay _) (vm [0,81]) (λj q=>?_);refine wb (A2.mk ?_ ?_)<;>intros
   . have a:j<bK.length:=(by rw[Y6];omega);refine aJ (x:=bK[j]) (by omega) (by simp[a]) rfl ?_;refine wb ?_<;>intros;refine wE (gy dL bK[j] (-1) (by decide) (by rcases (show j=0\/j=1 by omega) with rfl|rfl<;>rfl)) ?_;refine wb ?_<;>intros;refine wE (qX bs.zipIdx bK[j] (-1) (by simp;omega) (by rw[nX,ajC _ hb _ (eu a)])) ?_;refine wb ?_<;>intros;rw[<-kU];refine wE (sK (bK.take j) bK[j] (-1) (by simp[Y6];omega) (by rcases (show j=0\/j=1 by omega) with rfl|rfl<;>rfl)) ?_;refine wb ?_<;>intros;exact aj ⟨j+1,by omega,by omega,vm [0,1]⟩
   exact aj ⟨i+1,by omega,by omega,vm [0]⟩
 exact wr d
theorem Ot:∀(m:Nat) (l:List Sm),aF l<=m->m<=100000->FnEq Tryz.prog 105 [.pv (UN l)] (.pv (ah (aF l)))
 |
  m,l,h,hm=>by
  have u:=yC l
  have a:∀l',aF l'<m->FnEq Tryz.prog 105 [.pv (UN l')] (.pv (ah (aF l'))):=λl' B=>Ot (aF l') l' (ak _) (by omega)
  refine wf Tryz.func105 (λ_=> [(3,10),(5,10),(6,10),(3,12),(5,12),(6,12)]) (h:=λR d=>?_)
  refine wb ?_<;>intros
  refine wl (λi:Nat=> [(0,.pv (UN l)),(3,.pv (ah ((l.length+xA (l.take i):Nat)))),(4,.pv (ah i))]) (λ_=> []) (λi=>i<=l.length) (λi=>l.length-i) 0 (ay _) (vm []) (λi hi=>?_)
  have hle:=JL l i
  refine wb (A2.mk ?_ ?_)<;>intros
  . have h2:i<l.length:=by omega
    have he:=Ib l i l[i] (by simp[h2])
    have q:=JL l (i+1)
    refine aJ (x:=l[i]) (by omega) (by simp[h2]) (oU _) ?_
    rw[fH]
    refine wb ?_<;>intros
    refine wE (a l[i].body (by omega)) ?_
    refine wb ?_<;>intros
    refine aJ (x:=l[i]) (by omega) (by simp[h2]) (oU _) ?_
    rw[fH]
    refine wb ?_<;>intros
    refine wE (a l[i].els (by omega)) ?_
    refine wb ?_<;>intros
    exact aj ⟨i+1,by omega,by omega,vm []⟩
  . have y:aF l=l.length+xA (l.take i):=by rw[uy (by omega)];exact u
    rw[y] at d
    exact wr d
set_option maxRecDepth 20000
set_option maxHeartbeats 4000000
@[go_sem] def agm (bs:List (List Sm))(t:Nat)(a b c:Nat)(ar:List Sm)(sp st:List ByteArray):Obj:= .box [.pv (.sl YZ),.pv (.sl (bs.zipIdx.map rW)),.pv (ah t),.own a ar.length,.own b sp.length,.own c st.length]
abbrev Kz (l:List ByteArray):Obj:= .row 9 1 (je l)
@[go_sem] def wOs (bs:List (List Sm))(t:Nat)(ar:List Sm)(sp st:List ByteArray):List Obj:=[agm bs t 1 2 3 ar sp st,ZL ar,Kz sp,Kz st]
@[go_sem] def wOg (bs:List (List Sm))(t:Nat)(ar:List Sm)(sp st:List ByteArray):List (Option Obj):=[some (agm bs t 4 5 6 ar sp st),none,none,none,some (ZL ar),some (Kz sp),some (Kz st)]
def ZM (a b:Int)(s:ByteArray)(x:Sm):Bool:=(decide (x.op=a) || decide (x.op=b)) &&(decide (s=⟨#[]⟩) || decide (x.name=s))
theorem acG (d:List Sm)(a b:Int)(s:ByteArray):ng d a b s=d.any (ZM a b s):=rfl
@[go_sem] theorem aix {a b:ByteArray} :(a.toList==b.toList)=decide (a=b):=zM
theorem Wi (bs:List (List Sm))(t:Nat)(d:List Sm)(u y:List ByteArray)(a b:Int)(s:ByteArray)(ha:d.length<=100):ACall Tryz.prog 167 [.ptr 0 0,.pv (ah a),.pv (ah b),.pv (dJ s)] (wOs bs t d u y) (λv g=>v= .pv (boolP (ng d a b s))/\g=(wOs bs t d u y).map some):=by
 rw[acG];refine wz Tryz.func167 (λ_=> []) (h:=λR B=>?_);refine wb ?_<;>intros;refine wl (λi:Nat=> [(0,.ptr 0 0),(1,.pv (ah a)),(2,.pv (ah b)),(3,.pv (dJ s)),(9,.pv (ah i))]) (λ_=>(wOs bs t d u y).map some) (λi=>i<=d.length/\d.any (ZM a b s)=(d.drop i).any (ZM a b s)) (λi=>d.length-i) 0 ⟨ay _,rfl⟩ (vm [0,1,2,3]) (λi ⟨hi,q⟩=>?_);refine wb (A2.mk ?_ ?_)<;>intros
 . have h2:i<d.length:=(by omega);rw[nM h2,List.any_cons] at q;generalize hx:d[i]=x at q;refine JK (x:=pY x) (by rw[bM,aX h2,hx,nJ]) (by rw[fH];rfl) ?_
   cases e:ZM a b s x
   all_goals
    rw[e] at q;simp only[Bool.true_or,Bool.false_or] at q;simp only[ZM,AY,KA,dH,wO,gX,ji] at e;(first|(refine wb (A2.mk ?_ (A2.mk ?_ (A2.mk ?_ (A2.mk ?_ (A2.mk ?_ ?_)))))<;>intros)|(refine wb (A2.mk ?_ (A2.mk ?_ (A2.mk ?_ (A2.mk ?_ (A2.mk ?_ (A2.mk ?_ ?_))))))<;>intros))
   all_goals first
    |(exfalso;grind)
    |(refine wo B (.pv (boolP true)) ((wOs bs t d u y).map some) [0,1,2,3] [] ⟨by rw[q],rfl⟩)
    |exact aj ⟨i+1,⟨h2,q⟩,by omega,vm [0,1,2,3]⟩
 refine wo B (.pv (boolP false)) ((wOs bs t d u y).map some) [0,1,2,3] [] ⟨?_,rfl⟩;rw[q,jK (by omega)];rfl
set_option maxRecDepth 20000
set_option maxHeartbeats 4000000
theorem Vj (n k:Nat):mi n (aS k) 7 7=if jd (thNames n) (aS k)<0 then 5 else 0:=by (have h1:jd bK (aS k)= -1:=by obtain h|h|h|h:=vC k<;>(rw[h];rfl));have h2:jd zG (aS k)= -1:=UM k;have h3:yD n (aS k)=if 0<=jd (thNames n) (aS k) then 7 else 0:=(by unfold yD;rw[h1,h2];rfl);unfold mi;rw[h3];split<;>split<;>first|rfl|omega|(simp_all;done)|(simp_all;omega)
attribute [local go_sem] y8 nest
def amf:Nat->List (Nat×Nat):=λi=>if i=1 then [(3,7),(3,8),(7,8),(7,9)] else if i=8 then [(0,3),(0,5),(3,5),(4,5),(0,8),(3,8),(4,8),(5,8)] else if i=9 then [(0,3),(0,5),(3,5),(4,5),(0,8),(3,8),(4,8),(5,8),(0,9),(3,9),(4,9),(5,9),(0,10),(3,10),(4,10),(5,10),(0,12),(3,12),(4,12),(5,12),(8,12),(9,12),(10,12),(11,12),(0,15),(3,15),(4,15),(5,15),(8,15),(9,15),(10,15),(11,15),(12,15)] else if i=28 then [(2,4),(2,6),(4,6),(2,7)] else if i=37 then [(3,5)] else if i=39 then [(4,6)] else if i=45 then [(6,8)] else if i=47 then [(4,6)] else if i=49 then [(0,3),(0,5),(3,5),(4,5),(0,8),(3,8),(4,8),(5,8)] else []
abbrev ahB (bs:List (List Sm))(t:Nat)(ar:List Sm)(sp st:List ByteArray)(s:Sm):Prop:=
 ACall Tryz.prog 142 [.ptr 0 0,rw_ (pY s)] (wOs bs t ar sp st) (λv g=>v= .pv (ah (jl bs.length t ar sp st s).1)/\g=wOg bs t ar (jl bs.length t ar sp st s).2.1 (jl bs.length t ar sp st s).2.2)
theorem ahA (bs:List (List Sm))(hb:bs.length<=4)(t:Nat)(E:t<bs.length)(D:List Sm)(u y:List ByteArray)(ha:D.length<=100)(J:u.length<=100)(L:y.length<=100)(s:Sm):ahB bs t D u y s:=by
 have H:=λa b G=>Wi bs t D u y a b G ha;have W:=λs a b=>LW bs hb t E s a b;have X:=aa6 bs hb t E
 have I:∀l:Lf,FnEq Tryz.prog 170 [rw_ (Bi bs),.pv (ah t),rw_ (y8 l)] (.pv (ah 0)):=λl=>by
  have:=X (.leaf l)
  cases l<;>exact this
 unfold ahB;rw[fH];rcases s with ⟨k,e⟩|⟨i,e⟩|⟨e,b,c⟩|⟨e,b⟩|⟨_|_|_|_,b⟩|b|b|⟨_|_|_⟩|k|_|e|_
 all_goals
  simp only[Sm.op,Sm.name,Sm.arg,Sm.index,Sm.ex,Sm.body,Sm.els,Qg,jl,pW,kD];refine wz Tryz.func142 amf (h:=λR d=>?_);refine wb ?_<;>intros;refine wq (H 7 7 _) [0,1,2,3] ?_;rintro r g ⟨rfl,rfl⟩;refine wb ?_<;>intros;refine wq (H 8 8 _) [0,1,2,3] ?_;rintro r g ⟨rfl,rfl⟩;refine wb ?_<;>intros;refine wq (H 3 3 _) [0,1,2,3] ?_;rintro r g ⟨rfl,rfl⟩
 refine wb ?_<;>intros;refine wE (W k.str 8 1) ?_;rw[Ve];refine wb ?_<;>intros;refine wE (X e) ?_;refine wb ?_<;>intros;refine wE (mQ 0 0) ?_;refine wb ?_<;>intros;exact wo d _ _ [0,1,2,3,1,2,3] [] ⟨rfl,rfl⟩;refine wb ?_<;>intros;refine wE (W ⟨#[113]⟩ 2 2) ?_;rw[aa5];refine wb ?_<;>intros;refine az (by omega) rfl rfl ?_;refine wb ?_<;>intros;refine wE (I i) ?_;refine wb ?_<;>intros;refine wE (X e) ?_;refine wb ?_<;>intros;refine wE (mQ 0 0) ?_;refine wb ?_<;>intros;refine wE (mQ 0 0) ?_;refine wb ?_<;>intros;exact wo d _ _ [0,1,2,3,1,2,3] [] ⟨rfl,rfl⟩
 iterate 2
  refine wb ?_<;>intros;refine wE (X e) ?_;refine wb ?_<;>intros;exact wo d _ _ [0,1,2,3,1,2,3] [] ⟨rfl,rfl⟩
 . refine wb ?_<;>intros;refine wE (W ⟨#[109]⟩ 3 3) ?_;rw[show mi bs.length ⟨#[109]⟩ 3 3=0 from rfl];refine wb (A2.mk ?_ ?_)<;>intros;(iterate 6 all_goals first|((first|refine wE (fJ _) ?_|refine wE (mQ _ _) ?_|(refine wq (H _ _ _) [0,1,2,3] ?_;rintro r g ⟨rfl,rfl⟩));refine wb ?_<;>intros)|skip);all_goals exact wo d _ _ [0,1,2,3,1,2,3] [] ⟨rfl,rfl⟩
 . refine wb ?_<;>intros;refine wE (W ⟨#[110]⟩ 3 3) ?_;rw[show mi bs.length ⟨#[110]⟩ 3 3=0 from rfl];refine wb (A2.mk ?_ ?_)<;>intros;(iterate 6 all_goals first|((first|refine wE (fJ _) ?_|refine wE (mQ _ _) ?_|(refine wq (H _ _ _) [0,1,2,3] ?_;rintro r g ⟨rfl,rfl⟩));refine wb ?_<;>intros)|skip);all_goals exact wo d _ _ [0,1,2,3,1,2,3] [] ⟨rfl,rfl⟩
 . refine wb ?_<;>intros;refine wE (W ⟨#[114]⟩ 4 4) ?_;rw[show mi bs.length ⟨#[114]⟩ 4 4=0 from rfl];refine wb (A2.mk ?_ ?_)<;>intros;(iterate 6 all_goals first|((first|refine wE (fJ _) ?_|refine wE (mQ _ _) ?_|(refine wq (H _ _ _) [0,1,2,3] ?_;rintro r g ⟨rfl,rfl⟩));refine wb ?_<;>intros)|skip);all_goals exact wo d _ _ [0,1,2,3,1,2,3] [] ⟨rfl,rfl⟩
 . refine wb ?_<;>intros;refine wE (W ⟨#[114]⟩ 4 4) ?_;rw[show mi bs.length ⟨#[114]⟩ 4 4=0 from rfl];refine wb (A2.mk ?_ ?_)<;>intros;(iterate 6 all_goals first|((first|refine wE (fJ _) ?_|refine wE (mQ _ _) ?_|(refine wq (H _ _ _) [0,1,2,3] ?_;rintro r g ⟨rfl,rfl⟩));refine wb ?_<;>intros)|skip);all_goals exact wo d _ _ [0,1,2,3,1,2,3] [] ⟨rfl,rfl⟩
 . refine wb ?_<;>intros;(iterate 6 all_goals first|((first|refine wE (fJ _) ?_|refine wE (mQ _ _) ?_|(refine wq (H _ _ _) [0,1,2,3] ?_;rintro r g ⟨rfl,rfl⟩));refine wb ?_<;>intros)|skip);all_goals exact wo d _ _ [0,1,2,3,1,2,3] [] ⟨rfl,rfl⟩
 . refine wb (A2.mk ?_ ?_)<;>intros;(iterate 6 all_goals first|((first|refine wE (fJ _) ?_|refine wE (mQ _ _) ?_|(refine wq (H _ _ _) [0,1,2,3] ?_;rintro r g ⟨rfl,rfl⟩));refine wb ?_<;>intros)|skip);all_goals exact wo d _ _ [0,1,2,3,1,2,3] [] ⟨rfl,rfl⟩
 . refine wb ?_<;>intros;refine wE (W ⟨#[99]⟩ 5 5) ?_;rw[show mi bs.length ⟨#[99]⟩ 5 5=0 from rfl];refine wb ?_<;>intros;refine wE (gy dL ⟨#[99]⟩ 7 (by decide) rfl) ?_;refine wb ?_<;>intros;refine az (by omega) rfl rfl ?_;refine wb ?_<;>intros;refine wQ (H 4 4 ⟨#[109]⟩) [0,1,2,3] ⟨rfl,rfl⟩ ?_;rintro r g ⟨rfl,rfl⟩;refine wb (A2.mk ?_ (A2.mk ?_ ?_))<;>intros;(iterate 6 all_goals first|((first|refine wE (fJ _) ?_|refine wE (mQ _ _) ?_|(refine wq (H _ _ _) [0,1,2,3] ?_;rintro r g ⟨rfl,rfl⟩));refine wb ?_<;>intros)|skip);all_goals exact wo d _ _ [0,1,2,3,1,2,3] [] ⟨rfl,rfl⟩
 . refine wb ?_<;>intros;refine wE (W ⟨#[99]⟩ 5 5) ?_;rw[show mi bs.length ⟨#[99]⟩ 5 5=0 from rfl];refine wb ?_<;>intros;refine wE (gy dL ⟨#[99]⟩ 7 (by decide) rfl) ?_;refine wb ?_<;>intros;refine az (by omega) rfl rfl ?_;refine wb ?_<;>intros;refine wQ (H 4 4 ⟨#[109]⟩) [0,1,2,3] ⟨rfl,rfl⟩ ?_;rintro r g ⟨rfl,rfl⟩;refine wb (A2.mk ?_ (A2.mk ?_ ?_))<;>intros;(iterate 6 all_goals first|((first|refine wE (fJ _) ?_|refine wE (mQ _ _) ?_|(refine wq (H _ _ _) [0,1,2,3] ?_;rintro r g ⟨rfl,rfl⟩));refine wb ?_<;>intros)|skip);all_goals exact wo d _ _ [0,1,2,3,1,2,3] [] ⟨rfl,rfl⟩
 . refine wb ?_<;>intros;refine wE (W ⟨#[99]⟩ 5 5) ?_;rw[show mi bs.length ⟨#[99]⟩ 5 5=0 from rfl];refine wb ?_<;>intros;refine wE (gy dL ⟨#[99]⟩ 7 (by decide) rfl) ?_;refine wb ?_<;>intros;refine az (by omega) rfl rfl ?_;refine wb ?_<;>intros;refine wQ (H 4 4 ⟨#[109]⟩) [0,1,2,3] ⟨rfl,rfl⟩ ?_;rintro r g ⟨rfl,rfl⟩;refine wb (A2.mk ?_ (A2.mk ?_ ?_))<;>intros;(iterate 6 all_goals first|((first|refine wE (fJ _) ?_|refine wE (mQ _ _) ?_|(refine wq (H _ _ _) [0,1,2,3] ?_;rintro r g ⟨rfl,rfl⟩));refine wb ?_<;>intros)|skip);all_goals exact wo d _ _ [0,1,2,3,1,2,3] [] ⟨rfl,rfl⟩
 . refine wb ?_<;>intros;refine wE (W (aS k) 7 7) ?_;rw[Vj];generalize q:jd (thNames bs.length) (aS k)=a at d|-;by_cases B:a<0;rw[if_pos B] at d|-;refine wb ?_<;>intros;exact wo d _ _ [0,1,2,3,1,2,3] [] ⟨rfl,rfl⟩;rw[if_neg B] at d|-;refine wb ?_<;>intros;refine wE (qX bs.zipIdx (aS k) a (by simp;omega) (by rw[nX];exact q)) ?_;refine wb (A2.mk ?_ (A2.mk ?_ (A2.mk ?_ (A2.mk ?_ (A2.mk ?_ ?_)))))<;>intros;(all_goals first|exact wo d _ _ [0,1,2,3,1,2,3] [] ⟨rfl,rfl⟩|skip);refine wQ (Q8 u (aS k) (by omega)) [2] ⟨rfl,rfl⟩ ?_;rintro r g ⟨rfl,rfl⟩;generalize jd u (aS k)=c at d|-;refine wb (A2.mk ?_ ?_)<;>intros;exact wo d _ _ [0,1,2,3,1,2,3] [] ⟨rfl,rfl⟩;exact wo d _ _ [0,1,2,3,1,756,3] [] ⟨rfl,rfl⟩
 . refine wb ?_<;>intros;refine wE (W (aS 1) 7 7) ?_;rw[Vj];generalize q:jd (thNames bs.length) (aS 1)=a at d|-;refine wb (A2.mk ?_ (A2.mk ?_ ?_))<;>intros;(all_goals first|(refine wE (qX bs.zipIdx (aS 1) a (by simp;omega) (by rw[nX];exact q)) ?_;refine wb ?_<;>intros)|skip);(iterate 6 all_goals first|((first|refine wE (fJ _) ?_|refine wE (mQ _ _) ?_|(refine wq (H _ _ _) [0,1,2,3] ?_;rintro r g ⟨rfl,rfl⟩));refine wb ?_<;>intros)|skip);all_goals exact wo d _ _ [0,1,2,3,1,2,3] [] ⟨rfl,rfl⟩
 . refine wb ?_<;>intros;refine wE (W ⟨#[102]⟩ 6 6) ?_;rw[show mi bs.length ⟨#[102]⟩ 6 6=0 from rfl];generalize hc:jd y ⟨#[102]⟩=c at d;refine wb (A2.mk ?_ ?_)<;>intros;(iterate 6 all_goals first|((first|refine wE (fJ _) ?_|refine wE (mQ _ _) ?_);(first|(refine wb ?_<;>intros)|(refine wb (A2.mk ?_ ?_)<;>intros)))|skip);all_goals first|(refine wQ (Q8 y ⟨#[102]⟩ (by omega)) [3] ⟨rfl,rfl⟩ ?_;rintro r g ⟨rfl,rfl⟩;rw[hc];refine wb (A2.mk ?_ ?_)<;>intros)|skip
   all_goals
    refine wE (X e) ?_;refine wb ?_<;>intros;refine wE (mQ _ _) ?_;refine wb ?_<;>intros
   all_goals first|exact wo d _ _ [0,1,2,3,1,2,676] [] ⟨rfl,rfl⟩|exact wo d _ _ [0,1,2,3,1,2,684] [] ⟨rfl,rfl⟩
 . refine wb ?_<;>intros;refine wE (W ⟨#[97]⟩ 8 8) ?_;rw[show mi bs.length ⟨#[97]⟩ 8 8=0 from rfl];refine wb ?_<;>intros;refine wE (W ⟨#[102]⟩ 6 6) ?_;rw[show mi bs.length ⟨#[102]⟩ 6 6=0 from rfl];refine wb ?_<;>intros;(iterate 6 all_goals first|((first|refine wE (fJ _) ?_|refine wE (mQ _ _) ?_|(refine wq (H _ _ _) [0,1,2,3] ?_;rintro r g ⟨rfl,rfl⟩));refine wb ?_<;>intros)|skip);all_goals exact wo d _ _ [0,1,2,3,1,2,3] [] ⟨rfl,rfl⟩
end AM
namespace AM
open Go Go.Proofs Mk
set_option maxRecDepth 20000
set_option maxHeartbeats 4000000
def amb:Nat->List (Nat×Nat):=λi=>if i=10 then [(3,4),(8,12),(9,12)] else if i=14 then [(4,8)] else []
def arT (bs:List (List Sm))(t:Nat)(l:List Sm):Prop:=∀(ar:List Sm) (sp st:List ByteArray),ar.length<=10->sp.length+aF l<=99->st.length+aF l<=99->
 ACall Tryz.prog 106 [.ptr 0 0,.pv (UN l)] (wOs bs t ar sp st) (λv g=>v= .tup [.pv (ah (allL bs.length t ar sp st l).1),.pv (ah 0)]/\g=wOg bs t ar (allL bs.length t ar sp st l).2.1 (allL bs.length t ar sp st l).2.2)
theorem Aj:∀(l:List Sm) (i:Nat),aF (l.drop i)<=aF l
 | [],i=>by simp
 |s::r,0=>ak _
 |
  s::r,i+1=>by
  have:=Aj r i
  simp only[aaQ,aF]
  omega
theorem adF (bs:List (List Sm))(hb:bs.length<=4)(t:Nat)(B:t<bs.length)(a:List Sm)(u y:List ByteArray)(ha:a.length<=100)(D:u.length<=100)(E:y.length<=100)(s:Sm)(e:Int)(d q:List ByteArray)(h:jl bs.length t a u y s=(e,d,q)):
 ACall Tryz.prog 142 [.ptr 0 0,rw_ (sF s.op s.name s.arg (s.index.map y8) (Qg s.ex) (s.body.map pY) (s.els.map pY))] (wOs bs t a u y) (λv g=>v= .pv (ah e)/\g=wOg bs t a d q):=by have:=ahA bs hb t B a u y ha D E s;unfold ahB at this;rwa [h,fH] at this
theorem Pz {β:Type}{z:β}{f:β->β} :∀(l:List β),(l++[z]).modify l.length f=l++[f z]
 | []=>rfl
 |
  a::r=>by
  have:=Pz (z:=z) (f:=f) r
  simp only[xu,iR,ZV,this]
theorem adG {α β:Type}{l:List α}{g:α->β}{z:β}{f:β->β} :(l.map g++[z]).modify l.length f=l.map g++[f z]:=by have h:=Pz (z:=z) (f:=f) (l.map g);rwa [iG] at h
theorem Xq {α β:Type}{l:List α}{g:α->β}{r:List β} :List.take l.length (l.map g++r)=l.map g:=by rw[show l.length=(l.map g).length by simp,List.take_left'];rfl
theorem np1 {d:Nat} :((d+1:Nat):Int)-1=(d:Int):=by omega
attribute [local go_sem] fH adG Xq np1
theorem ahC (bs:List (List Sm))(hb:bs.length<=4)(t:Nat)(X:t<bs.length):∀(m:Nat) (l:List Sm),aF l<m->arT bs t l:=by
 intro m;induction m with
 |zero=>intro l Y;omega
 |
  succ m ih=>
  intro l Y a J L ha Z hq;refine wz Tryz.func106 amb (h:=λR D=>?_);refine wb ?_<;>intros;refine wl (λu:Nat×List ByteArray×List ByteArray=> [(0,.ptr 0 0),(1,.pv (UN l)),(6,.pv (ah u.1))]) (λu=>wOg bs t a u.2.1 u.2.2) (λu=>u.1<=l.length/\allL bs.length t a J L l=allL bs.length t a u.2.1 u.2.2 (l.drop u.1)/\u.2.1.length+aF (l.drop u.1)<=99/\u.2.2.length+aF (l.drop u.1)<=99) (λu=>l.length-u.1) (0,J,L) ⟨ay _,rfl,Z,hq⟩ (vm [0,1,2,3,1,2,3]) (λ⟨i,B,st1⟩ ⟨hi,q,E,G⟩=>?_);dsimp only at hi q E G;refine wb (A2.mk ?_ ?_)<;>intros
  . have h2:i<l.length:=(by omega);have H:=Aj l i;have a6:=yC l;rw[nM h2] at q E G H;generalize hx:l[i]=x at q E G H;simp only[allL,aF,lJ] at q E G H;have hlen:=OX bs.length t a B st1 x;have d:=JO bs.length t a B st1 x;unfold JM at d;generalize ho:jl bs.length t a B st1 x=r1 at hlen d;obtain⟨e1,y,st2⟩:=r1;dsimp only at hlen d;refine aJ (x:=x) (by omega) (by simp[h2,hx]) (oU _) ?_;rw[fH];refine wb ?_<;>intros;refine wq (adF bs hb t X a B st1 (by omega) (by omega) (by omega) x e1 y st2 ho) [0,4,5,6] ?_;rintro r g ⟨rfl,rfl⟩;refine wb (A2.mk ?_ (A2.mk ?_ ?_))<;>intros
    . have M:allL bs.length t a J L l=(2,y,st2):=by
       rw[if_pos (show 6<a.length+1 by omega),if_pos (show (2:Int)≠0 by decide)] at d;rw[q,d,if_pos (show (2:Int)≠0 by decide)]
      rw[M] at D;exact wo D _ _ [0,1,2,3,103,104,105] [] ⟨rfl,rfl⟩
    . have M:allL bs.length t a J L l=(e1,y,st2):=by
       rw[if_neg (show¬6<a.length+1 by omega),if_pos ‹_›] at d;rw[q,d,if_pos ‹_›]
      rw[M] at D;exact wo D _ _ [0,1,2,3,103,104,105] [] ⟨rfl,rfl⟩
    rw[if_neg (show¬6<a.length+1 by omega),if_neg (show¬e1≠0 by omega)] at d;have N:=qB bs.length t (aF x.body) x.body (ak _) (a++[x]) y st2;generalize hB:allL bs.length t (a++[x]) y st2 x.body=rb at d N;obtain⟨V,I,st3⟩:=rb;dsimp only at d N;refine wq (ih x.body (by omega) (a++[x]) y st2 (by simp;omega) (by omega) (by omega)) [0,247,104,105] ?_;rintro r g ⟨rfl,rfl⟩;rw[hB];refine wb (A2.mk ?_ ?_)<;>intros;rw[if_neg (show¬V≠0 by omega)] at d;have O:=qB bs.length t (aF x.els) x.els (ak _) (a++[x]) I st3;generalize hC:allL bs.length t (a++[x]) I st3 x.els=rc at d O;obtain⟨e3,U,st4⟩:=rc;dsimp only at d O;rw[d] at q;dsimp only at q;refine wq (ih x.els (by omega) (a++[x]) I st3 (by simp;omega) (by omega) (by omega)) [0,319,320,321] ?_;rintro r g ⟨rfl,rfl⟩;rw[hC];refine wb (A2.mk ?_ ?_)<;>intros;rw[if_pos ‹_›] at q;rw[q] at D;exact wo D _ _ [0,1,2,3,543,408,409] [] ⟨rfl,rfl⟩;rw[if_neg (show¬e3≠0 by omega)] at q;refine aj ⟨(i+1,U,st4),⟨h2,q,by dsimp only;omega,by dsimp only;omega⟩,by dsimp only;omega,vm [0,1,2,3,543,408,409]⟩;rw[if_pos ‹_›] at d;rw[d,if_pos (show V≠0 by omega)] at q;rw[q] at D;exact wo D _ _ [0,1,2,3,471,320,321] [] ⟨rfl,rfl⟩
  . have M:allL bs.length t a J L l=(0,B,st1):=by
     rw[q,jK (by omega)];rfl
    rw[M] at D;exact wo D _ _ [0,1,2,3,4,5,6] [] ⟨rfl,rfl⟩
end AM
namespace AM
open Go Go.Proofs Mk
set_option maxRecDepth 20000
set_option maxHeartbeats 4000000
theorem vP:∀(bs:List (List Sm)) (i:Nat) (h:i<bs.length),fP (bs.take (i+1))=fP (bs.take i)+aF bs[i]
 |b::r,0,_=>by simp[fP]
 |
  b::r,i+1,h=>by
  have:=vP r i (by simpa using h)
  simp only[LJ,fP,TF,this]
  omega
theorem vN:∀(bs:List (List Sm)) (i:Nat),fP (bs.take i)<=fP bs
 | [],i=>by simp
 |b::r,0=>by simp[fP]
 |
  b::r,i+1=>by
  have:=vN r i
  simp only[LJ,fP]
  omega
attribute [local go_sem] List.set_cons_zero List.set_cons_succ
theorem PK (bs:List (List Sm))(h0:0<bs.length)(hb:bs.length<=4)(hs:∀b∈bs,ShL b)(hc:fP bs<=100000):FnEq Tryz.prog 68 [rw_ (Bi bs)] (.tup [.pv (ah (qf bs)),.pv (ah 0)]):=by
 refine wf Tryz.func68 (λ_=> []) (h:=λR d=>?_);refine wb ?_<;>intros;refine wE (VV bs h0 hb hs) ?_;refine wb ?_<;>intros;refine wE VW ?_;refine wb ?_<;>intros;refine wE (Oq bs hb) ?_;refine wb ?_<;>intros;refine wl (λi:Nat=> [(1,.ptr 0 0),(8,.pv (ah (fP (bs.take i)))),(9,.pv (ah i))]) (λ_=> [some (.box ((Bi bs).map .pv))]) (λi=>i<=bs.length) (λi=>bs.length-i) 0 (ay _) (vm [0]) (λi hi=>?_);have hle:=vN bs i;refine wb (A2.mk ?_ (A2.mk ?_ ?_))<;>intros;have h2:i<bs.length:=(by omega);have L:=vP bs i h2;have I:=vN bs (i+1);refine aJ (x:=(bs[i],i)) (by omega) (by simp<;>omega) rfl ?_;refine wb ?_<;>intros;refine wE (Ot (aF bs[i]) bs[i] (ak _) (by omega)) ?_;refine wb ?_<;>intros;exact aj ⟨i+1,by omega,by omega,vm [0]⟩
 . rw[uy (by omega)] at *
   have q:qf bs=2:=(by unfold qf;rw[if_pos (by omega)]);rw[q] at d;exact wr d
 have q:qf bs=Oe bs.length 0 [] [] bs:=by
  unfold qf;rw[if_neg];rw[uy (by omega)] at *
  omega
 rw[q] at d;have J:fP bs<=60:=by
  rw[uy (by omega)] at *
  omega
 clear q hle;refine dI 73 3 196 11 rfl rfl ?_;refine dI 73 4 9 1 rfl rfl ?_;refine dI 73 5 9 1 rfl rfl ?_;refine wl (λu:Nat×Nat×List ByteArray×List ByteArray=> [(1,.ptr 0 0),(10,.ptr 1 0),(11,.pv (ah u.1))]) (λu=> [some (.box ((Bi bs).map .pv)),some (agm bs u.2.1 2 3 4 [] u.2.2.1 u.2.2.2),some (ZL []),some (Kz u.2.2.1),some (Kz u.2.2.2)]) (λu=>u.1<=bs.length/\Oe bs.length 0 [] [] bs=Oe bs.length u.1 u.2.2.1 u.2.2.2 (bs.drop u.1)/\u.2.2.1.length+fP (bs.drop u.1)<=99/\u.2.2.2.length+fP (bs.drop u.1)<=99) (λu=>bs.length-u.1) (0,0,[],[]) ⟨ay _,rfl,by simp;omega,by simp;omega⟩ (vm [0,73,97,98,99]) (λ⟨i,t,D,E⟩ ⟨hi,a,y,B⟩=>?_);dsimp only at hi a y B;refine wb (A2.mk ?_ ?_)<;>intros;have h2:i<bs.length:=(by omega);rw[nM h2] at a y B;generalize hx:bs[i]=b at a y B;simp only[Oe,fP] at a y B;have hlen:=qB bs.length i (aF b) b (ak _) [] D E;generalize ha:allL bs.length i [] D E b=ra at a hlen;obtain⟨e,G,H⟩:=ra;dsimp only at a hlen;refine aJ (x:=(b,i)) (by omega) (by simp[h2,hx]) rfl ?_;refine wb ?_<;>intros;refine wq (ahC bs hb i h2 (aF b+1) b (by omega) [] D E (by simp) (by omega) (by omega)) [1,2,3,4] ?_;rintro r g ⟨rfl,rfl⟩;rw[ha];refine wb (A2.mk ?_ ?_)<;>intros;rw[if_pos ‹_›] at a;rw[a] at d;exact wr d;rw[if_neg (by simpa using ‹e=0›)] at a;refine aj ⟨(i+1,i,G,H),⟨h2,a,by dsimp only;omega,by dsimp only;omega⟩,by dsimp only;omega,vm [0,1,141,142,143]⟩;rw[a,jK (by omega)] at d;exact wr d
