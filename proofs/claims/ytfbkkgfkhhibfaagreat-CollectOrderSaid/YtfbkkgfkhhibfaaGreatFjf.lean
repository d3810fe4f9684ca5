/- Words. -/
import Derived.Test.YtfbkkgfkhhibfaaGreatFjc
set_option linter.unusedVariables false
set_option linter.unusedSimpArgs false
namespace AM
open Go Go.Proofs Mk
set_option maxRecDepth 20000
set_option maxHeartbeats 8000000
def bz:Option AV→Prop
 | some (.pv (.sc (.bool _)))=>True
 | _=>False
@[go_sem] theorem agY {z:Bool} :bz (some (.pv (.sc (.bool z))))=True:=rfl
theorem aac {x:Option AV}(h:bz x):∃z,x=some (.pv (boolP z)):=by
 unfold bz at h;split at h
 · exact⟨_,rfl⟩
 · exact h.elim
theorem wtB {P:Program}{us:Nat→List (Nat×Nat)}{nt nx t:Nat}{R:Env→Sto→Prop}{hm:P.follows .mixedOrders=true}{k:List It}{c:Code}{env:Env}{σ:Sto}{p:Prop}(hR:∀env σ,jL P 0 [.tmp t] (fun v g=>g= []∧v.lb 0=true∧D8 p v) env σ→R env σ)(hp:p)(hE:bz (env t):=by ((try clear hR);exact we))(hc:BL c=true:=by rfl):sr ⟨P,us,nt,0,R,hm⟩ (.code c :: k) env σ nx:=by
 obtain⟨z,hz⟩:=aac hE;exact wt hR (.pv (boolP z)) [] ⟨z,rfl,fun _=>hp⟩ (hf:=trivial) (hE:=by simp[rA,hz,wk,Ah]) (hc:=hc)
def adP:Nat→List (Nat×Nat):=fun i=>if i=8 then [(11,13),(11,15),(11,17)] else if i=34 then [(1,3),(1,5),(1,7)] else []
attribute [local go_sem] thNames_len
theorem JG (n:Nat)(hn:n≤4)(ss:List (Nat×Nat))(tx t k o:Int)(htx:i64 tx):jo Tryz.prog 130 [rw_ (mO n ss),rw_ (xx n tx),.pv (ag t),.pv (ag k),.pv (ag o)] (D8 ((0≤t∧t < n)∧NmOk n k o)):=by
 refine wf Tryz.func130 adP (h:=fun R hR=>?_);refine wb ?_ <;> intros
 refine wE (Ho n ss hn tx) ?_;refine wb ?_ <;> intros
 refine wE (yz t n) ?_;refine wb (A2.mk ?_ ?_) <;> intros
 all_goals try exact wt hR (.pv (boolP false)) [] ⟨_,rfl,fun h=>by cases h⟩
 refine wF (Ti n hn ss k o) ?_;rintro v ⟨z,rfl,hz⟩;refine wb (A2.mk ?_ ?_) <;> intros
 all_goals try exact wt hR (.pv (boolP false)) [] ⟨_,rfl,fun h=>by cases h⟩
 rename_i hx hz1
 simp only[Bool.and_eq_true,decide_eq_true_eq] at hx;have H:=hz hz1;have h2:=H.c;have h3:=H.l;have h4:=H.d;have h5:=H.t;have h6:=H.f;refine And.intro hx ?_;refine wb ?_ <;> intros
 refine fM fun st hst=>?_
 refine fM fun wt1 hwt=>?_
 refine wX fun bt=>?_
 refine wb (A2.mk ?_ (A2.mk ?_ (A2.mk ?_ (A2.mk ?_ (A2.mk ?_ (A2.mk ?_ (A2.mk ?_ (A2.mk ?_ (A2.mk ?_ (A2.mk ?_ (A2.mk ?_ (A2.mk ?_ (A2.mk ?_ (A2.mk ?_ (A2.mk ?_ (A2.mk ?_ (A2.mk ?_ (A2.mk ?_ (A2.mk ?_ (A2.mk ?_ (A2.mk ?_ (A2.mk ?_ (A2.mk ?_ (A2.mk ?_ ?_)))))))))))))))))))))))) <;> intros
 all_goals try exact wtB hR ⟨hx,H⟩
 all_goals try (first
  | (refine fM fun x _=>?_;(first | (refine wb ?_ <;> intros) | (refine wb (A2.mk ?_ ?_) <;> intros)))
  | (refine wX fun x=>?_;refine wb ?_ <;> intros)
  | (have e0:o=0:=h4 (by omega);subst e0;refine au (by omega) rfl rfl ?_;refine wb ?_ <;> intros)
  | (refine iO fun l hl=>?_;have hl4:=hl.len;refine wF (Dj 400 (Nat.le_refl _) l hl t) ?_;rintro v ⟨z2,rfl,_⟩;refine wb ?_ <;> intros)
  | (refine iO fun l hl=>?_;have hl4:=hl.len;skip))
 all_goals try exact wtB hR ⟨hx,H⟩
 all_goals try (first
  | (refine fM fun x _=>?_;refine wb ?_ <;> intros)
  | (refine wX fun x=>?_;skip)
  | (have e0:o=0:=h4 (by omega);subst e0;refine au (by omega) rfl rfl ?_;skip)
  | (refine iO fun l hl=>?_;have hl4:=hl.len;refine wF (Dj 400 (Nat.le_refl _) l hl t) ?_;rintro v ⟨z2,rfl,_⟩;refine wb ?_ <;> intros)
  | (refine iO fun l hl=>?_;have hl4:=hl.len;refine wb ?_ <;> intros))
 all_goals try exact wtB hR ⟨hx,H⟩
 all_goals try (first
  | (refine fM fun x _=>?_;skip)
  | (refine wX fun x=>?_;skip)
  | (have e0:o=0:=h4 (by omega);subst e0;refine au (by omega) rfl rfl ?_;skip)
  | (refine iO fun l hl=>?_;have hl4:=hl.len;refine wF (Dj 400 (Nat.le_refl _) l hl t) ?_;rintro v ⟨z2,rfl,_⟩;skip)
  | (refine iO fun l hl=>?_;have hl4:=hl.len;skip))
 all_goals try exact wtB hR ⟨hx,H⟩
end AM
namespace AM
open Go Go.Proofs Mk
set_option maxRecDepth 20000
set_option maxHeartbeats 8000000
def ApQ (n:Nat)(t k o:Int)(r:AV):Prop:=(∃tx v,r= .tup [rw_ (xx n tx),.pv (ag v),.pv (boolP true)]∧i64 tx∧i64 v∧(0≤t∧t < n)∧NmOk n k o)∨r= .tup [rw_ [.sl [],ag 0,.sl [],.sl []],.pv (ag 0),.pv (boolP false)]
theorem Zr {n:Nat}{t k o:Int} :ApQ n t k o (.tup [rw_ [.sl [],ag 0,.sl [],.sl []],.pv (ag 0),.pv (boolP false)]):= .inr rfl
theorem jb {n:Nat}{t k o:Int}(h1:0≤t∧t < n)(h2:NmOk n k o){tx v:Int}(h:i64 tx)(hv:i64 v):ApQ n t k o (.tup [rw_ (xx n tx),.pv (ag v),.pv (boolP true)]):= .inl ⟨_,_,rfl,h,hv,h1,h2⟩
def aiB:Nat→List (Nat×Nat):=fun i=>if i=17 then [(1,4),(1,6),(1,8),(1,11)] else if i=19 then [(1,4),(1,6),(1,8),(1,10)] else if i=29 then [(1,3),(1,5),(1,7)] else if i=30 then [(1,4),(4,7),(4,9)] else if i=32 then [(1,3),(1,5),(1,7)] else if i=33 then [(1,4),(4,6),(4,8)] else if i=48 then [(1,4),(1,5)] else []
attribute [local go_sem] thNames_len
theorem OH (n:Nat)(hn:n≤4)(ss:List (Nat×Nat))(tx t k o w:Int)(htx:i64 tx):jo Tryz.prog 99 [rw_ (mO n ss),rw_ (xx n tx),.pv (ag t),.pv (ag k),.pv (ag o),.pv (ag w)] (ApQ n t k o):=by
 refine wf Tryz.func99 aiB (h:=fun R hR=>?_);refine wb ?_ <;> intros
 refine wF (JG n hn ss tx t k o htx) ?_;rintro v ⟨z,rfl,hz⟩;refine wb (A2.mk ?_ ?_) <;> intros
 all_goals try exact wt hR (.tup [rw_ [.sl [],ag 0,.sl [],.sl []],.pv (ag 0),.pv (boolP false)]) [] Zr
 rename_i hz1
 obtain⟨hx,H⟩:=hz hz1;obtain⟨t,rfl⟩:=Int.eq_ofNat_of_zero_le hx.1;have h2:=H.c;have h3:=H.l;have h4:=H.d;have h5:=H.t;have h6:=H.f;have i0:=nG;have im:i64 (-1):=bQ.2 (by omega);have it:i64 t:=bQ.2 (by omega);refine wE (F6 n tx hn) ?_;refine wb (A2.mk ?_ (A2.mk ?_ (A2.mk ?_ (A2.mk ?_ (A2.mk ?_ (A2.mk ?_ (A2.mk ?_ (A2.mk ?_ (A2.mk ?_ (A2.mk ?_ (A2.mk ?_ (A2.mk ?_ (A2.mk ?_ (A2.mk ?_ (A2.mk ?_ (A2.mk ?_ (A2.mk ?_ (A2.mk ?_ ?_)))))))))))))))))) <;> intros
 all_goals try exact wt hR (.tup [rw_ (xx n tx),.pv (ag 0),.pv (boolP true)]) [] (jb hx H htx i0)
 all_goals try exact wt hR (.tup [rw_ (xx n t),.pv (ag 0),.pv (boolP true)]) [] (jb hx H it i0)
 all_goals try exact wt hR (.tup [rw_ (xx n (-1)),.pv (ag 0),.pv (boolP true)]) [] (jb hx H im i0)
 · refine iO fun l hl=>?_
   have hl4:=hl.len;have h1:Asc 400 [t]:=⟨List.pairwise_singleton _ _,fun m hm=>by rw[List.mem_singleton.1 hm];omega⟩;refine wG (F7 400 (Nat.le_refl _) l hl [t] h1) (.pv (.sl (nL l))) ⟨l,hl,rfl⟩ ?_;rintro v ⟨m,hm,rfl⟩;refine wb ?_ <;> intros
   refine And.intro (nY hm) ?_;refine wb ?_ <;> intros
   exact wt hR (.tup [rw_ (xx n tx),.pv (ag 0),.pv (boolP true)]) [] (jb hx H htx i0)
 · refine iO fun l hl=>?_
   have hl4:=hl.len;refine wG (JH 400 (Nat.le_refl _) l hl t) (.pv (.sl (nL l))) ⟨l,hl,rfl⟩ ?_;rintro v ⟨m,hm,rfl⟩;refine wb ?_ <;> intros
   refine And.intro (nY hm) ?_;refine wb ?_ <;> intros
   exact wt hR (.tup [rw_ (xx n tx),.pv (ag 0),.pv (boolP true)]) [] (jb hx H htx i0)
 · obtain rfl:o=0:=h4 (by omega);refine au (by omega) rfl rfl ?_;refine wb ?_ <;> intros
   exact wt hR (.tup [rw_ (xx n tx),.pv (ag 0),.pv (boolP true)]) [] (jb hx H htx i0)
 · obtain rfl:o=0:=h4 (by omega);refine au (by omega) rfl rfl ?_;refine wb ?_ <;> intros
   exact wt hR (.tup [rw_ (xx n tx),.pv (ag 0),.pv (boolP true)]) [] (jb hx H htx i0)
 · refine wF (xA n hn tx o) ?_;rintro v ⟨ws,hw,rfl⟩;have hw4:ws.length≤4:=Nat.le_trans hw.len (by omega);refine wb (A2.mk ?_ ?_) <;> intros
   all_goals try exact wt hR (.tup [rw_ (xx n tx),.pv (ag (-1)),.pv (boolP true)]) [] (jb hx H htx im)
   have h0:0 < ws.length:=by omega
   have hq:=hw.2 _ (List.getElem_mem h0);refine aB (x:=ws[0]) (by omega) (by simp[h0]) rfl ?_;refine wb ?_ <;> intros
   refine wF (Dj 400 (Nat.le_refl _) ws (hw.weak (by omega)) w) ?_;rintro v ⟨z2,rfl,hz2⟩;refine wb (A2.mk ?_ ?_) <;> intros
   · obtain⟨m,hm,rfl⟩:=hz2 (by assumption);have hq2:=hw.2 m hm;refine wb ?_ <;> intros
     exact wt hR (.tup [rw_ (xx n tx),.pv (ag m),.pv (boolP true)]) [] (jb hx H htx (bQ.2 (by omega)))
   · exact wt hR (.tup [rw_ (xx n tx),.pv (ag (ws[0]:Nat)),.pv (boolP true)]) [] (jb hx H htx (bQ.2 (by omega)))
 · refine wF (xA n hn tx o) ?_;rintro v ⟨ws,hw,rfl⟩;have hw4:ws.length≤4:=Nat.le_trans hw.len (by omega);refine wb ?_ <;> intros
   refine wl (fun j:Nat=> [(7,.ptr 0 0),(12,.ptr 1 0),(18,.pv (.sl (nL ws))),(19,.pv (ag j))]) (fun _=> [some (.box ((xx n tx).map .pv)),some (.box [.emp,.pv (ag 0),.emp,.emp])]) (fun j=>j≤ws.length) (fun j=>ws.length - j) 0 (Nat.zero_le _) (vm [8,16]) (fun j hj=>?_);refine wb (A2.mk ?_ ?_) <;> intros
   · have hj2:j < ws.length:=by omega
     have hq:=hw.2 _ (List.getElem_mem hj2);refine aB (x:=ws[j]) (by omega) (by simp[hj2]) rfl ?_;refine wb ?_ <;> intros
     exact ai ⟨j+1,hj2,by omega,vm [0,1]⟩
   · exact wt hR (.tup [rw_ (xx n tx),.pv (ag ws.length),.pv (boolP true)]) [] (jb hx H htx (bQ.2 (by omega)))
end AM
namespace AM
open Go Go.Proofs Mk
set_option maxRecDepth 20000
set_option maxHeartbeats 8000000
structure EvA where
 thread:Int
 kind:Int
 obj:Int
 value:Int
 site:Int
 deps:List Nat
 fr:List Nat
@[go_sem] def EvA.r (e:EvA):List PV:= [ag e.thread,ag e.kind,ag e.obj,ag e.value,ag e.site,.sl (nL e.deps),.sl (nL e.fr)]
structure PnG (n:Nat)(cs:List (Int×List In))(m:Nat)(xs:List (Int×Nat×Nat×Int))(t:Nat)(e:EvA)(r:Nat)(l:List In)(x:Int×Nat×Nat×Int)(i:In):Prop where
 tn:t < n
 hc:cs[t]?=some ((r:Int),l)
 hx:xs[t]?=some x
 fit:FitT r l x
 hi:l[x.1.toNat]?=some i
 th:e.thread=t
 obj:i64 e.obj
 kd:e.kind=1∨e.kind=17∨e.kind=kdF i.op
 k0:e.kind≠0
 site: -1≤e.site∧e.site≤60
 dp:Asc m e.deps
 frm:Asc m e.fr
def PnQ (n:Nat)(cs:List (Int×List In))(m:Nat)(xs:List (Int×Nat×Nat×Int))(t:Int)(v:AV):Prop:=∃e ok,v= .tup [rw_ (EvA.r e),.pv (boolP ok)]∧(ok=true→∃t' r l x i,t=((t':Nat):Int)∧PnG n cs m xs t' e r l x i)
theorem JA {n:Nat}{cs:List (Int×List In)}{m:Nat}{xs:List (Int×Nat×Nat×Int)}{t:Int}{e:EvA} :PnQ n cs m xs t (.tup [rw_ (EvA.r e),.pv (boolP false)]):=⟨_,_,rfl,fun h=>by cases h⟩
def aiw:Nat→List (Nat×Nat):=fun i=>if i=4 then [(1,7),(3,7),(5,7),(1,10),(3,10),(5,10),(7,10),(8,10),(9,10)] else if i=11 then [(2,8),(4,8),(6,8)] else if i=14 then [(1,3),(2,3),(1,4),(2,4),(3,4)] else if i=19 then [(1,3),(1,5),(3,5),(1,6),(1,7)] else if i=22 then [(1,3),(1,5),(3,5),(1,6),(1,7)] else if i=24 then [(1,3),(1,5),(3,5),(1,6),(1,7)] else []
theorem FV (n:Nat)(ss:List (Nat×Nat))(cs:List (Int×List In))(C:CdG n ss cs)(tx:Int)(m:Nat)(hm:m≤400)(xs:List (Int×Nat×Nat×Int))(hl:xs.length=n)(hx:∀x∈xs,TsK m x)(t:Int):jo Tryz.prog 98 [rw_ (coR n ss cs),rw_ (nN n tx m xs),.pv (ag t)] (PnQ n cs m xs t):=by
 have hfit:=QT n ss cs C tx m xs hl hx;obtain⟨n1,n4,s60,so,val,len,good,num⟩:=C;refine wf Tryz.func98 aiw (h:=fun R hR=>?_);refine wb ?_ <;> intros
 refine wF hfit ?_;rintro v ⟨z,rfl,hz⟩;refine wb (A2.mk ?_ (A2.mk ?_ (A2.mk ?_ ?_))) <;> intros
 all_goals try exact wt hR (.tup [rw_ (EvA.r ⟨0,0,0,0,0,[],[]⟩),.pv (boolP false)]) [] JA
 rename_i hz1 ht0 htn
 obtain⟨t,rfl⟩:=Int.eq_ofNat_of_zero_le (by omega:0≤t);have h2:t < cs.length:=by omega
 have h3:t < xs.length:=by omega
 have hg:=List.getElem?_eq_getElem h2;have hgx:=List.getElem?_eq_getElem h3;have hq:=hx _ (List.getElem_mem h3);have hgk:=good t cs[t].1 cs[t].2 hg;have hnk:=num t cs[t].1 cs[t].2 hg;have hft:=hz hz1 t cs[t].1 cs[t].2 xs[t] (by omega) hg hgx;generalize xs[t]=x at hgx hq hft;generalize cs[t]=y at hg hgk hft hnk;obtain⟨pc,r,s,ev⟩:=x;obtain⟨rr,l⟩:=y;obtain⟨x1,x2,x3,x4,x5⟩:=hq;obtain⟨f1,f2,f3,f4⟩:=hft;dsimp only at x1 x2 x3 x4 x5 f1 f2 f3 f4 hgk hnk;obtain⟨p,rfl⟩:=Int.eq_ofNat_of_zero_le f1;subst f3;obtain rfl:s=r:=by omega
 have hpl:p < l.length:=by omega
 have hgl:=List.getElem?_eq_getElem hpl;have hlen:=hgk.len;have hnn:=hnk l[p] (List.getElem_mem hpl);generalize l[p]=i at hgl hnn;have hcr:(cs.map Yw)[t]?=some (Yw ((s:Int),l)):=by rw[List.getElem?_map,hg];rfl
 have hir:(l.map In.r)[p]?=some i.r:=by rw[List.getElem?_map,hgl];rfl
 have hop:=hgk.op p i hgl;have QU:=hgk.obj p i hgl;have ac7:=hgk.site p i hgl;have VK:=hgk.jmp p i hgl;have hrg:=hgk.regs p i hgl
 have hsi: -1≤i.site∧i.site≤60:=by
  rcases ac7 with ⟨_,h⟩ | ⟨_,q,m',h,h'⟩
  · omega
  · have:=(List.getElem?_eq_some_iff.1 h').1;omega
 have hj2:i.op=5→0≤i.a∧i.a≤1000:=fun h=>by obtain⟨k,e1,e2⟩:=VK h;omega
 have Zl:i64 i.n:=bQ.2 (by have:=hnn.1;have:=hnn.2;omega);have hP:∀e:EvA,e.thread=t→i64 e.obj→(e.kind=1∨e.kind=17∨e.kind=kdF i.op)→e.kind≠0→ -1≤e.site∧e.site≤60→Asc m e.deps→Asc m e.fr→PnQ n cs m xs t (.tup [rw_ (EvA.r e),.pv (boolP true)]):=fun e e1 e2 e3 e4 e5 e6 e7=>⟨e,true,rfl,fun _=>⟨t,s,l,(p,s,s,ev),i,rfl,⟨by omega,hg,hgx,⟨f1,f2,rfl,rfl⟩,hgl,e1,e2,e3,e4,e5,e6,e7⟩⟩⟩
 have im:i64 (-1):=bQ.2 (by decide);have rA:i.op=10→0≤i.a∧i.a < s:=fun h=>hrg i.a (by simp[regsI,h])
 have rC:i.op=7∨i.op=9→0≤i.c∧i.c < s:=fun h=>hrg i.c (by rcases h with h | h <;> simp[regsI,h])
 have rB:i.op=8∨i.op=9∨i.op=26→0≤i.b∧i.b < s:=fun h=>hrg i.b (by rcases h with h | h | h <;> simp[regsI,h])
 have a0:Asc m []:=⟨List.Pairwise.nil,fun _ h=>nomatch h⟩;refine aB (x:=((p:Int),s,s,ev)) (by omega) (by simpa using hgx) rfl ?_;refine wb ?_ <;> intros
 refine au (by omega) hcr rfl ?_;refine wb ?_ <;> intros
 refine au (by omega) hir rfl ?_;refine wb ?_ <;> intros
 refine fM fun st hst=>?_
 refine wb (A2.mk ?_ (A2.mk ?_ (A2.mk ?_ ?_))) <;> intros
 · exact wt hR (.tup [rw_ (EvA.r ⟨t,1,-1,0,-1,[],[]⟩),.pv (boolP true)]) [] (hP ⟨t,1,-1,0,-1,[],[]⟩ rfl im (.inl rfl) (fun h=>by cases h) ⟨Int.le_refl _,by show (-1:Int)≤60;decide⟩ a0 a0)
 · refine fM fun co hco=>?_
   refine wb ?_ <;> intros
   exact wt hR (.tup [rw_ (EvA.r ⟨t,17,co,0,i.site,[],[]⟩),.pv (boolP true)]) [] (hP ⟨t,17,co,0,i.site,[],[]⟩ rfl hco (.inr (.inl rfl)) (fun h=>by cases h) hsi a0 a0)
 · refine wE (VL i.op (bQ.2 (by omega))) ?_;have hkr:=OB i.op;refine wb ?_ <;> intros
   refine wG (OC n n4 i hop QU hj2 Zl m p s x2 hrg ev) (.pv (ag 0)) ⟨0,nG,rfl⟩ ?_;rintro v ⟨o,ho,rfl⟩;refine wb (A2.mk ?_ (A2.mk ?_ (A2.mk ?_ (A2.mk ?_ (A2.mk ?_ (A2.mk ?_ ?_)))))) <;> intros
   all_goals try exact wt hR (.tup [rw_ (EvA.r ⟨0,0,0,0,0,[],[]⟩),.pv (boolP false)]) [] JA
   all_goals try
    refine iO fun d hd=>?_
    have hd4:d.length≤400:=Nat.le_trans hd.len hm;refine wb ?_ <;> intros
   · exact wt hR (.tup [rw_ (EvA.r ⟨t,kdF i.op,o,0,i.site,d,[]⟩),.pv (boolP true)]) [(656,none)] (hP ⟨t,kdF i.op,o,0,i.site,d,[]⟩ rfl ho (.inr (.inr rfl)) (by assumption) hsi hd a0)
   · exact wt hR (.tup [rw_ (EvA.r ⟨t,kdF i.op,o,0,i.site,d,[]⟩),.pv (boolP true)]) [(672,none)] (hP ⟨t,kdF i.op,o,0,i.site,d,[]⟩ rfl ho (.inr (.inr rfl)) (by assumption) hsi hd a0)
   · refine iO fun f hf=>?_
     have hf4:f.length≤400:=Nat.le_trans hf.len hm;refine wb ?_ <;> intros
     exact wt hR (.tup [rw_ (EvA.r ⟨t,kdF i.op,o,0,i.site,d,f⟩),.pv (boolP true)]) [(688,none),(880,none)] (hP ⟨t,kdF i.op,o,0,i.site,d,f⟩ rfl ho (.inr (.inr rfl)) (by assumption) hsi hd hf)
   · exact wt hR (.tup [rw_ (EvA.r ⟨t,kdF i.op,o,0,i.site,[],d⟩),.pv (boolP true)]) [(792,none)] (hP ⟨t,kdF i.op,o,0,i.site,[],d⟩ rfl ho (.inr (.inr rfl)) (by assumption) hsi a0 hd)
   · exact wt hR (.tup [rw_ (EvA.r ⟨t,kdF i.op,o,0,i.site,[],d⟩),.pv (boolP true)]) [(792,none)] (hP ⟨t,kdF i.op,o,0,i.site,[],d⟩ rfl ho (.inr (.inr rfl)) (by assumption) hsi a0 hd)
   · exact wt hR (.tup [rw_ (EvA.r ⟨t,kdF i.op,o,0,i.site,[],[]⟩),.pv (boolP true)]) [] (hP ⟨t,kdF i.op,o,0,i.site,[],[]⟩ rfl ho (.inr (.inr rfl)) (by assumption) hsi a0 a0)
 · exact wt hR (.tup [rw_ (EvA.r ⟨0,0,0,0,0,[],[]⟩),.pv (boolP false)]) [] JA
set_option maxRecDepth 20000
set_option maxHeartbeats 8000000
structure EvG (n m:Nat)(e:EvA):Prop where
 th:0≤e.thread∧e.thread < n
 kd:1≤e.kind∧e.kind≤23
 obj:i64 e.obj
 val:i64 e.value
 site: -1≤e.site∧e.site≤60
 dp:Asc m e.deps
 frm:Asc m e.fr
@[go_sem] def Wq:List PV:= [.sl [],ag 0,.sl [],.sl [],.sl [],.sl [],.sl []]
@[go_sem] def Ws:EvA:=⟨0,0,0,0,0,[],[]⟩
def afZ (n m:Nat)(v:AV):Prop:=(∃tx xs e,v= .tup [rw_ (nN n tx (m+1) xs),rw_ (EvA.r e),.pv (boolP true)]∧i64 tx∧xs.length=n∧(∀x∈xs,TsK ((m+1:Nat):Int) x)∧EvG n m e)∨v= .tup [rw_ Wq,rw_ (EvA.r Ws),.pv (boolP false)]
theorem XM {op k:Int}(h:kdF op=k)(h0:k≠0):(k=3→op=6∨op=7)∧(k=4→op=8∨op=9)∧(k=5→op=10)∧(k=22→op=26)∧(k=23→op=27):=by
 unfold kdF at h;split at h
 · exact absurd h.symm h0
 · have ho:op=(op - 6).toNat+6:=by omega
   have hq:(op - 6).toNat < 23:=by omega
   generalize (op - 6).toNat=q at h ho hq;subst ho h;have:=(by decide:∀q < 23,(QL.getD q 0=3→q=0∨q=1)∧(QL.getD q 0=4→q=2∨q=3)∧(QL.getD q 0=5→q=4)∧(QL.getD q 0=22→q=20)∧(QL.getD q 0=23→q=21)) q hq;omega
theorem Oa {M:Nat}{xs:List (Int×Nat×Nat×Int)}{t:Nat}(x:Int×Nat×Nat×Int):(xs.map (FT M)).modify t (fun row=>ag x.1 :: .tr [.int .i64] x.2.1 :: .tr [.asc M] x.2.2.1 :: ag x.2.2.2 :: row.drop 4)=(xs.set t x).map (FT M):=by
 refine List.ext_getElem? fun j=>?_
 rw[List.getElem?_modify,List.getElem?_map,List.getElem?_map,List.getElem?_set];by_cases h:t=j
 · subst h
   cases hx:xs[t]? with
   |
    none=>
    have:=List.getElem?_eq_none_iff.1 hx;simp[Nat.not_lt.2 this]
   |
    some y=>
    have:=(List.getElem?_eq_some_iff.1 hx).1;simp[this,FT,SY]
 · simp[h]
def alv:Nat→List (Nat×Nat):=fun i=>if i=10 then [(1,3),(1,8),(3,8),(4,8),(6,8),(1,11),(3,11),(4,11),(6,11),(8,11),(9,11),(10,11)] else if i=39 then [(1,3),(1,6),(3,6),(4,6),(5,6)] else if i=41 then [(0,1),(1,2)] else []
theorem RY (n:Nat)(ss:List (Nat×Nat))(cs:List (Int×List In))(C:CdG n ss cs)(tx:Int)(htx:i64 tx)(m:Nat)(hm:m+1≤400)(xs:List (Int×Nat×Nat×Int))(hl:xs.length=n)(hx:∀x∈xs,TsK m x)(t w:Int):jo Tryz.prog 66 [rw_ (coR n ss cs),rw_ (nN n tx m xs),rw_ [ag t,ag w]] (afZ n m):=by
 have alx:=FV n ss cs C tx m (by omega) xs hl hx t;have aly:=UW n C.n4 tx m (m+1) (by omega) hm xs (by have:=C.n4;omega) (fun x h=>⟨(hx x h).r,(hx x h).s⟩);obtain⟨n1,n4,s60,so,val,len,good,num⟩:=C;refine wf Tryz.func66 alv (h:=fun R hR=>?_);refine wb ?_ <;> intros
 refine wF alx ?_;rintro v ⟨e,ok,rfl,hp⟩;refine wb (A2.mk ?_ ?_) <;> intros
 all_goals try exact wt hR (.tup [rw_ Wq,rw_ (EvA.r Ws),.pv (boolP false)]) [] (.inr rfl)
 rename_i hok
 obtain⟨t,r,l,x,i,rfl,tn,hc,hxt,fit,hi,th,obj,kd,k0,site,dp,frm⟩:=hp hok;refine wF (OH n n4 ss tx t e.kind e.obj w htx) ?_;rintro v (⟨tx',v,rfl,alz,hv,-,H⟩ | rfl);rotate_left
 · refine wb ?_ <;> intros
   exact wt hR (.tup [rw_ Wq,rw_ (EvA.r Ws),.pv (boolP false)]) [] (.inr rfl)
 refine wb ?_ <;> intros
 have hq:=hx x (List.mem_of_getElem? hxt);have hgk:=good t r l hc;have hnk:=num t r l hc;obtain⟨pc,r',s,ev⟩:=x;obtain⟨x1,x2,x3,x4,x5⟩:=hq;obtain⟨f1,f2,f3,f4⟩:=fit;dsimp only at x1 x2 x3 x4 x5 f1 f2 f3 f4 hi;obtain⟨p,rfl⟩:=Int.eq_ofNat_of_zero_le f1;rw[Int.toNat_natCast] at hi;obtain rfl:r'=r:=by omega
 obtain rfl:s=r':=by omega
 have hpl:p < l.length:=by omega
 have hlen:=hgk.len;have hcr:(cs.map Yw)[t]?=some (Yw ((s:Int),l)):=by rw[List.getElem?_map,hc];rfl
 have hir:(l.map In.r)[p]?=some i.r:=by rw[List.getElem?_map,hi];rfl
 have hxr:(xs.map (FT (m+1)))[t]?=some (FT (m+1) ((p:Int),s,s,ev)):=by rw[List.getElem?_map,hxt];rfl
 have hop:=hgk.op p i hi;have QU:=hgk.obj p i hi;have VK:=hgk.jmp p i hi;have alA:=hgk.brn p i hi;have hrg:=hgk.regs p i hi;refine wq aly [] ?_;rintro r' g ⟨rfl,rfl⟩;refine ws ?_;refine wb ?_ <;> intros
 refine DK hxr rfl ?_;refine wb ?_ <;> intros
 refine au (by omega) hcr rfl ?_;refine wb ?_ <;> intros
 refine au (by omega) hir rfl ?_;refine ws ?_;refine And.intro (EI (by kernel_rfl)) (And.intro (EI (by kernel_rfl)) ?_);refine w0 ?_;refine wg ?_;refine wg ?_;refine fD rfl ?_;refine ws ?_
 have hK:(e.kind=3→i.op=6∨i.op=7)∧(e.kind=4→i.op=8∨i.op=9)∧(e.kind=5→i.op=10)∧(e.kind=22→i.op=26)∧(e.kind=23→i.op=27):=by
  rcases kd with h | h | h
  · omega
  · omega
  · exact XM h.symm k0
 obtain⟨K3,K4,K5,K22,K23⟩:=hK
 have rA:e.kind=3∨e.kind=5∨e.kind=23→0≤i.a∧i.a < s:=fun h=>hrg i.a (by
  have:i.op=6∨i.op=7∨i.op=10∨i.op=27:=by omega
  rcases this with h | h | h | h <;> simp[regsI,h])
 have rB:e.kind=4∨e.kind=22→0≤i.b∧i.b < s:=fun h=>hrg i.b (by
  have:i.op=8∨i.op=9∨i.op=26:=by omega
  rcases this with h | h | h <;> simp[regsI,h])
 have rJ:e.kind=5→0≤i.b∧i.b≤1000:=fun h=>by obtain⟨k,e1,e2⟩:=alA (K5 h);omega
 have hC3:=H.c;have hf6:=H.f;have hkr:=H.kd;have ip:i64 (p:Int):=bQ.2 (by omega);have i1:i64 1:=bQ.2 (by decide);have ip1:i64 ((p:Int)+1):=bQ.2 (by omega);refine fQ (fun u:Int×Int=> [(3,.ptr 0 0),(4,.ptr 1 0),(5,.ptr 2 0),(6,.ptr 3 0),(7,.ptr 4 0),(9,.ptr 5 0),(14,.ptr 6 0),(15,.ptr 7 0),(16,.pv (ag u.1))]) (fun u=> [some (.box ((coR n ss cs).map .pv)),some (.box (XN n tx' 8 xs.length)),some (.box [.pv (ag t),.pv (ag w)]),some (.box [.emp,.pv (ag 0),.emp,.emp,.emp,.emp,.emp]),some (.box [.pv (ag 0),.pv (ag 0),.pv (ag 0),.pv (ag 0),.pv (ag 0),.emp,.emp]),some (.box ((EvA.r ⟨e.thread,e.kind,e.obj,u.2,e.site,e.deps,e.fr⟩).map .pv)),some (.box ((SY (m+1) p s s ev).map .pv)),some (.box (i.r.map .pv)),some (.row 169 4 (xs.map (FT (m+1))))]) (fun u=>i64 u.1∧i64 u.2) ?_ (fun ⟨nx,y⟩ ⟨hnx,hy⟩=>?_)
 · refine wb (A2.mk ?_ (A2.mk ?_ (A2.mk ?_ (A2.mk ?_ (A2.mk ?_ (A2.mk ?_ (A2.mk ?_ (A2.mk ?_ ?_)))))))) <;> intros
   all_goals try exact ai ⟨((p:Int),v),⟨ip,hv⟩,vm [0,8,16,24,32,112,432,536,344]⟩
   all_goals try exact ai ⟨((p:Int)+1,v),⟨ip1,hv⟩,vm [0,8,16,24,32,112,432,536,344]⟩
   iterate 2
    · refine fM fun z hz=>?_
      refine wb ?_ <;> intros
      exact ai ⟨((p:Int)+1,z),⟨ip1,hz⟩,vm [0,8,16,24,32,112,432,536,344]⟩
   iterate 2
    · refine fM fun z hz=>?_
      refine wb ?_ <;> intros
      refine And.intro hz ?_;refine wb ?_ <;> intros
      exact ai ⟨((p:Int)+1,z),⟨ip1,hz⟩,vm [0,8,16,24,32,112,432,536,344]⟩
   · refine fM fun z hz=>?_
     refine wb (A2.mk ?_ ?_) <;> intros
     · exact ai ⟨(i.b,0),⟨bQ.2 (by omega),nG⟩,vm [0,8,16,24,32,112,432,536,344]⟩
     · exact ai ⟨((p:Int)+1,1),⟨ip1,i1⟩,vm [0,8,16,24,32,112,432,536,344]⟩
 dsimp only at hnx hy;have hT:TsK ((m+1:Nat):Int) (nx,s,s,ev+1):=⟨hnx,x2,x2,by dsimp only;omega,by dsimp only;omega⟩;have hz:TsK ((m+1:Nat):Int) (0,0,0,0):=⟨nG,Nat.zero_le _,Nat.zero_le _,Int.le_refl _,by dsimp only;omega⟩;have hEv:EvG n m ⟨e.thread,e.kind,e.obj,y,e.site,e.deps,e.fr⟩:=⟨by dsimp only;omega,hkr,obj,hy,site,dp,frm⟩
 have hxs:∀x':Int×Nat×Nat×Int,TsK ((m+1:Nat):Int) x'→∀x∈xs.set t x',TsK ((m+1:Nat):Int) x:=fun x' h x hm=>by
  rcases List.mem_or_eq_of_mem_set hm with hm | rfl
  · have:=hx x hm;exact⟨this.pc,this.r,this.s,this.e0,by have:=this.e1;omega⟩
  · exact h
 have hQ:∀x':Int×Nat×Nat×Int,TsK ((m+1:Nat):Int) x'→afZ n m (.tup [rw_ (nN n tx' (m+1) (xs.set t x')),rw_ (EvA.r ⟨e.thread,e.kind,e.obj,y,e.site,e.deps,e.fr⟩),.pv (boolP true)]):=fun x' h=> .inl ⟨_,_,_,rfl,alz,by rw[List.length_set];exact hl,hxs x' h,hEv⟩
 obtain⟨ev,rfl⟩:=Int.eq_ofNat_of_zero_le x4;have hev:Asc (m+1) [ev]:=⟨List.pairwise_singleton _ _,fun q hq=>by rw[List.mem_singleton.1 hq];omega⟩;refine wb (A2.mk ?_ (A2.mk ?_ (A2.mk ?_ (A2.mk ?_ ?_)))) <;> intros
 all_goals try
  refine And.intro hy ?_;refine wb ?_ <;> intros
  refine And.intro (nY hev) ?_;refine wb ?_ <;> intros
 all_goals try
  refine au (by omega) hcr rfl ?_;refine wb ?_ <;> intros
  refine wG (Ql n t ss s l hgk hnk (m+1) hm (nx,s,s,(ev:Int)+1) ((m+1:Nat):Int) hT) (.tup [rw_ (FT (m+1) (0,0,0,0)),.pv (boolP false)]) ⟨_,_,hz,rfl⟩ ?_;rintro v ⟨x',ok',hx',rfl⟩;refine wb ?_ <;> intros
  exact wt hR (.tup [rw_ (nN n tx' (m+1) (xs.set t x')),rw_ (EvA.r ⟨e.thread,e.kind,e.obj,y,e.site,e.deps,e.fr⟩),.pv (boolP true)]) [(8,none)] (hQ x' hx') (hE:=by refine ws ?_;exact⟨congrArg (fun z=>some (PV.sl z)) (Oa x'),List.length_set⟩)
 all_goals exact wt hR (.tup [rw_ (nN n tx' (m+1) (xs.set t (nx,s,s,(ev:Int)+1))),rw_ (EvA.r ⟨e.thread,e.kind,e.obj,y,e.site,e.deps,e.fr⟩),.pv (boolP true)]) [(8,none)] (hQ (nx,s,s,(ev:Int)+1) hT) (hE:=by refine ws ?_;exact⟨congrArg (fun z=>some (PV.sl z)) (Oa (nx,s,s,(ev:Int)+1)),List.length_set⟩)
