/- Words. -/
import Derived.Test.YtfbkkgfkhhibfaaGreatFza
import Derived.Test.YtfbkkgfkhhibfaaGreatFjf
set_option linter.unusedVariables false
set_option linter.unusedSimpArgs false
namespace AM
open Go Go.Proofs Mk
set_option maxRecDepth 20000
set_option maxHeartbeats 8000000
def alV:Nat→List (Nat×Nat):=fun i=>if i=9 then [(1,3),(1,5),(1,7)] else if i=14 then [(3,8),(3,10),(8,10)] else if i=22 then [(1,4),(1,5)] else []
@[go_sem] def alW (n:Nat)(ss:List (Nat×Nat))(r k:Nat):Obj:= .box [.pv (.sl (Jt.map CeR.r)),.pv (.sl (JC.map JD)),.pv (.sl (Ju.map QG)),.pv (.sl (fV QH)),.pv (.sl (fV (thNames n))),.pv (.sl (ss.map QI)),.own r k]
abbrev tcO (l:List (Int×List In)):Obj:= .row 163 2 (l.map Yw)
def cE (i next:Nat):List (Nat×AV):= [(1,.ptr 0 0),(2,.ptr 1 0),(7,.ptr 2 0),(8,.pv (ag next)),(9,.pv (ag i))]
attribute [go_sem] cE
def cS (bs:List (List Sm))(i:Nat):List (Option Obj):= [some (.box ((uY bs).map .pv)),some (.box [.emp,.emp,.emp,.emp,.emp,.emp,.emp]),some (alW bs.length (bU 0 bs) 3 (codeF bs.length 0 (bs.take i)).length),some (tcO (codeF bs.length 0 (bs.take i)))]
attribute [go_sem] cS
attribute [local go_sem] List.set_cons_zero List.set_cons_succ
theorem FX (bs:List (List Sm))(hp:PgOk bs)(hz:lT bs=0):FnEq Tryz.prog 44 [rw_ (uY bs)] (.tup [rw_ (coR bs.length (bU 0 bs) (codeF bs.length 0 bs)),.pv (ag 0),.pv (ag 0)]):=by
 have h4:=hp.n4;have h60:=(qP hz).1;refine wf Tryz.func44 alV (h:=fun R hR=>?_);refine wb ?_ <;> intros
 refine wE hp.check ?_;rw[hz];refine wb ?_ <;> intros
 refine wE (Vq bs hp hz) ?_;refine wb ?_ <;> intros
 refine dh 128 6 163 2 rfl rfl ?_;refine wl (fun i:Nat=>cE i (dP (bs.take i))) (fun i=>cS bs i) (fun i=>i≤bs.length) (fun i=>bs.length - i) 0 (Nat.zero_le _) (vm [0,8,128,160] (hO:=by refine ws ?_;and_intros <;> rfl)) (fun i hi=>?_)
 have hle0:=qh bs i;refine ws ?_;refine w0 ?_;refine wg ?_
 (refine gV rfl ?_;refine ws ?_;first | (refine⟨fun _=>?_,fun _=>?_⟩ <;> first | (exfalso;omega) | skip) | (rw[eu];refine⟨fun _=>?_,fun _=>?_⟩) | skip)
 · have h2:i < bs.length:=by omega
   have hta:=qi bs i h2;have hle:=qh bs (i+1);refine w0 ?_;refine fD rfl ?_;refine wa ?_;refine aB (x:=(bs[i],i)) (by omega) (by simp <;> omega) rfl ?_
   refine wa ?_;generalize hb:bs[i]=b at hta;refine dh 124 7 182 6 rfl rfl ?_;refine wb ?_ <;> intros
   refine aB (x:=(b,i)) (by omega) (by simp[h2,hb]) rfl ?_;refine wb ?_ <;> intros
   refine wq (Fh bs.length h4 (az b+1) b (by omega) (bU 0 bs) [] 0 (dP (bs.take i)) (by simp;omega) (by omega)) [124,140] ?_;rintro r g ⟨rfl,lF,rfl⟩;have hgl:=genL_len bs.length 0 (dP (bs.take i)) b;rw[List.nil_append,List.length_nil];refine wb ?_ <;> intros
   refine wq (bV bs.length (bU 0 bs) (genL bs.length 0 (dP (bs.take i)) b) (-1) ((dP (bs.take i)+az b:Nat):Int) ⟨28,0,0,0,0,0⟩ (by omega)) [124,197] ?_;rintro r g ⟨rfl,rfl⟩;have hbi:bs[i]?=some b:=by rw[←hb];exact List.getElem?_eq_getElem h2
   have hcg:=Cj bs.length bs 0 i b hbi;rw[Nat.zero_add] at hcg;have G:=(sU hz).2.2 i _ _ hcg;have hO:iY bs.length (dP (bs.take i)) b=genL bs.length 0 (dP (bs.take i)) b++ [⟨28,0,0,0,0,-1⟩]:=rfl;rw[show (⟨28,0,0,0,0,0⟩:In).op=28 from rfl,←hO];have hOl:(iY bs.length (dP (bs.take i)) b).length=(genL bs.length 0 (dP (bs.take i)) b).length+1:=by rw[hO];simp
   have hsn:codeF bs.length 0 (bs.take (i+1))=codeF bs.length 0 (bs.take i)++ [(xG (iY bs.length (dP (bs.take i)) b),iY bs.length (dP (bs.take i)) b)]:=by
    rw[qQ hbi,zh,Nat.zero_add]
   generalize iY bs.length (dP (bs.take i)) b=O at G hO hOl hsn⊢;refine wb ?_ <;> intros
   refine wl (fun k:Nat=>cE i (dP (bs.take i)+az b)++ [(10,.ptr 4 0),(11,.ptr 5 0),(12,.pv (ag k))]) (fun k=>cS bs i++ [some (.box ((mO bs.length (bU 0 bs)).map .pv++ [.pv (.sl (fV aZ)),.pv (.sl (O.map In.r)),.pv (ag (-1)),.pv (ag ((dP (bs.take i)+az b:Nat):Int))])),some (.box [.pv (ag (kV 2 (O.take k))),.pv (.sl (O.map In.r))])]) (fun k=>k≤O.length) (fun k=>O.length - k) 0 (Nat.zero_le _) (vm [0,1,2,3,124,381] [(293,none)]) (fun k hk=>?_);refine wb (A2.mk ?_ ?_) <;> intros
   · have hk2:k < O.length:=by omega
     have hR2:=L8 O[k] (O.take k) 2;rw[←qQ (List.getElem?_eq_getElem hk2)] at hR2;have hri:=G.regs k O[k] (List.getElem?_eq_getElem hk2);have hr5:=G.r1;have hrl:=ku O[k];generalize hx:O[k]=x at hR2 hri hrl;refine aB (x:=x) (by omega) (by simp[hk2,hx]) rfl ?_;refine wb ?_ <;> intros
     refine wE (ig x) ?_;refine wb ?_ <;> intros
     refine wl (fun j:Nat=>cE i (dP (bs.take i)+az b)++ [(10,.ptr 4 0),(11,.ptr 5 0),(12,.pv (ag k)),(13,.pv (.sl (Z7 (regsI x)))),(14,.pv (ag j))]) (fun j=>cS bs i++ [some (.box ((mO bs.length (bU 0 bs)).map .pv++ [.pv (.sl (fV aZ)),.pv (.sl (O.map In.r)),.pv (ag (-1)),.pv (ag ((dP (bs.take i)+az b:Nat):Int))])),some (.box [.pv (ag (gq (kV 2 (O.take k)) ((regsI x).take j))),.pv (.sl (O.map In.r))])]) (fun j=>j≤(regsI x).length) (fun j=>(regsI x).length - j) 0 (Nat.zero_le _) (vm [0,1,2,3,4,5]) (fun j hj=>?_);refine wb (A2.mk ?_ ?_) <;> intros
     · have hj2:j < (regsI x).length:=by omega
       have YG:=hri _ (List.getElem_mem hj2);have hms:=Iw (regsI x)[j] ((regsI x).take j) (kV 2 (O.take k));rw[←qQ (List.getElem?_eq_getElem hj2)] at hms;refine aB (x:=(regsI x)[j]) (by omega) (by simp[hj2]) rfl ?_;refine wb ?_ <;> intros
       refine ai ⟨j+1,hj2,by omega,?_⟩;rw[hms];exact vm [0,1,2,3,4,5]
     · obtain rfl:j=(regsI x).length:=by omega
       rw[List.take_length,←hR2];refine wb ?_ <;> intros
       exact ai ⟨k+1,hk2,by omega,vm [0,1,2,3,4,5]⟩
   · obtain rfl:k=O.length:=by omega
     rw[List.take_length];refine wb ?_ <;> intros
     refine And.intro (by rw[pM];simp;omega) ?_;refine wb ?_ <;> intros
     have hF:xG O=kV 2 O:=rfl;rw[hF] at hsn;refine ai ⟨i+1,h2,by omega,?_⟩;rw[hta];exact vm [0,1,2,94] (hO:=by refine ws ?_;rw[hsn];simp;rfl)
 · obtain rfl:i=bs.length:=by omega
   rw[List.take_length];refine wb ?_ <;> intros
   exact wr hR [(3,none)]
end AM
namespace AM
open Go Go.Proofs Mk
set_option maxRecDepth 20000
set_option maxHeartbeats 8000000
theorem jl (i n:Int)(h:0≤i∧i < n):FnEq Tryz.prog 97 [.pv (ag i),.pv (ag n)] (.pv (boolP true)):=by
 have:=ZA i n;rwa [decide_eq_true h.1,decide_eq_true h.2] at this
theorem Gs (n:Nat)(ss:List (Nat×Nat)):FnEq Tryz.prog 125 [rw_ (mO n ss),.pv (ag 3),.pv (ag 2)] (.pv (boolP true)):=by
 refine wf Tryz.func125 (fun _=> []) (h:=fun R hR=>?_);refine wb ?_ <;> intros
 refine wE (jl 3 5 (by decide)) ?_;repeat (refine wb ?_ <;> intros;refine au (by omega) rfl rfl ?_)
 refine wb ?_ <;> intros
 exact wr hR
theorem JR (n:Nat)(ss:List (Nat×Nat))(i:In)(h1:1≤i.op)(h2:i.op≤28)(ho:ObjI n i):FnEq Tryz.prog 95 [rw_ (mO n ss),rw_ i.r] (.pv (boolP true)):=by
 obtain⟨op,a,b,c,nn,st⟩:=i;obtain⟨o3,o4,o6,o7,o8,o9,o11,o13,o21,o24,o26,o27⟩:=ho;dsimp only at h1 h2 o3 o4 o6 o7 o8 o9 o11 o13 o21 o24 o26 o27;rcases (show op=1∨op=2∨op=4∨op=5∨op=6∨op=7∨op=8∨op=9∨op=10∨op=11∨op=12∨op=13∨op=14∨op=15∨op=16∨op=17∨op=18∨op=19∨op=20∨op=21∨op=22∨op=23∨op=24∨op=25∨op=26∨op=27∨op=28 by omega) with rfl | rfl | rfl | rfl | rfl | rfl | rfl | rfl | rfl | rfl | rfl | rfl | rfl | rfl | rfl | rfl | rfl | rfl | rfl | rfl | rfl | rfl | rfl | rfl | rfl | rfl | rfl
 all_goals
  refine wf Tryz.func95 (fun _=> []) (h:=fun R hR=>?_);refine wb ?_ <;> intros
 all_goals first | exact wr hR | skip
 all_goals first
  | (obtain⟨rfl,rfl⟩:=o7 rfl;refine wE (Gs n ss) ?_;refine wb ?_ <;> intros;exact wr hR)
  | (obtain⟨rfl,rfl⟩:=o9 rfl;refine wE (Gs n ss) ?_;refine wb ?_ <;> intros;exact wr hR)
  | (obtain rfl:=o26 rfl;refine wE (jl 0 1 (by decide)) ?_;refine wb ?_ <;> intros;exact wr hR)
  | (obtain rfl:=o27 rfl;refine wE (jl 0 1 (by decide)) ?_;refine wb ?_ <;> intros;exact wr hR)
  | (obtain rfl:=o21 (by decide);refine wE (jl 0 1 (by decide)) ?_;refine wb ?_ <;> intros;exact wr hR)
  | (obtain rfl:=o13 (by decide);refine wE (jl 2 3 (by decide)) ?_;refine wb ?_ <;> intros;refine au (by omega) rfl rfl ?_;refine wb ?_ <;> intros;exact wr hR)
  | (have hb:=o24 (by decide);refine wE (jl a (thNames n).length (by rw[thNames_len];omega)) ?_;refine wb ?_ <;> intros;exact wr hR)
  | skip
 all_goals first
  | (have hb:=o6 rfl;obtain rfl | rfl | rfl:=(show b=0∨b=1∨b=2 by omega))
  | (have hb:=o8 rfl;obtain rfl | rfl | rfl:=(show a=0∨a=1∨a=2 by omega))
  | (have hb:=o11 (by decide);obtain rfl | rfl:=(show a=0∨a=1 by omega))
 all_goals first
  | refine wE (jl 0 5 (by decide)) ?_
  | refine wE (jl 1 5 (by decide)) ?_
  | refine wE (jl 2 5 (by decide)) ?_
  | refine wE (jl 0 3 (by decide)) ?_
  | refine wE (jl 1 3 (by decide)) ?_
 all_goals (refine wb ?_ <;> intros;refine au (by omega) rfl rfl ?_;refine wb ?_ <;> intros;exact wr hR)
set_option maxRecDepth 20000
set_option maxHeartbeats 8000000
theorem S9 (l:List In)(at0:Int)(hl:l.length≤500)(h0: -10≤at0∧at0≤1000)(hj:∀i∈l,1≤i.op∧(i.op=5→0≤i.a∧i.a≤1000))(h:landsF l (l.length+1) at0=true):FnEq Tryz.prog 96 [.pv (.sl (l.map In.r)),.pv (ag at0)] (.pv (boolP true)):=by
 refine wf Tryz.func96 (fun _=> []) (h:=fun R hR=>?_);refine wb ?_ <;> intros
 refine wl (fun u:Nat×Int=> [(0,.pv (.sl (l.map In.r))),(1,.pv (ag u.2)),(5,.pv (ag u.1))]) (fun _=> []) (fun u=>u.1≤l.length+1∧landsF l (l.length+1 - u.1) u.2=true∧ -10≤u.2∧u.2≤1000) (fun u=>l.length+1 - u.1) (0,at0) ⟨Nat.zero_le _,h,h0⟩ (vm []) (fun ⟨k,t⟩ ⟨hk,hL,ht1,ht2⟩=>?_);dsimp only at hk hL ht1 ht2;obtain⟨f,hf⟩:∃f,l.length+1 - k=f:=⟨_,rfl⟩;rw[hf] at hL
 cases f with
 | zero=>simp [landsF] at hL
 |
  succ f=>
  simp only[landsF] at hL;split at hL
  · cases hL
  · rename_i hr
    have hlt:t.toNat < l.length:=by omega
    rw[List.getElem?_eq_getElem hlt] at hL;dsimp only at hL;have hm:=hj l[t.toNat] (List.getElem_mem hlt);have hg:(l.map In.r)[t.toNat]?=some (l[t.toNat]).r:=by simp[hlt]
    generalize l[t.toNat]=i at hL hm hg;obtain⟨hm1,hm2⟩:=hm;refine wb ?_ <;> intros
    all_goals try omega
    refine au (by omega) hg rfl ?_;refine wb ?_ <;> intros
    refine wE (BZ i.op) ?_;split at hL
    · rename_i hs
      refine wb (A2.mk ?_ ?_) <;> intros
      · rename_i hx
        simp only[Bool.and_eq_true,decide_eq_true_eq] at hx;omega
      · exact wr hR
    · rename_i hs
      refine wb (A2.mk ?_ ?_) <;> intros
      rotate_left
      · rename_i hx
        exact absurd (Decidable.not_not.1 hs) (by rintro⟨a,b⟩;rw[decide_eq_true a,decide_eq_true b] at hx;cases hx)
      refine au (by omega) hg rfl ?_;refine wb (A2.mk ?_ ?_) <;> intros
      · refine au (by omega) hg rfl ?_;refine wb ?_ <;> intros
        have h5:i.op=5:=by omega
        rw[if_pos h5] at hL;exact ai ⟨(k+1,i.a),⟨by omega,by rwa [show l.length+1 - (k+1)=f by omega],by have:=hm2 h5;dsimp only;omega⟩,by dsimp only;omega,vm []⟩
      · have h5:i.op≠5:=by omega
        rw[if_neg h5] at hL;exact ai ⟨(k+1,t+1),⟨by omega,by rwa [show l.length+1 - (k+1)=f by omega],by dsimp only;omega⟩,by dsimp only;omega,vm []⟩
set_option maxRecDepth 20000
set_option maxHeartbeats 8000000
@[go_sem] def vtE (t:Nat)(l:List In)(k:Nat):List (Nat×AV):= [(1,.pv (ag t)),(3,.ptr 0 0),(5,.ptr 1 0),(7,.pv (ag l.length)),(8,.pv (ag k))]
@[go_sem] def vtS (n:Nat)(ss:List (Nat×Nat))(r:Int)(l:List In):List (Option Obj):= [some (.box ((mO n ss).map .pv)),some (.box [.pv (ag r),.pv (.sl (l.map In.r))])]
theorem xh (n:Nat)(ss:List (Nat×Nat))(hss:ss.length≤60)(t:Nat)(ht:t≤4)(r:Int)(l:List In)(G:GoodC n ss t r l):FnEq Tryz.prog 65 [rw_ (mO n ss),.pv (ag t),rw_ [ag r,.sl (l.map In.r)]] (.pv (boolP true)):=by
 obtain⟨r0,r1,pos,len,op,last,obj,lands,site,jmp,brn,regs⟩:=G;refine wf Tryz.func65 (fun _=> [(2,5),(3,5)]) (h:=fun R hR=>?_);refine wb ?_ <;> intros
 all_goals try omega
 have hj:∀i∈l,1≤i.op∧(i.op=5→0≤i.a∧i.a≤1000):=by
  intro i hi;obtain⟨k,hk⟩:=List.mem_iff_getElem?.1 hi;refine⟨(op k i hk).1,fun h5=>?_⟩;obtain⟨k',h1,h2⟩:=jmp k i hk h5;omega
 refine wl (fun k:Nat=>vtE t l k) (fun _=>vtS n ss r l) (fun k=>k≤l.length) (fun k=>l.length - k) 0 (Nat.zero_le _) (vm [0,8]) (fun k hk=>?_);refine wb (A2.mk ?_ ?_) <;> intros
 · have h2:k < l.length:=by omega
   have hg:=List.getElem?_eq_getElem h2;generalize l[k]=i at hg;have o1:=op k i hg;have o2:=last k i hg;have o3:=obj k i hg;have o4:=lands k h2;have o5:=site k i hg;have o6:=jmp k i hg;have o7:=brn k i hg;have o8:=regs k i hg;have hgm:(l.map In.r)[k]?=some i.r:=by simp[hg]
   have hb:((i.op==28)==((k:Int)==(l.length:Int) - 1))=true:=by
    rw[beq_iff_eq,Bool.eq_iff_iff,beq_iff_eq,beq_iff_eq];constructor
    · intro h;have:=o2.1 h;omega
    · intro h;exact o2.2 (by omega)
   have o9:i.op=28→i.site= -1:=fun h=>o5.elim (fun x=>x.2) (fun x=>absurd h x.1)
   refine au (by omega) hgm rfl ?_;refine wb (A2.mk ?_ ?_) <;> intros
   all_goals try omega
   all_goals first | (exfalso;rename_i h;rw[hb] at h;cases h;done) | skip
   refine wE (JR n ss i o1.1 o1.2 o3) ?_;refine wb ?_ <;> intros
   refine wE (S9 l (k:Int) (by omega) (by omega) hj o4) ?_;refine wb (A2.mk ?_ ?_) <;> intros
   all_goals try (exfalso;rename_i h1 h3;exact h3 (o9 h1))
   rotate_left
   · rcases o5 with ⟨h28,_⟩ | ⟨_,q,m,hq,hsq⟩
     · exact absurd h28 (by assumption)
     have hqb:=(List.getElem?_eq_some_iff.1 hsq).1;refine wE (jl i.site ss.length (by omega)) ?_;refine wb ?_ <;> intros
     refine aB (x:=(t,m)) (by omega) (by rw[hq];simpa using hsq) rfl ?_;refine wb (A2.mk ?_ (A2.mk ?_ ?_)) <;> intros
     · obtain⟨z,z1,z2⟩:=o6 (by assumption);refine wE (jl i.a l.length (by omega)) ?_;refine wb ?_ <;> intros
       refine wE (ig i) ?_;have hrl:=ku i;refine wb ?_ <;> intros
       refine wl (fun j:Nat=>vtE t l k++ [(10,.pv (.sl (Z7 (regsI i)))),(11,.pv (ag j))]) (fun _=>vtS n ss r l) (fun j=>j≤(regsI i).length) (fun j=>(regsI i).length - j) 0 (Nat.zero_le _) (vm [0,1]) (fun j hj2=>?_);refine wb (A2.mk ?_ ?_) <;> intros
       · have hj3:j < (regsI i).length:=by omega
         have YG:=o8 _ (List.getElem_mem hj3);refine aB (x:=(regsI i)[j]) (by omega) (by simp[hj3]) rfl ?_;refine wb ?_ <;> intros
         refine wE (jl _ r YG) ?_;refine wb ?_ <;> intros
         exact ai ⟨j+1,hj3,by omega,vm [0,1]⟩
       · refine wb ?_ <;> intros
         exact ai ⟨k+1,h2,by omega,vm [0,1]⟩
     · obtain⟨z,z1,z2⟩:=o7 (by assumption);refine wE (jl i.b l.length (by omega)) ?_;refine wb ?_ <;> intros
       refine wE (ig i) ?_;have hrl:=ku i;refine wb ?_ <;> intros
       refine wl (fun j:Nat=>vtE t l k++ [(10,.pv (.sl (Z7 (regsI i)))),(11,.pv (ag j))]) (fun _=>vtS n ss r l) (fun j=>j≤(regsI i).length) (fun j=>(regsI i).length - j) 0 (Nat.zero_le _) (vm [0,1]) (fun j hj2=>?_);refine wb (A2.mk ?_ ?_) <;> intros
       · have hj3:j < (regsI i).length:=by omega
         have YG:=o8 _ (List.getElem_mem hj3);refine aB (x:=(regsI i)[j]) (by omega) (by simp[hj3]) rfl ?_;refine wb ?_ <;> intros
         refine wE (jl _ r YG) ?_;refine wb ?_ <;> intros
         exact ai ⟨j+1,hj3,by omega,vm [0,1]⟩
       · refine wb ?_ <;> intros
         exact ai ⟨k+1,h2,by omega,vm [0,1]⟩
     · refine wE (ig i) ?_;have hrl:=ku i;refine wb ?_ <;> intros
       refine wl (fun j:Nat=>vtE t l k++ [(10,.pv (.sl (Z7 (regsI i)))),(11,.pv (ag j))]) (fun _=>vtS n ss r l) (fun j=>j≤(regsI i).length) (fun j=>(regsI i).length - j) 0 (Nat.zero_le _) (vm [0,1]) (fun j hj2=>?_);refine wb (A2.mk ?_ ?_) <;> intros
       · have hj3:j < (regsI i).length:=by omega
         have YG:=o8 _ (List.getElem_mem hj3);refine aB (x:=(regsI i)[j]) (by omega) (by simp[hj3]) rfl ?_;refine wb ?_ <;> intros
         refine wE (jl _ r YG) ?_;refine wb ?_ <;> intros
         exact ai ⟨j+1,hj3,by omega,vm [0,1]⟩
       · refine wb ?_ <;> intros
         exact ai ⟨k+1,h2,by omega,vm [0,1]⟩
   · refine wE (ig i) ?_;have hrl:=ku i;refine wb ?_ <;> intros
     refine wl (fun j:Nat=>vtE t l k++ [(10,.pv (.sl (Z7 (regsI i)))),(11,.pv (ag j))]) (fun _=>vtS n ss r l) (fun j=>j≤(regsI i).length) (fun j=>(regsI i).length - j) 0 (Nat.zero_le _) (vm [0,1]) (fun j hj2=>?_);refine wb (A2.mk ?_ ?_) <;> intros
     · have hj3:j < (regsI i).length:=by omega
       have YG:=o8 _ (List.getElem_mem hj3);refine aB (x:=(regsI i)[j]) (by omega) (by simp[hj3]) rfl ?_;refine wb ?_ <;> intros
       refine wE (jl _ r YG) ?_;refine wb ?_ <;> intros
       exact ai ⟨j+1,hj3,by omega,vm [0,1]⟩
     · refine wb ?_ <;> intros
       exact ai ⟨k+1,h2,by omega,vm [0,1]⟩
 · obtain rfl:k=l.length:=by omega
   exact wr hR
set_option maxRecDepth 20000
set_option maxHeartbeats 8000000
def MF (n:Nat):List ByteArray:= [⟨#[120]⟩,⟨#[121]⟩,⟨#[118]⟩,⟨#[113]⟩,⟨#[109]⟩,⟨#[110]⟩,⟨#[114]⟩,⟨#[99]⟩,⟨#[102]⟩]++thNames n
def nE (r k i:Nat):List (Nat×AV):= [(1,.ptr 0 0),(4,.own r k),(5,.pv (ag i))]
attribute [local go_sem] rep
theorem U9 (n:Nat)(ss:List (Nat×Nat))(hn:n≤4):FnEq Tryz.prog 92 [rw_ (mO n ss)] (.tup [.pv (.sl (fV (MF n))),.pv (boolP true)]):=by
 refine wf Tryz.func92 (fun _=> []) (h:=fun R hR=>?_);refine wb ?_ <;> intros
 refine jq 4 9 1 (by exact we) ?_;refine wn 5 ?_;refine wb ?_ <;> intros
 iterate 3 (refine au (by omega) rfl rfl ?_;refine wb ?_ <;> intros)
 refine au (by omega) rfl rfl ?_;refine wb ?_ <;> intros
 refine wn 3 ?_;refine wb ?_ <;> intros
 refine au (by omega) rfl rfl ?_;refine wb ?_ <;> intros
 refine au (by omega) rfl rfl ?_;refine wb ?_ <;> intros
 refine wn 4 ?_;refine wb ?_ <;> intros
 iterate 3 (refine au (by omega) rfl rfl ?_;refine wb ?_ <;> intros)
 refine wn 2 ?_;refine wb ?_ <;> intros
 refine au (by omega) rfl rfl ?_;refine wb ?_ <;> intros
 refine And.intro (by rw[thNames_len];omega) ?_;refine wb ?_ <;> intros
 exact wr hR [(2577,none)] (hE:=by refine ws ?_;and_intros <;> first | rfl | (unfold MF;rw[List.length_append];rfl))
end AM
namespace AM
open Go Go.Proofs Mk
set_option maxRecDepth 20000
set_option maxHeartbeats 8000000
def alP:Nat→List (Nat×Nat):=fun i=>if i=9 then [(9,12),(9,13)] else if i=23 then [(4,11),(7,11),(9,11)] else if i=24 then [(8,15),(11,15),(13,15)] else if i=26 then [(1,3),(1,6),(1,8)] else []
def nmB (n:Nat):Bool:=(List.range (9+n)).all fun k=>match (MF n)[k]? with
 | some x=>jm x && decide (fU ((MF n).take k) x= -1)
 | none=>true
theorem Oh (n:Nat):(MF n).length=9+n:=by unfold MF;rw[List.length_append,thNames_len];rfl
theorem agf {n:Nat}(hn:n≤4){k:Nat}{x:ByteArray}(h:(MF n)[k]?=some x):jm x=true∧fU ((MF n).take k) x= -1:=by
 have hk:=(List.getElem?_eq_some_iff.1 h).1;rw[Oh] at hk
 have:nmB n=true:=by
  rcases (show n=0∨n=1∨n=2∨n=3∨n=4 by omega) with rfl | rfl | rfl | rfl | rfl <;> kernel_rfl
 unfold nmB at this;have:=List.all_eq_true.1 this k (List.mem_range.2 hk);rw[h] at this;simpa using this
theorem X6 {α β:Type}(f:α→β)(l:List α)(k:Nat):(l.map f).take k=(l.take k).map f:=List.map_take.symm
attribute [local go_sem] thNames_len X6 rep
theorem Oi {n:Nat}{ss:List (Nat×Nat)}(h:SiteOk n ss):∀(i:Nat) (x:Nat×Nat),ss[i]?=some x→x.2≤i
 |
  0,x,hx=>by
  rcases (h 0 x hx).2 with ⟨_,h2⟩ | ⟨j,y,h1,_⟩
  · omega
  · omega
 |
  i+1,x,hx=>by
  rcases (h (i+1) x hx).2 with ⟨_,h2⟩ | ⟨j,y,h1,h2,h3⟩
  · omega
  · obtain rfl:i=j:=by omega
    have:=Oi h i y h2
    omega
theorem zK (n:Nat)(ss:List (Nat×Nat))(h1:1≤n)(hn:n≤4)(hss:ss.length≤60)(hs:SiteOk n ss):FnEq Tryz.prog 64 [rw_ (mO n ss)] (.pv (boolP true)):=by
 refine wf Tryz.func64 alP (h:=fun R hR=>?_);refine wb ?_ <;> intros
 all_goals try omega
 refine wE (U9 n ss hn) ?_;refine wb ?_ <;> intros
 refine wl (fun k:Nat=> [(1,.ptr 0 0),(3,.pv (.sl (fV (MF n)))),(5,.pv (ag k))]) (fun _=> [some (.box ((mO n ss).map .pv))]) (fun k=>k≤(MF n).length) (fun k=>(MF n).length - k) 0 (Nat.zero_le _) (vm [0]) (fun k hk=>?_);refine wb (A2.mk ?_ ?_) <;> intros
 · have h2:k < (MF n).length:=by omega
   have hg:=List.getElem?_eq_getElem h2;obtain⟨q1,q2⟩:=agf hn hg;have hl:=Oh n;generalize (MF n)[k]=x at hg q1 q2;have hgm:(fV (MF n))[k]?=some [bJ x]:=by simp[hg]
   refine au (by omega) hgm rfl ?_;refine wb ?_ <;> intros
   refine wE (gY x q1) ?_;refine wb ?_ <;> intros
   refine au (by omega) hgm rfl ?_;refine wb ?_ <;> intros
   refine wE (nU ((MF n).take k) x (-1) (by simp;omega) q2) ?_;refine wb ?_ <;> intros
   exact ai ⟨k+1,h2,by omega,vm [0]⟩
 · refine wn 2 ?_;refine wb ?_ <;> intros
   iterate 2 (refine au (by omega) rfl rfl ?_;refine wb ?_ <;> intros)
   refine wl (fun k:Nat=> [(1,.ptr 0 0),(8,.pv (ag k))]) (fun _=> [some (.box ((mO n ss).map .pv))]) (fun k=>k≤ss.length) (fun k=>ss.length - k) 0 (Nat.zero_le _) (vm [0]) (fun k hk=>?_);refine wb (A2.mk ?_ ?_) <;> intros
   · have h2:k < ss.length:=by omega
     have hg:=List.getElem?_eq_getElem h2;have hsk:=hs k _ hg;generalize ss[k]=x at hg hsk;obtain⟨th,m⟩:=x;obtain⟨z1,z2⟩:=hsk;dsimp only at z1 z2;refine aB (x:=(th,m)) (by omega) (by simpa using hg) rfl ?_;refine wb (A2.mk ?_ ?_) <;> intros
     all_goals try omega
     · exact ai ⟨k+1,h2,by omega,vm [0]⟩
     · rcases z2 with ⟨rfl,rfl⟩ | ⟨j,⟨yt,ym⟩,rfl,hy,z3⟩
       · exact absurd (Eq.refl (((0:Nat):Int))) (by assumption)
       dsimp only at z3;have hym:=Oi hs j _ hy;dsimp only at hym;refine aB (x:=(yt,ym)) (by omega) (by simpa using hy) rfl ?_;refine wb (A2.mk ?_ ?_) <;> intros
       all_goals try (exfalso;omega)
       all_goals (refine aB (x:=(yt,ym)) (by omega) (by simpa using hy) rfl ?_;refine wb ?_ <;> intros)
       all_goals try (exfalso;omega)
       all_goals exact ai ⟨j+1+1,h2,by omega,vm [0]⟩
   · exact wr hR
end AM
namespace AM
open Go Go.Proofs Mk
set_option maxRecDepth 20000
set_option maxHeartbeats 8000000
theorem QW (bs:List (List Sm))(h1:1≤bs.length)(h4:bs.length≤4)(hz:lT bs=0):FnEq Tryz.prog 41 [rw_ (coR bs.length (bU 0 bs) (codeF bs.length 0 bs))] (.pv (boolP true)):=by
 obtain⟨g1,g2,g3⟩:=sU hz;have hcl:=pM bs.length bs 0;generalize codeF bs.length 0 bs=cs at g3 hcl;generalize bU 0 bs=ss at g1 g2 g3;generalize bs.length=n at *
 refine wf Tryz.func41 (fun _=> [(1,4),(1,6),(1,7)]) (h:=fun R hR=>?_);refine wb ?_ <;> intros
 refine wE (zK n ss h1 h4 g1 g2) ?_;refine wb (A2.mk ?_ ?_) <;> intros
 all_goals try (rw[thNames_len] at *;omega)
 refine wl (fun k:Nat=> [(1,.ptr 0 0),(3,.pv (ag k))]) (fun _=> [some (.box ((coR n ss cs).map .pv))]) (fun k=>k≤cs.length) (fun k=>cs.length - k) 0 (Nat.zero_le _) (vm [0]) (fun k hk=>?_);refine wb (A2.mk ?_ ?_) <;> intros
 · have h2:k < cs.length:=by omega
   have hg:=List.getElem?_eq_getElem h2;have hgk:=g3 k cs[k].1 cs[k].2 hg;generalize cs[k]=x at hg hgk;obtain⟨r,l⟩:=x;refine aB (x:=(r,l)) (by omega) (by simpa using hg) rfl ?_;refine wb ?_ <;> intros
   refine wE (xh n ss g1 k (by omega) r l hgk) ?_;refine wb ?_ <;> intros
   exact ai ⟨k+1,h2,by omega,vm [0]⟩
 · exact wr hR
set_option maxRecDepth 20000
set_option maxHeartbeats 8000000
def EvL (n:Nat)(es:List EvA):Prop:=∀(j:Nat) e,es[j]?=some e→EvG n j e
theorem EvL.snoc {n:Nat}{es:List EvA}{e:EvA}(h:EvL n es)(he:EvG n es.length e):EvL n (es++ [e]):=by
 intro j x hx;rcases Nat.lt_or_ge j es.length with hj | hj
 · rw[List.getElem?_append_left hj] at hx;exact h j x hx
 · rw[List.getElem?_append_right hj] at hx
   obtain rfl:j=es.length:=by
    have:=(List.getElem?_eq_some_iff.1 hx).1;simp at this;omega
   simp at hx;subst hx;exact he
@[go_sem] def chR (c:Int×Int):List PV:= [ag c.1,ag c.2]
structure FrS (n K k:Nat)(tx:Int)(xs:List (Int×Nat×Nat×Int))(es:List EvA):Prop where
 tx:i64 tx
 xl:xs.length=n
 xk:∀x∈xs,TsK (es.length:Nat) x
 e4:es.length≤400
 ek:es.length≤k
 kK:k≤K
 ev:EvL n es
def FrQ (n K:Nat)(v:AV):Prop:=∃tx xs es,v= .tup [.pv (.sl (es.map EvA.r)),rw_ (nN n tx es.length xs)]∧es.length≤K∧EvL n es
def ai0:Nat→List (Nat×Nat):=fun _=> [(0,1),(0,4),(1,4),(0,5),(1,5),(0,11),(1,11),(4,11),(5,11),(6,11),(0,12),(1,12),(4,12),(5,12),(6,12),(11,12)]
attribute [local go_sem] List.map_append List.length_append List.map_cons List.map_nil List.length_singleton
theorem QX (n:Nat)(ss:List (Nat×Nat))(cs:List (Int×List In))(C:CdG n ss cs)(xs0:List (Int×Nat×Nat×Int))(hl:xs0.length=n)(hx:∀x∈xs0,TsK (0:Nat) x)(ch:List (Int×Int))(hch:ch.length≤1000):jo Tryz.prog 42 [rw_ (coR n ss cs),rw_ (nN n (-1) 0 xs0),.emp,.pv (.sl (ch.map chR))] (FrQ n ch.length):=by
 refine wf Tryz.func42 ai0 (h:=fun R hR=>?_);refine wb ?_ <;> intros
 refine jq 2 52 7 (by exact we) ?_;have im:i64 (-1):=bQ.2 (by decide);refine wl (fun u:Nat×Int×List (Int×Nat×Nat×Int)×List EvA=> [(2,.own 3 u.2.2.2.length),(3,.pv (.sl (ch.map chR))),(4,.ptr 0 0),(5,.ptr 1 0),(9,.ptr 2 0),(10,.pv (ag u.1))]) (fun u=> [some (.box ((coR n ss cs).map .pv)),some (.box ((nN n u.2.1 u.2.2.2.length u.2.2.1).map .pv)),some (.box [.emp,.pv (ag 0),.emp,.emp,.emp,.emp,.emp]),some (.row 52 7 (u.2.2.2.map EvA.r))]) (fun u=>FrS n ch.length u.1 u.2.1 u.2.2.1 u.2.2.2) (fun u=>ch.length - u.1) (0,-1,xs0,[]) ⟨im,hl,hx,Nat.zero_le _,Nat.zero_le _,Nat.zero_le _,fun j e h=>by simp at h⟩ (vm [0,8,24,40]) (fun ⟨k,tx,xs,es⟩ hu=>?_);obtain⟨htx,hxl,hxk,e4,ek,kK,hev⟩:=hu;dsimp only at htx hxl hxk e4 ek kK hev;refine wb (A2.mk ?_ (A2.mk ?_ ?_)) <;> intros
 · have h2:k < ch.length:=by omega
   refine aB (x:=ch[k]) (by omega) (by simp[h2]) rfl ?_;refine wb ?_ <;> intros
   refine wG (RY n ss cs C tx htx es.length (by omega) xs hxl hxk ch[k].1 ch[k].2) (.tup [rw_ Wq,rw_ (EvA.r Ws),.pv (boolP false)]) (.inr rfl) ?_;rintro v (⟨tx',xs',e,rfl,t1,t2,t3,t4⟩ | rfl)
   · refine wb ?_ <;> intros
     have el:(es++ [e]).length=es.length+1:=by simp
     exact ai ⟨(k+1,tx',xs',es++ [e]),⟨t1,t2,by dsimp only;rw[el];exact t3,by dsimp only;omega,by dsimp only;omega,h2,hev.snoc t4⟩,by dsimp only;omega,vm [0,1,2,252]⟩
   · refine wb ?_ <;> intros
     exact ai ⟨(k+1,tx,xs,es),⟨htx,hxl,hxk,e4,by dsimp only;omega,h2,hev⟩,by dsimp only;omega,vm [0,1,2,3]⟩
 all_goals exact wt hR (.tup [.pv (.sl (es.map EvA.r)),rw_ (nN n tx es.length xs)]) [(3,none)] ⟨_,_,_,rfl,by omega,hev⟩
end AM
namespace AM
open Go Go.Proofs Mk
set_option maxRecDepth 20000
set_option maxHeartbeats 8000000
@[go_sem] def trR (n:Nat)(ss:List (Nat×Nat))(es:List EvA):List PV:= [.sl (Jt.map CeR.r),.sl (JC.map JD),.sl (Ju.map QG),.sl (fV QH),.sl (fV (thNames n)),.sl (ss.map QI),.sl (es.map EvA.r)]
def aix (n:Nat)(ss:List (Nat×Nat))(K:Nat)(v:AV):Prop:=∃tx xs es,v= .tup [rw_ (trR n ss es),rw_ (nN n tx es.length xs)]∧es.length≤K∧EvL n es
def aiy:Nat→List (Nat×Nat):=fun i=>if i=3 then [(0,1),(0,2),(0,8),(1,8),(2,8),(4,8)] else if i=4 then [(1,4),(4,5)] else []
theorem VM (n:Nat)(ss:List (Nat×Nat))(cs:List (Int×List In))(C:CdG n ss cs)(ch:List (Int×Int))(hch:ch.length≤1000):jo Tryz.prog 23 [rw_ (coR n ss cs),.pv (.sl (ch.map chR))] (aix n ss ch.length):=by
 have hst:=OD n ss cs C
 have hfr:=QX n ss cs C (cs.map ts0) (by rw[List.length_map];exact C.len) (fun x hx=>by
  obtain⟨p,hp,rfl⟩:=List.mem_map.1 hx;obtain⟨k,hk⟩:=List.mem_iff_getElem?.1 hp;have G:=C.good k p.1 p.2 hk;have:=G.r1;exact⟨nG,by show p.1.toNat≤5;omega,by show p.1.toNat≤5;omega,Int.le_refl _,Int.le_refl _⟩) ch hch
 have hw:FrQ n ch.length (.tup [.pv (.sl (([]:List EvA).map EvA.r)),rw_ (nN n 0 0 [])]):=⟨0,[],[],rfl,Nat.zero_le _,fun j e h=>by simp at h⟩;obtain⟨n1,n4,s60,so,val,len,good,num⟩:=C;refine wf Tryz.func23 aiy (h:=fun R hR=>?_);refine wb ?_ <;> intros
 refine wE val ?_;refine wb ?_ <;> intros
 refine wE hst ?_;refine wb ?_ <;> intros
 refine wG hfr _ hw ?_;rintro v ⟨tx,xs,es,rfl,h1,h2⟩;refine wb ?_ <;> intros
 exact wt hR (.tup [rw_ (trR n ss es),rw_ (nN n tx es.length xs)]) [] ⟨_,_,_,rfl,h1,h2⟩
theorem VN (xs:List UInt8)(hx:xs.length≤1000):jo Tryz.prog 24 [.pv (Yx xs)] (fun r=>∃n ss cs,CdG n ss cs∧r=rw_ (coR n ss cs)):=by
 refine wf Tryz.func24 (fun _=> []) (h:=fun R hR=>?_);refine wb ?_ <;> intros
 refine wF (JE xs hx) ?_;rintro v ⟨bs,rfl,hp,hz⟩;refine wb ?_ <;> intros
 refine wE (FX bs hp hz) ?_;refine wb ?_ <;> intros
 have hg:=sU hz;exact wt hR (rw_ (coR bs.length (bU 0 bs) (codeF bs.length 0 bs))) [] ⟨_,_,_,⟨hp.n1,hp.n4,hg.1,hg.2.1,QW bs hp.n1 hp.n4 hz,pM _ _ _,hg.2.2,fun k r l h=>Be _ _ _ _ (List.mem_of_getElem? h)⟩,rfl⟩
attribute [local go_sem] List.map_append List.length_append List.map_cons List.map_nil List.length_singleton
theorem JF (xs:List UInt8)(hx:xs.length≤1000):jo Tryz.prog 25 [.pv (Yx xs)] (fun r=>∃ch:List (Int×Int),ch.length=xs.length∧r= .pv (.sl (ch.map chR))):=by
 refine wf Tryz.func25 (fun _=> [(3,9),(4,9),(3,10),(4,10)]) (h:=fun R hR=>?_);refine wb ?_ <;> intros
 refine jq 3 124 2 (by exact we) ?_;refine wl (fun u:List (Int×Int)=> [(0,.pv (Yx xs)),(3,.own 0 u.length),(4,.pv (ag u.length))]) (fun u=> [some (.row 124 2 (u.map chR))]) (fun u=>u.length≤xs.length) (fun u=>xs.length - u.length) [] (Nat.zero_le _) (vm [24]) (fun u hu=>?_);refine wb (A2.mk ?_ ?_) <;> intros
 · have h2:u.length < xs.length:=by omega
   refine aB (x:=xs[u.length]) (by omega) (by simp[h2]) rfl ?_;refine wb ?_ <;> intros
   refine aB (x:=xs[u.length]) (by omega) (by simp[h2]) rfl ?_;refine wb ?_ <;> intros
   exact ai ⟨u++ [((IntKind.i64.wrap (xs[u.length].toNat:Int)).tmod 4,IntKind.i64.wrap ((IntKind.i64.wrap ((IntKind.i64.wrap (xs[u.length].toNat:Int)).tdiv 4)).tmod 5 - 1))],by rw[List.length_append];simp only[List.length_singleton];omega,by rw[List.length_append];simp only[List.length_singleton];omega,vm [169]⟩
 · have h2:u.length=xs.length:=by omega
   exact wt hR (.pv (.sl (u.map chR))) [(0,none)] ⟨_,h2,rfl⟩
def TrQ (K:Nat)(v:AV):Prop:=∃n ss es,v=rw_ (trR n ss es)∧1≤n∧n≤4∧ss.length≤60∧SiteOk n ss∧es.length≤K∧EvL n es
theorem QY (xs ys:List UInt8)(hx:xs.length≤1000)(hy:ys.length≤1000):jo Tryz.prog 9 [.pv (Yx xs),.pv (Yx ys)] (TrQ ys.length):=by
 refine wf Tryz.func9 (fun _=> []) (h:=fun R hR=>?_);refine wb ?_ <;> intros
 refine wF (VN xs hx) ?_;rintro v ⟨n,ss,cs,C,rfl⟩;refine wb ?_ <;> intros
 refine wF (JF ys hy) ?_;rintro v ⟨ch,hch,rfl⟩;refine wb ?_ <;> intros
 refine wF (VM n ss cs C ch (by omega)) ?_;rintro v ⟨tx,zs,es,rfl,h1,h2⟩;refine wb ?_ <;> intros
 exact wt hR (rw_ (trR n ss es)) [] ⟨_,_,_,rfl,C.n1,C.n4,C.s60,C.so,by omega,h2⟩
