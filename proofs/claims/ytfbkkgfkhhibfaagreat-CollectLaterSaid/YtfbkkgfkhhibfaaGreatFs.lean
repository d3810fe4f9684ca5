/- Words. -/
import Derived.Test.YtfbkkgfkhhibfaaGreatFp
set_option linter.unusedVariables false
set_option linter.unusedSimpArgs false
set_option maxRecDepth 20000
set_option maxHeartbeats 4000000
namespace AM
open Go Go.Proofs Mk
theorem TU (n k:Nat):lQ n (aQ k) 7 7=if iR (thNames n) (aQ k)<0 then 5 else 0:=by (have h1:iR bC (aQ k)= -1:=by obtain h|h|h|h:=uD k<;>(rw[h];rfl));have h2:iR yP (aQ k)= -1:=Tq k;have h3:xG n (aQ k)=if 0<=iR (thNames n) (aQ k) then 7 else 0:=(by unfold xG;rw[h1,h2];rfl);unfold lQ;rw[h3];split<;>split<;>first|rfl|omega|(simp_all;done)|(simp_all;omega)
attribute [local go_sem] yj nest
def akn:Nat->List (Nat×Nat):=λi=>if i=1 then [(3,7),(3,8),(7,8),(7,9)] else if i=8 then [(0,3),(0,5),(3,5),(4,5),(0,8),(3,8),(4,8),(5,8)] else if i=9 then [(0,3),(0,5),(3,5),(4,5),(0,8),(3,8),(4,8),(5,8),(0,9),(3,9),(4,9),(5,9),(0,10),(3,10),(4,10),(5,10),(0,12),(3,12),(4,12),(5,12),(8,12),(9,12),(10,12),(11,12),(0,15),(3,15),(4,15),(5,15),(8,15),(9,15),(10,15),(11,15),(12,15)] else if i=28 then [(2,4),(2,6),(4,6),(2,7)] else if i=37 then [(3,5)] else if i=39 then [(4,6)] else if i=45 then [(6,8)] else if i=47 then [(4,6)] else if i=49 then [(0,3),(0,5),(3,5),(4,5),(0,8),(3,8),(4,8),(5,8)] else []
abbrev afD (bs:List (List Sm))(t:Nat)(ar:List Sm)(sp st:List ByteArray)(s:Sm):Prop:=
 ACall Tryz.prog 142 [.ptr 0 0,rw_ (pM s)] (wOs bs t ar sp st) (λv g=>v= .pv (ag (jd bs.length t ar sp st s).1)/\g=wOg bs t ar (jd bs.length t ar sp st s).2.1 (jd bs.length t ar sp st s).2.2)
theorem afC (bs:List (List Sm))(hb:bs.length<=4)(t:Nat)(D:t<bs.length)(B:List Sm)(y st:List ByteArray)(ha:B.length<=100)(G:y.length<=100)(I:st.length<=100)(s:Sm):afD bs t B y st s:=by
 have H:=λa b nm=>U5 bs t B y st a b nm ha;have W:=λs a b=>KD bs hb t D s a b;have X:=ZG bs hb t D
 have E:∀l:Lf,FnEq Tryz.prog 170 [rw_ (Aa bs),.pv (ag t),rw_ (yj l)] (.pv (ag 0)):=λl=>by
  have:=X (.leaf l)
  cases l<;>exact this
 unfold afD;rw[eG];rcases s with ⟨k,e⟩|⟨i,e⟩|⟨e,b,c⟩|⟨e,b⟩|⟨_|_|_|_,b⟩|b|b|⟨_|_|_⟩|k|_|e|_
 all_goals
  simp only[Sm.op,Sm.name,Sm.arg,Sm.index,Sm.ex,Sm.body,Sm.els,O3,jd,rq,kH];refine wz Tryz.func142 akn (h:=λR d=>?_);refine wb ?_<;>intros;refine wq (H 7 7 _) [0,1,2,3] ?_;rintro r g ⟨rfl,rfl⟩;refine wb ?_<;>intros;refine wq (H 8 8 _) [0,1,2,3] ?_;rintro r g ⟨rfl,rfl⟩;refine wb ?_<;>intros;refine wq (H 3 3 _) [0,1,2,3] ?_;rintro r g ⟨rfl,rfl⟩
 refine wb ?_<;>intros;refine wE (W k.str 8 1) ?_;rw[TQ];refine wb ?_<;>intros;refine wE (X e) ?_;refine wb ?_<;>intros;refine wE (mD 0 0) ?_;refine wb ?_<;>intros;exact wo d _ _ [0,1,2,3,1,2,3] [] ⟨rfl,rfl⟩;refine wb ?_<;>intros;refine wE (W ⟨#[113]⟩ 2 2) ?_;rw[ZF];refine wb ?_<;>intros;refine aj (by omega) rfl rfl ?_;refine wb ?_<;>intros;refine wE (E i) ?_;refine wb ?_<;>intros;refine wE (X e) ?_;refine wb ?_<;>intros;refine wE (mD 0 0) ?_;refine wb ?_<;>intros;refine wE (mD 0 0) ?_;refine wb ?_<;>intros;exact wo d _ _ [0,1,2,3,1,2,3] [] ⟨rfl,rfl⟩
 iterate 2
  refine wb ?_<;>intros;refine wE (X e) ?_;refine wb ?_<;>intros;exact wo d _ _ [0,1,2,3,1,2,3] [] ⟨rfl,rfl⟩
 . refine wb ?_<;>intros;refine wE (W ⟨#[109]⟩ 3 3) ?_;rw[show lQ bs.length ⟨#[109]⟩ 3 3=0 from rfl];refine wb (A2.mk ?_ ?_)<;>intros;(iterate 6 all_goals first|((first|refine wE (eH _) ?_|refine wE (mD _ _) ?_|(refine wq (H _ _ _) [0,1,2,3] ?_;rintro r g ⟨rfl,rfl⟩));refine wb ?_<;>intros)|skip);all_goals exact wo d _ _ [0,1,2,3,1,2,3] [] ⟨rfl,rfl⟩
 . refine wb ?_<;>intros;refine wE (W ⟨#[110]⟩ 3 3) ?_;rw[show lQ bs.length ⟨#[110]⟩ 3 3=0 from rfl];refine wb (A2.mk ?_ ?_)<;>intros;(iterate 6 all_goals first|((first|refine wE (eH _) ?_|refine wE (mD _ _) ?_|(refine wq (H _ _ _) [0,1,2,3] ?_;rintro r g ⟨rfl,rfl⟩));refine wb ?_<;>intros)|skip);all_goals exact wo d _ _ [0,1,2,3,1,2,3] [] ⟨rfl,rfl⟩
 . refine wb ?_<;>intros;refine wE (W ⟨#[114]⟩ 4 4) ?_;rw[show lQ bs.length ⟨#[114]⟩ 4 4=0 from rfl];refine wb (A2.mk ?_ ?_)<;>intros;(iterate 6 all_goals first|((first|refine wE (eH _) ?_|refine wE (mD _ _) ?_|(refine wq (H _ _ _) [0,1,2,3] ?_;rintro r g ⟨rfl,rfl⟩));refine wb ?_<;>intros)|skip);all_goals exact wo d _ _ [0,1,2,3,1,2,3] [] ⟨rfl,rfl⟩
 . refine wb ?_<;>intros;refine wE (W ⟨#[114]⟩ 4 4) ?_;rw[show lQ bs.length ⟨#[114]⟩ 4 4=0 from rfl];refine wb (A2.mk ?_ ?_)<;>intros;(iterate 6 all_goals first|((first|refine wE (eH _) ?_|refine wE (mD _ _) ?_|(refine wq (H _ _ _) [0,1,2,3] ?_;rintro r g ⟨rfl,rfl⟩));refine wb ?_<;>intros)|skip);all_goals exact wo d _ _ [0,1,2,3,1,2,3] [] ⟨rfl,rfl⟩
 . refine wb ?_<;>intros;(iterate 6 all_goals first|((first|refine wE (eH _) ?_|refine wE (mD _ _) ?_|(refine wq (H _ _ _) [0,1,2,3] ?_;rintro r g ⟨rfl,rfl⟩));refine wb ?_<;>intros)|skip);all_goals exact wo d _ _ [0,1,2,3,1,2,3] [] ⟨rfl,rfl⟩
 . refine wb (A2.mk ?_ ?_)<;>intros;(iterate 6 all_goals first|((first|refine wE (eH _) ?_|refine wE (mD _ _) ?_|(refine wq (H _ _ _) [0,1,2,3] ?_;rintro r g ⟨rfl,rfl⟩));refine wb ?_<;>intros)|skip);all_goals exact wo d _ _ [0,1,2,3,1,2,3] [] ⟨rfl,rfl⟩
 . refine wb ?_<;>intros;refine wE (W ⟨#[99]⟩ 5 5) ?_;rw[show lQ bs.length ⟨#[99]⟩ 5 5=0 from rfl];refine wb ?_<;>intros;refine wE (fJ dL ⟨#[99]⟩ 7 (by decide) rfl) ?_;refine wb ?_<;>intros;refine aj (by omega) rfl rfl ?_;refine wb ?_<;>intros;refine wQ (H 4 4 ⟨#[109]⟩) [0,1,2,3] ⟨rfl,rfl⟩ ?_;rintro r g ⟨rfl,rfl⟩;refine wb (A2.mk ?_ (A2.mk ?_ ?_))<;>intros;(iterate 6 all_goals first|((first|refine wE (eH _) ?_|refine wE (mD _ _) ?_|(refine wq (H _ _ _) [0,1,2,3] ?_;rintro r g ⟨rfl,rfl⟩));refine wb ?_<;>intros)|skip);all_goals exact wo d _ _ [0,1,2,3,1,2,3] [] ⟨rfl,rfl⟩
 . refine wb ?_<;>intros;refine wE (W ⟨#[99]⟩ 5 5) ?_;rw[show lQ bs.length ⟨#[99]⟩ 5 5=0 from rfl];refine wb ?_<;>intros;refine wE (fJ dL ⟨#[99]⟩ 7 (by decide) rfl) ?_;refine wb ?_<;>intros;refine aj (by omega) rfl rfl ?_;refine wb ?_<;>intros;refine wQ (H 4 4 ⟨#[109]⟩) [0,1,2,3] ⟨rfl,rfl⟩ ?_;rintro r g ⟨rfl,rfl⟩;refine wb (A2.mk ?_ (A2.mk ?_ ?_))<;>intros;(iterate 6 all_goals first|((first|refine wE (eH _) ?_|refine wE (mD _ _) ?_|(refine wq (H _ _ _) [0,1,2,3] ?_;rintro r g ⟨rfl,rfl⟩));refine wb ?_<;>intros)|skip);all_goals exact wo d _ _ [0,1,2,3,1,2,3] [] ⟨rfl,rfl⟩
 . refine wb ?_<;>intros;refine wE (W ⟨#[99]⟩ 5 5) ?_;rw[show lQ bs.length ⟨#[99]⟩ 5 5=0 from rfl];refine wb ?_<;>intros;refine wE (fJ dL ⟨#[99]⟩ 7 (by decide) rfl) ?_;refine wb ?_<;>intros;refine aj (by omega) rfl rfl ?_;refine wb ?_<;>intros;refine wQ (H 4 4 ⟨#[109]⟩) [0,1,2,3] ⟨rfl,rfl⟩ ?_;rintro r g ⟨rfl,rfl⟩;refine wb (A2.mk ?_ (A2.mk ?_ ?_))<;>intros;(iterate 6 all_goals first|((first|refine wE (eH _) ?_|refine wE (mD _ _) ?_|(refine wq (H _ _ _) [0,1,2,3] ?_;rintro r g ⟨rfl,rfl⟩));refine wb ?_<;>intros)|skip);all_goals exact wo d _ _ [0,1,2,3,1,2,3] [] ⟨rfl,rfl⟩
 . refine wb ?_<;>intros;refine wE (W (aQ k) 7 7) ?_;rw[TU];generalize u:iR (thNames bs.length) (aQ k)=a at d|-;by_cases A:a<0;rw[if_pos A] at d|-;refine wb ?_<;>intros;exact wo d _ _ [0,1,2,3,1,2,3] [] ⟨rfl,rfl⟩;rw[if_neg A] at d|-;refine wb ?_<;>intros;refine wE (qV bs.zipIdx (aQ k) a (by simp;omega) (by rw[nO];exact u)) ?_;refine wb (A2.mk ?_ (A2.mk ?_ (A2.mk ?_ (A2.mk ?_ (A2.mk ?_ ?_)))))<;>intros;(all_goals first|exact wo d _ _ [0,1,2,3,1,2,3] [] ⟨rfl,rfl⟩|skip);refine wQ (Qj y (aQ k) (by omega)) [2] ⟨rfl,rfl⟩ ?_;rintro r g ⟨rfl,rfl⟩;generalize iR y (aQ k)=c at d|-;refine wb (A2.mk ?_ ?_)<;>intros;exact wo d _ _ [0,1,2,3,1,2,3] [] ⟨rfl,rfl⟩;exact wo d _ _ [0,1,2,3,1,756,3] [] ⟨rfl,rfl⟩
 . refine wb ?_<;>intros;refine wE (W (aQ 1) 7 7) ?_;rw[TU];generalize u:iR (thNames bs.length) (aQ 1)=a at d|-;refine wb (A2.mk ?_ (A2.mk ?_ ?_))<;>intros;(all_goals first|(refine wE (qV bs.zipIdx (aQ 1) a (by simp;omega) (by rw[nO];exact u)) ?_;refine wb ?_<;>intros)|skip);(iterate 6 all_goals first|((first|refine wE (eH _) ?_|refine wE (mD _ _) ?_|(refine wq (H _ _ _) [0,1,2,3] ?_;rintro r g ⟨rfl,rfl⟩));refine wb ?_<;>intros)|skip);all_goals exact wo d _ _ [0,1,2,3,1,2,3] [] ⟨rfl,rfl⟩
 . refine wb ?_<;>intros;refine wE (W ⟨#[102]⟩ 6 6) ?_;rw[show lQ bs.length ⟨#[102]⟩ 6 6=0 from rfl];generalize hc:iR st ⟨#[102]⟩=c at d;refine wb (A2.mk ?_ ?_)<;>intros;(iterate 6 all_goals first|((first|refine wE (eH _) ?_|refine wE (mD _ _) ?_);(first|(refine wb ?_<;>intros)|(refine wb (A2.mk ?_ ?_)<;>intros)))|skip);all_goals first|(refine wQ (Qj st ⟨#[102]⟩ (by omega)) [3] ⟨rfl,rfl⟩ ?_;rintro r g ⟨rfl,rfl⟩;rw[hc];refine wb (A2.mk ?_ ?_)<;>intros)|skip
   all_goals
    refine wE (X e) ?_;refine wb ?_<;>intros;refine wE (mD _ _) ?_;refine wb ?_<;>intros
   all_goals first|exact wo d _ _ [0,1,2,3,1,2,676] [] ⟨rfl,rfl⟩|exact wo d _ _ [0,1,2,3,1,2,684] [] ⟨rfl,rfl⟩
 . refine wb ?_<;>intros;refine wE (W ⟨#[97]⟩ 8 8) ?_;rw[show lQ bs.length ⟨#[97]⟩ 8 8=0 from rfl];refine wb ?_<;>intros;refine wE (W ⟨#[102]⟩ 6 6) ?_;rw[show lQ bs.length ⟨#[102]⟩ 6 6=0 from rfl];refine wb ?_<;>intros;(iterate 6 all_goals first|((first|refine wE (eH _) ?_|refine wE (mD _ _) ?_|(refine wq (H _ _ _) [0,1,2,3] ?_;rintro r g ⟨rfl,rfl⟩));refine wb ?_<;>intros)|skip);all_goals exact wo d _ _ [0,1,2,3,1,2,3] [] ⟨rfl,rfl⟩
end AM
namespace AM
open Go Go.Proofs Mk
def akj:Nat->List (Nat×Nat):=λi=>if i=10 then [(3,4),(8,12),(9,12)] else if i=14 then [(4,8)] else []
def apR (bs:List (List Sm))(t:Nat)(l:List Sm):Prop:=∀(ar:List Sm) (sp st:List ByteArray),ar.length<=10->sp.length+az l<=99->st.length+az l<=99->
 ACall Tryz.prog 106 [.ptr 0 0,.pv (Tt l)] (wOs bs t ar sp st) (λv g=>v= .tup [.pv (ag (allL bs.length t ar sp st l).1),.pv (ag 0)]/\g=wOg bs t ar (allL bs.length t ar sp st l).2.1 (allL bs.length t ar sp st l).2.2)
theorem zl:∀(l:List Sm) (i:Nat),az (l.drop i)<=az l
 | [],i=>by simp
 |s::r,0=>ax _
 |
  s::r,i+1=>by
  have:=zl r i
  simp only[Zm,az]
  omega
theorem ace (bs:List (List Sm))(hb:bs.length<=4)(t:Nat)(A:t<bs.length)(a:List Sm)(y st:List ByteArray)(ha:a.length<=100)(B:y.length<=100)(D:st.length<=100)(s:Sm)(e:Int)(d u:List ByteArray)(h:jd bs.length t a y st s=(e,d,u)):
 ACall Tryz.prog 142 [.ptr 0 0,rw_ (rM s.op s.name s.arg (s.index.map yj) (O3 s.ex) (s.body.map pM) (s.els.map pM))] (wOs bs t a y st) (λv g=>v= .pv (ag e)/\g=wOg bs t a d u):=by have:=afC bs hb t A a y st ha B D s;unfold afD at this;rwa [h,eG] at this
theorem Ol {β:Type}{z:β}{f:β->β} :∀(l:List β),(l++[z]).modify l.length f=l++[f z]
 | []=>rfl
 |
  a::r=>by
  have:=Ol (z:=z) (f:=f) r
  simp only[Dy,iO,YB,this]
theorem acf {α β:Type}{l:List α}{g:α->β}{z:β}{f:β->β} :(l.map g++[z]).modify l.length f=l.map g++[f z]:=by have h:=Ol (z:=z) (f:=f) (l.map g);rwa [gy] at h
theorem VN {α β:Type}{l:List α}{g:α->β}{r:List β} :List.take l.length (l.map g++r)=l.map g:=by rw[show l.length=(l.map g).length by simp,List.take_left'];rfl
theorem np1 {d:Nat} :((d+1:Nat):Int)-1=(d:Int):=by omega
attribute [local go_sem] eG acf VN np1
theorem afE (bs:List (List Sm))(hb:bs.length<=4)(t:Nat)(X:t<bs.length):∀(m:Nat) (l:List Sm),az l<m->apR bs t l:=by
 intro m;induction m with
 |zero=>intro l Y;omega
 |
  succ m ih=>
  intro l Y a J st ha Z hq;refine wz Tryz.func106 akj (h:=λR D=>?_);refine wb ?_<;>intros;refine wl (λu:Nat×List ByteArray×List ByteArray=> [(0,.ptr 0 0),(1,.pv (Tt l)),(6,.pv (ag u.1))]) (λu=>wOg bs t a u.2.1 u.2.2) (λu=>u.1<=l.length/\allL bs.length t a J st l=allL bs.length t a u.2.1 u.2.2 (l.drop u.1)/\u.2.1.length+az (l.drop u.1)<=99/\u.2.2.length+az (l.drop u.1)<=99) (λu=>l.length-u.1) (0,J,st) ⟨aG _,rfl,Z,hq⟩ (vm [0,1,2,3,1,2,3]) (λ⟨i,B,st1⟩ ⟨hi,y,E,G⟩=>?_);dsimp only at hi y E G;refine wb (A2.mk ?_ ?_)<;>intros
  . have h2:i<l.length:=(by omega);have H:=zl l i;have a6:=xE l;rw[oG h2] at y E G H;generalize hx:l[i]=x at y E G H;simp only[allL,az,lD] at y E G H;have hlen:=NQ bs.length t a B st1 x;have d:=I9 bs.length t a B st1 x;unfold I8 at d;generalize ho:jd bs.length t a B st1 x=r1 at hlen d;obtain⟨e1,A,st2⟩:=r1;dsimp only at hlen d;refine aB (x:=x) (by omega) (by simp[h2,hx]) (oO _) ?_;rw[eG];refine wb ?_<;>intros;refine wq (ace bs hb t X a B st1 (by omega) (by omega) (by omega) x e1 A st2 ho) [0,4,5,6] ?_;rintro r g ⟨rfl,rfl⟩;refine wb (A2.mk ?_ (A2.mk ?_ ?_))<;>intros
    . have L:allL bs.length t a J st l=(2,A,st2):=by
       rw[if_pos (show 6<a.length+1 by omega),if_pos (show (2:Int)≠0 by decide)] at d;rw[y,d,if_pos (show (2:Int)≠0 by decide)]
      rw[L] at D;exact wo D _ _ [0,1,2,3,103,104,105] [] ⟨rfl,rfl⟩
    . have L:allL bs.length t a J st l=(e1,A,st2):=by
       rw[if_neg (show¬6<a.length+1 by omega),if_pos ‹_›] at d;rw[y,d,if_pos ‹_›]
      rw[L] at D;exact wo D _ _ [0,1,2,3,103,104,105] [] ⟨rfl,rfl⟩
    rw[if_neg (show¬6<a.length+1 by omega),if_neg (show¬e1≠0 by omega)] at d;have N:=qx bs.length t (az x.body) x.body (ax _) (a++[x]) A st2;generalize hB:allL bs.length t (a++[x]) A st2 x.body=rb at d N;obtain⟨V,I,st3⟩:=rb;dsimp only at d N;refine wq (ih x.body (by omega) (a++[x]) A st2 (by simp;omega) (by omega) (by omega)) [0,247,104,105] ?_;rintro r g ⟨rfl,rfl⟩;rw[hB];refine wb (A2.mk ?_ ?_)<;>intros;rw[if_neg (show¬V≠0 by omega)] at d;have O:=qx bs.length t (az x.els) x.els (ax _) (a++[x]) I st3;generalize hC:allL bs.length t (a++[x]) I st3 x.els=rc at d O;obtain⟨e3,U,st4⟩:=rc;dsimp only at d O;rw[d] at y;dsimp only at y;refine wq (ih x.els (by omega) (a++[x]) I st3 (by simp;omega) (by omega) (by omega)) [0,319,320,321] ?_;rintro r g ⟨rfl,rfl⟩;rw[hC];refine wb (A2.mk ?_ ?_)<;>intros;rw[if_pos ‹_›] at y;rw[y] at D;exact wo D _ _ [0,1,2,3,543,408,409] [] ⟨rfl,rfl⟩;rw[if_neg (show¬e3≠0 by omega)] at y;refine sr_mark ⟨(i+1,U,st4),⟨h2,y,by dsimp only;omega,by dsimp only;omega⟩,by dsimp only;omega,vm [0,1,2,3,543,408,409]⟩;rw[if_pos ‹_›] at d;rw[d,if_pos (show V≠0 by omega)] at y;rw[y] at D;exact wo D _ _ [0,1,2,3,471,320,321] [] ⟨rfl,rfl⟩
  . have L:allL bs.length t a J st l=(0,B,st1):=by
     rw[y,ku (by omega)];rfl
    rw[L] at D;exact wo D _ _ [0,1,2,3,4,5,6] [] ⟨rfl,rfl⟩
end AM
namespace AM
open Go Go.Proofs Mk
theorem uN:∀(bs:List (List Sm)) (i:Nat) (h:i<bs.length),fD (bs.take (i+1))=fD (bs.take i)+az bs[i]
 |b::r,0,_=>by simp[fD]
 |
  b::r,i+1,h=>by
  have:=uN r i (by simpa using h)
  simp only[Kt,fD,Q3,this]
  omega
theorem uM:∀(bs:List (List Sm)) (i:Nat),fD (bs.take i)<=fD bs
 | [],i=>by simp
 |b::r,0=>by simp[fD]
 |
  b::r,i+1=>by
  have:=uM r i
  simp only[Kt,fD]
  omega
attribute [local go_sem] List.set_cons_zero List.set_cons_succ
theorem Ov (bs:List (List Sm))(h0:0<bs.length)(hb:bs.length<=4)(hs:∀b∈bs,ShL b)(hc:fD bs<=100000):FnEq Tryz.prog 68 [rw_ (Aa bs)] (.tup [.pv (ag (pO bs)),.pv (ag 0)]):=by
 refine wf Tryz.func68 (λ_=> []) (h:=λR d=>?_);refine wb ?_<;>intros;refine wE (UK bs h0 hb hs) ?_;refine wb ?_<;>intros;refine wE UL ?_;refine wb ?_<;>intros;refine wE (MZ bs hb) ?_;refine wb ?_<;>intros;refine wl (λi:Nat=> [(1,.ptr 0 0),(8,.pv (ag (fD (bs.take i)))),(9,.pv (ag i))]) (λ_=> [some (.box ((Aa bs).map .pv))]) (λi=>i<=bs.length) (λi=>bs.length-i) 0 (aG _) (vm [0]) (λi hi=>?_);have hle:=uM bs i;refine wb (A2.mk ?_ (A2.mk ?_ ?_))<;>intros;have h2:i<bs.length:=(by omega);have J:=uN bs i h2;have H:=uM bs (i+1);refine aB (x:=(bs[i],i)) (by omega) (by simp<;>omega) rfl ?_;refine wb ?_<;>intros;refine wE (Na (az bs[i]) bs[i] (ax _) (by omega)) ?_;refine wb ?_<;>intros;exact sr_mark ⟨i+1,by omega,by omega,vm [0]⟩
 . rw[xM (by omega)] at *
   have y:pO bs=2:=(by unfold pO;rw[if_pos (by omega)]);rw[y] at d;exact wr d
 have y:pO bs=MO bs.length 0 [] [] bs:=by
  unfold pO;rw[if_neg];rw[xM (by omega)] at *
  omega
 rw[y] at d;have I:fD bs<=60:=by
  rw[xM (by omega)] at *
  omega
 clear y hle;refine sr_ghost 73 3 196 11 rfl rfl ?_;refine sr_ghost 73 4 9 1 rfl rfl ?_;refine sr_ghost 73 5 9 1 rfl rfl ?_;refine wl (λu:Nat×Nat×List ByteArray×List ByteArray=> [(1,.ptr 0 0),(10,.ptr 1 0),(11,.pv (ag u.1))]) (λu=> [some (.box ((Aa bs).map .pv)),some (aeQ bs u.2.1 2 3 4 [] u.2.2.1 u.2.2.2),some (Yr []),some (JA u.2.2.1),some (JA u.2.2.2)]) (λu=>u.1<=bs.length/\MO bs.length 0 [] [] bs=MO bs.length u.1 u.2.2.1 u.2.2.2 (bs.drop u.1)/\u.2.2.1.length+fD (bs.drop u.1)<=99/\u.2.2.2.length+fD (bs.drop u.1)<=99) (λu=>bs.length-u.1) (0,0,[],[]) ⟨aG _,rfl,by simp;omega,by simp;omega⟩ (vm [0,73,97,98,99]) (λ⟨i,t,D,st⟩ ⟨hi,a,A,B⟩=>?_);dsimp only at hi a A B;refine wb (A2.mk ?_ ?_)<;>intros;have h2:i<bs.length:=(by omega);rw[oG h2] at a A B;generalize hx:bs[i]=b at a A B;simp only[MO,fD] at a A B;have hlen:=qx bs.length i (az b) b (ax _) [] D st;generalize ha:allL bs.length i [] D st b=ra at a hlen;obtain⟨e,E,G⟩:=ra;dsimp only at a hlen;refine aB (x:=(b,i)) (by omega) (by simp[h2,hx]) rfl ?_;refine wb ?_<;>intros;refine wq (afE bs hb i h2 (az b+1) b (by omega) [] D st (by simp) (by omega) (by omega)) [1,2,3,4] ?_;rintro r g ⟨rfl,rfl⟩;rw[ha];refine wb (A2.mk ?_ ?_)<;>intros;rw[if_pos ‹_›] at a;rw[a] at d;exact wr d;rw[if_neg (by simpa using ‹e=0›)] at a;refine sr_mark ⟨(i+1,i,E,G),⟨h2,a,by dsimp only;omega,by dsimp only;omega⟩,by dsimp only;omega,vm [0,1,141,142,143]⟩;rw[a,ku (by omega)] at d;exact wr d
