/- Words. -/
import Derived.Test.YtfbkkgfkhhibfaaGreatFp
import Derived.Test.YtfbkkgfkhhibfaaGreatFh
set_option linter.unusedVariables false
set_option linter.unusedSimpArgs false
namespace AM
open Go Go.Proofs Mk
set_option maxRecDepth 20000
set_option maxHeartbeats 4000000
theorem Ol (n k:Nat):jK n (aO k) 7 7=if fU (thNames n) (aO k) < 0 then 5 else 0:=by
 have h1:fU aZ (aO k)= -1:=by obtain h | h | h | h:=pV k <;> (rw[h];rfl)
 have h2:fU tY (aO k)= -1:=NL k
 have h3:rP n (aO k)=if 0≤fU (thNames n) (aO k) then 7 else 0:=by
  unfold rP;rw[h1,h2];rfl
 unfold jK;rw[h3];split <;> split <;> first | rfl | omega | (simp_all;done) | (simp_all;omega)
attribute [local go_sem] sV nest
def agi:Nat→List (Nat×Nat):=fun i=>if i=1 then [(3,7),(3,8),(7,8),(7,9)] else if i=8 then [(0,3),(0,5),(3,5),(4,5),(0,8),(3,8),(4,8),(5,8)] else if i=9 then [(0,3),(0,5),(3,5),(4,5),(0,8),(3,8),(4,8),(5,8),(0,9),(3,9),(4,9),(5,9),(0,10),(3,10),(4,10),(5,10),(0,12),(3,12),(4,12),(5,12),(8,12),(9,12),(10,12),(11,12),(0,15),(3,15),(4,15),(5,15),(8,15),(9,15),(10,15),(11,15),(12,15)] else if i=28 then [(2,4),(2,6),(4,6),(2,7)] else if i=37 then [(3,5)] else if i=39 then [(4,6)] else if i=45 then [(6,8)] else if i=47 then [(4,6)] else if i=49 then [(0,3),(0,5),(3,5),(4,5),(0,8),(3,8),(4,8),(5,8)] else []
abbrev abL (bs:List (List Sm))(t:Nat)(ar:List Sm)(sp st:List ByteArray)(s:Sm):Prop:=
 ACall Tryz.prog 142 [.ptr 0 0,rw_ (lS s)] (YS bs t ar sp st) (fun v g=>v= .pv (ag (gG bs.length t ar sp st s).1)∧g=wOg bs t ar (gG bs.length t ar sp st s).2.1 (gG bs.length t ar sp st s).2.2)
theorem abK (bs:List (List Sm))(hb:bs.length≤4)(t:Nat)(ht:t < bs.length)(ar:List Sm)(sp st:List ByteArray)(ha:ar.length≤100)(hp:sp.length≤100)(hq:st.length≤100)(s:Sm):abL bs t ar sp st s:=by
 have H:=fun a b nm=>PD bs t ar sp st a b nm ha
 have W:=fun s a b=>EY bs hb t ht s a b
 have X:=U7 bs hb t ht
 have XL:∀l:Lf,FnEq Tryz.prog 170 [rw_ (uY bs),.pv (ag t),rw_ (sV l)] (.pv (ag 0)):=fun l=>by
  have:=X (.leaf l)
  cases l <;> exact this
 unfold abL;rw[dJ];rcases s with ⟨k,e⟩ | ⟨i,e⟩ | ⟨e,b,c⟩ | ⟨e,b⟩ | ⟨_ | _ | _ | _,b⟩ | b | b | ⟨_ | _ | _⟩ | k | _ | e | _
 all_goals
  simp only[Sm.op,Sm.name,Sm.arg,Sm.index,Sm.ex,Sm.body,Sm.els,Jv,gG,List.map_nil,List.map_cons];refine wz Tryz.func142 agi (h:=fun R hR=>?_);refine wb ?_ <;> intros
  refine wq (H 7 7 _) [0,1,2,3] ?_;rintro r g ⟨rfl,rfl⟩;refine wb ?_ <;> intros
  refine wq (H 8 8 _) [0,1,2,3] ?_;rintro r g ⟨rfl,rfl⟩;refine wb ?_ <;> intros
  refine wq (H 3 3 _) [0,1,2,3] ?_;rintro r g ⟨rfl,rfl⟩
 · refine wb ?_ <;> intros
   refine wE (W k.str 8 1) ?_;rw[Og];refine wb ?_ <;> intros
   refine wE (X e) ?_;refine wb ?_ <;> intros
   refine wE (jR 0 0) ?_;refine wb ?_ <;> intros
   exact wo hR _ _ [0,1,2,3,1,2,3] [] ⟨rfl,rfl⟩
 · refine wb ?_ <;> intros
   refine wE (W ⟨#[113]⟩ 2 2) ?_;rw[U6];refine wb ?_ <;> intros
   refine au (by omega) rfl rfl ?_;refine wb ?_ <;> intros
   refine wE (XL i) ?_;refine wb ?_ <;> intros
   refine wE (X e) ?_;refine wb ?_ <;> intros
   refine wE (jR 0 0) ?_;refine wb ?_ <;> intros
   refine wE (jR 0 0) ?_;refine wb ?_ <;> intros
   exact wo hR _ _ [0,1,2,3,1,2,3] [] ⟨rfl,rfl⟩
 iterate 2
  · refine wb ?_ <;> intros
    refine wE (X e) ?_;refine wb ?_ <;> intros
    exact wo hR _ _ [0,1,2,3,1,2,3] [] ⟨rfl,rfl⟩
 · refine wb ?_ <;> intros
   refine wE (W ⟨#[109]⟩ 3 3) ?_;rw[show jK bs.length ⟨#[109]⟩ 3 3=0 from rfl];refine wb (A2.mk ?_ ?_) <;> intros
   iterate 6 all_goals first | ((first | refine wE (dK _) ?_ | refine wE (jR _ _) ?_ | (refine wq (H _ _ _) [0,1,2,3] ?_;rintro r g ⟨rfl,rfl⟩));refine wb ?_ <;> intros) | skip
   all_goals exact wo hR _ _ [0,1,2,3,1,2,3] [] ⟨rfl,rfl⟩
 · refine wb ?_ <;> intros
   refine wE (W ⟨#[110]⟩ 3 3) ?_;rw[show jK bs.length ⟨#[110]⟩ 3 3=0 from rfl];refine wb (A2.mk ?_ ?_) <;> intros
   iterate 6 all_goals first | ((first | refine wE (dK _) ?_ | refine wE (jR _ _) ?_ | (refine wq (H _ _ _) [0,1,2,3] ?_;rintro r g ⟨rfl,rfl⟩));refine wb ?_ <;> intros) | skip
   all_goals exact wo hR _ _ [0,1,2,3,1,2,3] [] ⟨rfl,rfl⟩
 · refine wb ?_ <;> intros
   refine wE (W ⟨#[114]⟩ 4 4) ?_;rw[show jK bs.length ⟨#[114]⟩ 4 4=0 from rfl];refine wb (A2.mk ?_ ?_) <;> intros
   iterate 6 all_goals first | ((first | refine wE (dK _) ?_ | refine wE (jR _ _) ?_ | (refine wq (H _ _ _) [0,1,2,3] ?_;rintro r g ⟨rfl,rfl⟩));refine wb ?_ <;> intros) | skip
   all_goals exact wo hR _ _ [0,1,2,3,1,2,3] [] ⟨rfl,rfl⟩
 · refine wb ?_ <;> intros
   refine wE (W ⟨#[114]⟩ 4 4) ?_;rw[show jK bs.length ⟨#[114]⟩ 4 4=0 from rfl];refine wb (A2.mk ?_ ?_) <;> intros
   iterate 6 all_goals first | ((first | refine wE (dK _) ?_ | refine wE (jR _ _) ?_ | (refine wq (H _ _ _) [0,1,2,3] ?_;rintro r g ⟨rfl,rfl⟩));refine wb ?_ <;> intros) | skip
   all_goals exact wo hR _ _ [0,1,2,3,1,2,3] [] ⟨rfl,rfl⟩
 · refine wb ?_ <;> intros
   iterate 6 all_goals first | ((first | refine wE (dK _) ?_ | refine wE (jR _ _) ?_ | (refine wq (H _ _ _) [0,1,2,3] ?_;rintro r g ⟨rfl,rfl⟩));refine wb ?_ <;> intros) | skip
   all_goals exact wo hR _ _ [0,1,2,3,1,2,3] [] ⟨rfl,rfl⟩
 · refine wb (A2.mk ?_ ?_) <;> intros
   iterate 6 all_goals first | ((first | refine wE (dK _) ?_ | refine wE (jR _ _) ?_ | (refine wq (H _ _ _) [0,1,2,3] ?_;rintro r g ⟨rfl,rfl⟩));refine wb ?_ <;> intros) | skip
   all_goals exact wo hR _ _ [0,1,2,3,1,2,3] [] ⟨rfl,rfl⟩
 · refine wb ?_ <;> intros
   refine wE (W ⟨#[99]⟩ 5 5) ?_;rw[show jK bs.length ⟨#[99]⟩ 5 5=0 from rfl];refine wb ?_ <;> intros
   refine wE (dV dL ⟨#[99]⟩ 7 (by decide) rfl) ?_;refine wb ?_ <;> intros
   refine au (by omega) rfl rfl ?_;refine wb ?_ <;> intros
   refine wQ (H 4 4 ⟨#[109]⟩) [0,1,2,3] ⟨rfl,rfl⟩ ?_;rintro r g ⟨rfl,rfl⟩;refine wb (A2.mk ?_ (A2.mk ?_ ?_)) <;> intros
   iterate 6 all_goals first | ((first | refine wE (dK _) ?_ | refine wE (jR _ _) ?_ | (refine wq (H _ _ _) [0,1,2,3] ?_;rintro r g ⟨rfl,rfl⟩));refine wb ?_ <;> intros) | skip
   all_goals exact wo hR _ _ [0,1,2,3,1,2,3] [] ⟨rfl,rfl⟩
 · refine wb ?_ <;> intros
   refine wE (W ⟨#[99]⟩ 5 5) ?_;rw[show jK bs.length ⟨#[99]⟩ 5 5=0 from rfl];refine wb ?_ <;> intros
   refine wE (dV dL ⟨#[99]⟩ 7 (by decide) rfl) ?_;refine wb ?_ <;> intros
   refine au (by omega) rfl rfl ?_;refine wb ?_ <;> intros
   refine wQ (H 4 4 ⟨#[109]⟩) [0,1,2,3] ⟨rfl,rfl⟩ ?_;rintro r g ⟨rfl,rfl⟩;refine wb (A2.mk ?_ (A2.mk ?_ ?_)) <;> intros
   iterate 6 all_goals first | ((first | refine wE (dK _) ?_ | refine wE (jR _ _) ?_ | (refine wq (H _ _ _) [0,1,2,3] ?_;rintro r g ⟨rfl,rfl⟩));refine wb ?_ <;> intros) | skip
   all_goals exact wo hR _ _ [0,1,2,3,1,2,3] [] ⟨rfl,rfl⟩
 · refine wb ?_ <;> intros
   refine wE (W ⟨#[99]⟩ 5 5) ?_;rw[show jK bs.length ⟨#[99]⟩ 5 5=0 from rfl];refine wb ?_ <;> intros
   refine wE (dV dL ⟨#[99]⟩ 7 (by decide) rfl) ?_;refine wb ?_ <;> intros
   refine au (by omega) rfl rfl ?_;refine wb ?_ <;> intros
   refine wQ (H 4 4 ⟨#[109]⟩) [0,1,2,3] ⟨rfl,rfl⟩ ?_;rintro r g ⟨rfl,rfl⟩;refine wb (A2.mk ?_ (A2.mk ?_ ?_)) <;> intros
   iterate 6 all_goals first | ((first | refine wE (dK _) ?_ | refine wE (jR _ _) ?_ | (refine wq (H _ _ _) [0,1,2,3] ?_;rintro r g ⟨rfl,rfl⟩));refine wb ?_ <;> intros) | skip
   all_goals exact wo hR _ _ [0,1,2,3,1,2,3] [] ⟨rfl,rfl⟩
 · refine wb ?_ <;> intros
   refine wE (W (aO k) 7 7) ?_;rw[Ol];generalize hth:fU (thNames bs.length) (aO k)=a at hR⊢;by_cases ha0:a < 0
   · rw[if_pos ha0] at hR⊢;refine wb ?_ <;> intros
     exact wo hR _ _ [0,1,2,3,1,2,3] [] ⟨rfl,rfl⟩
   rw[if_neg ha0] at hR⊢;refine wb ?_ <;> intros
   refine wE (ng bs.zipIdx (aO k) a (by simp;omega) (by rw[kR];exact hth)) ?_;refine wb (A2.mk ?_ (A2.mk ?_ (A2.mk ?_ (A2.mk ?_ (A2.mk ?_ ?_))))) <;> intros
   all_goals first | exact wo hR _ _ [0,1,2,3,1,2,3] [] ⟨rfl,rfl⟩ | skip
   refine wQ (KA sp (aO k) (by omega)) [2] ⟨rfl,rfl⟩ ?_;rintro r g ⟨rfl,rfl⟩;generalize fU sp (aO k)=c at hR⊢;refine wb (A2.mk ?_ ?_) <;> intros
   · exact wo hR _ _ [0,1,2,3,1,2,3] [] ⟨rfl,rfl⟩
   exact wo hR _ _ [0,1,2,3,1,756,3] [] ⟨rfl,rfl⟩
 · refine wb ?_ <;> intros
   refine wE (W (aO 1) 7 7) ?_;rw[Ol];generalize hth:fU (thNames bs.length) (aO 1)=a at hR⊢;refine wb (A2.mk ?_ (A2.mk ?_ ?_)) <;> intros
   all_goals first | (refine wE (ng bs.zipIdx (aO 1) a (by simp;omega) (by rw[kR];exact hth)) ?_;refine wb ?_ <;> intros) | skip
   iterate 6 all_goals first | ((first | refine wE (dK _) ?_ | refine wE (jR _ _) ?_ | (refine wq (H _ _ _) [0,1,2,3] ?_;rintro r g ⟨rfl,rfl⟩));refine wb ?_ <;> intros) | skip
   all_goals exact wo hR _ _ [0,1,2,3,1,2,3] [] ⟨rfl,rfl⟩
 · refine wb ?_ <;> intros
   refine wE (W ⟨#[102]⟩ 6 6) ?_;rw[show jK bs.length ⟨#[102]⟩ 6 6=0 from rfl];generalize hc:fU st ⟨#[102]⟩=c at hR;refine wb (A2.mk ?_ ?_) <;> intros
   iterate 6 all_goals first | ((first | refine wE (dK _) ?_ | refine wE (jR _ _) ?_);(first | (refine wb ?_ <;> intros) | (refine wb (A2.mk ?_ ?_) <;> intros))) | skip
   all_goals first | (refine wQ (KA st ⟨#[102]⟩ (by omega)) [3] ⟨rfl,rfl⟩ ?_;rintro r g ⟨rfl,rfl⟩;rw[hc];refine wb (A2.mk ?_ ?_) <;> intros) | skip
   all_goals
    refine wE (X e) ?_;refine wb ?_ <;> intros
    refine wE (jR _ _) ?_;refine wb ?_ <;> intros
   all_goals first | exact wo hR _ _ [0,1,2,3,1,2,676] [] ⟨rfl,rfl⟩ | exact wo hR _ _ [0,1,2,3,1,2,684] [] ⟨rfl,rfl⟩
 · refine wb ?_ <;> intros
   refine wE (W ⟨#[97]⟩ 8 8) ?_;rw[show jK bs.length ⟨#[97]⟩ 8 8=0 from rfl];refine wb ?_ <;> intros
   refine wE (W ⟨#[102]⟩ 6 6) ?_;rw[show jK bs.length ⟨#[102]⟩ 6 6=0 from rfl];refine wb ?_ <;> intros
   iterate 6 all_goals first | ((first | refine wE (dK _) ?_ | refine wE (jR _ _) ?_ | (refine wq (H _ _ _) [0,1,2,3] ?_;rintro r g ⟨rfl,rfl⟩));refine wb ?_ <;> intros) | skip
   all_goals exact wo hR _ _ [0,1,2,3,1,2,3] [] ⟨rfl,rfl⟩
end AM
namespace AM
open Go Go.Proofs Mk
set_option maxRecDepth 20000
set_option maxHeartbeats 4000000
def agd:Nat→List (Nat×Nat):=fun i=>if i=10 then [(3,4),(8,12),(9,12)] else if i=14 then [(4,8)] else []
def alL (bs:List (List Sm))(t:Nat)(l:List Sm):Prop:=∀(ar:List Sm) (sp st:List ByteArray),ar.length≤10→sp.length+az l≤99→st.length+az l≤99→
 ACall Tryz.prog 106 [.ptr 0 0,.pv (NM l)] (YS bs t ar sp st) (fun v g=>v= .tup [.pv (ag (allL bs.length t ar sp st l).1),.pv (ag 0)]∧g=wOg bs t ar (allL bs.length t ar sp st l).2.1 (allL bs.length t ar sp st l).2.2)
theorem uz:∀(l:List Sm) (i:Nat),az (l.drop i)≤az l
 | [],i=>by simp
 | s :: r,0=>Nat.le_refl _
 |
  s :: r,i+1=>by
  have:=uz r i
  simp only[List.drop_succ_cons,az]
  omega
theorem XW (bs:List (List Sm))(hb:bs.length≤4)(t:Nat)(ht:t < bs.length)(ar:List Sm)(sp st:List ByteArray)(ha:ar.length≤100)(hp:sp.length≤100)(hq:st.length≤100)(s:Sm)(e:Int)(sp' st':List ByteArray)(h:gG bs.length t ar sp st s=(e,sp',st')):
 ACall Tryz.prog 142 [.ptr 0 0,rw_ (nR s.op s.name s.arg (s.index.map sV) (Jv s.ex) (s.body.map lS) (s.els.map lS))] (YS bs t ar sp st) (fun v g=>v= .pv (ag e)∧g=wOg bs t ar sp' st'):=by
 have:=abK bs hb t ht ar sp st ha hp hq s;unfold abL at this;rwa [h,dJ] at this
theorem IJ {β:Type}{z:β}{f:β→β} :∀(l:List β),(l++ [z]).modify l.length f=l++ [f z]
 | []=>rfl
 |
  a :: r=>by
  have:=IJ (z:=z) (f:=f) r
  simp only[List.cons_append,List.length_cons,List.modify_succ_cons,this]
theorem XX {α β:Type}{l:List α}{g:α→β}{z:β}{f:β→β} :(l.map g++ [z]).modify l.length f=l.map g++ [f z]:=by
 have h:=IJ (z:=z) (f:=f) (l.map g);rwa [List.length_map] at h
theorem Qq {α β:Type}{l:List α}{g:α→β}{r:List β} :List.take l.length (l.map g++r)=l.map g:=by
 rw[show l.length=(l.map g).length by simp,List.take_left'];rfl
theorem np1 {d:Nat} :((d+1:Nat):Int) - 1=(d:Int):=by omega
attribute [local go_sem] dJ XX Qq np1
theorem abM (bs:List (List Sm))(hb:bs.length≤4)(t:Nat)(ht:t < bs.length):∀(m:Nat) (l:List Sm),az l < m→alL bs t l:=by
 intro m;induction m with
 | zero=>intro l hl;omega
 |
  succ m ih=>
  intro l hl ar sp st ha hp hq;refine wz Tryz.func106 agd (h:=fun R hR=>?_);refine wb ?_ <;> intros
  refine wl (fun u:Nat×List ByteArray×List ByteArray=> [(0,.ptr 0 0),(1,.pv (NM l)),(6,.pv (ag u.1))]) (fun u=>wOg bs t ar u.2.1 u.2.2) (fun u=>u.1≤l.length∧allL bs.length t ar sp st l=allL bs.length t ar u.2.1 u.2.2 (l.drop u.1)∧u.2.1.length+az (l.drop u.1)≤99∧u.2.2.length+az (l.drop u.1)≤99) (fun u=>l.length - u.1) (0,sp,st) ⟨Nat.zero_le _,rfl,hp,hq⟩ (vm [0,1,2,3,1,2,3]) (fun ⟨i,sp1,st1⟩ ⟨hi,hd,hp1,hq1⟩=>?_);dsimp only at hi hd hp1 hq1;refine wb (A2.mk ?_ ?_) <;> intros
  · have h2:i < l.length:=by omega
    have hcd:=uz l i;have hll:=rO l;rw[List.drop_eq_getElem_cons h2] at hd hp1 hq1 hcd;generalize hx:l[i]=x at hd hp1 hq1 hcd;simp only[allL,az,jG] at hd hp1 hq1 hcd;have hlen:=Ii bs.length t ar sp1 st1 x;have hS:=DT bs.length t ar sp1 st1 x;unfold DN at hS;generalize ho:gG bs.length t ar sp1 st1 x=r1 at hlen hS;obtain⟨e1,sp2,st2⟩:=r1;dsimp only at hlen hS;refine aB (x:=x) (by omega) (by simp[h2,hx]) (lC _) ?_;rw[dJ];refine wb ?_ <;> intros
    refine wq (XW bs hb t ht ar sp1 st1 (by omega) (by omega) (by omega) x e1 sp2 st2 ho) [0,4,5,6] ?_;rintro r g ⟨rfl,rfl⟩;refine wb (A2.mk ?_ (A2.mk ?_ ?_)) <;> intros
    · have hz:allL bs.length t ar sp st l=(2,sp2,st2):=by
       rw[if_pos (show 6 < ar.length+1 by omega),if_pos (show (2:Int)≠0 by decide)] at hS;rw[hd,hS,if_pos (show (2:Int)≠0 by decide)]
      rw[hz] at hR;exact wo hR _ _ [0,1,2,3,103,104,105] [] ⟨rfl,rfl⟩
    · have hz:allL bs.length t ar sp st l=(e1,sp2,st2):=by
       rw[if_neg (show¬6 < ar.length+1 by omega),if_pos ‹_›] at hS;rw[hd,hS,if_pos ‹_›]
      rw[hz] at hR;exact wo hR _ _ [0,1,2,3,103,104,105] [] ⟨rfl,rfl⟩
    · rw[if_neg (show¬6 < ar.length+1 by omega),if_neg (show¬e1≠0 by omega)] at hS;have hl2:=mg bs.length t (az x.body) x.body (Nat.le_refl _) (ar++ [x]) sp2 st2;generalize hB:allL bs.length t (ar++ [x]) sp2 st2 x.body=rb at hS hl2;obtain⟨e2,sp3,st3⟩:=rb;dsimp only at hS hl2;refine wq (ih x.body (by omega) (ar++ [x]) sp2 st2 (by simp;omega) (by omega) (by omega)) [0,247,104,105] ?_;rintro r g ⟨rfl,rfl⟩;rw[hB];refine wb (A2.mk ?_ ?_) <;> intros
      · rw[if_neg (show¬e2≠0 by omega)] at hS;have hl3:=mg bs.length t (az x.els) x.els (Nat.le_refl _) (ar++ [x]) sp3 st3;generalize hC:allL bs.length t (ar++ [x]) sp3 st3 x.els=rc at hS hl3;obtain⟨e3,sp4,st4⟩:=rc;dsimp only at hS hl3;rw[hS] at hd;dsimp only at hd;refine wq (ih x.els (by omega) (ar++ [x]) sp3 st3 (by simp;omega) (by omega) (by omega)) [0,319,320,321] ?_;rintro r g ⟨rfl,rfl⟩;rw[hC];refine wb (A2.mk ?_ ?_) <;> intros
        · rw[if_pos ‹_›] at hd;rw[hd] at hR;exact wo hR _ _ [0,1,2,3,543,408,409] [] ⟨rfl,rfl⟩
        · rw[if_neg (show¬e3≠0 by omega)] at hd;refine ai ⟨(i+1,sp4,st4),⟨h2,hd,by dsimp only;omega,by dsimp only;omega⟩,by dsimp only;omega,vm [0,1,2,3,543,408,409]⟩
      · rw[if_pos ‹_›] at hS;rw[hS,if_pos (show e2≠0 by omega)] at hd;rw[hd] at hR;exact wo hR _ _ [0,1,2,3,471,320,321] [] ⟨rfl,rfl⟩
  · have hz:allL bs.length t ar sp st l=(0,sp1,st1):=by
     rw[hd,List.drop_eq_nil_of_le (by omega)];rfl
    rw[hz] at hR;exact wo hR _ _ [0,1,2,3,4,5,6] [] ⟨rfl,rfl⟩
end AM
namespace AM
open Go Go.Proofs Mk
set_option maxRecDepth 20000
set_option maxHeartbeats 4000000
theorem qi:∀(bs:List (List Sm)) (i:Nat) (h:i < bs.length),dP (bs.take (i+1))=dP (bs.take i)+az bs[i]
 | b :: r,0,_=>by simp[dP]
 |
  b :: r,i+1,h=>by
  have:=qi r i (by simpa using h)
  simp only[List.take_succ_cons,dP,List.getElem_cons_succ,this]
  omega
theorem qh:∀(bs:List (List Sm)) (i:Nat),dP (bs.take i)≤dP bs
 | [],i=>by simp
 | b :: r,0=>by simp[dP]
 |
  b :: r,i+1=>by
  have:=qh r i
  simp only[List.take_succ_cons,dP]
  omega
attribute [local go_sem] List.set_cons_zero List.set_cons_succ
theorem IU (bs:List (List Sm))(h0:0 < bs.length)(hb:bs.length≤4)(hs:∀b∈bs,WJ b)(hc:dP bs≤100000):FnEq Tryz.prog 68 [rw_ (uY bs)] (.tup [.pv (ag (lT bs)),.pv (ag 0)]):=by
 refine wf Tryz.func68 (fun _=> []) (h:=fun R hR=>?_);refine wb ?_ <;> intros
 refine wE (O4 bs h0 hb hs) ?_;refine wb ?_ <;> intros
 refine wE O5 ?_;refine wb ?_ <;> intros
 refine wE (G9 bs hb) ?_;refine wb ?_ <;> intros
 refine wl (fun i:Nat=> [(1,.ptr 0 0),(8,.pv (ag (dP (bs.take i)))),(9,.pv (ag i))]) (fun _=> [some (.box ((uY bs).map .pv))]) (fun i=>i≤bs.length) (fun i=>bs.length - i) 0 (Nat.zero_le _) (vm [0]) (fun i hi=>?_);have hle:=qh bs i;refine wb (A2.mk ?_ (A2.mk ?_ ?_)) <;> intros
 · have h2:i < bs.length:=by omega
   have ht:=qi bs i h2;have hle2:=qh bs (i+1);refine aB (x:=(bs[i],i)) (by omega) (by simp <;> omega) rfl ?_
   refine wb ?_ <;> intros
   refine wE (Ha (az bs[i]) bs[i] (Nat.le_refl _) (by omega)) ?_;refine wb ?_ <;> intros
   exact ai ⟨i+1,by omega,by omega,vm [0]⟩
 · rw[List.take_of_length_le (by omega)] at *
   have hz:lT bs=2:=by unfold lT;rw[if_pos (by omega)]
   rw[hz] at hR;exact wr hR
 have hz:lT bs=GU bs.length 0 [] [] bs:=by
  unfold lT;rw[if_neg];rw[List.take_of_length_le (by omega)] at *
  omega
 rw[hz] at hR
 have aqS:dP bs≤60:=by
  rw[List.take_of_length_le (by omega)] at *
  omega
 clear hz hle;refine dh 73 3 196 11 rfl rfl ?_;refine dh 73 4 9 1 rfl rfl ?_;refine dh 73 5 9 1 rfl rfl ?_;refine wl (fun u:Nat×Nat×List ByteArray×List ByteArray=> [(1,.ptr 0 0),(10,.ptr 1 0),(11,.pv (ag u.1))]) (fun u=> [some (.box ((uY bs).map .pv)),some (aaR bs u.2.1 2 3 4 [] u.2.2.1 u.2.2.2),some (TS []),some (Eg u.2.2.1),some (Eg u.2.2.2)]) (fun u=>u.1≤bs.length∧GU bs.length 0 [] [] bs=GU bs.length u.1 u.2.2.1 u.2.2.2 (bs.drop u.1)∧u.2.2.1.length+dP (bs.drop u.1)≤99∧u.2.2.2.length+dP (bs.drop u.1)≤99) (fun u=>bs.length - u.1) (0,0,[],[]) ⟨Nat.zero_le _,rfl,by simp;omega,by simp;omega⟩ (vm [0,73,97,98,99]) (fun ⟨i,t,sp,st⟩ ⟨hi,hd,hp,hq⟩=>?_);dsimp only at hi hd hp hq;refine wb (A2.mk ?_ ?_) <;> intros
 · have h2:i < bs.length:=by omega
   rw[List.drop_eq_getElem_cons h2] at hd hp hq;generalize hx:bs[i]=b at hd hp hq;simp only[GU,dP] at hd hp hq;have hlen:=mg bs.length i (az b) b (Nat.le_refl _) [] sp st;generalize ha:allL bs.length i [] sp st b=ra at hd hlen;obtain⟨e,sp',st'⟩:=ra;dsimp only at hd hlen;refine aB (x:=(b,i)) (by omega) (by simp[h2,hx]) rfl ?_;refine wb ?_ <;> intros
   refine wq (abM bs hb i h2 (az b+1) b (by omega) [] sp st (by simp) (by omega) (by omega)) [1,2,3,4] ?_;rintro r g ⟨rfl,rfl⟩;rw[ha];refine wb (A2.mk ?_ ?_) <;> intros
   · rw[if_pos ‹_›] at hd;rw[hd] at hR;exact wr hR
   · rw[if_neg (by simpa using ‹e=0›)] at hd;refine ai ⟨(i+1,i,sp',st'),⟨h2,hd,by dsimp only;omega,by dsimp only;omega⟩,by dsimp only;omega,vm [0,1,141,142,143]⟩
 · rw[hd,List.drop_eq_nil_of_le (by omega)] at hR;exact wr hR
end AM
namespace AM
open Go Go.Proofs Mk
set_option maxRecDepth 20000
set_option maxHeartbeats 4000000
theorem wa {P Q:Prop}(h:Q)(s:Hd Q→P:=by (intro h;(try simp -implicitDefEqProofs (disch:=omega) only[go_sem,IntWalk.i64_in,IntWalk.u8_in,↓reduceIte,fF,Nat.reducePow,Nat.reduceLT,Nat.reduceEqDiff,Nat.reduceAdd,Nat.reduceMul,Nat.reduceSub,Nat.reduceLeDiff,Int.reduceAdd,Int.reduceSub,Int.reduceToNat,Int.reduceLT,Int.reduceLE,Int.reduceNeg,Int.reduceEq,Int.reduceNe,Int.reduceBEq,Int.reduceBNe,Bool.false_eq_true,reduceCtorEq]);(repeat (first | refine And.intro (EI (by kernel_rfl)) ?_ | refine And.intro (by omega) ?_));exact h.out)):P:=s ⟨h⟩
theorem abP (xs:List UInt8)(hx:xs.length≤1000):∀d,StC xs d:=fun d=>by
 induction d using Nat.strongRecOn with
 | _ d ih=>exact Xq xs hx d (fun d' h=>Ur xs d' (ih d' h))
def alQ:Nat→List (Nat×Nat):=fun i=>if i=14 then [(1,4),(1,5)] else if i=15 then [(1,6),(1,7),(1,9)] else if i=17 then [(1,3),(1,4)] else []
structure PgOk (bs:List (List Sm)):Prop where
 n1:1≤bs.length
 n4:bs.length≤4
 l20:∀b∈bs,b.length≤20
 d2:∀b∈bs,∀s∈b,SmD 2 s
theorem qg {K:Nat} :∀(l:List Sm),(∀s∈l,dM s≤K)→az l≤l.length * K
 | [],_=>by simp[az]
 |
  s :: r,h=>by
  have h1:=qg r (fun x hx=>h x (List.mem_cons_of_mem _ hx))
  have h2:=h s (List.mem_cons_self ..)
  simp only[az,List.length_cons,Nat.succ_mul]
  omega
theorem Va (s:Sm)(h:SmD 0 s):dM s≤1:=by
 rw[jG,h.1,h.2];simp[az]
theorem Vb (s:Sm)(h:SmD 1 s):dM s≤21:=by
 have h1:=qg s.body (fun x hx=>Va x (h.1.2 x hx));have h2:=qg s.els (fun x hx=>Va x (h.2.2 x hx));have h3:=h.1.1;have h4:=h.2.1;rw[jG];omega
theorem abQ (s:Sm)(h:SmD 2 s):dM s≤421:=by
 have h1:=qg s.body (fun x hx=>Vb x (h.1.2 x hx));have h2:=qg s.els (fun x hx=>Vb x (h.2.2 x hx));have h3:=h.1.1;have h4:=h.2.1;rw[jG];omega
theorem Oj:∀(bs:List (List Sm)),(∀b∈bs,b.length≤20)→(∀b∈bs,∀s∈b,SmD 2 s)→dP bs≤bs.length * 8420
 | [],_,_=>by simp[dP]
 |
  b :: r,h1,h2=>by
  have h3:=Oj r (fun x hx=>h1 x (List.mem_cons_of_mem _ hx)) (fun x hx=>h2 x (List.mem_cons_of_mem _ hx))
  have h4:=qg b (fun x hx=>abQ x (h2 b (List.mem_cons_self ..) x hx))
  have h5:=h1 b (List.mem_cons_self ..)
  simp only[dP,List.length_cons,Nat.succ_mul]
  omega
theorem PgOk.check {bs:List (List Sm)}(h:PgOk bs):FnEq Tryz.prog 68 [rw_ (uY bs)] (.tup [.pv (ag (lT bs)),.pv (ag 0)]):=
 IU bs h.n1 h.n4 (fun b hb=>shL b (by have:=h.l20 b hb;omega) (fun s hs=>Vd 2 s (h.d2 b hb s hs))) (by have:=Oj bs h.l20 h.d2;have:=h.n4;omega)
@[go_sem] def alR (m:MS):Obj:= .box [.ptr 2 0,.pv (ag m.th),.pv (ag m.left),.pv (boolP m.set),.pv (boolP m.tx),.pv (boolP m.atomic),.pv (boolP m.loop),.own 3 m.held.length]
@[go_sem] def pS (xs:List UInt8)(k:Nat)(m:MS)(bs:List (List Sm)):List (Option Obj):= [some (.box [.emp,.emp]),some (alR m),some (uM xs k),some (Eg m.held),some (.box [.pv (.sl SS),.own 5 bs.length]),some (.row 176 4 (bs.zipIdx.map nJ))]
@[go_sem] def pE (n:Int)(i:Nat):List (Nat×AV):= [(2,.ptr 0 0),(3,.ptr 1 0),(4,.ptr 4 0),(5,.pv (ag n)),(6,.pv (.sl (fV (thNames 4)))),(7,.pv (ag i))]
theorem Ve (bs:List (List Sm))(l:List Sm):(bs++ [l]).zipIdx.map nJ=bs.zipIdx.map nJ++ [nJ (l,bs.length)]:=by
 simp[List.zipIdx_append]
theorem IV (i:Nat)(h:i < 4):(thNames 4)[i]?=some (aO i):=by
 match i,h with
 | 0,_=>rfl
 | 1,_=>rfl
 | 2,_=>rfl
 | 3,_=>rfl
@[go_sem] def tb (i:Nat)(b:AV):Obj:= .box [.pv (bJ (aO i)),.pv (ag 0),.pv (.sl (fV aZ)),b]
theorem smj:lS .join=nR 13 (aO 1) bE [] ⟨0,0,bE,[]⟩ [] []:=rfl
theorem pg1:PgOk [[.asg .x (.leaf (.num 1))]]:=⟨by decide,by decide,by simp,by simp only[List.mem_singleton,forall_eq];exact dY rfl rfl 2⟩
attribute [local go_sem] List.set_cons_zero List.set_cons_succ Ve aZ smj NM
theorem JE (xs:List UInt8)(hx:xs.length≤1000):jo Tryz.prog 45 [.pv (Yx xs)] (fun r=>∃bs,r=rw_ (uY bs)∧PgOk bs∧lT bs=0):=by
 refine wf Tryz.func45 alQ (h:=fun R hR=>?_);refine wb ?_ <;> intros
 refine wE IE ?_;refine wb ?_ <;> intros
 refine wq (eU xs 0 3 hx (Nat.zero_le _) (by decide) (by decide)) [24] ?_;rintro r g ⟨rfl,k,hk,rfl⟩;have hn:=jM xs 0 (n:=3) (by decide);generalize FN xs 0 3=q at hn;refine wb ?_ <;> intros
 refine dh 40 7 9 1 rfl rfl ?_;refine dh 72 1 176 4 rfl rfl ?_;refine wl (fun u:List (List Sm)×MS×Nat=>pE (2+(q:Int)) u.1.length) (fun u=>pS xs u.2.2 u.2.1 u.1) (fun u=>u.1.length≤2+q∧(∀b∈u.1,b.length≤20)∧(∀b∈u.1,∀s∈b,SmD 2 s)∧u.2.1.held= []∧u.2.2≤xs.length) (fun u=>2+q - u.1.length) ([],⟨0,20,false,false,false,false,[]⟩,k) ⟨Nat.zero_le _,by simp,by simp,rfl,hk⟩ (vm [0,40,24,168,72,169]) (fun ⟨bs,m,k⟩ ⟨hi,hl,hs,hm,hk⟩=>?_);dsimp only at hi hl hs hm hk;refine ws ?_;refine w0 ?_;refine wg ?_
 (refine gV rfl ?_;refine ws ?_;first | (refine⟨fun _=>?_,fun _=>?_⟩ <;> first | (exfalso;omega) | skip) | (rw[eu];refine⟨fun _=>?_,fun _=>?_⟩) | skip)
 · refine w0 ?_;refine wg ?_;refine fD rfl ?_;refine ws ?_;refine aB (x:=aO bs.length) (by omega) (by rw[Int.toNat_natCast,IV _ (by omega)]) rfl ?_;refine ws ?_;refine w0 ?_;refine dh 118 3 196 11 rfl rfl ?_;refine wg ?_;obtain⟨m',hm'⟩:∃m':MS,m'= { m with th:=bs.length } :=⟨_,rfl⟩;have hh:m'.held= []:=by rw[hm'];exact hm
   refine fQ (fun _:List Sm=>pE (2+(q:Int)) bs.length++ [(8,.ptr 6 0)]) (fun l=>pS xs k m' bs++ [some (tb bs.length (.own 7 l.length)),some (TS l)]) (fun l=>l.length≤4∧∀s∈l,SmD 2 s) ?_ (fun l ⟨hl4,hls⟩=>?_)
   · subst hm'
     (refine gV rfl ?_;refine ws ?_;first | (refine⟨fun _=>?_,fun _=>?_⟩ <;> first | (exfalso;omega) | skip) | (rw[eu];refine⟨fun _=>?_,fun _=>?_⟩) | skip)
     · refine wb ?_ <;> intros
       refine wl (fun u:Nat×List Sm=>pE (2+(q:Int)) bs.length++ [(8,.ptr 6 0),(9,.pv (ag u.1))]) (fun u=>pS xs k { m with th:=bs.length } bs++ [some (tb bs.length (.own 7 u.2.length)),some (TS u.2)]) (fun u=>u.1≤2+q∧u.2.length≤u.1∧∀s∈u.2,SmD 2 s) (fun u=>2+q - u.1) (1,[]) ⟨by omega,by simp,by simp⟩ (vm [0,1,2,3,4,5,118,134]) (fun ⟨j,l⟩ ⟨hj,hjl,hjs⟩=>?_);dsimp only at hj hjl hjs;refine wb (A2.mk ?_ ?_) <;> intros
       · refine aB (x:=aO j) (by omega) (by rw[Int.toNat_natCast,IV _ (by omega)]) rfl ?_;refine wb ?_ <;> intros
         exact ai ⟨(j+1,l++ [.spawn j]),⟨by dsimp only;omega,by simp;omega,by simpa [or_imp,forall_and] using ⟨hjs,dY rfl rfl 2⟩⟩,by dsimp only;omega,vm [0,1,2,3,4,5,6,96]⟩
       · exact ai ⟨l,⟨by omega,hjs⟩,vm [0,1,2,3,4,5,6,7]⟩
     · refine w0 ?_;exact ai ⟨[],⟨by simp,by simp⟩,vm [0,1,2,3,4,5,118,134]⟩
   clear hm';refine wb ?_ <;> intros
   refine wQ (eU xs k 3 hx hk (by decide) (by decide)) [2] ⟨rfl,k,hk,rfl⟩ ?_;rintro r g ⟨rfl,k2,hk2,rfl⟩;have hn2:=jM xs k (n:=3) (by decide);generalize FN xs k 3=q2 at hn2;refine wb ?_ <;> intros
   refine wQ (Us xs 2 (abP xs hx 2) k2 m' (1+q2) hk2 (by rw[hh];decide) (by omega)) [1,2,3] ⟨[],m',k,Nat.zero_le _,by simp,rfl,hk,rfl,rfl⟩ ?_;rintro r g ⟨l2,m2,k3,p1,p2,p3,p4,rfl,rfl⟩;have hh2:m2.held= []:=by rw[p3,hh]
   refine wa ?_;refine yY rfl ?_;refine fQ (fun u:List Sm×Nat=>pE (2+(q:Int)) bs.length++ [(8,.ptr 6 0)]) (fun u=>pS xs u.2 m2 bs++ [some (tb bs.length (.pv (NM u.1)))]) (fun u=>u.1.length≤20∧(∀s∈u.1,SmD 2 s)∧u.2≤xs.length) ?_ (fun ⟨b,k4⟩ ⟨hb1,hb2,hk4⟩=>?_)
   · have hs2:∀s∈l++l2,SmD 2 s:=fun s h=>(List.mem_append.1 h).elim (hls s) (p2 s)
     refine wb (A2.mk ?_ ?_) <;> intros
     · refine wq (eU xs k3 3 hx p4 (by decide) (by decide)) [2] ?_;rintro r g ⟨rfl,k4,hk4,rfl⟩;refine wb (A2.mk ?_ ?_) <;> intros
       · refine au (by omega) rfl rfl ?_;refine wb ?_ <;> intros
         exact ai ⟨(l++l2++ [.join],k4),⟨by simp;omega,fun s h=>(List.mem_append.1 h).elim (hs2 s) (fun h=>by rw[List.mem_singleton.1 h];exact dY rfl rfl 2),hk4⟩,vm [0,1,2,80,4,5,6] [(248,none)]⟩
       · exact ai ⟨(l++l2,k4),⟨by simp;omega,hs2,hk4⟩,vm [0,1,2,80,4,5,6] [(88,none)]⟩
     · exact ai ⟨(l++l2,k3),⟨by simp;omega,hs2,p4⟩,vm [0,1,2,80,4,5,6] [(88,none)]⟩
   dsimp only at hb1 hb2 hk4;refine wb ?_ <;> intros
   refine ai ⟨(bs++ [b],m2,k4),⟨by simp;omega,fun x h=>(List.mem_append.1 h).elim (hl x) (fun h=>by rw[List.mem_singleton.1 h];exact hb1),fun x h=>(List.mem_append.1 h).elim (hs x) (fun h=>by rw[List.mem_singleton.1 h];exact hb2),hh2,hk4⟩,by simp;omega,vm [0,1,2,3,4,39]⟩
 · have hp:PgOk bs:=⟨by omega,by omega,hl,hs⟩;refine w0 ?_;refine X7 (pE (2+(q:Int)) bs.length) [some (.box [.emp,.emp]),none,none,none,some (.box ((uY bs).map .pv))] (vm [0,1,2,3,4] [(5,none)]) ?_;refine wb ?_ <;> intros
   refine wE hp.check ?_;refine wb (A2.mk ?_ ?_) <;> intros
   · refine wE IE ?_;refine wb ?_ <;> intros
     refine wE (xM 1) ?_;refine wb ?_ <;> intros
     refine wE (jZ ⟨#[120]⟩ ⟨1,1,bE,[]⟩) ?_;refine wb ?_ <;> intros
     exact wt hR (rw_ (uY [[.asg .x (.leaf (.num 1))]])) [] ⟨_,rfl,pg1,rfl⟩
   · exact wt hR (rw_ (uY bs)) [] ⟨_,rfl,hp,‹_›⟩
