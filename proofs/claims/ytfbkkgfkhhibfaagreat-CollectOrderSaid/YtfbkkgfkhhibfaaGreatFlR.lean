/- Words. -/
import Derived.Test.YtfbkkgfkhhibfaaGreatCpw
import Derived.BigRegion
set_option linter.unusedVariables false
set_option maxRecDepth 100000
set_option maxHeartbeats 8000000
namespace Go.Proofs.YtfbkkgfkhhibfaaGreat
open Go Go.RowKit Iv
theorem yR (l:List Ev)(Al:Option Addr)(nl cl:Nat)(thr:Int)(p:Pln)(Af:Option Addr)(nf cf:Nat)(Ac:Option Addr)(nc cc B:Nat)(w:World)(hl:Evs w B Al nl l)(hf:Fls w B Af nf p.flushes)(Za:Lies w B 1 Ac nc (p.cuts.map iv))(hB:B≤w.heap.size)(hnf:nf≤1000000)(hnc:nc≤1000000)(hnl:nl≤1000000)(hnum:∀e∈l,RecFit ⟨0,e⟩)(hi64:inI64 p.stop∧allI64 p.cuts):
 Calls Tryz.prog 21 #[.slice Al nl cl,.int .i64 thr,.agg (BM p Af nf cf Ac nc cc)] w fun e w'=>xB l thr p w e w':=by
 obtain⟨cap,fl,stop,cu⟩:=p;obtain⟨W,hW⟩:∃W,W=w.alloc (.cells #[.int .i64 cap,.slice Af nf cf,.int .i64 stop,.slice Ac nc cc] 39):=⟨_,rfl⟩;have iW:w.grownBy W none:=by rw[hW];exact World.grownBy_alloc w _ none
 have hb0:Held W w.heap.size 39 #[.int .i64 cap,.slice Af nf cf,.int .i64 stop,.slice Ac nc cc]:=by rw[hW];exact Held.new _ _ _
 have CA:=ae (fun (W':World) (hg:W.grownBy W' none)=>Ui l Al nl cl thr ⟨cap,fl,stop,cu⟩ Af nf cf Ac nc cc B W' (hl.grown (af iW hg (.inl rfl)) hB (fun _ e=>nomatch e)) (hf.grown (af iW hg (.inl rfl)) hB (fun _ e=>nomatch e)) (Za.grown (af iW hg (.inl rfl)) hB (fun _ e=>nomatch e)) (Nat.le_trans hB (Nat.le_trans iW.size hg.size)) hnf hnc);have HW:=ae hW;have EC:=ae iW;have HB0:=ae hb0;have HN:=ae hnum;have HL:=ae hl;have HF:=ae hf;have HC:=ae Za;have HI:=ae hi64;have FO:=ae hl.1;clear hW hnum hi64;obtain⟨b,hbk⟩:∃b,b=aY l thr ⟨cap,fl,stop,cu⟩:=⟨_,rfl⟩;rw[←hbk] at CA;have HBK:=ae hbk;clear hbk;unfold BM at CA⊢;dsimp only at CA⊢;have k0:W.cell? ⟨w.heap.size,0,none⟩=some (.int .i64 cap):=hb0.cell 0;have k1:W.cell? ⟨w.heap.size,1,none⟩=some (.slice Af nf cf):=hb0.cell 1;have k2:W.cell? ⟨w.heap.size,2,none⟩=some (.int .i64 stop):=hb0.cell 2;have k3:W.cell? ⟨w.heap.size,3,none⟩=some (.slice Ac nc cc):=hb0.cell 3;clear hl hf Za hb0 iW;go_enter Tryz.func21,Tryz.ntmps21;go_upto_region 1 with fail;rw[show w.alloc (.cells #[.int .i64 cap,.slice Af nf cf,.int .i64 stop,.slice Ac nc cc] 39)=W from HW.out.symm];by_cases hb0:b=0
 · subst hb0;go_upto_region 2 with (first | (go_at_call 38;refine (CA.out W (World.grownBy.refl W none)).mono ?_;rintro e w2 ⟨rfl,hg2⟩) | fail)
   have hgw:=af EC.out hg2 (.inl rfl);obtain⟨t,c,rfl,hpg⟩:=xJ HBK.out.symm;have HP:=ae hpg;have ht4:=hpg.thr4;have mk1:=fun w=>xC Tryz.underlying91 OJ rfl (by omega) w ht4
   have mk2:=fun w=>xC Tryz.underlying37 yJ rfl (by omega) w ht4
   have mk3:=fun w=>xC Tryz.underlying41 JI rfl (by omega) w ht4
   have QO:=ae hgw;have HB1:=ae (HB0.out.grown hg2 (fun e=>nomatch e));have hlt2:w.heap.size < w2.heap.size:=HB1.out.lt;clear hpg hgw hg2 k0 k1 k2 k3;obtain⟨W1,hW1⟩:∃W1,W1=w2:=⟨_,rfl⟩;subst hW1;go_upto_region 4 with fail;go_cut [9] (fun v wx=>∃gR gB gW gF:Nat,v= .pointer (some ⟨gR,0,none⟩)∧RP 109 #[.slice (some ⟨gB,0,none⟩) t t,.slice (some ⟨gW,0,none⟩) t t,.slice (some ⟨gF,0,none⟩) t t] W1 (W1.heap.size+4) B t gR gB gW gF St.none wx)
   case first=>
    go_region_held3 (fun w'=>True) (exact True.intro) (first | fail)
    all_goals
     go_wp2_with fail;go_meet
     case rel=>
      obtain⟨h0,h1,h2,h3,hg,hs⟩:=adf W1 _ _ _ _ _ _ _ _;exact⟨_,_,_,_,rfl,RP.init (by with_reducible first | exact h0 | exact h1 | exact h2 | exact h3) (by with_reducible first | exact h0 | exact h1 | exact h2 | exact h3) (by with_reducible first | exact h0 | exact h1 | exact h2 | exact h3) (by with_reducible first | exact h0 | exact h1 | exact h2 | exact h3) hg ⟨by omega,by omega,by omega,by omega⟩ ⟨by omega,by omega,by omega,by omega⟩ ⟨by omega,by omega,by omega⟩ ⟨by omega,by omega,by omega⟩ (Nat.le_trans hB QO.out.size) (by rw[hs];exact Nat.le_refl _)⟩
   case rest=>
    obtain⟨gR,gB,gW,gF,akC,hrp⟩:=hcut;subst akC;clear mk1 mk2 mk3;have hstop:0≤stop:=HP.out.stop;have h4:nl≤400:=by have:=HP.out.len;have:=FO.out;omega
    obtain⟨N,hN⟩:∃N,N=jQ l ⟨cap,fl,stop,cu⟩:=⟨_,rfl⟩;have hN1:(N:Int)≤stop:=by rw[hN];unfold jQ;simp only;omega
    have hN2:N≤nl:=by rw[hN];unfold jQ;have:=FO.out;omega
    have hN3:(N:Int)=stop∨N=nl:=by rw[hN];unfold jQ;have:=FO.out;simp only;omega
    have HNN:=ae hN;clear hN;have hBW:B≤W1.heap.size:=Nat.le_trans hB QO.out.size;have HL1:=ae (HL.out.grown QO.out hB (fun _ e=>nomatch e));have HF1:=ae (HF.out.grown QO.out hB (fun _ e=>nomatch e));have HC1:=ae (HC.out.grown QO.out hB (fun _ e=>nomatch e));have akE:=ae hrp;clear hrp;go_wp2_with fail;go_loopw [10] (fun iv wr=>∃n:Nat,iv= .int .i64 (n:Int)∧n≤N+1∧RP 109 #[.slice (some ⟨gB,0,none⟩) t t,.slice (some ⟨gW,0,none⟩) t t,.slice (some ⟨gF,0,none⟩) t t] W1 (W1.heap.size+4) B t gR gB gW gF (vY l ⟨cap,fl,stop,cu⟩ n) wr) (fun iv _=>N+1 - (intOf iv).toNat)
    case atStart=>exact ⟨0,rfl,Nat.zero_le _,akE.out⟩
    case round=>
     obtain⟨n,rfl,hn,hrp⟩:=hrel;have Zb:=ae hrp;have HPL:=ae (HB1.out.grown hrp.gr (fun e=>nomatch e));have r1:wr.cell? ⟨w.heap.size,1,none⟩=some (.slice Af nf cf):=HPL.out.cell 1;have r2:wr.cell? ⟨w.heap.size,2,none⟩=some (.int .i64 stop):=HPL.out.cell 2;have r3:wr.cell? ⟨w.heap.size,3,none⟩=some (.slice Ac nc cc):=HPL.out.cell 3;clear hrp;by_cases hgo:n≤N
     · have HRA:Hid (Iv.Good c n t (recA l ⟨cap,fl,stop,cu⟩ n)):=ae (HP.out.recA HN.out n (by have:=FO.out;omega));have HRF:Hid ((recA l ⟨cap,fl,stop,cu⟩ n).flush n fl=vY l ⟨cap,fl,stop,cu⟩ (n+1)):=ae (Ku (p:=⟨cap,fl,stop,cu⟩) (by have:=FO.out;omega));have hm1:decide ((n:Int)≤stop)=true:=decide_eq_true (by omega);have hm2:decide (n≤nl)=true:=decide_eq_true (by omega);go_upto_if 43 with fail;go_cut [11] (fun _ wx=>RP 109 #[.slice (some ⟨gB,0,none⟩) t t,.slice (some ⟨gW,0,none⟩) t t,.slice (some ⟨gF,0,none⟩) t t] W1 (W1.heap.size+4) B t gR gB gW gF (recA l ⟨cap,fl,stop,cu⟩ n) wx)
       case first=>
        by_cases hn0:(0:Int) < (n:Int)
        · obtain⟨m,hm⟩:∃m,n=m+1:=⟨n - 1,by omega⟩;have hmm:(n:Int) - 1=(m:Int):=by omega
          have hwm:IntKind.i64.wrap (m:Int)=(m:Int):=IntWalk.i64_in _ (by omega);have hml:m < nl:=by omega
          obtain⟨b,o,e,Ad,cd,Ae,ce,rfl,hb,hem,e0,e1,e2,e3,e4,e5,e6,hld,hlf⟩:=(HL1.out.grown Zb.out.gr hBW (fun _ e=>nomatch e)).at hml;have hmem:e∈l:=List.mem_of_getElem? hem;obtain⟨v1,v2,v3,v4⟩:=HP.out.ev e hmem;have HEM:=ae hem;have akF:=ae hmem;have akG:=ae hld;have akH:=ae hlf;obtain⟨et,het⟩:∃et:Nat,e.thread=(et:Int):=⟨e.thread.toNat,by omega⟩;rw[het] at e0;have qM:et < t:=by omega
          have akI:=ae qM;have HET:=ae het;have HV3:=ae v3;have HV4:=ae v4;have HM1:=ae hm;clear hem hmem hld hlf het qM v1 v2 v3 v4 hm;go_upto_region 10 with fail;clear e0 e1 e2 e3 e4 e5 e6;have hem:=HEM.out;have hmem:=akF.out;have hld:=akG.out;have hlf:=akH.out;have het:=HET.out;have qM:=akI.out;have v3:=HV3.out;have v4:=HV4.out;have hm:=HM1.out;have htn:e.thread.toNat=et:=by omega
          have Xt:Hid (recA l ⟨cap,fl,stop,cu⟩ n=(vY l ⟨cap,fl,stop,cu⟩ n).add cap m e):=ae (by rw[hm];exact tV (p:=⟨cap,fl,stop,cu⟩) hem);have akK:=ae ((HN.out e hmem).seqOf (n:=(m:Int)) ⟨by omega,by omega⟩);have HGD:=ae (show Iv.Good c m t (vY l ⟨cap,fl,stop,cu⟩ n) by rw[hm];exact HP.out.recorded HN.out m (by have:=FO.out;omega));have HTN:=ae htn;obtain⟨s,hs⟩:∃s,s=vY l ⟨cap,fl,stop,cu⟩ n:=⟨_,rfl⟩;rw[←hs] at Xt HGD;have afg:=Zb.out;rw[←hs] at afg;obtain⟨We,hWe⟩:∃We,We=wr.alloc (.cells #[.int .i64 (et:Int),.int .i64 e.kind,.int .i64 e.obj,.int .i64 e.value,.int .i64 e.site,.slice Ad e.deps.length cd,.slice Ae e.from_.length ce] 52):=⟨_,rfl⟩;have iW:wr.grownBy We none:=by rw[hWe];exact World.grownBy_alloc wr _ none
          obtain⟨gE,hgE⟩:∃gE,gE=wr.heap.size:=⟨_,rfl⟩;have hE:Held We gE 52 #[.int .i64 (et:Int),.int .i64 e.kind,.int .i64 e.obj,.int .i64 e.value,.int .i64 e.site,.slice Ad e.deps.length cd,.slice Ae e.from_.length ce]:=by rw[hWe,hgE];exact Held.new _ _ _
          have HWE:=ae hWe;have HGE:=ae hgE;clear hWe hgE hmem hem hs htn het hm;obtain⟨⟨vb,vf,css,hM0⟩,hR0,afh,hlo,hnr⟩:=afg;have hM:=hM0.keep iW;have hR:=hR0.grown iW (fun e=>nomatch e);have hgr:=jA afh iW (fun g e=>nomatch e);have akN:=ae (fun g (e:(vb et).ownBlock=some g)=>((hM0.ob et qM).lt g e).2);have akO:=ae hM0.bs;clear hM0 hR0 afh;have hBr:B≤wr.heap.size:=by have:=Zb.out.gr.size;omega
          have HLD:=ae (hld.grown iW hBr (fun _ e=>nomatch e));have HLF:=ae (hlf.grown iW hBr (fun _ e=>nomatch e));have VG:=ae hgr;have i0:(0:Int)≤(et:Int):=by omega
          have i1:(et:Int) < (t:Int):=by omega
          have HE:=ae hE;obtain⟨Ab,cb,hvb,hbn,hbm,_,hbo⟩:=aj (hM.ob et qM);have hob:=hM.ob et qM;rw[hvb] at hob;have Yy:=ae hob;have hlen:=(HGD.out et qM).len;obtain⟨nb,hnb⟩:∃nb,nb=(s.buf et).length:=⟨_,rfl⟩;have QQ:=ae hnb;have HM:=ae hM;have HR:=ae hR;have HVB:=ae hvb;obtain⟨j0,hi,hz0,hz1,hz2⟩:=info_parts xK;have HI0:=ae hi;have HZ0:=ae hz0;have HZ1:=ae hz1;have HZ2:=ae hz2;have hz:(0:Nat) < 8:=by omega
          have akP:=HP.out.c64;have am1:nb≤64:=by omega
          have aba:Hid ((Value.slice Ab nb cb).ownBlock≠some gB):=ae (by rw[hnb];exact gm hob hM.lt.1);have afj:Hid ((Value.slice Ab nb cb).ownBlock≠some gR):=ae (by rw[hnb];exact gm hob hnr.1);have afk:Hid ((Value.slice Ab nb cb).ownBlock≠some gE):=ae (fun e=>by have:=akN.out gE (by rw[hvb,←hnb];exact e);rw[HGE.out] at this;omega);have HBS:=ae hM.bs;have S0:Hid ((fun w'=>w'.cell? ⟨gR,0,none⟩=some (.slice (some ⟨gB,0,none⟩) t t)∧w'.cell? ⟨gE,0,none⟩=some (.int .i64 (et:Int))∧w'.cell? ⟨gE,1,none⟩=some (.int .i64 e.kind)∧w'.cell? ⟨gE,2,none⟩=some (.int .i64 e.obj)∧w'.cell? ⟨gE,3,none⟩=some (.int .i64 e.value)∧w'.cell? ⟨gE,4,none⟩=some (.int .i64 e.site)∧w'.cell? ⟨gE,5,none⟩=some (.slice Ad e.deps.length cd)∧w'.cell? ⟨gE,6,none⟩=some (.slice Ae e.from_.length ce)∧w'.cell? ⟨gB,et,none⟩=some (.slice Ab nb cb)) We):=ae ⟨hR.cell 0,hE.cell 0,hE.cell 1,hE.cell 2,hE.cell 3,hE.cell 4,hE.cell 5,hE.cell 6,by rw[hM.hB.cell et,fE _ qM,hvb,hnb]⟩;have HS9:Hid (∀W',We.grownBy W' none→(fun w'=>w'.cell? ⟨gR,0,none⟩=some (.slice (some ⟨gB,0,none⟩) t t)∧w'.cell? ⟨gE,0,none⟩=some (.int .i64 (et:Int))∧w'.cell? ⟨gE,1,none⟩=some (.int .i64 e.kind)∧w'.cell? ⟨gE,2,none⟩=some (.int .i64 e.obj)∧w'.cell? ⟨gE,3,none⟩=some (.int .i64 e.value)∧w'.cell? ⟨gE,4,none⟩=some (.int .i64 e.site)∧w'.cell? ⟨gE,5,none⟩=some (.slice Ad e.deps.length cd)∧w'.cell? ⟨gE,6,none⟩=some (.slice Ae e.from_.length ce)∧w'.cell? ⟨gB,et,none⟩=some (.slice Ab nb cb)) W'):=ae fun W' hg=>⟨(HR.out.grown hg (fun e=>nomatch e)).cell 0,(HE.out.grown hg (fun e=>nomatch e)).cell 0,(HE.out.grown hg (fun e=>nomatch e)).cell 1,(HE.out.grown hg (fun e=>nomatch e)).cell 2,(HE.out.grown hg (fun e=>nomatch e)).cell 3,(HE.out.grown hg (fun e=>nomatch e)).cell 4,(HE.out.grown hg (fun e=>nomatch e)).cell 5,(HE.out.grown hg (fun e=>nomatch e)).cell 6,by rw[(HM.out.hB.grown hg (fun e=>nomatch e)).cell et,fE _ qM,HVB.out,QQ.out]⟩
          have HRV:Hid (recV ⟨m,e⟩ Ad e.deps.length cd Ae e.from_.length ce=#[.int .i64 (m:Int),.int .i64 (et:Int),.int .i64 e.kind,.int .i64 e.obj,.int .i64 e.value,.int .i64 e.site,.slice Ad e.deps.length cd,.slice Ae e.from_.length ce]):=ae (by unfold recV;rw[HET.out]);have hrl:=Uj We ⟨m,e⟩ Ad e.deps.length cd Ae e.from_.length ce;rw[HRV.out] at hrl;have HRL:=ae hrl.drew;have ED:=ae (aN (World.grownBy_alloc We (.cells #[.int .i64 (m:Int),.int .i64 (et:Int),.int .i64 e.kind,.int .i64 e.obj,.int .i64 e.value,.int .i64 e.site,.slice Ad e.deps.length cd,.slice Ae e.from_.length ce] 54) none));have FM:Hid (∀u∈(#[.int .i64 (m:Int),.int .i64 (et:Int),.int .i64 e.kind,.int .i64 e.obj,.int .i64 e.value,.int .i64 e.site,.slice Ad e.deps.length cd,.slice Ae e.from_.length ce]:Array Value).toList,u.oneCell'=true):=ae (by have:=Xu ⟨m,e⟩ Ad e.deps.length cd Ae e.from_.length ce;rw[HRV.out] at this;exact this);have abd:=hob;rw[←hnb] at abd;have abe:=ae (ay abd ED.out (fun _ _ e=>nomatch e))
          have akR:Hid (∀W',(We.alloc (.cells #[.int .i64 (m:Int),.int .i64 (et:Int),.int .i64 e.kind,.int .i64 e.obj,.int .i64 e.value,.int .i64 e.site,.slice Ad e.deps.length cd,.slice Ae e.from_.length ce] 54)).drew.grownBy W' (Value.slice Ab nb cb).ownBlock→(fun w'=>w'.cell? ⟨gR,0,none⟩=some (.slice (some ⟨gB,0,none⟩) t t)∧w'.cell? ⟨gE,0,none⟩=some (.int .i64 (et:Int))∧w'.cell? ⟨gE,1,none⟩=some (.int .i64 e.kind)∧w'.cell? ⟨gE,2,none⟩=some (.int .i64 e.obj)∧w'.cell? ⟨gE,3,none⟩=some (.int .i64 e.value)∧w'.cell? ⟨gE,4,none⟩=some (.int .i64 e.site)∧w'.cell? ⟨gE,5,none⟩=some (.slice Ad e.deps.length cd)∧w'.cell? ⟨gE,6,none⟩=some (.slice Ae e.from_.length ce)∧w'.cell? ⟨gB,et,none⟩=some (.slice Ab nb cb)) W'):=ae fun W' hg=>by
           have q1:=(HR.out.grown ED.out (fun e=>nomatch e)).grown hg (fun e=>afj.out e.symm);have q2:=(HE.out.grown ED.out (fun e=>nomatch e)).grown hg (fun e=>afk.out e.symm);have q3:=(HM.out.hB.grown ED.out (fun e=>nomatch e)).grown hg (fun e=>aba.out e.symm);exact⟨q1.cell 0,q2.cell 0,q2.cell 1,q2.cell 2,q2.cell 3,q2.cell 4,q2.cell 5,q2.cell 6,by rw[q3.cell et,fE _ qM,HVB.out,QQ.out]⟩
          have HZF:Hid (∀W',(We.alloc (.cells #[.int .i64 (m:Int),.int .i64 (et:Int),.int .i64 e.kind,.int .i64 e.obj,.int .i64 e.value,.int .i64 e.site,.slice Ad e.deps.length cd,.slice Ae e.from_.length ce] 54)).drew.grownBy W' (Value.slice Ab nb cb).ownBlock→W'.frozen? ⟨gB,et,none⟩=false):=ae fun W' hg=>((HM.out.hB.grown ED.out (fun e=>nomatch e)).grown hg (fun e=>aba.out e.symm)).free et
          have O1:=ae hlo;have HNR:=ae hnr;clear hlo hnr v3 v4 akP hM hR hgr hld hlf iW hE hvb hob abd hi hz0 hz1 hz2 hrl hlen hnb hbn hbm hbo;rw[←HGE.out,show wr.alloc (.cells #[.int .i64 (et:Int),.int .i64 e.kind,.int .i64 e.obj,.int .i64 e.value,.int .i64 e.site,.slice Ad e.deps.length cd,.slice Ae e.from_.length ce] 52)=We from HWE.out.symm];refine vw (z:=21) (S:=fun w'=>w'.cell? ⟨gR,0,none⟩=some (.slice (some ⟨gB,0,none⟩) t t)∧w'.cell? ⟨gE,0,none⟩=some (.int .i64 (et:Int))∧w'.cell? ⟨gE,1,none⟩=some (.int .i64 e.kind)∧w'.cell? ⟨gE,2,none⟩=some (.int .i64 e.obj)∧w'.cell? ⟨gE,3,none⟩=some (.int .i64 e.value)∧w'.cell? ⟨gE,4,none⟩=some (.int .i64 e.site)∧w'.cell? ⟨gE,5,none⟩=some (.slice Ad e.deps.length cd)∧w'.cell? ⟨gE,6,none⟩=some (.slice Ae e.from_.length ce)∧w'.cell? ⟨gB,et,none⟩=some (.slice Ab nb cb)) (by kernel_rfl) (by exact HS9.out _ (aN (World.grownBy.refl We none))) (fun hHeld=>?_);refine aA (i:=0) (oi:=⟨some 49,_,_,_,_,_⟩) (v:=?_) rfl (by kernel_rfl) (by kernel_rfl) (by kernel_rfl) (by kernel_rfl) (fun _ _ _ h=>h) (Or.inl ⟨by rfl,?_⟩) (by assumption) ?_;rotate_left
          · intro w hSw;(try dsimp only at hSw);go_simp;(try with_reducible rfl)
          try simp only[Act.put,List.setIfInBounds_toArray,List.set_cons_zero,List.set_cons_succ]
          refine aA (i:=1) (oi:=⟨some 50,_,_,_,_,_⟩) (v:=?_) rfl (by kernel_rfl) (by kernel_rfl) (by kernel_rfl) (by kernel_rfl) (fun _ _ _ h=>h) (Or.inl ⟨by rfl,?_⟩) (by assumption) ?_;rotate_left
          · intro w hSw;(try dsimp only at hSw);go_simp;(try with_reducible rfl)
          try simp only[Act.put,List.setIfInBounds_toArray,List.set_cons_zero,List.set_cons_succ]
          refine aA (i:=2) (oi:=⟨some 51,_,_,_,_,_⟩) (v:=?_) rfl (by kernel_rfl) (by kernel_rfl) (by kernel_rfl) (by kernel_rfl) (fun _ _ _ h=>h) (Or.inl ⟨by rfl,?_⟩) (by assumption) ?_;rotate_left
          · intro w hSw;(try dsimp only at hSw);go_simp;(try with_reducible rfl)
          try simp only[Act.put,List.setIfInBounds_toArray,List.set_cons_zero,List.set_cons_succ]
          refine aA (i:=3) (oi:=⟨some 52,_,_,_,_,_⟩) (v:=?_) rfl (by kernel_rfl) (by kernel_rfl) (by kernel_rfl) (by kernel_rfl) (fun _ _ _ h=>h) (Or.inl ⟨by rfl,?_⟩) (by assumption) ?_;rotate_left
          · intro w hSw;(try dsimp only at hSw);go_simp;(try with_reducible rfl)
          try simp only[Act.put,List.setIfInBounds_toArray,List.set_cons_zero,List.set_cons_succ]
          refine aA (i:=4) (oi:=⟨some 53,_,_,_,_,_⟩) (v:=?_) rfl (by kernel_rfl) (by kernel_rfl) (by kernel_rfl) (by kernel_rfl) (fun _ _ _ h=>h) (Or.inl ⟨by rfl,?_⟩) (by assumption) ?_;rotate_left
          · intro w hSw;(try dsimp only at hSw);go_simp;(try with_reducible rfl)
          try simp only[Act.put,List.setIfInBounds_toArray,List.set_cons_zero,List.set_cons_succ]
          refine aA (i:=5) (oi:=⟨some 54,_,_,_,_,_⟩) (v:=?_) rfl (by kernel_rfl) (by kernel_rfl) (by kernel_rfl) (by kernel_rfl) (fun _ _ _ h=>h) (Or.inl ⟨by rfl,?_⟩) (by assumption) ?_;rotate_left
          · intro w hSw;(try dsimp only at hSw);go_simp;(try with_reducible rfl)
          try simp only[Act.put,List.setIfInBounds_toArray,List.set_cons_zero,List.set_cons_succ]
          refine aA (i:=6) (oi:=⟨some 55,_,_,_,_,_⟩) (v:=?_) rfl (by kernel_rfl) (by kernel_rfl) (by kernel_rfl) (by kernel_rfl) (fun _ _ _ h=>h) (Or.inl ⟨by rfl,?_⟩) (by assumption) ?_;rotate_left
          · intro w hSw;(try dsimp only at hSw);go_simp;(try with_reducible rfl)
          try simp only[Act.put,List.setIfInBounds_toArray,List.set_cons_zero,List.set_cons_succ]
          refine aA (i:=7) (oi:=⟨some 56,_,_,_,_,_⟩) (v:=?_) rfl (by kernel_rfl) (by kernel_rfl) (by kernel_rfl) (by kernel_rfl) (fun _ _ _ h=>h) (Or.inl ⟨by rfl,?_⟩) (by assumption) ?_;rotate_left
          · intro w hSw;(try dsimp only at hSw);go_simp;(try with_reducible rfl)
          try simp only[Act.put,List.setIfInBounds_toArray,List.set_cons_zero,List.set_cons_succ]
          refine aA (i:=8) (oi:=⟨some 57,_,_,_,_,_⟩) (v:=?_) rfl (by kernel_rfl) (by kernel_rfl) (by kernel_rfl) (by kernel_rfl) (fun _ _ _ h=>h) (Or.inl ⟨by rfl,?_⟩) (by assumption) ?_;rotate_left
          · intro w hSw;(try dsimp only at hSw);go_simp;(try with_reducible rfl)
          try simp only[Act.put,List.setIfInBounds_toArray,List.set_cons_zero,List.set_cons_succ]
          refine aA (i:=9) (oi:=⟨some 58,_,_,_,_,_⟩) (v:=?_) rfl (by kernel_rfl) (by kernel_rfl) (by kernel_rfl) (by kernel_rfl) (fun _ _ _ h=>h) (Or.inl ⟨by rfl,?_⟩) (by assumption) ?_;rotate_left
          · intro w hSw;(try dsimp only at hSw);go_simp;(try with_reducible rfl)
          try simp only[Act.put,List.setIfInBounds_toArray,List.set_cons_zero,List.set_cons_succ]
          refine aA (i:=10) (oi:=⟨some 59,_,_,_,_,_⟩) (v:=?_) rfl (by kernel_rfl) (by kernel_rfl) (by kernel_rfl) (by kernel_rfl) (fun _ _ _ h=>h) (Or.inl ⟨by rfl,?_⟩) (by assumption) ?_;rotate_left
          · intro w hSw;(try dsimp only at hSw);go_simp;(try with_reducible rfl)
          try simp only[Act.put,List.setIfInBounds_toArray,List.set_cons_zero,List.set_cons_succ]
          refine aA (i:=11) (oi:=⟨some 60,_,_,_,_,_⟩) (v:=?_) rfl (by kernel_rfl) (by kernel_rfl) (by kernel_rfl) (by kernel_rfl) (fun _ _ _ h=>h) (Or.inl ⟨by rfl,?_⟩) (by assumption) ?_;rotate_left
          · intro w hSw;(try dsimp only at hSw);go_simp;(try with_reducible rfl)
          try simp only[Act.put,List.setIfInBounds_toArray,List.set_cons_zero,List.set_cons_succ]
          refine aA (i:=12) (oi:=⟨some 61,_,_,_,_,_⟩) (v:=?_) rfl (by kernel_rfl) (by kernel_rfl) (by kernel_rfl) (by kernel_rfl) (fun _ _ _ h=>h) (Or.inl ⟨by rfl,?_⟩) (by assumption) ?_;rotate_left
          · intro w hSw;(try dsimp only at hSw);go_simp;(try with_reducible rfl)
          try simp only[Act.put,List.setIfInBounds_toArray,List.set_cons_zero,List.set_cons_succ]
          refine aA (i:=13) (oi:=⟨some 62,_,_,_,_,_⟩) (v:=?_) rfl (by kernel_rfl) (by kernel_rfl) (by kernel_rfl) (by kernel_rfl) (fun _ _ _ h=>h) (Or.inl ⟨by rfl,?_⟩) (by assumption) ?_;rotate_left
          · intro w hSw;(try dsimp only at hSw);go_simp;(try with_reducible rfl)
          try simp only[Act.put,List.setIfInBounds_toArray,List.set_cons_zero,List.set_cons_succ]
          refine aA (i:=14) (oi:=⟨some 63,_,_,_,_,_⟩) (v:=?_) rfl (by kernel_rfl) (by kernel_rfl) (by kernel_rfl) (by kernel_rfl) (fun _ _ _ h=>h) (Or.inl ⟨by rfl,?_⟩) (by assumption) ?_;rotate_left
          · intro w hSw;(try dsimp only at hSw);go_simp;(try with_reducible rfl)
          try simp only[Act.put,List.setIfInBounds_toArray,List.set_cons_zero,List.set_cons_succ]
          refine aA (i:=15) (oi:=⟨some 64,_,_,_,_,_⟩) (v:=?_) rfl (by kernel_rfl) (by kernel_rfl) (by kernel_rfl) (by kernel_rfl) (fun _ _ _ h=>h) (Or.inl ⟨by rfl,?_⟩) (by assumption) ?_;rotate_left
          · intro w hSw;(try dsimp only at hSw);go_simp;(try with_reducible rfl)
          try simp only[Act.put,List.setIfInBounds_toArray,List.set_cons_zero,List.set_cons_succ]
          refine aA (i:=16) (oi:=⟨some 65,_,_,_,_,_⟩) (v:=?_) rfl (by kernel_rfl) (by kernel_rfl) (by kernel_rfl) (by kernel_rfl) (fun _ _ _ h=>h) (Or.inl ⟨by rfl,?_⟩) (by assumption) ?_;rotate_left
          · intro w hSw;(try dsimp only at hSw);go_simp;(try with_reducible rfl)
          try simp only[Act.put,List.setIfInBounds_toArray,List.set_cons_zero,List.set_cons_succ]
          refine aA (i:=17) (oi:=⟨some 66,_,_,_,_,_⟩) (v:=?_) rfl (by kernel_rfl) (by kernel_rfl) (by kernel_rfl) (by kernel_rfl) (fun _ _ _ h=>h) (Or.inl ⟨by rfl,?_⟩) (by assumption) ?_;rotate_left
          · intro w hSw;(try dsimp only at hSw);go_simp;(try with_reducible rfl)
          try simp only[Act.put,List.setIfInBounds_toArray,List.set_cons_zero,List.set_cons_succ]
          refine gQ (i:=18) (o:=⟨some 67,_,_,_,_,_⟩) (by kernel_rfl) rfl (fun K hK=>?_);rw[if_pos (by rfl)];go_simp;refine hK.out _ _ (by with_reducible exact HS9.out _ (aN (World.grownBy_alloc We _ none))) (fun dW=>?_);clear hK K hHeld;have hHeld:=dW;clear dW;try simp only[Act.put,List.setIfInBounds_toArray,List.set_cons_zero,List.set_cons_succ]
          refine gQ (i:=19) (o:=⟨some 68,_,_,_,_,_⟩) (by kernel_rfl) rfl (fun K hK=>?_);refine pX (o:=⟨some 68,_,_,_,_,_⟩) _ (by rfl) (.tmp 62) (.tmp 67) _ (by rfl) (W1.heap.size+4) 54 j0 _ 8 96 Tryz.underlying48 HI0.out HZ0.out HZ1.out HZ2.out (by rfl) hz _ nb (css et) (by rfl) abe.out _ (some ⟨We.heap.size,0,none⟩) 1 1 (#[.int .i64 (m:Int),.int .i64 (et:Int),.int .i64 e.kind,.int .i64 e.obj,.int .i64 e.value,.int .i64 e.site,.slice Ad e.deps.length cd,.slice Ae e.from_.length ce]:Array Value).toList (by rfl) HRL.out (by intro h;nomatch h) FM.out (by unfold maxLen;omega) (by omega) (Nat.le_trans HBS.out ED.out.size) ?_;intro v4 w4 hown4 hg4 qx;obtain⟨A4,k4,hv4,_⟩:=aj hown4;subst hv4;refine hK.out _ _ (by exact akR.out _ hg4) (fun dW=>?_);clear hK K hHeld;have hHeld:=dW;clear dW;try simp only[Act.put,List.setIfInBounds_toArray,List.set_cons_zero,List.set_cons_succ]
          refine aA (i:=20) (oi:=⟨some 69,_,_,_,_,_⟩) (v:=?_) rfl (by kernel_rfl) (by kernel_rfl) (by kernel_rfl) (by kernel_rfl) (fun _ _ _ h=>h) (Or.inl ⟨by rfl,?_⟩) (by assumption) ?_;rotate_left
          · intro w hSw;(try dsimp only at hSw);go_simp;(try with_reducible rfl)
          try simp only[Act.put,List.setIfInBounds_toArray,List.set_cons_zero,List.set_cons_succ]
          refine vg (o:=⟨none,_,_,_,_,_⟩) (by kernel_rfl) rfl (fun K hK=>?_);rw[if_pos (by rfl)];have qz:=HZF.out _ hg4;have qc:w4.cell? ⟨gB,et,none⟩=some (.slice Ab nb cb):=hHeld.2.2.2.2.2.2.2.2;go_simp;refine hK.out _ _ ?_;clear hK K;try simp only[Act.put,List.setIfInBounds_toArray,List.set_cons_zero,List.set_cons_succ]
          refine vk (by kernel_rfl) ?_ _;obtain⟨q,hq⟩:∃q,q=nb+1:=⟨_,rfl⟩;obtain⟨w5,hw5⟩:∃w5,w5=w4.setCell ⟨gB,et,none⟩ (.slice A4 (nb+1) k4):=⟨_,rfl⟩;rw[←hw5];have st:=ah w4 gB et (Value.slice A4 (nb+1) k4);have hbw:B≤We.heap.size:=by have:=HBS.out;omega
          have abg:=(((HM.out.oc et qM).grow ED.out hbw (fun _ e=>nomatch e)).snoc (r:=⟨m,e⟩) (cd:=cd) (cf:=ce) (HLD.out.grown ED.out hbw (fun _ e=>nomatch e)) (HLF.out.grown ED.out hbw (fun _ e=>nomatch e))).grow hg4 (Nat.le_trans hbw ED.out.size) (fun g e=>by have:=(abe.out.lt g e).1;have:=HM.out.lt;have:=HM.out.ge;omega);rw[HRV.out] at abg
          have Uk:RP 109 #[.slice (some ⟨gB,0,none⟩) t t,.slice (some ⟨gW,0,none⟩) t t,.slice (some ⟨gF,0,none⟩) t t] W1 (W1.heap.size+4) B t gR gB gW gF (s.push et ⟨m,e⟩) w5:=by
           rw[hw5];refine⟨⟨_,_,_,(HM.out.keep ED.out).grewB qM (by rw[List.length_append,←QQ.out];exact hown4) abg (by rw[HVB.out,←QQ.out];exact hg4) (by rw[HVB.out,←QQ.out];exact qx)⟩,((HR.out.grown ED.out (fun e=>nomatch e)).grown hg4 (fun e=>afj.out e.symm)).far (p:=⟨gB,et,none⟩) HNR.out.2.1 _,?_,O1.out,HNR.out⟩;exact jA (jA (jA VG.out ED.out (fun g e=>nomatch e)) hg4 (fun g e=>by have:=(abe.out.lt g e).1;have:=O1.out.1;omega)) st (fun g e=>by injection e with e;have:=O1.out.2.1;omega)
          have abh:Held w5 gE 52 #[.int .i64 (et:Int),.int .i64 e.kind,.int .i64 e.obj,.int .i64 e.value,.int .i64 e.site,.slice Ad e.deps.length cd,.slice Ae e.from_.length ce]:=by
           rw[hw5];exact ((HE.out.grown ED.out (fun e=>nomatch e)).grown hg4 (fun e=>afk.out e.symm)).far (p:=⟨gB,et,none⟩) (by have:=HM.out.lt;have:=akO.out;have:=HGE.out;show gE≠gB;omega) _
          have afl:=HB1.out.grown Uk.gr (fun e=>nomatch e);have hpush:(s.push et ⟨m,e⟩).buf et=s.buf et++ [⟨m,e⟩]:=by unfold St.push;simp[cZ]
          have hgood:=HGD.out.pushed (e:=e) (by have:=HET.out;omega) HV3.out HV4.out akK.out;rw[HTN.out] at hgood;have CW:=ae (fun (W':World) (hg:w5.grownBy W' none)=>yS W1 (W1.heap.size+4) B t gR gB gW gF (s.push et ⟨m,e⟩) W' (c+1) (m+1) et (Uk.keep hg) (hgood et qM) qM ht4 HP.out.c64 (by omega));have akS:=ae Uk;have y4:w5.cell? ⟨gR,0,none⟩=some (.slice (some ⟨gB,0,none⟩) t t):=Uk.rec_.cell 0;have y0:w5.cell? ⟨w.heap.size,0,none⟩=some (.int .i64 cap):=afl.cell 0;obtain⟨⟨vb2,vf2,PR,hM2⟩,_⟩:=Uk
          have y1:w5.cell? ⟨gB,et,none⟩=some (.slice A4 q k4):=by
           have h9:=((HM.out.hB.grown ED.out (fun e=>nomatch e)).grown hg4 (fun e=>aba.out e.symm)).store et (.slice A4 (nb+1) k4);rw[←hw5] at h9;rw[h9.cell et,hq];simp[fam,qM]
          have x0:w5.cell? ⟨gE,0,none⟩=some (.int .i64 (et:Int)):=abh.cell 0;have x1:w5.cell? ⟨gE,1,none⟩=some (.int .i64 e.kind):=abh.cell 1
          have abj:Hid (s.add cap m e=if ((q:Int)=cap∨e.kind=2) then (s.push et ⟨m,e⟩).write et else s.push et ⟨m,e⟩):=by
           refine ae ?_;unfold St.add;rw[HTN.out,hq,QQ.out]
          have apO:=Xt;clear hw5 hq st abg abh afl hpush hgood hM2 hown4 hg4 qx hHeld;by_cases hq1:(q:Int)=cap
          · have hqb:((q:Int)==cap)=true:=beq_iff_eq.2 hq1;have HQ:=ae hq1;clear hq1;go_wp2_with fail;go_quiet (fail);go_wp2_with (first | (go_at_call 39;refine (CW.out _ (aH (World.grownBy.refl w5 none) _)).mono ?_;rintro x w9 ⟨rfl,h9⟩) | fail);go_meet
            case rel=>rw [Xt.out,abj.out,if_pos (.inl HQ.out)];exact h9
          · have hqb:((q:Int)==cap)=false:=beq_eq_false_iff_ne.2 hq1;by_cases hk:e.kind=2
            · have hkb:(e.kind==2)=true:=beq_iff_eq.2 hk;have HK:=ae hk;clear hq1 hk;go_wp2_with fail;go_quiet (fail);go_wp2_with (first | (go_at_call 39;refine (CW.out _ (aH (World.grownBy.refl w5 none) _)).mono ?_;rintro x w9 ⟨rfl,h9⟩) | fail);go_meet
              case rel=>rw [Xt.out,abj.out,if_pos (.inr HK.out)];exact h9
            · have hkb:(e.kind==2)=false:=beq_eq_false_iff_ne.2 hk;have akT:Hid (¬((q:Int)=cap∨e.kind=2)):=ae (fun h=>h.elim hq1 hk);clear hq1 hk;go_wp2_with fail;go_quiet (fail);go_wp2_with fail;go_meet
              case rel=>rw [Xt.out,abj.out,if_neg akT.out];exact akS.out.keep (aH (World.grownBy.refl w5 none) _)
        · have HX:Hid (recA l ⟨cap,fl,stop,cu⟩ n=vY l ⟨cap,fl,stop,cu⟩ n):=ae (by
           have:n=0:=by omega
           subst this;rfl)
          go_wp2_with fail;go_meet
          case rel=>rw [HX.out];exact Zb.out
       case rest=>
        have akU:=ae hcut;have apP:=ae (HB1.out.grown hcut.gr (fun e=>nomatch e));clear hcut r1 r2 r3 Zb HPL;go_wp2_with fail;go_loopw [12] (fun iv wy=>∃(k:Nat) (s:St),iv= .int .i64 (k:Int)∧k≤nf∧RP 109 #[.slice (some ⟨gB,0,none⟩) t t,.slice (some ⟨gW,0,none⟩) t t,.slice (some ⟨gF,0,none⟩) t t] W1 (W1.heap.size+4) B t gR gB gW gF s wy∧Iv.Good c n t s∧s.flush n (fl.drop k)=vY l ⟨cap,fl,stop,cu⟩ (n+1)) (fun iv _=>nf - (intOf iv).toNat)
        case atStart=>exact ⟨0,_,rfl,Nat.zero_le _,akU.out,HRA.out,HRF.out⟩
        case round=>
         obtain⟨k2,s,rfl,hk2,abk,hgd2,afm⟩:=hrel;have AL:=ae abk;have abl:=ae hgd2;have abm:=ae afm;have r1:wr.cell? ⟨w.heap.size,1,none⟩=some (.slice Af nf cf):=(HB1.out.grown abk.gr (fun e=>nomatch e)).cell 1;clear abk hgd2 afm;by_cases hkf:k2 < nf
         · obtain⟨b,o,f,rfl,hbB,hfk,f0,f1⟩:=(HF1.out.grown AL.out.gr hBW (fun _ e=>nomatch e)).at hkf;obtain⟨g1,g2,g3⟩:=HP.out.fl f (List.mem_of_getElem? hfk);have HFD:=ae (Kt hfk s n);have YZ:=ae (yS W1 (W1.heap.size+4) B t gR gB gW gF s wr c n f.2.toNat AL.out (abl.out _ (by omega)) (by omega) ht4 (by have:=HP.out.c64;omega) (by omega));have hft:((f.2.toNat:Nat):Int)=f.2:=by omega
           rw[hft] at YZ;have HT:=ae (show f.2.toNat < t by omega);clear hfk hft;by_cases hfn:f.1=(n:Int)
           · have hfb:(f.1==(n:Int))=true:=beq_iff_eq.2 hfn;have HFN:=ae hfn;clear hfn;go_wp2_with (first | (go_at_call 39;refine YZ.out.mono ?_;rintro x w9 ⟨rfl,h9⟩) | fail);go_roundw
             case rel=>exact ⟨k2+1,s.write f.2.toNat,by go_num,by omega,h9,abl.out.write (by have:=HP.out.c64;omega) (by omega) ht4 _ HT.out,by have:=HFD.out;rw[if_pos HFN.out] at this;rw[←this];exact abm.out⟩
             case measure=>simp [intOf];omega
           · have hfb:(f.1==(n:Int))=false:=beq_eq_false_iff_ne.2 hfn;have HFN:=ae hfn;clear hfn;go_wp2_with fail;go_roundw
             case rel=>exact ⟨k2+1,s,by go_num,by omega,AL.out,abl.out,by have:=HFD.out;rw[if_neg HFN.out] at this;rw[←this];exact abm.out⟩
             case measure=>simp [intOf];omega
         · have HSN:Hid (s=vY l ⟨cap,fl,stop,cu⟩ (n+1)):=ae (by have:=abm.out;rw[List.drop_eq_nil_of_le (by have:=HF1.out.1;omega)] at this;exact this);go_wp2_with fail;go_roundw
           case rel=>exact ⟨n+1,by go_num,by omega,by rw[←HSN.out];exact AL.out⟩
           case measure=>simp [intOf];omega
     · have hx:n=N+1:=by omega
       have HX:Hid (vY l ⟨cap,fl,stop,cu⟩ n=jc (recorded l ⟨cap,fl,stop,cu⟩ (jQ l ⟨cap,fl,stop,cu⟩)) cu 0):=ae (by rw[hx,HNN.out,xO];rfl);rw[HX.out] at Zb;have hcl:cu.length≤t:=HP.out.cul;have HCL:Hid (cu.length=nc):=ae HC1.out.lenI;obtain⟨S,hS⟩:∃S,S=recorded l ⟨cap,fl,stop,cu⟩ (jQ l ⟨cap,fl,stop,cu⟩):=⟨_,rfl⟩;rw[←hS] at Zb
       have hfin:∀w9,RP 109 #[.slice (some ⟨gB,0,none⟩) t t,.slice (some ⟨gW,0,none⟩) t t,.slice (some ⟨gF,0,none⟩) t t] W1 (W1.heap.size+4) B t gR gB gW gF (jc S cu cu.length) w9→xB l (t:Int) ⟨cap,fl,stop,cu⟩ w (.returned (.tuple #[.slice (some ⟨gF,0,none⟩) t t,.int .i64 0])) w9:=by
        intro w9 h9;have he:aY l (t:Int) ⟨cap,fl,stop,cu⟩=0:=HP.out.ok;obtain⟨vf,WQ⟩:=h9.files w QO.out.size;refine⟨_,by rw[he],af QO.out h9.gr (.inl rfl),fun h=>absurd he h,fun _=>⟨t,gF,vf,rfl,rfl,?_⟩⟩;have:dN l ⟨cap,fl,stop,cu⟩=(jc S cu cu.length).file:=by rw[hS];rfl
        rw[this];exact WQ
       have zV:=ae hfin
       have hm4:(decide ((n:Int)≤stop)=false)∨(decide ((n:Int)≤stop)=true∧decide (n≤nl)=false):=by
        by_cases h:(n:Int)≤stop
        · exact .inr ⟨decide_eq_true h,decide_eq_false (by omega)⟩
        · exact .inl (decide_eq_false h)
       clear hS hfin hx;rcases hm4 with hmd | ⟨hmd,hme⟩
       all_goals
        go_wp2_with fail;go_loopw [13] (fun iv wr=>∃j:Nat,iv= .int .i64 (j:Int)∧j≤nc∧RP 109 #[.slice (some ⟨gB,0,none⟩) t t,.slice (some ⟨gW,0,none⟩) t t,.slice (some ⟨gF,0,none⟩) t t] W1 (W1.heap.size+4) B t gR gB gW gF (jc S cu j) wr) (fun iv _=>nc - (intOf iv).toNat)
        case atStart=>exact ⟨0,rfl,Nat.zero_le _,Zb.out⟩
        case round=>
         obtain⟨j,rfl,hj,Xv⟩:=hrel;have AL:=ae Xv;have q6:wr.cell? ⟨gR,2,none⟩=some (.slice (some ⟨gF,0,none⟩) t t):=Xv.rec_.cell 2;have r3':wr.cell? ⟨w.heap.size,3,none⟩=some (.slice Ac nc cc):=(HB1.out.grown Xv.gr (fun e=>nomatch e)).cell 3;clear r1 r2 r3 Xv;by_cases hjn:j < nc
         · obtain⟨ad,u,rfl,hb1,hx,hc⟩:=(HC1.out.grown AL.out.gr hBW (fun _ e=>nomatch e)).cellAt hjn;simp only[List.getElem?_map,Option.map_eq_some_iff] at hx;obtain⟨x,hx,rfl⟩:=hx;unfold iv at hc;have hx0:0≤x:=HP.out.cu x (List.mem_of_getElem? hx);have hx1:=HI.out.2 x (List.mem_of_getElem? hx);obtain⟨vb3,vf3,apR,hM⟩:=AL.out.ex;have hjt:j < t:=by have:=HCL.out;omega
           have Xt:=ae (Kq (s:=S) hx);have HAT:=ae (RX S cu j);obtain⟨A3,c3,hv3,hn3,hm3,hl3,ho3⟩:=aj (hM.of_ j hjt);have kF:wr.cell? ⟨gF,j,none⟩=some (.slice A3 ((jc S cu j).file j).length c3):=by rw[hM.hF.cell j,fE _ hjt,hv3]
           have zF:=hM.hF.free j;have i0:(0:Int)≤(j:Int):=by omega
           have i1:(j:Int) < (t:Int):=by omega
           obtain⟨L,hL⟩:∃L,L=((jc S cu j).file j).length:=⟨_,rfl⟩;have KF:=ae kF;rw[←hL] at kF hn3;have HL:=ae hL;have apS:L≤9223372036854775807:=by unfold maxLen at hm3;omega
           obtain⟨m,hm⟩:∃m,m=L - x.toNat:=⟨_,rfl⟩;have hml:m≤L:=by omega
           obtain⟨q,hq⟩:∃q,q=min L x.toNat:=⟨_,rfl⟩
           have hmn:(if (L:Int) < x then (L:Int) else x)=(q:Int):=by
            split
            · omega
            · omega
           have hmo:min x (L:Int)=(q:Int):=by omega
           have hsub:(L:Int) - (q:Int)=(m:Int):=by omega
           have hwm:IntKind.i64.wrap (m:Int)=(m:Int):=IntWalk.i64_in _ (by omega);have HMM:=ae hm;have h0m:(0:Int)≤(m:Int):=by omega
           have hmc:(m:Int)≤(c3:Int):=by omega
           clear hx hx1 hM hv3 hl3 ho3 hL hm hq hm3;go_upto_region 22 with fail;go_still_tail 19,(by kernel_rfl);change wpList _ _ _ _ _ wr.drew;have afo:=ae (AL.out.keep (aN (World.grownBy.refl wr none)));have kFd:wr.drew.cell? ⟨gF,j,none⟩=some (.slice A3 ((jc S cu j).file j).length c3):=KF.out;have zFd:wr.drew.frozen? ⟨gF,j,none⟩=false:=zF;clear q6 kF KF zF hc AL r3';generalize wr.drew=wd at afo kFd zFd⊢;have KFD:=ae kFd;go_wp2_with fail;go_roundw
           case rel=>exact ⟨j+1,by go_num,by omega,by
            rw[Xt.out,←HAT.out];unfold wP;rw[←HL.out,←HMM.out];have:=afo.out.cut hjt KFD.out (m:=m) (by rw[←HL.out];exact hml);exact this⟩
           case measure=>simp [intOf];omega
         · have HJ:Hid (j=cu.length):=ae (by have:=HCL.out;omega);go_wp2_with fail;go_ret2;exact zV.out _ (by rw[←HJ.out];exact AL.out)
 · have hbb:(b==0)=false:=beq_eq_false_iff_ne.2 hb0;go_wp2_with (first | (go_at_call 38;refine (CA.out W (World.grownBy.refl W none)).mono ?_;rintro e w2 ⟨rfl,hg2⟩) | fail);go_ret2;exact Dk HBK.out.symm hb0 (af EC.out hg2 (.inl rfl))
