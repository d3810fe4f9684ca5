/- Words. -/
import Derived.Test.YtfbkkgfkhhibfaaGreatRwrR
import Derived.BigRegion
set_option linter.unusedVariables false
set_option maxRecDepth 100000
set_option maxHeartbeats 8000000
namespace Go.Proofs.YtfbkkgfkhhibfaaGreat
open Go Go.RowKit Iv
theorem L8 (l:List Ev)(Al:Option Addr)(nl cl:Nat)(thr:Int)(p:Pln)(Af:Option Addr)(nf cf:Nat)(Ac:Option Addr)(nc cc B:Nat)(w:World)(hl:Evs w B Al nl l)(hf:Fls w B Af nf p.flushes)(Zq:Lies w B 1 Ac nc (p.cuts.map iv))(hB:B≤w.heap.size)(hnf:nf≤1000000)(hnc:nc≤1000000)(hnl:nl≤1000000)(hnum:∀e∈l,RecFit ⟨0,e⟩)(hi64:inI64 p.stop∧allI64 p.cuts):
 Calls Tryz.prog 21 #[.slice Al nl cl,.int .i64 thr,.agg (qF p Af nf cf Ac nc cc)] w fun e w'=>xM l thr p w e w':=by
 obtain⟨cap,fl,stop,cu⟩:=p;obtain⟨W,hW⟩:∃W,W=w.alloc (.cells #[.int .i64 cap,.slice Af nf cf,.int .i64 stop,.slice Ac nc cc] 39):=⟨_,rfl⟩;have gZ:w.grownBy W none:=by rw[hW];exact World.grownBy_alloc w _ none
 have hb0:Held W w.heap.size 39 #[.int .i64 cap,.slice Af nf cf,.int .i64 stop,.slice Ac nc cc]:=by rw[hW];exact Held.new _ _ _
 have CA:=ae (fun (W':World) (hg:W.grownBy W' none)=>UB l Al nl cl thr ⟨cap,fl,stop,cu⟩ Af nf cf Ac nc cc B W' (hl.grown (af gZ hg (.inl rfl)) hB (fun _ e=>nomatch e)) (hf.grown (af gZ hg (.inl rfl)) hB (fun _ e=>nomatch e)) (Zq.grown (af gZ hg (.inl rfl)) hB (fun _ e=>nomatch e)) (Nat.le_trans hB (Nat.le_trans gZ.size hg.size)) hnf hnc);have HW:=ae hW;have yZ:=ae gZ;have HB0:=ae hb0;have HN:=ae hnum;have HL:=ae hl;have HF:=ae hf;have HC:=ae Zq;have HI:=ae hi64;have FZ:=ae hl.1;clear hW hnum hi64;obtain⟨b,hbk⟩:∃b,b=aY l thr ⟨cap,fl,stop,cu⟩:=⟨_,rfl⟩;rw[←hbk] at CA;have HBK:=ae hbk;clear hbk;unfold qF at CA⊢;dsimp only at CA⊢;have k0:W.cell? ⟨w.heap.size,0,none⟩=some (.int .i64 cap):=hb0.cell 0;have k1:W.cell? ⟨w.heap.size,1,none⟩=some (.slice Af nf cf):=hb0.cell 1;have k2:W.cell? ⟨w.heap.size,2,none⟩=some (.int .i64 stop):=hb0.cell 2;have k3:W.cell? ⟨w.heap.size,3,none⟩=some (.slice Ac nc cc):=hb0.cell 3;clear hl hf Zq hb0 gZ;go_enter Tryz.func21,Tryz.ntmps21;go_upto_region 1 with fail;rw[show w.alloc (.cells #[.int .i64 cap,.slice Af nf cf,.int .i64 stop,.slice Ac nc cc] 39)=W from HW.out.symm];by_cases hb0:b=0
 · subst hb0;go_upto_region 2 with (first | (go_at_call 38;refine (CA.out W (World.grownBy.refl W none)).mono ?_;rintro e w2 ⟨rfl,hg2⟩) | fail)
   have hgw:=af yZ.out hg2 (.inl rfl);obtain⟨t,c,rfl,hpg⟩:=xR HBK.out.symm;have HP:=ae hpg;have ht4:=hpg.thr4;have mk1:=fun w=>xN Tryz.underlying91 O4 rfl (by omega) w ht4
   have mk2:=fun w=>xN Tryz.underlying37 yQ rfl (by omega) w ht4
   have mk3:=fun w=>xN Tryz.underlying41 JU rfl (by omega) w ht4
   have Q9:=ae hgw;have HB1:=ae (HB0.out.grown hg2 (fun e=>nomatch e));have hlt2:w.heap.size < w2.heap.size:=HB1.out.lt;clear hpg hgw hg2 k0 k1 k2 k3;obtain⟨W1,hW1⟩:∃W1,W1=w2:=⟨_,rfl⟩;subst hW1;go_upto_region 4 with fail;go_cut [9] (fun v wx=>∃gR gB gW gF:Nat,v= .pointer (some ⟨gR,0,none⟩)∧RP 109 #[.slice (some ⟨gB,0,none⟩) t t,.slice (some ⟨gW,0,none⟩) t t,.slice (some ⟨gF,0,none⟩) t t] W1 (W1.heap.size+4) B t gR gB gW gF St.none wx)
   case first=>
    go_region_held3 (fun w'=>True) (exact True.intro) (first | fail)
    all_goals
     go_wp2_with fail;go_meet
     case rel=>
      obtain⟨h0,h1,h2,h3,hg,hs⟩:=ady W1 _ _ _ _ _ _ _ _;exact⟨_,_,_,_,rfl,RP.init (by with_reducible first | exact h0 | exact h1 | exact h2 | exact h3) (by with_reducible first | exact h0 | exact h1 | exact h2 | exact h3) (by with_reducible first | exact h0 | exact h1 | exact h2 | exact h3) (by with_reducible first | exact h0 | exact h1 | exact h2 | exact h3) hg ⟨by omega,by omega,by omega,by omega⟩ ⟨by omega,by omega,by omega,by omega⟩ ⟨by omega,by omega,by omega⟩ ⟨by omega,by omega,by omega⟩ (Nat.le_trans hB Q9.out.size) (by rw[hs];exact Nat.le_refl _)⟩
   case rest=>
    obtain⟨gR,gB,gW,gF,akZ,hrp⟩:=hcut;subst akZ;clear mk1 mk2 mk3;have hstop:0≤stop:=HP.out.stop;have h4:nl≤400:=by have:=HP.out.len;have:=FZ.out;omega
    obtain⟨N,hN⟩:∃N,N=jQ l ⟨cap,fl,stop,cu⟩:=⟨_,rfl⟩;have hN1:(N:Int)≤stop:=by rw[hN];unfold jQ;simp only;omega
    have hN2:N≤nl:=by rw[hN];unfold jQ;have:=FZ.out;omega
    have hN3:(N:Int)=stop∨N=nl:=by rw[hN];unfold jQ;have:=FZ.out;simp only;omega
    have HNN:=ae hN;clear hN;have hBW:B≤W1.heap.size:=Nat.le_trans hB Q9.out.size;have HL1:=ae (HL.out.grown Q9.out hB (fun _ e=>nomatch e));have HF1:=ae (HF.out.grown Q9.out hB (fun _ e=>nomatch e));have HC1:=ae (HC.out.grown Q9.out hB (fun _ e=>nomatch e));have ak1:=ae hrp;clear hrp;go_wp2_with fail;go_loopw [10] (fun iv wr=>∃n:Nat,iv= .int .i64 (n:Int)∧n≤N+1∧RP 109 #[.slice (some ⟨gB,0,none⟩) t t,.slice (some ⟨gW,0,none⟩) t t,.slice (some ⟨gF,0,none⟩) t t] W1 (W1.heap.size+4) B t gR gB gW gF (wJ l ⟨cap,fl,stop,cu⟩ n) wr) (fun iv _=>N+1 - (intOf iv).toNat)
    case atStart=>exact ⟨0,rfl,Nat.zero_le _,ak1.out⟩
    case round=>
     obtain⟨n,rfl,hn,hrp⟩:=hrel;have Zr:=ae hrp;have HPL:=ae (HB1.out.grown hrp.gr (fun e=>nomatch e));have r1:wr.cell? ⟨w.heap.size,1,none⟩=some (.slice Af nf cf):=HPL.out.cell 1;have r2:wr.cell? ⟨w.heap.size,2,none⟩=some (.int .i64 stop):=HPL.out.cell 2;have r3:wr.cell? ⟨w.heap.size,3,none⟩=some (.slice Ac nc cc):=HPL.out.cell 3;clear hrp;by_cases hgo:n≤N
     · have HRA:Hid (Iv.Good c n t (recA l ⟨cap,fl,stop,cu⟩ n)):=ae (HP.out.recA HN.out n (by have:=FZ.out;omega));have HRF:Hid ((recA l ⟨cap,fl,stop,cu⟩ n).flush n fl=wJ l ⟨cap,fl,stop,cu⟩ (n+1)):=ae (KI (p:=⟨cap,fl,stop,cu⟩) (by have:=FZ.out;omega));have hm1:decide ((n:Int)≤stop)=true:=decide_eq_true (by omega);have hm2:decide (n≤nl)=true:=decide_eq_true (by omega);go_upto_if 43 with fail;go_cut [11] (fun _ wx=>RP 109 #[.slice (some ⟨gB,0,none⟩) t t,.slice (some ⟨gW,0,none⟩) t t,.slice (some ⟨gF,0,none⟩) t t] W1 (W1.heap.size+4) B t gR gB gW gF (recA l ⟨cap,fl,stop,cu⟩ n) wx)
       case first=>
        by_cases hn0:(0:Int) < (n:Int)
        · obtain⟨m,hm⟩:∃m,n=m+1:=⟨n - 1,by omega⟩;have hmm:(n:Int) - 1=(m:Int):=by omega
          have hwm:IntKind.i64.wrap (m:Int)=(m:Int):=IntWalk.i64_in _ (by omega);have hml:m < nl:=by omega
          obtain⟨b,o,e,Ad,cd,Ae,ce,rfl,hb,hem,e0,e1,e2,e3,e4,e5,e6,hld,hlf⟩:=(HL1.out.grown Zr.out.gr hBW (fun _ e=>nomatch e)).at hml;have hmem:e∈l:=List.mem_of_getElem? hem;obtain⟨v1,v2,v3,v4⟩:=HP.out.ev e hmem;have HEM:=ae hem;have ak2:=ae hmem;have ak3:=ae hld;have ak4:=ae hlf;obtain⟨et,het⟩:∃et:Nat,e.thread=(et:Int):=⟨e.thread.toNat,by omega⟩;rw[het] at e0;have qW:et < t:=by omega
          have ak5:=ae qW;have HET:=ae het;have HV3:=ae v3;have HV4:=ae v4;have HM1:=ae hm;clear hem hmem hld hlf het qW v1 v2 v3 v4 hm;go_upto_region 10 with fail;clear e0 e1 e2 e3 e4 e5 e6;have hem:=HEM.out;have hmem:=ak2.out;have hld:=ak3.out;have hlf:=ak4.out;have het:=HET.out;have qW:=ak5.out;have v3:=HV3.out;have v4:=HV4.out;have hm:=HM1.out;have htn:e.thread.toNat=et:=by omega
          have XK:Hid (recA l ⟨cap,fl,stop,cu⟩ n=(wJ l ⟨cap,fl,stop,cu⟩ n).add cap m e):=ae (by rw[hm];exact um (p:=⟨cap,fl,stop,cu⟩) hem);have ak7:=ae ((HN.out e hmem).seqOf (n:=(m:Int)) ⟨by omega,by omega⟩);have HGD:=ae (show Iv.Good c m t (wJ l ⟨cap,fl,stop,cu⟩ n) by rw[hm];exact HP.out.recorded HN.out m (by have:=FZ.out;omega));have HTN:=ae htn;obtain⟨s,hs⟩:∃s,s=wJ l ⟨cap,fl,stop,cu⟩ n:=⟨_,rfl⟩;rw[←hs] at XK HGD;have afz:=Zr.out;rw[←hs] at afz;obtain⟨We,hWe⟩:∃We,We=wr.alloc (.cells #[.int .i64 (et:Int),.int .i64 e.kind,.int .i64 e.obj,.int .i64 e.value,.int .i64 e.site,.slice Ad e.deps.length cd,.slice Ae e.from_.length ce] 52):=⟨_,rfl⟩;have gZ:wr.grownBy We none:=by rw[hWe];exact World.grownBy_alloc wr _ none
          obtain⟨gE,hgE⟩:∃gE,gE=wr.heap.size:=⟨_,rfl⟩;have hE:Held We gE 52 #[.int .i64 (et:Int),.int .i64 e.kind,.int .i64 e.obj,.int .i64 e.value,.int .i64 e.site,.slice Ad e.deps.length cd,.slice Ae e.from_.length ce]:=by rw[hWe,hgE];exact Held.new _ _ _
          have HWE:=ae hWe;have HGE:=ae hgE;clear hWe hgE hmem hem hs htn het hm;obtain⟨⟨vb,vf,css,hM0⟩,hR0,afA,hlo,hnr⟩:=afz;have hM:=hM0.keep gZ;have hR:=hR0.grown gZ (fun e=>nomatch e);have hgr:=jB afA gZ (fun g e=>nomatch e);have ala:=ae (fun g (e:(vb et).ownBlock=some g)=>((hM0.ob et qW).lt g e).2);have alb:=ae hM0.bs;clear hM0 hR0 afA;have hBr:B≤wr.heap.size:=by have:=Zr.out.gr.size;omega
          have HLD:=ae (hld.grown gZ hBr (fun _ e=>nomatch e));have HLF:=ae (hlf.grown gZ hBr (fun _ e=>nomatch e));have VX:=ae hgr;have i0:(0:Int)≤(et:Int):=by omega
          have i1:(et:Int) < (t:Int):=by omega
          have HE:=ae hE;obtain⟨Ab,cb,hvb,hbn,hbm,_,hbo⟩:=aj (hM.ob et qW);have hob:=hM.ob et qW;rw[hvb] at hob;have YO:=ae hob;have hlen:=(HGD.out et qW).len;obtain⟨nb,hnb⟩:∃nb,nb=(s.buf et).length:=⟨_,rfl⟩;have Ri:=ae hnb;have HM:=ae hM;have HR:=ae hR;have HVB:=ae hvb;obtain⟨j0,hi,hz0,hz1,hz2⟩:=info_parts xU;have HI0:=ae hi;have HZ0:=ae hz0;have HZ1:=ae hz1;have HZ2:=ae hz2;have hz:(0:Nat) < 8:=by omega
          have alc:=HP.out.c64;have ann:nb≤64:=by omega
          have abu:Hid ((Value.slice Ab nb cb).ownBlock≠some gB):=ae (by rw[hnb];exact gq hob hM.lt.1);have afC:Hid ((Value.slice Ab nb cb).ownBlock≠some gR):=ae (by rw[hnb];exact gq hob hnr.1);have afD:Hid ((Value.slice Ab nb cb).ownBlock≠some gE):=ae (fun e=>by have:=ala.out gE (by rw[hvb,←hnb];exact e);rw[HGE.out] at this;omega);have HBS:=ae hM.bs;have S0:Hid ((fun w'=>w'.cell? ⟨gR,0,none⟩=some (.slice (some ⟨gB,0,none⟩) t t)∧w'.cell? ⟨gE,0,none⟩=some (.int .i64 (et:Int))∧w'.cell? ⟨gE,1,none⟩=some (.int .i64 e.kind)∧w'.cell? ⟨gE,2,none⟩=some (.int .i64 e.obj)∧w'.cell? ⟨gE,3,none⟩=some (.int .i64 e.value)∧w'.cell? ⟨gE,4,none⟩=some (.int .i64 e.site)∧w'.cell? ⟨gE,5,none⟩=some (.slice Ad e.deps.length cd)∧w'.cell? ⟨gE,6,none⟩=some (.slice Ae e.from_.length ce)∧w'.cell? ⟨gB,et,none⟩=some (.slice Ab nb cb)) We):=ae ⟨hR.cell 0,hE.cell 0,hE.cell 1,hE.cell 2,hE.cell 3,hE.cell 4,hE.cell 5,hE.cell 6,by rw[hM.hB.cell et,fF _ qW,hvb,hnb]⟩;have HS9:Hid (∀W',We.grownBy W' none→(fun w'=>w'.cell? ⟨gR,0,none⟩=some (.slice (some ⟨gB,0,none⟩) t t)∧w'.cell? ⟨gE,0,none⟩=some (.int .i64 (et:Int))∧w'.cell? ⟨gE,1,none⟩=some (.int .i64 e.kind)∧w'.cell? ⟨gE,2,none⟩=some (.int .i64 e.obj)∧w'.cell? ⟨gE,3,none⟩=some (.int .i64 e.value)∧w'.cell? ⟨gE,4,none⟩=some (.int .i64 e.site)∧w'.cell? ⟨gE,5,none⟩=some (.slice Ad e.deps.length cd)∧w'.cell? ⟨gE,6,none⟩=some (.slice Ae e.from_.length ce)∧w'.cell? ⟨gB,et,none⟩=some (.slice Ab nb cb)) W'):=ae fun W' hg=>⟨(HR.out.grown hg (fun e=>nomatch e)).cell 0,(HE.out.grown hg (fun e=>nomatch e)).cell 0,(HE.out.grown hg (fun e=>nomatch e)).cell 1,(HE.out.grown hg (fun e=>nomatch e)).cell 2,(HE.out.grown hg (fun e=>nomatch e)).cell 3,(HE.out.grown hg (fun e=>nomatch e)).cell 4,(HE.out.grown hg (fun e=>nomatch e)).cell 5,(HE.out.grown hg (fun e=>nomatch e)).cell 6,by rw[(HM.out.hB.grown hg (fun e=>nomatch e)).cell et,fF _ qW,HVB.out,Ri.out]⟩
          have HRV:Hid (recV ⟨m,e⟩ Ad e.deps.length cd Ae e.from_.length ce=#[.int .i64 (m:Int),.int .i64 (et:Int),.int .i64 e.kind,.int .i64 e.obj,.int .i64 e.value,.int .i64 e.site,.slice Ad e.deps.length cd,.slice Ae e.from_.length ce]):=ae (by unfold recV;rw[HET.out]);have hrl:=UC We ⟨m,e⟩ Ad e.deps.length cd Ae e.from_.length ce;rw[HRV.out] at hrl;have HRL:=ae hrl.drew;have EK:=ae (aI (World.grownBy_alloc We (.cells #[.int .i64 (m:Int),.int .i64 (et:Int),.int .i64 e.kind,.int .i64 e.obj,.int .i64 e.value,.int .i64 e.site,.slice Ad e.deps.length cd,.slice Ae e.from_.length ce] 54) none));have FX:Hid (∀u∈(#[.int .i64 (m:Int),.int .i64 (et:Int),.int .i64 e.kind,.int .i64 e.obj,.int .i64 e.value,.int .i64 e.site,.slice Ad e.deps.length cd,.slice Ae e.from_.length ce]:Array Value).toList,u.oneCell'=true):=ae (by have:=XM ⟨m,e⟩ Ad e.deps.length cd Ae e.from_.length ce;rw[HRV.out] at this;exact this);have abv:=hob;rw[←hnb] at abv;have abw:=ae (ay abv EK.out (fun _ _ e=>nomatch e))
          have ale:Hid (∀W',(We.alloc (.cells #[.int .i64 (m:Int),.int .i64 (et:Int),.int .i64 e.kind,.int .i64 e.obj,.int .i64 e.value,.int .i64 e.site,.slice Ad e.deps.length cd,.slice Ae e.from_.length ce] 54)).drew.grownBy W' (Value.slice Ab nb cb).ownBlock→(fun w'=>w'.cell? ⟨gR,0,none⟩=some (.slice (some ⟨gB,0,none⟩) t t)∧w'.cell? ⟨gE,0,none⟩=some (.int .i64 (et:Int))∧w'.cell? ⟨gE,1,none⟩=some (.int .i64 e.kind)∧w'.cell? ⟨gE,2,none⟩=some (.int .i64 e.obj)∧w'.cell? ⟨gE,3,none⟩=some (.int .i64 e.value)∧w'.cell? ⟨gE,4,none⟩=some (.int .i64 e.site)∧w'.cell? ⟨gE,5,none⟩=some (.slice Ad e.deps.length cd)∧w'.cell? ⟨gE,6,none⟩=some (.slice Ae e.from_.length ce)∧w'.cell? ⟨gB,et,none⟩=some (.slice Ab nb cb)) W'):=ae fun W' hg=>by
           have q1:=(HR.out.grown EK.out (fun e=>nomatch e)).grown hg (fun e=>afC.out e.symm);have q2:=(HE.out.grown EK.out (fun e=>nomatch e)).grown hg (fun e=>afD.out e.symm);have q3:=(HM.out.hB.grown EK.out (fun e=>nomatch e)).grown hg (fun e=>abu.out e.symm);exact⟨q1.cell 0,q2.cell 0,q2.cell 1,q2.cell 2,q2.cell 3,q2.cell 4,q2.cell 5,q2.cell 6,by rw[q3.cell et,fF _ qW,HVB.out,Ri.out]⟩
          have HZF:Hid (∀W',(We.alloc (.cells #[.int .i64 (m:Int),.int .i64 (et:Int),.int .i64 e.kind,.int .i64 e.obj,.int .i64 e.value,.int .i64 e.site,.slice Ad e.deps.length cd,.slice Ae e.from_.length ce] 54)).drew.grownBy W' (Value.slice Ab nb cb).ownBlock→W'.frozen? ⟨gB,et,none⟩=false):=ae fun W' hg=>((HM.out.hB.grown EK.out (fun e=>nomatch e)).grown hg (fun e=>abu.out e.symm)).free et
          have Py:=ae hlo;have HNR:=ae hnr;clear hlo hnr v3 v4 alc hM hR hgr hld hlf gZ hE hvb hob abv hi hz0 hz1 hz2 hrl hlen hnb hbn hbm hbo;rw[←HGE.out,show wr.alloc (.cells #[.int .i64 (et:Int),.int .i64 e.kind,.int .i64 e.obj,.int .i64 e.value,.int .i64 e.site,.slice Ad e.deps.length cd,.slice Ae e.from_.length ce] 52)=We from HWE.out.symm];refine pq (z:=21) (S:=fun w'=>w'.cell? ⟨gR,0,none⟩=some (.slice (some ⟨gB,0,none⟩) t t)∧w'.cell? ⟨gE,0,none⟩=some (.int .i64 (et:Int))∧w'.cell? ⟨gE,1,none⟩=some (.int .i64 e.kind)∧w'.cell? ⟨gE,2,none⟩=some (.int .i64 e.obj)∧w'.cell? ⟨gE,3,none⟩=some (.int .i64 e.value)∧w'.cell? ⟨gE,4,none⟩=some (.int .i64 e.site)∧w'.cell? ⟨gE,5,none⟩=some (.slice Ad e.deps.length cd)∧w'.cell? ⟨gE,6,none⟩=some (.slice Ae e.from_.length ce)∧w'.cell? ⟨gB,et,none⟩=some (.slice Ab nb cb)) (by kernel_rfl) (by exact HS9.out _ (aI (World.grownBy.refl We none))) (fun hHeld=>?_);refine aA (i:=0) (oi:=⟨some 49,_,_,_,_,_⟩) (v:=?_) rfl (by kernel_rfl) (by kernel_rfl) (by kernel_rfl) (by kernel_rfl) (fun _ _ _ h=>h) (Or.inl ⟨by rfl,?_⟩) (by assumption) ?_;rotate_left
          · intro w hSw;(try dsimp only at hSw);go_simp;(try with_reducible rfl)
          try simp only[Act.put,List.setIfInBounds_toArray,List.set_cons_zero,List.set_cons_succ]
          refine aA (i:=1) (oi:=⟨some 50,_,_,_,_,_⟩) (v:=?_) rfl (by kernel_rfl) (by kernel_rfl) (by kernel_rfl) (by kernel_rfl) (fun _ _ _ h=>h) (Or.inl ⟨by rfl,?_⟩) (by assumption) ?_;rotate_left
          · intro w hSw;(try dsimp only at hSw);go_simp;(try with_reducible rfl)
          try simp only[Act.put,List.setIfInBounds_toArray,List.set_cons_zero,List.set_cons_succ]
          refine aA (i:=2) (oi:=⟨some 51,_,_,_,_,_⟩) (v:=?_) rfl (by kernel_rfl) (by kernel_rfl) (by kernel_rfl) (by kernel_rfl) (fun _ _ _ h=>h) (Or.inl ⟨by rfl,?_⟩) (by assumption) ?_;rotate_left
          · intro w hSw;(try dsimp only at hSw);go_simp;(try with_reducible rfl)
          try simp only[Act.put,List.setIfInBounds_toArray,List.set_cons_zero,List.set_cons_succ]
          refine aA (i:=3) (oi:=⟨some 52,_,_,_,_,_⟩) (v:=?_) rfl (by kernel_rfl) (by kernel_rfl) (by kernel_rfl) (by kernel_rfl) (fun _ _ _ h=>h) (Or.inl ⟨by rfl,?_⟩) (by assumption) ?_;rotate_left
          · intro w hSw;(try dsimp only at hSw);go_simp;(try with_reducible rfl)
          try simp only[Act.put,List.setIfInBounds_toArray,List.set_cons_zero,List.set_cons_succ]
          refine aA (i:=4) (oi:=⟨some 53,_,_,_,_,_⟩) (v:=?_) rfl (by kernel_rfl) (by kernel_rfl) (by kernel_rfl) (by kernel_rfl) (fun _ _ _ h=>h) (Or.inl ⟨by rfl,?_⟩) (by assumption) ?_;rotate_left
          · intro w hSw;(try dsimp only at hSw);go_simp;(try with_reducible rfl)
          try simp only[Act.put,List.setIfInBounds_toArray,List.set_cons_zero,List.set_cons_succ]
          refine aA (i:=5) (oi:=⟨some 54,_,_,_,_,_⟩) (v:=?_) rfl (by kernel_rfl) (by kernel_rfl) (by kernel_rfl) (by kernel_rfl) (fun _ _ _ h=>h) (Or.inl ⟨by rfl,?_⟩) (by assumption) ?_;rotate_left
          · intro w hSw;(try dsimp only at hSw);go_simp;(try with_reducible rfl)
          try simp only[Act.put,List.setIfInBounds_toArray,List.set_cons_zero,List.set_cons_succ]
          refine aA (i:=6) (oi:=⟨some 55,_,_,_,_,_⟩) (v:=?_) rfl (by kernel_rfl) (by kernel_rfl) (by kernel_rfl) (by kernel_rfl) (fun _ _ _ h=>h) (Or.inl ⟨by rfl,?_⟩) (by assumption) ?_;rotate_left
          · intro w hSw;(try dsimp only at hSw);go_simp;(try with_reducible rfl)
          try simp only[Act.put,List.setIfInBounds_toArray,List.set_cons_zero,List.set_cons_succ]
          refine aA (i:=7) (oi:=⟨some 56,_,_,_,_,_⟩) (v:=?_) rfl (by kernel_rfl) (by kernel_rfl) (by kernel_rfl) (by kernel_rfl) (fun _ _ _ h=>h) (Or.inl ⟨by rfl,?_⟩) (by assumption) ?_;rotate_left
          · intro w hSw;(try dsimp only at hSw);go_simp;(try with_reducible rfl)
          try simp only[Act.put,List.setIfInBounds_toArray,List.set_cons_zero,List.set_cons_succ]
          refine aA (i:=8) (oi:=⟨some 57,_,_,_,_,_⟩) (v:=?_) rfl (by kernel_rfl) (by kernel_rfl) (by kernel_rfl) (by kernel_rfl) (fun _ _ _ h=>h) (Or.inl ⟨by rfl,?_⟩) (by assumption) ?_;rotate_left
          · intro w hSw;(try dsimp only at hSw);go_simp;(try with_reducible rfl)
          try simp only[Act.put,List.setIfInBounds_toArray,List.set_cons_zero,List.set_cons_succ]
          refine aA (i:=9) (oi:=⟨some 58,_,_,_,_,_⟩) (v:=?_) rfl (by kernel_rfl) (by kernel_rfl) (by kernel_rfl) (by kernel_rfl) (fun _ _ _ h=>h) (Or.inl ⟨by rfl,?_⟩) (by assumption) ?_;rotate_left
          · intro w hSw;(try dsimp only at hSw);go_simp;(try with_reducible rfl)
          try simp only[Act.put,List.setIfInBounds_toArray,List.set_cons_zero,List.set_cons_succ]
          refine aA (i:=10) (oi:=⟨some 59,_,_,_,_,_⟩) (v:=?_) rfl (by kernel_rfl) (by kernel_rfl) (by kernel_rfl) (by kernel_rfl) (fun _ _ _ h=>h) (Or.inl ⟨by rfl,?_⟩) (by assumption) ?_;rotate_left
          · intro w hSw;(try dsimp only at hSw);go_simp;(try with_reducible rfl)
          try simp only[Act.put,List.setIfInBounds_toArray,List.set_cons_zero,List.set_cons_succ]
          refine aA (i:=11) (oi:=⟨some 60,_,_,_,_,_⟩) (v:=?_) rfl (by kernel_rfl) (by kernel_rfl) (by kernel_rfl) (by kernel_rfl) (fun _ _ _ h=>h) (Or.inl ⟨by rfl,?_⟩) (by assumption) ?_;rotate_left
          · intro w hSw;(try dsimp only at hSw);go_simp;(try with_reducible rfl)
          try simp only[Act.put,List.setIfInBounds_toArray,List.set_cons_zero,List.set_cons_succ]
          refine aA (i:=12) (oi:=⟨some 61,_,_,_,_,_⟩) (v:=?_) rfl (by kernel_rfl) (by kernel_rfl) (by kernel_rfl) (by kernel_rfl) (fun _ _ _ h=>h) (Or.inl ⟨by rfl,?_⟩) (by assumption) ?_;rotate_left
          · intro w hSw;(try dsimp only at hSw);go_simp;(try with_reducible rfl)
          try simp only[Act.put,List.setIfInBounds_toArray,List.set_cons_zero,List.set_cons_succ]
          refine aA (i:=13) (oi:=⟨some 62,_,_,_,_,_⟩) (v:=?_) rfl (by kernel_rfl) (by kernel_rfl) (by kernel_rfl) (by kernel_rfl) (fun _ _ _ h=>h) (Or.inl ⟨by rfl,?_⟩) (by assumption) ?_;rotate_left
          · intro w hSw;(try dsimp only at hSw);go_simp;(try with_reducible rfl)
          try simp only[Act.put,List.setIfInBounds_toArray,List.set_cons_zero,List.set_cons_succ]
          refine aA (i:=14) (oi:=⟨some 63,_,_,_,_,_⟩) (v:=?_) rfl (by kernel_rfl) (by kernel_rfl) (by kernel_rfl) (by kernel_rfl) (fun _ _ _ h=>h) (Or.inl ⟨by rfl,?_⟩) (by assumption) ?_;rotate_left
          · intro w hSw;(try dsimp only at hSw);go_simp;(try with_reducible rfl)
          try simp only[Act.put,List.setIfInBounds_toArray,List.set_cons_zero,List.set_cons_succ]
          refine aA (i:=15) (oi:=⟨some 64,_,_,_,_,_⟩) (v:=?_) rfl (by kernel_rfl) (by kernel_rfl) (by kernel_rfl) (by kernel_rfl) (fun _ _ _ h=>h) (Or.inl ⟨by rfl,?_⟩) (by assumption) ?_;rotate_left
          · intro w hSw;(try dsimp only at hSw);go_simp;(try with_reducible rfl)
          try simp only[Act.put,List.setIfInBounds_toArray,List.set_cons_zero,List.set_cons_succ]
          refine aA (i:=16) (oi:=⟨some 65,_,_,_,_,_⟩) (v:=?_) rfl (by kernel_rfl) (by kernel_rfl) (by kernel_rfl) (by kernel_rfl) (fun _ _ _ h=>h) (Or.inl ⟨by rfl,?_⟩) (by assumption) ?_;rotate_left
          · intro w hSw;(try dsimp only at hSw);go_simp;(try with_reducible rfl)
          try simp only[Act.put,List.setIfInBounds_toArray,List.set_cons_zero,List.set_cons_succ]
          refine aA (i:=17) (oi:=⟨some 66,_,_,_,_,_⟩) (v:=?_) rfl (by kernel_rfl) (by kernel_rfl) (by kernel_rfl) (by kernel_rfl) (fun _ _ _ h=>h) (Or.inl ⟨by rfl,?_⟩) (by assumption) ?_;rotate_left
          · intro w hSw;(try dsimp only at hSw);go_simp;(try with_reducible rfl)
          try simp only[Act.put,List.setIfInBounds_toArray,List.set_cons_zero,List.set_cons_succ]
          refine dK (i:=18) (o:=⟨some 67,_,_,_,_,_⟩) (by kernel_rfl) rfl (fun K hK=>?_);rw[if_pos (by rfl)];go_simp;refine hK.out _ _ (by with_reducible exact HS9.out _ (aI (World.grownBy_alloc We _ none))) (fun bI=>?_);clear hK K hHeld;have hHeld:=bI;clear bI;try simp only[Act.put,List.setIfInBounds_toArray,List.set_cons_zero,List.set_cons_succ]
          refine dK (i:=19) (o:=⟨some 68,_,_,_,_,_⟩) (by kernel_rfl) rfl (fun K hK=>?_);refine qm (o:=⟨some 68,_,_,_,_,_⟩) _ (by rfl) (.tmp 62) (.tmp 67) _ (by rfl) (W1.heap.size+4) 54 j0 _ 8 96 Tryz.underlying48 HI0.out HZ0.out HZ1.out HZ2.out (by rfl) hz _ nb (css et) (by rfl) abw.out _ (some ⟨We.heap.size,0,none⟩) 1 1 (#[.int .i64 (m:Int),.int .i64 (et:Int),.int .i64 e.kind,.int .i64 e.obj,.int .i64 e.value,.int .i64 e.site,.slice Ad e.deps.length cd,.slice Ae e.from_.length ce]:Array Value).toList (by rfl) HRL.out (by intro h;nomatch h) FX.out (by unfold maxLen;omega) (by omega) (Nat.le_trans HBS.out EK.out.size) ?_;intro v4 w4 hown4 hg4 qH;obtain⟨A4,k4,hv4,_⟩:=aj hown4;subst hv4;refine hK.out _ _ (by exact ale.out _ hg4) (fun bI=>?_);clear hK K hHeld;have hHeld:=bI;clear bI;try simp only[Act.put,List.setIfInBounds_toArray,List.set_cons_zero,List.set_cons_succ]
          refine aA (i:=20) (oi:=⟨some 69,_,_,_,_,_⟩) (v:=?_) rfl (by kernel_rfl) (by kernel_rfl) (by kernel_rfl) (by kernel_rfl) (fun _ _ _ h=>h) (Or.inl ⟨by rfl,?_⟩) (by assumption) ?_;rotate_left
          · intro w hSw;(try dsimp only at hSw);go_simp;(try with_reducible rfl)
          try simp only[Act.put,List.setIfInBounds_toArray,List.set_cons_zero,List.set_cons_succ]
          refine vM (o:=⟨none,_,_,_,_,_⟩) (by kernel_rfl) rfl (fun K hK=>?_);rw[if_pos (by rfl)];have qz:=HZF.out _ hg4;have qc:w4.cell? ⟨gB,et,none⟩=some (.slice Ab nb cb):=hHeld.2.2.2.2.2.2.2.2;go_simp;refine hK.out _ _ ?_;clear hK K;try simp only[Act.put,List.setIfInBounds_toArray,List.set_cons_zero,List.set_cons_succ]
          refine pg (by kernel_rfl) ?_ _;obtain⟨q,hq⟩:∃q,q=nb+1:=⟨_,rfl⟩;obtain⟨w5,hw5⟩:∃w5,w5=w4.setCell ⟨gB,et,none⟩ (.slice A4 (nb+1) k4):=⟨_,rfl⟩;rw[←hw5];have st:=ah w4 gB et (Value.slice A4 (nb+1) k4);have hbw:B≤We.heap.size:=by have:=HBS.out;omega
          have abx:=(((HM.out.oc et qW).grow EK.out hbw (fun _ e=>nomatch e)).snoc (r:=⟨m,e⟩) (cd:=cd) (cf:=ce) (HLD.out.grown EK.out hbw (fun _ e=>nomatch e)) (HLF.out.grown EK.out hbw (fun _ e=>nomatch e))).grow hg4 (Nat.le_trans hbw EK.out.size) (fun g e=>by have:=(abw.out.lt g e).1;have:=HM.out.lt;have:=HM.out.ge;omega);rw[HRV.out] at abx
          have UD:RP 109 #[.slice (some ⟨gB,0,none⟩) t t,.slice (some ⟨gW,0,none⟩) t t,.slice (some ⟨gF,0,none⟩) t t] W1 (W1.heap.size+4) B t gR gB gW gF (s.push et ⟨m,e⟩) w5:=by
           rw[hw5];refine⟨⟨_,_,_,(HM.out.keep EK.out).grewB qW (by rw[List.length_append,←Ri.out];exact hown4) abx (by rw[HVB.out,←Ri.out];exact hg4) (by rw[HVB.out,←Ri.out];exact qH)⟩,((HR.out.grown EK.out (fun e=>nomatch e)).grown hg4 (fun e=>afC.out e.symm)).far (p:=⟨gB,et,none⟩) HNR.out.2.1 _,?_,Py.out,HNR.out⟩;exact jB (jB (jB VX.out EK.out (fun g e=>nomatch e)) hg4 (fun g e=>by have:=(abw.out.lt g e).1;have:=Py.out.1;omega)) st (fun g e=>by injection e with e;have:=Py.out.2.1;omega)
          have aby:Held w5 gE 52 #[.int .i64 (et:Int),.int .i64 e.kind,.int .i64 e.obj,.int .i64 e.value,.int .i64 e.site,.slice Ad e.deps.length cd,.slice Ae e.from_.length ce]:=by
           rw[hw5];exact ((HE.out.grown EK.out (fun e=>nomatch e)).grown hg4 (fun e=>afD.out e.symm)).far (p:=⟨gB,et,none⟩) (by have:=HM.out.lt;have:=alb.out;have:=HGE.out;show gE≠gB;omega) _
          have afE:=HB1.out.grown UD.gr (fun e=>nomatch e);have hpush:(s.push et ⟨m,e⟩).buf et=s.buf et++ [⟨m,e⟩]:=by unfold St.push;simp[dn]
          have hgood:=HGD.out.pushed (e:=e) (by have:=HET.out;omega) HV3.out HV4.out ak7.out;rw[HTN.out] at hgood;have CW:=ae (fun (W':World) (hg:w5.grownBy W' none)=>y8 W1 (W1.heap.size+4) B t gR gB gW gF (s.push et ⟨m,e⟩) W' (c+1) (m+1) et (UD.keep hg) (hgood et qW) qW ht4 HP.out.c64 (by omega));have alf:=ae UD;have y4:w5.cell? ⟨gR,0,none⟩=some (.slice (some ⟨gB,0,none⟩) t t):=UD.rec_.cell 0;have y0:w5.cell? ⟨w.heap.size,0,none⟩=some (.int .i64 cap):=afE.cell 0;obtain⟨⟨vb2,vf2,Qa,hM2⟩,_⟩:=UD
          have y1:w5.cell? ⟨gB,et,none⟩=some (.slice A4 q k4):=by
           have h9:=((HM.out.hB.grown EK.out (fun e=>nomatch e)).grown hg4 (fun e=>abu.out e.symm)).store et (.slice A4 (nb+1) k4);rw[←hw5] at h9;rw[h9.cell et,hq];simp[fam,qW]
          have x0:w5.cell? ⟨gE,0,none⟩=some (.int .i64 (et:Int)):=aby.cell 0;have x1:w5.cell? ⟨gE,1,none⟩=some (.int .i64 e.kind):=aby.cell 1
          have abz:Hid (s.add cap m e=if ((q:Int)=cap∨e.kind=2) then (s.push et ⟨m,e⟩).write et else s.push et ⟨m,e⟩):=by
           refine ae ?_;unfold St.add;rw[HTN.out,hq,Ri.out]
          have ap2:=XK;clear hw5 hq st abx aby afE hpush hgood hM2 hown4 hg4 qH hHeld;by_cases hq1:(q:Int)=cap
          · have hqb:((q:Int)==cap)=true:=beq_iff_eq.2 hq1;have HQ:=ae hq1;clear hq1;go_wp2_with fail;go_quiet (fail);go_wp2_with (first | (go_at_call 39;refine (CW.out _ (aH (World.grownBy.refl w5 none) _)).mono ?_;rintro x w9 ⟨rfl,h9⟩) | fail);go_meet
            case rel=>rw [XK.out,abz.out,if_pos (.inl HQ.out)];exact h9
          · have hqb:((q:Int)==cap)=false:=beq_eq_false_iff_ne.2 hq1;by_cases hk:e.kind=2
            · have hkb:(e.kind==2)=true:=beq_iff_eq.2 hk;have HK:=ae hk;clear hq1 hk;go_wp2_with fail;go_quiet (fail);go_wp2_with (first | (go_at_call 39;refine (CW.out _ (aH (World.grownBy.refl w5 none) _)).mono ?_;rintro x w9 ⟨rfl,h9⟩) | fail);go_meet
              case rel=>rw [XK.out,abz.out,if_pos (.inr HK.out)];exact h9
            · have hkb:(e.kind==2)=false:=beq_eq_false_iff_ne.2 hk;have alg:Hid (¬((q:Int)=cap∨e.kind=2)):=ae (fun h=>h.elim hq1 hk);clear hq1 hk;go_wp2_with fail;go_quiet (fail);go_wp2_with fail;go_meet
              case rel=>rw [XK.out,abz.out,if_neg alg.out];exact alf.out.keep (aH (World.grownBy.refl w5 none) _)
        · have HX:Hid (recA l ⟨cap,fl,stop,cu⟩ n=wJ l ⟨cap,fl,stop,cu⟩ n):=ae (by
           have:n=0:=by omega
           subst this;rfl)
          go_wp2_with fail;go_meet
          case rel=>rw [HX.out];exact Zr.out
       case rest=>
        have alh:=ae hcut;have ap3:=ae (HB1.out.grown hcut.gr (fun e=>nomatch e));clear hcut r1 r2 r3 Zr HPL;go_wp2_with fail;go_loopw [12] (fun iv wy=>∃(k:Nat) (s:St),iv= .int .i64 (k:Int)∧k≤nf∧RP 109 #[.slice (some ⟨gB,0,none⟩) t t,.slice (some ⟨gW,0,none⟩) t t,.slice (some ⟨gF,0,none⟩) t t] W1 (W1.heap.size+4) B t gR gB gW gF s wy∧Iv.Good c n t s∧s.flush n (fl.drop k)=wJ l ⟨cap,fl,stop,cu⟩ (n+1)) (fun iv _=>nf - (intOf iv).toNat)
        case atStart=>exact ⟨0,_,rfl,Nat.zero_le _,alh.out,HRA.out,HRF.out⟩
        case round=>
         obtain⟨k2,s,rfl,hk2,abA,hgd2,afF⟩:=hrel;have AY:=ae abA;have abB:=ae hgd2;have abC:=ae afF;have r1:wr.cell? ⟨w.heap.size,1,none⟩=some (.slice Af nf cf):=(HB1.out.grown abA.gr (fun e=>nomatch e)).cell 1;clear abA hgd2 afF;by_cases hkf:k2 < nf
         · obtain⟨b,o,f,rfl,hbB,hfk,f0,f1⟩:=(HF1.out.grown AY.out.gr hBW (fun _ e=>nomatch e)).at hkf;obtain⟨g1,g2,g3⟩:=HP.out.fl f (List.mem_of_getElem? hfk);have HFD:=ae (KH hfk s n);have Zl:=ae (y8 W1 (W1.heap.size+4) B t gR gB gW gF s wr c n f.2.toNat AY.out (abB.out _ (by omega)) (by omega) ht4 (by have:=HP.out.c64;omega) (by omega));have hft:((f.2.toNat:Nat):Int)=f.2:=by omega
           rw[hft] at Zl;have HT:=ae (show f.2.toNat < t by omega);clear hfk hft;by_cases hfn:f.1=(n:Int)
           · have hfb:(f.1==(n:Int))=true:=beq_iff_eq.2 hfn;have HFN:=ae hfn;clear hfn;go_wp2_with (first | (go_at_call 39;refine Zl.out.mono ?_;rintro x w9 ⟨rfl,h9⟩) | fail);go_roundw
             case rel=>exact ⟨k2+1,s.write f.2.toNat,by go_num,by omega,h9,abB.out.write (by have:=HP.out.c64;omega) (by omega) ht4 _ HT.out,by have:=HFD.out;rw[if_pos HFN.out] at this;rw[←this];exact abC.out⟩
             case measure=>simp [intOf];omega
           · have hfb:(f.1==(n:Int))=false:=beq_eq_false_iff_ne.2 hfn;have HFN:=ae hfn;clear hfn;go_wp2_with fail;go_roundw
             case rel=>exact ⟨k2+1,s,by go_num,by omega,AY.out,abB.out,by have:=HFD.out;rw[if_neg HFN.out] at this;rw[←this];exact abC.out⟩
             case measure=>simp [intOf];omega
         · have HSN:Hid (s=wJ l ⟨cap,fl,stop,cu⟩ (n+1)):=ae (by have:=abC.out;rw[List.drop_eq_nil_of_le (by have:=HF1.out.1;omega)] at this;exact this);go_wp2_with fail;go_roundw
           case rel=>exact ⟨n+1,by go_num,by omega,by rw[←HSN.out];exact AY.out⟩
           case measure=>simp [intOf];omega
     · have hx:n=N+1:=by omega
       have HX:Hid (wJ l ⟨cap,fl,stop,cu⟩ n=jd (recorded l ⟨cap,fl,stop,cu⟩ (jQ l ⟨cap,fl,stop,cu⟩)) cu 0):=ae (by rw[hx,HNN.out,xY];rfl);rw[HX.out] at Zr;have hcl:cu.length≤t:=HP.out.cul;have HCL:Hid (cu.length=nc):=ae HC1.out.lenI;obtain⟨S,hS⟩:∃S,S=recorded l ⟨cap,fl,stop,cu⟩ (jQ l ⟨cap,fl,stop,cu⟩):=⟨_,rfl⟩;rw[←hS] at Zr
       have hfin:∀w9,RP 109 #[.slice (some ⟨gB,0,none⟩) t t,.slice (some ⟨gW,0,none⟩) t t,.slice (some ⟨gF,0,none⟩) t t] W1 (W1.heap.size+4) B t gR gB gW gF (jd S cu cu.length) w9→xM l (t:Int) ⟨cap,fl,stop,cu⟩ w (.returned (.tuple #[.slice (some ⟨gF,0,none⟩) t t,.int .i64 0])) w9:=by
        intro w9 h9;have he:aY l (t:Int) ⟨cap,fl,stop,cu⟩=0:=HP.out.ok;obtain⟨vf,Xh⟩:=h9.files w Q9.out.size;refine⟨_,by rw[he],af Q9.out h9.gr (.inl rfl),fun h=>absurd he h,fun _=>⟨t,gF,vf,rfl,rfl,?_⟩⟩;have:ed l ⟨cap,fl,stop,cu⟩=(jd S cu cu.length).file:=by rw[hS];rfl
        rw[this];exact Xh
       have Aa:=ae hfin
       have hm4:(decide ((n:Int)≤stop)=false)∨(decide ((n:Int)≤stop)=true∧decide (n≤nl)=false):=by
        by_cases h:(n:Int)≤stop
        · exact .inr ⟨decide_eq_true h,decide_eq_false (by omega)⟩
        · exact .inl (decide_eq_false h)
       clear hS hfin hx;rcases hm4 with hmd | ⟨hmd,hme⟩
       all_goals
        go_wp2_with fail;go_loopw [13] (fun iv wr=>∃j:Nat,iv= .int .i64 (j:Int)∧j≤nc∧RP 109 #[.slice (some ⟨gB,0,none⟩) t t,.slice (some ⟨gW,0,none⟩) t t,.slice (some ⟨gF,0,none⟩) t t] W1 (W1.heap.size+4) B t gR gB gW gF (jd S cu j) wr) (fun iv _=>nc - (intOf iv).toNat)
        case atStart=>exact ⟨0,rfl,Nat.zero_le _,Zr.out⟩
        case round=>
         obtain⟨j,rfl,hj,XN⟩:=hrel;have AY:=ae XN;have q6:wr.cell? ⟨gR,2,none⟩=some (.slice (some ⟨gF,0,none⟩) t t):=XN.rec_.cell 2;have r3':wr.cell? ⟨w.heap.size,3,none⟩=some (.slice Ac nc cc):=(HB1.out.grown XN.gr (fun e=>nomatch e)).cell 3;clear r1 r2 r3 XN;by_cases hjn:j < nc
         · obtain⟨ad,u,rfl,hb1,hx,hc⟩:=(HC1.out.grown AY.out.gr hBW (fun _ e=>nomatch e)).cellAt hjn;simp only[List.getElem?_map,Option.map_eq_some_iff] at hx;obtain⟨x,hx,rfl⟩:=hx;unfold iv at hc;have hx0:0≤x:=HP.out.cu x (List.mem_of_getElem? hx);have hx1:=HI.out.2 x (List.mem_of_getElem? hx);obtain⟨vb3,vf3,ap5,hM⟩:=AY.out.ex;have hjt:j < t:=by have:=HCL.out;omega
           have XK:=ae (KE (s:=S) hx);have HAT:=ae (SK S cu j);obtain⟨A3,c3,hv3,hn3,hm3,hl3,ho3⟩:=aj (hM.of_ j hjt);have kF:wr.cell? ⟨gF,j,none⟩=some (.slice A3 ((jd S cu j).file j).length c3):=by rw[hM.hF.cell j,fF _ hjt,hv3]
           have zF:=hM.hF.free j;have i0:(0:Int)≤(j:Int):=by omega
           have i1:(j:Int) < (t:Int):=by omega
           obtain⟨L,hL⟩:∃L,L=((jd S cu j).file j).length:=⟨_,rfl⟩;have KF:=ae kF;rw[←hL] at kF hn3;have HL:=ae hL;have ap6:L≤9223372036854775807:=by unfold maxLen at hm3;omega
           obtain⟨m,hm⟩:∃m,m=L - x.toNat:=⟨_,rfl⟩;have hml:m≤L:=by omega
           obtain⟨q,hq⟩:∃q,q=min L x.toNat:=⟨_,rfl⟩
           have hmn:(if (L:Int) < x then (L:Int) else x)=(q:Int):=by
            split
            · omega
            · omega
           have hmo:min x (L:Int)=(q:Int):=by omega
           have hsub:(L:Int) - (q:Int)=(m:Int):=by omega
           have hwm:IntKind.i64.wrap (m:Int)=(m:Int):=IntWalk.i64_in _ (by omega);have HMM:=ae hm;have h0m:(0:Int)≤(m:Int):=by omega
           have hmc:(m:Int)≤(c3:Int):=by omega
           clear hx hx1 hM hv3 hl3 ho3 hL hm hq hm3;go_upto_region 22 with fail;go_still_tail 19,(by kernel_rfl);change wpList _ _ _ _ _ wr.drew;have afH:=ae (AY.out.keep (aI (World.grownBy.refl wr none)));have kFd:wr.drew.cell? ⟨gF,j,none⟩=some (.slice A3 ((jd S cu j).file j).length c3):=KF.out;have zFd:wr.drew.frozen? ⟨gF,j,none⟩=false:=zF;clear q6 kF KF zF hc AY r3';generalize wr.drew=wd at afH kFd zFd⊢;have KFD:=ae kFd;go_wp2_with fail;go_roundw
           case rel=>exact ⟨j+1,by go_num,by omega,by
            rw[XK.out,←HAT.out];unfold wZ;rw[←HL.out,←HMM.out];have:=afH.out.cut hjt KFD.out (m:=m) (by rw[←HL.out];exact hml);exact this⟩
           case measure=>simp [intOf];omega
         · have HJ:Hid (j=cu.length):=ae (by have:=HCL.out;omega);go_wp2_with fail;go_ret2;exact Aa.out _ (by rw[←HJ.out];exact AY.out)
 · have hbb:(b==0)=false:=beq_eq_false_iff_ne.2 hb0;go_wp2_with (first | (go_at_call 38;refine (CA.out W (World.grownBy.refl W none)).mono ?_;rintro e w2 ⟨rfl,hg2⟩) | fail);go_ret2;exact Dv HBK.out.symm hb0 (af yZ.out hg2 (.inl rfl))
