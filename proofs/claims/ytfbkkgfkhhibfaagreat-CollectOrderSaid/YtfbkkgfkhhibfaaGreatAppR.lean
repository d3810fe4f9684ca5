/- Words. -/
import Derived.Test.YtfbkkgfkhhibfaaGreatCln
import Derived.Deep.RegionHeld3
import Derived.Deep.DeepCutAuto
set_option linter.unusedVariables false
set_option maxRecDepth 100000
set_option maxHeartbeats 8000000
namespace Go.Proofs.YtfbkkgfkhhibfaaGreat
open Go Go.RowKit Iv
def recV (r:Rec)(Ad:Option Addr)(nd cd:Nat)(Af:Option Addr)(nf cf:Nat):Array Value:=
 #[.int .i64 r.seq,.int .i64 r.ev.thread,.int .i64 r.ev.kind,.int .i64 r.ev.obj,.int .i64 r.ev.value,.int .i64 r.ev.site,.slice Ad nd cd,.slice Af nf cf]
theorem bZ {W w1:World}(h:W.grownBy w1 none){b:Nat}{cs:Array Value}{t:TypeId}(hb:W.heap[b]?=some (.cells cs t (0,0)))(j:Nat):w1.cell? ⟨b,j,none⟩=cs[j]?:=by
 have hlt:b < W.heap.size:=(Array.getElem?_eq_some_iff.1 hb).1;have e:w1.heap[b]?=W.heap[b]?:=h.block b hlt (fun e=>by cases e);rw[hb] at e;exact cell_of_row w1 b j cs t (0,0) e
def Out (W:World)(base:Nat)(v:Value)(ys:Bytes)(wr:World):Prop:=
 wr.ownsRow base 5 1 v ys.length (ys.map bv)∧W.grownBy wr none∧At W none v.ownBlock
theorem Out.step {W w1 w2:World}{base:Nat}{v v':Value}{ys zs:Bytes}(h:Out W base v ys w1)(h2:w2.ownsRow base 5 1 v' zs.length (zs.map bv))(hg:w1.grownBy w2 v.ownBlock)(ha:At w1 v.ownBlock v'.ownBlock):Out W base v' zs w2:=
 ⟨h2,af h.2.1 hg h.2.2,h.2.2.trans ha h.2.1.size⟩
theorem pW {W w1:World}{base:Nat}{v:Value}{ys:Bytes}(m:Int)(h:Out W base v ys w1)(hm:inI64 m)(hl:ys.length≤1000000000000)(hb:base≤W.heap.size):
 Calls Tryz.prog 111 #[v,.int .i64 m] w1 fun e w'=>∃v',e= .returned v'∧Out W base v' (ys++aF m) w':=
 (yG base v v.ownBlock ys m w1 (App.own h.1) hm hl (Nat.le_trans hb h.2.1.size)).mono fun e w' ⟨v',he,h1,h2,h3⟩=>⟨v',he,h.step h1 h2 h3⟩
theorem Hy (A:Option Addr)(n c B:Nat)(xs:Bytes)(r:Rec)(Ad:Option Addr)(nd cd:Nat)(Af:Option Addr)(nf cf:Nat)(seq:Int)(w:World)
 (h:Lies w B 1 A n (xs.map bv)) (hnc:n≤c) (hn:n≤100000000000) (hr:RecOk r) (hs:inI64 seq)
 (hd:Lies w B 1 Ad nd (r.ev.deps.map iv)) (hf:Lies w B 1 Af nf (r.ev.from_.map iv)) (hB:B≤w.heap.size) (base:Nat) (hbase:base≤w.heap.size):
 Calls Tryz.prog 79 #[.slice A n c,.agg (recV r Ad nd cd Af nf cf),.int .i64 seq] w fun e w'=>∃v',e= .returned v'∧w'.ownsRow base 5 1 v' (xs++bD r seq).length ((xs++bD r seq).map bv)∧w.grownBy w' none∧At w none v'.ownBlock:=by
 have HR:=ae hr;have HXL:=ae h.lenB;obtain⟨W,hW⟩:∃W,W=(w.alloc (.cells (recV r Ad nd cd Af nf cf) 54)).alloc (.cells #[.int .i64 r.ev.thread,.int .i64 r.ev.kind,.int .i64 r.ev.obj,.int .i64 r.ev.value,.int .i64 r.ev.site,.slice Ad nd cd,.slice Af nf cf] 52):=⟨_,rfl⟩
 have iW:w.grownBy W none:=by
  rw[hW];exact af (World.grownBy_alloc w _ none) (World.grownBy_alloc _ _ none) (.inl rfl)
 have hb1:W.heap[w.heap.size+1]?=some (.cells #[.int .i64 r.ev.thread,.int .i64 r.ev.kind,.int .i64 r.ev.obj,.int .i64 r.ev.value,.int .i64 r.ev.site,.slice Ad nd cd,.slice Af nf cf] 52 (0,0)):=by
  rw[hW];have:=heap_alloc_new (w.alloc (.cells (recV r Ad nd cd Af nf cf) 54)) (.cells #[.int .i64 r.ev.thread,.int .i64 r.ev.kind,.int .i64 r.ev.obj,.int .i64 r.ev.value,.int .i64 r.ev.site,.slice Ad nd cd,.slice Af nf cf] 52);rwa [World.size_alloc] at this
 have hb0:W.heap[w.heap.size]?=some (.cells (recV r Ad nd cd Af nf cf) 54 (0,0)):=by
  rw[hW];refine (Below.heap_alloc _ _ _ (by simp)).trans ?_;exact heap_alloc_new w _
 have c0:W.cell? ⟨w.heap.size,0,none⟩=some (.int .i64 r.seq):=(bZ (World.grownBy.refl W none) hb0 0);have HW:=ae hW;have HB1:=ae hb1;clear hW hb1 hb0;have hbW:base≤W.heap.size:=Nat.le_trans hbase iW.size;have hA:Lies W B 1 A n (xs.map bv):=h.grown iW hB (fun g hg=>by cases hg);have hdW:Lies W B 1 Ad nd (r.ev.deps.map iv):=hd.grown iW hB (fun g hg=>by cases hg);have hfW:Lies W B 1 Af nf (r.ev.from_.map iv):=hf.grown iW hB (fun g hg=>by cases hg);have CP0:=yG base (.slice A n n) none xs (wrap64 (r.seq - seq)) W.drew (by rw[HXL.out];exact App.cut (hA.drew)) (bY _) (by rw[HXL.out];omega) hbW;rw[←IntWalk.i64_left] at CP0;have CP:=ae CP0;clear CP0;have h0:(0:Int)≤(n:Int):=by omega
 unfold recV at *
 clear hr;go_enter Tryz.func79,Tryz.ntmps79;go_wp2_with fail;rw[show (w.alloc (.cells #[.int .i64 r.seq,.int .i64 r.ev.thread,.int .i64 r.ev.kind,.int .i64 r.ev.obj,.int .i64 r.ev.value,.int .i64 r.ev.site,.slice Ad nd cd,.slice Af nf cf] 54)).alloc (.cells #[.int .i64 r.ev.thread,.int .i64 r.ev.kind,.int .i64 r.ev.obj,.int .i64 r.ev.value,.int .i64 r.ev.site,.slice Ad nd cd,.slice Af nf cf] 52)=W from HW.out.symm]
 go_region_held3 (fun w'=>w'.cell? ⟨w.heap.size,0,none⟩=some (.int .i64 r.seq)) (first | go_keep | exact World.grownBy.cell (by assumption) c0 (by simp)) (first
  | (go_at_call 111;((with_reducible refine CP.out.mono ?_);rintro e w1 ⟨v1,rfl,hown1,hg1,jT⟩;replace hg1:=jr hg1;replace jT:=At.drew jT)))
 rw[IntWalk.i64_left] at hown1;have lxs:xs.length≤100000000000:=by rw[HXL.out];exact hn
 have ls:=aI (bY (r.seq - seq));have lk:=aI HR.out.kind;have lo:=aI HR.out.obj;have lv:=aI HR.out.value;have lt:=aI HR.out.site;have lp:=x9 HR.out seq;obtain⟨y1,hy1⟩:∃y,y=xs++aF (wrap64 (r.seq - seq)):=⟨_,rfl⟩;rw[←hy1] at hown1;have b1:y1.length≤100000000010:=by rw[hy1,List.length_append];omega
 have Nw:=ae hy1;have QM:Out W base v1 y1 w1:=⟨hown1,hg1,jT⟩;clear hown1 hg1 jT c0 hy1;have d1:w1.cell? ⟨w.heap.size+1,1,none⟩=some (.int .i64 r.ev.kind):=bZ QM.2.1 HB1.out 1;go_wp2_with fail;refine (pW r.ev.kind QM HR.out.kind (by omega) hbW).mono ?_;rintro e w2 ⟨v2,rfl,hO2⟩;obtain⟨y2,hy2⟩:∃y,y=y1++aF r.ev.kind:=⟨_,rfl⟩;rw[←hy2] at hO2;have b2:y2.length≤100000000020:=by rw[hy2,List.length_append];omega
 have V5:=ae hy2;clear hy2 d1 QM;have d2:w2.cell? ⟨w.heap.size+1,2,none⟩=some (.int .i64 r.ev.obj):=bZ hO2.2.1 HB1.out 2;go_wp2_with fail;refine (pW r.ev.obj hO2 HR.out.obj (by omega) hbW).mono ?_;rintro e w3 ⟨v3,rfl,hO3⟩;obtain⟨y3,hy3⟩:∃y,y=y2++aF r.ev.obj:=⟨_,rfl⟩;rw[←hy3] at hO3;have b3:y3.length≤100000000030:=by rw[hy3,List.length_append];omega
 have HY3:=ae hy3;clear hy3 d2 hO2;have d3:w3.cell? ⟨w.heap.size+1,3,none⟩=some (.int .i64 r.ev.value):=bZ hO3.2.1 HB1.out 3;go_wp2_with fail;refine (pW r.ev.value hO3 HR.out.value (by omega) hbW).mono ?_;rintro e w4 ⟨v4,rfl,hO4⟩;obtain⟨y4,hy4⟩:∃y,y=y3++aF r.ev.value:=⟨_,rfl⟩;rw[←hy4] at hO4;have b4:y4.length≤100000000040:=by rw[hy4,List.length_append];omega
 have HY4:=ae hy4;clear hy4 d3 hO3;have d4:w4.cell? ⟨w.heap.size+1,4,none⟩=some (.int .i64 r.ev.site):=bZ hO4.2.1 HB1.out 4;go_wp2_with fail;refine (pW r.ev.site hO4 HR.out.site (by omega) hbW).mono ?_;rintro e w5 ⟨v5,rfl,Rz⟩;obtain⟨y5,V6⟩:∃y,y=y4++aF r.ev.site:=⟨_,rfl⟩;rw[←V6] at Rz;have b5:y5.length≤100000000050:=by rw[V6,List.length_append];omega
 have HY5:=ae V6;clear V6 d4 hO4;have d5:w5.cell? ⟨w.heap.size+1,5,none⟩=some (.slice Ad nd cd):=bZ Rz.2.1 HB1.out 5;have d6:w5.cell? ⟨w.heap.size+1,6,none⟩=some (.slice Af nf cf):=bZ Rz.2.1 HB1.out 6;obtain⟨full,hfull⟩:∃f,f=xs++bD r seq:=⟨_,rfl⟩
 have hf5:y5++(jd r.ev.deps++jd r.ev.from_)=full:=by
  rw[hfull,HY5.out,HY4.out,HY3.out,V5.out,Nw.out];unfold bD;simp only[List.append_assoc]
 have bF:full.length≤100000010000:=by rw[hfull,List.length_append];omega
 have HF:=ae hfull;have HF5:=ae hf5;clear hfull hf5 ls lk lo lv lt lp;go_wp2_with fail;clear d5 d6;go_loopw [0,47] (fun v i wr=>∃(kk:Int) (ys:Bytes),i= .int .i64 kk∧Out W base v ys wr∧((kk=0∧ys++(jd r.ev.deps++jd r.ev.from_)=full)∨(kk=1∧ys++jd r.ev.from_=full)∨(kk=2∧ys=full))) (fun _ i _=>(2 - intOf i).toNat)
 case atStart=>exact ⟨0,y5,rfl,Rz,.inl ⟨rfl,HF5.out⟩⟩
 case round=>
  clear Rz;obtain⟨kk,ys,rfl,hO,hcs⟩:=hrel;by_cases h2:kk=2
  · subst h2
    have hyf:ys=full:=by
     rcases hcs with ⟨h,_⟩ | ⟨h,_⟩ | ⟨_,h⟩
     · exact absurd h (by decide)
     · exact absurd h (by decide)
     · exact h
    clear hcs;have hO':=hO;rw[hyf] at hO';have HO:=ae hO';clear hyf hO';go_wp2_with fail;go_ret;refine⟨_,rfl,?_⟩;rw[←HF.out];exact⟨HO.out.1,af iW HO.out.2.1 (.inl rfl),(At.refl w none).trans HO.out.2.2 iW.size⟩
  · have hix:∃(L:List Int) (Al:Option Addr) (nl cl:Nat) (rest:Bytes),Lies W B 1 Al nl (L.map iv)∧allI64 L∧L.length≤400∧
     (∀w,(Instr.index 248 (.agg #[.slice Ad nd cd,.slice Af nf cf]) (.int .i64 kk)).run Tryz.prog w= .ok (.slice Al nl cl) w)∧ys++(jd L++rest)=full∧
     ((kk+1=1∧rest=jd r.ev.from_)∨(kk+1=2∧rest= [])):=by
     rcases hcs with ⟨rfl,h⟩ | ⟨rfl,h⟩ | ⟨h,_⟩
     · exact⟨_,Ad,nd,cd,_,hdW,HR.out.deps,HR.out.ld,(fun w=>by kernel_rfl),h,.inl ⟨rfl,rfl⟩⟩
     · exact⟨_,Af,nf,cf,[],hfW,HR.out.from_,HR.out.lf,(fun w=>by kernel_rfl),by rw[List.append_nil];exact h,.inr ⟨rfl,rfl⟩⟩
     · exact absurd h h2
    obtain⟨L,Al,nl,cl,rest,hLi,hLa,hLl,hidx,hsum,hnext⟩:=hix
    have ajZ:0≤kk∧kk≤1:=by
     rcases hnext with ⟨h,_⟩ | ⟨h,_⟩ <;> omega
    have HS:=ae hsum;have HN:=ae hnext;have HLA:=ae hLa;have hll:L.length=nl:=hLi.lenI;have FO:=ae hll;have bn:nl≤400:=by omega
    have bys:ys.length≤100000010000:=by
     have:=congrArg List.length hsum;simp only[List.length_append] at this;omega
    clear hcs h2 hsum hnext hLa hll;obtain⟨hk0,hk1⟩:=ajZ;go_wp2_with fail;refine (pW (nl:Int) hO ⟨by omega,by omega⟩ (by omega) hbW).mono ?_;rintro e w6 ⟨v6,rfl,YB⟩;go_wp2_with fail;have hBW:B≤W.heap.size:=Nat.le_trans hB iW.size
    have hst:(ys++aF (nl:Int))++(aX 0 (L.drop 0)++rest)=full:=by
     have:=HS.out;unfold jd at this;rw[FO.out] at this;rw[List.drop_zero,←this];simp only[List.append_assoc]
    have HST:=ae hst;clear hst hO;go_loopw [0,10,56] (fun v la j wr=>∃(k:Nat) (last:Int) (zs:Bytes),j= .int .i64 k∧k≤nl∧la= .int .i64 last∧Out W base v zs wr∧zs++(aX last (L.drop k)++rest)=full) (fun _ _ j _=>nl - (intOf j).toNat)
    case atStart=>exact ⟨0,0,ys++aF (nl:Int),rfl,by omega,rfl,YB,HST.out⟩
    case round=>
     clear YB;obtain⟨k,last,zs,rfl,hkn,rfl,hOz,hz⟩:=hrel
     have bz:zs.length≤100000010000:=by
      have:=congrArg List.length hz;simp only[List.length_append] at this;omega
     by_cases hlt:k < nl
     · obtain⟨ad,x,rfl,hb1,hx,hc⟩:=(hLi.grown hOz.2.1 hBW (fun g hg=>by cases hg)).int hlt
       have hdrop:L.drop k=x :: L.drop (k+1):=by
        obtain⟨hl,hx'⟩:=List.getElem?_eq_some_iff.1 hx;rw[List.drop_eq_getElem_cons hl,hx']
       rw[hdrop] at hz;simp only[aX] at hz;have HZ:=ae hz;clear hz hdrop hx;go_wp2_with fail;refine (pW (wrap64 (x - last)) hOz (bY _) (by omega) hbW).mono ?_;rintro e w7 ⟨v7,rfl,Ry⟩;go_wp2_with fail;go_roundw
       case rel=>exact ⟨k+1,x,zs++aF (wrap64 (x - last)),by go_num,by omega,rfl,Ry,by rw[←HZ.out];simp only[List.append_assoc]⟩
       case measure=>simp [intOf];omega
     · have hnil:L.drop k= []:=List.drop_eq_nil_of_le (by have:=FO.out;omega);rw[hnil] at hz
       have HZ:Hid (zs++rest=full):=by
        simp only[aX,List.nil_append] at hz;exact hz
       clear hz hnil;go_wp2_with fail;go_roundw
       case rel=>
        refine⟨kk+1,zs,rfl,hOz,?_⟩;have hz:=HZ.out;rcases HN.out with ⟨h,hr⟩ | ⟨h,hr⟩
        · exact .inr (.inl ⟨h,by rw[←hr];exact hz⟩)
        · exact .inr (.inr ⟨h,by rw[hr,List.append_nil] at hz;exact hz⟩)
       case measure=>simp [intOf];omega
def OutR (W:World)(base:Nat)(A:Option Addr)(n c:Nat)(ys:Bytes)(wr:World):Prop:=
 Out W base (.slice A n c) ys wr∧n=ys.length∧n≤c∧(A=none→c=0)
theorem OutR.lies {W wr:World}{base:Nat}{A:Option Addr}{n c:Nat}{ys:Bytes}(h:OutR W base A n c ys wr):Lies wr wr.heap.size 1 A n (ys.map bv):=by
 obtain⟨⟨h1,_⟩,h2,_⟩:=h;rw[h2] at h1⊢;exact Lies.ofOwn h1
theorem V4 {W w1:World}{base:Nat}{v:Value}{ys:Bytes}(h:Out W base v ys w1):∃A n c,v= .slice A n c∧OutR W base A n c ys w1:=by
 obtain⟨A,c,hv,hnc,_,_,ho⟩:=aj h.1;exact⟨A,_,c,hv,by rw[←hv];exact h,rfl,hnc,ho⟩
theorem kE {W w1:World}{base B n c:Nat}{A:Option Addr}{ys:Bytes}(m:Int)(h:Lies w1 B 1 A n (ys.map bv))(ho:A=none→c=0)(hW:W.grownBy w1 none)(hm:inI64 m)(hl:n≤1000000000000)(hb:base≤W.heap.size):
 Calls Tryz.prog 63 #[.slice A n c,.int .i64 m] w1 fun e w'=>∃A' n' c',e= .returned (.slice A' n' c')∧OutR W base A' n' c' (ys++aF m) w':=
 (oq A n c B ys m w1 h ho hm hl base (Nat.le_trans hb hW.size)).mono fun e w' ⟨v',he,h1,h2,h3⟩=>by
  obtain⟨A',n',c',hv,hO⟩:=V4 (W:=W) (base:=base) ⟨h1,af hW h2 (.inl rfl),(At.refl W none).trans h3 hW.size⟩
  exact⟨A',n',c',by rw[he,hv],hO⟩
theorem ry {W w1:World}{base B n c:Nat}{A:Option Addr}{ys:Bytes}(Al:Option Addr)(nl cl Bl:Nat)(L:List Int)(h:Lies w1 B 1 A n (ys.map bv))(ho:A=none→c=0)(hW:W.grownBy w1 none)(hl:n≤100000000000)(hb:base≤W.heap.size)
 (hL:Lies W Bl 1 Al nl (L.map iv)) (hBl:Bl≤W.heap.size) (hLa:allI64 L) (hLl:L.length≤400):
 Calls Tryz.prog 121 #[.slice A n c,.slice Al nl cl] w1 fun e w'=>∃A' n' c',e= .returned (.slice A' n' c')∧OutR W base A' n' c' (ys++jd L) w':=by
 have HX:=ae h.lenB;have HO:=ae ho;have FO:=ae hL.lenI;have bn:nl≤400:=by have:=hL.lenI;omega
 have HLA:=ae hLa;have lpl:=ou L hLl;have hi64:inI64 (nl:Int):=⟨by omega,by omega⟩;have C1:=ae (kE (W:=W) (base:=base) (nl:Int) h ho hW hi64 (by omega) hb)
 have hst:(ys++aF (nl:Int))++aX 0 (L.drop 0)=ys++jd L:=by
  unfold jd;rw[FO.out,List.drop_zero,List.append_assoc]
 obtain⟨full,hfull⟩:∃f,f=ys++jd L:=⟨_,rfl⟩;rw[←hfull] at hst⊢
 have bF:full.length≤100000010000:=by
  rw[hfull,List.length_append,HX.out];omega
 have HF:=ae hfull;have HST:=ae hst;clear hfull hst lpl;clear ho hLa hi64;go_enter Tryz.func121,Tryz.ntmps121;go_wp2_with fail;refine C1.out.mono ?_;rintro e w2 ⟨A1,n1,c1,rfl,QM⟩;clear C1;go_wp2_with fail;go_loopw [0,5,6] (fun v la i wr=>∃(k:Nat) (last:Int) (zs:Bytes) (A2:Option Addr) (n2 c2:Nat),i= .int .i64 k∧k≤nl∧la= .int .i64 last∧v= .slice A2 n2 c2∧OutR W base A2 n2 c2 zs wr∧zs++aX last (L.drop k)=full) (fun _ _ i _=>nl - (intOf i).toNat)
 case atStart=>exact ⟨0,0,_,A1,n1,c1,rfl,by omega,rfl,rfl,QM,HST.out⟩
 case round=>
  clear QM;obtain⟨k,last,zs,A2,n2,c2,rfl,hkn,rfl,rfl,hO,hz⟩:=hrel
  have bz:n2≤100000010000:=by
   have:=congrArg List.length hz;simp only[List.length_append] at this;have:=hO.2.1;omega
  by_cases hlt:k < nl
  · obtain⟨ad,x,rfl,hb1,hx,hc⟩:=(hL.grown hO.1.2.1 hBl (fun g hg=>by cases hg)).int hlt
    have hdrop:L.drop k=x :: L.drop (k+1):=by
     obtain⟨hl',hx'⟩:=List.getElem?_eq_some_iff.1 hx;rw[List.drop_eq_getElem_cons hl',hx']
    rw[hdrop] at hz;simp only[aX] at hz;have HZ:=ae hz;have C2:=ae (kE (W:=W) (base:=base) (wrap64 (x - last)) hO.lies hO.2.2.2 hO.1.2.1 (bY _) (by omega) hb);have HOz:=ae hO;have hLk:=hL;clear hz hdrop hx hO;go_wp2_with fail;refine C2.out.mono ?_;rintro e w7 ⟨A7,n7,c7,rfl,Ry⟩
    have OL:w7.cell? (ad.add k)=some (.int .i64 x):=by
     obtain⟨ad',x',e1,hb1',hx1,hc1⟩:=(hL.grown Ry.1.2.1 hBl (fun g hg=>by cases hg)).int hlt;injection e1 with e1;subst e1;obtain⟨ad2,x2,e2,_,hx2,hc2⟩:=(hL.grown HOz.out.1.2.1 hBl (fun g hg=>by cases hg)).int hlt;injection e2 with e2;subst e2;rw[hx1] at hx2;injection hx2 with hx2;subst hx2;rw[hc1,←hc2,hc]
    have HO7:=ae Ry;clear Ry hc;go_wp2_with fail;go_roundw
    case rel=>exact ⟨k+1,x,zs++aF (wrap64 (x - last)),A7,n7,c7,by go_num,by omega,rfl,rfl,HO7.out,by rw[←HZ.out];simp only[List.append_assoc]⟩
    case measure=>simp [intOf];omega
  · have hnil:L.drop k= []:=List.drop_eq_nil_of_le (by have:=FO.out;omega);rw[hnil] at hz
    have hzf:zs=full:=by
     simp only[aX,List.append_nil] at hz;exact hz
    rw[hzf] at hO;have HO':=ae hO;clear hz hnil hzf hO;go_wp2_with fail;go_ret;exact⟨A2,n2,c2,rfl,HO'.out⟩
theorem Gp {W0:World}(A:Option Addr)(n c B:Nat)(xs:Bytes)(r:Rec)(Ad:Option Addr)(nd cd:Nat)(Af:Option Addr)(nf cf:Nat)(seq:Int)(w:World)
 (h:Lies w B 1 A n (xs.map bv)) (ho:A=none→c=0) (hn:n≤10000000000) (hr:RecOk r) (hs:inI64 seq) (hW0:W0.grownBy w none)
 (hd:Lies W0 W0.heap.size 1 Ad nd (r.ev.deps.map iv)) (hf:Lies W0 W0.heap.size 1 Af nf (r.ev.from_.map iv)) (base:Nat) (hbase:base≤W0.heap.size):
 Calls Tryz.prog 89 #[.slice A n c,.agg (recV r Ad nd cd Af nf cf),.int .i64 seq] w fun e w'=>∃A' n' c',e= .returned (.slice A' n' c')∧OutR W0 base A' n' c' (xs++bD r seq) w':=by
 have HR:=ae hr;have HXL:=ae h.lenB;have HO:=ae ho;obtain⟨W,hW⟩:∃W,W=w.alloc (.cells (recV r Ad nd cd Af nf cf) 54):=⟨_,rfl⟩
 have iW:w.grownBy W none:=by
  rw[hW];exact World.grownBy_alloc w _ none
 have hb0:W.heap[w.heap.size]?=some (.cells (recV r Ad nd cd Af nf cf) 54 (0,0)):=by
  rw[hW];exact heap_alloc_new w _
 have hlA:Lies W B 1 A n (xs.map bv):=by rw[hW];exact Lies.allocAny h _
 have JP:W0.grownBy W none:=af hW0 iW (.inl rfl);have hdW:Lies W W0.heap.size 1 Ad nd (r.ev.deps.map iv):=hd.grown JP (Nat.le_refl _) (fun g hg=>by cases hg);have hfW:Lies W W0.heap.size 1 Af nf (r.ev.from_.map iv):=hf.grown JP (Nat.le_refl _) (fun g hg=>by cases hg);have hbW:base≤W.heap.size:=Nat.le_trans hbase JP.size;have HB0:=ae hb0;have HW:=ae hW;have e0:W.cell? ⟨w.heap.size,0,none⟩=some (.int .i64 r.seq):=bZ (World.grownBy.refl W none) hb0 0;have lxs:xs.length≤10000000000:=by rw[HXL.out];exact hn
 have ls:=aI (bY (r.seq - seq));have lk:=aI hr.kind;have lo:=aI hr.obj;have lv:=aI hr.value;have lt:=aI hr.site;have ld:=ou _ hr.ld;have lf:=ou _ hr.lf;have CP:=ae (kE (W:=W) (base:=base) (wrap64 (r.seq - seq)) hlA ho (World.grownBy.refl W none) (bY _) (by omega) hbW);unfold recV at *
 clear hr ho hs hW hb0;go_enter Tryz.func89,Tryz.ntmps89;go_wp2_with fail;rw[show (w.alloc (.cells #[.int .i64 r.seq,.int .i64 r.ev.thread,.int .i64 r.ev.kind,.int .i64 r.ev.obj,.int .i64 r.ev.value,.int .i64 r.ev.site,.slice Ad nd cd,.slice Af nf cf] 54))=W from HW.out.symm];refine CP.out.mono ?_;rintro e w1 ⟨A1,n1,c1,rfl,QM⟩;obtain⟨y1,hy1⟩:∃y,y=xs++aF (wrap64 (r.seq - seq)):=⟨_,rfl⟩;rw[←hy1] at QM;have b1:n1≤10000000010:=by rw[QM.2.1,hy1,List.length_append];omega
 have Nw:=ae hy1;clear hy1 e0;have d1:w1.cell? ⟨w.heap.size,2,none⟩=some (.int .i64 r.ev.kind):=bZ QM.1.2.1 HB0.out 2;have FM:=ae QM;clear QM;go_wp2_with fail;refine (kE (W:=W) (base:=base) r.ev.kind FM.out.lies FM.out.2.2.2 FM.out.1.2.1 HR.out.kind (by omega) hbW).mono ?_;rintro e w2 ⟨A2,n2,c2,rfl,hO2⟩;obtain⟨y2,hy2⟩:∃y,y=y1++aF r.ev.kind:=⟨_,rfl⟩;rw[←hy2] at hO2
 have b2:n2≤10000000020:=by
  have hq:=FM.out.2.1;rw[hO2.2.1,hy2,List.length_append];omega
 have V5:=ae hy2;clear hy2 d1;have d2:w2.cell? ⟨w.heap.size,3,none⟩=some (.int .i64 r.ev.obj):=bZ hO2.1.2.1 HB0.out 3;have xN:=ae hO2;clear hO2;go_wp2_with fail;refine (kE (W:=W) (base:=base) r.ev.obj xN.out.lies xN.out.2.2.2 xN.out.1.2.1 HR.out.obj (by omega) hbW).mono ?_;rintro e w3 ⟨A3,n3,c3,rfl,hO3⟩;obtain⟨y3,hy3⟩:∃y,y=y2++aF r.ev.obj:=⟨_,rfl⟩;rw[←hy3] at hO3
 have b3:n3≤10000000030:=by
  have hq:=xN.out.2.1;rw[hO3.2.1,hy3,List.length_append];omega
 have HY3:=ae hy3;clear hy3 d2;have d3:w3.cell? ⟨w.heap.size,4,none⟩=some (.int .i64 r.ev.value):=bZ hO3.1.2.1 HB0.out 4;have Bi:=ae hO3;clear hO3;go_wp2_with fail;refine (kE (W:=W) (base:=base) r.ev.value Bi.out.lies Bi.out.2.2.2 Bi.out.1.2.1 HR.out.value (by omega) hbW).mono ?_;rintro e w4 ⟨A4,n4,c4,rfl,hO4⟩;obtain⟨y4,hy4⟩:∃y,y=y3++aF r.ev.value:=⟨_,rfl⟩;rw[←hy4] at hO4
 have b4:n4≤10000000040:=by
  have hq:=Bi.out.2.1;rw[hO4.2.1,hy4,List.length_append];omega
 have HY4:=ae hy4;clear hy4 d3;have d4:w4.cell? ⟨w.heap.size,5,none⟩=some (.int .i64 r.ev.site):=bZ hO4.1.2.1 HB0.out 5;have Gq:=ae hO4;clear hO4;go_wp2_with fail;refine (kE (W:=W) (base:=base) r.ev.site Gq.out.lies Gq.out.2.2.2 Gq.out.1.2.1 HR.out.site (by omega) hbW).mono ?_;rintro e w5 ⟨A5,n5,c5,rfl,Rz⟩;obtain⟨y5,V6⟩:∃y,y=y4++aF r.ev.site:=⟨_,rfl⟩;rw[←V6] at Rz
 have b5:n5≤10000000050:=by
  have hq:=Gq.out.2.1;rw[Rz.2.1,V6,List.length_append];omega
 have HY5:=ae V6;clear V6 d4;have d5:w5.cell? ⟨w.heap.size,6,none⟩=some (.slice Ad nd cd):=bZ Rz.1.2.1 HB0.out 6;have JQ:=ae Rz;clear Rz;go_wp2_with fail;refine (ry (W:=W) (base:=base) Ad nd cd W0.heap.size r.ev.deps JQ.out.lies JQ.out.2.2.2 JQ.out.1.2.1 (by omega) hbW hdW JP.size HR.out.deps HR.out.ld).mono ?_;rintro e w6 ⟨A6,n6,c6,rfl,YB⟩;obtain⟨y6,hy6⟩:∃y,y=y5++jd r.ev.deps:=⟨_,rfl⟩;rw[←hy6] at YB
 have b6:n6≤10000005000:=by
  have hq:=JQ.out.2.1;rw[YB.2.1,hy6,List.length_append];omega
 have HY6:=ae hy6;clear hy6 d5;have d6:w6.cell? ⟨w.heap.size,7,none⟩=some (.slice Af nf cf):=bZ YB.1.2.1 HB0.out 7;have HO6:=ae YB;clear YB;go_wp2_with fail;refine (ry (W:=W) (base:=base) Af nf cf W0.heap.size r.ev.from_ HO6.out.lies HO6.out.2.2.2 HO6.out.1.2.1 (by omega) hbW hfW JP.size HR.out.from_ HR.out.lf).mono ?_;rintro e w7 ⟨A7,n7,c7,rfl,Ry⟩;obtain⟨y7,hy7⟩:∃y,y=y6++jd r.ev.from_:=⟨_,rfl⟩;rw[←hy7] at Ry
 have b7:n7≤10000010000:=by
  have hq:=HO6.out.2.1;rw[Ry.2.1,hy7,List.length_append];omega
 have HY7:=ae hy7;clear hy7 d6
 have hfin:y7=xs++bD r seq:=by
  rw[HY7.out,HY6.out,HY5.out,HY4.out,HY3.out,V5.out,Nw.out];unfold bD;simp only[List.append_assoc]
 rw[hfin] at Ry
 have HOF:Hid (OutR W0 base A7 n7 c7 (xs++bD r seq) w7):=by
  obtain⟨⟨o1,o2,o3⟩,o4⟩:=Ry;exact⟨⟨o1,af JP o2 (.inl rfl),(At.refl W0 none).trans o3 JP.size⟩,o4⟩
 clear hfin Ry;go_wp2_with fail;go_ret;exact⟨A7,n7,c7,rfl,HOF.out⟩
