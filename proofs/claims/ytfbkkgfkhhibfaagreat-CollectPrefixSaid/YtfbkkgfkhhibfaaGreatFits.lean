/- Words. -/
import Derived.Test.YtfbkkgfkhhibfaaGreatRdr
import Derived.Deep.DeepCutAuto
set_option linter.unusedVariables false
set_option maxRecDepth 100000
set_option maxHeartbeats 8000000
namespace Go.Proofs.YtfbkkgfkhhibfaaGreat
open Go Go.RowKit Iv
def recV (r:Rec)(Ad:Option Addr)(nd cd:Nat)(Af:Option Addr)(nf cf:Nat):Array Value:=
 #[.int .i64 r.seq,.int .i64 r.ev.thread,.int .i64 r.ev.kind,.int .i64 r.ev.obj,.int .i64 r.ev.value,.int .i64 r.ev.site,.slice Ad nd cd,.slice Af nf cf]
theorem eQ {W w1:World}(h:W.grownBy w1 none){b:Nat}{cs:Array Value}{t:TypeId}(hb:W.heap[b]?=some (.cells cs t (0,0)))(j:Nat):w1.cell? ⟨b,j,none⟩=cs[j]?:=by have a:b<W.heap.size:=(jd.1 hb).1;have e:w1.heap[b]?=W.heap[b]?:=h.block b a (λe=>by cases e);rw[hb] at e;exact cell_of_row w1 b j cs t (0,0) e
def Out (W:World)(base:Nat)(v:Value)(ys:Bytes)(wr:World):Prop:=
 wr.ownsRow base 5 1 v ys.length (ys.map bv)/\W.grownBy wr none/\At W none v.ownBlock
theorem Out.step {W w1 w2:World}{base:Nat}{v v':Value}{ys zs:Bytes}(h:Out W base v ys w1)(h2:w2.ownsRow base 5 1 v' zs.length (zs.map bv))(hg:w1.grownBy w2 v.ownBlock)(ha:At w1 v.ownBlock v'.ownBlock):Out W base v' zs w2:=
 ⟨h2,af h.2.1 hg h.2.2,h.2.2.trans ha h.2.1.size⟩
theorem vW {W w1:World}{base:Nat}{v:Value}{ys:Bytes}(m:Int)(h:Out W base v ys w1)(hm:inI64 m)(a:ys.length<=1000000000000)(hb:base<=W.heap.size):
 Calls Tryz.prog 111 #[v,.int .i64 m] w1 λe w'=>∃v',e= .returned v'/\Out W base v' (ys++aP m) w':=
 (ES base v v.ownBlock ys m w1 (App.own h.1) hm a (aK hb h.2.1.size)).mono λe w' ⟨v',he,h1,h2,h3⟩=>⟨v',he,h.step h1 h2 h3⟩
theorem O3 (A:Option Addr)(n c B:Nat)(xs:Bytes)(r:Rec)(Ad:Option Addr)(nd cd:Nat)(Af:Option Addr)(nf cf:Nat)(seq:Int)(w:World)
 (h:Lies w B 1 A n (xs.map bv)) (hnc:n<=c) (hn:n<=100000000000) (hr:RecOk r) (hs:inI64 seq)
 (hd:Lies w B 1 Ad nd (r.ev.deps.map iv)) (hf:Lies w B 1 Af nf (r.ev.from_.map iv)) (hB:B<=w.heap.size) (base:Nat) (a7:base<=w.heap.size):
 Calls Tryz.prog 79 #[.slice A n c,.agg (recV r Ad nd cd Af nf cf),.int .i64 seq] w λe w'=>∃v',e= .returned v'/\w'.ownsRow base 5 1 v' (xs++dn r seq).length ((xs++dn r seq).map bv)/\w.grownBy w' none/\At w none v'.ownBlock:=by
 have D:=ae hr;have ab:=ae h.lenB;obtain⟨W,hW⟩:∃W,W=(w.alloc (.cells (recV r Ad nd cd Af nf cf) 54)).alloc (.cells #[.int .i64 r.ev.thread,.int .i64 r.ev.kind,.int .i64 r.ev.obj,.int .i64 r.ev.value,.int .i64 r.ev.site,.slice Ad nd cd,.slice Af nf cf] 52):=⟨_,rfl⟩;have iQ:w.grownBy W none:=(by rw[hW];exact af (aV w _ none) (aV _ _ none) (.inl rfl));have al:W.heap[w.heap.size+1]?=some (.cells #[.int .i64 r.ev.thread,.int .i64 r.ev.kind,.int .i64 r.ev.obj,.int .i64 r.ev.value,.int .i64 r.ev.site,.slice Ad nd cd,.slice Af nf cf] 52 (0,0)):=(by rw[hW];have:=heap_alloc_new (w.alloc (.cells (recV r Ad nd cd Af nf cf) 54)) (.cells #[.int .i64 r.ev.thread,.int .i64 r.ev.kind,.int .i64 r.ev.obj,.int .i64 r.ev.value,.int .i64 r.ev.site,.slice Ad nd cd,.slice Af nf cf] 52);rwa [iK] at this);have ar:W.heap[w.heap.size]?=some (.cells (recV r Ad nd cd Af nf cf) 54 (0,0)):=(by rw[hW];refine (zX _ _ _ (by simp)).trans ?_;exact heap_alloc_new w _);have c0:W.cell? ⟨w.heap.size,0,none⟩=some (.int .i64 r.seq):=(eQ (bu W none) ar 0);have HW:=ae hW;have E:=ae al;clear hW al ar;have q:base<=W.heap.size:=aK a7 iQ.size;have hA:Lies W B 1 A n (xs.map bv):=h.grown iQ hB (λg hg=>by cases hg);have b6:Lies W B 1 Ad nd (r.ev.deps.map iv):=hd.grown iQ hB (λg hg=>by cases hg);have b8:Lies W B 1 Af nf (r.ev.from_.map iv):=hf.grown iQ hB (λg hg=>by cases hg);have an:=ES base (.slice A n n) none xs (wrap64 (r.seq-seq)) W.drew (by rw[ab.o];exact App.cut (hA.drew)) (eP _) (by rw[ab.o];omega) q;rw[<-IntWalk.i64_left] at an;have CP:=ae an;clear an;have h0:(0:Int)<=(n:Int):=(by omega);unfold recV at *
 clear hr;go_enter Tryz.func79,Tryz.ntmps79;go_wp2_with fail;rw[show (w.alloc (.cells #[.int .i64 r.seq,.int .i64 r.ev.thread,.int .i64 r.ev.kind,.int .i64 r.ev.obj,.int .i64 r.ev.value,.int .i64 r.ev.site,.slice Ad nd cd,.slice Af nf cf] 54)).alloc (.cells #[.int .i64 r.ev.thread,.int .i64 r.ev.kind,.int .i64 r.ev.obj,.int .i64 r.ev.value,.int .i64 r.ev.site,.slice Ad nd cd,.slice Af nf cf] 52)=W from HW.o.symm]
 go_region_held3 (λw'=>w'.cell? ⟨w.heap.size,0,none⟩=some (.int .i64 r.seq)) (first|go_keep|exact sH (by assumption) c0 (by simp)) (first
  |(go_at_call 111;((with_reducible refine CP.o.mono ?_);rintro e w1 ⟨v1,rfl,a,N,mr⟩;replace N:=lJ N;replace mr:=At.drew mr)))
 rw[IntWalk.i64_left] at a;have bq:xs.length<=100000000000:=(by rw[ab.o];exact hn);have ls:=aS (eP (r.seq-seq));have lk:=aS D.o.kind;have lo:=aS D.o.obj;have lv:=aS D.o.value;have lt:=aS D.o.site;have lp:=Eo D.o seq;obtain⟨y1,O⟩:∃y,y=xs++aP (wrap64 (r.seq-seq)):=⟨_,rfl⟩;rw[<-O] at a;have b1:y1.length<=100000000010:=(by rw[O,bI];omega);have UR:=ae O;have XW:Out W base v1 y1 w1:=⟨a,N,mr⟩;clear a N mr c0 O;have d1:w1.cell? ⟨w.heap.size+1,1,none⟩=some (.int .i64 r.ev.kind):=eQ XW.2.1 E.o 1;go_wp2_with fail;refine (vW r.ev.kind XW D.o.kind (by omega) q).mono ?_;rintro e w2 ⟨v2,rfl,R⟩;obtain⟨y2,U⟩:∃y,y=y1++aP r.ev.kind:=⟨_,rfl⟩;rw[<-U] at R;have b2:y2.length<=100000000020:=(by rw[U,bI];omega);have b9:=ae U;clear U d1 XW;have d2:w2.cell? ⟨w.heap.size+1,2,none⟩=some (.int .i64 r.ev.obj):=eQ R.2.1 E.o 2;go_wp2_with fail;refine (vW r.ev.obj R D.o.obj (by omega) q).mono ?_;rintro e w3 ⟨v3,rfl,V⟩;obtain⟨y3,X⟩:∃y,y=y2++aP r.ev.obj:=⟨_,rfl⟩;rw[<-X] at V;have b3:y3.length<=100000000030:=(by rw[X,bI];omega);have ba:=ae X;clear X d2 R;have d3:w3.cell? ⟨w.heap.size+1,3,none⟩=some (.int .i64 r.ev.value):=eQ V.2.1 E.o 3;go_wp2_with fail;refine (vW r.ev.value V D.o.value (by omega) q).mono ?_;rintro e w4 ⟨v4,rfl,Y⟩;obtain⟨y4,Z⟩:∃y,y=y3++aP r.ev.value:=⟨_,rfl⟩;rw[<-Z] at Y;have b4:y4.length<=100000000040:=(by rw[Z,bI];omega);have bc:=ae Z;clear Z d3 V;have d4:w4.cell? ⟨w.heap.size+1,4,none⟩=some (.int .i64 r.ev.site):=eQ Y.2.1 E.o 4;go_wp2_with fail;refine (vW r.ev.site Y D.o.site (by omega) q).mono ?_;rintro e w5 ⟨v5,rfl,YL⟩;obtain⟨y5,a8⟩:∃y,y=y4++aP r.ev.site:=⟨_,rfl⟩;rw[<-a8] at YL;have b5:y5.length<=100000000050:=(by rw[a8,bI];omega);have bd:=ae a8;clear a8 d4 Y;have d5:w5.cell? ⟨w.heap.size+1,5,none⟩=some (.slice Ad nd cd):=eQ YL.2.1 E.o 5;have d6:w5.cell? ⟨w.heap.size+1,6,none⟩=some (.slice Af nf cf):=eQ YL.2.1 E.o 6;obtain⟨full,d⟩:∃f,f=xs++dn r seq:=⟨_,rfl⟩;have av:y5++(kT r.ev.deps++kT r.ev.from_)=full:=(by rw[d,bd.o,bc.o,ba.o,b9.o,UR.o];unfold dn;simp only[gm]);have bF:full.length<=100000010000:=(by rw[d,bI];omega);have HF:=ae d;have bf:=ae av;clear d av ls lk lo lv lt lp;go_wp2_with fail;clear d5 d6;go_loopw [0,47] (λv i wr=>∃(H:Int) (ys:Bytes),i= .int .i64 H/\Out W base v ys wr/\((H=0/\ys++(kT r.ev.deps++kT r.ev.from_)=full)\/(H=1/\ys++kT r.ev.from_=full)\/(H=2/\ys=full))) (λ_ i _=>(2-intOf i).toNat)
 case atStart=>exact ⟨0,y5,rfl,YL,.inl ⟨rfl,bf.o⟩⟩
 case round=>
  clear YL;obtain⟨H,ys,rfl,hO,aa⟩:=hrel;by_cases h2:H=2
  . subst h2;have aw:ys=full:=by
     rcases aa with ⟨h,_⟩|⟨h,_⟩|⟨_,h⟩;exact absurd h (by decide);exact absurd h (by decide);exact h
    clear aa;have ao:=hO;rw[aw] at ao;have HO:=ae ao;clear aw ao;go_wp2_with fail;go_ret;refine⟨_,rfl,?_⟩;rw[<-HF.o];exact⟨HO.o.1,af iQ HO.o.2.1 (.inl rfl),(At.refl w none).trans HO.o.2.2 iQ.size⟩
  . have bh:∃(L:List Int) (Al:Option Addr) (I cl:Nat) (rest:Bytes),Lies W B 1 Al I (L.map iv)/\allI64 L/\L.length<=400/\
     (∀w,(Instr.index 248 (.agg #[.slice Ad nd cd,.slice Af nf cf]) (.int .i64 H)).run Tryz.prog w= .ok (.slice Al I cl) w)/\ys++(kT L++rest)=full/\
     ((H+1=1/\rest=kT r.ev.from_)\/(H+1=2/\rest=[])):=by
     rcases aa with ⟨rfl,h⟩|⟨rfl,h⟩|⟨h,_⟩;exact⟨_,Ad,nd,cd,_,b6,D.o.deps,D.o.ld,(λw=>by kernel_rfl),h,.inl ⟨rfl,rfl⟩⟩;exact⟨_,Af,nf,cf,[],b8,D.o.from_,D.o.lf,(λw=>by kernel_rfl),by rw[nZ];exact h,.inr ⟨rfl,rfl⟩⟩;exact absurd h h2
    obtain⟨L,Al,I,cl,rest,aD,aL,br,bp,J,u⟩:=bh;(have bj:0<=H/\H<=1:=by rcases u with ⟨h,_⟩|⟨h,_⟩<;>omega);have HS:=ae J;have HN:=ae u;have bt:=ae aL;have aM:L.length=I:=aD.lenI;have Hw:=ae aM;have bn:I<=400:=(by omega);have bx:ys.length<=100000010000:=(by have:=kU List.length J;simp only[bI] at this;omega);clear aa h2 J u aL aM;obtain⟨bB,bN⟩:=bj;go_wp2_with fail;refine (vW (I:Int) hO ⟨by omega,by omega⟩ (by omega) q).mono ?_;rintro e w6 ⟨v6,rfl,aR⟩;go_wp2_with fail;have bk:B<=W.heap.size:=aK hB iQ.size;have b0:(ys++aP (I:Int))++(bM 0 (L.drop 0)++rest)=full:=(by have:=HS.o;unfold kT at this;rw[Hw.o] at this;rw[Eb,<-this];simp only[gm]);have bl:=ae b0;clear b0 hO;go_loopw [0,10,56] (λv la j wr=>∃(k:Nat) (last:Int) (zs:Bytes),j= .int .i64 k/\k<=I/\la= .int .i64 last/\Out W base v zs wr/\zs++(bM last (L.drop k)++rest)=full) (λ_ _ j _=>I-(intOf j).toNat)
    case atStart=>exact ⟨0,0,ys++aP (I:Int),rfl,by omega,rfl,aR,bl.o⟩
    case round=>
     clear aR;obtain⟨k,last,zs,rfl,bO,rfl,aq,G⟩:=hrel;have bz:zs.length<=100000010000:=(by have:=kU List.length G;simp only[bI] at this;omega);by_cases bm:k<I
     . obtain⟨ad,x,rfl,al,hx,hc⟩:=(aD.grown aq.2.1 bk (λg hg=>by cases hg)).int bm;have M:L.drop k=x::L.drop (k+1):=by
        obtain⟨hl,bo⟩:=dF.1 hx;rw[nY hl,bo]
       rw[M] at G;simp only[bM] at G;have HZ:=ae G;clear G M hx;go_wp2_with fail;refine (vW (wrap64 (x-last)) aq (eP _) (by omega) q).mono ?_;rintro e w7 ⟨v7,rfl,YK⟩;go_wp2_with fail;go_roundw
       case rel=>exact ⟨k+1,x,zs++aP (wrap64 (x-last)),by go_num,by omega,rfl,YK,by rw[<-HZ.o];simp only[gm]⟩
       case measure=>simp [intOf];omega
     . have a6:L.drop k=[]:=jT (by have:=Hw.o;omega);rw[a6] at G;have HZ:Hid (zs++rest=full):=by
        simp only[bM,lG] at G;exact G
       clear G a6;go_wp2_with fail;go_roundw
       case rel=>refine⟨H+1,zs,rfl,aq,?_⟩;have G:=HZ.o;rcases HN.o with ⟨h,hr⟩|⟨h,hr⟩;exact .inr (.inl ⟨h,by rw[<-hr];exact G⟩);exact .inr (.inr ⟨h,by rw[hr,nZ] at G;exact G⟩)
       case measure=>simp [intOf];omega
def OutR (W:World)(base:Nat)(A:Option Addr)(n c:Nat)(ys:Bytes)(wr:World):Prop:=
 Out W base (.slice A n c) ys wr/\n=ys.length/\n<=c/\(A=none->c=0)
theorem OutR.lies {W wr:World}{base:Nat}{A:Option Addr}{n c:Nat}{ys:Bytes}(h:OutR W base A n c ys wr):Lies wr wr.heap.size 1 A n (ys.map bv):=by obtain⟨⟨h1,_⟩,h2,_⟩:=h;rw[h2] at h1|-;exact Lies.ofOwn h1
theorem acf {W w1:World}{base:Nat}{v:Value}{ys:Bytes}(h:Out W base v ys w1):∃A n c,v= .slice A n c/\OutR W base A n c ys w1:=by obtain⟨A,c,a,hnc,_,_,ho⟩:=ai h.1;exact⟨A,_,c,a,by rw[<-a];exact h,rfl,hnc,ho⟩
theorem nX {W w1:World}{base B n c:Nat}{A:Option Addr}{ys:Bytes}(m:Int)(h:Lies w1 B 1 A n (ys.map bv))(ho:A=none->c=0)(hW:W.grownBy w1 none)(hm:inI64 m)(q:n<=1000000000000)(hb:base<=W.heap.size):
 Calls Tryz.prog 63 #[.slice A n c,.int .i64 m] w1 λe w'=>∃A' a d,e= .returned (.slice A' a d)/\OutR W base A' a d (ys++aP m) w':=
 (uj A n c B ys m w1 h ho hm q base (aK hb hW.size)).mono λe w' ⟨v',he,h1,h2,h3⟩=>by
  obtain⟨A',a,d,u,hO⟩:=acf (W:=W) (base:=base) ⟨h1,af hW h2 (.inl rfl),(At.refl W none).trans h3 hW.size⟩
  exact⟨A',a,d,by rw[he,u],hO⟩
theorem yB {W w1:World}{base B n c:Nat}{A:Option Addr}{ys:Bytes}(Al:Option Addr)(q cl Bl:Nat)(L:List Int)(h:Lies w1 B 1 A n (ys.map bv))(ho:A=none->c=0)(hW:W.grownBy w1 none)(hl:n<=100000000000)(hb:base<=W.heap.size)
 (hL:Lies W Bl 1 Al q (L.map iv)) (G:Bl<=W.heap.size) (J:allI64 L) (N:L.length<=400):
 Calls Tryz.prog 121 #[.slice A n c,.slice Al q cl] w1 λe w'=>∃A' n' c',e= .returned (.slice A' n' c')/\OutR W base A' n' c' (ys++kT L) w':=by
 have HX:=ae h.lenB;have HO:=ae ho;have Hw:=ae hL.lenI;have bn:q<=400:=(by have:=hL.lenI;omega);have al:=ae J;have O:=uk L N;have D:inI64 (q:Int):=⟨by omega,by omega⟩;have C1:=ae (nX (W:=W) (base:=base) (q:Int) h ho hW D (by omega) hb);have H:(ys++aP (q:Int))++bM 0 (L.drop 0)=ys++kT L:=(by unfold kT;rw[Hw.o,Eb,gm]);obtain⟨full,a⟩:∃f,f=ys++kT L:=⟨_,rfl⟩;rw[<-a] at H|-;have bF:full.length<=100000010000:=(by rw[a,bI,HX.o];omega);have HF:=ae a;have R:=ae H;clear a H O;clear ho J D;go_enter Tryz.func121,Tryz.ntmps121;go_wp2_with fail;refine C1.o.mono ?_;rintro e w2 ⟨A1,n1,c1,rfl,XW⟩;clear C1;go_wp2_with fail;go_loopw [0,5,6] (λv la i wr=>∃(k:Nat) (last:Int) (zs:Bytes) (A2:Option Addr) (n2 c2:Nat),i= .int .i64 k/\k<=q/\la= .int .i64 last/\v= .slice A2 n2 c2/\OutR W base A2 n2 c2 zs wr/\zs++bM last (L.drop k)=full) (λ_ _ i _=>q-(intOf i).toNat)
 case atStart=>exact ⟨0,0,_,A1,n1,c1,rfl,by omega,rfl,rfl,XW,R.o⟩
 case round=>
  clear XW;obtain⟨k,last,zs,A2,n2,c2,rfl,an,rfl,rfl,hO,u⟩:=hrel;have bz:n2<=100000010000:=(by have:=kU List.length u;simp only[bI] at this;have:=hO.2.1;omega);by_cases I:k<q
  . obtain⟨ad,x,rfl,ao,hx,hc⟩:=(hL.grown hO.1.2.1 G (λg hg=>by cases hg)).int I;have d:L.drop k=x::L.drop (k+1):=by
     obtain⟨U,V⟩:=dF.1 hx;rw[nY U,V]
    rw[d] at u;simp only[bM] at u;have HZ:=ae u;have C2:=ae (nX (W:=W) (base:=base) (wrap64 (x-last)) hO.lies hO.2.2.2 hO.1.2.1 (eP _) (by omega) hb);have X:=ae hO;have aq:=hL;clear u d hx hO;go_wp2_with fail;refine C2.o.mono ?_;rintro e w7 ⟨A7,n7,c7,rfl,Y⟩;have VY:w7.cell? (ad.add k)=some (.int .i64 x):=(by obtain⟨ar,x',e1,ab,Z,a6⟩:=(hL.grown Y.1.2.1 G (λg hg=>by cases hg)).int I;injection e1 with e1;subst e1;obtain⟨av,x2,e2,_,y,a7⟩:=(hL.grown X.o.1.2.1 G (λg hg=>by cases hg)).int I;injection e2 with e2;subst e2;rw[Z] at y;injection y with y;subst y;rw[a6,<-a7,hc]);have a8:=ae Y;clear Y hc;go_wp2_with fail;go_roundw
    case rel=>exact ⟨k+1,x,zs++aP (wrap64 (x-last)),A7,n7,c7,by go_num,by omega,rfl,rfl,a8.o,by rw[<-HZ.o];simp only[gm]⟩
    case measure=>simp [intOf];omega
  . have E:L.drop k=[]:=jT (by have:=Hw.o;omega);rw[E] at u;have M:zs=full:=by
     simp only[bM,nZ] at u;exact u
    rw[M] at hO;have aa:=ae hO;clear u E M hO;go_wp2_with fail;go_ret;exact⟨A2,n2,c2,rfl,aa.o⟩
theorem NY {W0:World}(A:Option Addr)(n c B:Nat)(xs:Bytes)(r:Rec)(Ad:Option Addr)(nd cd:Nat)(Af:Option Addr)(nf cf:Nat)(seq:Int)(w:World)
 (h:Lies w B 1 A n (xs.map bv)) (ho:A=none->c=0) (hn:n<=10000000000) (hr:RecOk r) (hs:inI64 seq) (a6:W0.grownBy w none)
 (hd:Lies W0 W0.heap.size 1 Ad nd (r.ev.deps.map iv)) (hf:Lies W0 W0.heap.size 1 Af nf (r.ev.from_.map iv)) (base:Nat) (V:base<=W0.heap.size):
 Calls Tryz.prog 89 #[.slice A n c,.agg (recV r Ad nd cd Af nf cf),.int .i64 seq] w λe w'=>∃A' n' c',e= .returned (.slice A' n' c')/\OutR W0 base A' n' c' (xs++dn r seq) w':=by
 have R:=ae hr;have a7:=ae h.lenB;have HO:=ae ho;obtain⟨W,hW⟩:∃W,W=w.alloc (.cells (recV r Ad nd cd Af nf cf) 54):=⟨_,rfl⟩;have iQ:w.grownBy W none:=(by rw[hW];exact aV w _ none);have X:W.heap[w.heap.size]?=some (.cells (recV r Ad nd cd Af nf cf) 54 (0,0)):=(by rw[hW];exact heap_alloc_new w _);have a8:Lies W B 1 A n (xs.map bv):=(by rw[hW];exact Lies.allocAny h _);have Y:W0.grownBy W none:=af a6 iQ (.inl rfl);have aa:Lies W W0.heap.size 1 Ad nd (r.ev.deps.map iv):=hd.grown Y (au _) (λg hg=>by cases hg);have ab:Lies W W0.heap.size 1 Af nf (r.ev.from_.map iv):=hf.grown Y (au _) (λg hg=>by cases hg);have a:base<=W.heap.size:=aK V Y.size;have d:=ae X;have HW:=ae hW;have e0:W.cell? ⟨w.heap.size,0,none⟩=some (.int .i64 r.seq):=eQ (bu W none) X 0;have av:xs.length<=10000000000:=(by rw[a7.o];exact hn);have ls:=aS (eP (r.seq-seq));have lk:=aS hr.kind;have lo:=aS hr.obj;have lv:=aS hr.value;have lt:=aS hr.site;have ld:=uk _ hr.ld;have lf:=uk _ hr.lf;have CP:=ae (nX (W:=W) (base:=base) (wrap64 (r.seq-seq)) a8 ho (bu W none) (eP _) (by omega) a);unfold recV at *
 clear hr ho hs hW X;go_enter Tryz.func89,Tryz.ntmps89;go_wp2_with fail;rw[show (w.alloc (.cells #[.int .i64 r.seq,.int .i64 r.ev.thread,.int .i64 r.ev.kind,.int .i64 r.ev.obj,.int .i64 r.ev.value,.int .i64 r.ev.site,.slice Ad nd cd,.slice Af nf cf] 54))=W from HW.o.symm];refine CP.o.mono ?_;rintro e w1 ⟨A1,n1,c1,rfl,Z⟩;obtain⟨y1,G⟩:∃y,y=xs++aP (wrap64 (r.seq-seq)):=⟨_,rfl⟩;rw[<-G] at Z;have b1:n1<=10000000010:=(by rw[Z.2.1,G,bI];omega);have UR:=ae G;clear G e0;have d1:w1.cell? ⟨w.heap.size,2,none⟩=some (.int .i64 r.ev.kind):=eQ Z.1.2.1 d.o 2;have Gh:=ae Z;clear Z;go_wp2_with fail;refine (nX (W:=W) (base:=base) r.ev.kind Gh.o.lies Gh.o.2.2.2 Gh.o.1.2.1 R.o.kind (by omega) a).mono ?_;rintro e w2 ⟨A2,n2,c2,rfl,q⟩;obtain⟨y2,H⟩:∃y,y=y1++aP r.ev.kind:=⟨_,rfl⟩;rw[<-H] at q;have b2:n2<=10000000020:=(by have hq:=Gh.o.2.1;rw[q.2.1,H,bI];omega);have ad:=ae H;clear H d1;have d2:w2.cell? ⟨w.heap.size,3,none⟩=some (.int .i64 r.ev.obj):=eQ q.1.2.1 d.o 3;have yC:=ae q;clear q;go_wp2_with fail;refine (nX (W:=W) (base:=base) r.ev.obj yC.o.lies yC.o.2.2.2 yC.o.1.2.1 R.o.obj (by omega) a).mono ?_;rintro e w3 ⟨A3,n3,c3,rfl,u⟩;obtain⟨y3,I⟩:∃y,y=y2++aP r.ev.obj:=⟨_,rfl⟩;rw[<-I] at u;have b3:n3<=10000000030:=(by have hq:=yC.o.2.1;rw[u.2.1,I,bI];omega);have al:=ae I;clear I d2;have d3:w3.cell? ⟨w.heap.size,4,none⟩=some (.int .i64 r.ev.value):=eQ u.1.2.1 d.o 4;have CZ:=ae u;clear u;go_wp2_with fail;refine (nX (W:=W) (base:=base) r.ev.value CZ.o.lies CZ.o.2.2.2 CZ.o.1.2.1 R.o.value (by omega) a).mono ?_;rintro e w4 ⟨A4,n4,c4,rfl,D⟩;obtain⟨y4,J⟩:∃y,y=y3++aP r.ev.value:=⟨_,rfl⟩;rw[<-J] at D;have b4:n4<=10000000040:=(by have hq:=CZ.o.2.1;rw[D.2.1,J,bI];omega);have an:=ae J;clear J d3;have d4:w4.cell? ⟨w.heap.size,5,none⟩=some (.int .i64 r.ev.site):=eQ D.1.2.1 d.o 5;have Hy:=ae D;clear D;go_wp2_with fail;refine (nX (W:=W) (base:=base) r.ev.site Hy.o.lies Hy.o.2.2.2 Hy.o.1.2.1 R.o.site (by omega) a).mono ?_;rintro e w5 ⟨A5,n5,c5,rfl,YL⟩;obtain⟨y5,L⟩:∃y,y=y4++aP r.ev.site:=⟨_,rfl⟩;rw[<-L] at YL;have b5:n5<=10000000050:=(by have hq:=Hy.o.2.1;rw[YL.2.1,L,bI];omega);have ao:=ae L;clear L d4;have d5:w5.cell? ⟨w.heap.size,6,none⟩=some (.slice Ad nd cd):=eQ YL.1.2.1 d.o 6;have Nb:=ae YL;clear YL;go_wp2_with fail;refine (yB (W:=W) (base:=base) Ad nd cd W0.heap.size r.ev.deps Nb.o.lies Nb.o.2.2.2 Nb.o.1.2.1 (by omega) a aa Y.size R.o.deps R.o.ld).mono ?_;rintro e w6 ⟨A6,n6,c6,rfl,E⟩;obtain⟨y6,M⟩:∃y,y=y5++kT r.ev.deps:=⟨_,rfl⟩;rw[<-M] at E;have b6:n6<=10000005000:=(by have hq:=Nb.o.2.1;rw[E.2.1,M,bI];omega);have aq:=ae M;clear M d5;have d6:w6.cell? ⟨w.heap.size,7,none⟩=some (.slice Af nf cf):=eQ E.1.2.1 d.o 7;have N:=ae E;clear E;go_wp2_with fail;refine (yB (W:=W) (base:=base) Af nf cf W0.heap.size r.ev.from_ N.o.lies N.o.2.2.2 N.o.1.2.1 (by omega) a ab Y.size R.o.from_ R.o.lf).mono ?_;rintro e w7 ⟨A7,n7,c7,rfl,YK⟩;obtain⟨y7,O⟩:∃y,y=y6++kT r.ev.from_:=⟨_,rfl⟩;rw[<-O] at YK;have b7:n7<=10000010000:=(by have hq:=N.o.2.1;rw[YK.2.1,O,bI];omega);have ar:=ae O;clear O d6;have U:y7=xs++dn r seq:=(by rw[ar.o,aq.o,ao.o,an.o,al.o,ad.o,UR.o];unfold dn;simp only[gm]);rw[U] at YK;have Yy:Hid (OutR W0 base A7 n7 c7 (xs++dn r seq) w7):=(by obtain⟨⟨o1,o2,o3⟩,o4⟩:=YK;exact⟨⟨o1,af Y o2 (.inl rfl),(At.refl W0 none).trans o3 Y.size⟩,o4⟩);clear U YK;go_wp2_with fail;go_ret;exact⟨A7,n7,c7,rfl,Yy.o⟩
structure RecHere (w:World)(B b o:Nat)(r:Rec)(Ad:Option Addr)(nd cd:Nat)(Af:Option Addr)(nf cf:Nat):Prop where
 cells:∀j u,(recV r Ad nd cd Af nf cf)[j]?=some u->w.cell? ⟨b,o+j,none⟩=some u
 ld:Lies w B 1 Ad nd (r.ev.deps.map iv)
 lf:Lies w B 1 Af nf (r.ev.from_.map iv)
def Recs (w:World)(B:Nat)(A:Option Addr)(n:Nat)(rs:List Rec):Prop:=
 rs.length=n/\∀k r,rs[k]?=some r->∃(b o:Nat) (Ad:Option Addr) (nd cd:Nat) (Af:Option Addr) (nf cf:Nat),A=some ⟨b,o,none⟩/\b<B/\RecHere w B b (o+k*8) r Ad nd cd Af nf cf
section
variable {w w' : World} {B B' n : Nat} {A : Option Addr} {rs : List Rec}
theorem RecHere.same {b o:Nat}{r:Rec}{Ad:Option Addr}{nd cd:Nat}{Af:Option Addr}{nf cf:Nat}(h:RecHere w B b o r Ad nd cd Af nf cf)(hb:b<B)(hk:∀p:Addr,p.block<B->w'.cell? p=w.cell? p):RecHere w' B b o r Ad nd cd Af nf cf:=
 ⟨λj u a=>(hk _ hb).trans (h.cells j u a),h.ld.same hk,h.lf.same hk⟩
theorem Recs.same (h:Recs w B A n rs)(hk:∀p:Addr,p.block<B->w'.cell? p=w.cell? p):Recs w' B A n rs:=
 ⟨h.1,λk r hr=>by
  obtain⟨b,o,Ad,nd,cd,Af,nf,cf,e,hb,h2⟩:=h.2 k r hr
  exact⟨b,o,Ad,nd,cd,Af,nf,cf,e,hb,h2.same hb hk⟩⟩
theorem Recs.drew (h:Recs w B A n rs):Recs w.drew B A n rs:=h.same λ_ _=>rfl
theorem Recs.alloc (h:Recs w B A n rs)(hB:B<=w.heap.size)(o:Obj):Recs (w.alloc o) B A n rs:=h.same λp a=>EI w o p (by omega)
theorem Recs.grown (h:Recs w B A n rs){row:Option Nat}(hg:w.grownBy w' row)(hB:B<=w.heap.size)(hr:∀g,row=some g->B<=g):Recs w' B A n rs:=
 h.same λp a=>lY (hg.block p.block (by omega) (λe=>by have:=hr _ e.symm;omega))
theorem RecHere.grown {b o:Nat}{r:Rec}{Ad:Option Addr}{nd cd:Nat}{Af:Option Addr}{nf cf:Nat}(h:RecHere w B b o r Ad nd cd Af nf cf)(hb:b<B){row:Option Nat}(hg:w.grownBy w' row)(hB:B<=w.heap.size)(hr:∀g,row=some g->B<=g):RecHere w' B b o r Ad nd cd Af nf cf:=
 h.same hb λp a=>lY (hg.block p.block (by omega) (λe=>by have:=hr _ e.symm;omega))
theorem Recs.at {k:Nat}(h:Recs w B A n rs)(hk:k<n):∃(b o:Nat) (r:Rec) (Ad:Option Addr) (nd cd:Nat) (Af:Option Addr) (nf cf:Nat),A=some ⟨b,o,none⟩/\b<B/\rs[k]?=some r/\RecHere w B b (o+k*8) r Ad nd cd Af nf cf:=by have a:k<rs.length:=(by rw[h.1];exact hk);obtain⟨b,o,Ad,nd,cd,Af,nf,cf,e,hb,h2⟩:=h.2 k rs[k] (bH a);exact⟨b,o,rs[k],Ad,nd,cd,Af,nf,cf,e,hb,bH a,h2⟩
end
theorem RecHere.all {w:World}{B b o:Nat}{r:Rec}{Ad:Option Addr}{nd cd:Nat}{Af:Option Addr}{nf cf:Nat}(h:RecHere w B b o r Ad nd cd Af nf cf):
 w.cell? ⟨b,o,none⟩=some (.int .i64 r.seq)/\w.cell? ⟨b,o+1,none⟩=some (.int .i64 r.ev.thread)/\w.cell? ⟨b,o+2,none⟩=some (.int .i64 r.ev.kind)/\w.cell? ⟨b,o+3,none⟩=some (.int .i64 r.ev.obj)/\
 w.cell? ⟨b,o+4,none⟩=some (.int .i64 r.ev.value)/\w.cell? ⟨b,o+5,none⟩=some (.int .i64 r.ev.site)/\w.cell? ⟨b,o+6,none⟩=some (.slice Ad nd cd)/\w.cell? ⟨b,o+7,none⟩=some (.slice Af nf cf):=
 ⟨h.cells 0 (.int .i64 r.seq) rfl,h.cells 1 _ rfl,h.cells 2 _ rfl,h.cells 3 _ rfl,h.cells 4 _ rfl,h.cells 5 _ rfl,h.cells 6 _ rfl,h.cells 7 _ rfl⟩
end Go.Proofs.YtfbkkgfkhhibfaaGreat
namespace Iv
structure MadeOk (x:Blk):Prop where
 t0:0<=x.thread
 t4:x.thread<4
 f0:0<=x.first
 f4:x.first<=400
 len:x.recs.length<=64
 ok:okRecs x.thread (-1) x.recs=true
 fit:∀r∈x.recs,RecFit r
 sh:∀r∈x.recs,r.ev.deps.length<=100/\r.ev.from_.length<=100
theorem MadeOk.recOk {x:Blk}(h:MadeOk x):∀r∈x.recs,RecOk r:=zB h.ok h.fit
theorem I9 (l:List Int)(h:l.length<=100):(kT l).length<=1010:=by unfold kT;have:=wS l 0;have:=aS (n:=(l.length:Int)) ⟨by omega,by omega⟩;simp only[bI];omega
theorem MX (l:List Rec):∀seq,(∀r∈l,RecOk r/\r.ev.deps.length<=100/\r.ev.from_.length<=100)->(aU seq l).length<=2070*l.length:=by
 induction l with
 |nil=>intro seq _;simp[aU]
 |
  cons r t ih=>
  intro seq h;obtain⟨h0,h1,h2⟩:=h r (by simp);have h3:=ih r.seq λq a=>h q (by simp[a]);have:=aS (eP (r.seq-seq));have:=aS h0.kind;have:=aS h0.obj;have:=aS h0.value;have:=aS h0.site;have:=I9 _ h1;have:=I9 _ h2;simp only[aU,dn,bI,iZ];omega
theorem MadeOk.bytes {x:Blk}(h:MadeOk x):(encode x).1.length<=200000:=by unfold encode;split;rename_i hf;have d:=h.len;obtain⟨z0,q,u,z3,z4,y,B⟩:=fE hf;have a:=MX x.recs (-1) (λr hr=>⟨h.recOk r hr,h.sh r hr⟩);have D:=eU (aU (-1) x.recs);have E:=aS (n:=x.first) ⟨by omega,by omega⟩;have G:=aS (n:=(x.recs.length:Int)) ⟨by omega,by omega⟩;have H:=aS (n:=((aU (-1) x.recs).length:Int)) ⟨by omega,by omega⟩;have I:=aS (n:=((pack (aU (-1) x.recs)).length:Int)) ⟨by omega,by omega⟩;show (az x).length<=_;unfold az bG gI;simp only[bI,iZ,kX];omega;simp
structure EvOk (n:Nat)(k:Int)(e:Ev):Prop where
 th0:0<=e.thread
 thn:e.thread<n
 kd1:1<=e.kind
 kd23:e.kind<=23
 obj:inI64 e.obj
 val:inI64 e.value
 s0: -1<=e.site
 s1:e.site<=60
 dp:(e.deps.length:Int)<=k/\∀x∈e.deps,0<=x/\x<k
 fr:(e.from_.length:Int)<=k/\∀x∈e.from_,0<=x/\x<k
theorem EvOk.fit {n:Nat}{k:Nat}{e:Ev}(h:EvOk n k e)(hn:n<=4)(hk:k<=400):RecFit ⟨(k:Int),e⟩/\e.deps.length<=400/\e.from_.length<=400:=by have h1:=h.th0;have h2:=h.thn;have h3:=h.kd1;have h4:=h.kd23;have h5:=h.s0;have a:=h.s1;have l1:=h.dp.1;have l2:=h.fr.1;refine⟨⟨⟨by show (-9223372036854775808:Int)<=(k:Int);omega,by show (k:Int)<=9223372036854775807;omega⟩,⟨by show (-9223372036854775808:Int)<=e.thread;omega,by show e.thread<=9223372036854775807;omega⟩,⟨by show (-9223372036854775808:Int)<=e.kind;omega,by show e.kind<=9223372036854775807;omega⟩,h.obj,h.val,⟨by show (-9223372036854775808:Int)<=e.site;omega,by show e.site<=9223372036854775807;omega⟩,λx hx=>?_,λx hx=>?_⟩,by omega,by omega⟩;have:=h.dp.2 x hx;exact⟨by omega,by omega⟩;have:=h.fr.2 x hx;exact⟨by omega,by omega⟩
end Iv
namespace Go.Proofs.YtfbkkgfkhhibfaaGreat
open Go Go.RowKit Iv
def ru (x:Blk):Bool:=decide (0<x.recs.length) && decide (0<=x.thread) && decide (x.thread<4) && decide (0<=x.first) && decide (x.first<=400)
theorem ry (x:Blk):oq x=(ru x && okRecs x.thread (-1) x.recs):=rfl
theorem Bg (thread seq:Int)(recs:List Rec)(k:Nat)(r:Rec)(hr:recs[k]?=some r):
 okRecs thread seq (recs.drop k)=(decide (r.ev.thread=thread) && decide (seq<r.seq) && decide (r.ev.deps.length<=400) && decide (r.ev.from_.length<=400) && okRecs thread r.seq (recs.drop (k+1))):=by obtain⟨a,rfl⟩:=dF.1 hr;rw[nY a,okRecs]
theorem Bh (x:Blk)(A:Option Addr)(n c B:Nat)(w:World)(h:Recs w B A n x.recs)(hB:B<=w.heap.size)(hn:n<=1000000):
 Calls Tryz.prog 78 #[.agg #[.int .i64 x.thread,.int .i64 x.first,.slice A n c]] w λe w'=>e= .returned (.bool (oq x))/\w.grownBy w' none:=by
 obtain⟨thread,first,recs⟩:=x;dsimp only at h|-;have E:=ae h.1;by_cases q:n=0\/thread<0\/4<=thread\/first<0\/400<first
 . have a:Hid (oq ⟨thread,first,recs⟩=false):=by
    have:=E.o;rw[ry];have:ru ⟨thread,first,recs⟩=false:=(by unfold ru;simp only[Bi,jy];omega);rw[this];exact ae rfl
   by_cases a0:n=0
   . have J:((n:Int)==0)=true:=(by rw[dV];omega);clear q a0;go_enter Tryz.func78,Tryz.ntmps78;go_wp2_with fail;go_ret;exact⟨dW a.o.symm,aV w _ none⟩
   . have J:((n:Int)==0)=false:=(by rw[gq];omega);have n0:0<n:=(by omega);clear a0;by_cases a1:thread<0
     . clear q;go_enter Tryz.func78,Tryz.ntmps78;go_wp2_with fail;go_ret;exact⟨dW a.o.symm,aV w _ none⟩
     . by_cases a2:(4:Int)<=thread
       . clear q;go_enter Tryz.func78,Tryz.ntmps78;go_wp2_with fail;go_ret;exact⟨dW a.o.symm,aV w _ none⟩
       . by_cases a3:first<0
         . clear q;go_enter Tryz.func78,Tryz.ntmps78;go_wp2_with fail;go_ret;exact⟨dW a.o.symm,aV w _ none⟩
         . have a4:(400:Int)<first:=(by omega);clear q;go_enter Tryz.func78,Tryz.ntmps78;go_wp2_with fail;go_ret;exact⟨dW a.o.symm,aV w _ none⟩
 . have J:((n:Int)==0)=false:=(by rw[gq];omega);have b1:¬thread<0:=(by omega);have b2:¬(4:Int)<=thread:=(by omega);have b3:¬first<0:=(by omega);have b4:¬(400:Int)<first:=(by omega);have L:Hid (oq ⟨thread,first,recs⟩=okRecs thread (-1) recs):=by
    have hl:=E.o;rw[ry];have:ru ⟨thread,first,recs⟩=true:=(by unfold ru;simp only[dC,iq];omega);rw[this];exact ae rfl
   clear q;obtain⟨W,hW⟩:∃W,W=w.alloc (.cells #[.int .i64 thread,.int .i64 first,.slice A n c] 50):=⟨_,rfl⟩;have V:w.grownBy W none:=(by rw[hW];exact aV w _ none);have u:Held W w.heap.size 50 #[.int .i64 thread,.int .i64 first,.slice A n c]:=(by rw[hW];exact Held.new _ _ _);have X:=ae hW;clear hW;go_enter Tryz.func78,Tryz.ntmps78;go_wp2_with fail;rw[show w.alloc (.cells #[.int .i64 thread,.int .i64 first,.slice A n c] 50)=W from X.o.symm];go_loopw [3,5,33] (λY _ iv wr=>∃(k:Nat) (seq:Int),iv= .int .i64 (k:Int)/\k<=n/\Y= .int .i64 seq/\W.grownBy wr none/\okRecs thread seq (recs.drop k)=okRecs thread (-1) recs) (λ_ _ iv _=>n-(intOf iv).toNat)
   case atStart=>exact ⟨0,-1,rfl,ay _,rfl,bu W none,rfl⟩
   case round=>
    obtain⟨k,seq,rfl,hk,rfl,hg,ho⟩:=hrel;have G:=ae ho;clear ho;have d:=af V hg (.inl rfl);by_cases H:k<n
    . obtain⟨b,o,r,Ad,nd,cd,Af,nf,cf,Z,hb,hr,y⟩:=(h.grown d hB nofun).at H;have k0:wr.cell? ⟨w.heap.size,0,none⟩=some (.int .i64 thread):=(u.grown hg nofun).cell 0;have kz:w.heap.size<wr.heap.size:=(u.grown hg nofun).lt;obtain⟨c0,c1,c2,c3,c4,c5,c6,c7⟩:=y.all;subst Z;have M:=ae (Bg thread seq recs k r hr);have l1:=y.ld.lenI;have l2:=y.lf.lenI;have N:=ae l1;have O:=ae l2;have D:=ae (af d (aV wr (.cells #[.int .i64 r.seq,.int .i64 r.ev.thread,.int .i64 r.ev.kind,.int .i64 r.ev.obj,.int .i64 r.ev.value,.int .i64 r.ev.site,.slice Ad nd cd,.slice Af nf cf] 54) none) (.inl rfl));have I:=ae (af hg (aV wr (.cells #[.int .i64 r.seq,.int .i64 r.ev.thread,.int .i64 r.ev.kind,.int .i64 r.ev.obj,.int .i64 r.ev.value,.int .i64 r.ev.site,.slice Ad nd cd,.slice Af nf cf] 54) none) (.inl rfl));clear hr y l1 l2 hg;by_cases h0:r.ev.thread≠thread\/r.seq<=seq\/400<nd\/400<nf
      . have a:Hid (oq ⟨thread,first,recs⟩=false):=by
         have e1:=N.o;have e2:=O.o;have:okRecs thread seq (recs.drop k)=false:=(by rw[M.o];have:(decide (r.ev.thread=thread) && decide (seq<r.seq) && decide (r.ev.deps.length<=400) && decide (r.ev.from_.length<=400))=false:=(by simp only[Bi,jy];omega);rw[this];rfl);rw[L.o,<-G.o,this];exact ae rfl
        by_cases a0:r.ev.thread=thread
        . have R:(r.ev.thread !=thread)=false:=(by rw[sN];exact a0);have A0:=ae a0;by_cases a1:r.seq<=seq
          . clear h0 a0;go_wp2_with fail;go_ret;exact⟨dW a.o.symm,D.o⟩
          . by_cases a2:(400:Int)<(nd:Int)
            . clear h0 a0;go_wp2_with fail;go_ret;exact⟨dW a.o.symm,D.o⟩
            . have a3:(400:Int)<(nf:Int):=(by omega);clear h0 a0;go_wp2_with fail;go_ret;exact⟨dW a.o.symm,D.o⟩
        . have R:(r.ev.thread !=thread)=true:=(by rw[fB];exact a0);clear h0 a0;go_wp2_with fail;go_ret;exact⟨dW a.o.symm,D.o⟩
      . have R:(r.ev.thread !=thread)=false:=(by rw[sN];omega);have g1:¬r.seq<=seq:=(by omega);have g2:¬(400:Int)<(nd:Int):=(by omega);have g3:¬(400:Int)<(nf:Int):=(by omega);have HN:Hid (okRecs thread r.seq (recs.drop (k+1))=okRecs thread (-1) recs):=by
         have e1:=N.o;have e2:=O.o;have:(decide (r.ev.thread=thread) && decide (seq<r.seq) && decide (r.ev.deps.length<=400) && decide (r.ev.from_.length<=400))=true:=(by simp only[dC,iq];omega);have U:=M.o;rw[this,xA,G.o] at U;exact ae U.symm
        clear h0;go_wp2_with fail;go_roundw
        case rel=>exact ⟨k+1,r.seq,by go_num,by omega,rfl,I.o,HN.o⟩
        case measure=>simp [intOf];omega
    . have a:Hid (oq ⟨thread,first,recs⟩=true):=by
       have e1:=G.o;rw[jT (by rw[E.o];omega)] at e1;rw[L.o,<-e1];exact ae rfl
      go_wp2_with fail;go_ret;exact⟨dW a.o.symm,d⟩
theorem WU (x:Blk)(A:Option Addr)(n c:Nat)(w:World)(q:x.recs.length=n)(a:64<n\/n=0\/x.thread<0\/4<=x.thread\/x.first<0\/400<x.first):
 Calls Tryz.prog 60 #[.agg #[.int .i64 x.thread,.int .i64 x.first,.slice A n c]] w λe w'=>e= .returned (.int .i64 (fits x))/\w.grownBy w' none:=by
 obtain⟨thread,first,recs⟩:=x;dsimp only at q a|-;by_cases u:64<n
 . have d:Hid (fits ⟨thread,first,recs⟩=2):=ae (by unfold fits;rw[if_pos (by show 64<recs.length;omega)]);clear a q;go_enter Tryz.func60,Tryz.ntmps60;go_wp2_with fail;go_ret;exact⟨bW d.o.symm,aV w _ none⟩
 . have d:Hid (fits ⟨thread,first,recs⟩=1):=by
    have:ru ⟨thread,first,recs⟩=false:=(by unfold ru;simp only[Bi,jy];omega);have h2:oq ⟨thread,first,recs⟩=false:=(by rw[ry,this];rfl);exact ae (by unfold fits;rw[if_neg (by show¬64<recs.length;omega),h2];rfl)
   clear q;by_cases a0:n=0
   . have y:((n:Int)==0)=true:=(by rw[dV];omega);clear a a0;go_enter Tryz.func60,Tryz.ntmps60;go_wp2_with fail;go_ret;exact⟨bW d.o.symm,aV w _ none⟩
   . have y:((n:Int)==0)=false:=(by rw[gq];omega);have n0:0<n:=(by omega);clear a0;by_cases a1:thread<0
     . clear a;go_enter Tryz.func60,Tryz.ntmps60;go_wp2_with fail;go_ret;exact⟨bW d.o.symm,aV w _ none⟩
     . by_cases a2:(4:Int)<=thread
       . clear a;go_enter Tryz.func60,Tryz.ntmps60;go_wp2_with fail;go_ret;exact⟨bW d.o.symm,aV w _ none⟩
       . by_cases a3:first<0
         . clear a;go_enter Tryz.func60,Tryz.ntmps60;go_wp2_with fail;go_ret;exact⟨bW d.o.symm,aV w _ none⟩
         . have a4:(400:Int)<first:=(by omega);clear a;go_enter Tryz.func60,Tryz.ntmps60;go_wp2_with fail;go_ret;exact⟨bW d.o.symm,aV w _ none⟩
theorem YZ (x:Blk)(A:Option Addr)(n c B:Nat)(w:World)(h:Recs w B A n x.recs)(hB:B<=w.heap.size):
 Calls Tryz.prog 60 #[.agg #[.int .i64 x.thread,.int .i64 x.first,.slice A n c]] w λe w'=>e= .returned (.int .i64 (fits x))/\w.grownBy w' none:=by
 by_cases hh:64<n\/n=0\/x.thread<0\/4<=x.thread\/x.first<0\/400<x.first;exact WU x A n c w h.1 hh
 . obtain⟨thread,first,recs⟩:=x;dsimp only at h hh|-;have HL:=ae h.1;have b0:((n:Int)==0)=false:=(by rw[gq];omega);have b1:¬thread<0:=(by omega);have b2:¬(4:Int)<=thread:=(by omega);have b3:¬first<0:=(by omega);have b4:¬(400:Int)<first:=(by omega);have b5:¬64<n:=(by omega);have HX:Hid (fits ⟨thread,first,recs⟩=if okRecs thread (-1) recs then 0 else 1):=by
    have hl:=HL.o;have:ru ⟨thread,first,recs⟩=true:=(by unfold ru;simp only[dC,iq];omega);have h2:oq ⟨thread,first,recs⟩=okRecs thread (-1) recs:=(by rw[ry,this];rfl);exact ae (by unfold fits;rw[if_neg (by show¬64<recs.length;omega),h2])
   clear hh;obtain⟨W,hW⟩:∃W,W=w.alloc (.cells #[.int .i64 thread,.int .i64 first,.slice A n c] 50):=⟨_,rfl⟩;have iQ:w.grownBy W none:=(by rw[hW];exact aV w _ none);have H:Held W w.heap.size 50 #[.int .i64 thread,.int .i64 first,.slice A n c]:=(by rw[hW];exact Held.new _ _ _);have HW:=ae hW;clear hW;go_enter Tryz.func60,Tryz.ntmps60;go_wp2_with fail;rw[show w.alloc (.cells #[.int .i64 thread,.int .i64 first,.slice A n c] 50)=W from HW.o.symm];go_loopw [3,4] (λiv _ wr=>∃(k:Nat) (seq:Int),iv= .int .i64 (k:Int)/\k<=n/\((k=0/\seq= -1)\/(∃j p,k=j+1/\recs[j]?=some p/\seq=p.seq/\0<=seq))/\W.grownBy wr none/\okRecs thread seq (recs.drop k)=okRecs thread (-1) recs) (λiv _ _=>n-(intOf iv).toNat)
   case atStart=>exact ⟨0,-1,rfl,ay _,.inl ⟨rfl,rfl⟩,bu W none,rfl⟩
   case round=>
    obtain⟨k,seq,rfl,hk,d,hg,ho⟩:=hrel;have HO:=ae ho;clear ho;have aa:=af iQ hg (.inl rfl);have k0:wr.cell? ⟨w.heap.size,0,none⟩=some (.int .i64 thread):=(H.grown hg nofun).cell 0;have k2:wr.cell? ⟨w.heap.size,2,none⟩=some (.slice A n c):=(H.grown hg nofun).cell 2;have kz:w.heap.size<wr.heap.size:=(H.grown hg nofun).lt;by_cases ao:k<n
    . have u:=h.grown aa hB nofun;obtain⟨b,o,r,Ad,nd,cd,Af,nf,cf,hA,hb,hr,hH⟩:=u.at ao;obtain⟨c0,c1,c2,c3,c4,c5,c6,c7⟩:=hH.all;have HS:=ae (Bg thread seq recs k r hr);have l1:=hH.ld.lenI;have l2:=hH.lf.lenI;have L1:=ae l1;have L2:=ae l2;obtain⟨E,N⟩:∃E,E=wr.alloc (.cells #[.int .i64 r.seq,.int .i64 r.ev.thread,.int .i64 r.ev.kind,.int .i64 r.ev.obj,.int .i64 r.ev.value,.int .i64 r.ev.site,.slice Ad nd cd,.slice Af nf cf] 54):=⟨_,rfl⟩;have jQ:wr.grownBy E none:=(by rw[N];exact aV wr _ none);have I:=af hg jQ (.inl rfl);have ab:=af iQ I (.inl rfl);have J:Held E wr.heap.size 54 (recV r Ad nd cd Af nf cf):=(by rw[N];exact Held.new _ _ _);have X:=ae N;have ad:=ae I;have V:=ae ab;have d0:E.cell? ⟨wr.heap.size,0,none⟩=some (.int .i64 r.seq):=J.cell 0;have d1:E.cell? ⟨wr.heap.size,1,none⟩=some (.int .i64 r.ev.thread):=J.cell 1;have d6:E.cell? ⟨wr.heap.size,6,none⟩=some (.slice Ad nd cd):=J.cell 6;have d7:E.cell? ⟨wr.heap.size,7,none⟩=some (.slice Af nf cf):=J.cell 7;have m0:E.cell? ⟨w.heap.size,0,none⟩=some (.int .i64 thread):=(H.grown I nofun).cell 0;have m2:E.cell? ⟨w.heap.size,2,none⟩=some (.slice A n c):=(H.grown I nofun).cell 2;have a:Hid (r.ev.thread≠thread\/r.seq<=seq\/400<nd\/400<nf->fits ⟨thread,first,recs⟩=1):=by
       refine ae λh0=>?_;have e1:=L1.o;have e2:=L2.o;have:okRecs thread seq (recs.drop k)=false:=(by rw[HS.o];have:(decide (r.ev.thread=thread) && decide (seq<r.seq) && decide (r.ev.deps.length<=400) && decide (r.ev.from_.length<=400))=false:=(by simp only[Bi,jy];omega);rw[this];rfl);rw[HX.o,<-HO.o,this];rfl
      have L:Hid (r.ev.thread=thread->seq<r.seq->nd<=400->nf<=400->okRecs thread r.seq (recs.drop (k+1))=okRecs thread (-1) recs):=(by refine ae λx1 x2 x3 x4=>?_;have e1:=L1.o;have e2:=L2.o;have:(decide (r.ev.thread=thread) && decide (seq<r.seq) && decide (r.ev.deps.length<=400) && decide (r.ev.from_.length<=400))=true:=(by simp only[dC,iq];omega);have e3:=HS.o;rw[this,xA,HO.o] at e3;exact e3.symm);have HR:=ae hr;clear hH l1 l2 hg N J hr jQ I ab;subst hA;go_upto_region 9 with fail;rw[show wr.alloc (.cells #[.int .i64 r.seq,.int .i64 r.ev.thread,.int .i64 r.ev.kind,.int .i64 r.ev.obj,.int .i64 r.ev.value,.int .i64 r.ev.site,.slice Ad nd cd,.slice Af nf cf] 54)=E from X.o.symm];clear c0 c1 c2 c3 c4 c5 c6 c7;by_cases a0:r.ev.thread=thread
      . have g0:(r.ev.thread !=thread)=false:=(by rw[sN];exact a0);have A0:=ae a0;clear a0;by_cases a1:r.seq<=seq
        . have y:=ae (a.out (.inr (.inl a1)));rcases d with ⟨O,R⟩|⟨j,p,hkj,hp,hsp,hp0⟩
          . have q1:decide (r.seq<0)=true:=decide_eq_true (by omega);clear O R a1;go_quiet (fail);go_wp2_with fail;go_ret;exact⟨bW y.o.symm,aQ V.o _⟩
          . obtain⟨b',o',Y,Dy,JA,Gg,Dz,JB,aq,M,U,q,G⟩:=u.at (k:=j) (by omega);simp only[ig,Addr.mk.injEq,and_true] at M;obtain⟨rfl,rfl⟩:=M;have Z:Y=p:=(by rw[hp] at q;exact DC q.symm);subst Z;have e0:E.cell? ⟨b,o+j*8,none⟩=some (.int .i64 Y.seq):=sH (by rw[X.o];exact aV wr _ none) G.all.1 (by simp);have q2:decide ((0:Int)<(k:Int))=true:=decide_eq_true (by omega);have al:decide (0<k)=true:=decide_eq_true (by omega);have q3:decide (r.seq<=Y.seq)=true:=decide_eq_true (by omega);have ar:IntKind.i64.wrap ((k:Int)-1)=(j:Int):=(by rw[fP _ (by omega)];omega);have j0:(0:Int)<=(j:Int):=(by omega);have j1:(j:Int)<(n:Int):=(by omega);by_cases D:r.seq<0
            . have q1:decide (r.seq<0)=true:=decide_eq_true D;clear hkj hp hsp hp0 a1 U q G D u;go_quiet (fail);go_wp2_with fail;go_ret;exact⟨bW y.o.symm,aQ V.o _⟩
            . have q1:decide (r.seq<0)=false:=fK D;clear hkj hp hsp hp0 a1 U q G D u;go_quiet (fail);go_wp2_with fail;go_ret;exact⟨bW y.o.symm,aQ V.o _⟩
        . have q1:decide (r.seq<0)=false:=fK (by rcases d with ⟨_,R⟩|⟨_,_,_,_,hsp,hp0⟩<;>omega);have an:Hid (seq<r.seq):=ae (by omega);rcases d with ⟨O,R⟩|⟨j,p,hkj,hp,hsp,hp0⟩
          . have q2:decide ((0:Int)<(k:Int))=false:=fK (by omega);have al:decide (0<k)=false:=fK (by omega);have a6:Hid (0<=r.seq):=ae (by omega);have av:=ae O;clear O R a1 u;by_cases a2:(400:Int)<(nd:Int)
            . have s2:decide ((400:Int)<(nd:Int))=true:=decide_eq_true a2;have a7:decide (400<nd)=true:=decide_eq_true (by omega);have y:=ae (a.out (.inr (.inr (.inl (by omega)))));clear a2;go_quiet (fail);go_wp2_with fail;go_ret;exact⟨bW y.o.symm,aQ V.o _⟩
            . have s2:decide ((400:Int)<(nd:Int))=false:=fK a2;have a7:decide (400<nd)=false:=fK (by omega);by_cases a3:(400:Int)<(nf:Int)
              . have s3:decide ((400:Int)<(nf:Int))=true:=decide_eq_true a3;have a8:decide (400<nf)=true:=decide_eq_true (by omega);have y:=ae (a.out (.inr (.inr (.inr (by omega)))));clear a2 a3;go_quiet (fail);go_wp2_with fail;go_ret;exact⟨bW y.o.symm,aQ V.o _⟩
              . have s3:decide ((400:Int)<(nf:Int))=false:=fK a3;have a8:decide (400<nf)=false:=fK (by omega);have HG:=ae (L.out A0.o an.o (by omega) (by omega));clear a2 a3;go_quiet (fail);go_wp2_with fail;go_roundw
                case rel=>exact ⟨k+1,r.seq,by go_num,by omega,.inr ⟨k,r,rfl,HR.o,rfl,a6.o⟩,aQ ad.o _,HG.o⟩
                case measure=>simp [intOf];omega
          . obtain⟨b',o',Y,Dy,JA,Gg,Dz,JB,aq,M,U,q,G⟩:=u.at (k:=j) (by omega);simp only[ig,Addr.mk.injEq,and_true] at M;obtain⟨rfl,rfl⟩:=M;have Z:Y=p:=(by rw[hp] at q;exact DC q.symm);subst Z;have e0:E.cell? ⟨b,o+j*8,none⟩=some (.int .i64 Y.seq):=sH (by rw[X.o];exact aV wr _ none) G.all.1 (by simp);have q2:decide ((0:Int)<(k:Int))=true:=decide_eq_true (by omega);have al:decide (0<k)=true:=decide_eq_true (by omega);have q3:decide (r.seq<=Y.seq)=false:=fK (by omega);have ar:IntKind.i64.wrap ((k:Int)-1)=(j:Int):=(by rw[fP _ (by omega)];omega);have j0:(0:Int)<=(j:Int):=(by omega);have j1:(j:Int)<(n:Int):=(by omega);have a6:Hid (0<=r.seq):=ae (by omega);clear hkj hp hsp hp0 a1 U q G u;by_cases a2:(400:Int)<(nd:Int)
            . have s2:decide ((400:Int)<(nd:Int))=true:=decide_eq_true a2;have a7:decide (400<nd)=true:=decide_eq_true (by omega);have y:=ae (a.out (.inr (.inr (.inl (by omega)))));clear a2;go_quiet (fail);go_wp2_with fail;go_ret;exact⟨bW y.o.symm,aQ V.o _⟩
            . have s2:decide ((400:Int)<(nd:Int))=false:=fK a2;have a7:decide (400<nd)=false:=fK (by omega);by_cases a3:(400:Int)<(nf:Int)
              . have s3:decide ((400:Int)<(nf:Int))=true:=decide_eq_true a3;have a8:decide (400<nf)=true:=decide_eq_true (by omega);have y:=ae (a.out (.inr (.inr (.inr (by omega)))));clear a2 a3;go_quiet (fail);go_wp2_with fail;go_ret;exact⟨bW y.o.symm,aQ V.o _⟩
              . have s3:decide ((400:Int)<(nf:Int))=false:=fK a3;have a8:decide (400<nf)=false:=fK (by omega);have HG:=ae (L.out A0.o an.o (by omega) (by omega));clear a2 a3;go_quiet (fail);go_wp2_with fail;go_roundw
                case rel=>exact ⟨k+1,r.seq,by go_num,by omega,.inr ⟨k,r,rfl,HR.o,rfl,a6.o⟩,aQ ad.o _,HG.o⟩
                case measure=>simp [intOf];omega
      . have g0:(r.ev.thread !=thread)=true:=(by rw[fB];exact a0);have y:=ae (a.out (.inl a0));clear a0 d;go_quiet (fail);go_wp2_with fail;go_ret;exact⟨bW y.o.symm,aQ V.o _⟩
    . have y:Hid (fits ⟨thread,first,recs⟩=0):=by
       have e1:=HO.o;rw[jT (by rw[HL.o];omega)] at e1;rw[HX.o,<-e1];exact ae rfl
      clear d;go_wp2_with fail;go_ret;exact⟨bW y.o.symm,aa⟩
