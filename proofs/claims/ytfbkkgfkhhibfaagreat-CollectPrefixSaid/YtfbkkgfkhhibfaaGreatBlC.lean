/- Words. -/
import Derived.Test.YtfbkkgfkhhibfaaGreatDecR
import Derived.RangeFuncNested
import Derived.RangeFuncBound
import Derived.RangeFuncCalls
import Derived.RangeFuncLeaves
import Derived.Shelf.Abstract
import Derived.Shelf.RegionOpen
import Derived.OwnWalkIn
import Derived.TacticsInMore
import Derived.LoopNIn
import Derived.LoopIn
set_option linter.unusedVariables false
set_option linter.unusedSimpArgs false
set_option maxRecDepth 100000
set_option maxHeartbeats 8000000
namespace Go.Proofs.YtfbkkgfkhhibfaaGreat
open Go Go.RowKit Iv
theorem PH (b:Bytes)(t:UInt8)(first:Int)(n:Nat)(size:Int)(from_ end_:Nat):(∀r∈(pJ b t first n size from_ end_).1.recs,RecOk r)/\(pJ b t first n size from_ end_).1.recs.length<=n:=by
 cases h:oO b t n size from_ end_ with
 |none=>rw [FH h];exact⟨λr hr=>by simp[aF] at hr,by simp[aF]⟩
 |
  some l=>
  obtain⟨h1,h2,h3⟩:=FI (first:=first) h;rw[h1];split;exact⟨h3,oK h2⟩;exact⟨λr hr=>by simp[aF] at hr,by simp[aF]⟩
theorem Iy (b:Bytes):(∀r∈(Iv.decode b).1.recs,RecOk r)/\(Iv.decode b).1.recs.length<=64:=by have a:(∀r∈aF.recs,RecOk r)/\aF.recs.length<=64:=⟨λr hr=>by simp[aF] at hr,by simp[aF]⟩;unfold Iv.decode gu;split;exact a;split;exact a;split;exact a;split;exact a;split;exact a;rename_i hb;split;exact a;split;exact a;have h1:=wU (by simpa using hb);exact⟨(PH _ _ _ _ _ _ _).1,aK (PH _ _ _ _ _ _ _).2 (by omega)⟩
theorem rQ {W0 wr w1:World}{o:Option Nat}(h:W0.grownBy wr none)(hg:wr.grownBy w1 o)(ho:∀g,o=some g->W0.heap.size<=g):W0.grownBy w1 none:=by
 refine af h hg ?_
 cases o with
 |none=>exact .inl rfl
 |some g=>exact .inr ⟨g,rfl,ho g rfl⟩
theorem U8 (w:World)(x:Blk)(A:Option Addr)(n c:Nat):∀j u,(qL x A n c).toList[j]?=some u->(w.alloc (.cells (qL x A n c) 50)).cell? ((⟨w.heap.size,0,none⟩:Addr).add j)=some u:=by obtain⟨a,e,_,hc⟩:=(YY w x A n c).2 (by omega);injection e with e;subst e;exact hc
theorem O4 (A:Option Addr)(n c B:Nat)(xs:Bytes)(th:Int)(w:World)(h:Lies w B 1 A n (xs.map bv))(hB:B<=w.heap.size)(hnc:n<=c)(aw:c<=maxLen)(ho:A=none->c=0)(bk:n<=1000000):
 Calls Tryz.prog 12 #[.slice A n c,.int .i64 th] w (JK (aI th xs 0 (-1)) w):=by
 have HL:=ae h;have aD:=ae h.lenB;have HO:=ae ho;unfold maxLen at aw;clear h ho;go_enter Tryz.func12,Tryz.ntmps12;go_wp2_with fail;go_loopw [6,7,8,9] (λv av rv lv wr=>∃(k:Nat) (rc la:Int) (done:List (Blk×Nat)) (css:List Value),av= .int .i64 (k:Int)/\rv= .int .i64 rc/\lv= .int .i64 la/\k<=n/\(0<=rc/\rc<=1000)/\inI64 la/\wr.ownsRow w.heap.size 50 3 v done.length css/\BlksAt wr w.heap.size v.ownBlock css (done.map (·.1))/\w.grownBy wr none/\done++aI th (xs.drop k) rc la=aI th xs 0 (-1)/\sizeB done=k/\done.length<=k) (λ_ av _ _ _=>n-(intOf av).toNat)
 case atStart=>exact ⟨0,0,-1,[],[],rfl,rfl,rfl,ay _,⟨by omega,by omega⟩,⟨by omega,by omega⟩,dD _ _ _ _,BlksAt.nil _ _ _,bu w none,rfl,rfl,au _⟩
 case round=>
  obtain⟨k,rc,la,done,css,rfl,rfl,rfl,hk,⟨bl,bm⟩,hla,hown,hrow,hg,hall,hsz,hdl⟩:=hrel;have N:=(HL.o.grown hg hB nofun).dropIf (k:=k) hk hnc;obtain⟨A',Z⟩:∃A',(if c=k then A else A.map λx=>x.add k)=A':=⟨_,rfl⟩;have hcut:Lies wr B 1 A' (n-k) ((xs.drop k).map bv):=(by rw[je,<-pq,Z] at N;exact N);have NM:A'=none->c-k=0:=(by intro e0;rw[<-Z] at e0;split at e0;omega;simp only[QR] at e0;have:=HO.o e0;omega);obtain⟨d,hd⟩:∃d,d=Iv.decode (xs.drop k):=⟨_,rfl⟩;have CD:=ae (PE A' (n-k) (c-k) B (xs.drop k) wr hcut (aK hB hg.size) (by omega) (by unfold maxLen;omega) NM (by omega));rw[<-hd] at CD;have O:=ae hd;have E:=ae hown;have nC:=ae hrow;have HG:=ae hg;have yS:=ae hall;have Qy:=ae hsz;have bn:=ae hla;obtain⟨Av,cv,aL,bo,bp,_,Yw⟩:=ai hown;have k1:(0:Int)<=(k:Int):=(by omega);have k2:(k:Int)<=(n:Int):=(by omega);have k3:(k:Int)<=(c:Int):=(by omega);clear N hcut NM hd hown hrow hg hall hsz hla Yw;subst aL;go_wp2_with fail;refine CD.o.mono ?_;rintro e w2 ⟨A2,n2,c2,rfl,FC,R,wI,a6,aM⟩;obtain⟨⟨y,u,rs⟩,sz,er⟩:=d;dsimp only at FC|-;obtain⟨q,J⟩:∃q,q=w2.alloc (.cells #[.int .i64 y,.int .i64 u,.slice A2 n2 c2] 50):=⟨_,rfl⟩;have jQ:w2.grownBy q none:=(by rw[J];exact aV w2 _ none);have G:Held q w2.heap.size 50 #[.int .i64 y,.int .i64 u,.slice A2 n2 c2]:=(by rw[J];exact Held.new _ _ _);have bq:wr.heap.size<=w2.heap.size:=R.size;have xu:=af R jQ (.inl rfl);have a8:=FC.keep jQ nofun;have M:∀W',q.grownBy W' none->aI th (xs.drop k) rc la=[]->JK (aI th xs 0 (-1)) w (.returned (.tuple #[.slice Av done.length cv,.int .i64 (k:Int)])) W':=(by intro W' aR a7;have U:=af xu aR (.inl rfl);rw[<-yS.o,a7,nZ];exact⟨_,css,by rw[Qy.o],ax E.o U nofun,nC.o.keep U nofun,af HG.o U (.inl rfl)⟩);have qh:=ae M;have b0:=ae G;have b1:=ae J;have uh:=ae xu;have qm:=ae a8;have x0:q.cell? ⟨w2.heap.size,0,none⟩=some (.int .i64 y):=G.cell 0;have x1:q.cell? ⟨w2.heap.size,1,none⟩=some (.int .i64 u):=G.cell 1;have x2:q.cell? ⟨w2.heap.size,2,none⟩=some (.slice A2 n2 c2):=G.cell 2;clear J G xu a8 M FC R jQ;go_upto_region 4 with fail;rw[show w2.alloc (.cells #[.int .i64 y,.int .i64 u,.slice A2 n2 c2] 50)=q from b1.o.symm];by_cases he:er=0
  . subst he;by_cases ht:y=th
    . subst ht;by_cases hf:u=rc
      . subst hf;obtain⟨f0,fk,fl,fp⟩:=pK O.o.symm;obtain⟨z0,z1,z2,z3,z4,z5,z6⟩:=fE f0;have b2:rs.length=n2:=qm.o.1;dsimp only at z0 z1 z4 z5;have br:(xs.drop k).length=n-k:=(by rw[qf,aD.o]);obtain⟨r0,Y⟩:∃r0,rs[0]?=some r0:=⟨rs[0],bH z0⟩;obtain⟨m,hm⟩:∃m,n2=m+1:=⟨n2-1,by omega⟩;obtain⟨L,H⟩:∃L,rs[m]?=some L:=⟨rs[m],bH (by omega)⟩;obtain⟨b,o,_,_,_,_,_,_,rfl,q0⟩:=qm.o.2 0 r0 Y;obtain⟨b',o',_,_,_,_,_,_,eA,ql⟩:=qm.o.2 m L H;injection eA with eA;injection eA with b3 eA2;subst b3 eA2;have y0:q.cell? ⟨b,o,none⟩=some (.int .i64 r0.seq):=(by have:=q0.cells 0 (.int .i64 r0.seq) rfl;simpa using this);have yl:q.cell? ⟨b,o+m*8,none⟩=some (.int .i64 L.seq):=(by have:=ql.cells 0 (.int .i64 L.seq) rfl;simpa using this);have i1:(0:Int)<(n2:Int):=(by omega);obtain⟨aa,V⟩:∃aa,rs=r0::aa:=by
         cases rs with
         |nil=>simp at Y
         |cons a l=>simp at Y;exact⟨l,by rw[Y]⟩
        have ab:Hid (lF y u la (Iv.decode (xs.drop k))=decide (la<r0.seq)):=ae (by rw[<-O.o];unfold lF;rw[V];simp);by_cases hq:r0.seq<=la
        . have X:=ae (show aI y (xs.drop k) u la=[] from dN (by rw[ab.o];exact fK (by omega)));clear V fp fk fl f0 Y H;go_wp2_with fail;go_ret2;exact qh.o _ (bu q none) X.o
        . have Vg:=ae (oH (th:=y) (recs:=u) (last:=la) (b:=xs.drop k) (by rw[ab.o];exact decide_eq_true (by omega)));have b4:Hid (jg (⟨y,u,rs⟩:Blk) la=L.seq):=ae (by unfold jg;dsimp only;rw[aay,show rs.length-1=m by omega,H]);have ad:=((Iy (xs.drop k)).1 L (by rw[<-O.o];exact gZ H)).seq;have b5:=ae ad;have bt:sz<=n-k:=(by omega);have al:0<=u+(n2:Int)/\u+(n2:Int)<=1000:=(by omega);have b6:=ae al;clear al;have bx:0<sz:=fp;have bB:(n2:Int)-1=(m:Int):=(by omega);have b8:k+sz<=n:=(by omega);have bF:IntKind.i64.wrap ((k:Int)+(sz:Int))=(k:Int)+(sz:Int):=fP _ (by omega);have bN:IntKind.i64.wrap (u+(n2:Int))=u+(n2:Int):=fP _ (by omega);have bO:IntKind.i64.wrap (m:Int)=(m:Int):=fP _ (by omega);have i2:(0:Int)<=(m:Int):=(by omega);have i3:(m:Int)<(n2:Int):=(by omega);clear V fk fl f0 Y H ad hm b2;go_upto_region 6 with fail;have b9:b<q.heap.size:=ql.hib;have bP:wr.heap.size<=b:=ql.lob;have ba:=ae yl;have D6:=ae (λg (e:(Value.slice Av done.length cv).ownBlock=some g)=>(E.o.lt g e).2);have Yx:=ae (ax E.o uh.o nofun);obtain⟨j0,hi,an,ao,aq⟩:=info_parts Ov;have HI:=ae hi;have bc:=ae an;have bd:=ae ao;have bf:=ae aq;have hz:(0:Nat)<3:=(by omega);have bR:w.heap.size<=q.heap.size:=aK HG.o.size uh.o.size;have bS:done.length<=1000000:=(by omega);clear y0 yl hi an ao aq q0 ql;go_wp2_with (at_builtin;refine cZ _ rfl (.tmp 46) (.tmp 48) _ rfl w.heap.size 50 j0 _ 3 40 Tryz.underlying45 HI.o bc.o bd.o bf.o rfl hz _ (Value.slice Av done.length cv).ownBlock done.length css rfl (App.own (Yx.o.alloc _)) ⟨q.heap.size,0,none⟩ 1 1 (qL ⟨y,u,rs⟩ (some ⟨b,o,none⟩) n2 c2).toList rfl (by omega) rfl (U8 q ⟨y,u,rs⟩ _ n2 c2) (Ou _ _ _ _) (by unfold maxLen;omega) (by omega) (by simp;omega) ?_;intro v4 w4 D I nD;obtain⟨A4,c4,bh,c6,c7,_,c9⟩:=ai D;have ca:w4.cell? ⟨w2.heap.size,2,none⟩=some (.slice (some ⟨b,o,none⟩) n2 c2):=(((b0.o.alloc _).grown I (λe=>by have:=D6.o _ e.symm;omega)).cell 2);have cb:w4.cell? ⟨b,o+m*8,none⟩=some (.int .i64 L.seq):=(qi (lY (I.block b (by simp;omega) (λe=>by have:=D6.o _ e.symm;omega))) ((EI _ _ _ b9).trans ba.o));subst bh);have ar:=(((nC.o.keep uh.o nofun).keep (aV q (.cells (qL ⟨y,u,rs⟩ (some ⟨b,o,none⟩) n2 c2) 50) none) nofun).snoc (x:=⟨y,u,rs⟩) (((qm.o.keep (aV q (.cells (qL ⟨y,u,rs⟩ (some ⟨b,o,none⟩) n2 c2) 50) none) nofun).off D6.o).lower HG.o.size) wI a6 aM).grow I nD;have YA:=ae ar;have YB:=ae D;have bj:At wr (Value.slice Av done.length cv).ownBlock (Value.slice A4 (done.length+1) c4).ownBlock:=(At.refl wr _).trans nD (by have:=uh.o.size;simp;omega);have Gw:wr.grownBy w4 (Value.slice Av done.length cv).ownBlock:=af (af (dJ uh.o _) (aV q _ _) (.inl rfl)) I (.inl rfl);have Gx:=ae (rQ HG.o Gw (λg e=>(E.o.lt g e).1));clear ar D bj Gw I nD;go_roundw
          case rel=>exact ⟨k+sz,u+(n2:Int),L.seq,done++[(⟨y,u,rs⟩,sz)],_,by go_num,rfl,rfl,b8,b6.o,b5.o,by rw[bI];exact YB.o,by rw[fQ];exact YA.o,Gx.o,by rw[<-yS.o,Vg.o,<-O.o,gm];dsimp only;rw[b4.o,Aj,qm.o.1];rfl,by unfold sizeB at Qy|-;rw[fQ,KH,Qy.o];simp,by rw[bI];simp;omega⟩
          case measure=>simp [intOf];omega
      . have cc:(u !=rc)=true:=(by rw[fB];exact hf);have X:=ae (show aI y (xs.drop k) rc la=[] from dN (by rw[<-O.o];unfold lF;simp[hf]));clear hf;go_wp2_with fail;go_ret2;exact qh.o _ (bu q none) X.o
    . have cg:(y !=th)=true:=(by rw[fB];exact ht);have X:=ae (show aI th (xs.drop k) rc la=[] from dN (by rw[<-O.o];unfold lF;simp[ht]));clear ht;go_wp2_with fail;go_ret2;exact qh.o _ (bu q none) X.o
  . have X:=ae (show aI th (xs.drop k) rc la=[] from dN (by rw[<-O.o];unfold lF;simp[he]));have cj:(er !=0)=true:=(by rw[fB];exact he);clear he;go_wp2_with fail;go_ret2;exact qh.o _ (bu q none) X.o
end Go.Proofs.YtfbkkgfkhhibfaaGreat
namespace Go.Proofs.YtfbkkgfkhhibfaaGreat
open Go Go.RowKit Go.Shelf Iv
attribute [local go_sem] Oper.semAt_some
structure Kept (B gb gt:Nat)(w w':World):Prop where
 size:w.heap.size<=w'.heap.size
 b:w'.heap[gb]?=w.heap[gb]?
 t:w'.heap[gt]?=w.heap[gt]?
 low:∀k,k<B->w'.heap[k]?=w.heap[k]?
theorem Kept.lies {B gb gt sz n:Nat}{w w':World}{A:Option Addr}{xs:List Value}(h:Kept B gb gt w w')(a:Lies w B sz A n xs):Lies w' B sz A n xs:=
 a.same λp d=>lY (h.low p.block d)
def aax (w:World)(g:Nat):Nat:=match w.cell? ⟨g,0,none⟩ with|some (.slice _ n _)=>n|_=>0
theorem yU {w:World}{g n c:Nat}{A:Option Addr}{t:TypeId}(h:Held w g t #[.slice A n c]):aax w g=n:=by unfold aax;rw[show w.cell? ⟨g,0,none⟩=some (.slice A n c) from h.cell 0]
theorem Fz {w:World}{lo n g:Nat}{A:Option Addr}{rs:List Rec}(h:RecsNew w lo A n rs)(hg:g<lo)(v:Value):RecsNew (w.setCell ⟨g,0,none⟩ v) lo A n rs:=
 (((h.off (o:=some g) (λx e=>by cases e;exact hg)).grow (o':=some g) (ag w g 0 v) (.inl rfl)).new)
theorem Z8 (n:Nat)(hn:1<=n)(l gb gt:Nat)(A:Option Addr)(u c B:Nat)(xs:Bytes)(th:Int)(w:World)
 (h:Lies w B 1 A u (xs.map bv)) (hB:B<=gb) (b6:gb≠gt) (hnc:u<=c) (bq:c<=maxLen) (ho:A=none->c=0) (bO:u<=1000000)
 (M:Held w gb 22 #[.slice A u c]) (U:Held w gt 3 #[.int .i64 th])
 (J:List (Blk×Nat)->World->Prop) (hJ:∀p W W',J p W->W.grownBy W' (some gb)->J p W') (h0:J [] w)
 (hY:∀pre x k (W0 W:World) (A':Option Addr) (n' c':Nat),J pre W0->W0.grownBy W (some gb)->RecsNew W W0.heap.size A' n' x.recs->n'<=c'->c'<=maxLen->(A'=none->c'=0)->pre.length<=sizeB pre->sizeB pre+k<=u->
  YieldAt Fence.wide (n-1) Tryz.prog l #[.agg #[.int .i64 x.thread,.int .i64 x.first,.slice A' n' c'],.int .i64 (k:Int)] W λe W'=>e= .returned (.bool true)/\J (pre++[(x,k)]) W'/\Kept B gb gt W W'):
 CallsIn Fence.wide n Tryz.prog 85 #[.func (.yield l) #[] #[],.pointer (some ⟨gb,0,none⟩),.pointer (some ⟨gt,0,none⟩)] w λe w'=>(∃v,e= .returned v)/\J (aI th xs 0 (-1)) w':=by
 have br:=ae h.lenB;have b8:=ae b6;have HJ:=ae hJ;have HY:=ae hY;have bP:1<=n-1+1:=(by omega);unfold maxLen at bq
 have b9:∃(k:Nat) (rc la:Int) (done:List (Blk×Nat)) (E:Option Addr) (G:Nat),Value.int .i64 0= .int .i64 rc/\Value.int .i64 (-1)= .int .i64 la/\k<=u/\(0<=rc/\rc<=1000)/\inI64 la/\Held w gb 22 #[.slice E (u-k) G]/\Held w gt 3 #[.int .i64 th]/\Lies w B 1 E (u-k) ((xs.drop k).map bv)/\u-k<=G/\G<=maxLen/\(E=none->G=0)/\J done w/\done++aI th (xs.drop k) rc la=aI th xs 0 (-1)/\sizeB done=k/\done.length<=k:=
  ⟨0,0,-1,[],A,c,rfl,rfl,ay _,⟨by omega,by omega⟩,⟨by omega,by omega⟩,M,U,h,hnc,by unfold maxLen;omega,ho,h0,rfl,rfl,au _⟩
 have bt:=ae b9;clear h ho hJ hY h0 M U b9 b6;refine callsIn_of_wp Tryz.func85 rfl trivial ?_ rfl;simp only[Tryz.ntmps85,Bf,iZ,zD,Nat.reduceAdd,Nat.reduceSub,Z4,Z5,List.push_toArray,Z7,lG,xE];gi_wp2_with fail;gi_loopw [4,5] (λcv qv wr=>∃(k:Nat) (rc la:Int) (done:List (Blk×Nat)) (E:Option Addr) (G:Nat),cv= .int .i64 rc/\qv= .int .i64 la/\k<=u/\(0<=rc/\rc<=1000)/\inI64 la/\Held wr gb 22 #[.slice E (u-k) G]/\Held wr gt 3 #[.int .i64 th]/\Lies wr B 1 E (u-k) ((xs.drop k).map bv)/\u-k<=G/\G<=maxLen/\(E=none->G=0)/\J done wr/\done++aI th (xs.drop k) rc la=aI th xs 0 (-1)/\sizeB done=k/\done.length<=k) (λ_ _ wr=>aax wr gb)
 case atStart=>exact bt.o
 case round=>
  obtain⟨k,rc,la,done,E,G,rfl,rfl,hk,⟨bR,bS⟩,hla,M,U,hl,wI,hcm2,ho2,hJd,hall,hsz,hdl⟩:=hrel;obtain⟨d,hd⟩:∃d,d=Iv.decode (xs.drop k):=⟨_,rfl⟩;have CD:=ae (Pm E (u-k) G B (xs.drop k) wr hl (by have:=M.lt;omega) wI hcm2 ho2 (by omega));rw[<-hd] at CD;have HD:=ae hd;have HL:=ae hl;have c6:=ae hla;have yC:=ae ho2;have aq:=ae M;have ba:=ae U;have aL:=ae hJd;have yS:=ae hall;have Qy:=ae hsz;have xb:wr.cell? ⟨gb,0,none⟩=some (.slice E (u-k) G):=M.cell 0;unfold maxLen at hcm2;clear hd hl hla ho2 M U hJd hall hsz;gi_wp2_with fail;refine⟨trivial,?_⟩;refine (callsIn_wide.2 CD.o).mono ?_;rintro e w2 ⟨A2,n2,c2,rfl,FC,aM,D8,D9,bc⟩;obtain⟨⟨N,L,rs⟩,sz,er⟩:=d;dsimp only at FC|-;have c7:wr.heap.size<=w2.heap.size:=aM.size;obtain⟨O,ar⟩:∃O,O=w2.alloc (.cells #[.int .i64 N,.int .i64 L,.slice A2 n2 c2] 50):=⟨_,rfl⟩;have jQ:w2.grownBy O none:=(by rw[ar];exact aV w2 _ none);have av:=af aM jQ (.inl rfl);have qm:=ae (FC.keep jQ nofun);have uh:=ae av;have aw:=aq.o.grown av nofun;have V:=ba.o.grown av nofun;have an:gb<wr.heap.size:=aq.o.lt;have c9:gt<wr.heap.size:=ba.o.lt;have xt:O.cell? ⟨gt,0,none⟩=some (.int .i64 th):=V.cell 0;have bx:O.cell? ⟨gb,0,none⟩=some (.slice E (u-k) G):=aw.cell 0;have xf:O.frozen? ⟨gb,0,none⟩=false:=aw.free 0;have bd:=ae aw;have bf:=ae V;have D:=ae ar;rw[ar] at xt bx xf;have ao:∀W',O.grownBy W' none->aI th (xs.drop k) rc la=[]->(∃v,Ending.returned (Value.tuple #[])= .returned v)/\J (aI th xs 0 (-1)) W':=(by intro W' bB b5;have H:=af uh.o bB (.inl rfl);rw[<-yS.o,b5,nZ];exact⟨⟨_,rfl⟩,HJ.o _ _ _ aL.o (dJ H _)⟩);have qh:=ae ao;clear xb ar aM jQ av aw V ao FC;by_cases he:er=0
  . subst he;by_cases ht:N=th
    . subst ht;by_cases hf:L=rc
      . subst hf;obtain⟨f0,fk,fl,fp⟩:=pK HD.o.symm;obtain⟨z0,z1,z2,z3,z4,z5,z6⟩:=fE f0;have bh:rs.length=n2:=qm.o.1;dsimp only at z0 z1 z4 z5;have ca:(xs.drop k).length=u-k:=(by rw[qf,br.o]);obtain⟨r0,Ah⟩:∃r0,rs[0]?=some r0:=⟨rs[0],bH z0⟩;obtain⟨m,hm⟩:∃m,n2=m+1:=⟨n2-1,by omega⟩;obtain⟨rl,X⟩:∃rl,rs[m]?=some rl:=⟨rs[m],bH (by omega)⟩;obtain⟨b,o,_,_,_,_,_,_,rfl,q0⟩:=qm.o.2 0 r0 Ah;obtain⟨b',o',_,_,_,_,_,_,eA,ql⟩:=qm.o.2 m rl X;injection eA with eA;injection eA with bF eA2;subst bF eA2;have y0:O.cell? ⟨b,o,none⟩=some (.int .i64 r0.seq):=(by have:=q0.cells 0 (.int .i64 r0.seq) rfl;simpa using this);have yl:O.cell? ⟨b,o+m*8,none⟩=some (.int .i64 rl.seq):=(by have:=ql.cells 0 (.int .i64 rl.seq) rfl;simpa using this);rw[D.o] at y0 yl;have i0:(n2==0)=false:=(by simp;omega);have i1:(0:Int)<(n2:Int):=(by omega);have i4:((n2:Int)==0)=false:=(by simp;omega);obtain⟨bj,aR⟩:∃bj,rs=r0::bj:=by
         cases rs with
         |nil=>simp at Ah
         |cons a l=>simp at Ah;exact⟨l,by rw[Ah]⟩
        have bk:Hid (lF N L la (Iv.decode (xs.drop k))=decide (la<r0.seq)):=ae (by rw[<-HD.o];unfold lF;rw[aR];simp);by_cases hq:r0.seq<=la
        . have xR:=ae (show aI N (xs.drop k) L la=[] from dN (by rw[bk.o];exact fK (by omega)));clear aR fp fk fl f0 Ah X hm bh;gi_wp2_with fail;refine bY (xJ rfl _ _ _) rfl ?_;exact qh.o _ (by rw[D.o];exact bu _ none) xR.o
        . have Vg:=ae (oH (th:=N) (recs:=L) (last:=la) (b:=xs.drop k) (by rw[bk.o];exact decide_eq_true (by omega)));have bl:Hid (jg (⟨N,L,rs⟩:Blk) la=rl.seq):=ae (by unfold jg;dsimp only;rw[aay,show rs.length-1=m by omega,X]);have bm:=ae ((Iy (xs.drop k)).1 rl (by rw[<-HD.o];exact gZ X)).seq;have bn:sz<=u-k:=(by omega);have bo:=ae (show 0<=L+(n2:Int)/\L+(n2:Int)<=1000 by omega);have cc:0<sz:=fp;have cg:(n2:Int)-1=(m:Int):=(by omega);have aD:k+sz<=u:=(by omega);have cj:IntKind.i64.wrap (L+(n2:Int))=L+(n2:Int):=fP _ (by omega);have cm:IntKind.i64.wrap (m:Int)=(m:Int):=fP _ (by omega);have i2:(0:Int)<=(m:Int):=(by omega);have i3:(m:Int)<(n2:Int):=(by omega);have j1:(0:Int)<=(sz:Int):=(by omega);have j2:(sz:Int)<=((u-k:Nat):Int):=(by omega);have j3:(sz:Int)<=(G:Int):=(by omega);clear aR fk fl f0 Ah X hm bh;by_cases bp:sz=G
          . subst bp;obtain⟨y,q⟩:∃y,y=O.setCell ⟨gb,0,none⟩ (Value.slice E 0 0):=⟨_,rfl⟩;have H:wr.grownBy y (some gb):=(by rw[q];exact af (dJ uh.o _) (ag O gb 0 _) (.inl rfl));have Y:Held y gb 22 #[Value.slice E 0 0]:=(by rw[q];exact bd.o.store 0 _);have Z:Held y gt 3 #[.int .i64 N]:=(by rw[q];exact bf.o.far (λe=>b8.o e.symm) _);have a6:RecsNew y wr.heap.size (some ⟨b,o,none⟩) n2 rs:=(by rw[q];exact Fz qm.o an _);have b0:=HY.o done ⟨N,L,rs⟩ sz wr y (some ⟨b,o,none⟩) n2 c2 aL.o H a6 D8 D9 bc (by rw[Qy.o];exact hdl) (by rw[Qy.o];exact aD);obtain⟨fn,tmps,assign,body,hy,R⟩:=b0;dsimp only at hy;have a7:Lies y B 1 (E) (u-k-sz) (((xs.drop k).map bv).drop (sz*1)):=(by have:=HL.o.dropIf (k:=sz) bn wI;rw[if_pos rfl] at this;simpa using this:Lies wr B 1 (E) (u-k-sz) (((xs.drop k).map bv).drop (sz*1))).grown H (by omega) (λg e=>by cases e;exact hB);have a8:=ae Y;have b1:=ae Z;have b2:=ae a7;rw[q,D.o] at hy;have aa:=ae q;have b3:=ae R;clear q Y Z a7 a6 R H;gi_wp2_with fail;have R:=b3.o;rw[aa.o,D.o] at R;refine R.mono ?_;rintro e W4 ⟨rfl,ab,ad⟩;have al:Kept B gb gt y W4:=(by rw[aa.o,D.o];exact ad);have b4:=ae ab;have I:=ae al;clear ab ad al hy R;gi_wp2_with fail;go_roundw
            case rel=>exact ⟨k+sz,L+(n2:Int),rl.seq,done++[(⟨N,L,rs⟩,sz)],E,0,rfl,rfl,aD,bo.o,bm.o,(I.o.b.trans (by rw[show u-(k+sz)=0 by omega];exact a8.o)),I.o.t.trans b1.o,by
             have:=I.o.lies b2.o;rw[je,<-pq,Aj] at this;rw[show u-(k+sz)=u-k-sz by omega];exact this,by omega,by unfold maxLen;omega,λe=>rfl,b4.o,by
             rw[<-yS.o,Vg.o,<-HD.o,gm];dsimp only;rw[bl.o,Aj,qm.o.1];rfl,by unfold sizeB at Qy|-;rw[fQ,KH,Qy.o];simp,by rw[bI];simp;omega⟩
            case measure=>rw[yU (I.o.b.trans a8.o),yU aq.o];omega
          . have bN:¬(G:Int)=(sz:Int):=(by omega);obtain⟨y,q⟩:∃y:World,y=y:=⟨w,rfl⟩;clear q y;obtain⟨y,q⟩:∃y,y=O.setCell ⟨gb,0,none⟩ (Value.slice (E.map λx=>x.add sz) (u-k-sz) (G-sz)):=⟨_,rfl⟩;have H:wr.grownBy y (some gb):=(by rw[q];exact af (dJ uh.o _) (ag O gb 0 _) (.inl rfl));have Y:Held y gb 22 #[Value.slice (E.map λx=>x.add sz) (u-k-sz) (G-sz)]:=(by rw[q];exact bd.o.store 0 _);have Z:Held y gt 3 #[.int .i64 N]:=(by rw[q];exact bf.o.far (λe=>b8.o e.symm) _);have a6:RecsNew y wr.heap.size (some ⟨b,o,none⟩) n2 rs:=(by rw[q];exact Fz qm.o an _);have b0:=HY.o done ⟨N,L,rs⟩ sz wr y (some ⟨b,o,none⟩) n2 c2 aL.o H a6 D8 D9 bc (by rw[Qy.o];exact hdl) (by rw[Qy.o];exact aD);obtain⟨fn,tmps,assign,body,hy,R⟩:=b0;dsimp only at hy;have a7:Lies y B 1 (E.map λx=>x.add sz) (u-k-sz) (((xs.drop k).map bv).drop (sz*1)):=(by have:=HL.o.dropIf (k:=sz) bn wI;rw[if_neg (λe=>bp e.symm)] at this;simpa using this:Lies wr B 1 (E.map λx=>x.add sz) (u-k-sz) (((xs.drop k).map bv).drop (sz*1))).grown H (by omega) (λg e=>by cases e;exact hB);have a8:=ae Y;have b1:=ae Z;have b2:=ae a7;rw[q,D.o] at hy;have aa:=ae q;have b3:=ae R;clear q Y Z a7 a6 R H;gi_wp2_with fail;have R:=b3.o;rw[aa.o,D.o] at R;refine R.mono ?_;rintro e W4 ⟨rfl,ab,ad⟩;have al:Kept B gb gt y W4:=(by rw[aa.o,D.o];exact ad);have b4:=ae ab;have I:=ae al;clear ab ad al hy R;gi_wp2_with fail;go_roundw
            case rel=>exact ⟨k+sz,L+(n2:Int),rl.seq,done++[(⟨N,L,rs⟩,sz)],E.map λx=>x.add sz,G-sz,rfl,rfl,aD,bo.o,bm.o,(I.o.b.trans (by rw[show u-(k+sz)=u-k-sz by omega];exact a8.o)),I.o.t.trans b1.o,by
             have:=I.o.lies b2.o;rw[je,<-pq,Aj] at this;rw[show u-(k+sz)=u-k-sz by omega];exact this,by omega,by unfold maxLen;omega,λe=>by have:=yC.o (by simpa using e);omega,b4.o,by
             rw[<-yS.o,Vg.o,<-HD.o,gm];dsimp only;rw[bl.o,Aj,qm.o.1];rfl,by unfold sizeB at Qy|-;rw[fQ,KH,Qy.o];simp,by rw[bI];simp;omega⟩
            case measure=>rw[yU (I.o.b.trans a8.o),yU aq.o];omega
      . have cn:(L !=rc)=true:=(by rw[fB];exact hf);have xR:=ae (show aI N (xs.drop k) rc la=[] from dN (by rw[<-HD.o];unfold lF;simp[hf]));clear hf;gi_wp2_with fail;refine bY (xJ rfl _ _ _) rfl ?_;exact qh.o _ (by rw[D.o];exact bu _ none) xR.o
    . have cq:(N !=th)=true:=(by rw[fB];exact ht);have xR:=ae (show aI th (xs.drop k) rc la=[] from dN (by rw[<-HD.o];unfold lF;simp[ht]));clear ht;gi_wp2_with fail;refine bY (xJ rfl _ _ _) rfl ?_;exact qh.o _ (by rw[D.o];exact bu _ none) xR.o
  . have xR:=ae (show aI th (xs.drop k) rc la=[] from dN (by rw[<-HD.o];unfold lF;simp[he]));have cr:(er !=0)=true:=(by rw[fB];exact he);clear he;gi_wp2_with fail;refine bY (xJ rfl _ _ _) rfl ?_;exact qh.o _ (by rw[D.o];exact bu _ none) xR.o
end Go.Proofs.YtfbkkgfkhhibfaaGreat
namespace Iv
open Go Go.RowKit
variable {F : Fence} {N : Nat} {P : Program}
theorem KG (w:World){ops:Array Oper}{rest:List Oper}{o:Oper}{a:Act}{Q:Exit->Act->World->Prop}(hg:o.guard=none)(s x:Operand)(t:TypeId)
 (q:o.op=Op.call { callee:=Callee.builtin Builtin.append,args:=#[s,x],argTypes:=#[t,t] })
 (base:Nat) (e:TypeId) (i:TypeInfo) (z:Value) (size bytes:Nat) (U:P.underlying t=some (.slice e)) (hi:P.info? e=some i) (V:i.zero=some z)
 (y:i.size=size) (G:i.bytes=bytes) (H:z.cells.size=size) (I:0<size)
 (v:Value) (ow:Option Nat) (n:Nat) (xs:List Value) (hs:a.eval s=v) (h:App w base e size v ow n xs)
 (J:Addr) (m c:Nat) (news:List Value) (hx:a.eval x= .slice (some J) m c) (hm:0<m) (hn:news.length=m*size) (hc:∀j u,news[j]?=some u->w.cell? (J.add j)=some u) (h1:∀u∈news,u.oneCell'=true)
 (L:n+m<=maxLen) (d:(n+m)* bytes<=140737488355328) (B:base<=w.heap.size)
 (X:∀v' w',w'.ownsRow base e size v' (n+m) (xs++news)->w.grownBy w' ow->At w ow v'.ownBlock->wpListIn F N P ops Q rest (a.put o.dst v') w'):
 wpListIn F N P ops Q (o::rest) a w:=by refine wpListIn_plain hg λK M=>?_;obtain⟨v',w',E,r1,Y,Z⟩:=U7 (P:=P) w base t o.type e i z size bytes U hi V y G H I v ow n xs h J m c news hm hn hc h1 L d B;unfold Oper.wpIn;refine⟨?_,?_⟩;simp[Oper.about,q,resolve,Target.leads,EU];rw[Oper.semAt_plain F _ _ (by rw[q];intro c O;cases O)];simp[execOp,q,resolve,invoke,builtin,hs,hx,E,Result.andThen];exact M _ _ (X v' w' r1 Y Z)
end Iv
namespace Go.Proofs.YtfbkkgfkhhibfaaGreat
open Go Go.RowKit Go.Shelf Iv
attribute [local go_sem] Oper.semAt_some
theorem ZY (v u:Value)(w:World)(a:v.oneCell'=true)(d:u.oneCell'=true):Calls Tryz.prog 52 #[v,u] w λe w'=>e= .returned (.func (.func 85) #[] #[.pointer (some ⟨w.heap.size,0,none⟩),.pointer (some ⟨w.heap.size+1,0,none⟩)])/\w'=(w.alloc (.cells #[v] 22)).alloc (.cells #[u] 3):=by go_enter Tryz.func52,Tryz.ntmps52;go_wp2;go_ret;exact⟨rfl,rfl⟩
theorem ZZ {w:World}{base a e sz n:Nat}{v:Value}{xs:List Value}(h:w.ownsRow base e sz v n xs)(hb:a<=base):w.ownsRow a e sz v n xs:=
 ⟨h.1,h.2.imp id λ⟨g,cap,cur,e1,d,r⟩=>⟨g,cap,cur,e1,aK hb d,r⟩⟩
theorem BlksAt.lower {w:World}{lo a:Nat}{o:Option Nat}{css:List Value}{xs:List Blk}(h:BlksAt w lo o css xs)(d:a<=lo):BlksAt w a o css xs:=
 ⟨h.1,λk x hx=>by
  obtain⟨A,n,c,q,u,y⟩:=h.2 k x hx
  exact⟨A,n,c,q,u.lower d,y⟩⟩
structure BlJ (w:World)(lb sb D:Nat)(R:Loop)(pre:List (Blk×Nat))(v:Value)(css:List Value)(W:World):Prop where
 l:Held W lb 45 #[v]
 s:Held W sb 3 #[.int .i64 (sizeB pre:Int)]
 d:W.heap[D]?=some (.deferred (some []))
 r:W.heap[D+1]?=some (.loop R)
 own:W.ownsRow (D+2) 50 3 v pre.length css
 blks:BlksAt W (D+2) v.ownBlock css (pre.map (·.1))
 grown:w.grownBy W none
 o0:w.heap.size<=lb
 o1:lb<sb
 o2:sb<D
variable {w : World} {lb sb D : Nat} {R : Loop} {pre : List (Blk × Nat)} {v : Value} {css : List Value} {W W' : World}
theorem BlJ.keep (h:BlJ w lb sb D R pre v css W){row:Option Nat}(hg:W.grownBy W' row)(hr:∀g,row=some g->sb<g/\g<D):BlJ w lb sb D R pre v css W':=
 ⟨
  h.l.grown hg (λe=>by have:=hr _ e.symm;have:=h.o1;omega),h.s.grown hg (λe=>by have:=hr _ e.symm;omega),
  (hg.block _ (jd.1 h.d).1 (λe=>by have:=hr _ e.symm;omega)).trans h.d,
  (hg.block _ (jd.1 h.r).1 (λe=>by have:=hr _ e.symm;omega)).trans h.r,
  ax h.own hg (λg e1 a=>by have:=hr _ a;have:=(h.own.lt g e1).1;omega),
  h.blks.keep hg (λg e=>by have:=hr _ e;omega),
  af h.grown hg (by
   cases row with
   |none=>exact .inl rfl
   |some g=>exact .inr ⟨g,rfl,by have:=hr _ rfl;have:=h.o0;have:=h.o1;omega⟩),h.o0,h.o1,h.o2⟩
theorem BlJ.round (h:BlJ w lb sb D R pre v css W){R2:Loop}{x:Blk}{k:Nat}{A:Option Addr}{n c:Nat}{M u:World}{v':Value}{ob:Obj}
 (V:RecsOff W (D+2) v.ownBlock A n x.recs) (hnc:n<=c) (Z:c<=maxLen) (ho:A=none->c=0)
 (h3:M=((W.alloc ob).putObj (D+1) (.loop R2)).alloc (.cells (qL x A n c) 50))
 (E:u.ownsRow (D+2) 50 3 v' (pre.length+1) (css++(qL x A n c).toList)) (q:M.grownBy u v.ownBlock) (a7:At M v.ownBlock v'.ownBlock):
 BlJ w lb sb D R (pre++[(x,k)]) v' (css++(qL x A n c).toList) (((u.setCell ⟨lb,0,none⟩ v').setCell ⟨sb,0,none⟩ (.int .i64 (sizeB (pre++[(x,k)]):Int))).putObj (D+1) (.loop R))/\
 ∀g,g<D+1->g≠lb->g≠sb->(((u.setCell ⟨lb,0,none⟩ v').setCell ⟨sb,0,none⟩ (.int .i64 (sizeB (pre++[(x,k)]):Int))).putObj (D+1) (.loop R)).heap[g]?=W.heap[g]?:=by
 have a8:D+1<W.heap.size:=(jd.1 h.r).1;have o0:=h.o0;have o1:=h.o1;have o2:=h.o2;have g1:W.grownBy (W.alloc ob) none:=aV W _ none;have g2:=grownBy_putObj' (W.alloc ob) (D+1) (.loop R2);have g3:((W.alloc ob).putObj (D+1) (.loop R2)).grownBy M none:=(by rw[h3];exact aV _ _ none);have a:W.grownBy M (some (D+1)):=af (af (dJ g1 _) g2 (.inl rfl)) (dJ g3 _) (.inl rfl);have G:∀g,v.ownBlock=some g->D+2<=g:=λg e=>(h.own.lt g e).1;have I:∀g,v'.ownBlock=some g->D+2<=g/\g<u.heap.size:=λg e=>E.lt g e;have B:∀g,g<D+2->some g≠v.ownBlock:=(λg hg e=>by have:=G g e.symm;omega);have y:∀g,g<D+2->some g≠v'.ownBlock:=(λg hg e=>by have:=I g e.symm;omega);obtain⟨J,h5⟩:∃J,J=u.setCell ⟨lb,0,none⟩ v':=⟨_,rfl⟩;obtain⟨H,h6⟩:∃H,H=J.setCell ⟨sb,0,none⟩ (.int .i64 (sizeB (pre++[(x,k)]):Int)):=⟨_,rfl⟩;obtain⟨Y,h7⟩:∃Y,Y=H.putObj (D+1) (.loop R):=⟨_,rfl⟩;have L:u.grownBy J (some lb):=(by rw[h5];exact ag u lb 0 _);have O:J.grownBy H (some sb):=(by rw[h6];exact ag J sb 0 _);have U:H.grownBy Y (some (D+1)):=(by rw[h7];exact grownBy_putObj' H _ _);have s4:W.heap.size<=u.heap.size:=aK a.size q.size;have s6:W.heap.size<=H.heap.size:=aK (aK s4 L.size) O.size
 have keep:∀g,g<W.heap.size->g≠lb->g≠sb->g≠D+1->some g≠v.ownBlock->Y.heap[g]?=W.heap[g]?:=λg a1 a2 a3 a4 a5=>
  (U.block g (by omega) (λe=>a4 (by cases e;rfl))).trans ((O.block g (pF a1 (aK s4 L.size)) (λe=>a3 (by cases e;rfl))).trans ((L.block g (by omega) (λe=>a2 (by cases e;rfl))).trans ((q.block g (pF a1 a.size) a5).trans (a.block g a1 (λe=>a4 (by cases e;rfl))))))
 rw[<-h5,<-h6,<-h7];refine⟨⟨?_,?_,(keep D (by omega) (by omega) (by omega) (by omega) (B D (by omega))).trans h.d,?_,?_,?_,?_,o0,o1,o2⟩,λg a1 a2 a3=>keep g (by omega) a2 a3 (by omega) (B g (by omega))⟩;have a4:Held u lb 45 #[v]:=(h.l.grown a (λe=>by cases e;omega)).grown q (B lb (by omega));have a5:Held J lb 45 #[v']:=(by rw[h5];exact a4.store 0 v');exact (a5.grown O (λe=>by cases e;omega)).grown U (λe=>by cases e;omega);have a4:Held u sb 3 #[.int .i64 (sizeB pre:Int)]:=(h.s.grown a (λe=>by cases e;omega)).grown q (B sb (by omega));have a6:Held H sb 3 #[.int .i64 (sizeB (pre++[(x,k)]):Int)]:=(by rw[h6];exact (a4.grown L (λe=>by cases e;omega)).store 0 _);exact a6.grown U (λe=>by cases e;omega);rw[h7];exact World.putObj_heap_same (by omega)
 . rw[bI];refine ax (ax (ax E L (λg e1 X=>?_)) O (λg e1 X=>?_)) U (λg e1 X=>?_)
   cases X;exact y lb (by omega) e1.symm
   cases X;exact y sb (by omega) e1.symm
   cases X;exact y (D+1) (by omega) e1.symm
 rw[fQ];have b3:BlksAt M (D+2) v.ownBlock css (pre.map (·.1)):=h.blks.keep a (λg e=>by cases e;omega);have b4:=(b3.snoc (x:=x) (V.keep a (λg e=>by cases e;omega)) hnc Z ho).grow q a7;exact ((b4.keep L (λg e=>by cases e;omega)).keep O (λg e=>by cases e;omega)).keep U (λg e=>by cases e;omega);have q3:=af h.grown a (.inr ⟨_,rfl,by omega⟩);have q4:w.grownBy u none:=rQ q3 q (λg e=>by have:=G g e;omega);exact af (af (af q4 L (.inr ⟨_,rfl,o0⟩)) O (.inr ⟨_,rfl,by omega⟩)) U (.inr ⟨_,rfl,by omega⟩)
section
variable {F : Fence} {N : Nat} {P : Program}
theorem wL {g:Operand}{L:Array Tmp}{assign body:Code}{Q:Exit->Act->World->Prop}{a:Act}{w:World}(M:F.round=none)(h1:1<=N){gf:Nat}{lb:Array Value}
 (hg:a.eval g= .func (.func gf) #[] lb) (O:F.fn gf) (X:∀args w,(callFunc gf args).run P w= .ok (.enter gf args) w) (I:World->Prop)
 (q:∀(y:FuncId),F.fn y->∀(rec:LoopState->Option Code->Loop),(∀B E,rec B E= { state:=B,pending:=E,fn:=y,tmps:=a.tmps,params:=L,assign,body,defers:=w.heap.size })->
  CallsIn F (N-1) P gf (#[.func (.yield (w.heap.size+1)) #[] #[]]++lb) ((w.alloc (.deferred (some []))).alloc (.loop (rec .ready none))) λe W=>(∃v,e= .returned v)/\W.heap[w.heap.size+1]?=some (.loop (rec .ready none))/\I W)
 (u:∀(r Y:Loop) (W:World),I W->W.heap[w.heap.size+1]?=some (.loop r)->Q .normal { a with defers:= { target:= .collected w.heap.size,args:=#[] } :: a.defers } (W.putObj (w.heap.size+1) (.loop Y))):
 (Code.rangeFunc g L assign body).wpIn F N P Q a w:=by
 refine wpIn_rangeFunc ?_;intro y U;rw[M];obtain⟨rec,d⟩:∃rec:LoopState->Option Code->Loop,rec=λB E=> { state:=B,pending:=E,fn:=y,tmps:=a.tmps,params:=L,assign,body,defers:=w.heap.size } :=⟨_,rfl⟩;obtain⟨G,H⟩:∃G,(w.alloc (.deferred (some []))).alloc (.loop (rec .ready none))=G:=⟨_,rfl⟩
 refine⟨w.heap.size+1,[{ target:= .collected w.heap.size,args:=#[] }],G,{ target:= .fn (.func gf) lb,args:=#[.func (.yield (w.heap.size+1)) #[] #[]] },G,gf,
  #[.func (.yield (w.heap.size+1)) #[] #[]]++lb,G,?_,?_,?_,?_,λ_=>h1,?_⟩
 rw[<-H,d];exact run_enterLoop_outer _ _ _ _ _
 . simp only[resolve,hg];simp[go_sem]
 intro Z J;simp[Target.leads] at J;subst J;exact O
 . simp[invoke,go_sem,X]
 rw[<-H];refine (q y U rec (λB E=>by rw[d])).mono ?_;rintro e W2 ⟨⟨v,rfl⟩,V,hi⟩;exact⟨none,_,by have:=run_endLoop (P:=P) V (by rw[d];simp);rw[d] at this;exact this,u _ _ _ hi V⟩
theorem GR {l m:Nat}{args:Array Value}{W:World}{R:Ending->World->Prop}{u:FuncId}(y:F.fn u){tmps:Array Value}{B:Array Tmp}{assign body:Code}{D:Nat}{rec:LoopState->Option Code->Loop}
 (d:∀G H,rec G H= { state:=G,pending:=H,fn:=u,tmps,params:=B,assign,body,defers:=D }) (J:W.heap[l]?=some (.loop (rec .ready none))) (hs:args.size=B.size)
 (h:assign.wpIn (F.inRound l) m P (Exit.then (λa₁ w₁=>w₁.heap[l]?=some (.loop (rec .ready none))/\body.wpIn (F.inRound l) m P (roundPost P l R) a₁ (w₁.putObj l (.loop (rec .busy none)))) (λ_ _ _=>False)) { tmps:=(B.zip args).foldl (λt (p,v)=>t.setIfInBounds p v) tmps,defers:=[] } W):
 YieldAt F m P l args W R:=by
 have I:=run_yield (P:=P) (args:=args) J (by rw[d];exact hs);rw[d] at I;refine⟨u,_,assign,body,I,roundIn_of_wpIn y (wpIn_mono h ?_)⟩;intro e a' w' q
 cases e with
 |
  normal=>
  obtain⟨E,hb⟩:=q;refine⟨_,run_beginRound E (by rw[d]),?_⟩;have:({ rec .ready none with state:= .busy } :Loop)=rec .busy none:=(by rw[d,d]);rw[this];exact hb
 |exit id=>exact q
 |goto t=>exact q
 |ret=>exact q
 |panic ch=>exact q
 |outgrown=>exact q
end
theorem BH (A:Option Addr)(n c B:Nat)(xs:Bytes)(th:Int)(w:World)(h:Lies w B 1 A n (xs.map bv))(hB:B<=w.heap.size)(hnc:n<=c)(bc:c<=maxLen)(ho:A=none->c=0)(bd:n<=1000000):
 Calls Tryz.prog 30 #[.slice A n c,.int .i64 th] w (JK (aI th xs 0 (-1)) w):=by
 have HL:=ae h;have b':=ae h.lenB;have HO:=ae ho;clear h ho;refine (callsIn_wide (n:=3)).1 ?_;refine callsIn_of_wp_marks Tryz.func30 rfl trivial ?_ rfl;simp only[Tryz.ntmps30,Bf,iZ,zD,Nat.reduceAdd,Nat.reduceSub,Z4,Z5,List.push_toArray,Z7,lG,xE];gi_wp2_with fail;refine⟨trivial,?_⟩;refine (callsIn_wide.2 (ZY _ _ _ rfl rfl)).mono ?_;rintro e w1 ⟨rfl,rfl⟩;gi_wp2_with fail;obtain⟨W0,q⟩:∃W0,W0=((((w.alloc (.cells #[.slice none 0 0] 45)).alloc (.cells #[.int .i64 0] 3)).alloc (.cells #[.slice A n c] 22)).alloc (.cells #[.int .i64 th] 3)):=⟨_,rfl⟩;obtain⟨lb,a7⟩:∃lb,lb=w.heap.size:=⟨_,rfl⟩;obtain⟨sb,a8⟩:∃sb,sb=w.heap.size+1:=⟨_,rfl⟩;obtain⟨gb,aa⟩:∃gb,gb=w.heap.size+1+1:=⟨_,rfl⟩;obtain⟨gt,ab⟩:∃gt,gt=w.heap.size+1+1+1:=⟨_,rfl⟩;rw[<-q,<-ab,<-aa,<-a8,<-a7];have hD:W0.heap.size=w.heap.size+4:=(by rw[q];simp);have q0:Held W0 lb 45 #[.slice none 0 0]:=(by rw[q,a7];exact ((((Held.new w _ _).alloc _).alloc _).alloc _));have q1:Held W0 sb 3 #[.int .i64 0]:=(by rw[q,a8];have:=(((Held.new (w.alloc (.cells #[.slice none 0 0] 45)) 3 #[.int .i64 0]).alloc (.cells #[.slice A n c] 22)).alloc (.cells #[.int .i64 th] 3));rwa [iK] at this);have q2:Held W0 gb 22 #[.slice A n c]:=(by rw[q,aa];have:=((Held.new ((w.alloc (.cells #[.slice none 0 0] 45)).alloc (.cells #[.int .i64 0] 3)) 22 #[.slice A n c]).alloc (.cells #[.int .i64 th] 3));rwa [iK,iK] at this);have q3:Held W0 gt 3 #[.int .i64 th]:=(by rw[q,ab];have:=(Held.new (((w.alloc (.cells #[.slice none 0 0] 45)).alloc (.cells #[.int .i64 0] 3)).alloc (.cells #[.slice A n c] 22)) 3 #[.int .i64 th]);rwa [iK,iK,iK] at this);have L:w.grownBy W0 none:=(by rw[q];exact af (af (af (aV w _ none) (aV _ _ none) (.inl rfl)) (aV _ _ none) (.inl rfl)) (aV _ _ none) (.inl rfl));have o1:lb<sb/\sb<gb/\gb<gt/\gt<W0.heap.size/\w.heap.size<=lb/\B<=lb:=(by omega);have bf:=ae (HL.o.grown L hB nofun);obtain⟨o1,o2,o3,o4,o5,o6⟩:=o1;obtain⟨D,c6⟩:∃D,D=W0.heap.size:=⟨_,rfl⟩;have HQ:=ae (And.intro q0 (And.intro q1 (And.intro q2 (And.intro q3 L))));clear q a7 a8 aa ab hD q0 q1 q2 q3 L
 refine wL rfl (by omega) (gf:=85) (lb:=#[.pointer (some ⟨gb,0,none⟩),.pointer (some ⟨gt,0,none⟩)]) rfl trivial (enters_of Tryz.func85 (by kernel_rfl) rfl)
  (λW=>∃v css R,BlJ w lb sb W0.heap.size R (aI th xs 0 (-1)) v css W) ?call ?done
 case call=>
  intro fn bh rec M;obtain⟨q0,q1,q2,q3,L⟩:=HQ.o;obtain⟨W1,V⟩:∃W1,(W0.alloc (.deferred (some []))).alloc (.loop (rec .ready none))=W1:=⟨_,rfl⟩;have H:W0.grownBy W1 none:=(by rw[<-V];exact af (aV W0 _ none) (aV _ _ none) (.inl rfl));have bj:W1.heap[W0.heap.size+1]?=some (.loop (rec .ready none)):=(by rw[<-V];have:=World.alloc_heap_new (W0.alloc (.deferred (some []))) (.loop (rec .ready none));rwa [iK] at this);have bk:W1.heap[W0.heap.size]?=some (.deferred (some [])):=(by rw[<-V];exact (zX _ _ _ (by simp)).trans (World.alloc_heap_new W0 _));rw[V]
  refine (Z8 (3-1) (by omega) (W0.heap.size+1) gb gt A n c B xs th W1 (bf.o.grown H (by omega) nofun) (by omega) (by omega) hnc bc HO.o bd (q2.grown H nofun) (q3.grown H nofun)
   (λpre W=>∃v css,BlJ w lb sb W0.heap.size (rec .ready none) pre v css W) ?_ ?_ ?_).mono ?_
  rintro p W W' ⟨v,css,a⟩ hg;exact⟨v,css,a.keep hg (λg e=>by cases e;exact⟨o2,by omega⟩)⟩
  . exact⟨.slice none 0 0,[],q0.grown H nofun,q1.grown H nofun,bk,bj,dD _ _ _ _,BlksAt.nil _ _ _,af L H (.inl rfl),o5,o1,by omega⟩
  . rintro pre x k Wp W A' n' c' ⟨v,css,a⟩ hg hr aL aM bl c7 c9;have ad:=a.keep hg (λg e=>by cases e;exact⟨o2,by omega⟩);have a6:RecsOff W (W0.heap.size+2) v.ownBlock A' n' x.recs:=(hr.off (λg e=>(a.own.lt g e).2)).lower (by have:=(jd.1 a.r).1;omega);refine GR bh M ad.r rfl ?_;have aR:=ae ad;have qm:=ae M;have bm:=ae a6;clear a hg hr a6 M ad;gi_wp2_with fail;have a:=aR.o;have bn:W0.heap.size+1<W.heap.size:=(jd.1 a.r).1;refine⟨(zX _ _ _ bn).trans a.r,?_⟩;obtain⟨u,I⟩:∃u,u=((W.alloc (.cells #[.int .i64 x.thread,.int .i64 x.first,.slice A' n' c'] 50)).putObj (W0.heap.size+1) (.loop (rec .busy none))):=⟨_,rfl⟩;rw[<-I];have s2:u.heap.size=W.heap.size+1:=(by rw[I];simp);have X:W.grownBy u (some (W0.heap.size+1)):=(by rw[I];exact af (dJ (aV W _ none) _) (grownBy_putObj' _ _ _) (.inl rfl));have Y:Held u W.heap.size 50 #[.int .i64 x.thread,.int .i64 x.first,.slice A' n' c']:=(by rw[I];exact (Held.new W _ _).grown (grownBy_putObj' _ _ _) (λe=>by injection e with e;omega));have al:=a.l.grown X (λe=>by cases e;omega);have b0:=a.s.grown X (λe=>by cases e;omega);have O:u.ownsRow (W0.heap.size+2) 50 3 v pre.length css:=ax a.own X (λg e1 e2=>by injection e2 with e2;have:=(a.own.lt _ e1).1;omega);obtain⟨Av,cv,an,bo,bp,_,Yw⟩:=ai a.own;have x0:u.cell? ⟨W.heap.size,0,none⟩=some (.int .i64 x.thread):=Y.cell 0;have x1:u.cell? ⟨W.heap.size,1,none⟩=some (.int .i64 x.first):=Y.cell 1;have x2:u.cell? ⟨W.heap.size,2,none⟩=some (.slice A' n' c'):=Y.cell 2;have y0:u.cell? ⟨lb,0,none⟩=some v:=al.cell 0;have b1:=ae al;have b2:=ae b0;have b3:=ae O;have b4:=ae I;have ca:pre.length<=n:=(by omega);have b5:∀g,v.ownBlock=some g->g≠lb/\g≠sb:=(λg e=>by have:=(a.own.lt g e).1;omega);have Z:=ae b5;have cb:lb<u.heap.size:=(by omega);have cc:sb<u.heap.size:=(by omega);have cg:W0.heap.size+2<=u.heap.size:=(by omega);have cj:¬lb=sb:=(by omega);have cm:(sizeB pre:Int)+(k:Int)<=1000000:=(by omega);have cn:IntKind.i64.wrap ((sizeB pre:Int)+(k:Int))=(sizeB pre:Int)+(k:Int):=fP _ (by omega);obtain⟨j0,hi,b6,b8,b9⟩:=info_parts Ov;have HI:=ae hi;have bq:=ae b6;have br:=ae b8;have bt:=ae b9;have ao:=ae s2;clear I Y al b0 O Yw hi b6 b8 b9 a X b5 s2;subst an;gi_wp2_with (gi_at_builtin;refine KG _ rfl (.tmp 15) (.tmp 17) _ rfl (W0.heap.size+2) 50 j0 _ 3 40 Tryz.underlying45 HI.o bq.o br.o bt.o rfl (by omega) _ (Value.slice Av pre.length cv).ownBlock pre.length css rfl (App.own (b3.o.alloc _)) ⟨u.heap.size,0,none⟩ 1 1 (qL x A' n' c').toList rfl (by omega) rfl (U8 u x A' n' c') (Ou _ _ _ _) (by unfold maxLen;omega) (by omega) (by simp;omega) ?_;intro v4 w4 y J nD;obtain⟨A4,c4,bx,cq,cr,_,cw⟩:=ai y;have cx:w4.cell? ⟨lb,0,none⟩=some (.slice Av pre.length cv):=(((b1.out.alloc _).grown J (λe=>(Z.o _ e.symm).1 rfl)).cell 0);have cy:w4.frozen? ⟨lb,0,none⟩=false:=(((b1.out.alloc _).grown J (λe=>(Z.o _ e.symm).1 rfl)).free 0);have cz:w4.cell? ⟨sb,0,none⟩=some (.int .i64 (sizeB pre:Int)):=(((b2.out.alloc _).grown J (λe=>(Z.o _ e.symm).2 rfl)).cell 0);have cA:w4.frozen? ⟨sb,0,none⟩=false:=(((b2.out.alloc _).grown J (λe=>(Z.o _ e.symm).2 rfl)).free 0);have Hy:=ae y;have Gx:=ae J;have bB:=ae nD;clear y J nD;subst bx);have bF:((sizeB (pre++[(x,k)]):Nat):Int)=(sizeB pre:Int)+(k:Int):=(by unfold sizeB;rw[fQ,KH];simp);have key:=aR.o.round (k:=k) (R2:=rec .busy none) bm.o aL aM bl (by rw[b4.o];rfl) Hy.o Gx.o bB.o;rw[bF] at key;have bN:((w4.setCell ⟨lb,0,none⟩ (.slice A4 (pre.length+1) c4)).setCell ⟨sb,0,none⟩ (.int .i64 ((sizeB pre:Int)+(k:Int)))).heap[W0.heap.size+1]?=some (.loop (rec .busy none)):=by
     refine (KI _ _ _ _ (by show W0.heap.size+1≠sb;omega)).trans ((KI _ _ _ _ (by show W0.heap.size+1≠lb;omega)).trans ((Gx.o.block _ (by rw[iK,ao.o];omega) (λe=>by have:=(b3.o.lt _ e.symm).1;omega)).trans ((zX _ _ _ (by rw[ao.o];omega)).trans ?_)));rw[b4.o];exact World.putObj_heap_same (by simp;omega)
    have U:=run_endRound (P:=Tryz.prog) none bN;have bO:({ rec .busy none with state:= .ready,pending:=none } :Loop)=rec .ready none:=(by rw[qm.o,qm.o]);simp only[Option.isNone_none,qZ] at U;rw[bO] at U;refine⟨_,_,U,rfl,⟨_,_,key.1⟩,⟨?_,key.2 gb (by omega) (by omega) (by omega),key.2 gt (by omega) (by omega) (by omega),λg hg=>key.2 g (by omega) (by omega) (by omega)⟩⟩;have:=Gx.o.size;simp at this|-;have:=ao.o;omega
  rintro e W ⟨⟨v,rfl⟩,v',css,a⟩;exact⟨⟨v,rfl⟩,a.r,v',css,_,a⟩
 case done=>rintro r r' W ⟨v,css,R,a⟩ hl;have gP:=grownBy_putObj' W (W0.heap.size+1) (.loop r');have aq:=a.l.grown gP (λe=>by cases e;omega);have ar:=a.s.grown gP (λe=>by cases e;omega);have av:(W.putObj (W0.heap.size+1) (.loop r')).heap[W0.heap.size]?=some (.deferred (some [])):=(gP.block _ (jd.1 a.d).1 (λe=>by injection e with e;omega)).trans a.d;have E:=ax a.own gP (λg e1 e2=>by injection e2 with e2;have:=(a.own.lt _ e1).1;omega);have G:=a.blks.keep gP (λg e=>by injection e with e;omega);have aw:=af a.grown gP (.inr ⟨_,rfl,by omega⟩);obtain⟨Av,cv,an,bo,bp,_,Yw⟩:=ai a.own;obtain⟨W9,dB⟩:∃W9,W9=W.putObj (W0.heap.size+1) (.loop r'):=⟨_,rfl⟩;rw[<-dB] at aq ar av E G aw|-;have y0:W9.cell? ⟨lb,0,none⟩=some v:=aq.cell 0;have y1:W9.cell? ⟨sb,0,none⟩=some (.int .i64 (sizeB (aI th xs 0 (-1)):Int)):=ar.cell 0;have bP:=ae av;have ba:=ae E;have bR:=ae G;have bS:=ae aw;clear dB a gP aq ar av E G aw Yw hl;subst an;gi_wp2_with fail;refine wpIn_wide.2 ?_;go_region;(all_goals (try gi_wp2_with fail));(all_goals (refine⟨by simp,.inl ⟨_,_,rfl,run_takeDeferred bP.o,?_⟩⟩));(all_goals (refine⟨_,results_tmp2 rfl _ _ _,?_⟩));have aD:W9.grownBy (W9.drew.putObj W0.heap.size (.deferred none)) (some W0.heap.size):=(by have:=grownBy_putObj' W9.drew W0.heap.size (.deferred none);exact aj (aB (bu W9 _)) this);exact⟨_,css,rfl,ZZ (ax ba.o aD (λg e1 e2=>by injection e2 with e2;have:=(ba.o.lt _ e1).1;omega)) (by omega),(bR.o.keep aD (λg e=>by injection e with e;omega)).lower (by omega),af bS.o aD (.inr ⟨_,rfl,by omega⟩)⟩
