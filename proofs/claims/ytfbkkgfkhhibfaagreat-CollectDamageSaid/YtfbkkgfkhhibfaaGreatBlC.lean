/- Words. -/
import Derived.Test.YtfbkkgfkhhibfaaGreatDecR
import Derived.Test.YtfbkkgfkhhibfaaGreatSwt
import Derived.RangeFuncNested
import Derived.RangeFuncBound
import Derived.RangeFuncCalls
import Derived.RangeFuncLeaves
import Derived.Shelf.Abstract
import Derived.Shelf.RegionOpen
import Derived.OwnWalkIn
import Derived.TacticsInMore
import Derived.LoopNIn
import Derived.LoopIn
set_option linter.unusedVariables false
set_option linter.unusedSimpArgs false
set_option maxRecDepth 100000
set_option maxHeartbeats 8000000
namespace Go.Proofs.YtfbkkgfkhhibfaaGreat
open Go Go.RowKit Iv
theorem Pg (b:Bytes)(t:UInt8)(first:Int)(n:Nat)(size:Int)(from_ end_:Nat):(∀r∈(uh b t first n size from_ end_).1.recs,RecOk r)/\(uh b t first n size from_ end_).1.recs.length<=n:=by
 cases h:ou b t n size from_ end_ with
 |none=>rw [Fp h];exact⟨λr hr=>by simp[aC] at hr,by simp[aC]⟩
 |
  some l=>
  obtain⟨h1,h2,h3⟩:=Fq (first:=first) h;rw[h1];split;exact⟨h3,nY h2⟩;exact⟨λr hr=>by simp[aC] at hr,by simp[aC]⟩
theorem Iy (b:Bytes):(∀r∈(Iv.decode b).1.recs,RecOk r)/\(Iv.decode b).1.recs.length<=64:=by have a:(∀r∈aC.recs,RecOk r)/\aC.recs.length<=64:=⟨λr hr=>by simp[aC] at hr,by simp[aC]⟩;unfold Iv.decode iU;split;exact a;split;exact a;split;exact a;split;exact a;split;exact a;rename_i hb;split;exact a;split;exact a;have h1:=wJ (by simpa using hb);exact⟨(Pg _ _ _ _ _ _ _).1,aG (Pg _ _ _ _ _ _ _).2 (by omega)⟩
theorem qY {W0 wr w1:World}{o:Option Nat}(h:W0.grownBy wr none)(hg:wr.grownBy w1 o)(ho:∀g,o=some g->W0.heap.size<=g):W0.grownBy w1 none:=by
 refine af h hg ?_
 cases o with
 |none=>exact .inl rfl
 |some g=>exact .inr ⟨g,rfl,ho g rfl⟩
theorem UT (w:World)(x:Blk)(A:Option Addr)(n c:Nat):∀j u,(qy x A n c).toList[j]?=some u->(w.alloc (.cells (qy x A n c) 50)).cell? ((⟨w.heap.size,0,none⟩:Addr).add j)=some u:=by obtain⟨a,e,_,hc⟩:=(YL w x A n c).2 (by omega);injection e with e;subst e;exact hc
theorem OJ (A:Option Addr)(n c B:Nat)(xs:Bytes)(th:Int)(w:World)(h:Lies w B 1 A n (xs.map bv))(hB:B<=w.heap.size)(hnc:n<=c)(aD:c<=maxLen)(ho:A=none->c=0)(bl:n<=1000000):
 Calls Tryz.prog 12 #[.slice A n c,.int .i64 th] w (JH (aN th xs 0 (-1)) w):=by
 have HL:=ae h;have aL:=ae h.lenB;have HO:=ae ho;unfold maxLen at aD;clear h ho;go_enter Tryz.func12,Tryz.ntmps12;go_wp2_with fail;go_loopw [6,7,8,9] (λv av rv lv wr=>∃(k:Nat) (H E:Int) (done:List (Blk×Nat)) (css:List Value),av= .int .i64 (k:Int)/\rv= .int .i64 H/\lv= .int .i64 E/\k<=n/\(0<=H/\H<=1000)/\inI64 E/\wr.ownsRow w.heap.size 50 3 v done.length css/\BlksAt wr w.heap.size v.ownBlock css (done.map (·.1))/\w.grownBy wr none/\done++aN th (xs.drop k) H E=aN th xs 0 (-1)/\sizeB done=k/\done.length<=k) (λ_ av _ _ _=>n-(intOf av).toNat)
 case atStart=>exact ⟨0,0,-1,[],[],rfl,rfl,rfl,ay _,⟨by omega,by omega⟩,⟨by omega,by omega⟩,dw _ _ _ _,BlksAt.nil _ _ _,aW w none,rfl,rfl,ak _⟩
 case round=>
  obtain⟨k,H,E,done,css,rfl,rfl,rfl,hk,⟨bm,bn⟩,hla,hown,hrow,hg,hall,hsz,hdl⟩:=hrel;have R:=(HL.o.grown hg hB nofun).dropIf (k:=k) hk hnc;obtain⟨A',a8⟩:∃A',(if c=k then A else A.map λx=>x.add k)=A':=⟨_,rfl⟩;have hcut:Lies wr B 1 A' (n-k) ((xs.drop k).map bv):=(by rw[iY,<-oL,a8] at R;exact R);have NC:A'=none->c-k=0:=(by intro e0;rw[<-a8] at e0;split at e0;omega;simp only[QC] at e0;have:=HO.o e0;omega);obtain⟨d,hd⟩:∃d,d=Iv.decode (xs.drop k):=⟨_,rfl⟩;have CD:=ae (O9 A' (n-k) (c-k) B (xs.drop k) wr hcut (aG hB hg.size) (by omega) (by unfold maxLen;omega) NC (by omega));rw[<-hd] at CD;have U:=ae hd;have G:=ae hown;have lC:=ae hrow;have HG:=ae hg;have yN:=ae hall;have Qh:=ae hsz;have bo:=ae hla;obtain⟨Av,cv,aM,bp,bq,_,Yk⟩:=ai hown;have k1:(0:Int)<=(k:Int):=(by omega);have k2:(k:Int)<=(n:Int):=(by omega);have k3:(k:Int)<=(c:Int):=(by omega);clear R hcut NC hd hown hrow hg hall hsz hla Yk;subst aM;go_wp2_with fail;refine CD.o.mono ?_;rintro e w2 ⟨A2,n2,c2,rfl,Fh,V,vT,a6,aR⟩;obtain⟨⟨y,u,rs⟩,sz,er⟩:=d;dsimp only at Fh|-;obtain⟨q,M⟩:∃q,q=w2.alloc (.cells #[.int .i64 y,.int .i64 u,.slice A2 n2 c2] 50):=⟨_,rfl⟩;have jI:w2.grownBy q none:=(by rw[M];exact aP w2 _ none);have I:Held q w2.heap.size 50 #[.int .i64 y,.int .i64 u,.slice A2 n2 c2]:=(by rw[M];exact Held.new _ _ _);have br:wr.heap.size<=w2.heap.size:=V.size;have wY:=af V jI (.inl rfl);have aa:=Fh.keep jI nofun;have O:∀W',q.grownBy W' none->aN th (xs.drop k) H E=[]->JH (aN th xs 0 (-1)) w (.returned (.tuple #[.slice Av done.length cv,.int .i64 (k:Int)])) W':=(by intro W' b0 a7;have X:=af wY b0 (.inl rfl);rw[<-yN.o,a7,nN];exact⟨_,css,by rw[Qh.o],ax G.o X nofun,lC.o.keep X nofun,af HG.o X (.inl rfl)⟩);have pJ:=ae O;have b1:=ae I;have b2:=ae M;have sZ:=ae wY;have pR:=ae aa;have x0:q.cell? ⟨w2.heap.size,0,none⟩=some (.int .i64 y):=I.cell 0;have x1:q.cell? ⟨w2.heap.size,1,none⟩=some (.int .i64 u):=I.cell 1;have x2:q.cell? ⟨w2.heap.size,2,none⟩=some (.slice A2 n2 c2):=I.cell 2;clear M I wY aa O Fh V jI;go_upto_region 4 with fail;rw[show w2.alloc (.cells #[.int .i64 y,.int .i64 u,.slice A2 n2 c2] 50)=q from b2.o.symm];by_cases he:er=0
  . subst he;by_cases ht:y=th
    . subst ht;by_cases hf:u=H
      . subst hf;obtain⟨f0,fk,fl,fp⟩:=oP U.o.symm;obtain⟨z0,z1,z2,z3,z4,z5,z6⟩:=iH f0;have b3:rs.length=n2:=pR.o.1;dsimp only at z0 z1 z4 z5;have bt:(xs.drop k).length=n-k:=(by rw[pG,aL.o]);obtain⟨r0,zU⟩:∃r0,rs[0]?=some r0:=⟨rs[0],aX z0⟩;obtain⟨m,hm⟩:∃m,n2=m+1:=⟨n2-1,by omega⟩;obtain⟨N,J⟩:∃N,rs[m]?=some N:=⟨rs[m],aX (by omega)⟩;obtain⟨b,o,_,_,_,_,_,_,rfl,q0⟩:=pR.o.2 0 r0 zU;obtain⟨b',o',_,_,_,_,_,_,eA,ql⟩:=pR.o.2 m N J;injection eA with eA;injection eA with b4 eA2;subst b4 eA2;have y0:q.cell? ⟨b,o,none⟩=some (.int .i64 r0.seq):=(by have:=q0.cells 0 (.int .i64 r0.seq) rfl;simpa using this);have yl:q.cell? ⟨b,o+m*8,none⟩=some (.int .i64 N.seq):=(by have:=ql.cells 0 (.int .i64 N.seq) rfl;simpa using this);have i1:(0:Int)<(n2:Int):=(by omega);obtain⟨ab,Y⟩:∃ab,rs=r0::ab:=by
         cases rs with
         |nil=>simp at zU
         |cons a l=>simp at zU;exact⟨l,by rw[zU]⟩
        have ad:Hid (mP y u E (Iv.decode (xs.drop k))=decide (E<r0.seq)):=ae (by rw[<-U.o];unfold mP;rw[Y];simp);by_cases hq:r0.seq<=E
        . have Z:=ae (show aN y (xs.drop k) u E=[] from fB (by rw[ad.o];exact fC (by omega)));clear Y fp fk fl f0 zU J;go_wp2_with fail;go_ret2;exact pJ.o _ (aW q none) Z.o
        . have U4:=ae (ui (th:=y) (recs:=u) (last:=E) (b:=xs.drop k) (by rw[ad.o];exact decide_eq_true (by omega)));have b5:Hid (mZ (⟨y,u,rs⟩:Blk) E=N.seq):=ae (by unfold mZ;dsimp only;rw[aar,show rs.length-1=m by omega,J]);have al:=((Iy (xs.drop k)).1 N (by rw[<-U.o];exact gU J)).seq;have b6:=ae al;have bx:sz<=n-k:=(by omega);have an:0<=u+(n2:Int)/\u+(n2:Int)<=1000:=(by omega);have b8:=ae an;clear an;have bB:0<sz:=fp;have bF:(n2:Int)-1=(m:Int):=(by omega);have b9:k+sz<=n:=(by omega);have bN:IntKind.i64.wrap ((k:Int)+(sz:Int))=(k:Int)+(sz:Int):=eY _ (by omega);have bO:IntKind.i64.wrap (u+(n2:Int))=u+(n2:Int):=eY _ (by omega);have bR:IntKind.i64.wrap (m:Int)=(m:Int):=eY _ (by omega);have i2:(0:Int)<=(m:Int):=(by omega);have i3:(m:Int)<(n2:Int):=(by omega);clear Y fk fl f0 zU J al hm b3;go_upto_region 6 with fail;have ba:b<q.heap.size:=ql.hib;have bS:wr.heap.size<=b:=ql.lob;have bc:=ae yl;have DT:=ae (λg (e:(Value.slice Av done.length cv).ownBlock=some g)=>(G.o.lt g e).2);have Yl:=ae (ax G.o sZ.o nofun);obtain⟨j0,hi,ao,aq,ar⟩:=info_parts N9;have HI:=ae hi;have bd:=ae ao;have bf:=ae aq;have bh:=ae ar;have hz:(0:Nat)<3:=(by omega);have c6:w.heap.size<=q.heap.size:=aG HG.o.size sZ.o.size;have c7:done.length<=1000000:=(by omega);clear y0 yl hi ao aq ar q0 ql;go_wp2_with (at_builtin;refine bW _ rfl (.tmp 46) (.tmp 48) _ rfl w.heap.size 50 j0 _ 3 40 Tryz.underlying45 HI.o bd.o bf.o bh.o rfl hz _ (Value.slice Av done.length cv).ownBlock done.length css rfl (App.own (Yl.o.alloc _)) ⟨q.heap.size,0,none⟩ 1 1 (qy ⟨y,u,rs⟩ (some ⟨b,o,none⟩) n2 c2).toList rfl (by omega) rfl (UT q ⟨y,u,rs⟩ _ n2 c2) (N8 _ _ _ _) (by unfold maxLen;omega) (by omega) (by simp;omega) ?_;intro v4 w4 D L mX;obtain⟨A4,c4,bj,c9,ca,_,cb⟩:=ai D;have cc:w4.cell? ⟨w2.heap.size,2,none⟩=some (.slice (some ⟨b,o,none⟩) n2 c2):=(((b1.o.alloc _).grown L (λe=>by have:=DT.o _ e.symm;omega)).cell 2);have cg:w4.cell? ⟨b,o+m*8,none⟩=some (.int .i64 N.seq):=(pM (lL (L.block b (by simp;omega) (λe=>by have:=DT.o _ e.symm;omega))) ((Ew _ _ _ ba).trans bc.o));subst bj);have aw:=(((lC.o.keep sZ.o nofun).keep (aP q (.cells (qy ⟨y,u,rs⟩ (some ⟨b,o,none⟩) n2 c2) 50) none) nofun).snoc (x:=⟨y,u,rs⟩) (((pR.o.keep (aP q (.cells (qy ⟨y,u,rs⟩ (some ⟨b,o,none⟩) n2 c2) 50) none) nofun).off DT.o).lower HG.o.size) vT a6 aR).grow L mX;have Yo:=ae aw;have Yp:=ae D;have bk:At wr (Value.slice Av done.length cv).ownBlock (Value.slice A4 (done.length+1) c4).ownBlock:=(At.refl wr _).trans mX (by have:=sZ.o.size;simp;omega);have Gq:wr.grownBy w4 (Value.slice Av done.length cv).ownBlock:=af (af (dE sZ.o _) (aP q _ _) (.inl rfl)) L (.inl rfl);have Gs:=ae (qY HG.o Gq (λg e=>(G.o.lt g e).1));clear aw D bk Gq L mX;go_roundw
          case rel=>exact ⟨k+sz,u+(n2:Int),N.seq,done++[(⟨y,u,rs⟩,sz)],_,by go_num,rfl,rfl,b9,b8.o,b6.o,by rw[aY];exact Yp.o,by rw[fF];exact Yo.o,Gs.o,by rw[<-yN.o,U4.o,<-U.o,fM];dsimp only;rw[b5.o,zV,pR.o.1];rfl,by unfold sizeB at Qh|-;rw[fF,KD,Qh.o];simp,by rw[aY];simp;omega⟩
          case measure=>simp [intOf];omega
      . have cj:(u !=H)=true:=(by rw[eQ];exact hf);have Z:=ae (show aN y (xs.drop k) H E=[] from fB (by rw[<-U.o];unfold mP;simp[hf]));clear hf;go_wp2_with fail;go_ret2;exact pJ.o _ (aW q none) Z.o
    . have cm:(y !=th)=true:=(by rw[eQ];exact ht);have Z:=ae (show aN th (xs.drop k) H E=[] from fB (by rw[<-U.o];unfold mP;simp[ht]));clear ht;go_wp2_with fail;go_ret2;exact pJ.o _ (aW q none) Z.o
  . have Z:=ae (show aN th (xs.drop k) H E=[] from fB (by rw[<-U.o];unfold mP;simp[he]));have cn:(er !=0)=true:=(by rw[eQ];exact he);clear he;go_wp2_with fail;go_ret2;exact pJ.o _ (aW q none) Z.o
end Go.Proofs.YtfbkkgfkhhibfaaGreat
namespace Go.Proofs.YtfbkkgfkhhibfaaGreat
open Go Go.RowKit Go.Shelf Iv
attribute [local go_sem] Oper.semAt_some
structure Kept (B gb gt:Nat)(w w':World):Prop where
 size:w.heap.size<=w'.heap.size
 b:w'.heap[gb]?=w.heap[gb]?
 t:w'.heap[gt]?=w.heap[gt]?
 low:∀k,k<B->w'.heap[k]?=w.heap[k]?
theorem Kept.lies {B gb gt sz n:Nat}{w w':World}{A:Option Addr}{xs:List Value}(h:Kept B gb gt w w')(a:Lies w B sz A n xs):Lies w' B sz A n xs:=
 a.same λp d=>lL (h.low p.block d)
def aaq (w:World)(g:Nat):Nat:=match w.cell? ⟨g,0,none⟩ with|some (.slice _ n _)=>n|_=>0
theorem yO {w:World}{g n c:Nat}{A:Option Addr}{t:TypeId}(h:Held w g t #[.slice A n c]):aaq w g=n:=by unfold aaq;rw[show w.cell? ⟨g,0,none⟩=some (.slice A n c) from h.cell 0]
theorem Fg {w:World}{lo n g:Nat}{A:Option Addr}{rs:List Rec}(h:RecsNew w lo A n rs)(hg:g<lo)(v:Value):RecsNew (w.setCell ⟨g,0,none⟩ v) lo A n rs:=
 (((h.off (o:=some g) (λx e=>by cases e;exact hg)).grow (o':=some g) (ag w g 0 v) (.inl rfl)).new)
theorem ZT (n:Nat)(hn:1<=n)(l gb gt:Nat)(A:Option Addr)(u c B:Nat)(xs:Bytes)(th:Int)(w:World)
 (h:Lies w B 1 A u (xs.map bv)) (hB:B<=gb) (b9:gb≠gt) (hnc:u<=c) (bt:c<=maxLen) (ho:A=none->c=0) (bS:u<=1000000)
 (O:Held w gb 22 #[.slice A u c]) (X:Held w gt 3 #[.int .i64 th])
 (J:List (Blk×Nat)->World->Prop) (hJ:∀p W W',J p W->W.grownBy W' (some gb)->J p W') (h0:J [] w)
 (hY:∀pre x k (W0 W:World) (A':Option Addr) (n' c':Nat),J pre W0->W0.grownBy W (some gb)->RecsNew W W0.heap.size A' n' x.recs->n'<=c'->c'<=maxLen->(A'=none->c'=0)->pre.length<=sizeB pre->sizeB pre+k<=u->
  YieldAt Fence.wide (n-1) Tryz.prog l #[.agg #[.int .i64 x.thread,.int .i64 x.first,.slice A' n' c'],.int .i64 (k:Int)] W λe W'=>e= .returned (.bool true)/\J (pre++[(x,k)]) W'/\Kept B gb gt W W'):
 CallsIn Fence.wide n Tryz.prog 85 #[.func (.yield l) #[] #[],.pointer (some ⟨gb,0,none⟩),.pointer (some ⟨gt,0,none⟩)] w λe w'=>(∃v,e= .returned v)/\J (aN th xs 0 (-1)) w':=by
 have bx:=ae h.lenB;have ba:=ae b9;have HJ:=ae hJ;have HY:=ae hY;have c6:1<=n-1+1:=(by omega);unfold maxLen at bt
 have bc:∃(k:Nat) (N L:Int) (done:List (Blk×Nat)) (E:Option Addr) (G:Nat),Value.int .i64 0= .int .i64 N/\Value.int .i64 (-1)= .int .i64 L/\k<=u/\(0<=N/\N<=1000)/\inI64 L/\Held w gb 22 #[.slice E (u-k) G]/\Held w gt 3 #[.int .i64 th]/\Lies w B 1 E (u-k) ((xs.drop k).map bv)/\u-k<=G/\G<=maxLen/\(E=none->G=0)/\J done w/\done++aN th (xs.drop k) N L=aN th xs 0 (-1)/\sizeB done=k/\done.length<=k:=
  ⟨0,0,-1,[],A,c,rfl,rfl,ay _,⟨by omega,by omega⟩,⟨by omega,by omega⟩,O,X,h,hnc,by unfold maxLen;omega,ho,h0,rfl,rfl,ak _⟩
 have bB:=ae bc;clear h ho hJ hY h0 O X bc b9;refine callsIn_of_wp Tryz.func85 rfl trivial ?_ rfl;simp only[Tryz.ntmps85,AP,iR,zl,Nat.reduceAdd,Nat.reduceSub,ZP,ZQ,List.push_toArray,ZR,kN,xu];gi_wp2_with fail;gi_loopw [4,5] (λcv qv wr=>∃(k:Nat) (N L:Int) (done:List (Blk×Nat)) (E:Option Addr) (G:Nat),cv= .int .i64 N/\qv= .int .i64 L/\k<=u/\(0<=N/\N<=1000)/\inI64 L/\Held wr gb 22 #[.slice E (u-k) G]/\Held wr gt 3 #[.int .i64 th]/\Lies wr B 1 E (u-k) ((xs.drop k).map bv)/\u-k<=G/\G<=maxLen/\(E=none->G=0)/\J done wr/\done++aN th (xs.drop k) N L=aN th xs 0 (-1)/\sizeB done=k/\done.length<=k) (λ_ _ wr=>aaq wr gb)
 case atStart=>exact bB.o
 case round=>
  obtain⟨k,N,L,done,E,G,rfl,rfl,hk,⟨c7,c9⟩,hla,O,X,hl,vT,hcm2,ho2,hJd,hall,hsz,hdl⟩:=hrel;obtain⟨d,hd⟩:∃d,d=Iv.decode (xs.drop k):=⟨_,rfl⟩;have CD:=ae (OW E (u-k) G B (xs.drop k) wr hl (by have:=O.lt;omega) vT hcm2 ho2 (by omega));rw[<-hd] at CD;have HD:=ae hd;have HL:=ae hl;have ca:=ae hla;have yj:=ae ho2;have av:=ae O;have bd:=ae X;have aR:=ae hJd;have yN:=ae hall;have Qh:=ae hsz;have xb:wr.cell? ⟨gb,0,none⟩=some (.slice E (u-k) G):=O.cell 0;unfold maxLen at hcm2;clear hd hl hla ho2 O X hJd hall hsz;gi_wp2_with fail;refine⟨trivial,?_⟩;refine (callsIn_wide.2 CD.o).mono ?_;rintro e w2 ⟨A2,n2,c2,rfl,Fh,b0,DW,DX,bf⟩;obtain⟨⟨R,M,rs⟩,sz,er⟩:=d;dsimp only at Fh|-;have cc:wr.heap.size<=w2.heap.size:=b0.size;obtain⟨U,aw⟩:∃U,U=w2.alloc (.cells #[.int .i64 R,.int .i64 M,.slice A2 n2 c2] 50):=⟨_,rfl⟩;have jI:w2.grownBy U none:=(by rw[aw];exact aP w2 _ none);have aD:=af b0 jI (.inl rfl);have pR:=ae (Fh.keep jI nofun);have sZ:=ae aD;have aL:=av.o.grown aD nofun;have Y:=bd.o.grown aD nofun;have aq:gb<wr.heap.size:=av.o.lt;have cg:gt<wr.heap.size:=bd.o.lt;have xt:U.cell? ⟨gt,0,none⟩=some (.int .i64 th):=Y.cell 0;have bF:U.cell? ⟨gb,0,none⟩=some (.slice E (u-k) G):=aL.cell 0;have xf:U.frozen? ⟨gb,0,none⟩=false:=aL.free 0;have bh:=ae aL;have bj:=ae Y;have D:=ae aw;rw[aw] at xt bF xf;have ar:∀W',U.grownBy W' none->aN th (xs.drop k) N L=[]->(∃v,Ending.returned (Value.tuple #[])= .returned v)/\J (aN th xs 0 (-1)) W':=(by intro W' bN b8;have H:=af sZ.o bN (.inl rfl);rw[<-yN.o,b8,nN];exact⟨⟨_,rfl⟩,HJ.o _ _ _ aR.o (dE H _)⟩);have pJ:=ae ar;clear xb aw b0 jI aD aL Y ar Fh;by_cases he:er=0
  . subst he;by_cases ht:R=th
    . subst ht;by_cases hf:M=N
      . subst hf;obtain⟨f0,fk,fl,fp⟩:=oP HD.o.symm;obtain⟨z0,z1,z2,z3,z4,z5,z6⟩:=iH f0;have bk:rs.length=n2:=pR.o.1;dsimp only at z0 z1 z4 z5;have cj:(xs.drop k).length=u-k:=(by rw[pG,bx.o]);obtain⟨r0,zU⟩:∃r0,rs[0]?=some r0:=⟨rs[0],aX z0⟩;obtain⟨m,hm⟩:∃m,n2=m+1:=⟨n2-1,by omega⟩;obtain⟨rl,Z⟩:∃rl,rs[m]?=some rl:=⟨rs[m],aX (by omega)⟩;obtain⟨b,o,_,_,_,_,_,_,rfl,q0⟩:=pR.o.2 0 r0 zU;obtain⟨b',o',_,_,_,_,_,_,eA,ql⟩:=pR.o.2 m rl Z;injection eA with eA;injection eA with bO eA2;subst bO eA2;have y0:U.cell? ⟨b,o,none⟩=some (.int .i64 r0.seq):=(by have:=q0.cells 0 (.int .i64 r0.seq) rfl;simpa using this);have yl:U.cell? ⟨b,o+m*8,none⟩=some (.int .i64 rl.seq):=(by have:=ql.cells 0 (.int .i64 rl.seq) rfl;simpa using this);rw[D.o] at y0 yl;have i0:(n2==0)=false:=(by simp;omega);have i1:(0:Int)<(n2:Int):=(by omega);have i4:((n2:Int)==0)=false:=(by simp;omega);obtain⟨bl,b1⟩:∃bl,rs=r0::bl:=by
         cases rs with
         |nil=>simp at zU
         |cons a l=>simp at zU;exact⟨l,by rw[zU]⟩
        have bm:Hid (mP R M L (Iv.decode (xs.drop k))=decide (L<r0.seq)):=ae (by rw[<-HD.o];unfold mP;rw[b1];simp);by_cases hq:r0.seq<=L
        . have xK:=ae (show aN R (xs.drop k) M L=[] from fB (by rw[bm.o];exact fC (by omega)));clear b1 fp fk fl f0 zU Z hm bk;gi_wp2_with fail;refine bU (xB rfl _ _ _) rfl ?_;exact pJ.o _ (by rw[D.o];exact aW _ none) xK.o
        . have U4:=ae (ui (th:=R) (recs:=M) (last:=L) (b:=xs.drop k) (by rw[bm.o];exact decide_eq_true (by omega)));have bn:Hid (mZ (⟨R,M,rs⟩:Blk) L=rl.seq):=ae (by unfold mZ;dsimp only;rw[aar,show rs.length-1=m by omega,Z]);have bo:=ae ((Iy (xs.drop k)).1 rl (by rw[<-HD.o];exact gU Z)).seq;have bp:sz<=u-k:=(by omega);have bq:=ae (show 0<=M+(n2:Int)/\M+(n2:Int)<=1000 by omega);have cm:0<sz:=fp;have cn:(n2:Int)-1=(m:Int):=(by omega);have aM:k+sz<=u:=(by omega);have cq:IntKind.i64.wrap (M+(n2:Int))=M+(n2:Int):=eY _ (by omega);have cr:IntKind.i64.wrap (m:Int)=(m:Int):=eY _ (by omega);have i2:(0:Int)<=(m:Int):=(by omega);have i3:(m:Int)<(n2:Int):=(by omega);have j1:(0:Int)<=(sz:Int):=(by omega);have j2:(sz:Int)<=((u-k:Nat):Int):=(by omega);have j3:(sz:Int)<=(G:Int):=(by omega);clear b1 fk fl f0 zU Z hm bk;by_cases br:sz=G
          . subst br;obtain⟨y,q⟩:∃y,y=U.setCell ⟨gb,0,none⟩ (Value.slice E 0 0):=⟨_,rfl⟩;have H:wr.grownBy y (some gb):=(by rw[q];exact af (dE sZ.o _) (ag U gb 0 _) (.inl rfl));have a6:Held y gb 22 #[Value.slice E 0 0]:=(by rw[q];exact bh.o.store 0 _);have a7:Held y gt 3 #[.int .i64 R]:=(by rw[q];exact bj.o.far (λe=>ba.o e.symm) _);have a8:RecsNew y wr.heap.size (some ⟨b,o,none⟩) n2 rs:=(by rw[q];exact Fg pR.o aq _);have b2:=HY.o done ⟨R,M,rs⟩ sz wr y (some ⟨b,o,none⟩) n2 c2 aR.o H a8 DW DX bf (by rw[Qh.o];exact hdl) (by rw[Qh.o];exact aM);obtain⟨fn,tmps,assign,body,hy,V⟩:=b2;dsimp only at hy;have aa:Lies y B 1 (E) (u-k-sz) (((xs.drop k).map bv).drop (sz*1)):=(by have:=HL.o.dropIf (k:=sz) bp vT;rw[if_pos rfl] at this;simpa using this:Lies wr B 1 (E) (u-k-sz) (((xs.drop k).map bv).drop (sz*1))).grown H (by omega) (λg e=>by cases e;exact hB);have ab:=ae a6;have b3:=ae a7;have b4:=ae aa;rw[q,D.o] at hy;have ad:=ae q;have b5:=ae V;clear q a6 a7 aa a8 V H;gi_wp2_with fail;have V:=b5.o;rw[ad.o,D.o] at V;refine V.mono ?_;rintro e W4 ⟨rfl,al,an⟩;have ao:Kept B gb gt y W4:=(by rw[ad.o,D.o];exact an);have b6:=ae al;have I:=ae ao;clear al an ao hy V;gi_wp2_with fail;go_roundw
            case rel=>exact ⟨k+sz,M+(n2:Int),rl.seq,done++[(⟨R,M,rs⟩,sz)],E,0,rfl,rfl,aM,bq.o,bo.o,(I.o.b.trans (by rw[show u-(k+sz)=0 by omega];exact ab.o)),I.o.t.trans b3.o,by
             have:=I.o.lies b4.o;rw[iY,<-oL,zV] at this;rw[show u-(k+sz)=u-k-sz by omega];exact this,by omega,by unfold maxLen;omega,λe=>rfl,b6.o,by
             rw[<-yN.o,U4.o,<-HD.o,fM];dsimp only;rw[bn.o,zV,pR.o.1];rfl,by unfold sizeB at Qh|-;rw[fF,KD,Qh.o];simp,by rw[aY];simp;omega⟩
            case measure=>rw[yO (I.o.b.trans ab.o),yO av.o];omega
          . have bR:¬(G:Int)=(sz:Int):=(by omega);obtain⟨y,q⟩:∃y:World,y=y:=⟨w,rfl⟩;clear q y;obtain⟨y,q⟩:∃y,y=U.setCell ⟨gb,0,none⟩ (Value.slice (E.map λx=>x.add sz) (u-k-sz) (G-sz)):=⟨_,rfl⟩;have H:wr.grownBy y (some gb):=(by rw[q];exact af (dE sZ.o _) (ag U gb 0 _) (.inl rfl));have a6:Held y gb 22 #[Value.slice (E.map λx=>x.add sz) (u-k-sz) (G-sz)]:=(by rw[q];exact bh.o.store 0 _);have a7:Held y gt 3 #[.int .i64 R]:=(by rw[q];exact bj.o.far (λe=>ba.o e.symm) _);have a8:RecsNew y wr.heap.size (some ⟨b,o,none⟩) n2 rs:=(by rw[q];exact Fg pR.o aq _);have b2:=HY.o done ⟨R,M,rs⟩ sz wr y (some ⟨b,o,none⟩) n2 c2 aR.o H a8 DW DX bf (by rw[Qh.o];exact hdl) (by rw[Qh.o];exact aM);obtain⟨fn,tmps,assign,body,hy,V⟩:=b2;dsimp only at hy;have aa:Lies y B 1 (E.map λx=>x.add sz) (u-k-sz) (((xs.drop k).map bv).drop (sz*1)):=(by have:=HL.o.dropIf (k:=sz) bp vT;rw[if_neg (λe=>br e.symm)] at this;simpa using this:Lies wr B 1 (E.map λx=>x.add sz) (u-k-sz) (((xs.drop k).map bv).drop (sz*1))).grown H (by omega) (λg e=>by cases e;exact hB);have ab:=ae a6;have b3:=ae a7;have b4:=ae aa;rw[q,D.o] at hy;have ad:=ae q;have b5:=ae V;clear q a6 a7 aa a8 V H;gi_wp2_with fail;have V:=b5.o;rw[ad.o,D.o] at V;refine V.mono ?_;rintro e W4 ⟨rfl,al,an⟩;have ao:Kept B gb gt y W4:=(by rw[ad.o,D.o];exact an);have b6:=ae al;have I:=ae ao;clear al an ao hy V;gi_wp2_with fail;go_roundw
            case rel=>exact ⟨k+sz,M+(n2:Int),rl.seq,done++[(⟨R,M,rs⟩,sz)],E.map λx=>x.add sz,G-sz,rfl,rfl,aM,bq.o,bo.o,(I.o.b.trans (by rw[show u-(k+sz)=u-k-sz by omega];exact ab.o)),I.o.t.trans b3.o,by
             have:=I.o.lies b4.o;rw[iY,<-oL,zV] at this;rw[show u-(k+sz)=u-k-sz by omega];exact this,by omega,by unfold maxLen;omega,λe=>by have:=yj.o (by simpa using e);omega,b6.o,by
             rw[<-yN.o,U4.o,<-HD.o,fM];dsimp only;rw[bn.o,zV,pR.o.1];rfl,by unfold sizeB at Qh|-;rw[fF,KD,Qh.o];simp,by rw[aY];simp;omega⟩
            case measure=>rw[yO (I.o.b.trans ab.o),yO av.o];omega
      . have cw:(M !=N)=true:=(by rw[eQ];exact hf);have xK:=ae (show aN R (xs.drop k) N L=[] from fB (by rw[<-HD.o];unfold mP;simp[hf]));clear hf;gi_wp2_with fail;refine bU (xB rfl _ _ _) rfl ?_;exact pJ.o _ (by rw[D.o];exact aW _ none) xK.o
    . have cx:(R !=th)=true:=(by rw[eQ];exact ht);have xK:=ae (show aN th (xs.drop k) N L=[] from fB (by rw[<-HD.o];unfold mP;simp[ht]));clear ht;gi_wp2_with fail;refine bU (xB rfl _ _ _) rfl ?_;exact pJ.o _ (by rw[D.o];exact aW _ none) xK.o
  . have xK:=ae (show aN th (xs.drop k) N L=[] from fB (by rw[<-HD.o];unfold mP;simp[he]));have cy:(er !=0)=true:=(by rw[eQ];exact he);clear he;gi_wp2_with fail;refine bU (xB rfl _ _ _) rfl ?_;exact pJ.o _ (by rw[D.o];exact aW _ none) xK.o
end Go.Proofs.YtfbkkgfkhhibfaaGreat
namespace Iv
open Go Go.RowKit
variable {F : Fence} {N : Nat} {P : Program}
theorem KC (w:World){ops:Array Oper}{rest:List Oper}{o:Oper}{a:Act}{Q:Exit->Act->World->Prop}(hg:o.guard=none)(s x:Operand)(t:TypeId)
 (q:o.op=Op.call { callee:=Callee.builtin Builtin.append,args:=#[s,x],argTypes:=#[t,t] })
 (base:Nat) (e:TypeId) (i:TypeInfo) (z:Value) (size bytes:Nat) (U:P.underlying t=some (.slice e)) (hi:P.info? e=some i) (V:i.zero=some z)
 (y:i.size=size) (G:i.bytes=bytes) (H:z.cells.size=size) (I:0<size)
 (v:Value) (ow:Option Nat) (n:Nat) (xs:List Value) (hs:a.eval s=v) (h:App w base e size v ow n xs)
 (J:Addr) (m c:Nat) (news:List Value) (hx:a.eval x= .slice (some J) m c) (hm:0<m) (hn:news.length=m*size) (hc:∀j u,news[j]?=some u->w.cell? (J.add j)=some u) (h1:∀u∈news,u.oneCell'=true)
 (L:n+m<=maxLen) (d:(n+m)* bytes<=140737488355328) (B:base<=w.heap.size)
 (X:∀v' w',w'.ownsRow base e size v' (n+m) (xs++news)->w.grownBy w' ow->At w ow v'.ownBlock->wpListIn F N P ops Q rest (a.put o.dst v') w'):
 wpListIn F N P ops Q (o::rest) a w:=by refine wpListIn_plain hg λK M=>?_;obtain⟨v',w',E,r1,Y,Z⟩:=UR (P:=P) w base t o.type e i z size bytes U hi V y G H I v ow n xs h J m c news hm hn hc h1 L d B;unfold Oper.wpIn;refine⟨?_,?_⟩;simp[Oper.about,q,resolve,Target.leads,EK];rw[Oper.semAt_plain F _ _ (by rw[q];intro c O;cases O)];simp[execOp,q,resolve,invoke,builtin,hs,hx,E,Result.andThen];exact M _ _ (X v' w' r1 Y Z)
end Iv
namespace Go.Proofs.YtfbkkgfkhhibfaaGreat
open Go Go.RowKit Go.Shelf Iv
attribute [local go_sem] Oper.semAt_some
theorem ZN (v u:Value)(w:World)(a:v.oneCell'=true)(d:u.oneCell'=true):Calls Tryz.prog 52 #[v,u] w λe w'=>e= .returned (.func (.func 85) #[] #[.pointer (some ⟨w.heap.size,0,none⟩),.pointer (some ⟨w.heap.size+1,0,none⟩)])/\w'=(w.alloc (.cells #[v] 22)).alloc (.cells #[u] 3):=by go_enter Tryz.func52,Tryz.ntmps52;go_wp2;go_ret;exact⟨rfl,rfl⟩
theorem ZO {w:World}{base a e sz n:Nat}{v:Value}{xs:List Value}(h:w.ownsRow base e sz v n xs)(hb:a<=base):w.ownsRow a e sz v n xs:=
 ⟨h.1,h.2.imp id λ⟨g,cap,cur,e1,d,r⟩=>⟨g,cap,cur,e1,aG hb d,r⟩⟩
theorem BlksAt.lower {w:World}{lo a:Nat}{o:Option Nat}{css:List Value}{xs:List Blk}(h:BlksAt w lo o css xs)(d:a<=lo):BlksAt w a o css xs:=
 ⟨h.1,λk x hx=>by
  obtain⟨A,n,c,q,u,y⟩:=h.2 k x hx
  exact⟨A,n,c,q,u.lower d,y⟩⟩
structure BlJ (w:World)(lb sb D:Nat)(R:Loop)(pre:List (Blk×Nat))(v:Value)(css:List Value)(W:World):Prop where
 l:Held W lb 45 #[v]
 s:Held W sb 3 #[.int .i64 (sizeB pre:Int)]
 d:W.heap[D]?=some (.deferred (some []))
 r:W.heap[D+1]?=some (.loop R)
 own:W.ownsRow (D+2) 50 3 v pre.length css
 blks:BlksAt W (D+2) v.ownBlock css (pre.map (·.1))
 grown:w.grownBy W none
 o0:w.heap.size<=lb
 o1:lb<sb
 o2:sb<D
variable {w : World} {lb sb D : Nat} {R : Loop} {pre : List (Blk × Nat)} {v : Value} {css : List Value} {W W' : World}
theorem BlJ.keep (h:BlJ w lb sb D R pre v css W){row:Option Nat}(hg:W.grownBy W' row)(hr:∀g,row=some g->sb<g/\g<D):BlJ w lb sb D R pre v css W':=
 ⟨
  h.l.grown hg (λe=>by have:=hr _ e.symm;have:=h.o1;omega),h.s.grown hg (λe=>by have:=hr _ e.symm;omega),
  (hg.block _ (iW.1 h.d).1 (λe=>by have:=hr _ e.symm;omega)).trans h.d,
  (hg.block _ (iW.1 h.r).1 (λe=>by have:=hr _ e.symm;omega)).trans h.r,
  ax h.own hg (λg e1 a=>by have:=hr _ a;have:=(h.own.lt g e1).1;omega),
  h.blks.keep hg (λg e=>by have:=hr _ e;omega),
  af h.grown hg (by
   cases row with
   |none=>exact .inl rfl
   |some g=>exact .inr ⟨g,rfl,by have:=hr _ rfl;have:=h.o0;have:=h.o1;omega⟩),h.o0,h.o1,h.o2⟩
theorem BlJ.round (h:BlJ w lb sb D R pre v css W){R2:Loop}{x:Blk}{k:Nat}{A:Option Addr}{n c:Nat}{M u:World}{v':Value}{ob:Obj}
 (V:RecsOff W (D+2) v.ownBlock A n x.recs) (hnc:n<=c) (Z:c<=maxLen) (ho:A=none->c=0)
 (h3:M=((W.alloc ob).putObj (D+1) (.loop R2)).alloc (.cells (qy x A n c) 50))
 (E:u.ownsRow (D+2) 50 3 v' (pre.length+1) (css++(qy x A n c).toList)) (q:M.grownBy u v.ownBlock) (a7:At M v.ownBlock v'.ownBlock):
 BlJ w lb sb D R (pre++[(x,k)]) v' (css++(qy x A n c).toList) (((u.setCell ⟨lb,0,none⟩ v').setCell ⟨sb,0,none⟩ (.int .i64 (sizeB (pre++[(x,k)]):Int))).putObj (D+1) (.loop R))/\
 ∀g,g<D+1->g≠lb->g≠sb->(((u.setCell ⟨lb,0,none⟩ v').setCell ⟨sb,0,none⟩ (.int .i64 (sizeB (pre++[(x,k)]):Int))).putObj (D+1) (.loop R)).heap[g]?=W.heap[g]?:=by
 have a8:D+1<W.heap.size:=(iW.1 h.r).1;have o0:=h.o0;have o1:=h.o1;have o2:=h.o2;have g1:W.grownBy (W.alloc ob) none:=aP W _ none;have g2:=grownBy_putObj' (W.alloc ob) (D+1) (.loop R2);have g3:((W.alloc ob).putObj (D+1) (.loop R2)).grownBy M none:=(by rw[h3];exact aP _ _ none);have a:W.grownBy M (some (D+1)):=af (af (dE g1 _) g2 (.inl rfl)) (dE g3 _) (.inl rfl);have G:∀g,v.ownBlock=some g->D+2<=g:=λg e=>(h.own.lt g e).1;have I:∀g,v'.ownBlock=some g->D+2<=g/\g<u.heap.size:=λg e=>E.lt g e;have B:∀g,g<D+2->some g≠v.ownBlock:=(λg hg e=>by have:=G g e.symm;omega);have y:∀g,g<D+2->some g≠v'.ownBlock:=(λg hg e=>by have:=I g e.symm;omega);obtain⟨J,h5⟩:∃J,J=u.setCell ⟨lb,0,none⟩ v':=⟨_,rfl⟩;obtain⟨H,h6⟩:∃H,H=J.setCell ⟨sb,0,none⟩ (.int .i64 (sizeB (pre++[(x,k)]):Int)):=⟨_,rfl⟩;obtain⟨Y,h7⟩:∃Y,Y=H.putObj (D+1) (.loop R):=⟨_,rfl⟩;have L:u.grownBy J (some lb):=(by rw[h5];exact ag u lb 0 _);have O:J.grownBy H (some sb):=(by rw[h6];exact ag J sb 0 _);have U:H.grownBy Y (some (D+1)):=(by rw[h7];exact grownBy_putObj' H _ _);have s4:W.heap.size<=u.heap.size:=aG a.size q.size;have s6:W.heap.size<=H.heap.size:=aG (aG s4 L.size) O.size
 have keep:∀g,g<W.heap.size->g≠lb->g≠sb->g≠D+1->some g≠v.ownBlock->Y.heap[g]?=W.heap[g]?:=λg a1 a2 a3 a4 a5=>
  (U.block g (by omega) (λe=>a4 (by cases e;rfl))).trans ((O.block g (oM a1 (aG s4 L.size)) (λe=>a3 (by cases e;rfl))).trans ((L.block g (by omega) (λe=>a2 (by cases e;rfl))).trans ((q.block g (oM a1 a.size) a5).trans (a.block g a1 (λe=>a4 (by cases e;rfl))))))
 rw[<-h5,<-h6,<-h7];refine⟨⟨?_,?_,(keep D (by omega) (by omega) (by omega) (by omega) (B D (by omega))).trans h.d,?_,?_,?_,?_,o0,o1,o2⟩,λg a1 a2 a3=>keep g (by omega) a2 a3 (by omega) (B g (by omega))⟩;have a4:Held u lb 45 #[v]:=(h.l.grown a (λe=>by cases e;omega)).grown q (B lb (by omega));have a5:Held J lb 45 #[v']:=(by rw[h5];exact a4.store 0 v');exact (a5.grown O (λe=>by cases e;omega)).grown U (λe=>by cases e;omega);have a4:Held u sb 3 #[.int .i64 (sizeB pre:Int)]:=(h.s.grown a (λe=>by cases e;omega)).grown q (B sb (by omega));have a6:Held H sb 3 #[.int .i64 (sizeB (pre++[(x,k)]):Int)]:=(by rw[h6];exact (a4.grown L (λe=>by cases e;omega)).store 0 _);exact a6.grown U (λe=>by cases e;omega);rw[h7];exact World.putObj_heap_same (by omega)
 . rw[aY];refine ax (ax (ax E L (λg e1 X=>?_)) O (λg e1 X=>?_)) U (λg e1 X=>?_)
   cases X;exact y lb (by omega) e1.symm
   cases X;exact y sb (by omega) e1.symm
   cases X;exact y (D+1) (by omega) e1.symm
 rw[fF];have b3:BlksAt M (D+2) v.ownBlock css (pre.map (·.1)):=h.blks.keep a (λg e=>by cases e;omega);have b4:=(b3.snoc (x:=x) (V.keep a (λg e=>by cases e;omega)) hnc Z ho).grow q a7;exact ((b4.keep L (λg e=>by cases e;omega)).keep O (λg e=>by cases e;omega)).keep U (λg e=>by cases e;omega);have q3:=af h.grown a (.inr ⟨_,rfl,by omega⟩);have q4:w.grownBy u none:=qY q3 q (λg e=>by have:=G g e;omega);exact af (af (af q4 L (.inr ⟨_,rfl,o0⟩)) O (.inr ⟨_,rfl,by omega⟩)) U (.inr ⟨_,rfl,by omega⟩)
section
variable {F : Fence} {N : Nat} {P : Program}
theorem vV {g:Operand}{J:Array Tmp}{assign body:Code}{Q:Exit->Act->World->Prop}{a:Act}{w:World}(L:F.round=none)(h1:1<=N){gf:Nat}{lb:Array Value}
 (hg:a.eval g= .func (.func gf) #[] lb) (M:F.fn gf) (V:∀args w,(callFunc gf args).run P w= .ok (.enter gf args) w) (I:World->Prop)
 (q:∀(fn:FuncId),F.fn fn->∀(rec:LoopState->Option Code->Loop),(∀y B,rec y B= { state:=y,pending:=B,fn:=fn,tmps:=a.tmps,params:=J,assign:=assign,body:=body,defers:=w.heap.size })->
  CallsIn F (N-1) P gf (#[.func (.yield (w.heap.size+1)) #[] #[]]++lb) ((w.alloc (.deferred (some []))).alloc (.loop (rec .ready none))) λe W=>(∃v,e= .returned v)/\W.heap[w.heap.size+1]?=some (.loop (rec .ready none))/\I W)
 (u:∀(r X:Loop) (W:World),I W->W.heap[w.heap.size+1]?=some (.loop r)->Q .normal { a with defers:= { target:= .collected w.heap.size,args:=#[] } :: a.defers } (W.putObj (w.heap.size+1) (.loop X))):
 (Code.rangeFunc g J assign body).wpIn F N P Q a w:=by
 refine wpIn_rangeFunc ?_;intro fn O;rw[L];obtain⟨rec,d⟩:∃rec:LoopState->Option Code->Loop,rec=λy B=> { state:=y,pending:=B,fn:=fn,tmps:=a.tmps,params:=J,assign:=assign,body:=body,defers:=w.heap.size } :=⟨_,rfl⟩;obtain⟨E,G⟩:∃E,(w.alloc (.deferred (some []))).alloc (.loop (rec .ready none))=E:=⟨_,rfl⟩
 refine⟨w.heap.size+1,[{ target:= .collected w.heap.size,args:=#[] }],E,{ target:= .fn (.func gf) lb,args:=#[.func (.yield (w.heap.size+1)) #[] #[]] },E,gf,
  #[.func (.yield (w.heap.size+1)) #[] #[]]++lb,E,?_,?_,?_,?_,λ_=>h1,?_⟩
 rw[<-G,d];exact run_enterLoop_outer _ _ _ _ _
 . simp only[resolve,hg];simp[go_sem]
 intro Y H;simp[Target.leads] at H;subst H;exact M
 . simp[invoke,go_sem,V]
 rw[<-G];refine (q fn O rec (λy B=>by rw[d])).mono ?_;rintro e Z ⟨⟨v,rfl⟩,U,hi⟩;exact⟨none,_,by have:=run_endLoop (P:=P) U (by rw[d];simp);rw[d] at this;exact this,u _ _ _ hi U⟩
theorem GK {l m:Nat}{args:Array Value}{W:World}{R:Ending->World->Prop}{fn:FuncId}(u:F.fn fn){tmps:Array Value}{y:Array Tmp}{assign body:Code}{D:Nat}{rec:LoopState->Option Code->Loop}
 (d:∀E G,rec E G= { state:=E,pending:=G,fn:=fn,tmps:=tmps,params:=y,assign:=assign,body:=body,defers:=D }) (I:W.heap[l]?=some (.loop (rec .ready none))) (hs:args.size=y.size)
 (h:assign.wpIn (F.inRound l) m P (Exit.then (λa₁ w₁=>w₁.heap[l]?=some (.loop (rec .ready none))/\body.wpIn (F.inRound l) m P (roundPost P l R) a₁ (w₁.putObj l (.loop (rec .busy none)))) (λ_ _ _=>False)) { tmps:=(y.zip args).foldl (λt (p,v)=>t.setIfInBounds p v) tmps,defers:=[] } W):
 YieldAt F m P l args W R:=by
 have H:=run_yield (P:=P) (args:=args) I (by rw[d];exact hs);rw[d] at H;refine⟨fn,_,assign,body,H,roundIn_of_wpIn u (wpIn_mono h ?_)⟩;intro e a' w' q
 cases e with
 |
  normal=>
  obtain⟨B,hb⟩:=q;refine⟨_,run_beginRound B (by rw[d]),?_⟩;have:({ rec .ready none with state:= .busy } :Loop)=rec .busy none:=(by rw[d,d]);rw[this];exact hb
 |exit id=>exact q
 |goto t=>exact q
 |ret=>exact q
 |panic ch=>exact q
 |outgrown=>exact q
end
theorem Bv (A:Option Addr)(n c B:Nat)(xs:Bytes)(th:Int)(w:World)(h:Lies w B 1 A n (xs.map bv))(hB:B<=w.heap.size)(hnc:n<=c)(bc:c<=maxLen)(ho:A=none->c=0)(bd:n<=1000000):
 Calls Tryz.prog 30 #[.slice A n c,.int .i64 th] w (JH (aN th xs 0 (-1)) w):=by
 have HL:=ae h;have c6:=ae h.lenB;have HO:=ae ho;clear h ho;refine (callsIn_wide (n:=3)).1 ?_;refine callsIn_of_wp_marks Tryz.func30 rfl trivial ?_ rfl;simp only[Tryz.ntmps30,AP,iR,zl,Nat.reduceAdd,Nat.reduceSub,ZP,ZQ,List.push_toArray,ZR,kN,xu];gi_wp2_with fail;refine⟨trivial,?_⟩;refine (callsIn_wide.2 (ZN _ _ _ rfl rfl)).mono ?_;rintro e w1 ⟨rfl,rfl⟩;gi_wp2_with fail;obtain⟨W0,q⟩:∃W0,W0=((((w.alloc (.cells #[.slice none 0 0] 45)).alloc (.cells #[.int .i64 0] 3)).alloc (.cells #[.slice A n c] 22)).alloc (.cells #[.int .i64 th] 3)):=⟨_,rfl⟩;obtain⟨lb,a7⟩:∃lb,lb=w.heap.size:=⟨_,rfl⟩;obtain⟨sb,a8⟩:∃sb,sb=w.heap.size+1:=⟨_,rfl⟩;obtain⟨gb,aa⟩:∃gb,gb=w.heap.size+1+1:=⟨_,rfl⟩;obtain⟨gt,ab⟩:∃gt,gt=w.heap.size+1+1+1:=⟨_,rfl⟩;rw[<-q,<-ab,<-aa,<-a8,<-a7];have hD:W0.heap.size=w.heap.size+4:=(by rw[q];simp);have q0:Held W0 lb 45 #[.slice none 0 0]:=(by rw[q,a7];exact ((((Held.new w _ _).alloc _).alloc _).alloc _));have q1:Held W0 sb 3 #[.int .i64 0]:=(by rw[q,a8];have:=(((Held.new (w.alloc (.cells #[.slice none 0 0] 45)) 3 #[.int .i64 0]).alloc (.cells #[.slice A n c] 22)).alloc (.cells #[.int .i64 th] 3));rwa [gY] at this);have q2:Held W0 gb 22 #[.slice A n c]:=(by rw[q,aa];have:=((Held.new ((w.alloc (.cells #[.slice none 0 0] 45)).alloc (.cells #[.int .i64 0] 3)) 22 #[.slice A n c]).alloc (.cells #[.int .i64 th] 3));rwa [gY,gY] at this);have q3:Held W0 gt 3 #[.int .i64 th]:=(by rw[q,ab];have:=(Held.new (((w.alloc (.cells #[.slice none 0 0] 45)).alloc (.cells #[.int .i64 0] 3)).alloc (.cells #[.slice A n c] 22)) 3 #[.int .i64 th]);rwa [gY,gY,gY] at this);have L:w.grownBy W0 none:=(by rw[q];exact af (af (af (aP w _ none) (aP _ _ none) (.inl rfl)) (aP _ _ none) (.inl rfl)) (aP _ _ none) (.inl rfl));have o1:lb<sb/\sb<gb/\gb<gt/\gt<W0.heap.size/\w.heap.size<=lb/\B<=lb:=(by omega);have bf:=ae (HL.o.grown L hB nofun);obtain⟨o1,o2,o3,o4,o5,o6⟩:=o1;obtain⟨D,c7⟩:∃D,D=W0.heap.size:=⟨_,rfl⟩;have HQ:=ae (And.intro q0 (And.intro q1 (And.intro q2 (And.intro q3 L))));clear q a7 a8 aa ab hD q0 q1 q2 q3 L
 refine vV rfl (by omega) (gf:=85) (lb:=#[.pointer (some ⟨gb,0,none⟩),.pointer (some ⟨gt,0,none⟩)]) rfl trivial (enters_of Tryz.func85 (by kernel_rfl) rfl)
  (λW=>∃v css R,BlJ w lb sb W0.heap.size R (aN th xs 0 (-1)) v css W) ?call ?done
 case call=>
  intro fn bh rec M;obtain⟨q0,q1,q2,q3,L⟩:=HQ.o;obtain⟨W1,V⟩:∃W1,(W0.alloc (.deferred (some []))).alloc (.loop (rec .ready none))=W1:=⟨_,rfl⟩;have H:W0.grownBy W1 none:=(by rw[<-V];exact af (aP W0 _ none) (aP _ _ none) (.inl rfl));have bj:W1.heap[W0.heap.size+1]?=some (.loop (rec .ready none)):=(by rw[<-V];have:=World.alloc_heap_new (W0.alloc (.deferred (some []))) (.loop (rec .ready none));rwa [gY] at this);have bk:W1.heap[W0.heap.size]?=some (.deferred (some [])):=(by rw[<-V];exact (zL _ _ _ (by simp)).trans (World.alloc_heap_new W0 _));rw[V]
  refine (ZT (3-1) (by omega) (W0.heap.size+1) gb gt A n c B xs th W1 (bf.o.grown H (by omega) nofun) (by omega) (by omega) hnc bc HO.o bd (q2.grown H nofun) (q3.grown H nofun)
   (λpre W=>∃v css,BlJ w lb sb W0.heap.size (rec .ready none) pre v css W) ?_ ?_ ?_).mono ?_
  rintro p W W' ⟨v,css,a⟩ hg;exact⟨v,css,a.keep hg (λg e=>by cases e;exact⟨o2,by omega⟩)⟩
  . exact⟨.slice none 0 0,[],q0.grown H nofun,q1.grown H nofun,bk,bj,dw _ _ _ _,BlksAt.nil _ _ _,af L H (.inl rfl),o5,o1,by omega⟩
  . rintro pre x k Wp W A' n' c' ⟨v,css,a⟩ hg hr aL aM bl c9 ca;have ad:=a.keep hg (λg e=>by cases e;exact⟨o2,by omega⟩);have a6:RecsOff W (W0.heap.size+2) v.ownBlock A' n' x.recs:=(hr.off (λg e=>(a.own.lt g e).2)).lower (by have:=(iW.1 a.r).1;omega);refine GK bh M ad.r rfl ?_;have aR:=ae ad;have pR:=ae M;have bm:=ae a6;clear a hg hr a6 M ad;gi_wp2_with fail;have a:=aR.o;have bn:W0.heap.size+1<W.heap.size:=(iW.1 a.r).1;refine⟨(zL _ _ _ bn).trans a.r,?_⟩;obtain⟨u,I⟩:∃u,u=((W.alloc (.cells #[.int .i64 x.thread,.int .i64 x.first,.slice A' n' c'] 50)).putObj (W0.heap.size+1) (.loop (rec .busy none))):=⟨_,rfl⟩;rw[<-I];have s2:u.heap.size=W.heap.size+1:=(by rw[I];simp);have X:W.grownBy u (some (W0.heap.size+1)):=(by rw[I];exact af (dE (aP W _ none) _) (grownBy_putObj' _ _ _) (.inl rfl));have Y:Held u W.heap.size 50 #[.int .i64 x.thread,.int .i64 x.first,.slice A' n' c']:=(by rw[I];exact (Held.new W _ _).grown (grownBy_putObj' _ _ _) (λe=>by injection e with e;omega));have al:=a.l.grown X (λe=>by cases e;omega);have b0:=a.s.grown X (λe=>by cases e;omega);have O:u.ownsRow (W0.heap.size+2) 50 3 v pre.length css:=ax a.own X (λg e1 e2=>by injection e2 with e2;have:=(a.own.lt _ e1).1;omega);obtain⟨Av,cv,an,bo,bp,_,Yk⟩:=ai a.own;have x0:u.cell? ⟨W.heap.size,0,none⟩=some (.int .i64 x.thread):=Y.cell 0;have x1:u.cell? ⟨W.heap.size,1,none⟩=some (.int .i64 x.first):=Y.cell 1;have x2:u.cell? ⟨W.heap.size,2,none⟩=some (.slice A' n' c'):=Y.cell 2;have y0:u.cell? ⟨lb,0,none⟩=some v:=al.cell 0;have b1:=ae al;have b2:=ae b0;have b3:=ae O;have b4:=ae I;have cb:pre.length<=n:=(by omega);have b5:∀g,v.ownBlock=some g->g≠lb/\g≠sb:=(λg e=>by have:=(a.own.lt g e).1;omega);have Z:=ae b5;have cc:lb<u.heap.size:=(by omega);have cg:sb<u.heap.size:=(by omega);have cj:W0.heap.size+2<=u.heap.size:=(by omega);have cm:¬lb=sb:=(by omega);have cn:(sizeB pre:Int)+(k:Int)<=1000000:=(by omega);have cq:IntKind.i64.wrap ((sizeB pre:Int)+(k:Int))=(sizeB pre:Int)+(k:Int):=eY _ (by omega);obtain⟨j0,hi,b6,b8,b9⟩:=info_parts N9;have HI:=ae hi;have bq:=ae b6;have br:=ae b8;have bt:=ae b9;have ao:=ae s2;clear I Y al b0 O Yk hi b6 b8 b9 a X b5 s2;subst an;gi_wp2_with (gi_at_builtin;refine KC _ rfl (.tmp 15) (.tmp 17) _ rfl (W0.heap.size+2) 50 j0 _ 3 40 Tryz.underlying45 HI.o bq.o br.o bt.o rfl (by omega) _ (Value.slice Av pre.length cv).ownBlock pre.length css rfl (App.own (b3.o.alloc _)) ⟨u.heap.size,0,none⟩ 1 1 (qy x A' n' c').toList rfl (by omega) rfl (UT u x A' n' c') (N8 _ _ _ _) (by unfold maxLen;omega) (by omega) (by simp;omega) ?_;intro v4 w4 y J mX;obtain⟨A4,c4,bx,cr,cw,_,cx⟩:=ai y;have cy:w4.cell? ⟨lb,0,none⟩=some (.slice Av pre.length cv):=(((b1.out.alloc _).grown J (λe=>(Z.o _ e.symm).1 rfl)).cell 0);have cz:w4.frozen? ⟨lb,0,none⟩=false:=(((b1.out.alloc _).grown J (λe=>(Z.o _ e.symm).1 rfl)).free 0);have cA:w4.cell? ⟨sb,0,none⟩=some (.int .i64 (sizeB pre:Int)):=(((b2.out.alloc _).grown J (λe=>(Z.o _ e.symm).2 rfl)).cell 0);have cC:w4.frozen? ⟨sb,0,none⟩=false:=(((b2.out.alloc _).grown J (λe=>(Z.o _ e.symm).2 rfl)).free 0);have Hu:=ae y;have Gs:=ae J;have bB:=ae mX;clear y J mX;subst bx);have bF:((sizeB (pre++[(x,k)]):Nat):Int)=(sizeB pre:Int)+(k:Int):=(by unfold sizeB;rw[fF,KD];simp);have key:=aR.o.round (k:=k) (R2:=rec .busy none) bm.o aL aM bl (by rw[b4.o];rfl) Hu.o Gs.o bB.o;rw[bF] at key;have bN:((w4.setCell ⟨lb,0,none⟩ (.slice A4 (pre.length+1) c4)).setCell ⟨sb,0,none⟩ (.int .i64 ((sizeB pre:Int)+(k:Int)))).heap[W0.heap.size+1]?=some (.loop (rec .busy none)):=by
     refine (KE _ _ _ _ (by show W0.heap.size+1≠sb;omega)).trans ((KE _ _ _ _ (by show W0.heap.size+1≠lb;omega)).trans ((Gs.o.block _ (by rw[gY,ao.o];omega) (λe=>by have:=(b3.o.lt _ e.symm).1;omega)).trans ((zL _ _ _ (by rw[ao.o];omega)).trans ?_)));rw[b4.o];exact World.putObj_heap_same (by simp;omega)
    have U:=run_endRound (P:=Tryz.prog) none bN;have bO:({ rec .busy none with state:= .ready,pending:=none } :Loop)=rec .ready none:=(by rw[pR.o,pR.o]);simp only[Option.isNone_none,qM] at U;rw[bO] at U;refine⟨_,_,U,rfl,⟨_,_,key.1⟩,⟨?_,key.2 gb (by omega) (by omega) (by omega),key.2 gt (by omega) (by omega) (by omega),λg hg=>key.2 g (by omega) (by omega) (by omega)⟩⟩;have:=Gs.o.size;simp at this|-;have:=ao.o;omega
  rintro e W ⟨⟨v,rfl⟩,v',css,a⟩;exact⟨⟨v,rfl⟩,a.r,v',css,_,a⟩
 case done=>rintro r r' W ⟨v,css,R,a⟩ hl;have gP:=grownBy_putObj' W (W0.heap.size+1) (.loop r');have aq:=a.l.grown gP (λe=>by cases e;omega);have ar:=a.s.grown gP (λe=>by cases e;omega);have av:(W.putObj (W0.heap.size+1) (.loop r')).heap[W0.heap.size]?=some (.deferred (some [])):=(gP.block _ (iW.1 a.d).1 (λe=>by injection e with e;omega)).trans a.d;have E:=ax a.own gP (λg e1 e2=>by injection e2 with e2;have:=(a.own.lt _ e1).1;omega);have G:=a.blks.keep gP (λg e=>by injection e with e;omega);have aw:=af a.grown gP (.inr ⟨_,rfl,by omega⟩);obtain⟨Av,cv,an,bo,bp,_,Yk⟩:=ai a.own;obtain⟨W9,cZ⟩:∃W9,W9=W.putObj (W0.heap.size+1) (.loop r'):=⟨_,rfl⟩;rw[<-cZ] at aq ar av E G aw|-;have y0:W9.cell? ⟨lb,0,none⟩=some v:=aq.cell 0;have y1:W9.cell? ⟨sb,0,none⟩=some (.int .i64 (sizeB (aN th xs 0 (-1)):Int)):=ar.cell 0;have bR:=ae av;have ba:=ae E;have bS:=ae G;have b':=ae aw;clear cZ a gP aq ar av E G aw Yk hl;subst an;gi_wp2_with fail;refine wpIn_wide.2 ?_;go_region;(all_goals (try gi_wp2_with fail));(all_goals (refine⟨by simp,.inl ⟨_,_,rfl,run_takeDeferred bR.o,?_⟩⟩));(all_goals (refine⟨_,results_tmp2 rfl _ _ _,?_⟩));have aD:W9.grownBy (W9.drew.putObj W0.heap.size (.deferred none)) (some W0.heap.size):=(by have:=grownBy_putObj' W9.drew W0.heap.size (.deferred none);exact au (aA (aW W9 _)) this);exact⟨_,css,rfl,ZO (ax ba.o aD (λg e1 e2=>by injection e2 with e2;have:=(ba.o.lt _ e1).1;omega)) (by omega),(bS.o.keep aD (λg e=>by injection e with e;omega)).lower (by omega),af b'.o aD (.inr ⟨_,rfl,by omega⟩)⟩
