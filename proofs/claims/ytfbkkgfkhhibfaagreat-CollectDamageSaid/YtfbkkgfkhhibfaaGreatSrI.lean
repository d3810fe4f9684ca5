/- Words. -/
import Derived.Test.YtfbkkgfkhhibfaaGreatStb
import Derived.Test.YtfbkkgfkhhibfaaGreatPtr3
import Derived.Test.YtfbkkgfkhhibfaaGreatRrecR
import Derived.Sort.OwnSorted
set_option linter.unusedVariables false
set_option maxRecDepth 100000
set_option maxHeartbeats 8000000
namespace Go.Proofs.YtfbkkgfkhhibfaaGreat
open Go Go.Shelf Go.RowKit Go.Lib Go.Sort Iv
theorem ZH:SortLays Tryz.prog 8 where
 mixed:=by kernel_rfl
 f62:=Tryz.func31
 f77:=Tryz.func53
 f86:=Tryz.func87
 f87:=Tryz.func88
 f88:=Tryz.func120
 f89:=Tryz.func155
 t0:=Tryz.underlying0
 a0:=λw=>by kernel_rfl
 z0:=λw=>by kernel_rfl
 v0:=λw=>by kernel_rfl
 t3:=Tryz.underlying3
 a3:=λw=>by kernel_rfl
 z3:=λw=>by kernel_rfl
 v3:=λw=>by kernel_rfl
 t4:=Tryz.underlying4
 a4:=λw=>by kernel_rfl
 z4:=λw=>by kernel_rfl
 v4:=λw=>by kernel_rfl
 t36:=Tryz.underlying48
 a36:=λw=>by kernel_rfl
 z36:=λw=>by kernel_rfl
 v36:=λw=>by kernel_rfl
 t124:=Tryz.underlying100
 a124:=λw=>by kernel_rfl
 z124:=λw=>by kernel_rfl
 v124:=λw=>by kernel_rfl
 t96:=Tryz.underlying132
 a96:=λw=>by kernel_rfl
 z96:=λw=>by kernel_rfl
 v96:=λw=>by kernel_rfl
 aE:=λw=>by kernel_rfl
 zE:=λw=>by kernel_rfl
structure RC where
 r:Rec
 Ad:Option Addr
 nd:Nat
 cd:Nat
 Af:Option Addr
 nf:Nat
 cf:Nat
instance:Inhabited RC:=⟨⟨⟨0,⟨0,0,0,0,0,[],[]⟩⟩,none,0,0,none,0,0⟩⟩
def kQ (x:RC):List Value:=(recV x.r x.Ad x.nd x.cd x.Af x.nf x.cf).toList
def RX (x y:RC):Int:=if x.r.seq<y.r.seq then -1 else if y.r.seq<x.r.seq then 1 else 0
theorem EF (x:RC):(kQ x).length=8:=rfl
theorem ZI (x:RC):∀v∈kQ x,v.oneCell'=true:=by intro v a;simp only[kQ,recV,fV,lX,or_false] at a;rcases a with h|h|h|h|h|h|h|h<;>rw[h]<;>rfl
theorem ltR (x y:RC):ltOf RX x y=decide (x.r.seq<y.r.seq):=by unfold ltOf RX;apply decide_eq_decide.2;split;omega;split<;>omega
theorem apB:SWO (ltOf RX) where
 irrefl:=λx=>by rw[ltR];simp
 trans:=λx y z h1 h2=>by rw[ltR] at h1 h2|-;simp at h1 h2|-;omega
 ntrans:=λx y z h1 h2=>by rw[ltR] at h1 h2|-;simp at h1 h2|-;omega
theorem ZJ (x y:RC)(w:World):Calls Tryz.prog 32 #[.agg (kQ x).toArray,.agg (kQ y).toArray] w λe w'=>e= .returned (.int .i64 (RX x y))/\∃os,w'=grow w os:=by
 unfold kQ recV;go_enter Tryz.func32,Tryz.ntmps32;have e1:(x.r.seq !=x.r.seq)=false:=(by simp);have a:(y.r.seq !=y.r.seq)=false:=(by simp);unfold RX;by_cases h1:x.r.seq<y.r.seq
 . go_wp2;go_ret;exact⟨rfl,_,by rw[alloc_eq_grow,alloc_eq_grow,grow_grow]⟩
 . by_cases h2:y.r.seq<x.r.seq
   . go_wp2;go_ret;exact⟨rfl,_,by rw[alloc_eq_grow,alloc_eq_grow,grow_grow]⟩
   . go_wp2;go_ret;exact⟨rfl,_,by rw[alloc_eq_grow,alloc_eq_grow,grow_grow]⟩
theorem acE (blk off size:Nat)(w:World):CmpLays Tryz.prog 32 #[] kQ 8 RX blk off size w:=λm os d hs x y=>
 (ZJ x y _).mono λe w' ⟨he,a,hw⟩=>⟨he,0,a,hw⟩
theorem agl {α:Type}{P:Nat->α->Prop}(n:Nat)(h:∀i,i<n->∃r,P i r):∃rs:List α,rs.length=n/\∀k r,rs[k]?=some r->P k r:=by
 induction n with
 |zero=>exact ⟨[],rfl,λk r hr=>by simp at hr⟩
 |
  succ n ih=>
  obtain⟨rs,d,y⟩:=ih λi hi=>h i (by omega);obtain⟨r,hr⟩:=h n (by omega);refine⟨rs++[r],by simp[d],λk q a=>?_⟩;by_cases hk:k<n;rw[jO (by omega)] at a;exact y k q a;have B:k<n+1:=(by have:=(dD.1 a).1;simp[d] at this;omega);have u:k=n:=(by omega);subst u;rw[jP (by omega),d,qm] at a;simp at a;rw[<-a];exact hr
theorem RY {w:World}{g n:Nat}{os:Array Obj}{cur F:Array Value}{e:TypeId}{fr:Nat×Nat}(hb:w.heap[g]?=some (.cells cur e fr)):
 (grow (putRow id (Sort.ahead w n) g 0 F) os).heap[g]?=some (.cells (putCells id 0 F cur) e fr):=by have hg:g<w.heap.size:=(iW.1 hb).1;rw[heap_grow_old _ _ (by simpa using hg)];simp[putRow,mapBlock,Sort.ahead,RZ,hb,onCells]
theorem GH {w:World}{g n:Nat}{os:Array Obj}(F:Array Value):w.grownBy (grow (putRow id (Sort.ahead w n) g 0 F) os) (some g):=by refine⟨rfl,rfl,rfl,by simp,λk hk a=>?_⟩;rw[heap_grow_old _ _ (by simpa using hk)];have:g≠k:=λe=>a (by rw[e]);simp[putRow,mapBlock,Sort.ahead,RZ,this]
theorem Wh (cur F:Array Value)(h:F.size<=cur.size):(putCells id 0 F cur).toList.take F.size=F.toList:=by apply Ku;intro j;by_cases a:j<F.size;rw[List.getElem?_take_of_lt a,fQ];simp[putCells,a,show j<cur.size by omega];rw[List.getElem?_take_eq_none (by omega),uw (by simp;omega)]
theorem flat_get (d:Array RC)(k j:Nat)(hk:k<d.size)(q:j<8):(flatK kQ 8 d).toList[k*8+j]?=(kQ d[k]!)[j]?:=by have h1:k*8+j<d.size*8:=(by omega);have h2:=get_flatK kQ 8 d (k*8+j) h1;rw[show (k*8+j)/8=k by omega,show (k*8+j)%8=j by omega] at h2;have hs:k*8+j<(flatK kQ 8 d).size:=(by rw[size_flatK];exact h1);have a:j<(kQ d[k]!).length:=(by rw[EF];exact q);rw[fQ,AA hs,aX a,<-xG (flatK kQ 8 d) (k*8+j) hs,h2,xG (kQ d[k]!) j a]
theorem Si (w:World):Calls Tryz.prog 87 #[.slice none 0 0,.int .i64 0,.int .i64 0,.func (.func 32) #[] #[]] w λe w'=>e= .returned (.tuple #[])/\w'=w:=by
 go_enter Tryz.func87,Tryz.ntmps87;go_wp2;go_loopw [8] (λa wr=>a= .int .i64 1/\Hid (wr=w)) (λ_ _=>0)
 case atStart=>exact ⟨rfl,ae rfl⟩
 case round=>obtain⟨rfl,d⟩:=hrel;go_wp2;go_end0;exact⟨rfl,d.o⟩
theorem GI (w:World):Calls Tryz.prog 53 #[.slice none 0 0,.int .i64 0,.func (.func 32) #[] #[]] w λe w'=>e= .returned (.tuple #[])/\w'=w:=by
 go_enter Tryz.func53,Tryz.ntmps53;go_wp2_with fail;go_loopw [7,8] (λa b wr=>a= .int .i64 0/\b= .int .i64 20/\Hid (wr=w)) (λ_ _ _=>0)
 case atStart=>exact ⟨rfl,rfl,ae rfl⟩
 case round=>
  obtain⟨rfl,rfl,d⟩:=hrel;go_wp2_with fail;refine (Si _).mono ?_;rintro e w2 ⟨rfl,rfl⟩;go_wp2_with fail;go_loopw [6] (λa wr=>a= .int .i64 20/\Hid (wr=w)) (λ_ _=>0)
  case atStart=>exact ⟨rfl,d⟩
  case round=>clear d;obtain⟨rfl,d⟩:=hrel;go_wp2_with fail;go_end0;exact⟨rfl,d.o⟩
theorem OG (w:World):Calls Tryz.prog 31 #[.slice none 0 0,.func (.func 32) #[] #[]] w λe w'=>e= .returned (.tuple #[])/\w'=w:=by go_enter Tryz.func31,Tryz.ntmps31;go_wp2_with fail;refine (GI _).mono ?_;rintro e w2 ⟨rfl,rfl⟩;go_wp2_with fail;go_end0;exact⟨rfl,rfl⟩
theorem Kv {base lo n:Nat}{v:Value}{css:List Value}{rs:List Rec}(w:World)(B:w.ownsRow base 54 8 v n css)(O:RowsAt w lo v.ownBlock css rs)(hn:rs.length=n)(ar:n<1000000000):
 Calls Tryz.prog 31 #[v,.func (.func 32) #[] #[]] w λe w'=>e= .returned (.tuple #[])/\
  ∃H DL,H.Perm rs/\Asc H/\w'.ownsRow base 54 8 v n DL/\RowsAt w' lo v.ownBlock DL H/\w.grownBy w' v.ownBlock:=by
 rcases B.2 with ⟨R,h0⟩|⟨g,cap,cur,rfl,hbase,hb,h1,h2,h3,h4⟩;subst R h0;refine (OG w).mono ?_;rintro e w' ⟨rfl,rfl⟩;obtain rfl:rs=[]:=Zv.1 hn;obtain rfl:css=[]:=(by have:=B.1;simpa using this);exact⟨rfl,[],[],List.Perm.refl _,λi j x y _ hx=>by simp at hx,dw _ _ _ _,RowsAt.nil _ _ _,aW _ _⟩
 . subst hn;obtain⟨M,a8,I⟩:=agl (α:=RC) (P:=λk x=>(rs[k]?=some x.r)/\RowRec w lo (some g) css k x.r x.Ad x.nd x.cd x.Af x.nf x.cf) rs.length (λk hk=>by obtain⟨Ad,nd,cd,Af,nf,cf,q⟩:=O.2 k rs[k] (aX hk);exact⟨⟨rs[k],Ad,nd,cd,Af,nf,cf⟩,aX hk,q⟩);have U:M.map (·.r)=rs:=by
    apply Ku;intro k;rw[bM];by_cases hk:k<rs.length;have V:k<M.length:=(by omega);rw[aX V];exact (I k _ (aX V)).1.symm;rw[uw (by omega),uw (by omega)];rfl
   obtain⟨d,hd⟩:∃d:Array RC,d=M.toArray:=⟨_,rfl⟩;have X:d.size=rs.length:=(by rw[hd];simp[a8]);have aa:∀k,k<d.size->M[k]?=some d[k]! :=(λk hk=>by have:k<M.length:=(by omega);rw[aX this,xG d k hk];simp[hd]);have av:css.length=rs.length*8:=B.1;have hF:(flatK kQ 8 d).toList=css:=(by apply Ku;intro t;by_cases ht:t<rs.length*8;have h8:t/8*8+t%8=t:=(by omega);have hk:t/8<d.size:=(by omega);have:=flat_get d (t/8) (t%8) hk (by omega);rw[h8] at this;rw[this];have q:=(I (t/8) _ (aa _ hk)).2;have J:t%8<(kQ d[t/8]!).length:=(by rw[EF];omega);rw[aX J];have:=q.cells (t%8) (kQ d[t/8]!)[t%8] (by have:(kQ d[t/8]!)[t%8]?=some (kQ d[t/8]!)[t%8]:=aX J;unfold kQ at this;rwa [fQ] at this);rw[h8] at this;exact this.symm;rw[uw (by simp;omega),uw (by omega)]);have hH:HoldsK kQ 8 w g 0 d:=(by intro j J;rw[size_flatK] at J;have hs:j<(flatK kQ 8 d).size:=(by rw[size_flatK];exact J);refine⟨?_,by simp[World.frozen?,hb]⟩;have hc:=B.cellAt j (by omega);rw[eX,hc,<-hF,fQ,AA hs,xG (flatK kQ 8 d) j hs];rfl);have ab:g<w.heap.size:=(iW.1 hb).1;have C:=EG (P:=Tryz.prog) ZH kQ RX apB 32 #[] g 0 cap d w (enters_of Tryz.func32 (by kernel_rfl) rfl) (acE g 0 d.size w) ⟨EF,ZI,hH,ab⟩ (by omega);rw[X] at C;refine C.mono ?_;rintro e w' ⟨rfl,D,aq,E,L,nn,os,rfl⟩;have Y:w.grownBy (sortWorldK kQ 8 w g 0 nn D os) (some g):=(by unfold sortWorldK putRowK;exact GH _);have G:D.size=rs.length:=(by omega);have Z:D.toList.Perm d.toList:=(by have:=E.2.2;rw[<-X] at this;have e1:D.extract 0 d.size=D:=(by rw[<-E.1];simp);have e2:d.extract 0 d.size=d:=(by simp);rwa [e1,e2] at this);refine⟨rfl,D.toList.map (·.r),(flatK kQ 8 D).toList,?_,?_,⟨by simp[G],.inr ⟨g,cap,putCells id 0 (flatK kQ 8 D) cur,rfl,hbase,?_,h1,h2,?_,?_⟩⟩,⟨by simp,?_⟩,Y⟩;have:=Z.map (·.r);rw[hd] at this;simp only at this;rwa [U] at this;intro i j x y ad hx hy;rw[bM] at hx hy;obtain⟨a,ha,rfl⟩:=mO.1 hx;obtain⟨b,a7,rfl⟩:=mO.1 hy;rw[fQ] at ha a7;obtain⟨hi,rfl⟩:=iW.1 ha;obtain⟨J,rfl⟩:=iW.1 a7;have:=L i j (ay _) ad (by omega);rw[ltR,xG D i hi,xG D j J] at this;simp at this;exact this;exact RY hb;simp[putCells,h3];have:rs.length*8=(flatK kQ 8 D).size:=(by rw[size_flatK,G]);rw[this];exact Wh cur _ (by rw[size_flatK,G,h3];omega)
   . intro k r hr;rw[bM] at hr;obtain⟨a,ha,rfl⟩:=mO.1 hr;have a6:a∈M:=by
      have:=Z.mem_iff.1 (gU ha);rw[hd] at this;simpa using this
     obtain⟨i,hi,al⟩:=Kw.1 a6;have q:=(I i a (by rw[<-al];exact aX hi)).2;rw[fQ] at ha;obtain⟨hk,an⟩:=iW.1 ha;have N:=q.grow Y (.inl rfl);refine⟨a.Ad,a.nd,a.cd,a.Af,a.nf,a.cf,λj u hu=>?_,N.ld,N.lf,N.od,N.of_,N.lod,N.lof⟩;have ao:j<8:=(by have:=(iW.1 hu).1;simpa [recV] using this);rw[flat_get D k j hk ao,xG D k hk,an];unfold kQ;rw[fQ];exact hu
