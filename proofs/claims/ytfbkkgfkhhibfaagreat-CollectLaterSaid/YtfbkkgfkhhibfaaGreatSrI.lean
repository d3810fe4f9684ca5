/- Words. -/
import Derived.Test.YtfbkkgfkhhibfaaGreatStb
import Derived.Test.YtfbkkgfkhhibfaaGreatLtr
import Derived.Test.YtfbkkgfkhhibfaaGreatRrec
import Derived.Sort.OwnSorted
set_option linter.unusedVariables false
set_option maxRecDepth 100000
set_option maxHeartbeats 8000000
namespace Go.Proofs.YtfbkkgfkhhibfaaGreat
open Go Go.Shelf Go.RowKit Go.Lib Go.Sort Iv
theorem Yn:SortLays Tryz.prog 8 where
 mixed:=by kernel_rfl
 f62:=Tryz.func31
 f77:=Tryz.func53
 f86:=Tryz.func87
 f87:=Tryz.func88
 f88:=Tryz.func120
 f89:=Tryz.func155
 t0:=Tryz.underlying0
 a0:=λw=>by kernel_rfl
 z0:=λw=>by kernel_rfl
 v0:=λw=>by kernel_rfl
 t3:=Tryz.underlying3
 a3:=λw=>by kernel_rfl
 z3:=λw=>by kernel_rfl
 v3:=λw=>by kernel_rfl
 t4:=Tryz.underlying4
 a4:=λw=>by kernel_rfl
 z4:=λw=>by kernel_rfl
 v4:=λw=>by kernel_rfl
 t36:=Tryz.underlying48
 a36:=λw=>by kernel_rfl
 z36:=λw=>by kernel_rfl
 v36:=λw=>by kernel_rfl
 t124:=Tryz.underlying100
 a124:=λw=>by kernel_rfl
 z124:=λw=>by kernel_rfl
 v124:=λw=>by kernel_rfl
 t96:=Tryz.underlying132
 a96:=λw=>by kernel_rfl
 z96:=λw=>by kernel_rfl
 v96:=λw=>by kernel_rfl
 aE:=λw=>by kernel_rfl
 zE:=λw=>by kernel_rfl
structure RC where
 r:Rec
 Ad:Option Addr
 nd:Nat
 cd:Nat
 Af:Option Addr
 nf:Nat
 cf:Nat
instance:Inhabited RC:=⟨⟨⟨0,⟨0,0,0,0,0,[],[]⟩⟩,none,0,0,none,0,0⟩⟩
def kP (x:RC):List Value:=(recV x.r x.Ad x.nd x.cd x.Af x.nf x.cf).toList
def QB (x y:RC):Int:=if x.r.seq<y.r.seq then -1 else if y.r.seq<x.r.seq then 1 else 0
theorem Ea (x:RC):(kP x).length=8:=rfl
theorem Yo (x:RC):∀v∈kP x,v.oneCell'=true:=by intro v a;simp only[kP,recV,dV,jK,or_false] at a;rcases a with h|h|h|h|h|h|h|h<;>rw[h]<;>rfl
theorem ltR (x y:RC):ltOf QB x y=decide (x.r.seq<y.r.seq):=by unfold ltOf QB;apply decide_eq_decide.2;split;omega;split<;>omega
theorem an9:SWO (ltOf QB) where
 irrefl:=λx=>by rw[ltR];simp
 trans:=λx y z h1 h2=>by rw[ltR] at h1 h2|-;simp at h1 h2|-;omega
 ntrans:=λx y z h1 h2=>by rw[ltR] at h1 h2|-;simp at h1 h2|-;omega
theorem Yp (x y:RC)(w:World):Calls Tryz.prog 32 #[.agg (kP x).toArray,.agg (kP y).toArray] w λe w'=>e= .returned (.int .i64 (QB x y))/\∃os,w'=grow w os:=by
 unfold kP recV;go_enter Tryz.func32,Tryz.ntmps32;have e1:(x.r.seq !=x.r.seq)=false:=(by simp);have a:(y.r.seq !=y.r.seq)=false:=(by simp);unfold QB;by_cases h1:x.r.seq<y.r.seq
 . go_wp2;go_ret;exact⟨rfl,_,by rw[alloc_eq_grow,alloc_eq_grow,grow_grow]⟩
 . by_cases h2:y.r.seq<x.r.seq
   . go_wp2;go_ret;exact⟨rfl,_,by rw[alloc_eq_grow,alloc_eq_grow,grow_grow]⟩
   . go_wp2;go_ret;exact⟨rfl,_,by rw[alloc_eq_grow,alloc_eq_grow,grow_grow]⟩
theorem abp (blk off size:Nat)(w:World):CmpLays Tryz.prog 32 #[] kP 8 QB blk off size w:=λm os d hs x y=>
 (Yp x y _).mono λe w' ⟨he,a,hw⟩=>⟨he,0,a,hw⟩
theorem aeP {α:Type}{P:Nat->α->Prop}(n:Nat)(h:∀i,i<n->∃r,P i r):∃rs:List α,rs.length=n/\∀k r,rs[k]?=some r->P k r:=by
 induction n with
 |zero=>exact ⟨[],rfl,λk r hr=>by simp at hr⟩
 |
  succ n ih=>
  obtain⟨rs,d,y⟩:=ih λi hi=>h i (by omega);obtain⟨r,hr⟩:=h n (by omega);refine⟨rs++[r],by simp[d],λk q a=>?_⟩;by_cases hk:k<n;rw[jI (by omega)] at a;exact y k q a;have A:k<n+1:=(by have:=(bV.1 a).1;simp[d] at this;omega);have u:k=n:=(by omega);subst u;rw[jJ (by omega),d,rD] at a;simp at a;rw[<-a];exact hr
theorem QC {w:World}{g n:Nat}{os:Array Obj}{cur F:Array Value}{e:TypeId}{fr:Nat×Nat}(hb:w.heap[g]?=some (.cells cur e fr)):
 (grow (putRow id (Sort.ahead w n) g 0 F) os).heap[g]?=some (.cells (putCells id 0 F cur) e fr):=by have hg:g<w.heap.size:=(iU.1 hb).1;rw[heap_grow_old _ _ (by simpa using hg)];simp[putRow,mapBlock,Sort.ahead,QD,hb,onCells]
theorem FV {w:World}{g n:Nat}{os:Array Obj}(F:Array Value):w.grownBy (grow (putRow id (Sort.ahead w n) g 0 F) os) (some g):=by refine⟨rfl,rfl,rfl,by simp,λk hk a=>?_⟩;rw[heap_grow_old _ _ (by simpa using hk)];have:g≠k:=λe=>a (by rw[e]);simp[putRow,mapBlock,Sort.ahead,QD,this]
theorem U0 (cur F:Array Value)(h:F.size<=cur.size):(putCells id 0 F cur).toList.take F.size=F.toList:=by apply Jv;intro j;by_cases a:j<F.size;rw[List.getElem?_take_of_lt a,dH];simp[putCells,a,show j<cur.size by omega];rw[List.getElem?_take_eq_none (by omega),rF (by simp;omega)]
theorem flat_get (d:Array RC)(k j:Nat)(hk:k<d.size)(u:j<8):(flatK kP 8 d).toList[k*8+j]?=(kP d[k]!)[j]?:=by have h1:k*8+j<d.size*8:=(by omega);have h2:=get_flatK kP 8 d (k*8+j) h1;rw[show (k*8+j)/8=k by omega,show (k*8+j)%8=j by omega] at h2;have hs:k*8+j<(flatK kP 8 d).size:=(by rw[size_flatK];exact h1);have a:j<(kP d[k]!).length:=(by rw[Ea];exact u);rw[dH,zG hs,aV a,<-wJ (flatK kP 8 d) (k*8+j) hs,h2,wJ (kP d[k]!) j a]
theorem QE (w:World):Calls Tryz.prog 87 #[.slice none 0 0,.int .i64 0,.int .i64 0,.func (.func 32) #[] #[]] w λe w'=>e= .returned (.tuple #[])/\w'=w:=by
 go_enter Tryz.func87,Tryz.ntmps87;go_wp2;go_loopw [8] (λa wr=>a= .int .i64 1/\Hid (wr=w)) (λ_ _=>0)
 case atStart=>exact ⟨rfl,ae rfl⟩
 case round=>obtain⟨rfl,d⟩:=hrel;go_wp2;go_end0;exact⟨rfl,d.o⟩
theorem FW (w:World):Calls Tryz.prog 53 #[.slice none 0 0,.int .i64 0,.func (.func 32) #[] #[]] w λe w'=>e= .returned (.tuple #[])/\w'=w:=by
 go_enter Tryz.func53,Tryz.ntmps53;go_wp2_with fail;go_loopw [7,8] (λa b wr=>a= .int .i64 0/\b= .int .i64 20/\Hid (wr=w)) (λ_ _ _=>0)
 case atStart=>exact ⟨rfl,rfl,ae rfl⟩
 case round=>
  obtain⟨rfl,rfl,d⟩:=hrel;go_wp2_with fail;refine (QE _).mono ?_;rintro e w2 ⟨rfl,rfl⟩;go_wp2_with fail;go_loopw [6] (λa wr=>a= .int .i64 20/\Hid (wr=w)) (λ_ _=>0)
  case atStart=>exact ⟨rfl,d⟩
  case round=>clear d;obtain⟨rfl,d⟩:=hrel;go_wp2_with fail;go_end0;exact⟨rfl,d.o⟩
theorem Nw (w:World):Calls Tryz.prog 31 #[.slice none 0 0,.func (.func 32) #[] #[]] w λe w'=>e= .returned (.tuple #[])/\w'=w:=by go_enter Tryz.func31,Tryz.ntmps31;go_wp2_with fail;refine (FW _).mono ?_;rintro e w2 ⟨rfl,rfl⟩;go_wp2_with fail;go_end0;exact⟨rfl,rfl⟩
theorem Jw {base lo n:Nat}{v:Value}{css:List Value}{rs:List Rec}(w:World)(A:w.ownsRow base 54 8 v n css)(O:RowsAt w lo v.ownBlock css rs)(hn:rs.length=n)(av:n<1000000000):
 Calls Tryz.prog 31 #[v,.func (.func 32) #[] #[]] w λe w'=>e= .returned (.tuple #[])/\
  ∃G U3,G.Perm rs/\Asc G/\w'.ownsRow base 54 8 v n U3/\RowsAt w' lo v.ownBlock U3 G/\w.grownBy w' v.ownBlock:=by
 rcases A.2 with ⟨U,h0⟩|⟨g,cap,cur,rfl,hbase,hb,h1,h2,h3,h4⟩;subst U h0;refine (Nw w).mono ?_;rintro e w' ⟨rfl,rfl⟩;obtain rfl:rs=[]:=List.length_eq_zero_iff.1 hn;obtain rfl:css=[]:=(by have:=A.1;simpa using this);exact⟨rfl,[],[],List.Perm.refl _,λi j x y _ hx=>by simp at hx,dU _ _ _ _,RowsAt.nil _ _ _,bI _ _⟩
 . subst hn;obtain⟨L,aa,H⟩:=aeP (α:=RC) (P:=λk x=>(rs[k]?=some x.r)/\RowRec w lo (some g) css k x.r x.Ad x.nd x.cd x.Af x.nf x.cf) rs.length (λk hk=>by obtain⟨Ad,nd,cd,Af,nf,cf,q⟩:=O.2 k rs[k] (aV hk);exact⟨⟨rs[k],Ad,nd,cd,Af,nf,cf⟩,aV hk,q⟩);have V:L.map (·.r)=rs:=by
    apply Jv;intro k;rw[bK];by_cases hk:k<rs.length;have X:k<L.length:=(by omega);rw[aV X];exact (H k _ (aV X)).1.symm;rw[rF (by omega),rF (by omega)];rfl
   obtain⟨d,hd⟩:∃d:Array RC,d=L.toArray:=⟨_,rfl⟩;have Y:d.size=rs.length:=(by rw[hd];simp[aa]);have ab:∀k,k<d.size->L[k]?=some d[k]! :=(λk hk=>by have:k<L.length:=(by omega);rw[aV this,wJ d k hk];simp[hd]);have aw:css.length=rs.length*8:=A.1;have hF:(flatK kP 8 d).toList=css:=(by apply Jv;intro t;by_cases ht:t<rs.length*8;have h8:t/8*8+t%8=t:=(by omega);have hk:t/8<d.size:=(by omega);have:=flat_get d (t/8) (t%8) hk (by omega);rw[h8] at this;rw[this];have q:=(H (t/8) _ (ab _ hk)).2;have I:t%8<(kP d[t/8]!).length:=(by rw[Ea];omega);rw[aV I];have:=q.cells (t%8) (kP d[t/8]!)[t%8] (by have:(kP d[t/8]!)[t%8]?=some (kP d[t/8]!)[t%8]:=aV I;unfold kP at this;rwa [dH] at this);rw[h8] at this;exact this.symm;rw[rF (by simp;omega),rF (by omega)]);have hH:HoldsK kP 8 w g 0 d:=(by intro j I;rw[size_flatK] at I;have hs:j<(flatK kP 8 d).size:=(by rw[size_flatK];exact I);refine⟨?_,by simp[World.frozen?,hb]⟩;have hc:=A.cellAt j (by omega);rw[dJ,hc,<-hF,dH,zG hs,wJ (flatK kP 8 d) j hs];rfl);have ad:g<w.heap.size:=(iU.1 hb).1;have C:=Eb (P:=Tryz.prog) Yn kP QB an9 32 #[] g 0 cap d w (enters_of Tryz.func32 (by kernel_rfl) rfl) (abp g 0 d.size w) ⟨Ea,Yo,hH,ad⟩ (by omega);rw[Y] at C;refine C.mono ?_;rintro e w' ⟨rfl,B,ar,D,J,nn,os,rfl⟩;have Z:w.grownBy (sortWorldK kP 8 w g 0 nn B os) (some g):=(by unfold sortWorldK putRowK;exact FV _);have E:B.size=rs.length:=(by omega);have a7:B.toList.Perm d.toList:=(by have:=D.2.2;rw[<-Y] at this;have e1:B.extract 0 d.size=B:=(by rw[<-D.1];simp);have e2:d.extract 0 d.size=d:=(by simp);rwa [e1,e2] at this);refine⟨rfl,B.toList.map (·.r),(flatK kP 8 B).toList,?_,?_,⟨by simp[E],.inr ⟨g,cap,putCells id 0 (flatK kP 8 B) cur,rfl,hbase,?_,h1,h2,?_,?_⟩⟩,⟨by simp,?_⟩,Z⟩;have:=a7.map (·.r);rw[hd] at this;simp only at this;rwa [V] at this;intro i j x y al hx hy;rw[bK] at hx hy;obtain⟨a,ha,rfl⟩:=mX.1 hx;obtain⟨b,a8,rfl⟩:=mX.1 hy;rw[dH] at ha a8;obtain⟨hi,rfl⟩:=iU.1 ha;obtain⟨I,rfl⟩:=iU.1 a8;have:=J i j (aG _) al (by omega);rw[ltR,wJ B i hi,wJ B j I] at this;simp at this;exact this;exact QC hb;simp[putCells,h3];have:rs.length*8=(flatK kP 8 B).size:=(by rw[size_flatK,E]);rw[this];exact U0 cur _ (by rw[size_flatK,E,h3];omega)
   . intro k r hr;rw[bK] at hr;obtain⟨a,ha,rfl⟩:=mX.1 hr;have a6:a∈L:=by
      have:=a7.mem_iff.1 (iC ha);rw[hd] at this;simpa using this
     obtain⟨i,hi,an⟩:=Jy.1 a6;have q:=(H i a (by rw[<-an];exact aV hi)).2;rw[dH] at ha;obtain⟨hk,ao⟩:=iU.1 ha;have N:=q.grow Z (.inl rfl);refine⟨a.Ad,a.nd,a.cd,a.Af,a.nf,a.cf,λj u hu=>?_,N.ld,N.lf,N.od,N.of_,N.lod,N.lof⟩;have aq:j<8:=(by have:=(iU.1 hu).1;simpa [recV] using this);rw[flat_get B k j hk aq,wJ B k hk,ao];unfold kP;rw[dH];exact hu
