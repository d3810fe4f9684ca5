/- Words. -/
import Derived.Test.YtfbkkgfkhhibfaaGreatJw
import Derived.Test.YtfbkkgfkhhibfaaGreatPlnR
set_option linter.unusedVariables false
set_option linter.unusedSimpArgs false
namespace AM
open Go Go.Proofs Go.Proofs.YtfbkkgfkhhibfaaGreat Go.RowKit Mk Iv
theorem abV {Ψ:Psi}{els:List (List PV)}{v:Value}(h:Rep Ψ (.sl els) v):∃A c,v= .slice A els.length c/\els.length<=c:=by
 cases h with
 |nil=>exact ⟨_,_,rfl,ay _⟩
 |sl f hn hnc hk hf hr=>exact ⟨_,_,by rw[hn],by omega⟩
theorem Yw {Ψ:Psi}{q:Nat}{w:World}(d:BN Ψ q w){es:List EvA}{v:Value}(h:Rep Ψ (.sl (es.map EvA.r)) v):∃A c,v= .slice A es.length c/\Evs w q A es.length (es.map EvA.ev):=by
 generalize he:es.map EvA.r=els at h
 cases h with
 |
  nil=>
  have:es=[]:=Jj.1 he;subst this;exact⟨_,_,rfl,rfl,λk e hk=>by simp at hk⟩
 |
  @sl _ b o c n k f hn hnc hk hf hr=>
  subst he;rw[iG] at hn;subst hn;refine⟨_,_,rfl,by simp,λi e hi=>?_⟩;rw[bM] at hi
  cases hx:es[i]? with
  |none=>rw [hx] at hi;simp at hi
  |
   some x=>
   rw[hx] at hi;simp only[nJ,gV] at hi;subst hi;have y:k=7:=(hk _ (Jl (gU hx))).symm;subst y;have hc:∀j p,(EvA.r x)[j]?=some p->(b<q/\w.cell? ⟨b,o+i*7+j,none⟩=some (f i j))/\Rep Ψ p (f i j):=(λj p E=>by have h1:cellOf (es.map EvA.r) i j=some p:=(by simp only[cellOf,bM,hx,nJ,wB];exact E);have h2:=d _ _ _ (hf i j _ h1);exact⟨by rw[lW];exact h2,hr i j _ h1⟩);have hs:∀j v,(EvA.r x)[j]?=some (.sc v)->w.cell? ⟨b,o+i*7+j,none⟩=some v:=(λj v G=>by obtain⟨⟨_,h1⟩,h2⟩:=hc j _ G;rw[h1,(eH (loc:=λ_=>none) (.pv h2)).1]);obtain⟨⟨B,h5⟩,r5⟩:=hc 5 _ rfl;obtain⟨⟨_,D⟩,r6⟩:=hc 6 _ rfl;obtain⟨Ad,cd,H,ld⟩:=Ho d r5;obtain⟨Af,cf,I,lf⟩:=Ho d r6;rw[H] at h5;rw[I] at D;refine⟨b,o,Ad,cd,Af,cf,rfl,B,λj u a=>?_,by simpa [EvA.ev] using ld,by simpa [EvA.ev] using lf⟩
   match j,a with
   |0,a=>injection a with a;subst a;exact hs 0 _ rfl
   |1,a=>injection a with a;subst a;exact hs 1 _ rfl
   |2,a=>injection a with a;subst a;exact hs 2 _ rfl
   |3,a=>injection a with a;subst a;exact hs 3 _ rfl
   |4,a=>injection a with a;subst a;exact hs 4 _ rfl
   |5,a=>injection a with a;subst a;simpa [EvA.ev] using h5
   |6,a=>injection a with a;subst a;simpa [EvA.ev] using D
   |j+7,a=>simp at a
theorem abW {Ψ:Psi}{es:List EvA}{v:Value}(h:Rep Ψ (.sl (es.map EvA.r)) v):∃A c,v= .slice A es.length c/\es.length<=c/\∀a w,BN Ψ a w->Evs w a A es.length (es.map EvA.ev):=by obtain⟨A,c,e,hc⟩:=abV h;rw[iG] at e hc;refine⟨A,c,e,hc,λa w hf=>?_⟩;obtain⟨A',u,d,q⟩:=Yw hf h;rw[e] at d;injection d with e1 e2 e3;subst e1;exact q
theorem abX (l:List CeR):∀k,k<l.length->AtCell (fD (l.map CeR.r)) k:=λk hk=>by
 have h1:(l.map CeR.r)[k]?=some (CeR.r l[k]):=by rw[bM,aX hk];rfl
 have a:∀r∈l.map CeR.r,r.length=5:=λr hr=>by obtain⟨x,_,rfl⟩:=iK.1 hr;rfl
 exact⟨_,_,_,_,_,iZ a h1 (j:=0) rfl,iZ a h1 (j:=1) rfl,iZ a h1 (j:=2) rfl,iZ a h1 (j:=3) rfl,iZ a h1 (j:=4) rfl⟩
theorem abY (l:List (ByteArray×Bool)):∀k,k<l.length->AtLock (fD (l.map Qn)) k:=λk hk=>by
 have h1:(l.map Qn)[k]?=some (Qn l[k]):=by rw[bM,aX hk];rfl
 have a:∀r∈l.map Qn,r.length=2:=λr hr=>by obtain⟨x,_,rfl⟩:=iK.1 hr;rfl
 exact⟨_,_,iZ a h1 (j:=0) rfl,iZ a h1 (j:=1) rfl⟩
theorem abZ (l:List (ByteArray×Int)):∀k,k<l.length->AtCond (fD (l.map XE)) k:=λk hk=>by
 have h1:(l.map XE)[k]?=some (XE l[k]):=by rw[bM,aX hk];rfl
 have a:∀r∈l.map XE,r.length=2:=λr hr=>by obtain⟨x,_,rfl⟩:=iK.1 hr;rfl
 exact⟨_,_,iZ a h1 (j:=0) rfl,iZ a h1 (j:=1) rfl⟩
theorem Yx (l:List ByteArray):∀k,k<l.length->AtStr (fD (je l)) k:=λk hk=>by
 have h1:(je l)[k]?=some [dJ l[k]]:=by unfold je;rw[bM,aX hk];rfl
 have a:∀r∈je l,r.length=1:=λr hr=>by unfold je at hr;obtain⟨x,_,rfl⟩:=iK.1 hr;rfl
 exact⟨_,iZ a h1 (j:=0) rfl⟩
theorem ab1 (l:List (Nat×Nat)):∀k,k<l.length->AtSite (fD (l.map XG)) k:=λk hk=>by
 have h1:(l.map XG)[k]?=some (XG l[k]):=by rw[bM,aX hk];rfl
 have a:∀r∈l.map XG,r.length=3:=λr hr=>by obtain⟨x,_,rfl⟩:=iK.1 hr;rfl
 exact⟨_,_,_,iZ a h1 (j:=0) rfl,iZ a h1 (j:=1) rfl,iZ a h1 (j:=2) rfl⟩
theorem vg {α:Type}{Ψ:Psi}{loc:Loc}(l:List α)(R:α->List PV){x:Value}(k bytes:Nat)(hk:∀a,(R a).length=k)(y:0<k)(B:∀a,∀p∈R a,∃x:Value,p= .sc x/\x.oneCell'=true)(hn:l.length<=1000)(hb:bytes<=48)(h:RepA Ψ loc (.pv (.sl (l.map R))) x){u:Nat}{w0:World}(h0:BN Ψ u w0):
 ∃A c,x= .slice A l.length c/\(∀q w,BN Ψ q w->In1 w q k bytes A l.length c (fD (l.map R)))/\(0<l.length->∃b o,A=some ⟨b,o,none⟩):=by
 cases h with
 |
  pv h=>
  have key:=λ(q:Nat) (w:World) (d:BN Ψ q w)=>Yy d (bytes:=bytes) (k:=k) (λr hr=>by obtain⟨a,_,rfl⟩:=iK.1 hr;exact hk a) y (λr hr=>by obtain⟨a,_,rfl⟩:=iK.1 hr;exact B a) (by rw[iG];exact hn) hb h;simp only[iG] at key;obtain⟨A,c,e,_,ha⟩:=key u w0 h0;refine⟨A,c,e,λq w d=>?_,ha⟩;obtain⟨A',G,D,E,_⟩:=key q w d;rw[e] at D;injection D with e1 e2 e3;subst e1 e3;exact E
end AM
namespace Go.Proofs.YtfbkkgfkhhibfaaGreat
open Go Go.RowKit Iv AM
theorem QI (w:World)(B:Nat)(A1:Option Addr)(n1 c1:Nat)(xs:Bytes)(hx:Lies w B 1 A1 n1 (xs.map bv))(ZS:n1<=c1)(Y:n1<=1000)(I:A1=none->c1=0)(A2:Option Addr)(m c2:Nat)(ys:Bytes)(O:Lies w B 1 A2 m (ys.map bv))(ZD:m<=c2)(hm:m<=1000)(J:A2=none->c2=0):
 Calls Tryz.prog 9 #[.slice A1 n1 c1,.slice A2 m c2] w λe w'=>aje w B m e w':=by
 have l1:xs.length=n1:=(by have:=hx.1;rw[iG] at this;omega);have l2:ys.length=m:=(by have:=O.1;rw[iG] at this;omega);refine (join (X6 xs ys (by omega) (by omega)).2.2 w B _ ⟨rfl,λj v y=>?_⟩).mono ?_
 . match j,y with
   |0,y=>injection y with y;subst y;exact⟨_,rfl,.pv (ve hx ZS I)⟩
   |1,y=>injection y with y;subst y;exact⟨_,rfl,.pv (ve O ZD J)⟩
 rintro e w' ⟨r,v,g,Ψ,loc,rfl,⟨-,-,n,ss,es,rfl,h1,h4,Z,_,hl,L⟩,y,d⟩
 cases y with
 |
  @agg _ us f hs hx hr=>
  (((((((((((((obtain⟨a0,c0,e0,i0,b0⟩:=vg Qd CeR.r 5 48 (λ_=>rfl) (by omega) (λa p u=>by simp only[CeR.r,fV,lX,or_false] at u;rcases u with rfl|rfl|rfl|rfl|rfl<;>exact⟨_,rfl,rfl⟩) (by decide) (by omega) (hr 0 _ rfl) d.fzIn);obtain⟨a1,c1,e1,i1,b1⟩:=vg Qm Qn 2 24 (λ_=>rfl) (by omega) (λa p u=>by simp only[Qn,fV,lX,or_false] at u;rcases u with rfl|rfl<;>exact⟨_,rfl,rfl⟩) (by decide) (by omega) (hr 1 _ rfl) d.fzIn);obtain⟨a2,c2,e2,i2,b2⟩:=vg Qe XE 2 24 (λ_=>rfl) (by omega) (λa p u=>by simp only[XE,fV,lX,or_false] at u;rcases u with rfl|rfl<;>exact⟨_,rfl,rfl⟩) (by decide) (by omega) (hr 2 _ rfl) d.fzIn);obtain⟨a3,c3,e3,i3,b3⟩:=vg XF (λs=> [dJ s]) 1 16 (λ_=>rfl) (by omega) (λa p u=>by simp only[fV,lX,or_false] at u;subst u;exact⟨_,rfl,rfl⟩) (by decide) (by omega) (hr 3 _ rfl) d.fzIn);obtain⟨a4,c4,e4,R,U⟩:=vg (Mk.thNames n) (λs=> [dJ s]) 1 16 (λ_=>rfl) (by omega) (λa p u=>by simp only[fV,lX,or_false] at u;subst u;exact⟨_,rfl,rfl⟩) (by rw[Mk.thNames_len];omega) (by omega) (hr 4 _ rfl) d.fzIn);obtain⟨a5,c5,e5,i5,b5⟩:=vg ss XG 3 24 (λ_=>rfl) (by omega) (λa p u=>by simp only[XG,fV,lX,or_false] at u;rcases u with rfl|rfl|rfl<;>exact⟨_,rfl,rfl⟩) (by omega) (by omega) (hr 5 _ rfl) d.fzIn);have w0:=abX Qd);have w1:=abY Qm);have w2:=abZ Qe);have w3:=Yx XF);have V:=Yx (Mk.thNames n));have w5:=ab1 ss);rw[Mk.thNames_len] at e4 R U V);obtain⟨A,c,e6,M,hE⟩:∃A c,f 6= .slice A es.length c/\es.length<=c/\∀D w,BN Ψ D w->Evs w D A es.length (es.map EvA.ev):=by
   have:=hr 6 _ rfl
   cases this with
   |pv h=>exact abW h
  have N:us=#[.slice a0 Qd.length c0,.slice a1 Qm.length c1,.slice a2 Qe.length c2,.slice a3 XF.length c3,.slice a4 n c4,.slice a5 ss.length c5,.slice A es.length c]:=(by refine DD (by rw[hs];rfl) (λj h1 h2=>?_);have h3:j<7:=h2;have q:=hx j h3;rw[AA h1] at q;injection q with q;rw[q];obtain rfl|rfl|rfl|rfl|rfl|rfl|rfl:j=0\/j=1\/j=2\/j=3\/j=4\/j=5\/j=6:=(by omega);exact e0;exact e1;exact e2;exact e3;exact e4;exact e5;exact e6);subst N;have X:=λ(D:Nat) (w:World) (hf:BN Ψ D w)=>(⟨i0 D w hf,i1 D w hf,i2 D w hf,i3 D w hf,R D w hf,i5 D w hf,w0,w1,w2,w3,V,w5,b0,b1,b2,b3,U,b5⟩:WIn w D _ _ _ _ _ _ _ _ _ _ _ _ _ _ _ _ _ _ _ _ _ _ _ _);have E:(es.map EvA.ev).length=es.length:=iG _;refine⟨a0,_,c0,_,a1,_,c1,_,a2,_,c2,_,a3,_,c3,_,a4,n,c4,_,a5,_,c5,_,A,c,es.map EvA.ev,by rw[E],by rw[E];exact M,⟨h1,h4,by rw[E];omega,by rw[E];exact hE _ _ d.fzIn,λk e hk=>?_⟩,X _ _ d.fzIn,λW g hW G H=>⟨by rw[E];exact hE _ _ (Nv d hW G H),X _ _ (Nv d hW G H)⟩,Nu d⟩;rw[bM] at hk
  cases u:es[k]? with
  |none=>rw [u] at hk;simp at hk
  |
   some x=>
   rw[u] at hk;simp only[nJ,gV] at hk;subst hk;exact aeV (L k x u)
theorem afb:QE:=QI
end Go.Proofs.YtfbkkgfkhhibfaaGreat
namespace AM
open Go Go.Proofs Go.Proofs.YtfbkkgfkhhibfaaGreat Mk Iv
set_option maxRecDepth 20000
set_option maxHeartbeats 8000000
@[go_sem] theorem aus:lay Tryz.prog 39=some (true,4)/\
 lay Tryz.prog 24=some (true,4)/\
 lay Tryz.prog 68=some (true,2)/\
 lay Tryz.prog 36=some (false,1)/\
 aV Tryz.prog 36=some (68,2,16)/\
 aU Tryz.prog 39 0=some 0/\
 aU Tryz.prog 39 1=some 1/\
 aU Tryz.prog 39 2=some 2/\
 aU Tryz.prog 39 3=some 3/\
 aU Tryz.prog 24 0=some 0/\
 aU Tryz.prog 24 1=some 1/\
 aU Tryz.prog 24 2=some 2/\
 aU Tryz.prog 24 3=some 3/\
 dU Tryz.prog 39=some [.pv (ah 0),.emp,.pv (ah 0),.emp]/\
 dU Tryz.prog 68=some [.pv (ah 0),.pv (ah 0)]/\
 dh Tryz.prog 39=some [(0,1),(1,1),(2,1),(3,1)]/\
 dh Tryz.prog 68=some [(0,1),(1,1)]:=by and_intros<;>kernel_rfl
@[go_sem] def plR (p:Pln):List PV:=[ah p.cap,.sl (p.flushes.map Vy),ah p.stop,.sl (XK p.cuts)]
def aow:Nat->List (Nat×Nat):=λi=>if i=5 then [(1,3),(1,5),(1,6),(1,10),(3,10),(5,10),(6,10),(1,12),(3,12),(5,12),(6,12),(1,13),(3,13),(5,13),(6,13)] else if i=9 then [(1,3),(1,5),(1,6)] else []
attribute [local go_sem] List.set_cons_zero List.set_cons_succ List.map_append List.length_append List.map_cons List.map_nil List.length_singleton
end AM
namespace AM
open Go Go.Proofs Go.Proofs.YtfbkkgfkhhibfaaGreat Go.RowKit Mk Iv
theorem Sj {fr:Fr}{Ψ:Psi}{loc:Loc}{σ:Sto}{w:World}(d:Ok fr Ψ loc σ w){l:List Int}{v:Value}(h:Rep Ψ (.sl (XK l)) v):∃A c,v= .slice A l.length c/\Lies w w.heap.size 1 A l.length (l.map Iv.iv):=by
 generalize he:XK l=els at h
 cases h with
 |
  nil=>
  have:l=[]:=Jj.1 he;subst this;exact⟨_,_,rfl,⟨rfl,λh=>absurd h (Jk 0)⟩⟩
 |
  @sl _ b o c n k f hn hnc hk hf hr=>
  subst he;rw[iG] at hn;subst hn;refine⟨_,_,rfl,by simp,λh0=>?_⟩;have q:k=1:=(hk _ (Jl (eu h0))).symm;subst q;have hc:∀i (hi:i<l.length),w.cell? ⟨b,o+i,none⟩=some (Iv.iv l[i]):=(λi hi=>by have h1:cellOf (XK l) i 0=some (ah l[i]):=(by simp[cellOf,hi]);have h2:=d.fz _ _ _ (hf i 0 _ h1);rw[iY,rQ] at h2;rw[h2,(eH (loc:=loc) (.pv (hr i 0 _ h1))).1];rfl);refine⟨⟨b,o,none⟩,rfl,Hm w _ (hc 0 h0),λj u a=>?_⟩;rw[bM] at a
  cases hx:l[j]? with
  |none=>rw [hx] at a;simp at a
  |
   some x=>
   obtain⟨y,rfl⟩:=dD.1 hx;rw[hx] at a;simp only[nJ,gV] at a;subst a;have:=hc j y;rw[<-this];congr 1;unfold Addr.add;split;simp_all;rfl
theorem acF {fr:Fr}{Ψ:Psi}{loc:Loc}{σ:Sto}{w:World}(a:Ok fr Ψ loc σ w){l:List (Int×Int)}{v:Value}(h:Rep Ψ (.sl (l.map Vy)) v):∃A c,v= .slice A l.length c/\Fls w w.heap.size A l.length l:=by
 generalize he:l.map Vy=els at h
 cases h with
 |
  nil=>
  have:l=[]:=Jj.1 he;subst this;exact⟨_,_,rfl,rfl,λk f hk=>by simp at hk⟩
 |
  @sl _ b o c n k f hn hnc hk hf hr=>
  subst he;rw[iG] at hn;subst hn;refine⟨_,_,rfl,rfl,λi x hx=>?_⟩;have d:k=2:=(hk _ (Jl (gU hx))).symm;subst d;have hs:∀j v,(Vy x)[j]?=some (.sc v)->w.cell? ⟨b,o+i*2+j,none⟩=some v:=(λj v q=>by have h1:cellOf (l.map Vy) i j=some (.sc v):=(by simp only[cellOf,bM,hx,nJ,wB];exact q);rw[lW,a.fz _ _ _ (hf i j _ h1),(eH (loc:=loc) (.pv (hr i j _ h1))).1]);have h0:=hs 0 _ rfl;exact⟨b,o,rfl,Hm w _ h0,h0,hs 1 _ rfl⟩
end AM
namespace Go.Proofs.YtfbkkgfkhhibfaaGreat
open Go Go.RowKit Iv AM
end Go.Proofs.YtfbkkgfkhhibfaaGreat
namespace AM
open Go Go.Proofs Go.Proofs.YtfbkkgfkhhibfaaGreat Mk Iv
set_option maxRecDepth 20000
set_option maxHeartbeats 8000000
@[go_sem] theorem asT:lay Tryz.prog 57=some (true,4)/\
 aU Tryz.prog 57 0=some 0/\
 aU Tryz.prog 57 1=some 1/\
 aU Tryz.prog 57 2=some 2/\
 aU Tryz.prog 57 3=some 3:=by and_intros<;>kernel_rfl
attribute [local go_sem] List.set_cons_zero List.set_cons_succ List.map_append List.length_append List.map_cons List.map_nil List.length_singleton
theorem V9 (n:Nat)(h1:1<=n)(h4:n<=4)(cap stop:Nat)(hc:cap<256)(hs:stop<256)(xs ys:List UInt8)(hx:xs.length<=9223372036854775807)(H:ys.length<=9223372036854775807):kS Tryz.prog 20 [rw_ [.sc (.int .u8 cap),.sc (.int .u8 stop),Ux xs,Ux ys],.pv (ah n)] (λr=>∃p,PlnG n p/\r=rw_ (plR p)):=by
 refine wf Tryz.func20 aow (h:=λR G=>?_);refine wb ?_<;>intros;have q:IntKind.i64.wrap ((cap:Int).tmod 8+1)=((cap%8+1:Nat):Int):=(by show IntKind.i64.wrap (((cap%8:Nat):Int)+1)=_;rw[eY _ (by omega)];omega);generalize IntKind.i64.wrap ((cap:Int).tmod 8+1)=c0 at q;refine dI 88 1 68 2 rfl rfl ?_;refine wl (λu:List (Int×Int)=> [(1,.pv (ah n)),(2,.ptr 0 0),(4,.ptr 1 0),(5,.ptr 2 0),(6,.pv (ah u.length))]) (λu=> [some (.box [.pv (.sc (.int .u8 cap)),.pv (.sc (.int .u8 stop)),.pv (Ux xs),.pv (Ux ys)]),some (.box [.pv (ah 0),.emp,.pv (ah 0),.emp]),some (.box [.pv (ah c0),.own 3 u.length,.pv (ah stop),.emp]),some (.row 68 2 (u.map Vy))]) (λu=>u.length<=xs.length/\u.length<=20/\∀f∈u,0<=f.1/\f.1<=255/\0<=f.2/\f.2<n) (λu=>xs.length-u.length) [] ⟨ay _,ay _,λf h=>nomatch h⟩ (vm [0,8,88,112]) (λu ⟨I,y,hf⟩=>?_);refine wb (A2.mk ?_ (A2.mk ?_ ?_))<;>intros
 . have h2:u.length<xs.length:=(by omega);have hg:=aX h2;generalize xs[u.length]=x at hg;have B:=x.toNat_lt;have d:(xs.map λx=> [PV.sc (.int .u8 x.toNat)])[u.length]?=some [.sc (.int .u8 x.toNat)]:=(by rw[bM,hg];rfl);refine az (by omega) d rfl ?_;refine wb ?_<;>intros;refine az (by omega) d rfl ?_;refine wb ?_<;>intros;have E:IntKind.i64.wrap ((x.toNat:Int).tdiv 4)=((x.toNat/4:Nat):Int):=by
    show IntKind.i64.wrap ((x.toNat/4:Nat):Int)=_;exact eY _ (by omega)
   have hm:x.toNat%n<n:=tq _ (by omega);refine aj ⟨u++[(IntKind.i64.wrap ((x.toNat:Int).tdiv 4),((x.toNat%n:Nat):Int))],⟨by rw[aY];simp only[qg];omega,by rw[aY];simp only[qg];omega,λf a=>?_⟩,by rw[aY];simp only[qg];omega,by clear E;exact vm [0,1,2,228]⟩;rcases ja.1 a with a|a;exact hf f a;rw[lM.1 a];dsimp only;rw[E];omega
 all_goals
  refine dI 2 3 3 1 rfl rfl ?_;refine wl (λv:List Int=> [(1,.pv (ah n)),(2,.ptr 0 0),(4,.ptr 1 0),(5,.ptr 2 0),(7,.pv (ah v.length))]) (λv=> [some (.box [.pv (.sc (.int .u8 cap)),.pv (.sc (.int .u8 stop)),.pv (Ux xs),.pv (Ux ys)]),some (.box [.pv (ah 0),.emp,.pv (ah 0),.emp]),some (.box [.pv (ah c0),.own 3 u.length,.pv (ah stop),.own 4 v.length]),some (.row 68 2 (u.map Vy)),some (.row 3 1 (XK v))]) (λv=>v.length<=ys.length/\v.length<=n/\∀k∈v,0<=k/\k<=255) (λv=>ys.length-v.length) [] ⟨ay _,ay _,λf h=>nomatch h⟩ (vm [0,1,2,3,84]) (λv ⟨J,D,hk⟩=>?_);refine wb (A2.mk ?_ (A2.mk ?_ ?_))<;>intros;have h2:v.length<ys.length:=(by omega);have hg:=aX h2;generalize ys[v.length]=x at hg;have B:=x.toNat_lt;have d:(ys.map λx=> [PV.sc (.int .u8 x.toNat)])[v.length]?=some [.sc (.int .u8 x.toNat)]:=(by rw[bM,hg];rfl);refine az (by omega) d rfl ?_;refine wb ?_<;>intros;refine aj ⟨v++[(x.toNat:Int)],⟨by rw[aY];simp only[qg];omega,by rw[aY];simp only[qg];omega,λf a=>?_⟩,by rw[aY];simp only[qg];omega,vm [0,1,2,3,157]⟩;rcases ja.1 a with a|a;exact hk f a;rw[lM.1 a];omega;all_goals exact wt G (rw_ (plR ⟨c0,u,stop,v⟩)) [(3,none),(4,none)] ⟨⟨c0,u,stop,v⟩,⟨by show 1<=c0;omega,by show c0<=8;omega,by show (0:Int)<=stop;omega,by show (stop:Int)<=255;omega,y,hf,D,hk⟩,rfl⟩
end AM
namespace Go.Proofs.YtfbkkgfkhhibfaaGreat
open Go Go.RowKit Iv AM
theorem TP (w:World)(n cap stop:Nat)(h1:1<=n)(h4:n<=4)(hc:cap<256)(hs:stop<256)(A1:Option Addr)(n1 c1 D:Nat)(xs:Bytes)(hx:Lies w D 1 A1 n1 (xs.map bv))(ZS:n1<=c1)(H:c1<=maxLen)(I:A1=none->c1=0)(A2:Option Addr)(n2 c2 E:Nat)(ys:Bytes)(N:Lies w E 1 A2 n2 (ys.map bv))(ZD:n2<=c2)(J:c2<=maxLen)(L:A2=none->c2=0):
 Calls Tryz.prog 20 #[.agg #[.int .u8 (cap:Int),.int .u8 (stop:Int),.slice A1 n1 c1,.slice A2 n2 c2],.int .i64 (n:Int)] w λe w'=>
  ∃(p:Pln) (Af:Option Addr) (cf:Nat) (B:Option Addr) (G:Nat),e= .returned (.agg (yI p Af p.flushes.length cf B p.cuts.length G))/\PlnG n p/\Fls w' w'.heap.size Af p.flushes.length p.flushes/\Lies w' w'.heap.size 1 B p.cuts.length (p.cuts.map iv)/\w.grownBy w' none:=by
 have l1:xs.length=n1:=(by have:=hx.1;rw[iG] at this;omega);have l2:ys.length=n2:=(by have:=N.1;rw[iG] at this;omega);unfold maxLen at H J;refine (join (V9 n h1 h4 cap stop hc hs xs ys (by omega) (by omega)).2.2 w (max D E) _ ⟨rfl,λj v d=>?_⟩).mono ?_
 . match j,d with
   |
    0,d=>
    injection d with d;subst d;refine⟨_,rfl,.agg (λj=>(#[.int .u8 (cap:Int),.int .u8 (stop:Int),.slice A1 n1 c1,.slice A2 n2 c2]:Array Value).getD j undef) rfl (λj O=>?_) (λj u a=>?_)⟩
    . have h4:j<4:=O;obtain rfl|rfl|rfl|rfl:j=0\/j=1\/j=2\/j=3:=(by omega);all_goals rfl
    . match j,a with
      |0,a=>injection a with a;subst a;exact .pv (.sc rfl)
      |1,a=>injection a with a;subst a;exact .pv (.sc rfl)
      |2,a=>injection a with a;subst a;exact .pv (ve (hx.more (TA D E)) ZS I)
      |3,a=>injection a with a;subst a;exact .pv (ve (N.more (TB D E)) ZD L)
   |1,d=>injection d with d;subst d;exact⟨_,rfl,.pv (.sc rfl)⟩
 rintro e w' ⟨r,v,g,Ψ,loc,rfl,⟨-,-,p,R,rfl⟩,d,y⟩
 cases d with
 |
  @agg _ us f hz hx' hr=>
  have e0:=(eH (hr 0 _ rfl)).1;have U:=(eH (hr 2 _ rfl)).1;obtain⟨Af,cf,e1,hF⟩:∃A c,f 1= .slice A p.flushes.length c/\Fls w' w'.heap.size A p.flushes.length p.flushes:=by
   have:=hr 1 _ rfl
   cases this with
   |pv h=>exact acF y h
  obtain⟨B,G,V,X⟩:∃A c,f 3= .slice A p.cuts.length c/\Lies w' w'.heap.size 1 A p.cuts.length (p.cuts.map iv):=by
   have:=hr 3 _ rfl
   cases this with
   |pv h=>exact Sj y h
  have M:us=yI p Af p.flushes.length cf B p.cuts.length G:=(by refine DD (by rw[hz];rfl) (λj h1 h2=>?_);have h3:j<4:=h2;have q:=hx' j h3;rw[AA h1] at q;injection q with q;rw[q];obtain rfl|rfl|rfl|rfl:j=0\/j=1\/j=2\/j=3:=(by omega);exact e0;exact e1;exact U;exact V);subst M;exact⟨p,Af,cf,B,G,rfl,R,hF,X,Nu y⟩
theorem agv:QF:=TP
