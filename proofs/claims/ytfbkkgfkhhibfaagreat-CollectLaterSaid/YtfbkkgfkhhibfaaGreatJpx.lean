/- Words. -/
import Derived.Test.YtfbkkgfkhhibfaaGreatJw
import Derived.Test.YtfbkkgfkhhibfaaGreatPlnR
set_option linter.unusedVariables false
set_option linter.unusedSimpArgs false
set_option maxRecDepth 20000
set_option maxHeartbeats 8000000
namespace AM
open Go Go.Proofs Go.Proofs.YtfbkkgfkhhibfaaGreat Go.RowKit Mk Iv
theorem aaB {Ψ:Psi}{els:List (List PV)}{v:Value}(h:Rep Ψ (.sl els) v):∃A c,v= .slice A els.length c/\els.length<=c:=by
 cases h with
 |nil=>exact ⟨_,_,rfl,aG _⟩
 |sl f hn hnc hk hf hr=>exact ⟨_,_,by rw[hn],by omega⟩
theorem Xg {Ψ:Psi}{y:Nat}{w:World}(d:AU Ψ y w){es:List EvA}{v:Value}(h:Rep Ψ (.sl (es.map EvA.r)) v):∃A c,v= .slice A es.length c/\Evs w y A es.length (es.map EvA.ev):=by
 generalize he:es.map EvA.r=els at h
 cases h with
 |
  nil=>
  have:es=[]:=Iz.1 he;subst this;exact⟨_,_,rfl,rfl,λk e hk=>by simp at hk⟩
 |
  @sl _ b o c n k f hn hnc hk hf hr=>
  subst he;rw[gy] at hn;subst hn;refine⟨_,_,rfl,by simp,λi e hi=>?_⟩;rw[bK] at hi
  cases hx:es[i]? with
  |none=>rw [hx] at hi;simp at hi
  |
   some x=>
   rw[hx] at hi;simp only[ng,jA] at hi;subst hi;have B:k=7:=(hk _ (IA (iC hx))).symm;subst B;have hc:∀j p,(EvA.r x)[j]?=some p->(b<y/\w.cell? ⟨b,o+i*7+j,none⟩=some (f i j))/\Rep Ψ p (f i j):=(λj p G=>by have h1:cellOf (es.map EvA.r) i j=some p:=(by simp only[cellOf,bK,hx,ng,uT];exact G);have h2:=d _ _ _ (hf i j _ h1);exact⟨by rw[nz];exact h2,hr i j _ h1⟩);have hs:∀j v,(EvA.r x)[j]?=some (.sc v)->w.cell? ⟨b,o+i*7+j,none⟩=some v:=(λj v H=>by obtain⟨⟨_,h1⟩,h2⟩:=hc j _ H;rw[h1,(dK (loc:=λ_=>none) (.pv h2)).1]);obtain⟨⟨D,h5⟩,r5⟩:=hc 5 _ rfl;obtain⟨⟨_,E⟩,r6⟩:=hc 6 _ rfl;obtain⟨Ad,cd,I,ld⟩:=Gx d r5;obtain⟨Af,cf,J,lf⟩:=Gx d r6;rw[I] at h5;rw[J] at E;refine⟨b,o,Ad,cd,Af,cf,rfl,D,λj u a=>?_,by simpa [EvA.ev] using ld,by simpa [EvA.ev] using lf⟩
   match j,a with
   |0,a=>injection a with a;subst a;exact hs 0 _ rfl
   |1,a=>injection a with a;subst a;exact hs 1 _ rfl
   |2,a=>injection a with a;subst a;exact hs 2 _ rfl
   |3,a=>injection a with a;subst a;exact hs 3 _ rfl
   |4,a=>injection a with a;subst a;exact hs 4 _ rfl
   |5,a=>injection a with a;subst a;simpa [EvA.ev] using h5
   |6,a=>injection a with a;subst a;simpa [EvA.ev] using E
   |j+7,a=>simp at a
theorem aaC {Ψ:Psi}{es:List EvA}{v:Value}(h:Rep Ψ (.sl (es.map EvA.r)) v):∃A c,v= .slice A es.length c/\es.length<=c/\∀a w,AU Ψ a w->Evs w a A es.length (es.map EvA.ev):=by obtain⟨A,c,e,hc⟩:=aaB h;rw[gy] at e hc;refine⟨A,c,e,hc,λa w hf=>?_⟩;obtain⟨A',y,d,u⟩:=Xg hf h;rw[e] at d;injection d with e1 e2 e3;subst e1;exact u
theorem aaD (l:List CeR):∀k,k<l.length->AtCell (dA (l.map CeR.r)) k:=λk hk=>by
 have h1:(l.map CeR.r)[k]?=some (CeR.r l[k]):=by rw[bK,aV hk];rfl
 have a:∀r∈l.map CeR.r,r.length=5:=λr hr=>by obtain⟨x,_,rfl⟩:=iV.1 hr;rfl
 exact⟨_,_,_,_,_,iM a h1 (j:=0) rfl,iM a h1 (j:=1) rfl,iM a h1 (j:=2) rfl,iM a h1 (j:=3) rfl,iM a h1 (j:=4) rfl⟩
theorem aaE (l:List (ByteArray×Bool)):∀k,k<l.length->AtLock (dA (l.map Pq)) k:=λk hk=>by
 have h1:(l.map Pq)[k]?=some (Pq l[k]):=by rw[bK,aV hk];rfl
 have a:∀r∈l.map Pq,r.length=2:=λr hr=>by obtain⟨x,_,rfl⟩:=iV.1 hr;rfl
 exact⟨_,_,iM a h1 (j:=0) rfl,iM a h1 (j:=1) rfl⟩
theorem aaF (l:List (ByteArray×Int)):∀k,k<l.length->AtCond (dA (l.map V3)) k:=λk hk=>by
 have h1:(l.map V3)[k]?=some (V3 l[k]):=by rw[bK,aV hk];rfl
 have a:∀r∈l.map V3,r.length=2:=λr hr=>by obtain⟨x,_,rfl⟩:=iV.1 hr;rfl
 exact⟨_,_,iM a h1 (j:=0) rfl,iM a h1 (j:=1) rfl⟩
theorem Xh (l:List ByteArray):∀k,k<l.length->AtStr (dA (iT l)) k:=λk hk=>by
 have h1:(iT l)[k]?=some [dh l[k]]:=by unfold iT;rw[bK,aV hk];rfl
 have a:∀r∈iT l,r.length=1:=λr hr=>by unfold iT at hr;obtain⟨x,_,rfl⟩:=iV.1 hr;rfl
 exact⟨_,iM a h1 (j:=0) rfl⟩
theorem aaG (l:List (Nat×Nat)):∀k,k<l.length->AtSite (dA (l.map V5)) k:=λk hk=>by
 have h1:(l.map V5)[k]?=some (V5 l[k]):=by rw[bK,aV hk];rfl
 have a:∀r∈l.map V5,r.length=3:=λr hr=>by obtain⟨x,_,rfl⟩:=iV.1 hr;rfl
 exact⟨_,_,_,iM a h1 (j:=0) rfl,iM a h1 (j:=1) rfl,iM a h1 (j:=2) rfl⟩
theorem uz {α:Type}{Ψ:Psi}{loc:Loc}(l:List α)(R:α->List PV){x:Value}(k bytes:Nat)(hk:∀a,(R a).length=k)(B:0<k)(D:∀a,∀p∈R a,∃x:Value,p= .sc x/\x.oneCell'=true)(hn:l.length<=1000)(hb:bytes<=48)(h:RepA Ψ loc (.pv (.sl (l.map R))) x){y:Nat}{w0:World}(h0:AU Ψ y w0):
 ∃A c,x= .slice A l.length c/\(∀u w,AU Ψ u w->In1 w u k bytes A l.length c (dA (l.map R)))/\(0<l.length->∃b o,A=some ⟨b,o,none⟩):=by
 cases h with
 |
  pv h=>
  have key:=λ(u:Nat) (w:World) (d:AU Ψ u w)=>Xi d (bytes:=bytes) (k:=k) (λr hr=>by obtain⟨a,_,rfl⟩:=iV.1 hr;exact hk a) B (λr hr=>by obtain⟨a,_,rfl⟩:=iV.1 hr;exact D a) (by rw[gy];exact hn) hb h;simp only[gy] at key;obtain⟨A,c,e,_,ha⟩:=key y w0 h0;refine⟨A,c,e,λu w d=>?_,ha⟩;obtain⟨A',H,E,G,_⟩:=key u w d;rw[e] at E;injection E with e1 e2 e3;subst e1 e3;exact G
end AM
namespace Go.Proofs.YtfbkkgfkhhibfaaGreat
open Go Go.RowKit Iv AM
end Go.Proofs.YtfbkkgfkhhibfaaGreat
namespace AM
open Go Go.Proofs Go.Proofs.YtfbkkgfkhhibfaaGreat Mk Iv
@[go_sem] theorem asv:lay Tryz.prog 39=some (true,4)/\
 lay Tryz.prog 24=some (true,4)/\
 lay Tryz.prog 68=some (true,2)/\
 lay Tryz.prog 36=some (false,1)/\
 aS Tryz.prog 36=some (68,2,16)/\
 aU Tryz.prog 39 0=some 0/\
 aU Tryz.prog 39 1=some 1/\
 aU Tryz.prog 39 2=some 2/\
 aU Tryz.prog 39 3=some 3/\
 aU Tryz.prog 24 0=some 0/\
 aU Tryz.prog 24 1=some 1/\
 aU Tryz.prog 24 2=some 2/\
 aU Tryz.prog 24 3=some 3/\
 dE Tryz.prog 39=some [.pv (ag 0),.emp,.pv (ag 0),.emp]/\
 dE Tryz.prog 68=some [.pv (ag 0),.pv (ag 0)]/\
 bU Tryz.prog 39=some [(0,1),(1,1),(2,1),(3,1)]/\
 bU Tryz.prog 68=some [(0,1),(1,1)]:=by and_intros<;>kernel_rfl
@[go_sem] def plR (p:Pln):List PV:=[ag p.cap,.sl (p.flushes.map Uk),ag p.stop,.sl (Wh p.cuts)]
def am6:Nat->List (Nat×Nat):=λi=>if i=5 then [(1,3),(1,5),(1,6),(1,10),(3,10),(5,10),(6,10),(1,12),(3,12),(5,12),(6,12),(1,13),(3,13),(5,13),(6,13)] else if i=9 then [(1,3),(1,5),(1,6)] else []
attribute [local go_sem] List.set_cons_zero List.set_cons_succ List.map_append List.length_append List.map_cons List.map_nil List.length_singleton
end AM
namespace AM
open Go Go.Proofs Go.Proofs.YtfbkkgfkhhibfaaGreat Go.RowKit Mk Iv
theorem Qi {fr:Fr}{Ψ:Psi}{loc:Loc}{σ:Sto}{w:World}(d:Ok fr Ψ loc σ w){l:List Int}{v:Value}(h:Rep Ψ (.sl (Wh l)) v):∃A c,v= .slice A l.length c/\Lies w w.heap.size 1 A l.length (l.map Iv.iv):=by
 generalize he:Wh l=els at h
 cases h with
 |
  nil=>
  have:l=[]:=Iz.1 he;subst this;exact⟨_,_,rfl,⟨rfl,λh=>absurd h (yC 0)⟩⟩
 |
  @sl _ b o c n k f hn hnc hk hf hr=>
  subst he;rw[gy] at hn;subst hn;refine⟨_,_,rfl,by simp,λh0=>?_⟩;have y:k=1:=(hk _ (IA (dm h0))).symm;subst y;have hc:∀i (hi:i<l.length),w.cell? ⟨b,o+i,none⟩=some (Iv.iv l[i]):=(λi hi=>by have h1:cellOf (Wh l) i 0=some (ag l[i]):=(by simp[cellOf,hi]);have h2:=d.fz _ _ _ (hf i 0 _ h1);rw[lY,oD] at h2;rw[h2,(dK (loc:=loc) (.pv (hr i 0 _ h1))).1];rfl);refine⟨⟨b,o,none⟩,rfl,Gt w _ (hc 0 h0),λj u a=>?_⟩;rw[bK] at a
  cases hx:l[j]? with
  |none=>rw [hx] at a;simp at a
  |
   some x=>
   obtain⟨B,rfl⟩:=bV.1 hx;rw[hx] at a;simp only[ng,jA] at a;subst a;have:=hc j B;rw[<-this];congr 1;unfold Addr.add;split;simp_all;rfl
theorem aaT {fr:Fr}{Ψ:Psi}{loc:Loc}{σ:Sto}{w:World}(a:Ok fr Ψ loc σ w){l:List (Int×Int)}{v:Value}(h:Rep Ψ (.sl (l.map Uk)) v):∃A c,v= .slice A l.length c/\Fls w w.heap.size A l.length l:=by
 generalize he:l.map Uk=els at h
 cases h with
 |
  nil=>
  have:l=[]:=Iz.1 he;subst this;exact⟨_,_,rfl,rfl,λk f hk=>by simp at hk⟩
 |
  @sl _ b o c n k f hn hnc hk hf hr=>
  subst he;rw[gy] at hn;subst hn;refine⟨_,_,rfl,rfl,λi x hx=>?_⟩;have d:k=2:=(hk _ (IA (iC hx))).symm;subst d;have hs:∀j v,(Uk x)[j]?=some (.sc v)->w.cell? ⟨b,o+i*2+j,none⟩=some v:=(λj v u=>by have h1:cellOf (l.map Uk) i j=some (.sc v):=(by simp only[cellOf,bK,hx,ng,uT];exact u);rw[nz,a.fz _ _ _ (hf i j _ h1),(dK (loc:=loc) (.pv (hr i j _ h1))).1]);have h0:=hs 0 _ rfl;exact⟨b,o,rfl,Gt w _ h0,h0,hs 1 _ rfl⟩
end AM
namespace Go.Proofs.YtfbkkgfkhhibfaaGreat
open Go Go.RowKit Iv AM
end Go.Proofs.YtfbkkgfkhhibfaaGreat
namespace AM
open Go Go.Proofs Go.Proofs.YtfbkkgfkhhibfaaGreat Go.RowKit Mk Iv
theorem Z7 {w w' W:World}{B:Nat}{Ψ:Psi}{loc:Loc}{σ:Sto}(h:Ok (WV w B) Ψ loc σ w')(hW:Aps w' W B w.heap.size):AU Ψ w'.heap.size W:=λb o v e=>by
 have a:=h.fz_lt e
 refine⟨a,?_⟩
 have d:b<B\/w.heap.size<=b:=by
  rcases vT b w.heap.size with h2|h2
  . refine .inl ?_;have h3:Ψ.fz b o=(zI w B).fz b o:=h.pz b h2 o;rw[e] at h3;unfold zI at h3;dsimp only at h3;split at h3;assumption
    cases h3
  exact .inr h2
 rw[lW (hW.2 b a d)];exact h.fz b o v e
end AM
namespace Go.Proofs.YtfbkkgfkhhibfaaGreat
open Go Go.RowKit Iv AM
theorem RY (xs ys:Bytes)(lx:xs.length<=1000)(ly:ys.length<=1000):∃N L,TrX xs ys N L:=by
 obtain⟨v0,g0,⟨rfl,-,n,ss,es,rfl,h1,h4,a6,_,hl,G⟩,-,-,hO⟩:=(WH xs ys lx ly).2.2;refine⟨n,es.map EvA.ev,λw B A1 n1 c1 hx ZS a7 H A2 m c2 U ZD hm I=>?_⟩;have l1:xs.length=n1:=(by have:=hx.1;rw[gy] at this;omega);have l2:ys.length=m:=(by have:=U.1;rw[gy] at this;omega);refine (acG hO w B _ ⟨rfl,λj v y=>?_⟩).mono ?_
 . match j,y with
   |0,y=>injection y with y;subst y;exact⟨_,rfl,.pv (uy hx ZS H)⟩
   |1,y=>injection y with y;subst y;exact⟨_,rfl,.pv (uy U ZD I)⟩
 rintro e w' ⟨r,v,g,Ψ,loc,rfl,⟨rfl,rfl⟩,y,d⟩
 cases y with
 |
  @agg _ us f hs hx hr=>
  (((((((((((((obtain⟨a0,c0,e0,i0,b0⟩:=uz OZ CeR.r 5 48 (λ_=>rfl) (by omega) (λa p u=>by simp only[CeR.r,dV,jK,or_false] at u;rcases u with rfl|rfl|rfl|rfl|rfl<;>exact⟨_,rfl,rfl⟩) (by decide) (by omega) (hr 0 _ rfl) d.fzIn);obtain⟨a1,c1,e1,i1,b1⟩:=uz Po Pq 2 24 (λ_=>rfl) (by omega) (λa p u=>by simp only[Pq,dV,jK,or_false] at u;rcases u with rfl|rfl<;>exact⟨_,rfl,rfl⟩) (by decide) (by omega) (hr 1 _ rfl) d.fzIn);obtain⟨a2,c2,e2,i2,b2⟩:=uz O1 V3 2 24 (λ_=>rfl) (by omega) (λa p u=>by simp only[V3,dV,jK,or_false] at u;rcases u with rfl|rfl<;>exact⟨_,rfl,rfl⟩) (by decide) (by omega) (hr 2 _ rfl) d.fzIn);obtain⟨a3,c3,e3,i3,b3⟩:=uz V4 (λs=> [dh s]) 1 16 (λ_=>rfl) (by omega) (λa p u=>by simp only[dV,jK,or_false] at u;subst u;exact⟨_,rfl,rfl⟩) (by decide) (by omega) (hr 3 _ rfl) d.fzIn);obtain⟨a4,c4,e4,V,X⟩:=uz (Mk.thNames n) (λs=> [dh s]) 1 16 (λ_=>rfl) (by omega) (λa p u=>by simp only[dV,jK,or_false] at u;subst u;exact⟨_,rfl,rfl⟩) (by rw[Mk.thNames_len];omega) (by omega) (hr 4 _ rfl) d.fzIn);obtain⟨a5,c5,e5,i5,b5⟩:=uz ss V5 3 24 (λ_=>rfl) (by omega) (λa p u=>by simp only[V5,dV,jK,or_false] at u;rcases u with rfl|rfl|rfl<;>exact⟨_,rfl,rfl⟩) (by omega) (by omega) (hr 5 _ rfl) d.fzIn);have w0:=aaD OZ);have w1:=aaE Po);have w2:=aaF O1);have w3:=Xh V4);have Y:=Xh (Mk.thNames n));have w5:=aaG ss);rw[Mk.thNames_len] at e4 V X Y);obtain⟨A,c,e6,J,hE⟩:∃A c,f 6= .slice A es.length c/\es.length<=c/\∀D w,AU Ψ D w->Evs w D A es.length (es.map EvA.ev):=by
   have:=hr 6 _ rfl
   cases this with
   |pv h=>exact aaC h
  have O:us=#[.slice a0 OZ.length c0,.slice a1 Po.length c1,.slice a2 O1.length c2,.slice a3 V4.length c3,.slice a4 n c4,.slice a5 ss.length c5,.slice A es.length c]:=(by refine Cb (by rw[hs];rfl) (λj h1 h2=>?_);have h3:j<7:=h2;have q:=hx j h3;rw[zG h1] at q;injection q with q;rw[q];obtain rfl|rfl|rfl|rfl|rfl|rfl|rfl:j=0\/j=1\/j=2\/j=3\/j=4\/j=5\/j=6:=(by omega);exact e0;exact e1;exact e2;exact e3;exact e4;exact e5;exact e6);subst O;have Z:=λ(D:Nat) (w:World) (hf:AU Ψ D w)=>(⟨i0 D w hf,i1 D w hf,i2 D w hf,i3 D w hf,V D w hf,i5 D w hf,w0,w1,w2,w3,Y,w5,b0,b1,b2,b3,X,b5⟩:WIn w D _ _ _ _ _ _ _ _ _ _ _ _ _ _ _ _ _ _ _ _ _ _ _ _);have E:(es.map EvA.ev).length=es.length:=gy _;refine⟨a0,_,c0,_,a1,_,c1,_,a2,_,c2,_,a3,_,c3,_,a4,c4,_,a5,_,c5,_,A,c,by rw[E],by rw[E];exact J,⟨h1,h4,by rw[E];omega,by rw[E];exact hE _ _ d.fzIn,λk e hk=>?_⟩,Z _ _ d.fzIn,λW hW=>⟨by rw[E];exact hE _ _ (Z7 d hW),Z _ _ (Z7 d hW)⟩,LM d⟩;rw[bK] at hk
  cases u:es[k]? with
  |none=>rw [u] at hk;simp at hk
  |
   some x=>
   rw[u] at hk;simp only[ng,jA] at hk;subst hk;exact adw (G k x u)
theorem afs:Xc:=RY
end Go.Proofs.YtfbkkgfkhhibfaaGreat
namespace AM
open Go Go.Proofs Go.Proofs.YtfbkkgfkhhibfaaGreat Mk Iv
@[go_sem] theorem arw:lay Tryz.prog 57=some (true,4)/\
 aU Tryz.prog 57 0=some 0/\
 aU Tryz.prog 57 1=some 1/\
 aU Tryz.prog 57 2=some 2/\
 aU Tryz.prog 57 3=some 3:=by and_intros<;>kernel_rfl
attribute [local go_sem] List.set_cons_zero List.set_cons_succ List.map_append List.length_append List.map_cons List.map_nil List.length_singleton
theorem NZ {α:Type}{xs:List α}{k m:Nat}(h1:k<=xs.length)(h2:k<=m)(h:¬(k<xs.length)\/¬(k<m)):xs.take k=xs.take m:=by rcases h with h|h;rw[xM (by omega),xM (by omega)];rw[show k=m by omega]
theorem Qh (n:Nat)(h1:1<=n)(h4:n<=4)(cap stop:Nat)(hc:cap<256)(hs:stop<256)(xs ys:List UInt8)(hx:xs.length<=9223372036854775807)(L:ys.length<=9223372036854775807):kV Tryz.prog 20 [rw_ [.sc (.int .u8 cap),.sc (.int .u8 stop),SS xs,SS ys],.pv (ag n)] (λr=>r=rw_ (plR (ny n cap stop xs ys))):=by
 refine wf Tryz.func20 am6 (h:=λR E=>?_);refine wb ?_<;>intros;have d:IntKind.i64.wrap ((cap:Int).tmod 8+1)=((cap%8+1:Nat):Int):=(by show IntKind.i64.wrap (((cap%8:Nat):Int)+1)=_;rw[gQ _ (by omega)];omega);generalize IntKind.i64.wrap ((cap:Int).tmod 8+1)=c0 at d;have y:Hd (c0=((cap%8+1:Nat):Int)):=⟨d⟩;refine sr_ghost 88 1 68 2 rfl rfl ?_;refine wl (λu:List (Int×Int)=> [(1,.pv (ag n)),(2,.ptr 0 0),(4,.ptr 1 0),(5,.ptr 2 0),(6,.pv (ag u.length))]) (λu=> [some (.box [.pv (.sc (.int .u8 cap)),.pv (.sc (.int .u8 stop)),.pv (SS xs),.pv (SS ys)]),some (.box [.pv (ag 0),.emp,.pv (ag 0),.emp]),some (.box [.pv (ag c0),.own 3 u.length,.pv (ag stop),.emp]),some (.row 68 2 (u.map Uk))]) (λu=>u.length<=xs.length/\u.length<=20/\Hd (u=(xs.take u.length).map (flF n))) (λu=>xs.length-u.length) [] ⟨aG _,aG _,⟨rfl⟩⟩ (vm [0,8,88,112]) (λu ⟨G,A,hf⟩=>?_);refine wb (A2.mk ?_ (A2.mk ?_ ?_))<;>intros;have h2:u.length<xs.length:=(by omega);have hg:=aV h2;generalize xs[u.length]=x at hg;have B:=x.toNat_lt;have a:(xs.map λx=> [PV.sc (.int .u8 x.toNat)])[u.length]?=some [.sc (.int .u8 x.toNat)]:=(by rw[bK,hg];rfl);refine aj (by omega) a rfl ?_;refine wb ?_<;>intros;refine aj (by omega) a rfl ?_;refine wb ?_<;>intros;have e1:(u++[flF n x]).length=u.length+1:=(by simp);exact sr_mark ⟨u++[flF n x],⟨by omega,by omega,⟨by rw[e1,oP,eU,<-hf.out,hg];rfl⟩⟩,by omega,vm [0,1,2,228]⟩
 all_goals
  refine sr_ghost 2 3 3 1 rfl rfl ?_;refine wl (λv:List Int=> [(1,.pv (ag n)),(2,.ptr 0 0),(4,.ptr 1 0),(5,.ptr 2 0),(7,.pv (ag v.length))]) (λv=> [some (.box [.pv (.sc (.int .u8 cap)),.pv (.sc (.int .u8 stop)),.pv (SS xs),.pv (SS ys)]),some (.box [.pv (ag 0),.emp,.pv (ag 0),.emp]),some (.box [.pv (ag c0),.own 3 u.length,.pv (ag stop),.own 4 v.length]),some (.row 68 2 (u.map Uk)),some (.row 3 1 (Wh v))]) (λv=>v.length<=ys.length/\v.length<=n/\Hd (v=(ys.take v.length).map cuF)) (λv=>ys.length-v.length) [] ⟨aG _,aG _,⟨rfl⟩⟩ (vm [0,1,2,3,84]) (λv ⟨H,D,hk⟩=>?_);refine wb (A2.mk ?_ (A2.mk ?_ ?_))<;>intros;have h2:v.length<ys.length:=(by omega);have hg:=aV h2;generalize ys[v.length]=x at hg;have B:=x.toNat_lt;have a:(ys.map λx=> [PV.sc (.int .u8 x.toNat)])[v.length]?=some [.sc (.int .u8 x.toNat)]:=(by rw[bK,hg];rfl);refine aj (by omega) a rfl ?_;refine wb ?_<;>intros;have e1:(v++[cuF x]).length=v.length+1:=(by simp);exact sr_mark ⟨v++[cuF x],⟨by omega,by omega,⟨by rw[e1,oP,eU,<-hk.out,hg];rfl⟩⟩,by omega,vm [0,1,2,3,157]⟩
  all_goals
   have I:=NZ G A (by omega);have J:=NZ H D (by omega);exact wt E (rw_ (plR ⟨c0,u,stop,v⟩)) [(3,none),(4,none)] (by rw[hf.out,hk.out,I,J,y.out];rfl)
end AM
namespace Go.Proofs.YtfbkkgfkhhibfaaGreat
open Go Go.RowKit Iv AM
theorem ahq:Xd:=by
 intro w n cap stop h1 h4 hc hs A1 n1 c1 B xs hx ZS D E A2 n2 c2 G ys L ZD H I;have l1:xs.length=n1:=(by have:=hx.1;rw[gy] at this;omega);have l2:ys.length=n2:=(by have:=L.1;rw[gy] at this;omega);unfold maxLen at D H;obtain⟨v0,g0,⟨rfl,-,rfl⟩,-,-,hO⟩:=(Qh n h1 h4 cap stop hc hs xs ys (by omega) (by omega)).2.2;refine (acG hO w (max B G) _ ⟨rfl,λj v d=>?_⟩).mono ?_
 . match j,d with
   |
    0,d=>
    injection d with d;subst d;refine⟨_,rfl,.agg (λj=>(#[.int .u8 (cap:Int),.int .u8 (stop:Int),.slice A1 n1 c1,.slice A2 n2 c2]:Array Value).getD j undef) rfl (λj V=>?_) (λj u a=>?_)⟩
    . have h4:j<4:=V;obtain rfl|rfl|rfl|rfl:j=0\/j=1\/j=2\/j=3:=(by omega);all_goals rfl
    . match j,a with
      |0,a=>injection a with a;subst a;exact .pv (.sc rfl)
      |1,a=>injection a with a;subst a;exact .pv (.sc rfl)
      |2,a=>injection a with a;subst a;exact .pv (uy (hx.more (Nat.le_max_left B G)) ZS E)
      |3,a=>injection a with a;subst a;exact .pv (uy (L.more (Nat.le_max_right B G)) ZD I)
   |1,d=>injection d with d;subst d;exact⟨_,rfl,.pv (.sc rfl)⟩
 rintro e w' ⟨r,v,g,Ψ,loc,rfl,⟨rfl,rfl⟩,d,y⟩;have N:=UF (cap:=cap) h1 hs xs ys;generalize ny n cap stop xs ys=p at d N|-
 cases d with
 |
  @agg _ us f hz hx' hr=>
  have e0:=(dK (hr 0 _ rfl)).1;have X:=(dK (hr 2 _ rfl)).1;obtain⟨Af,cf,e1,hF⟩:∃A c,f 1= .slice A p.flushes.length c/\Fls w' w'.heap.size A p.flushes.length p.flushes:=by
   have:=hr 1 _ rfl
   cases this with
   |pv h=>exact aaT y h
  obtain⟨O,U,Y,Z⟩:∃A c,f 3= .slice A p.cuts.length c/\Lies w' w'.heap.size 1 A p.cuts.length (p.cuts.map iv):=by
   have:=hr 3 _ rfl
   cases this with
   |pv h=>exact Qi y h
  have J:us=zV p Af p.flushes.length cf O p.cuts.length U:=(by refine Cb (by rw[hz];rfl) (λj h1 h2=>?_);have h3:j<4:=h2;have q:=hx' j h3;rw[zG h1] at q;injection q with q;rw[q];obtain rfl|rfl|rfl|rfl:j=0\/j=1\/j=2\/j=3:=(by omega);exact e0;exact e1;exact X;exact Y);subst J;exact⟨Af,cf,O,U,rfl,N,hF,Z,LM y⟩
