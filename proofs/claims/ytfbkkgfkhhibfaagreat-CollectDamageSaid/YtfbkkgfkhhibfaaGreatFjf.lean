/- Words. -/
import Derived.Test.YtfbkkgfkhhibfaaGreatFu
set_option linter.unusedVariables false
set_option linter.unusedSimpArgs false
namespace AM
open Go Go.Proofs Mk
set_option maxRecDepth 20000
set_option maxHeartbeats 8000000
def ajD:Nat->List (Nat×Nat):=λi=>if i=5 then [(8,11),(9,11)] else if i=18 then [(1,3),(1,7),(3,7),(4,7),(5,7),(1,9),(3,9),(4,9),(5,9),(7,9),(1,10),(3,10),(4,10),(5,10),(1,11),(3,11),(4,11),(5,11)] else if i=20 then [(1,4),(2,4),(1,6),(2,6),(4,6),(1,7),(2,7),(1,8),(2,8)] else if i=10 then [(1,4),(2,4),(1,6),(2,6),(4,6),(1,7),(2,7),(1,8),(2,8),(1,10),(2,10),(4,10),(6,10),(7,10),(8,10),(1,12),(2,12),(4,12),(6,12),(7,12),(8,12),(10,12),(1,13),(2,13),(4,13),(6,13),(7,13),(8,13),(1,14),(2,14),(4,14),(6,14),(7,14),(8,14)] else if i=11 then [(1,3),(1,7),(3,7),(4,7),(5,7),(1,9),(3,9),(4,9),(5,9),(7,9),(1,10),(3,10),(4,10),(5,10),(1,11),(3,11),(4,11),(5,11)] else if i=22 then [(1,3),(1,5),(3,5),(1,7),(3,7),(5,7),(1,11),(3,11),(5,11),(7,11),(5,12),(7,12),(5,13),(7,13)] else []
theorem afC (a:Int)(h:6<=a/\a<=18):FnEq Tryz.prog 164 [.pv (ah a)] (.pv (ah a)):=by have:=Ov a (by omega);rwa [if_neg (by omega)] at this
theorem Y7 (b:Nat)(hb:b<=400)(i:In)(pc:Int)(r:Nat)(ev:Int)(hr:r<=5)(hp:0<=pc/\pc<=1000)(hs:1<=i.op/\i.op<=5)(h3:i.op≠3)(h4:i.op=4->6<=i.n/\i.n<=18)(hn:i64 i.n)(hg:∀q∈regsI i,0<=q/\q<(r:Int)):
 FnEq Tryz.prog 137 [rw_ i.r,rw_ (Y8 b pc r r ev)] (.tup [rw_ (Y8 b (if i.op=5 then i.a else pc+1) r r ev),.pv (boolP true)]):=by
 obtain⟨op,d,u,D,B,E⟩:=i;dsimp only at hs h3 h4 hn|-;refine wf Tryz.func137 ajD (h:=λR I=>?_);refine wb ?_<;>intros;refine wE (jD ⟨op,d,u,D,B,E⟩) ?_;have U:=nG ⟨op,d,u,D,B,E⟩;refine wb ?_<;>intros;refine wl (λj:Nat=> [(2,.ptr 0 0),(3,.ptr 1 0),(4,.ptr 2 0),(6,.pv (.sl (XK (regsI ⟨op,d,u,D,B,E⟩)))),(7,.pv (ah j))]) (λ_=> [some (.box ((In.r ⟨op,d,u,D,B,E⟩).map .pv)),some (.box ((Y8 b pc r r ev).map .pv)),some (.box [.pv (ah 0),.emp,.emp,.pv (ah 0)])]) (λj=>j<=(regsI ⟨op,d,u,D,B,E⟩).length) (λj=>(regsI ⟨op,d,u,D,B,E⟩).length-j) 0 (ay _) (vm [0,8,16]) (λj hj=>?_);refine wb (A2.mk ?_ (A2.mk ?_ (A2.mk ?_ (A2.mk ?_ ?_))))<;>intros;have G:j<(regsI ⟨op,d,u,D,B,E⟩).length:=(by omega);have hq:=hg _ (eu G);refine aJ (x:=(regsI ⟨op,d,u,D,B,E⟩)[j]) (by omega) (by simp[G]) rfl ?_;refine wb ?_<;>intros;refine aJ (x:=(regsI ⟨op,d,u,D,B,E⟩)[j]) (by omega) (by simp[G]) rfl ?_;refine wb ?_<;>intros;exact aj ⟨j+1,G,by omega,vm [0,1,2]⟩;rw[if_pos (by assumption)] at I;exact wr I;rw[if_neg (by assumption)] at I;have e1:op=1:=(by assumption);have L:=hg d (by subst e1;simp[regsI]);refine And.intro L (And.intro hn ?_);refine wb ?_<;>intros;exact wr I;rw[if_neg (by assumption)] at I;have N:op=2:=(by assumption);have L:=hg d (by subst N;simp[regsI]);have O:=hg u (by subst N;simp[regsI]);refine And.intro O (iV λx hx=>?_);refine wb ?_<;>intros;refine jW λl1 H=>?_;have V:l1.length<=400:=aG H.len hb;refine wb ?_<;>intros;refine And.intro hx ?_;refine wb ?_<;>intros;refine And.intro (sQ H) ?_;refine wb ?_<;>intros;exact wr I
 . rw[if_neg (by assumption)] at I;have e4:op=4:=(by omega);have L:=hg d (by subst e4;simp[regsI]);have O:=hg u (by subst e4;simp[regsI]);have q3:=hg D (by subst e4;simp[regsI]);have n4:=h4 e4;refine wE (afC B n4) ?_;refine wb ?_<;>intros;refine iV λx hx=>?_;refine wb ?_<;>intros;refine iV λy X=>?_;refine wb ?_<;>intros;refine wG (Ql B x y hx X n4) (.tup [.pv (ah 0),.pv (boolP true)]) ⟨0,rH,rfl⟩ ?_;rintro v ⟨z,Y,rfl⟩;refine wb ?_<;>intros;refine jW λl1 H=>?_;refine wb ?_<;>intros;refine jW λl2 M=>?_;refine wb ?_<;>intros;refine wG (Nk b hb l1 H l2 M) (.pv (.sl (nL []))) ⟨[],⟨List.Pairwise.nil,λn hn=>nomatch hn⟩,rfl⟩ ?_;rintro v ⟨l3,J,rfl⟩;have Z:l3.length<=400:=aG J.len hb;refine wb ?_<;>intros;refine And.intro Y ?_;refine wb ?_<;>intros;refine And.intro (sQ J) ?_;refine wb ?_<;>intros;exact wr I
set_option maxRecDepth 20000
set_option maxHeartbeats 8000000
structure TsK (m:Int)(x:Int×Nat×Nat×Int):Prop where
 pc:i64 x.1
 r:x.2.1<=5
 s:x.2.2.1<=5
 e0:0<=x.2.2.2
 e1:x.2.2.2<=m
@[go_sem] def MV (b:Nat)(x:Int×Nat×Nat×Int):List PV:=Y8 b x.1 x.2.1 x.2.2.1 x.2.2.2
theorem Xm (n t:Nat)(ss:List (Nat×Nat))(E:Nat)(l:List In)(G:GoodC n ss t E l)(hm:∀i∈l,NumI i)(b:Nat)(hb:b<=400)(x:Int×Nat×Nat×Int)(m:Int)(hx:TsK m x):
 kS Tryz.prog 101 [rw_ [ah E,.sl (l.map In.r)],rw_ (MV b x)] (λv=>∃y ok,TsK m y/\v= .tup [rw_ (MV b y),.pv (boolP ok)]):=by obtain⟨pc,r,s,ev⟩:=x;obtain⟨U,D,Y,I,J⟩:=hx;dsimp only at U D Y I J;have Z:=G.r1;have hlen:=G.len;have L:TsK m (0,0,0,0):=⟨rH,ay _,ay _,qJ _,Int.le_trans I J⟩;refine wf Tryz.func101 (λ_=> []) (h:=λR H=>?_);refine wb (A2.mk ?_ (A2.mk ?_ ?_))<;>intros;(all_goals try exact wt H (.tup [rw_ (MV b (0,0,0,0)),.pv (boolP false)]) [] ⟨_,_,L,rfl⟩);have er:r=E:=(by omega);have es:s=E:=(by omega);subst er es;refine wE (Pn b b (ak b) hb pc s s ev D D) ?_;refine wb ?_<;>intros;refine wl (λu:Nat×Int=> [(2,.ptr 0 0),(3,.ptr 1 0),(4,.ptr 2 0),(6,.pv (ah u.1))]) (λu=> [some (.box [.pv (ah s),.pv (.sl (l.map In.r))]),some (.box ((Y8 b u.2 s s ev).map .pv)),some (.box [.pv (ah 0),.emp,.emp,.pv (ah 0)])]) (λu=>u.1<=l.length+1/\i64 u.2) (λu=>l.length+1-u.1) (0,pc) ⟨ay _,U⟩ (vm [0,8,16]) (λ⟨k,t⟩ ⟨hk,V⟩=>?_);dsimp only at hk V;refine wb (A2.mk ?_ (A2.mk ?_ (A2.mk ?_ ?_)))<;>intros;(all_goals try exact wt H (.tup [rw_ (MV b (0,0,0,0)),.pv (boolP false)]) [] ⟨_,_,L,rfl⟩);have q:t.toNat<l.length:=(by omega);have d:=aX q;have B:=hm l[t.toNat] (eu q);have hg:(l.map In.r)[t.toNat]?=some (l[t.toNat]).r:=(by simp[q]);generalize l[t.toNat]=i at B hg d;have a6:=G.op _ _ d;have X:=G.obj _ _ d;have M:=G.jmp _ _ d;have N:=G.regs _ _ d;refine az (by omega) hg rfl ?_;refine wb ?_<;>intros;refine wE (IC i.op) ?_;refine wb (A2.mk ?_ (A2.mk ?_ ?_))<;>intros;exact wt H (.tup [rw_ (MV b (0,0,0,0)),.pv (boolP false)]) [] ⟨_,_,L,rfl⟩;rename_i hx a7;simp only[dH,gX] at hx;have O:i64 i.n:=dQ.2 (by have:=B.1;have:=B.2;omega);refine wE (Y7 b hb i t s ev D (by omega) hx X.o3 X.o4 O N) ?_;refine wb ?_<;>intros;refine aj ⟨(k+1,if i.op=5 then i.a else t+1),⟨by omega,?_⟩,by dsimp only;omega,vm [0,1,2]⟩;dsimp only;split;rename_i h5;obtain⟨z,z1,z2⟩:=M h5;exact dQ.2 (by omega);exact dQ.2 (by omega);exact wt H (.tup [rw_ (MV b (t,s,s,ev)),.pv (boolP true)]) [] ⟨_,_,⟨V,D,D,I,J⟩,rfl⟩
set_option maxRecDepth 20000
set_option maxHeartbeats 8000000
structure CdG (n:Nat)(ss:List (Nat×Nat))(cs:List (Int×List In)):Prop where
 n1:1<=n
 n4:n<=4
 s60:ss.length<=60
 so:SiteOk n ss
 val:FnEq Tryz.prog 41 [rw_ (coR n ss cs)] (.pv (boolP true))
 len:cs.length=n
 good:∀(k:Nat) r l,cs[k]?=some (r,l)->GoodC n ss k r l
 num:∀(k:Nat) r l,cs[k]?=some (r,l)->∀i∈l,NumI i
@[go_sem] def su (n:Nat)(tx:Int)(m:Nat)(xs:List (Int×Nat×Nat×Int)):List PV:=[.tr lkC 3,ah tx,.tr [.bool] 1,.tr thC n,.tr [.int .i64] 5,.tr [.int .i64] 1,.sl (xs.map (MV m))]
@[go_sem] def ts0 (p:Int×List In):Int×Nat×Nat×Int:=(0,p.1.toNat,p.1.toNat,0)
@[go_sem] theorem ajJ:(dU Tryz.prog 2).bind yH=some [.int .i64]:=by kernel_rfl
@[go_sem] theorem amU:(dU Tryz.prog 37).bind yH=some [.asc 0]:=by kernel_rfl
def ao5:Nat->List (Nat×Nat):=λi=>if i=7 then [(1,4),(1,6),(1,8)] else if i=15 then [(1,3),(1,5),(1,7),(1,10),(3,10),(5,10),(7,10),(1,12),(3,12),(5,12),(7,12),(1,14),(3,14),(5,14),(7,14)] else []
attribute [local go_sem] rep Int.toNat_natCast thNames_len List.length_range List.length_map List.set_cons_zero List.set_cons_succ List.map_append List.length_append List.map_cons List.map_nil List.length_singleton
theorem Vz (n:Nat)(ss:List (Nat×Nat))(cs:List (Int×List In))(C:CdG n ss cs):FnEq Tryz.prog 43 [rw_ (coR n ss cs)] (rw_ (su n (-1) 0 (cs.map ts0))):=by
 obtain⟨n1,n4,s60,so,val,len,good,num⟩:=C;refine wf Tryz.func43 ao5 (h:=λR B=>?_);refine wb ?_<;>intros;refine wE val ?_;refine wb ?_<;>intros;refine wE (VX n ss n4) ?_;refine wb ?_<;>intros;refine dI 72 4 2 1 rfl rfl ?_;refine dI 72 5 2 1 rfl rfl ?_;refine dI 72 6 169 4 rfl rfl ?_;refine wn 6 ?_;refine wb ?_<;>intros;(iterate 5 (refine az (by omega) rfl rfl ?_;refine wb ?_<;>intros));refine wn 2 ?_;refine wb ?_<;>intros;refine wl (λu:List (Int×Nat×Nat×Int)=> [(1,.ptr 0 0),(2,.ptr 1 0),(3,.ptr 2 0),(6,.pv (ah u.length))]) (λu=> [some (.box ((coR n ss cs).map .pv)),some (.box [.emp,.pv (ah 0),.emp,.emp,.emp,.emp,.emp]),some (.box [.pv (.tr lkC 3),.pv (ah (-1)),.pv (.tr [.bool] 1),.pv (.tr thC n),.pv (.tr [.int .i64] 5),.pv (.tr [.int .i64] 1),.own 3 u.length]),some (.row 169 4 (u.map (MV 0)))]) (λu=>u.length<=cs.length/\Hd (u=(cs.map ts0).take u.length)) (λu=>cs.length-u.length) [] ⟨ay _,⟨rfl⟩⟩ (vm [0,8,72,98] [(931,some [.int .i64]),(1107,some [.int .i64])]) (λu ⟨hk,d⟩=>?_);refine wb (A2.mk ?_ ?_)<;>intros
 . have h2:u.length<cs.length:=(by omega);have hg:=aX h2;have a:=good u.length cs[u.length].1 cs[u.length].2 hg;generalize cs[u.length]=x at hg a;obtain⟨r,l⟩:=x;have q:=a.r0;have y:=a.r1;dsimp only at q y;obtain⟨r,rfl⟩:=Hf (Int.le_trans (by decide:(0:Int)<=2) q);(iterate 2 (refine aJ (x:=((r:Int),l)) (by omega) (by simpa using hg) rfl ?_;refine wb ?_<;>intros));have e1:(u++[ts0 ((r:Int),l)]).length=u.length+1:=(by simp);exact aj ⟨u++[ts0 ((r:Int),l)],⟨by omega,⟨by rw[e1,wP,<-d.out,bM,hg];rfl⟩⟩,by omega,vm [0,1,2,188]⟩
 have e1:u.length=(cs.map ts0).length:=(by rw[iG];omega);have d:=d.out;rw[e1,rX] at d;subst d;exact wr B [(3,none)]
end AM
namespace AM
open Go Go.Proofs Mk
set_option maxRecDepth 20000
set_option maxHeartbeats 8000000
def FitT (r:Int)(l:List In)(x:Int×Nat×Nat×Int):Prop:=0<=x.1/\x.1<l.length/\(x.2.1:Int)=r/\(x.2.2.1:Int)=r
def amr (cs:List (Int×List In))(xs:List (Int×Nat×Nat×Int))(n:Nat):Prop:=∀(k:Nat) r l x,k<n->cs[k]?=some (r,l)->xs[k]?=some x->FitT r l x
def ams:Nat->List (Nat×Nat):=λ_=> [(5,7),(5,9),(5,11),(17,20),(17,22),(17,24),(29,32),(29,34),(29,36)]
theorem XV (n:Nat)(ss:List (Nat×Nat))(cs:List (Int×List In))(C:CdG n ss cs)(tx:Int)(m:Nat)(xs:List (Int×Nat×Nat×Int))(Y:xs.length=n)(hx:∀x∈xs,TsK m x):kS Tryz.prog 127 [rw_ (coR n ss cs),rw_ (su n tx m xs)] (J9 (amr cs xs n)):=by
 obtain⟨n1,n4,s60,so,val,len,good,num⟩:=C;have B:=OA n ss n4 tx;refine wf Tryz.func127 ams (h:=λR D=>?_);refine wb ?_<;>intros;refine wE val ?_;refine wb ?_<;>intros;refine wE B ?_;refine wb ?_<;>intros;(all_goals try exact wt D (.pv (boolP false)) [] ⟨_,rfl,λh=>by cases h⟩);refine wl (λk:Nat=> [(2,.ptr 0 0),(3,.ptr 1 0),(5,.pv (ah k))]) (λk=> [some (.box ((coR n ss cs).map .pv)),some (.box ((su n tx m xs).map .pv))]) (λk=>k<=n/\amr cs xs k) (λk=>n-k) 0 ⟨ay _,λk r l x h=>absurd h (Nat.not_lt_zero k)⟩ (vm [0,8]) (λk ⟨hk,hf⟩=>?_);refine wb (A2.mk ?_ ?_)<;>intros
 . have h2:k<cs.length:=(by omega);have h3:k<xs.length:=(by omega);have hg:=aX h2;have u:=aX h3;have I:=hx _ (eu h3);have q:=good k cs[k].1 cs[k].2 hg;generalize xs[k]=x at u I;generalize cs[k]=y at hg q;obtain⟨pc,r,s,ev⟩:=x;obtain⟨J,l⟩:=y;obtain⟨L,M,N,O,U⟩:=I;have E:=q.r0;have G:=q.r1;have hlen:=q.len;dsimp only at L M N O U E G hlen;have H:(cs.map tcR)[k]?=some (tcR (J,l)):=(by rw[bM,hg];rfl);refine aJ (x:=(pc,r,s,ev)) (by omega) (by simpa using u) rfl ?_;refine wb (A2.mk ?_ ?_)<;>intros
   iterate 3
    (all_goals try exact wt D (.pv (boolP false)) [] ⟨_,rfl,λh=>by cases h⟩);all_goals try (refine az (by omega) H rfl ?_;refine wb (A2.mk ?_ ?_)<;>intros)
   (all_goals try exact wt D (.pv (boolP false)) [] ⟨_,rfl,λh=>by cases h⟩);refine aj ⟨k+1,⟨by omega,λj V l' X Z a d=>?_⟩,by omega,vm [0,1]⟩;rcases zB j k with hjk|hjk;exact hf j V l' X hjk a d;obtain rfl:j=k:=(by omega);rw[hg] at a;rw[u] at d;injection a with a;injection a with e1 e2;injection d with d;subst e1 e2 d;exact⟨by dsimp only;omega,by dsimp only;omega,by assumption,by assumption⟩
 exact wt D (.pv (boolP true)) [] ⟨_,rfl,λ_=>by obtain rfl:k=n:=(by omega);exact hf⟩
set_option maxRecDepth 20000
set_option maxHeartbeats 8000000
def akJ:Nat->List (Nat×Nat):=λi=>if i=1 then [(1,4),(1,5),(1,8),(4,8),(5,8),(1,9),(1,11),(4,11),(5,11),(8,11),(9,11)] else if i=5 then [(1,3),(1,5),(1,7),(1,10),(3,10),(5,10),(7,10),(1,12),(3,12),(5,12),(7,12),(1,14),(3,14),(5,14),(7,14),(1,15),(3,15),(5,15),(7,15)] else []
@[go_sem] def lsR (x:Int×List Nat):List PV:=[ah x.1,.sl (nL x.2)]
theorem ZK {u:List (Int×List Nat)}(h:∀x∈u,i64 x.1/\Asc 400 x.2):oV lkC (u.map lsR):=by intro row hr;obtain⟨x,hx,rfl⟩:=iK.1 hr;exact⟨⟨_,(h x hx).1,rfl⟩,sQ (h x hx).2,trivial⟩
attribute [local go_sem] List.set_cons_zero List.set_cons_succ List.map_append List.length_append List.map_cons List.map_nil List.length_singleton
theorem Nj (n:Nat)(tx:Int)(hn:n<=4):FnEq Tryz.prog 131 [rw_ (Dx n tx)] (rw_ (Dx n tx)):=by
 refine wf Tryz.func131 akJ (h:=λR q=>?_);refine wb ?_<;>intros;refine dI 104 0 231 2 rfl rfl ?_;refine wl (λu:List (Int×List Nat)=> [(1,.ptr 0 0),(2,.ptr 1 0),(3,.ptr 2 0),(4,.pv (ah u.length))]) (λu=> [some (.box ((Dx n tx).map .pv)),some (.box [.emp,.pv (ah 0),.emp,.emp]),some (.box [.own 3 u.length,.pv (ah tx),.pv (.tr [.bool] 1),.pv (.tr thC n)]),some (.row 231 2 (u.map lsR))]) (λu=>u.length<=3/\∀x∈u,i64 x.1/\Asc 400 x.2) (λu=>3-u.length) [] ⟨ay _,λ_ h=>nomatch h⟩ (vm [0,8,104,128]) (λu ⟨D,hx⟩=>?_);refine wb (A2.mk ?_ ?_)<;>intros
 . refine iV λh y=>?_;refine wb ?_<;>intros;refine jW λl d=>?_;have B:=d.len;refine wb ?_<;>intros
   exact aj ⟨u++[(h,l)],⟨by rw[aY];simp only[qg];omega,λm hm=>by
    rcases ja.1 hm with hm|hm;exact hx m hm
    . rw[lM.1 hm];exact⟨y,d⟩⟩,by rw[aY];simp only[qg];omega,vm [0,1,2,188]⟩
 have a:u.length=3:=(by omega);exact wr q [(3,some lkC)] (hf:=by refine ws ?_;exact⟨by simp,ZK hx⟩) (hE:=by refine ws ?_;rw[a];exact⟨rfl,rfl⟩)
end AM
namespace AM
open Go Go.Proofs Mk
set_option maxRecDepth 20000
set_option maxHeartbeats 8000000
@[go_sem] def ady (n:Nat)(tx:Int)(q k:Nat):List AV:=[.pv (.tr lkC 3),.pv (ah tx),.pv (.tr [.bool] 1),.pv (.tr thC n),.pv (.tr [.int .i64] 5),.pv (.tr [.int .i64] 1),.own q k]
def arS:Nat->List (Nat×Nat):=λi=>if i=1 then [(1,5),(2,5),(1,9),(2,9),(5,9),(6,9),(1,12),(2,12),(5,12),(6,12),(9,12),(10,12)] else if i=5 then [(1,3),(1,5),(1,6),(1,7)] else []
attribute [local go_sem] List.set_cons_zero List.set_cons_succ List.map_append List.length_append List.map_cons List.map_nil List.length_singleton
theorem aaX (n:Nat)(hn:n<=4)(tx:Int)(m a:Nat)(hm:m<=a)(h4:a<=400)(xs:List (Int×Nat×Nat×Int))(B:xs.length<=4)(hx:∀x∈xs,x.2.1<=5/\x.2.2.1<=5):ACall Tryz.prog 100 [rw_ (su n tx m xs)] [] (λv g=>v= .agg (ady n tx 0 xs.length)/\g=[some (.row 169 4 (xs.map (MV a)))]):=by refine wz Tryz.func100 arS (h:=λR y=>?_);refine wb ?_<;>intros;refine wE (Nj n tx hn) ?_;refine wb ?_<;>intros;refine dI 112 6 169 4 rfl rfl ?_;refine wl (λu:List (Int×Nat×Nat×Int)=> [(1,.ptr 0 0),(2,.ptr 1 0),(3,.ptr 2 0),(4,.pv (ah u.length))]) (λu=> [some (.box ((su n tx m xs).map .pv)),some (.box [.emp,.pv (ah 0),.emp,.emp,.emp,.emp,.emp]),some (.box (ady n tx 3 u.length)),some (.row 169 4 (u.map (MV a)))]) (λu=>u.length<=xs.length/\Hd (u=xs.take u.length)) (λu=>xs.length-u.length) [] ⟨ay _,⟨rfl⟩⟩ (vm [0,8,112,136]) (λu ⟨hk,d⟩=>?_);refine wb (A2.mk ?_ ?_)<;>intros;have h2:u.length<xs.length:=(by omega);have hg:=aX h2;have q:=hx _ (eu h2);generalize xs[u.length]=x at hg q;obtain⟨pc,r,s,ev⟩:=x;dsimp only at q;refine aJ (x:=(pc,r,s,ev)) (by omega) (by simpa using hg) rfl ?_;refine wb ?_<;>intros;refine wE (Pn m a hm h4 pc r s ev q.1 q.2) ?_;refine wb ?_<;>intros;have e1:(u++[(pc,r,s,ev)]).length=u.length+1:=(by simp);exact aj ⟨u++[(pc,r,s,ev)],⟨by omega,⟨by rw[e1,wP,<-d.out,hg];rfl⟩⟩,by omega,vm [0,1,2,116]⟩;have e1:u.length=xs.length:=(by omega);have d:=d.out;rw[e1,rX] at d;subst d;refine wo y (.agg (ady n tx 0 u.length)) [some (.row 169 4 (u.map (MV a)))] [3] [] ⟨rfl,rfl⟩
end AM
namespace AM
open Go Go.Proofs Mk
set_option maxRecDepth 20000
set_option maxHeartbeats 8000000
def bz:Option AV->Prop
 |some (.pv (.sc (.bool _)))=>True
 |_=>False
@[go_sem] theorem amS {z:Bool} :bz (some (.pv (.sc (.bool z))))=True:=rfl
theorem afG {x:Option AV}(h:bz x):∃z,x=some (.pv (boolP z)):=by unfold bz at h;split at h;exact⟨_,rfl⟩;exact h.elim
theorem wtB {P:Program}{us:Nat->List (Nat×Nat)}{nt nx t:Nat}{R:Env->Sto->Prop}{hm:P.follows .mixedOrders=true}{k:List It}{c:Code}{env:Env}{σ:Sto}{p:Prop}(hR:∀env σ,mr P 0 [.tmp t] (λv g=>g=[]/\v.lb 0=true/\J9 p v) env σ->R env σ)(hp:p)(hE:bz (env t):=by ((try clear hR);exact we))(hc:Ij c=true:=by rfl):sr ⟨P,us,nt,0,R,hm⟩ (.code c::k) env σ nx:=by obtain⟨z,hz⟩:=afG hE;exact wt hR (.pv (boolP z)) [] ⟨z,rfl,λ_=>hp⟩ (hf:=trivial) (hE:=by simp[rA,hz,wk,Gx]) (hc:=hc)
def ajI:Nat->List (Nat×Nat):=λi=>if i=8 then [(11,13),(11,15),(11,17)] else if i=34 then [(1,3),(1,5),(1,7)] else []
attribute [local go_sem] thNames_len
theorem Qs (n:Nat)(hn:n<=4)(ss:List (Nat×Nat))(tx t k o:Int)(D:i64 tx):kS Tryz.prog 130 [rw_ (qL n ss),rw_ (Dx n tx),.pv (ah t),.pv (ah k),.pv (ah o)] (J9 ((0<=t/\t<n)/\NmOk n k o)):=by
 refine wf Tryz.func130 ajI (h:=λR u=>?_);refine wb ?_<;>intros;refine wE (OA n ss hn tx) ?_;refine wb ?_<;>intros;refine wE (Eu t n) ?_;refine wb (A2.mk ?_ ?_)<;>intros;(all_goals try exact wt u (.pv (boolP false)) [] ⟨_,rfl,λh=>by cases h⟩);refine wF (Ze n hn ss k o) ?_;rintro v ⟨z,rfl,E⟩;refine wb (A2.mk ?_ ?_)<;>intros;(all_goals try exact wt u (.pv (boolP false)) [] ⟨_,rfl,λh=>by cases h⟩);rename_i hx y;simp only[dH,gX] at hx;have H:=E y;have h2:=H.c;have h3:=H.l;have h4:=H.d;have h5:=H.t;have L:=H.f;refine And.intro hx ?_;refine wb ?_<;>intros;refine iV λM G=>?_;refine iV λI J=>?_;refine C9 λN=>?_;refine wb (A2.mk ?_ (A2.mk ?_ (A2.mk ?_ (A2.mk ?_ (A2.mk ?_ (A2.mk ?_ (A2.mk ?_ (A2.mk ?_ (A2.mk ?_ (A2.mk ?_ (A2.mk ?_ (A2.mk ?_ (A2.mk ?_ (A2.mk ?_ (A2.mk ?_ (A2.mk ?_ (A2.mk ?_ (A2.mk ?_ (A2.mk ?_ (A2.mk ?_ (A2.mk ?_ (A2.mk ?_ (A2.mk ?_ (A2.mk ?_ ?_))))))))))))))))))))))))<;>intros;all_goals try exact wtB u ⟨hx,H⟩
 all_goals try (first
  |(refine iV λx _=>?_;(first|(refine wb ?_<;>intros)|(refine wb (A2.mk ?_ ?_)<;>intros)))
  |(refine C9 λx=>?_;refine wb ?_<;>intros)
  |(have e0:o=0:=h4 (by omega);subst e0;refine az (by omega) rfl rfl ?_;refine wb ?_<;>intros)
  |(refine jW λl a=>?_;have q:=a.len;refine wF (Jg 400 (ak _) l a t) ?_;rintro v ⟨B,rfl,_⟩;refine wb ?_<;>intros)
  |(refine jW λl a=>?_;have q:=a.len;skip))
 all_goals try exact wtB u ⟨hx,H⟩
 all_goals try (first
  |(refine iV λx _=>?_;refine wb ?_<;>intros)
  |(refine C9 λx=>?_;skip)
  |(have e0:o=0:=h4 (by omega);subst e0;refine az (by omega) rfl rfl ?_;skip)
  |(refine jW λl a=>?_;have q:=a.len;refine wF (Jg 400 (ak _) l a t) ?_;rintro v ⟨B,rfl,_⟩;refine wb ?_<;>intros)
  |(refine jW λl a=>?_;have q:=a.len;refine wb ?_<;>intros))
 all_goals try exact wtB u ⟨hx,H⟩
 all_goals try (first
  |(refine iV λx _=>?_;skip)
  |(refine C9 λx=>?_;skip)
  |(have e0:o=0:=h4 (by omega);subst e0;refine az (by omega) rfl rfl ?_;skip)
  |(refine jW λl a=>?_;have q:=a.len;refine wF (Jg 400 (ak _) l a t) ?_;rintro v ⟨B,rfl,_⟩;skip)
  |(refine jW λl a=>?_;have q:=a.len;skip))
 all_goals try exact wtB u ⟨hx,H⟩
end AM
namespace AM
open Go Go.Proofs Mk
set_option maxRecDepth 20000
set_option maxHeartbeats 8000000
def ApQ (n:Nat)(t k o:Int)(r:AV):Prop:=(∃tx v,r= .tup [rw_ (Dx n tx),.pv (ah v),.pv (boolP true)]/\i64 tx/\i64 v/\(0<=t/\t<n)/\NmOk n k o)\/r= .tup [rw_ [.sl [],ah 0,.sl [],.sl []],.pv (ah 0),.pv (boolP false)]
theorem aeT {n:Nat}{t k o:Int} :ApQ n t k o (.tup [rw_ [.sl [],ah 0,.sl [],.sl []],.pv (ah 0),.pv (boolP false)]):= .inr rfl
theorem kL {n:Nat}{t k o:Int}(h1:0<=t/\t<n)(h2:NmOk n k o){tx v:Int}(h:i64 tx)(a:i64 v):ApQ n t k o (.tup [rw_ (Dx n tx),.pv (ah v),.pv (boolP true)]):= .inl ⟨_,_,rfl,h,a,h1,h2⟩
def aol:Nat->List (Nat×Nat):=λi=>if i=17 then [(1,4),(1,6),(1,8),(1,11)] else if i=19 then [(1,4),(1,6),(1,8),(1,10)] else if i=29 then [(1,3),(1,5),(1,7)] else if i=30 then [(1,4),(4,7),(4,9)] else if i=32 then [(1,3),(1,5),(1,7)] else if i=33 then [(1,4),(4,6),(4,8)] else if i=48 then [(1,4),(1,5)] else []
attribute [local go_sem] thNames_len
theorem VD (n:Nat)(hn:n<=4)(ss:List (Nat×Nat))(tx t k o w:Int)(a:i64 tx):kS Tryz.prog 99 [rw_ (qL n ss),rw_ (Dx n tx),.pv (ah t),.pv (ah k),.pv (ah o),.pv (ah w)] (ApQ n t k o):=by
 refine wf Tryz.func99 aol (h:=λR q=>?_);refine wb ?_<;>intros;refine wF (Qs n hn ss tx t k o a) ?_;rintro v ⟨z,rfl,L⟩;refine wb (A2.mk ?_ ?_)<;>intros;(all_goals try exact wt q (.tup [rw_ [.sl [],ah 0,.sl [],.sl []],.pv (ah 0),.pv (boolP false)]) [] aeT);rename_i D;obtain⟨hx,H⟩:=L D;obtain⟨t,rfl⟩:=Hf hx.1;have h2:=H.c;have h3:=H.l;have h4:=H.d;have h5:=H.t;have U:=H.f;have u:=rH;have J:i64 (-1):=dQ.2 (by omega);have M:i64 t:=dQ.2 (by omega);refine wE (Nj n tx hn) ?_;refine wb (A2.mk ?_ (A2.mk ?_ (A2.mk ?_ (A2.mk ?_ (A2.mk ?_ (A2.mk ?_ (A2.mk ?_ (A2.mk ?_ (A2.mk ?_ (A2.mk ?_ (A2.mk ?_ (A2.mk ?_ (A2.mk ?_ (A2.mk ?_ (A2.mk ?_ (A2.mk ?_ (A2.mk ?_ (A2.mk ?_ ?_))))))))))))))))))<;>intros;(all_goals try exact wt q (.tup [rw_ (Dx n tx),.pv (ah 0),.pv (boolP true)]) [] (kL hx H a u));(all_goals try exact wt q (.tup [rw_ (Dx n t),.pv (ah 0),.pv (boolP true)]) [] (kL hx H M u));(all_goals try exact wt q (.tup [rw_ (Dx n (-1)),.pv (ah 0),.pv (boolP true)]) [] (kL hx H J u));refine jW λl y=>?_;have E:=y.len;have h1:Asc 400 [t]:=⟨Qu _ _,λm hm=>by rw[lM.1 hm];omega⟩;refine wG (Nk 400 (ak _) l y [t] h1) (.pv (.sl (nL l))) ⟨l,y,rfl⟩ ?_;rintro v ⟨m,hm,rfl⟩;refine wb ?_<;>intros;refine And.intro (sQ hm) ?_;refine wb ?_<;>intros;exact wt q (.tup [rw_ (Dx n tx),.pv (ah 0),.pv (boolP true)]) [] (kL hx H a u);refine jW λl y=>?_;have E:=y.len;refine wG (Qv 400 (ak _) l y t) (.pv (.sl (nL l))) ⟨l,y,rfl⟩ ?_;rintro v ⟨m,hm,rfl⟩;refine wb ?_<;>intros;refine And.intro (sQ hm) ?_;refine wb ?_<;>intros;exact wt q (.tup [rw_ (Dx n tx),.pv (ah 0),.pv (boolP true)]) [] (kL hx H a u);obtain rfl:o=0:=h4 (by omega);refine az (by omega) rfl rfl ?_;refine wb ?_<;>intros;exact wt q (.tup [rw_ (Dx n tx),.pv (ah 0),.pv (boolP true)]) [] (kL hx H a u);obtain rfl:o=0:=h4 (by omega);refine az (by omega) rfl rfl ?_;refine wb ?_<;>intros;exact wt q (.tup [rw_ (Dx n tx),.pv (ah 0),.pv (boolP true)]) [] (kL hx H a u)
 . refine wF (Dy n hn tx o) ?_;rintro v ⟨ws,hw,rfl⟩;have G:ws.length<=4:=aG hw.len (by omega);refine wb (A2.mk ?_ ?_)<;>intros;(all_goals try exact wt q (.tup [rw_ (Dx n tx),.pv (ah (-1)),.pv (boolP true)]) [] (kL hx H a J));have h0:0<ws.length:=(by omega);have N:=hw.2 _ (eu h0);refine aJ (x:=ws[0]) (by omega) (by simp[h0]) rfl ?_;refine wb ?_<;>intros;refine wF (Jg 400 (ak _) ws (hw.weak (by omega)) w) ?_;rintro v ⟨V,rfl,I⟩;refine wb (A2.mk ?_ ?_)<;>intros;obtain⟨m,hm,rfl⟩:=I (by assumption);have O:=hw.2 m hm;refine wb ?_<;>intros;exact wt q (.tup [rw_ (Dx n tx),.pv (ah m),.pv (boolP true)]) [] (kL hx H a (dQ.2 (by omega)));exact wt q (.tup [rw_ (Dx n tx),.pv (ah (ws[0]:Nat)),.pv (boolP true)]) [] (kL hx H a (dQ.2 (by omega)))
 refine wF (Dy n hn tx o) ?_;rintro v ⟨ws,hw,rfl⟩;have G:ws.length<=4:=aG hw.len (by omega);refine wb ?_<;>intros;refine wl (λj:Nat=> [(7,.ptr 0 0),(12,.ptr 1 0),(18,.pv (.sl (nL ws))),(19,.pv (ah j))]) (λ_=> [some (.box ((Dx n tx).map .pv)),some (.box [.emp,.pv (ah 0),.emp,.emp])]) (λj=>j<=ws.length) (λj=>ws.length-j) 0 (ay _) (vm [8,16]) (λj X=>?_);refine wb (A2.mk ?_ ?_)<;>intros;have B:j<ws.length:=(by omega);have N:=hw.2 _ (eu B);refine aJ (x:=ws[j]) (by omega) (by simp[B]) rfl ?_;refine wb ?_<;>intros;exact aj ⟨j+1,B,by omega,vm [0,1]⟩;exact wt q (.tup [rw_ (Dx n tx),.pv (ah ws.length),.pv (boolP true)]) [] (kL hx H a (dQ.2 (by omega)))
end AM
namespace AM
open Go Go.Proofs Mk
set_option maxRecDepth 20000
set_option maxHeartbeats 8000000
structure EvA where
 thread:Int
 kind:Int
 obj:Int
 value:Int
 site:Int
 deps:List Nat
 fr:List Nat
@[go_sem] def EvA.r (e:EvA):List PV:=[ah e.thread,ah e.kind,ah e.obj,ah e.value,ah e.site,.sl (nL e.deps),.sl (nL e.fr)]
structure PnG (n:Nat)(cs:List (Int×List In))(m:Nat)(xs:List (Int×Nat×Nat×Int))(t:Nat)(e:EvA)(r:Nat)(l:List In)(x:Int×Nat×Nat×Int)(i:In):Prop where
 tn:t<n
 hc:cs[t]?=some ((r:Int),l)
 hx:xs[t]?=some x
 fit:FitT r l x
 hi:l[x.1.toNat]?=some i
 th:e.thread=t
 obj:i64 e.obj
 kd:e.kind=1\/e.kind=17\/e.kind=kdF i.op
 k0:e.kind≠0
 site: -1<=e.site/\e.site<=60
 dp:Asc m e.deps
 frm:Asc m e.fr
def PnQ (n:Nat)(cs:List (Int×List In))(m:Nat)(xs:List (Int×Nat×Nat×Int))(t:Int)(v:AV):Prop:=∃e ok,v= .tup [rw_ (EvA.r e),.pv (boolP ok)]/\(ok=true->∃t' r l x i,t=((t':Nat):Int)/\PnG n cs m xs t' e r l x i)
theorem Qk {n:Nat}{cs:List (Int×List In)}{m:Nat}{xs:List (Int×Nat×Nat×Int)}{t:Int}{e:EvA} :PnQ n cs m xs t (.tup [rw_ (EvA.r e),.pv (boolP false)]):=⟨_,_,rfl,λh=>by cases h⟩
def aog:Nat->List (Nat×Nat):=λi=>if i=4 then [(1,7),(3,7),(5,7),(1,10),(3,10),(5,10),(7,10),(8,10),(9,10)] else if i=11 then [(2,8),(4,8),(6,8)] else if i=14 then [(1,3),(2,3),(1,4),(2,4),(3,4)] else if i=19 then [(1,3),(1,5),(3,5),(1,6),(1,7)] else if i=22 then [(1,3),(1,5),(3,5),(1,6),(1,7)] else if i=24 then [(1,3),(1,5),(3,5),(1,6),(1,7)] else []
theorem MX (n:Nat)(ss:List (Nat×Nat))(cs:List (Int×List In))(C:CdG n ss cs)(tx:Int)(m:Nat)(hm:m<=400)(xs:List (Int×Nat×Nat×Int))(hl:xs.length=n)(hx:∀x∈xs,TsK m x)(t:Int):kS Tryz.prog 98 [rw_ (coR n ss cs),rw_ (su n tx m xs),.pv (ah t)] (PnQ n cs m xs t):=by
 have O:=XV n ss cs C tx m xs hl hx;obtain⟨n1,n4,s60,so,val,len,good,num⟩:=C;refine wf Tryz.func98 aog (h:=λR E=>?_);refine wb ?_<;>intros;refine wF O ?_;rintro v ⟨z,rfl,hz⟩;refine wb (A2.mk ?_ (A2.mk ?_ (A2.mk ?_ ?_)))<;>intros;(all_goals try exact wt E (.tup [rw_ (EvA.r ⟨0,0,0,0,0,[],[]⟩),.pv (boolP false)]) [] Qk);rename_i V al an;obtain⟨t,rfl⟩:=Hf (by omega:0<=t);have h2:t<cs.length:=(by omega);have h3:t<xs.length:=(by omega);have hg:=aX h2;have G:=aX h3;have hq:=hx _ (eu h3);have u:=good t cs[t].1 cs[t].2 hg;have J:=num t cs[t].1 cs[t].2 hg;have L:=hz V t cs[t].1 cs[t].2 xs[t] (by omega) hg G;generalize xs[t]=x at G hq L;generalize cs[t]=y at hg u L J;obtain⟨pc,r,s,ev⟩:=x;obtain⟨rr,l⟩:=y;obtain⟨x1,x2,x3,x4,x5⟩:=hq;obtain⟨X,f2,f3,f4⟩:=L;dsimp only at x1 x2 x3 x4 x5 X f2 f3 f4 u J;obtain⟨p,rfl⟩:=Hf X;subst f3;obtain rfl:s=r:=(by omega);have U:p<l.length:=(by omega);have B:=aX U;have hlen:=u.len;have M:=J l[p] (eu U);generalize l[p]=i at B M;have Y:(cs.map tcR)[t]?=some (tcR ((s:Int),l)):=(by rw[bM,hg];rfl);have Z:(l.map In.r)[p]?=some i.r:=(by rw[bM,B];rfl);have a6:=u.op p i B;have XW:=u.obj p i B;have a7:=u.site p i B;have a8:=u.jmp p i B;have H:=u.regs p i B;have D: -1<=i.site/\i.site<=60:=(by rcases a7 with ⟨_,h⟩|⟨_,q,m',h,h'⟩;omega;have:=(dD.1 h').1;omega);have aa:i.op=5->0<=i.a/\i.a<=1000:=(λh=>by obtain⟨k,e1,e2⟩:=a8 h;omega);have ab:i64 i.n:=dQ.2 (by have:=M.1;have:=M.2;omega);have I:∀e:EvA,e.thread=t->i64 e.obj->(e.kind=1\/e.kind=17\/e.kind=kdF i.op)->e.kind≠0-> -1<=e.site/\e.site<=60->Asc m e.deps->Asc m e.fr->PnQ n cs m xs t (.tup [rw_ (EvA.r e),.pv (boolP true)]):=λe e1 e2 e3 e4 e5 e6 e7=>⟨e,true,rfl,λ_=>⟨t,s,l,(p,s,s,ev),i,rfl,⟨by omega,hg,G,⟨X,f2,rfl,rfl⟩,B,e1,e2,e3,e4,e5,e6,e7⟩⟩⟩;have im:i64 (-1):=dQ.2 (by decide);have rA:i.op=10->0<=i.a/\i.a<s:=λh=>H i.a (by simp[regsI,h]);have rC:i.op=7\/i.op=9->0<=i.c/\i.c<s:=λh=>H i.c (by rcases h with h|h<;>simp[regsI,h]);have rB:i.op=8\/i.op=9\/i.op=26->0<=i.b/\i.b<s:=λh=>H i.b (by rcases h with h|h|h<;>simp[regsI,h]);have a0:Asc m []:=⟨List.Pairwise.nil,λ_ h=>nomatch h⟩;refine aJ (x:=((p:Int),s,s,ev)) (by omega) (by simpa using G) rfl ?_;refine wb ?_<;>intros;refine az (by omega) Y rfl ?_;refine wb ?_<;>intros;refine az (by omega) Z rfl ?_;refine wb ?_<;>intros;refine iV λst ao=>?_;refine wb (A2.mk ?_ (A2.mk ?_ (A2.mk ?_ ?_)))<;>intros;exact wt E (.tup [rw_ (EvA.r ⟨t,1,-1,0,-1,[],[]⟩),.pv (boolP true)]) [] (I ⟨t,1,-1,0,-1,[],[]⟩ rfl im (.inl rfl) (λh=>by cases h) ⟨qJ _,by show (-1:Int)<=60;decide⟩ a0 a0);refine iV λco ad=>?_;refine wb ?_<;>intros;exact wt E (.tup [rw_ (EvA.r ⟨t,17,co,0,i.site,[],[]⟩),.pv (boolP true)]) [] (I ⟨t,17,co,0,i.site,[],[]⟩ rfl ad (.inr (.inl rfl)) (λh=>by cases h) D a0 a0)
 . refine wE (abL i.op (dQ.2 (by omega))) ?_;have aq:=Vw i.op;refine wb ?_<;>intros;refine wG (Vx n n4 i a6 XW aa ab m p s x2 H ev) (.pv (ah 0)) ⟨0,rH,rfl⟩ ?_;rintro v ⟨o,ho,rfl⟩;refine wb (A2.mk ?_ (A2.mk ?_ (A2.mk ?_ (A2.mk ?_ (A2.mk ?_ (A2.mk ?_ ?_))))))<;>intros;all_goals try exact wt E (.tup [rw_ (EvA.r ⟨0,0,0,0,0,[],[]⟩),.pv (boolP false)]) [] Qk
   all_goals try
    refine jW λd N=>?_;have ar:d.length<=400:=aG N.len hm;refine wb ?_<;>intros
   exact wt E (.tup [rw_ (EvA.r ⟨t,kdF i.op,o,0,i.site,d,[]⟩),.pv (boolP true)]) [(656,none)] (I ⟨t,kdF i.op,o,0,i.site,d,[]⟩ rfl ho (.inr (.inr rfl)) (by assumption) D N a0);exact wt E (.tup [rw_ (EvA.r ⟨t,kdF i.op,o,0,i.site,d,[]⟩),.pv (boolP true)]) [(672,none)] (I ⟨t,kdF i.op,o,0,i.site,d,[]⟩ rfl ho (.inr (.inr rfl)) (by assumption) D N a0);refine jW λf hf=>?_;have av:f.length<=400:=aG hf.len hm;refine wb ?_<;>intros;exact wt E (.tup [rw_ (EvA.r ⟨t,kdF i.op,o,0,i.site,d,f⟩),.pv (boolP true)]) [(688,none),(880,none)] (I ⟨t,kdF i.op,o,0,i.site,d,f⟩ rfl ho (.inr (.inr rfl)) (by assumption) D N hf);exact wt E (.tup [rw_ (EvA.r ⟨t,kdF i.op,o,0,i.site,[],d⟩),.pv (boolP true)]) [(792,none)] (I ⟨t,kdF i.op,o,0,i.site,[],d⟩ rfl ho (.inr (.inr rfl)) (by assumption) D a0 N);exact wt E (.tup [rw_ (EvA.r ⟨t,kdF i.op,o,0,i.site,[],d⟩),.pv (boolP true)]) [(792,none)] (I ⟨t,kdF i.op,o,0,i.site,[],d⟩ rfl ho (.inr (.inr rfl)) (by assumption) D a0 N);exact wt E (.tup [rw_ (EvA.r ⟨t,kdF i.op,o,0,i.site,[],[]⟩),.pv (boolP true)]) [] (I ⟨t,kdF i.op,o,0,i.site,[],[]⟩ rfl ho (.inr (.inr rfl)) (by assumption) D a0 a0)
 exact wt E (.tup [rw_ (EvA.r ⟨0,0,0,0,0,[],[]⟩),.pv (boolP false)]) [] Qk
set_option maxRecDepth 20000
set_option maxHeartbeats 8000000
structure EvG (n m:Nat)(e:EvA):Prop where
 th:0<=e.thread/\e.thread<n
 kd:1<=e.kind/\e.kind<=23
 obj:i64 e.obj
 val:i64 e.value
 site: -1<=e.site/\e.site<=60
 dp:Asc m e.deps
 frm:Asc m e.fr
@[go_sem] def acd:List PV:=[.sl [],ah 0,.sl [],.sl [],.sl [],.sl [],.sl []]
@[go_sem] def ace:EvA:=⟨0,0,0,0,0,[],[]⟩
def al0 (n m:Nat)(v:AV):Prop:=(∃tx xs e,v= .tup [rw_ (su n tx (m+1) xs),rw_ (EvA.r e),.pv (boolP true)]/\i64 tx/\xs.length=n/\(∀x∈xs,TsK ((m+1:Nat):Int) x)/\EvG n m e)\/v= .tup [rw_ acd,rw_ (EvA.r ace),.pv (boolP false)]
theorem adw {op k:Int}(h:kdF op=k)(h0:k≠0):(k=3->op=6\/op=7)/\(k=4->op=8\/op=9)/\(k=5->op=10)/\(k=22->op=26)/\(k=23->op=27):=by unfold kdF at h;split at h;exact absurd h.symm h0;have ho:op=(op-6).toNat+6:=(by omega);have a:(op-6).toNat<23:=(by omega);generalize (op-6).toNat=q at h ho a;subst ho h;have:=(by decide:∀q<23,(XJ.getD q 0=3->q=0\/q=1)/\(XJ.getD q 0=4->q=2\/q=3)/\(XJ.getD q 0=5->q=4)/\(XJ.getD q 0=22->q=20)/\(XJ.getD q 0=23->q=21)) q a;omega
theorem Vb {M:Nat}{xs:List (Int×Nat×Nat×Int)}{t:Nat}(x:Int×Nat×Nat×Int):(xs.map (MV M)).modify t (λrow=>ah x.1 :: .tr [.int .i64] x.2.1 :: .tr [.asc M] x.2.2.1::ah x.2.2.2::row.drop 4)=(xs.set t x).map (MV M):=by
 refine Ku λj=>?_;rw[QN,bM,bM,SI];by_cases h:t=j
 . subst h
   cases hx:xs[t]? with
   |
    none=>
    have:=List.getElem?_eq_none_iff.1 hx;simp[Nat.not_lt.2 this]
   |
    some y=>
    have:=(dD.1 hx).1;simp[this,MV,Y8]
 simp[h]
def arI:Nat->List (Nat×Nat):=λi=>if i=10 then [(1,3),(1,8),(3,8),(4,8),(6,8),(1,11),(3,11),(4,11),(6,11),(8,11),(9,11),(10,11)] else if i=39 then [(1,3),(1,6),(3,6),(4,6),(5,6)] else if i=41 then [(0,1),(1,2)] else []
theorem YJ (n:Nat)(ss:List (Nat×Nat))(cs:List (Int×List In))(C:CdG n ss cs)(tx:Int)(O:i64 tx)(m:Nat)(hm:m+1<=400)(xs:List (Int×Nat×Nat×Int))(hl:xs.length=n)(hx:∀x∈xs,TsK m x)(t w:Int):kS Tryz.prog 66 [rw_ (coR n ss cs),rw_ (su n tx m xs),rw_ [ah t,ah w]] (al0 n m):=by
 have U:=MX n ss cs C tx m (by omega) xs hl hx t;have V:=aaX n C.n4 tx m (m+1) (by omega) hm xs (by have:=C.n4;omega) (λx h=>⟨(hx x h).r,(hx x h).s⟩);obtain⟨n1,n4,s60,so,val,len,good,num⟩:=C;refine wf Tryz.func66 arI (h:=λR N=>?_);refine wb ?_<;>intros;refine wF U ?_;rintro v ⟨e,ok,rfl,hp⟩;refine wb (A2.mk ?_ ?_)<;>intros;(all_goals try exact wt N (.tup [rw_ acd,rw_ (EvA.r ace),.pv (boolP false)]) [] (.inr rfl));rename_i X;obtain⟨t,r,l,x,i,rfl,tn,hc,I,fit,hi,th,obj,kd,k0,site,dp,frm⟩:=hp X;refine wF (VD n n4 ss tx t e.kind e.obj w O) ?_;rintro v (⟨D,v,rfl,Y,hv,-,H⟩|rfl);rotate_left;refine wb ?_<;>intros;exact wt N (.tup [rw_ acd,rw_ (EvA.r ace),.pv (boolP false)]) [] (.inr rfl);refine wb ?_<;>intros;have Z:=hx x (gU I);have d:=good t r l hc;have a6:=num t r l hc;obtain⟨pc,r',s,ev⟩:=x;obtain⟨x1,x2,x3,x4,x5⟩:=Z;obtain⟨f1,f2,f3,f4⟩:=fit;dsimp only at x1 x2 x3 x4 x5 f1 f2 f3 f4 hi;obtain⟨p,rfl⟩:=Hf f1;rw[xZ] at hi;obtain rfl:r'=r:=(by omega);obtain rfl:s=r':=(by omega);have aq:p<l.length:=(by omega);have hlen:=d.len;have J:(cs.map tcR)[t]?=some (tcR ((s:Int),l)):=(by rw[bM,hc];rfl);have a7:(l.map In.r)[p]?=some i.r:=(by rw[bM,hi];rfl);have a8:(xs.map (MV (m+1)))[t]?=some (MV (m+1) ((p:Int),s,s,ev)):=(by rw[bM,I];rfl);have ar:=d.op p i hi;have XW:=d.obj p i hi;have av:=d.jmp p i hi;have aa:=d.brn p i hi;have L:=d.regs p i hi;refine wq V [] ?_;rintro r' g ⟨rfl,rfl⟩;refine ws ?_;refine wb ?_<;>intros;refine JK a8 rfl ?_;refine wb ?_<;>intros;refine az (by omega) J rfl ?_;refine wb ?_<;>intros;refine az (by omega) a7 rfl ?_;refine ws ?_;refine And.intro (Lc (by kernel_rfl)) (And.intro (Lc (by kernel_rfl)) ?_);refine w0 ?_;refine wg ?_;refine wg ?_;refine iI rfl ?_;refine ws ?_;have hK:(e.kind=3->i.op=6\/i.op=7)/\(e.kind=4->i.op=8\/i.op=9)/\(e.kind=5->i.op=10)/\(e.kind=22->i.op=26)/\(e.kind=23->i.op=27):=(by rcases kd with h|h|h;omega;omega;exact adw h.symm k0);obtain⟨K3,K4,K5,aw,aD⟩:=hK;have rA:e.kind=3\/e.kind=5\/e.kind=23->0<=i.a/\i.a<s:=λh=>L i.a (by have:i.op=6\/i.op=7\/i.op=10\/i.op=27:=(by omega);rcases this with h|h|h|h<;>simp[regsI,h]);have rB:e.kind=4\/e.kind=22->0<=i.b/\i.b<s:=λh=>L i.b (by have:i.op=8\/i.op=9\/i.op=26:=(by omega);rcases this with h|h|h<;>simp[regsI,h]);have rJ:e.kind=5->0<=i.b/\i.b<=1000:=(λh=>by obtain⟨k,e1,e2⟩:=aa (K5 h);omega);have aL:=H.c;have aM:=H.f;have ab:=H.kd;have ip:i64 (p:Int):=dQ.2 (by omega);have i1:i64 1:=dQ.2 (by decide);have E:i64 ((p:Int)+1):=dQ.2 (by omega);refine jc (λu:Int×Int=> [(3,.ptr 0 0),(4,.ptr 1 0),(5,.ptr 2 0),(6,.ptr 3 0),(7,.ptr 4 0),(9,.ptr 5 0),(14,.ptr 6 0),(15,.ptr 7 0),(16,.pv (ah u.1))]) (λu=> [some (.box ((coR n ss cs).map .pv)),some (.box (ady n D 8 xs.length)),some (.box [.pv (ah t),.pv (ah w)]),some (.box [.emp,.pv (ah 0),.emp,.emp,.emp,.emp,.emp]),some (.box [.pv (ah 0),.pv (ah 0),.pv (ah 0),.pv (ah 0),.pv (ah 0),.emp,.emp]),some (.box ((EvA.r ⟨e.thread,e.kind,e.obj,u.2,e.site,e.deps,e.fr⟩).map .pv)),some (.box ((Y8 (m+1) p s s ev).map .pv)),some (.box (i.r.map .pv)),some (.row 169 4 (xs.map (MV (m+1))))]) (λu=>i64 u.1/\i64 u.2) ?_ (λ⟨nx,y⟩ ⟨M,hy⟩=>?_)
 . refine wb (A2.mk ?_ (A2.mk ?_ (A2.mk ?_ (A2.mk ?_ (A2.mk ?_ (A2.mk ?_ (A2.mk ?_ (A2.mk ?_ ?_))))))))<;>intros;(all_goals try exact aj ⟨((p:Int),v),⟨ip,hv⟩,vm [0,8,16,24,32,112,432,536,344]⟩);all_goals try exact aj ⟨((p:Int)+1,v),⟨E,hv⟩,vm [0,8,16,24,32,112,432,536,344]⟩
   iterate 2
    refine iV λz G=>?_;refine wb ?_<;>intros;exact aj ⟨((p:Int)+1,z),⟨E,G⟩,vm [0,8,16,24,32,112,432,536,344]⟩
   iterate 2
    refine iV λz G=>?_;refine wb ?_<;>intros;refine And.intro G ?_;refine wb ?_<;>intros;exact aj ⟨((p:Int)+1,z),⟨E,G⟩,vm [0,8,16,24,32,112,432,536,344]⟩
   refine iV λz G=>?_;refine wb (A2.mk ?_ ?_)<;>intros;exact aj ⟨(i.b,0),⟨dQ.2 (by omega),rH⟩,vm [0,8,16,24,32,112,432,536,344]⟩;exact aj ⟨((p:Int)+1,1),⟨E,i1⟩,vm [0,8,16,24,32,112,432,536,344]⟩
 dsimp only at M hy;have hT:TsK ((m+1:Nat):Int) (nx,s,s,ev+1):=⟨M,x2,x2,by dsimp only;omega,by dsimp only;omega⟩;have G:TsK ((m+1:Nat):Int) (0,0,0,0):=⟨rH,ay _,ay _,qJ _,by dsimp only;omega⟩;have ad:EvG n m ⟨e.thread,e.kind,e.obj,y,e.site,e.deps,e.fr⟩:=⟨by dsimp only;omega,ab,obj,hy,site,dp,frm⟩;have al:∀B:Int×Nat×Nat×Int,TsK ((m+1:Nat):Int) B->∀x∈xs.set t B,TsK ((m+1:Nat):Int) x:=(λB h x hm=>by rcases List.mem_or_eq_of_mem_set hm with hm|rfl;have:=hx x hm;exact⟨this.pc,this.r,this.s,this.e0,by have:=this.e1;omega⟩;exact h);have hQ:∀B:Int×Nat×Nat×Int,TsK ((m+1:Nat):Int) B->al0 n m (.tup [rw_ (su n D (m+1) (xs.set t B)),rw_ (EvA.r ⟨e.thread,e.kind,e.obj,y,e.site,e.deps,e.fr⟩),.pv (boolP true)]):=λB h=> .inl ⟨_,_,_,rfl,Y,by rw[zQ];exact hl,al B h,ad⟩;obtain⟨ev,rfl⟩:=Hf x4;have an:Asc (m+1) [ev]:=⟨Qu _ _,λq Z=>by rw[lM.1 Z];omega⟩;refine wb (A2.mk ?_ (A2.mk ?_ (A2.mk ?_ (A2.mk ?_ ?_))))<;>intros
 all_goals try
  refine And.intro hy ?_;refine wb ?_<;>intros;refine And.intro (sQ an) ?_;refine wb ?_<;>intros
 all_goals try
  refine az (by omega) J rfl ?_;refine wb ?_<;>intros;refine wG (Xm n t ss s l d a6 (m+1) hm (nx,s,s,(ev:Int)+1) ((m+1:Nat):Int) hT) (.tup [rw_ (MV (m+1) (0,0,0,0)),.pv (boolP false)]) ⟨_,_,G,rfl⟩ ?_;rintro v ⟨B,aR,ao,rfl⟩;refine wb ?_<;>intros;exact wt N (.tup [rw_ (su n D (m+1) (xs.set t B)),rw_ (EvA.r ⟨e.thread,e.kind,e.obj,y,e.site,e.deps,e.fr⟩),.pv (boolP true)]) [(8,none)] (hQ B ao) (hE:=by refine ws ?_;exact⟨jY (λz=>some (PV.sl z)) (Vb B),zQ⟩)
 all_goals exact wt N (.tup [rw_ (su n D (m+1) (xs.set t (nx,s,s,(ev:Int)+1))),rw_ (EvA.r ⟨e.thread,e.kind,e.obj,y,e.site,e.deps,e.fr⟩),.pv (boolP true)]) [(8,none)] (hQ (nx,s,s,(ev:Int)+1) hT) (hE:=by refine ws ?_;exact⟨jY (λz=>some (PV.sl z)) (Vb (nx,s,s,(ev:Int)+1)),zQ⟩)
