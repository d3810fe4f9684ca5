/- Words. -/
import Derived.Test.YtfbkkgfkhhibfaaGreatFje
import Derived.Test.YtfbkkgfkhhibfaaGreatFze
import Derived.Test.YtfbkkgfkhhibfaaGreatFits
set_option linter.unusedVariables false
set_option linter.unusedSimpArgs false
set_option maxRecDepth 20000
set_option maxHeartbeats 8000000
namespace AM
open Go Go.Proofs Mk
@[go_sem] def Gh (s:St)(a b c:Nat):List AV:=[.pv (.sl s.y.a),.pv (ag s.tx),.pv (.sl s.y.b),.pv (.sl s.y.c),.own a s.cl.length,.own b s.fu.length,.own c s.xs.length]
@[go_sem] def akh (s:St):List Obj:=[.row 2 1 s.cl,.row 2 1 s.fu,.row 169 4 (s.xs.map yf)]
def aki:Nat->List (Nat×Nat):=λi=>if i=1 then [(1,5),(2,5),(1,9),(2,9),(5,9),(6,9),(1,12),(2,12),(5,12),(6,12),(9,12),(10,12)] else if i=5 then [(1,3),(1,5),(1,6),(1,7)] else []
attribute [local go_sem] List.set_cons_zero List.set_cons_succ List.map_append List.length_append List.map_cons List.map_nil List.length_singleton
theorem Zu (n:Nat)(hn:n<=4)(m:Nat)(h4:m<=400)(s:St)(hs:StK n m s):ACall Tryz.prog 100 [rw_ (oh s)] [] (λv g=>v= .agg (Gh s 0 1 2)/\g=(akh s).map some):=by have B:=hs.len;have h1:=hs.cl.1;have h2:=hs.fu.1;refine wz Tryz.func100 aki (h:=λR A=>?_);refine wb ?_<;>intros;refine wQ (BV n s.y hs.y s.tx hn) [] ⟨rfl,rfl⟩ ?_;rintro r g ⟨rfl,rfl⟩;refine wb ?_<;>intros;refine And.intro (hs.cl.ap (by omega)) ?_;refine wb ?_<;>intros;refine And.intro (hs.fu.ap (by omega)) ?_;refine wb ?_<;>intros;refine sr_ghost 112 6 169 4 rfl rfl ?_;refine wl (λu:List Ts=> [(1,.ptr 0 0),(2,.ptr 1 0),(3,.ptr 2 0),(4,.pv (ag u.length))]) (λu=> [some (.box ((oh s).map .pv)),some (.box [.emp,.pv (ag 0),.emp,.emp,.emp,.emp,.emp]),some (.box (Gh ⟨s.y,s.tx,s.cl,s.fu,u⟩ 3 4 5)),some (.row 2 1 s.cl),some (.row 2 1 s.fu),some (.row 169 4 (u.map yf))]) (λu=>u.length<=s.xs.length/\Hd (u=s.xs.take u.length)) (λu=>s.xs.length-u.length) [] ⟨aG _,⟨rfl⟩⟩ (vm [0,8,112,64,96,136] [(32,none),(33,none),(34,none)]) (λu ⟨hk,a⟩=>?_);refine wb (A2.mk ?_ ?_)<;>intros;have h2:u.length<s.xs.length:=(by omega);have hg:=aV h2;have d:=hs.xs _ (dm h2);generalize s.xs[u.length]=x at hg d;refine aB (x:=x) (by omega) (by simpa using hg) rfl ?_;refine wb ?_<;>intros;refine wE (zk m h4 x d) ?_;refine wb ?_<;>intros;have e1:(u++[x]).length=u.length+1:=(by simp);exact sr_mark ⟨u++[x],⟨by omega,⟨by rw[e1,oP,<-a.out,hg];rfl⟩⟩,by omega,vm [0,1,2,3,4,118]⟩;have e1:u.length=s.xs.length:=(by omega);have a:=a.out;rw[e1,oQ] at a;subst a;exact wo A (.agg (Gh s 0 1 2)) ((akh s).map some) [3,4,5] [] ⟨rfl,rfl⟩
def TL (th:Nat)(u:List Ts):List (List PV):=(u.map yf).set th (List.replicate 4 (.sl []))
@[go_sem] theorem amo {th:Nat}{u:List Ts} :(TL th u).length=u.length:=by simp[TL]
theorem acb {th:Nat}{u:List Ts}{x:Ts}(h:u.length=th):TL th (u++[x])=u.map yf++[List.replicate 4 (.sl [])]:=by subst h;unfold TL;rw[eU,YI _ _ (by simp)];simp
theorem acd {th:Nat}{u:List Ts}{x:Ts}(h:th<u.length):TL th (u++[x])=TL th u++[yf x]:=by unfold TL;rw[eU,List.set_append_left _ _ (by simpa using h)];rfl
@[go_sem] def opC (x:Ts)(a b:Nat):List AV:=[.pv (ag x.pc),.own a x.re.length,.own b x.te.length,.pv (ag x.ev)]
theorem VI (n:Nat)(hn:n<=4)(m:Nat)(h4:m<=400)(s:St)(hs:StK n m s)(th:Nat)(a:Ts)(G:s.xs[th]?=some a):ACall Tryz.prog 100 [rw_ (oh s)] [] (λv g=>v= .agg (Gh s 0 1 2)/\g=[some (.row 2 1 s.cl),some (.row 2 1 s.fu),some (.rov 169 4 (TL th s.xs) th (opC a 3 4)),some (.row 2 1 a.re),some (.row 37 1 a.te)]):=by
 have L:=hs.len;have h1:=hs.cl.1;have h2:=hs.fu.1;refine wz Tryz.func100 aki (h:=λR H=>?_);refine wb ?_<;>intros;refine wQ (BV n s.y hs.y s.tx hn) [] ⟨rfl,rfl⟩ ?_;rintro r g ⟨rfl,rfl⟩;refine wb ?_<;>intros;refine And.intro (hs.cl.ap (by omega)) ?_;refine wb ?_<;>intros;refine And.intro (hs.fu.ap (by omega)) ?_;refine wb ?_<;>intros;have I:=(bV.1 G).1;refine sr_ghost 112 6 169 4 rfl rfl ?_
 refine wl (λu:Bool×List Ts=> [(1,.ptr 0 0),(2,.ptr 1 0),(3,.ptr 2 0),(4,.pv (ag u.2.length))]) (λu=>match u.1 with
  |false=> [some (.box ((oh s).map .pv)),some (.box [.emp,.pv (ag 0),.emp,.emp,.emp,.emp,.emp]),some (.box (Gh ⟨s.y,s.tx,s.cl,s.fu,u.2⟩ 3 4 5)),some (.row 2 1 s.cl),some (.row 2 1 s.fu),some (.row 169 4 (u.2.map yf)),none,none]
  |true=> [some (.box ((oh s).map .pv)),some (.box [.emp,.pv (ag 0),.emp,.emp,.emp,.emp,.emp]),some (.box (Gh ⟨s.y,s.tx,s.cl,s.fu,u.2⟩ 3 4 5)),some (.row 2 1 s.cl),some (.row 2 1 s.fu),some (.rov 169 4 (TL th u.2) th (opC a 6 7)),some (.row 2 1 a.re),some (.row 37 1 a.te)]) (λu=>u.2.length<=s.xs.length/\Hd (u.2=s.xs.take u.2.length)/\(u.1=false->u.2.length<=th)/\(u.1=true->th<u.2.length)) (λu=>s.xs.length-u.2.length) (false,[]) ⟨aG _,⟨rfl⟩,λ_=>aG _,λh=>by cases h⟩ (vm [0,8,112,64,96,136,136,136] [(32,none),(33,none),(34,none)]) (λ⟨q,u⟩ ⟨hk,D,B,d⟩=>?_)
 dsimp only at hk D B d;have hx:∀h2:u.length<s.xs.length,∀x,s.xs[u.length]?=some x->Hd (u++[x]=s.xs.take (u++[x]).length):=λh2 x hg=>⟨by rw[bG,Io,oP,<-D.out,hg];rfl⟩
 cases q
 have B:=B rfl;dsimp only;refine wb ?_<;>intros;have h2:u.length<s.xs.length:=(by omega);have hg:=aV h2;have E:=hs.xs _ (dm h2);generalize s.xs[u.length]=x at hg E;have e1:(u++[x]).length=u.length+1:=(by simp);have A:=hx h2 x hg;refine aB (x:=x) (by omega) (by simpa using hg) rfl ?_;refine wb ?_<;>intros;by_cases J:u.length=th;subst J;obtain rfl:x=a:=(by rw[G] at hg;injection hg with hg;exact hg.symm);refine wQ (Oa m h4 x E) [] ⟨rfl,rfl⟩ ?_;rintro r g ⟨rfl,rfl⟩;refine wb ?_<;>intros;refine sr_mark ⟨(true,u++[x]),⟨by dsimp only;omega,A,(λh=>by cases h),λ_=>by dsimp only;omega⟩,by dsimp only;omega,?_⟩;dsimp only;rw[acb rfl];exact vm [0,1,2,3,4,120,104,105];refine wE (zk m h4 x E) ?_;refine wb ?_<;>intros;exact sr_mark ⟨(false,u++[x]),⟨by dsimp only;omega,A,(λ_=>by dsimp only;omega),(λh=>by cases h)⟩,by dsimp only;omega,vm [0,1,2,3,4,120,6,7]⟩;have d:=d rfl;dsimp only;refine wb (A2.mk ?_ ?_)<;>intros;have h2:u.length<s.xs.length:=(by omega);have hg:=aV h2;have E:=hs.xs _ (dm h2);generalize s.xs[u.length]=x at hg E;have e1:(u++[x]).length=u.length+1:=(by simp);have A:=hx h2 x hg;refine aB (x:=x) (by omega) (by simpa using hg) rfl ?_;refine wb ?_<;>intros;refine wE (zk m h4 x E) ?_;refine wb ?_<;>intros;refine sr_mark ⟨(true,u++[x]),⟨by dsimp only;omega,A,(λh=>by cases h),λ_=>by dsimp only;omega⟩,by dsimp only;omega,?_⟩;dsimp only;rw[acd d];exact vm [0,1,2,3,4,120,6,7];have e1:u.length=s.xs.length:=(by omega);have D:=D.out;rw[e1,oQ] at D;subst D;exact wo H (.agg (Gh s 0 1 2)) [some (.row 2 1 s.cl),some (.row 2 1 s.fu),some (.rov 169 4 (TL th s.xs) th (opC a 3 4)),some (.row 2 1 a.re),some (.row 37 1 a.te)] [3,4,5,6,7] [] ⟨rfl,rfl⟩
end AM
namespace AM
open Go Go.Proofs Mk
structure EvG (n m:Nat)(e:EvA):Prop where
 th:0<=e.thread/\e.thread<n
 kd:1<=e.kind/\e.kind<=23
 obj:i64 e.obj
 val:i64 e.value
 site: -1<=e.site/\e.site<=60
 dp:Asc m e.deps
 frm:Asc m e.fr
@[go_sem] def Xz:List PV:=[.sl [],ag 0,.sl [],.sl [],.sl [],.sl [],.sl []]
@[go_sem] def XA:EvA:=⟨0,0,0,0,0,[],[]⟩
def afv (n m:Nat)(v:AV):Prop:=(∃s' e,v= .tup [rw_ (oh s'),rw_ (EvA.r e),.pv (boolP true)]/\StK n (m+1) s'/\EvG n m e)\/v= .tup [rw_ Xz,rw_ (EvA.r XA),.pv (boolP false)]
theorem Zt {n m:Nat} :afv n m (.tup [rw_ Xz,rw_ (EvA.r XA),.pv (boolP false)]):= .inr rfl
theorem ab2 {op k:Int}(h:kdF op=k)(h0:k≠0):(k=3->op=6\/op=7)/\(k=4->op=8\/op=9)/\(k=5->op=10)/\(k=22->op=26)/\(k=23->op=27):=by unfold kdF at h;split at h;exact absurd h.symm h0;have ho:op=(op-6).toNat+6:=(by omega);have a:(op-6).toNat<23:=(by omega);generalize (op-6).toNat=q at h ho a;subst ho h;have:=(by decide:∀q<23,(V9.getD q 0=3->q=0\/q=1)/\(V9.getD q 0=4->q=2\/q=3)/\(V9.getD q 0=5->q=4)/\(V9.getD q 0=22->q=20)/\(V9.getD q 0=23->q=21)) q a;omega
theorem ab3 {xs:List Ts}{t:Nat}(x:Ts):(TL t xs).set t (yf x)=(xs.set t x).map yf:=by simp[TL,List.map_set]
theorem TM {xs:List Ts}{t:Nat}(x:Ts):(xs.map yf).modify t (λrow=>ag x.pc :: .sl x.re :: .sl x.te::ag x.ev::row.drop 4)=(xs.set t x).map yf:=by
 refine Jv λj=>?_;rw[IE,bK,bK,Jk];by_cases h:t=j
 . subst h
   cases hx:xs[t]? with
   |
    none=>
    have:=List.getElem?_eq_none_iff.1 hx;simp[Nat.not_lt.2 this]
   |
    some y=>
    have:=(bV.1 hx).1;simp[this,yf]
 simp[h]
def apH:Nat->List (Nat×Nat):=λi=>if i=10 then [(1,3),(1,8),(3,8),(4,8),(6,8),(1,11),(3,11),(4,11),(6,11),(8,11),(9,11),(10,11)] else if i=39 then [(1,3),(1,6),(3,6),(4,6),(5,6)] else if i=41 then [(0,1),(1,2)] else []
attribute [local go_sem] List.length_modify Int.toNat_natCast
theorem Xy (n:Nat)(ss:List (Nat×Nat))(cs:List (Int×List In))(C:CdG n ss cs)(m:Nat)(hm:m+1<=400)(s:St)(hs:StK n m s)(t w:Int):kV Tryz.prog 66 [rw_ (coR n ss cs),rw_ (oh s),rw_ [ag t,ag w]] (afv n m):=by
 have a6:=Lp n ss cs C m (by omega) s hs t;have hl:=hs.len;have av:=hs.cl.1;have aw:=hs.fu.1;obtain⟨n1,n4,s60,so,val,len,good,num⟩:=C;refine wf Tryz.func66 apH (h:=λR J=>?_);refine wb ?_<;>intros;refine wF a6 ?_;rintro v ⟨e,ok,rfl,E⟩;refine wb (A2.mk ?_ ?_)<;>intros;(all_goals try exact wt J (.tup [rw_ Xz,rw_ (EvA.r XA),.pv (boolP false)]) [] Zt);rename_i a7;obtain⟨t,r,l,x,i,rfl,tn,hc,N,fit,hi,th,obj,kd,k0,site,dp,frm⟩:=E a7;refine wF (Ur n n4 ss s.y hs.y s.tx t e.kind e.obj w hs.tx) ?_;rintro v (⟨y,tx,v,rfl,hy,a8,hv,-,H⟩|rfl);rotate_left;refine wb ?_<;>intros;exact wt J (.tup [rw_ Xz,rw_ (EvA.r XA),.pv (boolP false)]) [] Zt;refine wb ?_<;>intros;have D:=hs.xs x (iC N);have A:=good t r l hc;have V:=num t r l hc;obtain⟨f1,f2,f3,f4⟩:=fit;have aD:x.pc.toNat<l.length:=(by omega);have hlen:=A.len;have aL:=A.op _ i hi;have Wx:=A.obj _ i hi;have aM:=A.jmp _ i hi;have aa:=A.brn _ i hi;have X:=A.regs _ i hi;have hK:(e.kind=3->i.op=6\/i.op=7)/\(e.kind=4->i.op=8\/i.op=9)/\(e.kind=5->i.op=10)/\(e.kind=22->i.op=26)/\(e.kind=23->i.op=27):=(by rcases kd with h|h|h;omega;omega;exact ab2 h.symm k0);have L:(cs.map tcR)[t]?=some (tcR ((r:Int),l)):=(by rw[bK,hc];rfl);have Y:(l.map In.r)[x.pc.toNat]?=some i.r:=(by rw[bK,hi];rfl);have ab:(s.xs.map yf)[t]?=some (yf x):=(by rw[bK,N];rfl);obtain⟨K3,K4,K5,aR,b0⟩:=hK;have er:x.re.length=r:=(by omega);have es:x.te.length=r:=(by omega);have b1:=D.r;have ad:=D.e0;have b2:=D.e1;have b3:=D.s;have rA:e.kind=3\/e.kind=5\/e.kind=23->0<=i.a/\i.a<r:=λh=>X i.a (by have:i.op=6\/i.op=7\/i.op=10\/i.op=27:=(by omega);rcases this with h|h|h|h<;>simp[regsI,h]);have rB:e.kind=4\/e.kind=22->0<=i.b/\i.b<r:=λh=>X i.b (by have:i.op=8\/i.op=9\/i.op=26:=(by omega);rcases this with h|h|h<;>simp[regsI,h]);have rJ:e.kind=5->0<=i.b/\i.b<=1000:=(λh=>by obtain⟨k,e1,e2⟩:=aa (K5 h);omega);have b4:=H.c;have b5:=H.f;have al:=H.kd;have ip:i64 x.pc:=D.pc;have i1:i64 1:=bM.2 (by decide);have G:i64 (x.pc+1):=bM.2 (by omega);have an:∀B:Ts,TsK (m+1) B->∀z∈s.xs.set t B,TsK (m+1) z:=(λB h z d=>by rcases XV d with d|rfl;exact (hs.xs z d).weak (by omega);exact h);have ao:∀z:Int,i64 z->EvG n m ⟨e.thread,e.kind,e.obj,z,e.site,e.deps,e.fr⟩:=λz d=>⟨by dsimp only;omega,al,obj,d,site,dp,frm⟩;have hQ:∀(cl fu:List (List PV)) (z:Int) (B:Ts),TyR [.int .i64] 5 cl->TyR [.int .i64] 1 fu->i64 z->TsK (m+1) B->afv n m (.tup [rw_ (oh ⟨y,tx,cl,fu,s.xs.set t B⟩),rw_ (EvA.r ⟨e.thread,e.kind,e.obj,z,e.site,e.deps,e.fr⟩),.pv (boolP true)]):=λcl fu z B h1 h2 h3 h4=> .inl ⟨_,_,rfl,⟨hy,a8,h1,h2,by dsimp only;rw[Eh];exact hl,an B h4⟩,ao z h3⟩;by_cases I:e.kind=3\/e.kind=23
 . refine wq (VI n n4 m (by omega) s hs t x N) [] ?_;rintro r' g ⟨rfl,rfl⟩;refine ws ?_;refine wb ?_<;>intros;refine aj (by omega) L rfl ?_;refine wb ?_<;>intros;refine aj (by omega) Y rfl ?_;refine ws ?_;refine And.intro (y8 (by kernel_rfl)) (And.intro (y8 (by kernel_rfl)) ?_);refine w0 ?_;refine wg ?_;refine wg ?_;refine ig rfl ?_;refine ws ?_;have qa:=rA (by omega);refine iy (λ_:Int=> [(3,.ptr 0 0),(4,.ptr 1 0),(5,.ptr 2 0),(6,.ptr 3 0),(7,.ptr 4 0),(9,.ptr 5 0),(14,.ptr 6 0),(15,.ptr 7 0),(16,.pv (ag (x.pc+1)))]) (λz=> [some (.box ((coR n ss cs).map .pv)),some (.box (Gh ⟨y,tx,s.cl,s.fu,s.xs⟩ 8 9 10)),some (.box [.pv (ag t),.pv (ag w)]),some (.box [.emp,.pv (ag 0),.emp,.emp,.emp,.emp,.emp]),some (.box [.pv (ag 0),.pv (ag 0),.pv (ag 0),.pv (ag 0),.pv (ag 0),.emp,.emp]),some (.box ((EvA.r ⟨e.thread,e.kind,e.obj,z,e.site,e.deps,e.fr⟩).map .pv)),some (.box (opC x 11 12)),some (.box (i.r.map .pv)),some (.row 2 1 s.cl),some (.row 2 1 s.fu),some (.rov 169 4 (TL t s.xs) t (opC x 11 12)),some (.row 2 1 x.re),some (.row 37 1 x.te)]) (λz=>i64 z) ?_ (λz d=>?_)
   . refine wb (A2.mk ?_ ?_)<;>intros;(all_goals try (exfalso;clear J;omega));refine hs.cl.ld (by omega) (λps _ E=>?_);obtain⟨z,d,rfl⟩:=qw E;refine⟨_,rfl,?_⟩;refine wb ?_<;>intros;exact sr_mark ⟨z,d,vm [0,8,16,24,32,112,432,536,344,345,346,347,348]⟩;refine hs.fu.ld (by omega) (λps _ E=>?_);obtain⟨z,d,rfl⟩:=qw E;refine⟨_,rfl,?_⟩;refine wb ?_<;>intros;exact sr_mark ⟨z,d,vm [0,8,16,24,32,112,432,536,344,345,346,347,348]⟩
   obtain⟨ev,aq⟩:=Gp ad;have hT:TsK (m+1) ⟨x.pc+1,x.re.modify i.a.toNat λrow=>ag z::row.drop 1,x.te.modify i.a.toNat λrow=> .sl (nL [ev])::row.drop 1,(ev:Int)+1⟩:=(by have h:=(D.weak (m':=m+1) (by omega)).put (j:=i.a.toNat) d (l:=[ev]) ⟨Iu _ _,λq D=>by rw[lX.1 D];omega⟩ G;exact⟨h.pc,h.ty,h.tt,h.r,h.s,by dsimp only;omega,by dsimp only;omega⟩);refine ws ?_;rw[aq];rcases I with I|I
   all_goals
    rw[I];refine w0 ?_;refine wg ?_;rw[<-I];refine iy (λ_:Unit=> [(3,.ptr 0 0),(4,.ptr 1 0),(5,.ptr 2 0),(6,.ptr 3 0),(7,.ptr 4 0),(9,.ptr 5 0),(14,.ptr 6 0),(15,.ptr 7 0),(16,.pv (ag (x.pc+1)))]) (λ_=> [some (.box ((coR n ss cs).map .pv)),some (.box (Gh ⟨y,tx,s.cl,s.fu,s.xs⟩ 8 9 10)),some (.box [.pv (ag t),.pv (ag w)]),some (.box [.emp,.pv (ag 0),.emp,.emp,.emp,.emp,.emp]),some (.box [.pv (ag 0),.pv (ag 0),.pv (ag 0),.pv (ag 0),.pv (ag 0),.emp,.emp]),some (.box ((EvA.r ⟨e.thread,e.kind,e.obj,z,e.site,e.deps,e.fr⟩).map .pv)),some (.box ((yf ⟨x.pc,x.re.modify i.a.toNat λrow=>ag z::row.drop 1,x.te.modify i.a.toNat λrow=> .sl (nL [ev])::row.drop 1,ev⟩).map .pv)),some (.box (i.r.map .pv)),some (.row 2 1 s.cl),some (.row 2 1 s.fu),some (.rov 169 4 (TL t s.xs) t ((yf ⟨x.pc,x.re.modify i.a.toNat λrow=>ag z::row.drop 1,x.te.modify i.a.toNat λrow=> .sl (nL [ev])::row.drop 1,ev⟩).map .pv))]) (λu=>u=()) ?_ (λ_ _=>?_)
    . refine wb ?_<;>intros;(all_goals try (exfalso;clear J;omega));exact sr_mark ⟨(),vm [0,1,2,3,4,5,6,7,8,9,10] [(11,none),(12,none)]⟩
    refine wb ?_<;>intros;(all_goals try (exfalso;clear J;omega));refine aj (by omega) L rfl ?_;refine wb ?_<;>intros;refine wG (Ia n t ss r l A V (m+1) hm _ hT) (.tup [rw_ [ag 0,.sl [],.sl [],ag 0],.pv (boolP false)]) ES ?_;rintro v ⟨B,ar,O,rfl⟩;refine wb ?_<;>intros;exact wt J (.tup [rw_ (oh ⟨y,tx,s.cl,s.fu,s.xs.set t B⟩),rw_ (EvA.r ⟨e.thread,e.kind,e.obj,z,e.site,e.deps,e.fr⟩),.pv (boolP true)]) [(8,none),(9,none),(10,none)] (hQ s.cl s.fu z B hs.cl hs.fu d O) (hE:=by refine ws ?_;exact⟨jW (λz=>some (PV.sl z)) (ab3 B),Eh⟩)
 . refine wq (Zu n n4 m (by omega) s hs) [] ?_;rintro r' g ⟨rfl,rfl⟩;refine ws ?_;refine wb ?_<;>intros;refine yO ab rfl ?_;refine wb ?_<;>intros;refine aj (by omega) L rfl ?_;refine wb ?_<;>intros;refine aj (by omega) Y rfl ?_;refine ws ?_;refine And.intro (y8 (by kernel_rfl)) (And.intro (y8 (by kernel_rfl)) ?_);refine w0 ?_;refine wg ?_;refine wg ?_;refine ig rfl ?_;refine ws ?_;refine iy (λu:Int×Int×List (List PV)×List (List PV)=> [(3,.ptr 0 0),(4,.ptr 1 0),(5,.ptr 2 0),(6,.ptr 3 0),(7,.ptr 4 0),(9,.ptr 5 0),(14,.ptr 6 0),(15,.ptr 7 0),(16,.pv (ag u.1))]) (λu=> [some (.box ((coR n ss cs).map .pv)),some (.box (Gh ⟨y,tx,u.2.2.1,u.2.2.2,s.xs⟩ 8 9 10)),some (.box [.pv (ag t),.pv (ag w)]),some (.box [.emp,.pv (ag 0),.emp,.emp,.emp,.emp,.emp]),some (.box [.pv (ag 0),.pv (ag 0),.pv (ag 0),.pv (ag 0),.pv (ag 0),.emp,.emp]),some (.box ((EvA.r ⟨e.thread,e.kind,e.obj,u.2.1,e.site,e.deps,e.fr⟩).map .pv)),some (.box ((yf x).map .pv)),some (.box (i.r.map .pv)),some (.row 2 1 u.2.2.1),some (.row 2 1 u.2.2.2),some (.row 169 4 (s.xs.map yf))]) (λu=>i64 u.1/\i64 u.2.1/\TyR [.int .i64] 5 u.2.2.1/\TyR [.int .i64] 1 u.2.2.2) ?_ (λ⟨nx,z,cl,fu⟩ ⟨Z,d,hcq,U⟩=>?_)
   . refine wb (A2.mk ?_ (A2.mk ?_ (A2.mk ?_ (A2.mk ?_ (A2.mk ?_ (A2.mk ?_ ?_))))))<;>intros;(all_goals try (exfalso;clear J;omega));(all_goals try exact sr_mark ⟨(x.pc,v,s.cl,s.fu),⟨ip,hv,hs.cl,hs.fu⟩,vm [0,8,16,24,32,112,432,536,344,345,346]⟩);(all_goals try exact sr_mark ⟨(x.pc+1,v,s.cl,s.fu),⟨G,hv,hs.cl,hs.fu⟩,vm [0,8,16,24,32,112,432,536,344,345,346]⟩);refine D.ty.row (by omega) (by omega) (λps _ E=>?_);obtain⟨z,d,rfl⟩:=qw E;refine wb ?_<;>intros;exact sr_mark ⟨(x.pc+1,z,s.cl.modify e.obj.toNat λrow=>ag z::row.drop 1,s.fu),⟨G,d,hs.cl.mod λrow hr=>by obtain⟨a,_,rfl⟩:=qw hr;exact⟨⟨_,d,rfl⟩,trivial⟩,hs.fu⟩,vm [0,8,16,24,32,112,432,536,344,345,346]⟩;refine D.ty.row (by omega) (by omega) (λps _ E=>?_);obtain⟨z,d,rfl⟩:=qw E;refine wb ?_<;>intros;exact sr_mark ⟨(x.pc+1,z,s.cl,s.fu.modify e.obj.toNat λrow=>ag z::row.drop 1),⟨G,d,hs.cl,hs.fu.mod λrow hr=>by obtain⟨a,_,rfl⟩:=qw hr;exact⟨⟨_,d,rfl⟩,trivial⟩⟩,vm [0,8,16,24,32,112,432,536,344,345,346]⟩;refine D.ty.row (by omega) (by omega) (λps _ E=>?_);obtain⟨z,d,rfl⟩:=qw E;refine wb (A2.mk ?_ ?_)<;>intros;exact sr_mark ⟨(i.b,0,s.cl,s.fu),⟨bM.2 (by omega),mV,hs.cl,hs.fu⟩,vm [0,8,16,24,32,112,432,536,344,345,346]⟩;exact sr_mark ⟨(x.pc+1,1,s.cl,s.fu),⟨G,i1,hs.cl,hs.fu⟩,vm [0,8,16,24,32,112,432,536,344,345,346]⟩
   dsimp only at Z d hcq U;have hT:TsK (m+1) ⟨nx,x.re,x.te,x.ev+1⟩:=(by have h:=D.weak (m':=m+1) (by omega);exact⟨Z,h.ty,h.tt,h.r,h.s,by have:=D.e0;dsimp only;omega,by have:=D.e1;dsimp only;omega⟩);refine wb (A2.mk ?_ (A2.mk ?_ ?_))<;>intros;(all_goals try (exfalso;clear J;omega));refine aj (by omega) L rfl ?_;refine wb ?_<;>intros;refine wG (Ia n t ss r l A V (m+1) hm ⟨nx,x.re,x.te,x.ev+1⟩ hT) (.tup [rw_ [ag 0,.sl [],.sl [],ag 0],.pv (boolP false)]) ES ?_;rintro v ⟨B,ar,O,rfl⟩;refine wb ?_<;>intros;exact wt J (.tup [rw_ (oh ⟨y,tx,cl,fu,s.xs.set t B⟩),rw_ (EvA.r ⟨e.thread,e.kind,e.obj,z,e.site,e.deps,e.fr⟩),.pv (boolP true)]) [(8,none),(9,none),(10,none)] (hQ cl fu z B hcq U d O) (hE:=by refine ws ?_;exact⟨jW (λz=>some (PV.sl z)) (TM B),Eh⟩);all_goals exact wt J (.tup [rw_ (oh ⟨y,tx,cl,fu,s.xs.set t ⟨nx,x.re,x.te,x.ev+1⟩⟩),rw_ (EvA.r ⟨e.thread,e.kind,e.obj,z,e.site,e.deps,e.fr⟩),.pv (boolP true)]) [(8,none),(9,none),(10,none)] (hQ cl fu z _ hcq U d hT) (hE:=by refine ws ?_;exact⟨jW (λz=>some (PV.sl z)) (TM ⟨nx,x.re,x.te,x.ev+1⟩),Eh⟩)
end AM
namespace AM
open Go Go.Proofs Mk
def Ry (n:Nat):List ByteArray:=[⟨#[120]⟩,⟨#[121]⟩,⟨#[118]⟩,⟨#[113]⟩,⟨#[109]⟩,⟨#[110]⟩,⟨#[114]⟩,⟨#[99]⟩,⟨#[102]⟩]++thNames n
attribute [local go_sem] rep
theorem ZJ (n:Nat)(ss:List (Nat×Nat))(hn:n<=4):FnEq Tryz.prog 92 [rw_ (qJ n ss)] (.tup [.pv (.sl (iT (Ry n))),.pv (boolP true)]):=by refine wf Tryz.func92 (λ_=> []) (h:=λR a=>?_);refine wb ?_<;>intros;refine sr_ghostE 4 9 1 (by exact we) ?_;refine wn 5 ?_;refine wb ?_<;>intros;(iterate 3 (refine aj (by omega) rfl rfl ?_;refine wb ?_<;>intros));refine aj (by omega) rfl rfl ?_;refine wb ?_<;>intros;refine wn 3 ?_;refine wb ?_<;>intros;refine aj (by omega) rfl rfl ?_;refine wb ?_<;>intros;refine aj (by omega) rfl rfl ?_;refine wb ?_<;>intros;refine wn 4 ?_;refine wb ?_<;>intros;(iterate 3 (refine aj (by omega) rfl rfl ?_;refine wb ?_<;>intros));refine wn 2 ?_;refine wb ?_<;>intros;refine aj (by omega) rfl rfl ?_;refine wb ?_<;>intros;refine And.intro (by rw[thNames_len];omega) ?_;refine wb ?_<;>intros;exact wr a [(2577,none)] (hE:=by refine ws ?_;and_intros<;>first|rfl|(unfold Ry;rw[bG];rfl))
end AM
namespace AM
open Go Go.Proofs Mk
def apV:Nat->List (Nat×Nat):=λi=>if i=9 then [(9,12),(9,13)] else if i=23 then [(4,11),(7,11),(9,11)] else if i=24 then [(8,15),(11,15),(13,15)] else if i=26 then [(1,3),(1,6),(1,8)] else []
def nmB (n:Nat):Bool:=(List.range (9+n)).all λk=>match (Ry n)[k]? with
 |some x=>kU x && decide (iR ((Ry n).take k) x= -1)
 |none=>true
theorem TR (n:Nat):(Ry n).length=9+n:=by unfold Ry;rw[bG,thNames_len];rfl
theorem akl {n:Nat}(hn:n<=4){k:Nat}{x:ByteArray}(h:(Ry n)[k]?=some x):kU x=true/\iR ((Ry n).take k) x= -1:=by have hk:=(bV.1 h).1;rw[TR] at hk;(have:nmB n=true:=by rcases (show n=0\/n=1\/n=2\/n=3\/n=4 by omega) with rfl|rfl|rfl|rfl|rfl<;>kernel_rfl);unfold nmB at this;have:=mf.1 this k (yB.2 hk);rw[h] at this;simpa using this
theorem aci {α β:Type}(f:α->β)(l:List α)(k:Nat):(l.map f).take k=(l.take k).map f:=oC.symm
attribute [local go_sem] thNames_len aci rep
theorem TS {n:Nat}{ss:List (Nat×Nat)}(h:SiteOk n ss):∀(i:Nat) (x:Nat×Nat),ss[i]?=some x->x.2<=i
 |
  0,x,hx=>by
  rcases (h 0 x hx).2 with ⟨_,h2⟩|⟨j,y,h1,_⟩
  . omega
  . omega
 |
  i+1,x,hx=>by
  rcases (h (i+1) x hx).2 with ⟨_,h2⟩|⟨j,y,h1,h2,h3⟩
  . omega
  . obtain rfl:i=j:=by omega
    have:=TS h i y h2
    omega
theorem Fj (n:Nat)(ss:List (Nat×Nat))(h1:1<=n)(hn:n<=4)(D:ss.length<=60)(hs:SiteOk n ss):FnEq Tryz.prog 64 [rw_ (qJ n ss)] (.pv (boolP true)):=by
 refine wf Tryz.func64 apV (h:=λR E=>?_);refine wb ?_<;>intros;(all_goals try omega);refine wE (ZJ n ss hn) ?_;refine wb ?_<;>intros;refine wl (λk:Nat=> [(1,.ptr 0 0),(3,.pv (.sl (iT (Ry n)))),(5,.pv (ag k))]) (λ_=> [some (.box ((qJ n ss).map .pv))]) (λk=>k<=(Ry n).length) (λk=>(Ry n).length-k) 0 (aG _) (vm [0]) (λk hk=>?_);refine wb (A2.mk ?_ ?_)<;>intros
 . have h2:k<(Ry n).length:=(by omega);have hg:=aV h2;obtain⟨y,A⟩:=akl hn hg;have H:=TR n;generalize (Ry n)[k]=x at hg y A;have a:(iT (Ry n))[k]?=some [dh x]:=(by simp[hg]);refine aj (by omega) a rfl ?_;refine wb ?_<;>intros;refine wE (jo x y) ?_;refine wb ?_<;>intros;refine aj (by omega) a rfl ?_;refine wb ?_<;>intros;refine wE (rV ((Ry n).take k) x (-1) (by simp;omega) A) ?_;refine wb ?_<;>intros;exact sr_mark ⟨k+1,h2,by omega,vm [0]⟩
 . refine wn 2 ?_;refine wb ?_<;>intros;(iterate 2 (refine aj (by omega) rfl rfl ?_;refine wb ?_<;>intros));refine wl (λk:Nat=> [(1,.ptr 0 0),(8,.pv (ag k))]) (λ_=> [some (.box ((qJ n ss).map .pv))]) (λk=>k<=ss.length) (λk=>ss.length-k) 0 (aG _) (vm [0]) (λk hk=>?_);refine wb (A2.mk ?_ ?_)<;>intros
   . have h2:k<ss.length:=(by omega);have hg:=aV h2;have d:=hs k _ hg;generalize ss[k]=x at hg d;obtain⟨th,m⟩:=x;obtain⟨G,B⟩:=d;dsimp only at G B;refine aB (x:=(th,m)) (by omega) (by simpa using hg) rfl ?_;refine wb (A2.mk ?_ ?_)<;>intros;(all_goals try omega);exact sr_mark ⟨k+1,h2,by omega,vm [0]⟩
     . rcases B with ⟨rfl,rfl⟩|⟨j,⟨yt,ym⟩,rfl,hy,z3⟩;exact absurd (Eq.refl (((0:Nat):Int))) (by assumption);dsimp only at z3;have u:=TS hs j _ hy;dsimp only at u;refine aB (x:=(yt,ym)) (by omega) (by simpa using hy) rfl ?_;refine wb (A2.mk ?_ ?_)<;>intros;(all_goals try (exfalso;omega));(all_goals (refine aB (x:=(yt,ym)) (by omega) (by simpa using hy) rfl ?_;refine wb ?_<;>intros));(all_goals try (exfalso;omega));all_goals exact sr_mark ⟨j+1+1,h2,by omega,vm [0]⟩
   exact wr E
end AM
namespace AM
open Go Go.Proofs Mk
theorem WE (bs:List (List Sm))(h1:1<=bs.length)(h4:bs.length<=4)(B:pO bs=0):FnEq Tryz.prog 41 [rw_ (coR bs.length (dB 0 bs) (codeF bs.length 0 bs))] (.pv (boolP true)):=by
 obtain⟨d,A,u⟩:=yh B;have y:=uu bs.length bs 0;generalize codeF bs.length 0 bs=cs at u y;generalize dB 0 bs=ss at d A u;generalize bs.length=n at *
 refine wf Tryz.func41 (λ_=> [(1,4),(1,6),(1,7)]) (h:=λR D=>?_);refine wb ?_<;>intros;refine wE (Fj n ss h1 h4 d A) ?_;refine wb (A2.mk ?_ ?_)<;>intros;(all_goals try (rw[thNames_len] at *;omega));refine wl (λk:Nat=> [(1,.ptr 0 0),(3,.pv (ag k))]) (λ_=> [some (.box ((coR n ss cs).map .pv))]) (λk=>k<=cs.length) (λk=>cs.length-k) 0 (aG _) (vm [0]) (λk hk=>?_);refine wb (A2.mk ?_ ?_)<;>intros;have h2:k<cs.length:=(by omega);have hg:=aV h2;have a:=u k cs[k].1 cs[k].2 hg;generalize cs[k]=x at hg a;obtain⟨r,l⟩:=x;refine aB (x:=(r,l)) (by omega) (by simpa using hg) rfl ?_;refine wb ?_<;>intros;refine wE (BQ n ss d k (by omega) r l a) ?_;refine wb ?_<;>intros;exact sr_mark ⟨k+1,h2,by omega,vm [0]⟩;exact wr D
def EvL (n:Nat)(es:List EvA):Prop:=∀(j:Nat) e,es[j]?=some e->EvG n j e
theorem EvL.snoc {n:Nat}{es:List EvA}{e:EvA}(h:EvL n es)(he:EvG n es.length e):EvL n (es++[e]):=by
 intro j x hx;rcases vT j es.length with hj|hj;rw[jI hj] at hx;exact h j x hx
 . rw[jJ hj] at hx;obtain rfl:j=es.length:=by
    have:=(bV.1 hx).1;simp at this;omega
   simp at hx;subst hx;exact he
@[go_sem] def Uk (c:Int×Int):List PV:=[ag c.1,ag c.2]
structure FrS (n K k:Nat)(s:St)(es:List EvA):Prop where
 st:StK n es.length s
 e4:es.length<=400
 ek:es.length<=k
 kK:k<=K
 ev:EvL n es
def FrQ (n K:Nat)(v:AV):Prop:=∃s es,v= .tup [.pv (.sl (es.map EvA.r)),rw_ (oh s)]/\es.length<=K/\EvL n es
def anf:Nat->List (Nat×Nat):=λ_=> [(0,1),(0,4),(1,4),(0,5),(1,5),(0,11),(1,11),(4,11),(5,11),(6,11),(0,12),(1,12),(4,12),(5,12),(6,12),(11,12)]
attribute [local go_sem] List.map_append List.length_append List.map_cons List.map_nil List.length_singleton
theorem WG (n:Nat)(ss:List (Nat×Nat))(cs:List (Int×List In))(C:CdG n ss cs)(s0:St)(hs:StK n 0 s0)(ch:List (Int×Int))(y:ch.length<=1000):kV Tryz.prog 42 [rw_ (coR n ss cs),rw_ (oh s0),.emp,.pv (.sl (ch.map Uk))] (FrQ n ch.length):=by refine wf Tryz.func42 anf (h:=λR A=>?_);refine wb ?_<;>intros;refine sr_ghostE 2 52 7 (by exact we) ?_;refine wl (λu:Nat×St×List EvA=> [(2,.own 3 u.2.2.length),(3,.pv (.sl (ch.map Uk))),(4,.ptr 0 0),(5,.ptr 1 0),(9,.ptr 2 0),(10,.pv (ag u.1))]) (λu=> [some (.box ((coR n ss cs).map .pv)),some (.box ((oh u.2.1).map .pv)),some (.box [.emp,.pv (ag 0),.emp,.emp,.emp,.emp,.emp]),some (.row 52 7 (u.2.2.map EvA.r))]) (λu=>FrS n ch.length u.1 u.2.1 u.2.2) (λu=>ch.length-u.1) (0,s0,[]) ⟨hs,aG _,aG _,aG _,λj e h=>by simp at h⟩ (vm [0,8,24,40]) (λ⟨k,s,es⟩ B=>?_);obtain⟨d,e4,ek,kK,a⟩:=B;dsimp only at d e4 ek kK a;refine wb (A2.mk ?_ (A2.mk ?_ ?_))<;>intros;have h2:k<ch.length:=(by omega);refine aB (x:=ch[k]) (by omega) (by simp[h2]) rfl ?_;refine wb ?_<;>intros;refine wG (Xy n ss cs C es.length (by omega) s d ch[k].1 ch[k].2) (.tup [rw_ Xz,rw_ (EvA.r XA),.pv (boolP false)]) (.inr rfl) ?_;rintro v (⟨D,e,rfl,t3,t4⟩|rfl);refine wb ?_<;>intros;have E:(es++[e]).length=es.length+1:=(by simp);exact sr_mark ⟨(k+1,D,es++[e]),⟨by dsimp only;rw[E];exact t3,by dsimp only;omega,by dsimp only;omega,h2,a.snoc t4⟩,by dsimp only;omega,vm [0,1,2,252]⟩;refine wb ?_<;>intros;exact sr_mark ⟨(k+1,s,es),⟨d,e4,by dsimp only;omega,h2,a⟩,by dsimp only;omega,vm [0,1,2,3]⟩;all_goals exact wt A (.tup [.pv (.sl (es.map EvA.r)),rw_ (oh s)]) [(3,none)] ⟨_,_,rfl,by omega,a⟩
end AM
namespace AM
open Go Go.Proofs Mk
@[go_sem] def trR (n:Nat)(ss:List (Nat×Nat))(es:List EvA):List PV:=[.sl (OZ.map CeR.r),.sl (Po.map Pq),.sl (O1.map V3),.sl (iT V4),.sl (iT (thNames n)),.sl (ss.map V5),.sl (es.map EvA.r)]
def amw (n:Nat)(ss:List (Nat×Nat))(K:Nat)(v:AV):Prop:=∃s es,v= .tup [rw_ (trR n ss es),rw_ (oh s)]/\es.length<=K/\EvL n es
def amx:Nat->List (Nat×Nat):=λi=>if i=3 then [(0,1),(0,2),(0,8),(1,8),(2,8),(4,8)] else if i=4 then [(1,4),(4,5)] else []
theorem aas (n:Nat)(ss:List (Nat×Nat))(cs:List (Int×List In))(C:CdG n ss cs)(ch:List (Int×Int))(a:ch.length<=1000):kV Tryz.prog 23 [rw_ (coR n ss cs),.pv (.sl (ch.map Uk))] (amw n ss ch.length):=by have d:=Ul n ss cs C;have u:=WG n ss cs C _ (adq C) ch a;have hw:FrQ n ch.length (.tup [.pv (.sl (([]:List EvA).map EvA.r)),rw_ (oh ⟨⟨[],[],[]⟩,0,[],[],[]⟩)]):=⟨_,[],rfl,aG _,λj e h=>by simp at h⟩;obtain⟨n1,n4,s60,so,val,len,good,num⟩:=C;refine wf Tryz.func23 amx (h:=λR y=>?_);refine wb ?_<;>intros;refine wE val ?_;refine wb ?_<;>intros;refine wE d ?_;refine wb ?_<;>intros;refine wG u _ hw ?_;rintro v ⟨s,es,rfl,h1,h2⟩;refine wb ?_<;>intros;exact wt y (.tup [rw_ (trR n ss es),rw_ (oh s)]) [] ⟨_,_,rfl,h1,h2⟩
theorem aat (xs:List UInt8)(hx:xs.length<=1000):kV Tryz.prog 24 [.pv (SS xs)] (λr=>∃n ss cs,CdG n ss cs/\r=rw_ (coR n ss cs)):=by refine wf Tryz.func24 (λ_=> []) (h:=λR u=>?_);refine wb ?_<;>intros;refine wF (Pv xs hx) ?_;rintro v ⟨bs,rfl,a,d⟩;refine wb ?_<;>intros;refine wE (Ls bs a d) ?_;refine wb ?_<;>intros;have hg:=yh d;exact wt u (rw_ (coR bs.length (dB 0 bs) (codeF bs.length 0 bs))) [] ⟨_,_,_,⟨a.n1,a.n4,hg.1,hg.2.1,WE bs a.n1 a.n4 d,uu _ _ _,hg.2.2,λk r l h=>Gs _ _ _ _ (iC h)⟩,rfl⟩
attribute [local go_sem] List.map_append List.length_append List.map_cons List.map_nil List.length_singleton
theorem Px (xs:List UInt8)(hx:xs.length<=1000):kV Tryz.prog 25 [.pv (SS xs)] (λr=>∃ch:List (Int×Int),ch.length=xs.length/\r= .pv (.sl (ch.map Uk))):=by refine wf Tryz.func25 (λ_=> [(3,9),(4,9),(3,10),(4,10)]) (h:=λR a=>?_);refine wb ?_<;>intros;refine sr_ghostE 3 124 2 (by exact we) ?_;refine wl (λu:List (Int×Int)=> [(0,.pv (SS xs)),(3,.own 0 u.length),(4,.pv (ag u.length))]) (λu=> [some (.row 124 2 (u.map Uk))]) (λu=>u.length<=xs.length) (λu=>xs.length-u.length) [] (aG _) (vm [24]) (λu d=>?_);refine wb (A2.mk ?_ ?_)<;>intros;have h2:u.length<xs.length:=(by omega);refine aB (x:=xs[u.length]) (by omega) (by simp[h2]) rfl ?_;refine wb ?_<;>intros;refine aB (x:=xs[u.length]) (by omega) (by simp[h2]) rfl ?_;refine wb ?_<;>intros;exact sr_mark ⟨u++[((IntKind.i64.wrap (xs[u.length].toNat:Int)).tmod 4,IntKind.i64.wrap ((IntKind.i64.wrap ((IntKind.i64.wrap (xs[u.length].toNat:Int)).tdiv 4)).tmod 5-1))],by rw[bG];simp only[Io];omega,by rw[bG];simp only[Io];omega,vm [169]⟩;have h2:u.length=xs.length:=(by omega);exact wt a (.pv (.sl (u.map Uk))) [(0,none)] ⟨_,h2,rfl⟩
def TrQ (K:Nat)(v:AV):Prop:=∃n ss es,v=rw_ (trR n ss es)/\1<=n/\n<=4/\ss.length<=60/\SiteOk n ss/\es.length<=K/\EvL n es
theorem WH (xs ys:List UInt8)(hx:xs.length<=1000)(a:ys.length<=1000):kV Tryz.prog 9 [.pv (SS xs),.pv (SS ys)] (TrQ ys.length):=by refine wf Tryz.func9 (λ_=> []) (h:=λR d=>?_);refine wb ?_<;>intros;refine wF (aat xs hx) ?_;rintro v ⟨n,ss,cs,C,rfl⟩;refine wb ?_<;>intros;refine wF (Px ys a) ?_;rintro v ⟨ch,u,rfl⟩;refine wb ?_<;>intros;refine wF (aas n ss cs C ch (by omega)) ?_;rintro v ⟨s,es,rfl,h1,h2⟩;refine wb ?_<;>intros;exact wt d (rw_ (trR n ss es)) [] ⟨_,_,_,rfl,C.n1,C.n4,C.s60,C.so,by omega,h2⟩
end AM
namespace AM
open Go Go.Proofs Go.RowKit Mk Iv
def EvA.ev (e:EvA):Ev:=⟨e.thread,e.kind,e.obj,e.value,e.site,e.deps.map λ(n:Nat)=>(n:Int),e.fr.map λ(n:Nat)=>(n:Int)⟩
theorem adw {n j:Nat}{e:EvA}(h:EvG n j e):EvOk n j e.ev:=by have i:∀ {x:Int},i64 x->inI64 x:=(λhx=>by have:=bM.1 hx;exact⟨this.1,by omega⟩);have d:∀ {l:List Nat},Asc j l->(((l.map λ(n:Nat)=>(n:Int)).length:Int)<=j/\∀x∈l.map λ(n:Nat)=>(n:Int),0<=x/\x<j):=(λa=>by refine⟨by rw[gy];have:=a.len;omega,λx hx=>?_⟩;obtain⟨q,u,rfl⟩:=iV.1 hx;have:=a.2 q u;omega);exact⟨h.th.1,h.th.2,h.kd.1,h.kd.2,i h.obj,i h.val,h.site.1,h.site.2,d h.dp,d h.frm⟩
def zI (w:World)(B:Nat):Psi:=⟨λb o=>if b<B then w.cell? ⟨b,o,none⟩ else none,λ_=>none⟩
def WV (w:World)(B:Nat):Fr:=⟨w,λb=>b<w.heap.size,zI w B,λ_=>none,0⟩
def AU (Ψ:Psi)(Bd:Nat)(w:World):Prop:=∀b o v,Ψ.fz b o=some v->b<Bd/\w.cell? ⟨b,o,none⟩=some v
theorem Ok.fzIn {fr:Fr}{Ψ:Psi}{loc:Loc}{σ:Sto}{w:World}(h:Ok fr Ψ loc σ w):AU Ψ w.heap.size w:=λb o v e=>⟨h.fz_lt e,h.fz b o v e⟩
theorem ag8 (w:World)(B:Nat):Ok (WV w B) (zI w B) (λ_=>none) (oZ []) w:=by
 constructor
 . intro b o v h;unfold zI at h;dsimp only at h;split at h;exact h
   cases h
 . exactλb cts m h=>nomatch h
 exact(λl o h=>by simp[oZ] at h);exact(λl l' o o' b h=>by simp[oZ] at h);exactλl o b h=>by simp[oZ] at h
 . exactλb e h=>nomatch h
 exactλb h=>⟨h,rfl⟩;exact ax _;exact⟨rfl,rfl,rfl⟩;exactλb _ q=>rfl;exact Psi.le.refl _;exactλl h=>absurd h (Nat.not_lt_zero l)
theorem acG {P:Program}{f:FuncId}{args:List AV}{post:AV->List (Option Obj)->Prop}(h:ACallO P f args [] post)(w:World)(B:Nat)(vs:Array Value)(hr:WQ (zI w B) (λ_=>none) args vs.toList):
 Calls P f vs w λe w'=>∃r v g Ψ' a,e= .returned r/\post v g/\RepA Ψ' a v r/\Ok (WV w B) Ψ' a (oZ g) w':=
 (h (WV w B) (zI w B) (λ_=>none) w vs (ag8 w B) rfl (λ_ _=>rfl) hr).mono λe w' ⟨r,v,g,Ψ',a,h1,h2,_,_,h3,h4,_⟩=>⟨r,v,g,Ψ',a,h1,h2,h3,h4⟩
theorem LM {w w':World}{B:Nat}{Ψ:Psi}{loc:Loc}{σ:Sto}(h:Ok (WV w B) Ψ loc σ w'):w.grownBy w' none:=⟨h.os.1,h.os.2.1,h.os.2.2,h.sz,λk hk _=>(h.pr k hk).2⟩
theorem uy {w:World}{B n c:Nat}{A:Option Addr}{xs:Bytes}(h:Lies w B 1 A n (xs.map bv))(hc:n<=c)(ho:A=none->c=0):Rep (zI w B) (SS xs) (.slice A n c):=by
 have d:=h.1;rw[gy,lY] at d;subst d;rcases pV xs.length with h0|h0;have:=lZ h0;subst this;exact .nil ho
 . obtain⟨⟨b,o,s⟩,rfl,hb,hcell⟩:=h.2 h0;have hg:∀k (hk:k<xs.length),w.cell? ((⟨b,o,s⟩:Addr).add k)=some (bv xs[k]):=λk hk=>hcell k _ (by rw[bK,aV hk];rfl);have hs:s=none:=by
    have:=hg 0 h0;simp only[Addr.add,↓reduceIte,World.cell?] at this
    cases s with
    |none=>rfl
    |some q=>split at this<;>simp at this
   subst hs;refine .sl (k:=1) (λi _=>bv (xs.getD i 0)) (by rw[gy]) hc (λrow hr=>by obtain⟨x,_,rfl⟩:=iV.1 hr;rfl) ?_ ?_
   . intro i j p a;simp only[cellOf,bK,Option.bind_map] at a
     cases hx:xs[i]? with
     |none=>simp [hx] at a
     |
      some x=>
      simp only[hx,uT,Function.comp] at a;obtain⟨hi,rfl⟩:=bV.1 hx
      have u:j=0:=by cases j with
       |zero=>rfl
       |succ j=>simp at a
      subst u;have:=hg i hi;show (if b<B then w.cell? ⟨b,o+(i*1+0),none⟩ else none)=_;rw[if_pos hb];rw[lY,oD,pR,hx,Option.getD_some,<-this];congr 1;unfold Addr.add;split;simp_all;rfl
   . intro i j p a;simp only[cellOf,bK,Option.bind_map] at a
     cases hx:xs[i]? with
     |none=>simp [hx] at a
     |
      some x=>
      simp only[hx,uT,Function.comp] at a
      cases j with
      |
       zero=>
       simp only[uU,jA] at a;subst a;rw[pR,hx];exact .sc rfl
      |succ j=>simp at a
theorem Gx {Ψ:Psi}{d:Nat}{w:World}(y:AU Ψ d w){l:List Nat}{v:Value}(h:Rep Ψ (.sl (nL l)) v):∃A c,v= .slice A l.length c/\Lies w d 1 A l.length ((l.map λ(n:Nat)=>(n:Int)).map Iv.iv):=by
 generalize he:nL l=els at h
 cases h with
 |
  nil=>
  have:l=[]:=Iz.1 he;subst this;exact⟨_,_,rfl,⟨rfl,λh=>absurd h (yC 0)⟩⟩
 |
  @sl _ b o c n k f hn hnc hk hf hr=>
  subst he;rw[gy] at hn;subst hn;refine⟨_,_,rfl,by simp,λh0=>?_⟩;have B:k=1:=(hk _ (IA (dm h0))).symm;subst B;have hc:∀i (hi:i<l.length),b<d/\w.cell? ⟨b,o+i,none⟩=some (Iv.iv (l[i]:Nat)):=(λi hi=>by have h1:cellOf (nL l) i 0=some (ag (l[i]:Nat)):=(by simp[cellOf,hi,nP]);obtain⟨h0,h2⟩:=y _ _ _ (hf i 0 _ h1);rw[lY,oD] at h2;refine⟨h0,?_⟩;rw[h2,(dK (loc:=λ_=>none) (.pv (hr i 0 _ h1))).1];rfl);refine⟨⟨b,o,none⟩,rfl,(hc 0 h0).1,λj u a=>?_⟩;rw[bK,bK] at a
  cases hx:l[j]? with
  |none=>rw [hx] at a;simp at a
  |
   some x=>
   obtain⟨D,rfl⟩:=bV.1 hx;rw[hx] at a;simp only[ng,jA] at a;subst a;have:=(hc j D).2;rw[<-this];congr 1;unfold Addr.add;split;simp_all;rfl
end AM
namespace AM
open Go Go.Proofs Go.RowKit Iv
def pvV:PV->Value
 | .sc v=>v
 |_=>undef
def dA (els:List (List PV)):List Value:=els.flatMap (·.map pvV)
theorem OB {k:Nat} :∀ {els:List (List PV)},(∀r∈els,r.length=k)->∀ {j:Nat}{u:Value},(dA els)[j]?=some u->∃i q r p,els[i]?=some r/\r[q]?=some p/\j=i*k+q/\u=pvV p
 | [],_,j,u,h=>by simp[dA] at h
 |
  r::t,hk,j,u,h=>by
  have hr:r.length=k:=hk r (by simp)
  have e:dA (r::t)=r.map pvV++dA t:=by simp[dA]
  rw[e] at h
  by_cases a:j<k
  . rw[jI (by simpa [hr] using a),bK] at h
    cases hp:r[j]? with
    |none=>rw [hp] at h;simp at h
    |
     some p=>
     rw[hp] at h
     simp only[ng,jA] at h
     exact⟨0,j,r,p,by simp,hp,by simp,h.symm⟩
  . rw[jJ (by simp[hr];omega)] at h
    obtain⟨i,q,d,p,h1,h2,h3,h4⟩:=OB (λr hr=>hk r (by simp[hr])) h
    refine⟨i+1,q,d,p,by simpa using h1,h2,?_,h4⟩
    rw[gy,hr] at h3
    rw[iq]
    omega
theorem OC {k:Nat} :∀ {els:List (List PV)},(∀r∈els,r.length=k)->(dA els).length=els.length*k
 | [],_=>by simp[dA]
 |
  r::t,hk=>by
  have e:dA (r::t)=r.map pvV++dA t:=by simp[dA]
  rw[e,bG,gy,hk r (by simp),OC (λr hr=>hk r (by simp[hr])),iO,iq]
  omega
theorem VR {Ψ:Psi}{a:Nat}{w:World}(d:AU Ψ a w){els:List (List PV)}{v:Value}{k:Nat}(hk:∀r∈els,r.length=k)(E:0<k)(y:∀r∈els,∀p∈r,∃x,p= .sc x)(h:Rep Ψ (.sl els) v):
 ∃A c,v= .slice A els.length c/\Lies w a k A els.length (dA els)/\(0<els.length->els.length<=c/\∃b o,A=some ⟨b,o,none⟩)/\(A=none->c=0):=by
 cases h with
 |nil hA=>exact ⟨_,_,rfl,⟨by simp[dA],λh=>absurd h (yC 0)⟩,λh=>absurd h (yC 0),hA⟩
 |
  @sl _ b o c n k' f hn hnc hk' hf hr=>
  subst hn;refine⟨_,_,rfl,⟨OC hk,λh0=>?_⟩,λ_=>⟨hnc,b,o,rfl⟩,λh=>nomatch h⟩;have B:k'=k:=(by have h1:=hk' _ (dm h0);rw[hk _ (dm h0)] at h1;exact h1.symm);subst B;have hc:∀i q r p,els[i]?=some r->r[q]?=some p->b<a/\w.cell? ⟨b,o+(i*k'+q),none⟩=some (pvV p):=(λi q r p h1 h2=>by have h3:cellOf els i q=some p:=(by simp only[cellOf,h1,uT];exact h2);obtain⟨h4,h5⟩:=d _ _ _ (hf i q _ h3);refine⟨h4,?_⟩;rw[h5];obtain⟨x,rfl⟩:=y r (iC h1) p (iC h2);rw[(dK (loc:=λ_=>none) (.pv (hr i q _ h3))).1];rfl);have D:b<a:=(by have H:(els[0]).length=k':=hk _ (dm h0);exact (hc 0 0 els[0] (els[0])[0] (aV h0) (aV (by omega))).1);refine⟨⟨b,o,none⟩,rfl,D,λj u G=>?_⟩;obtain⟨i,q,r,p,h1,h2,rfl,rfl⟩:=OB hk G;have:=(hc i q r p h1 h2).2;rw[<-this];congr 1;unfold Addr.add;split;simp_all;rfl
theorem iM {k:Nat} :∀ {els:List (List PV)}{i j:Nat}{r:List PV}{p:PV},(∀r∈els,r.length=k)->els[i]?=some r->r[j]?=some p->(dA els)[i*k+j]?=some (pvV p)
 | [],i,j,r,p,_,h,_=>by simp at h
 |
  r0::t,i,j,r,p,hk,h1,h2=>by
  have e:dA (r0::t)=r0.map pvV++dA t:=by simp[dA]
  have hr:r0.length=k:=hk r0 (by simp)
  rw[e]
  cases i with
  |
   zero=>
   simp only[uU,jA] at h1
   subst h1
   have a:=(bV.1 h2).1
   rw[Jl,dJ,jI (by simpa using a),bK,h2]
   rfl
  |
   succ i=>
   rw[jJ (by rw[gy,hr,iq];omega),gy,hr,show (i+1)* k+j-k=i*k+j by rw[iq];omega]
   exact iM (λr hr=>hk r (by simp[hr])) (by simpa using h1) h2
theorem Xi {Ψ:Psi}{E:Nat}{w:World}(y:AU Ψ E w){els:List (List PV)}{v:Value}{k bytes:Nat}(hk:∀r∈els,r.length=k)(B:0<k)(a:∀r∈els,∀p∈r,∃x:Value,p= .sc x/\x.oneCell'=true)(hn:els.length<=1000)(hb:bytes<=48)(h:Rep Ψ (.sl els) v):
 ∃A c,v= .slice A els.length c/\Go.Proofs.YtfbkkgfkhhibfaaGreat.In1 w E k bytes A els.length c (dA els)/\(0<els.length->∃b o,A=some ⟨b,o,none⟩):=by obtain⟨A,c,G,H,ha,h0⟩:=VR y hk B (λr hr p D=>by obtain⟨x,hx,_⟩:=a r hr p D;exact⟨x,hx⟩) h;refine⟨A,c,G,⟨H,h0,λu d=>?_,?_,?_⟩,λh=>(ha h).2⟩;unfold dA at d;obtain⟨r,hr,d⟩:=List.mem_flatMap.1 d;obtain⟨p,D,rfl⟩:=iV.1 d;obtain⟨x,rfl,hx⟩:=a r hr p D;exact hx;unfold maxLen;omega;have:els.length*bytes<=1000*48:=wC hn hb;omega
