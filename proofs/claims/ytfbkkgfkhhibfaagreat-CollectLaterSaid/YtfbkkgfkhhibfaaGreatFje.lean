/- Words. -/
import Derived.Test.YtfbkkgfkhhibfaaGreatFja
set_option linter.unusedVariables false
set_option linter.unusedSimpArgs false
set_option maxRecDepth 20000
set_option maxHeartbeats 8000000
namespace AM
open Go Go.Proofs
structure Ts where
 pc:Int
 re:List (List PV)
 te:List (List PV)
 ev:Int
@[go_sem] def yf (x:Ts):List PV:=[ag x.pc,.sl x.re,.sl x.te,ag x.ev]
structure TsK (m:Nat)(x:Ts):Prop where
 pc:i64 x.pc
 ty:TyR [.int .i64] x.re.length x.re
 tt:TyR [.asc m] x.te.length x.te
 r:x.re.length<=5
 s:x.te.length<=5
 e0:0<=x.ev
 e1:x.ev<=m
theorem TsK.weak {m m':Nat}{x:Ts}(h:TsK m x)(hm:m<=m'):TsK m' x:=by refine⟨h.pc,h.ty,⟨rfl,λrow hr=>?_⟩,h.r,h.s,h.e0,by have:=h.e1;omega⟩;obtain⟨l,a,rfl⟩:=uQ (h.tt.2 row hr);exact⟨yz (a.weak hm),trivial⟩
def adh:Nat->List (Nat×Nat):=λi=>if i=1 then [(1,3),(1,6),(3,6),(1,7),(3,7),(1,9),(3,9),(6,9),(7,9)] else if i=5 then [(1,4),(1,6),(1,7),(1,8)] else []
attribute [local go_sem] List.set_cons_zero List.set_cons_succ List.map_append List.length_append List.map_cons List.map_nil List.length_singleton
theorem Oa (m:Nat)(h4:m<=400)(x:Ts)(hx:TsK m x):ACall Tryz.prog 136 [rw_ (yf x)] [] (λv g=>v= .agg [.pv (ag x.pc),.own 0 x.re.length,.own 1 x.te.length,.pv (ag x.ev)]/\g=[some (.row 2 1 x.re),some (.row 37 1 x.te)]):=by have D:=hx.r;have s5:=hx.s;refine wz Tryz.func136 adh (h:=λR d=>?_);refine wb ?_<;>intros;refine And.intro (hx.ty.ap (by omega)) ?_;refine wb ?_<;>intros;refine sr_ghost 88 2 37 1 rfl rfl ?_;refine wl (λu:List (List PV)=> [(1,.ptr 0 0),(2,.ptr 1 0),(3,.ptr 2 0),(4,.pv (ag u.length))]) (λu=> [some (.box ((yf x).map .pv)),some (.box [.pv (ag 0),.emp,.emp,.pv (ag 0)]),some (.box [.pv (ag x.pc),.own 4 x.re.length,.own 3 u.length,.pv (ag x.ev)]),some (.row 37 1 u),some (.row 2 1 x.re)]) (λu=>u.length<=x.te.length/\Hd (u=x.te.take u.length)) (λu=>x.te.length-u.length) [] ⟨aG _,⟨rfl⟩⟩ (vm [0,8,88,112,72]) (λu ⟨hk,a⟩=>?_);refine wb (A2.mk ?_ ?_)<;>intros;refine hx.tt.row (by omega) (by omega) (λE hg y=>?_);obtain⟨l,A,rfl⟩:=uQ y;have B:l.length<=400:=aP A.len h4;refine wb ?_<;>intros;have e1:(u++[[PV.sl (nL l)]]).length=u.length+1:=(by simp);exact sr_mark ⟨u++[[PV.sl (nL l)]],⟨by omega,⟨by rw[e1,oP,<-a.out];rw[xe] at hg;rw[hg];rfl⟩⟩,by omega,vm [0,1,2,125,4]⟩;have e1:u.length=x.te.length:=(by omega);have a:=a.out;rw[e1,oQ] at a;subst a;refine wo d (.agg [.pv (ag x.pc),.own 0 x.re.length,.own 1 x.te.length,.pv (ag x.ev)]) [some (.row 2 1 x.re),some (.row 37 1 x.te)] [4,3] [] ⟨rfl,rfl⟩
theorem zk (m:Nat)(h4:m<=400)(x:Ts)(hx:TsK m x):FnEq Tryz.prog 136 [rw_ (yf x)] (rw_ (yf x)):=by have D:=hx.r;have s5:=hx.s;refine wf Tryz.func136 adh (h:=λR d=>?_);refine wb ?_<;>intros;refine And.intro (hx.ty.ap (by omega)) ?_;refine wb ?_<;>intros;refine sr_ghost 88 2 37 1 rfl rfl ?_;refine wl (λu:List (List PV)=> [(1,.ptr 0 0),(2,.ptr 1 0),(3,.ptr 2 0),(4,.pv (ag u.length))]) (λu=> [some (.box ((yf x).map .pv)),some (.box [.pv (ag 0),.emp,.emp,.pv (ag 0)]),some (.box [.pv (ag x.pc),.own 4 x.re.length,.own 3 u.length,.pv (ag x.ev)]),some (.row 37 1 u),some (.row 2 1 x.re)]) (λu=>u.length<=x.te.length/\Hd (u=x.te.take u.length)) (λu=>x.te.length-u.length) [] ⟨aG _,⟨rfl⟩⟩ (vm [0,8,88,112,72]) (λu ⟨hk,a⟩=>?_);refine wb (A2.mk ?_ ?_)<;>intros;refine hx.tt.row (by omega) (by omega) (λE hg y=>?_);obtain⟨l,A,rfl⟩:=uQ y;have B:l.length<=400:=aP A.len h4;refine wb ?_<;>intros;have e1:(u++[[PV.sl (nL l)]]).length=u.length+1:=(by simp);exact sr_mark ⟨u++[[PV.sl (nL l)]],⟨by omega,⟨by rw[e1,oP,<-a.out];rw[xe] at hg;rw[hg];rfl⟩⟩,by omega,vm [0,1,2,125,4]⟩;have e1:u.length=x.te.length:=(by omega);have a:=a.out;rw[e1,oQ] at a;subst a;exact wr d [(3,none),(4,none)]
end AM
namespace AM
open Go Go.Proofs Mk
def akG:Nat->List (Nat×Nat):=λi=>if i=6 then [(1,3),(1,5),(3,5),(1,6),(1,7),(1,9),(3,9),(5,9),(6,9),(7,9),(1,10)] else if i=8 then [(1,3),(1,5),(3,5),(1,6),(1,7),(1,9),(3,9),(5,9),(6,9),(7,9),(1,10)] else []
def ObW (r:AV):Prop:=∃o,i64 o/\r= .pv (ag o)
theorem Uj (n:Nat)(hn:n<=4)(i:In)(h1:1<=i.op/\i.op<=28)(ho:ObjI n i)(I:i.op=5->0<=i.a/\i.a<=1000)(u:i64 i.n)(x:Ts)(r:Nat)(hx:TyR [.int .i64] r x.re)(hr:r<=5)(hg:∀q∈regsI i,0<=q/\q<(r:Int)):
 kV Tryz.prog 129 [rw_ i.r,rw_ (yf x)] ObW:=by
 obtain⟨op,B,D,E,J,st⟩:=i;obtain⟨o3,o4,o6,o7,o8,o9,o11,o13,o21,o24,o26,o27⟩:=ho;dsimp only at h1 o3 o4 o6 o7 o8 o9 o11 o13 o21 o24 o26 o27 I u;have z:∀q:Int,-100<=q/\q<=2000->i64 q:=λq h=>bM.2 (by omega);refine wf Tryz.func129 akG (h:=λR d=>?_);refine wb (A2.mk ?_ (A2.mk ?_ (A2.mk ?_ (A2.mk ?_ (A2.mk ?_ (A2.mk ?_ (A2.mk ?_ (A2.mk ?_ (A2.mk ?_ (A2.mk ?_ ?_))))))))))<;>intros;exact wt d (.pv (ag D)) [] ⟨_,z D (by omega),rfl⟩;exact wt d (.pv (ag D)) [] ⟨_,z D (by omega),rfl⟩;have L:op=7:=(by assumption);subst L;obtain⟨rfl,rfl⟩:=o7 rfl;have N:=hg E (by simp[regsI]);refine hx.row (by omega) (by omega) (λO _ G=>?_);obtain⟨a,ha,rfl⟩:=qw G;refine wb ?_<;>intros;refine wG (Gq a 2 ha u) (.pv (ag 0)) ⟨0,mV,rfl,by decide⟩ ?_;rintro v ⟨y,U,rfl,A⟩;have H:=A (by decide);refine wb ?_<;>intros;exact wt d (.pv (ag (3+y))) [] ⟨_,z _ (by omega),rfl⟩;have V:op=9:=(by assumption);subst V;obtain⟨rfl,rfl⟩:=o9 rfl;have N:=hg E (by simp[regsI]);refine hx.row (by omega) (by omega) (λO _ G=>?_);obtain⟨a,ha,rfl⟩:=qw G;refine wb ?_<;>intros;refine wG (Gq a 2 ha u) (.pv (ag 0)) ⟨0,mV,rfl,by decide⟩ ?_;rintro v ⟨y,U,rfl,A⟩;have H:=A (by decide);refine wb ?_<;>intros;exact wt d (.pv (ag (3+y))) [] ⟨_,z _ (by omega),rfl⟩;exact wt d (.pv (ag (-1))) [] ⟨_,z _ (by decide),rfl⟩;exact wt d (.pv (ag (-1))) [] ⟨_,z _ (by decide),rfl⟩;exact wt d (.pv (ag (-1))) [] ⟨_,z _ (by decide),rfl⟩;exact wt d (.pv (ag (-1))) [] ⟨_,z _ (by decide),rfl⟩;exact wt d (.pv (ag (-1))) [] ⟨_,z _ (by decide),rfl⟩;exact wt d (.pv (ag (-1))) [] ⟨_,z _ (by decide),rfl⟩
 . have ha: -100<=B/\B<=2000:=by
    by_cases h5:op<=5
    . by_cases X:op=5;have:=I X;omega
      . have:B∈regsI ⟨op,B,D,E,J,st⟩:=by
         obtain rfl|rfl|rfl:op=1\/op=2\/op=4:=(by omega);all_goals simp[regsI]
        have:=hg B this;omega
    omega
   exact wt d (.pv (ag B)) [] ⟨_,z _ ha,rfl⟩
def ahM:Nat->List (Nat×Nat):=λi=>if i=5 then [(8,11),(9,11)] else if i=18 then [(1,3),(1,7),(3,7),(4,7),(5,7),(1,9),(3,9),(4,9),(5,9),(7,9),(1,10),(3,10),(4,10),(5,10),(1,11),(3,11),(4,11),(5,11)] else if i=20 then [(1,4),(2,4),(1,6),(2,6),(4,6),(1,7),(2,7),(1,8),(2,8)] else if i=10 then [(1,4),(2,4),(1,6),(2,6),(4,6),(1,7),(2,7),(1,8),(2,8),(1,10),(2,10),(4,10),(6,10),(7,10),(8,10),(1,12),(2,12),(4,12),(6,12),(7,12),(8,12),(10,12),(1,13),(2,13),(4,13),(6,13),(7,13),(8,13),(1,14),(2,14),(4,14),(6,14),(7,14),(8,14)] else if i=11 then [(1,3),(1,7),(3,7),(4,7),(5,7),(1,9),(3,9),(4,9),(5,9),(7,9),(1,10),(3,10),(4,10),(5,10),(1,11),(3,11),(4,11),(5,11)] else if i=22 then [(1,3),(1,5),(3,5),(1,7),(3,7),(5,7),(1,11),(3,11),(5,11),(7,11),(5,12),(7,12),(5,13),(7,13)] else []
theorem ad5 (a:Int)(h:6<=a/\a<=18):FnEq Tryz.prog 164 [.pv (ag a)] (.pv (ag a)):=by have:=Nj a (by omega);rwa [if_neg (by omega)] at this
@[go_sem] def tsA (x:Ts)(a b:Nat):List AV:=[.pv (ag x.pc),.own a x.re.length,.own b x.te.length,.pv (ag x.ev)]
@[go_sem] def tsO (x:Ts):List Obj:=[.row 2 1 x.re,.row 37 1 x.te]
theorem TsK.put {b:Nat}{x:Ts}(h:TsK b x){j:Nat}{v:Int}{l:List Nat}(d:i64 v)(u:Asc b l){pc:Int}(y:i64 pc):TsK b ⟨pc,x.re.modify j λrow=>ag v::row.drop 1,x.te.modify j λrow=> .sl (nL l)::row.drop 1,x.ev⟩:=by have h1:=(h.ty.mod (j:=j) (f:=λrow=>ag v::row.drop 1) λrow hr=>by obtain⟨a,_,rfl⟩:=qw hr;exact⟨⟨_,d,rfl⟩,trivial⟩);have h2:=(h.tt.mod (j:=j) (f:=λrow=> .sl (nL l)::row.drop 1) λrow hr=>by obtain⟨a,_,rfl⟩:=uQ hr;exact⟨yz u,trivial⟩);exact⟨y,⟨rfl,h1.2⟩,⟨rfl,h2.2⟩,by rw[DX];exact h.r,by rw[DX];exact h.s,h.e0,h.e1⟩
def StQ (b:Nat)(i:In)(x:Ts)(v:AV)(g:List (Option Obj)):Prop:=∃y:Ts,(TsK b y/\y.re.length=x.re.length/\y.te.length=x.te.length/\y.ev=x.ev/\y.pc=(if i.op=5 then i.a else x.pc+1))/\v= .tup [.agg (tsA y 0 1),.pv (boolP true)]/\g=(tsO y).map some
attribute [local go_sem] List.length_modify
theorem XX (b:Nat)(hb:b<=400)(i:In)(x:Ts)(hx:TsK b x)(N:x.te.length=x.re.length)(y:0<=x.pc/\x.pc<=1000)(hs:1<=i.op/\i.op<=5)(h3:i.op≠3)(h4:i.op=4->6<=i.n/\i.n<=18)(hn:i64 i.n)(h5:i.op=5->i64 i.a)(hg:∀q∈regsI i,0<=q/\q<(x.re.length:Int)):
 ACall Tryz.prog 137 [rw_ i.r,.agg (tsA x 0 1)] (tsO x) (StQ b i x):=by
 obtain⟨op,d,A,B,u,st⟩:=i;dsimp only at hs h3 h4 hn h5;have r5:=hx.r;have s5:=hx.s;have X:i64 (x.pc+1):=bM.2 (by omega);have fin:∀(j:Nat) (v:Int) (l:List Nat),op≠5->i64 v->Asc b l->StQ b ⟨op,d,A,B,u,st⟩ x (.tup [.agg (tsA ⟨x.pc+1,x.re.modify j λrow=>ag v::row.drop 1,x.te.modify j λrow=> .sl (nL l)::row.drop 1,x.ev⟩ 0 1),.pv (boolP true)]) ((tsO ⟨x.pc+1,x.re.modify j λrow=>ag v::row.drop 1,x.te.modify j λrow=> .sl (nL l)::row.drop 1,x.ev⟩).map some):=λj v l ho Y N=>⟨_,⟨hx.put Y N X,DX _ _ _,DX _ _ _,rfl,by rw[if_neg ho]⟩,rfl,rfl⟩;refine wz Tryz.func137 ahM (h:=λR J=>?_);refine wb ?_<;>intros;refine wE (jr ⟨op,d,A,B,u,st⟩) ?_;have Z:=mQ ⟨op,d,A,B,u,st⟩;refine wb ?_<;>intros;refine wl (λj:Nat=> [(2,.ptr 2 0),(3,.ptr 3 0),(4,.ptr 4 0),(6,.pv (.sl (Wh (regsI ⟨op,d,A,B,u,st⟩)))),(7,.pv (ag j))]) (λ_=> [some (.row 2 1 x.re),some (.row 37 1 x.te),some (.box ((In.r ⟨op,d,A,B,u,st⟩).map .pv)),some (.box (tsA x 0 1)),some (.box [.pv (ag 0),.emp,.emp,.pv (ag 0)])]) (λj=>j<=(regsI ⟨op,d,A,B,u,st⟩).length) (λj=>(regsI ⟨op,d,A,B,u,st⟩).length-j) 0 (aG _) (vm [0,1,2,10,18]) (λj hj=>?_);refine wb (A2.mk ?_ (A2.mk ?_ (A2.mk ?_ (A2.mk ?_ ?_))))<;>intros;have E:j<(regsI ⟨op,d,A,B,u,st⟩).length:=(by omega);have hq:=hg _ (dm E);refine aB (x:=(regsI ⟨op,d,A,B,u,st⟩)[j]) (by omega) (by simp[E]) rfl ?_;refine wb ?_<;>intros;refine aB (x:=(regsI ⟨op,d,A,B,u,st⟩)[j]) (by omega) (by simp[E]) rfl ?_;refine wb ?_<;>intros;exact sr_mark ⟨j+1,E,by omega,vm [0,1,2,3,4]⟩;have O:op=5:=(by assumption);exact wo J (.tup [.agg (tsA ⟨d,x.re,x.te,x.ev⟩ 0 1),.pv (boolP true)]) ((tsO ⟨d,x.re,x.te,x.ev⟩).map some) [0,1] [] ⟨⟨d,x.re,x.te,x.ev⟩,⟨⟨h5 O,hx.ty,hx.tt,hx.r,hx.s,hx.e0,hx.e1⟩,rfl,rfl,rfl,(if_pos O).symm⟩,rfl,rfl⟩
 . have e1:op=1:=(by assumption);have U:=hg d (by subst e1;simp[regsI]);refine wb ?_<;>intros;exact wo J (.tup [.agg (tsA ⟨x.pc+1,x.re.modify d.toNat λrow=>ag u::row.drop 1,x.te.modify d.toNat λrow=> .sl (nL [])::row.drop 1,x.ev⟩ 0 1),.pv (boolP true)]) ((tsO ⟨x.pc+1,x.re.modify d.toNat λrow=>ag u::row.drop 1,x.te.modify d.toNat λrow=> .sl (nL [])::row.drop 1,x.ev⟩).map some) [0,1] [] (fin d.toNat u [] (by omega) hn ⟨List.Pairwise.nil,λn hn=>nomatch hn⟩)
 have V:op=2:=(by assumption);have U:=hg d (by subst V;simp[regsI]);have q2:=hg A (by subst V;simp[regsI]);refine wb ?_<;>intros;refine hx.ty.ld (by omega) (λG _ y=>?_);obtain⟨a,ha,rfl⟩:=qw y;refine⟨_,rfl,?_⟩;refine wb ?_<;>intros;refine hx.tt.ld (by omega) (λG _ y=>?_);obtain⟨l1,D,rfl⟩:=uQ y;have L:l1.length<=400:=aP D.len hb;refine⟨_,rfl,?_⟩;refine wb ?_<;>intros;exact wo J (.tup [.agg (tsA ⟨x.pc+1,x.re.modify d.toNat λrow=>ag a::row.drop 1,x.te.modify d.toNat λrow=> .sl (nL l1)::row.drop 1,x.ev⟩ 0 1),.pv (boolP true)]) ((tsO ⟨x.pc+1,x.re.modify d.toNat λrow=>ag a::row.drop 1,x.te.modify d.toNat λrow=> .sl (nL l1)::row.drop 1,x.ev⟩).map some) [0,1] [] (fin d.toNat a l1 (by omega) ha D)
 . have e4:op=4:=(by omega);have U:=hg d (by subst e4;simp[regsI]);have q2:=hg A (by subst e4;simp[regsI]);have q3:=hg B (by subst e4;simp[regsI]);have n4:=h4 e4;refine wE (ad5 u n4) ?_;refine wb ?_<;>intros;refine hx.ty.ld (by omega) (λG _ y=>?_);obtain⟨a,ha,rfl⟩:=qw y;refine⟨_,rfl,?_⟩;refine wb ?_<;>intros;refine hx.ty.ld (by omega) (λG _ y=>?_);obtain⟨c,hc,rfl⟩:=qw y;refine⟨_,rfl,?_⟩;refine wb ?_<;>intros;refine wG (Pn u a c ha hc n4) (.tup [.pv (ag 0),.pv (boolP true)]) ⟨0,mV,rfl⟩ ?_;rintro v ⟨z,hz,rfl⟩;refine wb ?_<;>intros;refine hx.tt.ld (by omega) (λG _ y=>?_);obtain⟨l1,D,rfl⟩:=uQ y;have L:l1.length<=400:=aP D.len hb;refine⟨_,rfl,?_⟩;refine wb ?_<;>intros;refine hx.tt.ld (by omega) (λG _ y=>?_);obtain⟨l2,H,rfl⟩:=uQ y;have a6:l2.length<=400:=aP H.len hb;refine⟨_,rfl,?_⟩;refine wb ?_<;>intros;refine wG (LD b hb l1 D l2 H) (.pv (.sl (nL []))) ⟨[],⟨List.Pairwise.nil,λn hn=>nomatch hn⟩,rfl⟩ ?_;rintro v ⟨l3,I,rfl⟩;have a7:l3.length<=400:=aP I.len hb;refine wb ?_<;>intros;exact wo J (.tup [.agg (tsA ⟨x.pc+1,x.re.modify d.toNat λrow=>ag z::row.drop 1,x.te.modify d.toNat λrow=> .sl (nL l3)::row.drop 1,x.ev⟩ 0 1),.pv (boolP true)]) ((tsO ⟨x.pc+1,x.re.modify d.toNat λrow=>ag z::row.drop 1,x.te.modify d.toNat λrow=> .sl (nL l3)::row.drop 1,x.ev⟩).map some) [0,1] [] (fin d.toNat z l3 (by omega) hz I)
end AM
namespace AM
open Go Go.Proofs Mk
def akq:Ts:=⟨0,[],[],0⟩
theorem acj (m:Nat):TsK m akq:=⟨mV,TyR.nil,TyR.nil,aG _,aG _,rU _,DC m⟩
def SlQ (m:Nat)(v:AV):Prop:=∃y ok,TsK m y/\v= .tup [rw_ (yf y),.pv (boolP ok)]
theorem ES {m:Nat} :SlQ m (.tup [rw_ [ag 0,.sl [],.sl [],ag 0],.pv (boolP false)]):=⟨akq,_,acj m,rfl⟩
theorem Ia (n t:Nat)(ss:List (Nat×Nat))(A:Nat)(l:List In)(G:GoodC n ss t A l)(hm:∀i∈l,NumI i)(b:Nat)(hb:b<=400)(x:Ts)(hx:TsK b x):
 kV Tryz.prog 101 [rw_ [ag A,.sl (l.map In.r)],rw_ (yf x)] (SlQ b):=by have x2:=hx.r;have x3:=hx.s;have V:=G.r1;have hlen:=G.len;refine wf Tryz.func101 (λ_=> []) (h:=λR J=>?_);refine wb (A2.mk ?_ (A2.mk ?_ ?_))<;>intros;(all_goals try exact wt J (.tup [rw_ [ag 0,.sl [],.sl [],ag 0],.pv (boolP false)]) [] ES);have X:x.re.length=A:=(by omega);have es:x.te.length=A:=(by omega);refine wq (Oa b hb x hx) [] ?_;rintro r g ⟨rfl,rfl⟩;refine wb ?_<;>intros;refine wl (λu:Nat×Ts=> [(2,.ptr 0 0),(3,.ptr 1 0),(4,.ptr 2 0),(6,.pv (ag u.1))]) (λu=> [some (.box [.pv (ag A),.pv (.sl (l.map In.r))]),some (.box (tsA u.2 3 4)),some (.box [.pv (ag 0),.emp,.emp,.pv (ag 0)]),some (.row 2 1 u.2.re),some (.row 37 1 u.2.te)]) (λu=>u.1<=l.length+1/\TsK b u.2/\u.2.re.length=A/\u.2.te.length=A) (λu=>l.length+1-u.1) (0,x) ⟨aG _,hx,X,es⟩ (vm [0,8,16,152,153]) (λ⟨k,y⟩ ⟨hk,E,O,Y⟩=>?_);dsimp only at hk E O Y;have y2:=E.r;have y3:=E.s;refine wb (A2.mk ?_ (A2.mk ?_ (A2.mk ?_ ?_)))<;>intros;(all_goals try exact wt J (.tup [rw_ [ag 0,.sl [],.sl [],ag 0],.pv (boolP false)]) [] ES);have B:y.pc.toNat<l.length:=(by omega);have d:=aV B;have D:=hm l[y.pc.toNat] (dm B);have hg:(l.map In.r)[y.pc.toNat]?=some (l[y.pc.toNat]).r:=(by simp[B]);generalize l[y.pc.toNat]=i at D hg d;have Z:=G.op _ _ d;have U:=G.obj _ _ d;have L:=G.jmp _ _ d;have H:=G.regs _ _ d;rw[<-O] at H;refine aj (by omega) hg rfl ?_;refine wb ?_<;>intros;refine wE (Hz i.op) ?_;refine wb (A2.mk ?_ (A2.mk ?_ ?_))<;>intros;exact wt J (.tup [rw_ [ag 0,.sl [],.sl [],ag 0],.pv (boolP false)]) [] ES;rename_i I a6;simp only[cZ,gK] at I;have N:i64 i.n:=bM.2 (by have:=D.1;have:=D.2;omega);have h5:i.op=5->i64 i.a:=(λh5=>by obtain⟨z,z1,z2⟩:=L h5;exact bM.2 (by omega));refine wq (XX b hb i y E (by omega) (by omega) I U.o3 U.o4 N h5 H) [3,4] ?_;rintro r g ⟨z,⟨hz,z1,z2,z3,z4⟩,rfl,rfl⟩;refine wb ?_<;>intros;exact sr_mark ⟨(k+1,z),⟨by dsimp only;omega,hz,by dsimp only;omega,by dsimp only;omega⟩,by dsimp only;omega,vm [0,1,2,3,4]⟩;exact wt J (.tup [rw_ (yf y),.pv (boolP true)]) [(3,none),(4,none)] ⟨y,_,E,rfl⟩
structure CdG (n:Nat)(ss:List (Nat×Nat))(cs:List (Int×List In)):Prop where
 n1:1<=n
 n4:n<=4
 s60:ss.length<=60
 so:SiteOk n ss
 val:FnEq Tryz.prog 41 [rw_ (coR n ss cs)] (.pv (boolP true))
 len:cs.length=n
 good:∀(k:Nat) r l,cs[k]?=some (r,l)->GoodC n ss k r l
 num:∀(k:Nat) r l,cs[k]?=some (r,l)->∀i∈l,NumI i
structure St where
 y:Sy
 tx:Int
 cl:List (List PV)
 fu:List (List PV)
 xs:List Ts
@[go_sem] def oh (s:St):List PV:=[.sl s.y.a,ag s.tx,.sl s.y.b,.sl s.y.c,.sl s.cl,.sl s.fu,.sl (s.xs.map yf)]
structure StK (n m:Nat)(s:St):Prop where
 y:SyK n s.y
 tx:i64 s.tx
 cl:TyR [.int .i64] 5 s.cl
 fu:TyR [.int .i64] 1 s.fu
 len:s.xs.length=n
 xs:∀x∈s.xs,TsK m x
@[go_sem] def ts0 (p:Int×List In):Ts:=⟨0,List.replicate p.1.toNat [ag 0],List.replicate p.1.toNat [.sl []],0⟩
@[go_sem] theorem ahT:(dE Tryz.prog 2).bind oq=some [ag 0]:=by kernel_rfl
@[go_sem] theorem ak1:(dE Tryz.prog 37).bind oq=some [.sl []]:=by kernel_rfl
def cl0:List (List PV):=[[ag 0],[ag 1],[ag 0],[ag 0],[ag 0]]
def fu0:List (List PV):=[[ag 0]]
def UO (n:Nat)(cs:List (Int×List In)):St:=⟨sy0 n,-1,cl0,fu0,cs.map ts0⟩
theorem aeb {r:Nat}(hr:r<=5)(l:List In):TsK 0 (ts0 ((r:Int),l)):=by have h1:(List.replicate ((r:Int).toNat) [ag 0]).length<=5:=(by simpa using hr);have h2:(List.replicate ((r:Int).toNat) [PV.sl []]).length<=5:=(by simpa using hr);exact⟨mV,⟨rfl,λrow h=>by rw[(Qs.1 h).2];exact⟨⟨_,mV,rfl⟩,trivial⟩⟩,⟨rfl,λrow h=>by rw[(Qs.1 h).2];exact⟨yz (l:=[]) ⟨List.Pairwise.nil,λn hn=>nomatch hn⟩,trivial⟩⟩,h1,h2,rU _,rU _⟩
theorem adq {n:Nat}{ss:List (Nat×Nat)}{cs:List (Int×List In)}(C:CdG n ss cs):StK n 0 (UO n cs):=by have hc:∀v:Int,i64 v->rO [.int .i64] [ag v]:=λv h=>⟨⟨_,h,rfl⟩,trivial⟩;refine⟨aec n,(bM.2 (by decide):i64 (-1)),⟨rfl,λrow h=>?_⟩,⟨rfl,λrow h=>?_⟩,by simp[UO,C.len],λx hx=>?_⟩;simp only[UO,cl0,dV,jK,or_false] at h;((rcases h with rfl|rfl|rfl|rfl|rfl<;>first|exact hc _ mV|exact hc _ WC);simp only[UO,fu0,dV,jK,or_false] at h;rw[h];exact hc _ mV);obtain⟨p,a,rfl⟩:=iV.1 hx;obtain⟨k,hk⟩:=mg.1 a;obtain⟨r,l⟩:=p;have G:=C.good k r l hk;have h0:=G.r0;have h1:=G.r1;obtain⟨r,rfl⟩:=Gp (Int.le_trans (by decide:(0:Int)<=2) h0);exact aeb (by omega) l
def anD:Nat->List (Nat×Nat):=λi=>if i=7 then [(1,4),(1,6),(1,8)] else if i=15 then [(1,3),(1,5),(1,7),(1,10),(3,10),(5,10),(7,10),(1,12),(3,12),(5,12),(7,12),(1,14),(3,14),(5,14),(7,14)] else []
attribute [local go_sem] rep Int.toNat_natCast thNames_len List.length_range List.length_map List.set_cons_zero List.set_cons_succ List.map_append List.length_append List.map_cons List.map_nil List.length_singleton
theorem Ul (n:Nat)(ss:List (Nat×Nat))(cs:List (Int×List In))(C:CdG n ss cs):FnEq Tryz.prog 43 [rw_ (coR n ss cs)] (rw_ (oh (UO n cs))):=by
 obtain⟨n1,n4,s60,so,val,len,good,num⟩:=C;refine wf Tryz.func43 anD (h:=λR B=>?_);refine wb ?_<;>intros;refine wE val ?_;refine wb ?_<;>intros;refine wE (UQ n ss n4) ?_;refine wb ?_<;>intros;refine sr_ghost 72 4 2 1 rfl rfl ?_;refine sr_ghost 72 5 2 1 rfl rfl ?_;refine sr_ghost 72 6 169 4 rfl rfl ?_;refine wn 6 ?_;refine wb ?_<;>intros;(iterate 5 (refine aj (by omega) rfl rfl ?_;refine wb ?_<;>intros));refine wn 2 ?_;refine wb ?_<;>intros;refine wl (λu:List Ts=> [(1,.ptr 0 0),(2,.ptr 1 0),(3,.ptr 2 0),(6,.pv (ag u.length))]) (λu=> [some (.box ((coR n ss cs).map .pv)),some (.box [.emp,.pv (ag 0),.emp,.emp,.emp,.emp,.emp]),some (.box [.pv (.sl [lk0,lk0,lk0]),.pv (ag (-1)),.pv (.sl [[boolP false]]),.pv (.sl ((List.range n).map thI)),.pv (.sl [[ag 0],[ag 1],[ag 0],[ag 0],[ag 0]]),.pv (.sl [[ag 0]]),.own 3 u.length]),some (.row 169 4 (u.map yf))]) (λu=>u.length<=cs.length/\Hd (u=(cs.map ts0).take u.length)) (λu=>cs.length-u.length) [] ⟨aG _,⟨rfl⟩⟩ (vm [0,8,72,98] [(931,none),(1107,none)]) (λu ⟨hk,d⟩=>?_);refine wb (A2.mk ?_ ?_)<;>intros
 . have h2:u.length<cs.length:=(by omega);have hg:=aV h2;have a:=good u.length cs[u.length].1 cs[u.length].2 hg;generalize cs[u.length]=x at hg a;obtain⟨r,l⟩:=x;have y:=a.r0;have A:=a.r1;dsimp only at y A;obtain⟨r,rfl⟩:=Gp (Int.le_trans (by decide:(0:Int)<=2) y);(iterate 2 (refine aB (x:=((r:Int),l)) (by omega) (by simpa using hg) rfl ?_;refine wb ?_<;>intros));have e1:(u++[ts0 ((r:Int),l)]).length=u.length+1:=(by simp);exact sr_mark ⟨u++[ts0 ((r:Int),l)],⟨by omega,⟨by rw[e1,oP,<-d.out,bK,hg];rfl⟩⟩,by omega,vm [0,1,2,188]⟩
 have e1:u.length=(cs.map ts0).length:=(by rw[gy];omega);have d:=d.out;rw[e1,oQ] at d;subst d;exact wr B [(3,none)] (hE:=by refine ws ?_;exact⟨rfl,rfl,rfl,rfl,rfl,rfl,rfl,by simp[UO]⟩)
end AM
namespace AM
open Go Go.Proofs Mk
def FitT (r:Int)(l:List In)(x:Ts):Prop:=0<=x.pc/\x.pc<l.length/\(x.re.length:Int)=r/\(x.te.length:Int)=r
def aku (cs:List (Int×List In))(xs:List Ts)(n:Nat):Prop:=∀(k:Nat) r l x,k<n->cs[k]?=some (r,l)->xs[k]?=some x->FitT r l x
def akv:Nat->List (Nat×Nat):=λ_=> [(5,7),(5,9),(5,11),(17,20),(17,22),(17,24),(29,32),(29,34),(29,36)]
theorem Wv (n:Nat)(ss:List (Nat×Nat))(cs:List (Int×List In))(C:CdG n ss cs)(m:Nat)(s:St)(hs:StK n m s):kV Tryz.prog 127 [rw_ (coR n ss cs),rw_ (oh s)] (Jp (aku cs s.xs n)):=by
 obtain⟨n1,n4,s60,so,val,len,good,num⟩:=C;have B:=Nq n ss n4 s.y hs.y s.tx;have O:=hs.len;have h1:=hs.cl.1;have h2:=hs.fu.1;refine wf Tryz.func127 akv (h:=λR D=>?_);refine wb ?_<;>intros;refine wE val ?_;refine wb ?_<;>intros;refine wE B ?_;refine wb ?_<;>intros;(all_goals try exact wt D (.pv (boolP false)) [] ⟨_,rfl,λh=>by cases h⟩);refine wl (λk:Nat=> [(2,.ptr 0 0),(3,.ptr 1 0),(5,.pv (ag k))]) (λk=> [some (.box ((coR n ss cs).map .pv)),some (.box ((oh s).map .pv))]) (λk=>k<=n/\aku cs s.xs k) (λk=>n-k) 0 ⟨aG _,λk r l x h=>absurd h (Nat.not_lt_zero k)⟩ (vm [0,8]) (λk ⟨hk,hf⟩=>?_);refine wb (A2.mk ?_ ?_)<;>intros
 . have h2:k<cs.length:=(by omega);have h3:k<s.xs.length:=(by omega);have hg:=aV h2;have A:=aV h3;have E:=hs.xs _ (dm h3);have u:=good k cs[k].1 cs[k].2 hg;generalize s.xs[k]=x at A E;generalize cs[k]=y at hg u;obtain⟨J,l⟩:=y;have U:=E.pc;have V:=E.r;have X:=E.s;have G:=u.r0;have H:=u.r1;have hlen:=u.len;dsimp only at G H hlen;have I:(cs.map tcR)[k]?=some (tcR (J,l)):=(by rw[bK,hg];rfl);refine aB (x:=x) (by omega) (by simpa using A) rfl ?_;refine wb (A2.mk ?_ ?_)<;>intros
   iterate 3
    (all_goals try exact wt D (.pv (boolP false)) [] ⟨_,rfl,λh=>by cases h⟩);all_goals try (refine aj (by omega) I rfl ?_;refine wb (A2.mk ?_ ?_)<;>intros)
   (all_goals try exact wt D (.pv (boolP false)) [] ⟨_,rfl,λh=>by cases h⟩);refine sr_mark ⟨k+1,⟨by omega,λj L l' N Y a d=>?_⟩,by omega,vm [0,1]⟩;rcases vT j k with hjk|hjk;exact hf j L l' N hjk a d;obtain rfl:j=k:=(by omega);rw[hg] at a;rw[A] at d;injection a with a;injection a with e1 e2;injection d with d;subst e1 e2 d;exact⟨by omega,by omega,by assumption,by assumption⟩
 exact wt D (.pv (boolP true)) [] ⟨_,rfl,λ_=>by obtain rfl:k=n:=(by omega);exact hf⟩
structure EvA where
 thread:Int
 kind:Int
 obj:Int
 value:Int
 site:Int
 deps:List Nat
 fr:List Nat
@[go_sem] def EvA.r (e:EvA):List PV:=[ag e.thread,ag e.kind,ag e.obj,ag e.value,ag e.site,.sl (nL e.deps),.sl (nL e.fr)]
structure PnG (n:Nat)(cs:List (Int×List In))(m:Nat)(xs:List Ts)(t:Nat)(e:EvA)(r:Nat)(l:List In)(x:Ts)(i:In):Prop where
 tn:t<n
 hc:cs[t]?=some ((r:Int),l)
 hx:xs[t]?=some x
 fit:FitT r l x
 hi:l[x.pc.toNat]?=some i
 th:e.thread=t
 obj:i64 e.obj
 kd:e.kind=1\/e.kind=17\/e.kind=kdF i.op
 k0:e.kind≠0
 site: -1<=e.site/\e.site<=60
 dp:Asc m e.deps
 frm:Asc m e.fr
def PnQ (n:Nat)(cs:List (Int×List In))(m:Nat)(xs:List Ts)(t:Int)(v:AV):Prop:=∃e ok,v= .tup [rw_ (EvA.r e),.pv (boolP ok)]/\(ok=true->∃t' r l x i,t=((t':Nat):Int)/\PnG n cs m xs t' e r l x i)
theorem Pm {n:Nat}{cs:List (Int×List In)}{m:Nat}{xs:List Ts}{t:Int}{e:EvA} :PnQ n cs m xs t (.tup [rw_ (EvA.r e),.pv (boolP false)]):=⟨_,_,rfl,λh=>by cases h⟩
def amv:Nat->List (Nat×Nat):=λi=>if i=4 then [(1,7),(3,7),(5,7),(1,10),(3,10),(5,10),(7,10),(8,10),(9,10)] else if i=11 then [(2,8),(4,8),(6,8)] else if i=14 then [(1,3),(2,3),(1,4),(2,4),(3,4)] else if i=19 then [(1,3),(1,5),(3,5),(1,6),(1,7)] else if i=22 then [(1,3),(1,5),(3,5),(1,6),(1,7)] else if i=24 then [(1,3),(1,5),(3,5),(1,6),(1,7)] else []
theorem Lp (n:Nat)(ss:List (Nat×Nat))(cs:List (Int×List In))(C:CdG n ss cs)(m:Nat)(hm:m<=400)(s:St)(hs:StK n m s)(t:Int):kV Tryz.prog 98 [rw_ (coR n ss cs),rw_ (oh s),.pv (ag t)] (PnQ n cs m s.xs t):=by
 have V:=Wv n ss cs C m s hs;have hl:=hs.len;have av:=hs.y.c.1;obtain⟨n1,n4,s60,so,val,len,good,num⟩:=C;refine wf Tryz.func98 amv (h:=λR D=>?_);refine wb ?_<;>intros;refine wF V ?_;rintro v ⟨z,rfl,hz⟩;refine wb (A2.mk ?_ (A2.mk ?_ (A2.mk ?_ ?_)))<;>intros;(all_goals try exact wt D (.tup [rw_ (EvA.r ⟨0,0,0,0,0,[],[]⟩),.pv (boolP false)]) [] Pm);rename_i Z aw aD;obtain⟨t,rfl⟩:=Gp (by omega:0<=t);have h2:t<cs.length:=(by omega);have h3:t<s.xs.length:=(by omega);have hg:=aV h2;have E:=aV h3;have Y:=hs.xs _ (dm h3);have u:=good t cs[t].1 cs[t].2 hg;have J:=num t cs[t].1 cs[t].2 hg;have L:=hz Z t cs[t].1 cs[t].2 s.xs[t] (by omega) hg E;generalize s.xs[t]=x at E Y L;generalize cs[t]=y at hg u L J;obtain⟨pc,re,te,ev⟩:=x;obtain⟨rr,l⟩:=y;obtain⟨f1,f2,f3,f4⟩:=L;have N:=Y.ty;have G:=Y.tt;have x2:=Y.r;dsimp only at N G x2 f1 f2 f3 f4 u J;obtain⟨p,rfl⟩:=Gp f1;subst f3;obtain⟨r,hr⟩:∃r,r=re.length:=⟨_,rfl⟩;have a6:te.length=r:=(by omega);rw[a6] at G;rw[<-hr] at N x2 hg u;have X:p<l.length:=(by omega);have A:=aV X;have hlen:=u.len;have O:=J l[p] (dm X);generalize l[p]=i at A O;have a7:(cs.map tcR)[t]?=some (tcR ((r:Int),l)):=(by rw[bK,hg];rfl);have a8:(l.map In.r)[p]?=some i.r:=(by rw[bK,A];rfl);have aa:=u.op p i A;have Wx:=u.obj p i A;have ab:=u.site p i A;have ad:=u.jmp p i A;have H:=u.regs p i A;have B: -1<=i.site/\i.site<=60:=(by rcases ab with ⟨_,h⟩|⟨_,q,m',h,h'⟩;omega;have:=(bV.1 h').1;omega);have al:i.op=5->0<=i.a/\i.a<=1000:=(λh=>by obtain⟨k,e1,e2⟩:=ad h;omega);have an:i64 i.n:=bM.2 (by have:=O.1;have:=O.2;omega);have I:∀e:EvA,e.thread=t->i64 e.obj->(e.kind=1\/e.kind=17\/e.kind=kdF i.op)->e.kind≠0-> -1<=e.site/\e.site<=60->Asc m e.deps->Asc m e.fr->PnQ n cs m s.xs t (.tup [rw_ (EvA.r e),.pv (boolP true)]):=λe e1 e2 e3 e4 e5 e6 e7=>⟨e,true,rfl,λ_=>⟨t,r,l,⟨p,re,te,ev⟩,i,rfl,⟨by omega,hg,E,⟨f1,f2,by dsimp only;omega,by dsimp only;omega⟩,A,e1,e2,e3,e4,e5,e6,e7⟩⟩⟩;have im:i64 (-1):=bM.2 (by decide);have rA:i.op=10->0<=i.a/\i.a<r:=λh=>H i.a (by simp[regsI,h]);have rC:i.op=7\/i.op=9->0<=i.c/\i.c<r:=λh=>H i.c (by rcases h with h|h<;>simp[regsI,h]);have rB:i.op=8\/i.op=9\/i.op=26->0<=i.b/\i.b<r:=λh=>H i.b (by rcases h with h|h|h<;>simp[regsI,h]);have a0:Asc m []:=⟨List.Pairwise.nil,λ_ h=>nomatch h⟩;refine aB (x:=(⟨p,re,te,ev⟩:Ts)) (by omega) (by simpa using E) rfl ?_;refine wb ?_<;>intros;refine aj (by omega) a7 rfl ?_;refine wb ?_<;>intros;refine aj (by omega) a8 rfl ?_;refine wb ?_<;>intros;refine hs.y.c.row (by omega) (by omega) (λps ao aq=>?_);obtain⟨st,co,bo,aL,ar,rfl⟩:=oW aq;refine wb (A2.mk ?_ (A2.mk ?_ (A2.mk ?_ ?_)))<;>intros;exact wt D (.tup [rw_ (EvA.r ⟨t,1,-1,0,-1,[],[]⟩),.pv (boolP true)]) [] (I ⟨t,1,-1,0,-1,[],[]⟩ rfl im (.inl rfl) (λh=>by cases h) ⟨rU _,by show (-1:Int)<=60;decide⟩ a0 a0);refine aj (by omega) ao rfl ?_;refine wb ?_<;>intros;exact wt D (.tup [rw_ (EvA.r ⟨t,17,co,0,i.site,[],[]⟩),.pv (boolP true)]) [] (I ⟨t,17,co,0,i.site,[],[]⟩ rfl ar (.inr (.inl rfl)) (λh=>by cases h) B a0 a0)
 . refine wE (aar i.op (bM.2 (by omega))) ?_;have aM:=Ui i.op;refine wb ?_<;>intros;refine wG (Uj n n4 i aa Wx al an ⟨p,re,te,ev⟩ r N x2 H) (.pv (ag 0)) ⟨0,mV,rfl⟩ ?_;rintro v ⟨o,ho,rfl⟩;refine wb (A2.mk ?_ (A2.mk ?_ (A2.mk ?_ (A2.mk ?_ (A2.mk ?_ (A2.mk ?_ ?_))))))<;>intros;all_goals try exact wt D (.tup [rw_ (EvA.r ⟨0,0,0,0,0,[],[]⟩),.pv (boolP false)]) [] Pm
   all_goals try
    refine G.row (by omega) (by omega) (λps _ hp=>?_);obtain⟨d,U,rfl⟩:=uQ hp;have aR:d.length<=400:=aP U.len hm;refine wb ?_<;>intros
   exact wt D (.tup [rw_ (EvA.r ⟨t,kdF i.op,o,0,i.site,d,[]⟩),.pv (boolP true)]) [(656,none)] (I ⟨t,kdF i.op,o,0,i.site,d,[]⟩ rfl ho (.inr (.inr rfl)) (by assumption) B U a0);exact wt D (.tup [rw_ (EvA.r ⟨t,kdF i.op,o,0,i.site,d,[]⟩),.pv (boolP true)]) [(672,none)] (I ⟨t,kdF i.op,o,0,i.site,d,[]⟩ rfl ho (.inr (.inr rfl)) (by assumption) B U a0);refine G.row (by omega) (by omega) (λps _ hp=>?_);obtain⟨f,hf,rfl⟩:=uQ hp;have b0:f.length<=400:=aP hf.len hm;refine wb ?_<;>intros;exact wt D (.tup [rw_ (EvA.r ⟨t,kdF i.op,o,0,i.site,d,f⟩),.pv (boolP true)]) [(688,none),(880,none)] (I ⟨t,kdF i.op,o,0,i.site,d,f⟩ rfl ho (.inr (.inr rfl)) (by assumption) B U hf);exact wt D (.tup [rw_ (EvA.r ⟨t,kdF i.op,o,0,i.site,[],d⟩),.pv (boolP true)]) [(792,none)] (I ⟨t,kdF i.op,o,0,i.site,[],d⟩ rfl ho (.inr (.inr rfl)) (by assumption) B a0 U);exact wt D (.tup [rw_ (EvA.r ⟨t,kdF i.op,o,0,i.site,[],d⟩),.pv (boolP true)]) [(792,none)] (I ⟨t,kdF i.op,o,0,i.site,[],d⟩ rfl ho (.inr (.inr rfl)) (by assumption) B a0 U);exact wt D (.tup [rw_ (EvA.r ⟨t,kdF i.op,o,0,i.site,[],[]⟩),.pv (boolP true)]) [] (I ⟨t,kdF i.op,o,0,i.site,[],[]⟩ rfl ho (.inr (.inr rfl)) (by assumption) B a0 a0)
 exact wt D (.tup [rw_ (EvA.r ⟨0,0,0,0,0,[],[]⟩),.pv (boolP false)]) [] Pm
