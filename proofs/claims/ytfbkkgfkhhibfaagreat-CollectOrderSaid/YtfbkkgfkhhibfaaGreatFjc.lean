/- Words. -/
import Derived.Test.YtfbkkgfkhhibfaaGreatFk
import Derived.Test.YtfbkkgfkhhibfaaGreatTh
set_option linter.unusedVariables false
set_option linter.unusedSimpArgs false
namespace AM
open Go Go.Proofs Mk
set_option maxRecDepth 20000
set_option maxHeartbeats 8000000
structure CeR where
 name:ByteArray
 ix:Int
 size:Int
 vol:Bool
 init:Int
@[go_sem] def CeR.r (c:CeR):List PV:= [bJ c.name,ag c.ix,ag c.size,boolP c.vol,ag c.init]
def Jt:List CeR:= [⟨⟨#[120]⟩,0,0,false,0⟩,⟨⟨#[121]⟩,0,0,false,1⟩,⟨⟨#[118]⟩,0,0,true,0⟩,⟨⟨#[113]⟩,0,2,false,0⟩,⟨⟨#[113]⟩,1,2,false,0⟩]
def JC:List (ByteArray×Bool):= [(⟨#[109]⟩,false),(⟨#[110]⟩,false),(⟨#[114]⟩,true)]
@[go_sem] def JD (p:ByteArray×Bool):List PV:= [bJ p.1,boolP p.2]
def Ju:List (ByteArray×Int):= [(⟨#[99]⟩,0)]
@[go_sem] def QG (p:ByteArray×Int):List PV:= [bJ p.1,ag p.2]
def QH:List ByteArray:= [⟨#[102]⟩]
@[go_sem] def QI (p:Nat×Nat):List PV:= [ag p.1,ag p.2,ag 0]
@[go_sem] def mO (n:Nat)(ss:List (Nat×Nat)):List PV:= [.sl (Jt.map CeR.r),.sl (JC.map JD),.sl (Ju.map QG),.sl (fV QH),.sl (fV (thNames n)),.sl (ss.map QI)]
@[go_sem] theorem NW:Jt.length=5:=rfl
@[go_sem] theorem ahT:JC.length=3:=rfl
@[go_sem] theorem NY:Ju.length=1:=rfl
@[go_sem] theorem ahU:QH.length=1:=rfl
end AM
namespace Mk
open AM
@[go_sem] def In.r (i:In):List PV:= [ag i.op,ag i.a,ag i.b,ag i.c,ag i.n,ag i.site]
end Mk
namespace AM
open Go Go.Proofs Mk
set_option maxRecDepth 20000
set_option maxHeartbeats 8000000
abbrev Z7 (l:List Int):List (List PV):=l.map fun x=> [ag x]
theorem ig (i:In):FnEq Tryz.prog 72 [rw_ i.r] (.pv (.sl (Z7 (regsI i)))):=by
 obtain⟨op,a,b,c,n,st⟩:=i;unfold regsI;dsimp only;refine wf Tryz.func72 (fun _=> []) (h:=fun R hR=>?_);refine wb (A2.mk ?_ (A2.mk ?_ (A2.mk ?_ (A2.mk ?_ (A2.mk ?_ (A2.mk ?_ (A2.mk ?_ (A2.mk ?_ (A2.mk ?_ (A2.mk ?_ (A2.mk ?_ ?_))))))))))) <;> intros
 all_goals exact wr hR
@[go_sem] def Yw (p:Int×List In):List PV:= [ag p.1,.sl (p.2.map In.r)]
@[go_sem] def coR (n:Nat)(ss:List (Nat×Nat))(cs:List (Int×List In)):List PV:= [.sl (Jt.map CeR.r),.sl (JC.map JD),.sl (Ju.map QG),.sl (fV QH),.sl (fV (thNames n)),.sl (ss.map QI),.sl (cs.map Yw)]
set_option maxRecDepth 20000
set_option maxHeartbeats 8000000
abbrev YH:List CT:= [.int .i64,.asc 400]
abbrev YI:List CT:= [.int .i64,.int .i64,.bool]
@[go_sem] def xx (n:Nat)(tx:Int):List PV:= [.tr YH 3,ag tx,.tr [.bool] 1,.tr YI n]
@[go_sem] def Zh (i:Nat):List PV:= [ag (if i=0 then 1 else 0),ag 0,boolP false]
@[go_sem] theorem agj {l:List Nat} :lD YI (l.map Zh)=True:=by
 refine eq_true fun row hr=>?_
 obtain⟨i,_,rfl⟩:=List.mem_map.1 hr;unfold Zh YI;simp only[Qv,Vg,ok_int,X8,and_true,true_and];refine⟨?_,by rw[IntKind.wrap_i64];omega⟩;split <;> rw[IntKind.wrap_i64] <;> omega
attribute [local go_sem] rep thNames_len List.length_range List.length_map List.set_cons_zero List.set_cons_succ
theorem O7 (n:Nat)(ss:List (Nat×Nat))(hn:n≤4):FnEq Tryz.prog 67 [rw_ (mO n ss)] (rw_ (xx n (-1))):=by
 refine wf Tryz.func67 (fun _=> []) (h:=fun R hR=>?_);refine wb ?_ <;> intros
 refine dh 24 0 231 2 rfl rfl ?_;refine dh 24 2 4 1 rfl rfl ?_;refine dh 24 3 233 3 rfl rfl ?_;refine wn 4 ?_;refine wb ?_ <;> intros
 refine wn 2 ?_;refine wb ?_ <;> intros
 refine wl (fun k:Nat=> [(1,.ptr 0 0),(2,.ptr 1 0),(3,.ptr 2 0),(6,.pv (ag k))]) (fun k=> [some (.box ((mO n ss).map .pv)),some (.box [.emp,.pv (ag 0),.emp,.emp]),some (.box [.pv (.tr YH 3),.pv (ag (-1)),.pv (.tr [.bool] 1),.own 3 k]),some (.row 233 3 ((List.range k).map Zh))]) (fun k=>k≤n) (fun k=>n - k) 0 (Nat.zero_le _) (vm [0,8,24,50] [(363,some YH),(523,some [.bool])]) (fun k hk=>?_);refine wb (A2.mk ?_ (A2.mk ?_ ?_)) <;> intros
 · have e1:(List.range (k+1)).map Zh=(List.range k).map Zh++ [[ag 1,ag 0,boolP false]]:=by
    obtain rfl:k=0:=by omega
    rfl
   refine ai ⟨k+1,by omega,by omega,?_⟩;rw[e1];exact vm [0,1,2,132]
 · have e1:(List.range (k+1)).map Zh=(List.range k).map Zh++ [[ag 0,ag 0,boolP false]]:=by
    have h0:k≠0:=by omega
    rw[List.range_succ,List.map_append,List.map_singleton,Zh,if_neg h0]
   refine ai ⟨k+1,by omega,by omega,?_⟩;rw[e1];exact vm [0,1,2,116]
 · obtain rfl:k=n:=by omega
   exact wr hR [(3,some YI)]
theorem Ho (n:Nat)(ss:List (Nat×Nat))(hn:n≤4)(tx:Int):FnEq Tryz.prog 158 [rw_ (mO n ss),rw_ (xx n tx)] (.pv (boolP true)):=by
 refine wf Tryz.func158 (fun _=> [(9,15),(11,15),(13,15)]) (h:=fun R hR=>?_);refine wb ?_ <;> intros
 refine wn 2 ?_;refine wb ?_ <;> intros
 iterate 2 (refine au (by omega) rfl rfl ?_;refine wb ?_ <;> intros)
 exact wr hR
end AM
namespace AM
open Go Go.Proofs
set_option maxRecDepth 20000
set_option maxHeartbeats 8000000
@[go_sem] def SY (b:Nat)(pc:Int)(r s:Nat)(ev:Int):List PV:= [ag pc,.tr [.int .i64] r,.tr [.asc b] s,ag ev]
def afW:Nat→List (Nat×Nat):=fun i=>if i=1 then [(1,3),(1,6),(3,6),(1,7),(3,7),(1,9),(3,9),(6,9),(7,9)] else if i=5 then [(1,4),(1,6),(1,7),(1,8)] else []
@[go_sem] def nLR (m:List Nat):List PV:= [.sl (nL m)]
theorem UT {b:Nat}{u:List (List Nat)}(h:∀m∈u,Asc b m):lD [.asc b] (u.map nLR):=by
 intro row hr;obtain⟨x,hx,rfl⟩:=List.mem_map.1 hr;exact⟨nY (h x hx),trivial⟩
attribute [local go_sem] List.set_cons_zero List.set_cons_succ List.map_append List.length_append List.map_cons List.map_nil List.length_singleton
theorem Iy (b b':Nat)(hb:b≤b')(h4:b'≤400)(pc:Int)(r s:Nat)(ev:Int)(hr:r≤5)(hs:s≤5):FnEq Tryz.prog 136 [rw_ (SY b pc r s ev)] (rw_ (SY b' pc r s ev)):=by
 refine wf Tryz.func136 afW (h:=fun R hR=>?_);refine wb ?_ <;> intros
 refine dh 88 2 37 1 rfl rfl ?_;refine wl (fun u:List (List Nat)=> [(1,.ptr 0 0),(2,.ptr 1 0),(3,.ptr 2 0),(4,.pv (ag u.length))]) (fun u=> [some (.box ((SY b pc r s ev).map .pv)),some (.box [.pv (ag 0),.emp,.emp,.pv (ag 0)]),some (.box [.pv (ag pc),.pv (.tr [.int .i64] r),.own 3 u.length,.pv (ag ev)]),some (.row 37 1 (u.map nLR))]) (fun u=>u.length≤s∧∀m∈u,Asc b m) (fun u=>s - u.length) [] ⟨Nat.zero_le _,fun _ h=>nomatch h⟩ (vm [0,8,88,112]) (fun u ⟨hu,hx⟩=>?_);refine wb (A2.mk ?_ ?_) <;> intros
 · refine iO fun l hl=>?_
   have hl4:l.length≤400:=Nat.le_trans hl.len (Nat.le_trans hb h4);refine wb ?_ <;> intros
   exact ai ⟨u++ [l],⟨by rw[List.length_append];simp only[List.length_singleton];omega,fun m hm=>by
    rcases List.mem_append.1 hm with hm | hm
    · exact hx m hm
    · rw[List.mem_singleton.1 hm];exact hl⟩,by rw[List.length_append];simp only[List.length_singleton];omega,vm [0,1,2,124]⟩
 · have hu2:u.length=s:=by omega
   exact wr hR [(3,some [.asc b'])] (hf:=by refine ws ?_;exact⟨by simp,UT (fun m hm=>(hx m hm).weak hb)⟩) (hE:=by refine ws ?_;rw[hu2];exact⟨rfl,rfl⟩)
end AM
namespace AM
open Go Go.Proofs Mk
set_option maxRecDepth 20000
set_option maxHeartbeats 8000000
def agE:Nat→List (Nat×Nat):=fun i=>if i=6 then [(1,3),(1,5),(3,5),(1,6),(1,7),(1,9),(3,9),(5,9),(6,9),(7,9),(1,10)] else if i=8 then [(1,3),(1,5),(3,5),(1,6),(1,7),(1,9),(3,9),(5,9),(6,9),(7,9),(1,10)] else []
def ObW (r:AV):Prop:=∃o,i64 o∧r= .pv (ag o)
theorem OC (n:Nat)(hn:n≤4)(i:In)(h1:1≤i.op∧i.op≤28)(ho:ObjI n i)(hj:i.op=5→0≤i.a∧i.a≤1000)(hnn:i64 i.n)(b:Nat)(pc:Int)(r:Nat)(hr:r≤5)(hg:∀q∈regsI i,0≤q∧q < (r:Int))(ev:Int):
 jo Tryz.prog 129 [rw_ i.r,rw_ (SY b pc r r ev)] ObW:=by
 obtain⟨op,ia,ib,ic,nn,st⟩:=i;obtain⟨o3,o4,o6,o7,o8,o9,o11,o13,o21,o24,o26,o27⟩:=ho;dsimp only at h1 o3 o4 o6 o7 o8 o9 o11 o13 o21 o24 o26 o27 hj hnn;have z:∀q:Int,-100≤q∧q≤2000→i64 q:=fun q h=>bQ.2 (by omega)
 refine wf Tryz.func129 agE (h:=fun R hR=>?_);refine wb (A2.mk ?_ (A2.mk ?_ (A2.mk ?_ (A2.mk ?_ (A2.mk ?_ (A2.mk ?_ (A2.mk ?_ (A2.mk ?_ (A2.mk ?_ (A2.mk ?_ ?_)))))))))) <;> intros
 · exact wt hR (.pv (ag ib)) [] ⟨_,z ib (by omega),rfl⟩
 · exact wt hR (.pv (ag ib)) [] ⟨_,z ib (by omega),rfl⟩
 · have e7:op=7:=by assumption
   subst e7;obtain⟨rfl,rfl⟩:=o7 rfl;have hq:=hg ic (by simp[regsI]);refine And.intro (by omega) ?_;refine fM fun x hx=>?_
   refine wb ?_ <;> intros
   refine wG (Bc x 2 hx hnn) (.pv (ag 0)) ⟨0,nG,rfl,by decide⟩ ?_;rintro v ⟨y,hy,rfl,hy2⟩;have hy3:=hy2 (by decide);refine wb ?_ <;> intros
   exact wt hR (.pv (ag (3+y))) [] ⟨_,z _ (by omega),rfl⟩
 · have e9:op=9:=by assumption
   subst e9;obtain⟨rfl,rfl⟩:=o9 rfl;have hq:=hg ic (by simp[regsI]);refine And.intro (by omega) ?_;refine fM fun x hx=>?_
   refine wb ?_ <;> intros
   refine wG (Bc x 2 hx hnn) (.pv (ag 0)) ⟨0,nG,rfl,by decide⟩ ?_;rintro v ⟨y,hy,rfl,hy2⟩;have hy3:=hy2 (by decide);refine wb ?_ <;> intros
   exact wt hR (.pv (ag (3+y))) [] ⟨_,z _ (by omega),rfl⟩
 · exact wt hR (.pv (ag (-1))) [] ⟨_,z _ (by decide),rfl⟩
 · exact wt hR (.pv (ag (-1))) [] ⟨_,z _ (by decide),rfl⟩
 · exact wt hR (.pv (ag (-1))) [] ⟨_,z _ (by decide),rfl⟩
 · exact wt hR (.pv (ag (-1))) [] ⟨_,z _ (by decide),rfl⟩
 · exact wt hR (.pv (ag (-1))) [] ⟨_,z _ (by decide),rfl⟩
 · exact wt hR (.pv (ag (-1))) [] ⟨_,z _ (by decide),rfl⟩
 · have ha: -100≤ia∧ia≤2000:=by
    by_cases h5:op≤5
    · by_cases h6:op=5
      · have:=hj h6;omega
      · have:ia∈regsI ⟨op,ia,ib,ic,nn,st⟩:=by
         obtain rfl | rfl | rfl:op=1∨op=2∨op=4:=by omega
         all_goals simp[regsI]
        have:=hg ia this;omega
    · omega
   exact wt hR (.pv (ag ia)) [] ⟨_,z _ ha,rfl⟩
end AM
namespace AM
open Go Go.Proofs
set_option maxRecDepth 20000
set_option maxHeartbeats 8000000
theorem Asc.filter {b:Nat}{l:List Nat}(h:Asc b l)(p:Nat→Bool):Asc b (l.filter p):=⟨h.1.sublist List.filter_sublist,fun n hn=>h.2 n (List.mem_filter.1 hn).1⟩
def XV (n:Int)(x:Nat):Bool:=decide ((x:Int)≠n)
theorem Qp {l:List Nat}{p:Nat→Bool}{k x:Nat}(h:l[k]?=some x):(l.take (k+1)).filter p=(l.take k).filter p++(if p x=true then [x] else []):=by
 rw[List.take_add_one,h,List.filter_append];simp[List.filter_cons]
attribute [local go_sem] List.map_append List.length_append List.map_cons List.map_nil List.length_singleton
theorem JH (b:Nat)(hb:b≤400)(l:List Nat)(hl:Asc b l)(n:Int):jo Tryz.prog 133 [.pv (.sl (nL l)),.pv (ag n)] (fun r=>∃m,Asc b m∧r= .pv (.sl (nL m))):=by
 have h4:l.length≤400:=Nat.le_trans hl.len hb;refine wf Tryz.func133 (fun _=> []) (h:=fun R hR=>?_);refine wb ?_ <;> intros
 refine jq 5 3 1 (by exact we) ?_;refine wl (fun k:Nat=> [(0,.pv (.sl (nL l))),(1,.pv (ag n)),(5,.own 0 ((l.take k).filter (XV n)).length),(6,.pv (ag k))]) (fun k=> [some (.row 3 1 (nL ((l.take k).filter (XV n))))]) (fun k=>k≤l.length) (fun k=>l.length - k) 0 (Nat.zero_le _) (vm [24]) (fun k hk=>?_);refine wb (A2.mk ?_ ?_) <;> intros
 · have h2:k < l.length:=by omega
   have hg:=List.getElem?_eq_getElem h2;have hfs:=Qp (p:=XV n) hg;have hfl:((l.take k).filter (XV n)).length≤400:=Nat.le_trans (List.length_filter_le _ _) (by simp;omega);generalize l[k]=y at hg hfs;refine aB (x:=y) (by omega) (by simpa using hg) rfl ?_;refine wb (A2.mk ?_ ?_) <;> intros
   · refine aB (x:=y) (by omega) (by simpa using hg) rfl ?_;refine wb ?_ <;> intros
     have hp:XV n y=true:=by unfold XV;rw[decide_eq_true_eq];assumption
     rw[if_pos hp] at hfs;refine ai ⟨k+1,h2,by omega,?_⟩;rw[hfs];exact vm [129]
   · have hp:¬XV n y=true:=by unfold XV;rw[decide_eq_true_eq];omega
     rw[if_neg hp,List.append_nil] at hfs;refine ai ⟨k+1,h2,by omega,?_⟩;rw[hfs];exact vm [0]
 · obtain rfl:k=l.length:=by omega
   rw[List.take_length];exact wt hR (.pv (.sl (nL (l.filter (XV n))))) [(0,none)] ⟨_,hl.filter _,rfl⟩
end AM
namespace AM
open Go Go.Proofs Mk
set_option maxRecDepth 20000
set_option maxHeartbeats 8000000
structure NmOk (n:Nat)(k o:Int):Prop where
 kd:1≤k∧k≤23
 c:k=3∨k=4→0≤o∧o < 5
 l:6≤k∧k≤11→0≤o∧o < 3
 d:16≤k∧k≤19→o=0
 t:k=20∨k=21→0≤o∧o < n
 f:22≤k∧k≤23→o=0
def D8 (p:Prop)(r:AV):Prop:=∃z,r= .pv (boolP z)∧(z=true→p)
attribute [local go_sem] thNames_len
theorem Ti (n:Nat)(hn:n≤4)(ss:List (Nat×Nat))(k o:Int):jo Tryz.prog 161 [rw_ (mO n ss),.pv (ag k),.pv (ag o)] (D8 (NmOk n k o)):=by
 refine wf Tryz.func161 (fun _=> []) (h:=fun R hR=>?_);refine yY rfl ?_;refine wb (A2.mk ?_ (A2.mk ?_ (A2.mk ?_ (A2.mk ?_ (A2.mk ?_ (A2.mk ?_ (A2.mk ?_ (A2.mk ?_ (A2.mk ?_ (A2.mk ?_ (A2.mk ?_ (A2.mk ?_ (A2.mk ?_ (A2.mk ?_ (A2.mk ?_ (A2.mk ?_ (A2.mk ?_ (A2.mk ?_ (A2.mk ?_ (A2.mk ?_ (A2.mk ?_ (A2.mk ?_ (A2.mk ?_ ?_))))))))))))))))))))))) <;> intros
 all_goals try exact wt hR (.pv (boolP (o== -1))) [] ⟨_,rfl,fun h=>by simp only[beq_iff_eq] at h;constructor <;> omega⟩
 all_goals try exact wt hR (.pv (boolP false)) [] ⟨_,rfl,fun h=>by cases h⟩
 all_goals try (refine wE (yz o 5) ?_;refine wb ?_ <;> intros;exact wt hR (.pv (boolP (decide (0≤o) && decide (o < 5)))) [] ⟨_,rfl,fun h=>by simp only[Bool.and_eq_true,decide_eq_true_eq] at h;constructor <;> omega⟩)
 all_goals try (refine wE (yz o 1) ?_;refine wb ?_ <;> intros;exact wt hR (.pv (boolP (decide (0≤o) && decide (o < 1)))) [] ⟨_,rfl,fun h=>by simp only[Bool.and_eq_true,decide_eq_true_eq] at h;constructor <;> omega⟩)
 all_goals try (refine wE (yz o n) ?_;refine wb ?_ <;> intros;exact wt hR (.pv (boolP (decide (0≤o) && decide (o < n)))) [] ⟨_,rfl,fun h=>by simp only[Bool.and_eq_true,decide_eq_true_eq] at h;constructor <;> omega⟩)
 all_goals
  refine wE (yz o 3) ?_;refine wb (A2.mk ?_ ?_) <;> intros
  · rename_i hx
    simp only[Bool.and_eq_true,decide_eq_true_eq] at hx;obtain rfl | rfl | rfl:o=0∨o=1∨o=2:=by omega
    all_goals
     refine au (by omega) rfl rfl ?_;refine wb ?_ <;> intros
     first
      | exact wt hR (.pv (boolP true)) [] ⟨_,rfl,fun _=>by constructor <;> omega⟩
      | exact wt hR (.pv (boolP false)) [] ⟨_,rfl,fun h=>by cases h⟩
  · exact wt hR (.pv (boolP false)) [] ⟨_,rfl,fun h=>by cases h⟩
end AM
namespace AM
open Go Go.Proofs Mk
set_option maxRecDepth 20000
set_option maxHeartbeats 8000000
theorem Vm {k:Nat}{l:List Nat}(h:Asc k l):Asc (k+1) (l++ [k]):=by
 refine⟨?_,fun n hn=>?_⟩
 · rw[List.pairwise_append];refine⟨h.1,List.pairwise_singleton _ _,fun a ha b hb=>?_⟩;rw[List.mem_singleton.1 hb];exact h.2 a ha
 · rcases List.mem_append.1 hn with hn | hn
   · exact Nat.lt_succ_of_lt (h.2 n hn)
   · rw[List.mem_singleton.1 hn];exact Nat.lt_succ_self k
attribute [local go_sem] List.map_append List.length_append List.map_cons List.map_nil List.length_singleton
theorem xA (n:Nat)(hn:n≤4)(tx c:Int):jo Tryz.prog 134 [rw_ (xx n tx),.pv (ag c)] (fun r=>∃ws,Asc n ws∧r= .pv (.sl (nL ws))):=by
 refine wf Tryz.func134 (fun _=> []) (h:=fun R hR=>?_);refine wb ?_ <;> intros
 refine jq 5 3 1 (by exact we) ?_;refine wl (fun u:Nat×List Nat=> [(1,.pv (ag c)),(2,.ptr 0 0),(5,.own 1 u.2.length),(6,.pv (ag u.1))]) (fun u=> [some (.box ((xx n tx).map .pv)),some (.row 3 1 (nL u.2))]) (fun u=>u.1≤n∧Asc u.1 u.2) (fun u=>n - u.1) (0,[]) ⟨Nat.zero_le _,List.Pairwise.nil,fun n hn=>nomatch hn⟩ (vm [0,32]) (fun ⟨k,ws⟩ ⟨hk,hw⟩=>?_);dsimp only at hk hw;have hw4:ws.length≤4:=Nat.le_trans hw.len (by omega);refine wb (A2.mk ?_ ?_) <;> intros
 · refine fM fun x hx=>?_
   refine wb (A2.mk ?_ ?_) <;> intros
   · refine fM fun y hy=>?_
     refine wb (A2.mk ?_ ?_) <;> intros
     · exact ai ⟨(k+1,ws++ [k]),⟨by omega,Vm hw⟩,by dsimp only;omega,vm [0,202]⟩
     · exact ai ⟨(k+1,ws),⟨by omega,hw.weak (Nat.le_succ k)⟩,by dsimp only;omega,vm [0,1]⟩
   · exact ai ⟨(k+1,ws),⟨by omega,hw.weak (Nat.le_succ k)⟩,by dsimp only;omega,vm [0,1]⟩
 · exact wt hR (.pv (.sl (nL ws))) [(1,none)] ⟨ws,hw.weak hk,rfl⟩
end AM
namespace AM
open Go Go.Proofs Mk
set_option maxRecDepth 20000
set_option maxHeartbeats 8000000
def adK:Nat→List (Nat×Nat):=fun i=>if i=5 then [(8,11),(9,11)] else if i=18 then [(1,3),(1,7),(3,7),(4,7),(5,7),(1,9),(3,9),(4,9),(5,9),(7,9),(1,10),(3,10),(4,10),(5,10),(1,11),(3,11),(4,11),(5,11)] else if i=20 then [(1,4),(2,4),(1,6),(2,6),(4,6),(1,7),(2,7),(1,8),(2,8)] else if i=10 then [(1,4),(2,4),(1,6),(2,6),(4,6),(1,7),(2,7),(1,8),(2,8),(1,10),(2,10),(4,10),(6,10),(7,10),(8,10),(1,12),(2,12),(4,12),(6,12),(7,12),(8,12),(10,12),(1,13),(2,13),(4,13),(6,13),(7,13),(8,13),(1,14),(2,14),(4,14),(6,14),(7,14),(8,14)] else if i=11 then [(1,3),(1,7),(3,7),(4,7),(5,7),(1,9),(3,9),(4,9),(5,9),(7,9),(1,10),(3,10),(4,10),(5,10),(1,11),(3,11),(4,11),(5,11)] else if i=22 then [(1,3),(1,5),(3,5),(1,7),(3,7),(5,7),(1,11),(3,11),(5,11),(7,11),(5,12),(7,12),(5,13),(7,13)] else []
theorem Z5 (a:Int)(h:6≤a∧a≤18):FnEq Tryz.prog 164 [.pv (ag a)] (.pv (ag a)):=by
 have:=Hf a (by omega);rwa [if_neg (by omega)] at this
theorem SX (b:Nat)(hb:b≤400)(i:In)(pc:Int)(r:Nat)(ev:Int)(hr:r≤5)(hp:0≤pc∧pc≤1000)(hs:1≤i.op∧i.op≤5)(h3:i.op≠3)(h4:i.op=4→6≤i.n∧i.n≤18)(hn:i64 i.n)(hg:∀q∈regsI i,0≤q∧q < (r:Int)):
 FnEq Tryz.prog 137 [rw_ i.r,rw_ (SY b pc r r ev)] (.tup [rw_ (SY b (if i.op=5 then i.a else pc+1) r r ev),.pv (boolP true)]):=by
 obtain⟨op,ia,ib,ic,nn,st⟩:=i;dsimp only at hs h3 h4 hn⊢;refine wf Tryz.func137 adK (h:=fun R hR=>?_);refine wb ?_ <;> intros
 refine wE (ig ⟨op,ia,ib,ic,nn,st⟩) ?_;have hrl:=ku ⟨op,ia,ib,ic,nn,st⟩;refine wb ?_ <;> intros
 refine wl (fun j:Nat=> [(2,.ptr 0 0),(3,.ptr 1 0),(4,.ptr 2 0),(6,.pv (.sl (Z7 (regsI ⟨op,ia,ib,ic,nn,st⟩)))),(7,.pv (ag j))]) (fun _=> [some (.box ((In.r ⟨op,ia,ib,ic,nn,st⟩).map .pv)),some (.box ((SY b pc r r ev).map .pv)),some (.box [.pv (ag 0),.emp,.emp,.pv (ag 0)])]) (fun j=>j≤(regsI ⟨op,ia,ib,ic,nn,st⟩).length) (fun j=>(regsI ⟨op,ia,ib,ic,nn,st⟩).length - j) 0 (Nat.zero_le _) (vm [0,8,16]) (fun j hj=>?_);refine wb (A2.mk ?_ (A2.mk ?_ (A2.mk ?_ (A2.mk ?_ ?_)))) <;> intros
 · have hj3:j < (regsI ⟨op,ia,ib,ic,nn,st⟩).length:=by omega
   have hq:=hg _ (List.getElem_mem hj3);refine aB (x:=(regsI ⟨op,ia,ib,ic,nn,st⟩)[j]) (by omega) (by simp[hj3]) rfl ?_;refine wb ?_ <;> intros
   refine aB (x:=(regsI ⟨op,ia,ib,ic,nn,st⟩)[j]) (by omega) (by simp[hj3]) rfl ?_;refine wb ?_ <;> intros
   exact ai ⟨j+1,hj3,by omega,vm [0,1,2]⟩
 · rw[if_pos (by assumption)] at hR;exact wr hR
 · rw[if_neg (by assumption)] at hR;have e1:op=1:=by assumption
   have q1:=hg ia (by subst e1;simp[regsI]);refine And.intro q1 (And.intro hn ?_);refine wb ?_ <;> intros
   exact wr hR
 · rw[if_neg (by assumption)] at hR;have e2:op=2:=by assumption
   have q1:=hg ia (by subst e2;simp[regsI]);have q2:=hg ib (by subst e2;simp[regsI]);refine And.intro q2 (fM fun x hx=>?_);refine wb ?_ <;> intros
   refine iO fun l1 hl1=>?_
   have l14:l1.length≤400:=Nat.le_trans hl1.len hb;refine wb ?_ <;> intros
   refine And.intro hx ?_;refine wb ?_ <;> intros
   refine And.intro (nY hl1) ?_;refine wb ?_ <;> intros
   exact wr hR
 · rw[if_neg (by assumption)] at hR;have e4:op=4:=by omega
   have q1:=hg ia (by subst e4;simp[regsI]);have q2:=hg ib (by subst e4;simp[regsI]);have q3:=hg ic (by subst e4;simp[regsI]);have n4:=h4 e4;refine wE (Z5 nn n4) ?_;refine wb ?_ <;> intros
   refine fM fun x hx=>?_
   refine wb ?_ <;> intros
   refine fM fun y hy=>?_
   refine wb ?_ <;> intros
   refine wG (JB nn x y hx hy n4) (.tup [.pv (ag 0),.pv (boolP true)]) ⟨0,nG,rfl⟩ ?_;rintro v ⟨z,hz,rfl⟩;refine wb ?_ <;> intros
   refine iO fun l1 hl1=>?_
   refine wb ?_ <;> intros
   refine iO fun l2 hl2=>?_
   refine wb ?_ <;> intros
   refine wG (F7 b hb l1 hl1 l2 hl2) (.pv (.sl (nL []))) ⟨[],⟨List.Pairwise.nil,fun n hn=>nomatch hn⟩,rfl⟩ ?_;rintro v ⟨l3,hl3,rfl⟩;have l34:l3.length≤400:=Nat.le_trans hl3.len hb;refine wb ?_ <;> intros
   refine And.intro hz ?_;refine wb ?_ <;> intros
   refine And.intro (nY hl3) ?_;refine wb ?_ <;> intros
   exact wr hR
set_option maxRecDepth 20000
set_option maxHeartbeats 8000000
structure TsK (m:Int)(x:Int×Nat×Nat×Int):Prop where
 pc:i64 x.1
 r:x.2.1≤5
 s:x.2.2.1≤5
 e0:0≤x.2.2.2
 e1:x.2.2.2≤m
@[go_sem] def FT (b:Nat)(x:Int×Nat×Nat×Int):List PV:=SY b x.1 x.2.1 x.2.2.1 x.2.2.2
theorem Ql (n t:Nat)(ss:List (Nat×Nat))(rr:Nat)(l:List In)(G:GoodC n ss t rr l)(hm:∀i∈l,NumI i)(b:Nat)(hb:b≤400)(x:Int×Nat×Nat×Int)(m:Int)(hx:TsK m x):
 jo Tryz.prog 101 [rw_ [ag rr,.sl (l.map In.r)],rw_ (FT b x)] (fun v=>∃y ok,TsK m y∧v= .tup [rw_ (FT b y),.pv (boolP ok)]):=by
 obtain⟨pc,r,s,ev⟩:=x;obtain⟨x1,x2,x3,x4,x5⟩:=hx;dsimp only at x1 x2 x3 x4 x5;have hr1:=G.r1;have hlen:=G.len;have hz:TsK m (0,0,0,0):=⟨nG,Nat.zero_le _,Nat.zero_le _,Int.le_refl _,Int.le_trans x4 x5⟩;refine wf Tryz.func101 (fun _=> []) (h:=fun R hR=>?_);refine wb (A2.mk ?_ (A2.mk ?_ ?_)) <;> intros
 all_goals try exact wt hR (.tup [rw_ (FT b (0,0,0,0)),.pv (boolP false)]) [] ⟨_,_,hz,rfl⟩
 have er:r=rr:=by omega
 have es:s=rr:=by omega
 subst er es;refine wE (Iy b b (Nat.le_refl b) hb pc s s ev x2 x2) ?_;refine wb ?_ <;> intros
 refine wl (fun u:Nat×Int=> [(2,.ptr 0 0),(3,.ptr 1 0),(4,.ptr 2 0),(6,.pv (ag u.1))]) (fun u=> [some (.box [.pv (ag s),.pv (.sl (l.map In.r))]),some (.box ((SY b u.2 s s ev).map .pv)),some (.box [.pv (ag 0),.emp,.emp,.pv (ag 0)])]) (fun u=>u.1≤l.length+1∧i64 u.2) (fun u=>l.length+1 - u.1) (0,pc) ⟨Nat.zero_le _,x1⟩ (vm [0,8,16]) (fun ⟨k,t⟩ ⟨hk,ht⟩=>?_);dsimp only at hk ht;refine wb (A2.mk ?_ (A2.mk ?_ (A2.mk ?_ ?_))) <;> intros
 all_goals try exact wt hR (.tup [rw_ (FT b (0,0,0,0)),.pv (boolP false)]) [] ⟨_,_,hz,rfl⟩
 have hlt:t.toNat < l.length:=by omega
 have hgl:=List.getElem?_eq_getElem hlt;have hmn:=hm l[t.toNat] (List.getElem_mem hlt);have hg:(l.map In.r)[t.toNat]?=some (l[t.toNat]).r:=by simp[hlt]
 generalize l[t.toNat]=i at hmn hg hgl;have hop:=G.op _ _ hgl;have QU:=G.obj _ _ hgl;have VK:=G.jmp _ _ hgl;have hrg:=G.regs _ _ hgl;refine au (by omega) hg rfl ?_;refine wb ?_ <;> intros
 refine wE (BZ i.op) ?_;refine wb (A2.mk ?_ (A2.mk ?_ ?_)) <;> intros
 · exact wt hR (.tup [rw_ (FT b (0,0,0,0)),.pv (boolP false)]) [] ⟨_,_,hz,rfl⟩
 · rename_i hx hk2
   simp only[Bool.and_eq_true,decide_eq_true_eq] at hx;have Zl:i64 i.n:=bQ.2 (by have:=hmn.1;have:=hmn.2;omega);refine wE (SX b hb i t s ev x2 (by omega) hx QU.o3 QU.o4 Zl hrg) ?_;refine wb ?_ <;> intros
   refine ai ⟨(k+1,if i.op=5 then i.a else t+1),⟨by omega,?_⟩,by dsimp only;omega,vm [0,1,2]⟩;dsimp only;split
   · rename_i h5
     obtain⟨z,z1,z2⟩:=VK h5;exact bQ.2 (by omega)
   · exact bQ.2 (by omega)
 · exact wt hR (.tup [rw_ (FT b (t,s,s,ev)),.pv (boolP true)]) [] ⟨_,_,⟨ht,x2,x2,x4,x5⟩,rfl⟩
set_option maxRecDepth 20000
set_option maxHeartbeats 8000000
structure CdG (n:Nat)(ss:List (Nat×Nat))(cs:List (Int×List In)):Prop where
 n1:1≤n
 n4:n≤4
 s60:ss.length≤60
 so:SiteOk n ss
 val:FnEq Tryz.prog 41 [rw_ (coR n ss cs)] (.pv (boolP true))
 len:cs.length=n
 good:∀(k:Nat) r l,cs[k]?=some (r,l)→GoodC n ss k r l
 num:∀(k:Nat) r l,cs[k]?=some (r,l)→∀i∈l,NumI i
@[go_sem] def nN (n:Nat)(tx:Int)(m:Nat)(xs:List (Int×Nat×Nat×Int)):List PV:= [.tr YH 3,ag tx,.tr [.bool] 1,.tr YI n,.tr [.int .i64] 5,.tr [.int .i64] 1,.sl (xs.map (FT m))]
@[go_sem] def ts0 (p:Int×List In):Int×Nat×Nat×Int:=(0,p.1.toNat,p.1.toNat,0)
@[go_sem] theorem adQ:(dn Tryz.prog 2).bind rW=some [.int .i64]:=by kernel_rfl
@[go_sem] theorem ag0:(dn Tryz.prog 37).bind rW=some [.asc 0]:=by kernel_rfl
def ajn:Nat→List (Nat×Nat):=fun i=>if i=7 then [(1,4),(1,6),(1,8)] else if i=15 then [(1,3),(1,5),(1,7),(1,10),(3,10),(5,10),(7,10),(1,12),(3,12),(5,12),(7,12),(1,14),(3,14),(5,14),(7,14)] else []
attribute [local go_sem] rep Int.toNat_natCast thNames_len List.length_range List.length_map List.set_cons_zero List.set_cons_succ List.map_append List.length_append List.map_cons List.map_nil List.length_singleton
theorem OD (n:Nat)(ss:List (Nat×Nat))(cs:List (Int×List In))(C:CdG n ss cs):FnEq Tryz.prog 43 [rw_ (coR n ss cs)] (rw_ (nN n (-1) 0 (cs.map ts0))):=by
 obtain⟨n1,n4,s60,so,val,len,good,num⟩:=C;refine wf Tryz.func43 ajn (h:=fun R hR=>?_);refine wb ?_ <;> intros
 refine wE val ?_;refine wb ?_ <;> intros
 refine wE (O7 n ss n4) ?_;refine wb ?_ <;> intros
 refine dh 72 4 2 1 rfl rfl ?_;refine dh 72 5 2 1 rfl rfl ?_;refine dh 72 6 169 4 rfl rfl ?_;refine wn 6 ?_;refine wb ?_ <;> intros
 iterate 5 (refine au (by omega) rfl rfl ?_;refine wb ?_ <;> intros)
 refine wn 2 ?_;refine wb ?_ <;> intros
 refine wl (fun u:List (Int×Nat×Nat×Int)=> [(1,.ptr 0 0),(2,.ptr 1 0),(3,.ptr 2 0),(6,.pv (ag u.length))]) (fun u=> [some (.box ((coR n ss cs).map .pv)),some (.box [.emp,.pv (ag 0),.emp,.emp,.emp,.emp,.emp]),some (.box [.pv (.tr YH 3),.pv (ag (-1)),.pv (.tr [.bool] 1),.pv (.tr YI n),.pv (.tr [.int .i64] 5),.pv (.tr [.int .i64] 1),.own 3 u.length]),some (.row 169 4 (u.map (FT 0)))]) (fun u=>u.length≤cs.length∧Hd (u=(cs.map ts0).take u.length)) (fun u=>cs.length - u.length) [] ⟨Nat.zero_le _,⟨rfl⟩⟩ (vm [0,8,72,98] [(931,some [.int .i64]),(1107,some [.int .i64])]) (fun u ⟨hk,hu⟩=>?_);refine wb (A2.mk ?_ ?_) <;> intros
 · have h2:u.length < cs.length:=by omega
   have hg:=List.getElem?_eq_getElem h2;have hgk:=good u.length cs[u.length].1 cs[u.length].2 hg;generalize cs[u.length]=x at hg hgk;obtain⟨r,l⟩:=x;have hr0:=hgk.r0;have hr1:=hgk.r1;dsimp only at hr0 hr1;obtain⟨r,rfl⟩:=Int.eq_ofNat_of_zero_le (Int.le_trans (by decide:(0:Int)≤2) hr0);iterate 2 (refine aB (x:=((r:Int),l)) (by omega) (by simpa using hg) rfl ?_;refine wb ?_ <;> intros)
   have e1:(u++ [ts0 ((r:Int),l)]).length=u.length+1:=by simp
   exact ai ⟨u++ [ts0 ((r:Int),l)],⟨by omega,⟨by rw[e1,List.take_add_one,←hu.out,List.getElem?_map,hg];rfl⟩⟩,by omega,vm [0,1,2,188]⟩
 · have e1:u.length=(cs.map ts0).length:=by rw[List.length_map];omega
   have hu:=hu.out;rw[e1,List.take_length] at hu;subst hu;exact wr hR [(3,none)]
end AM
namespace AM
open Go Go.Proofs Mk
set_option maxRecDepth 20000
set_option maxHeartbeats 8000000
def FitT (r:Int)(l:List In)(x:Int×Nat×Nat×Int):Prop:=0≤x.1∧x.1 < l.length∧(x.2.1:Int)=r∧(x.2.2.1:Int)=r
def ags (cs:List (Int×List In))(xs:List (Int×Nat×Nat×Int))(n:Nat):Prop:=∀(k:Nat) r l x,k < n→cs[k]?=some (r,l)→xs[k]?=some x→FitT r l x
def agt:Nat→List (Nat×Nat):=fun _=> [(5,7),(5,9),(5,11),(17,20),(17,22),(17,24),(29,32),(29,34),(29,36)]
theorem QT (n:Nat)(ss:List (Nat×Nat))(cs:List (Int×List In))(C:CdG n ss cs)(tx:Int)(m:Nat)(xs:List (Int×Nat×Nat×Int))(hl:xs.length=n)(hx:∀x∈xs,TsK m x):jo Tryz.prog 127 [rw_ (coR n ss cs),rw_ (nN n tx m xs)] (D8 (ags cs xs n)):=by
 obtain⟨n1,n4,s60,so,val,len,good,num⟩:=C;have hfit:=Ho n ss n4 tx;refine wf Tryz.func127 agt (h:=fun R hR=>?_);refine wb ?_ <;> intros
 refine wE val ?_;refine wb ?_ <;> intros
 refine wE hfit ?_;refine wb ?_ <;> intros
 all_goals try exact wt hR (.pv (boolP false)) [] ⟨_,rfl,fun h=>by cases h⟩
 refine wl (fun k:Nat=> [(2,.ptr 0 0),(3,.ptr 1 0),(5,.pv (ag k))]) (fun k=> [some (.box ((coR n ss cs).map .pv)),some (.box ((nN n tx m xs).map .pv))]) (fun k=>k≤n∧ags cs xs k) (fun k=>n - k) 0 ⟨Nat.zero_le _,fun k r l x h=>absurd h (Nat.not_lt_zero k)⟩ (vm [0,8]) (fun k ⟨hk,hf⟩=>?_);refine wb (A2.mk ?_ ?_) <;> intros
 · have h2:k < cs.length:=by omega
   have h3:k < xs.length:=by omega
   have hg:=List.getElem?_eq_getElem h2;have hgx:=List.getElem?_eq_getElem h3;have hq:=hx _ (List.getElem_mem h3);have hgk:=good k cs[k].1 cs[k].2 hg;generalize xs[k]=x at hgx hq;generalize cs[k]=y at hg hgk;obtain⟨pc,r,s,ev⟩:=x;obtain⟨rr,l⟩:=y;obtain⟨x1,x2,x3,x4,x5⟩:=hq;have hr0:=hgk.r0;have hr1:=hgk.r1;have hlen:=hgk.len;dsimp only at x1 x2 x3 x4 x5 hr0 hr1 hlen;have hcr:(cs.map Yw)[k]?=some (Yw (rr,l)):=by rw[List.getElem?_map,hg];rfl
   refine aB (x:=(pc,r,s,ev)) (by omega) (by simpa using hgx) rfl ?_;refine wb (A2.mk ?_ ?_) <;> intros
   iterate 3
    all_goals try exact wt hR (.pv (boolP false)) [] ⟨_,rfl,fun h=>by cases h⟩
    all_goals try (refine au (by omega) hcr rfl ?_;refine wb (A2.mk ?_ ?_) <;> intros)
   all_goals try exact wt hR (.pv (boolP false)) [] ⟨_,rfl,fun h=>by cases h⟩
   refine ai ⟨k+1,⟨by omega,fun j r' l' x' hj hc' hx'=>?_⟩,by omega,vm [0,1]⟩;rcases Nat.lt_or_ge j k with hjk | hjk
   · exact hf j r' l' x' hjk hc' hx'
   · obtain rfl:j=k:=by omega
     rw[hg] at hc';rw[hgx] at hx';injection hc' with hc';injection hc' with e1 e2;injection hx' with hx';subst e1 e2 hx';exact⟨by dsimp only;omega,by dsimp only;omega,by assumption,by assumption⟩
 · exact wt hR (.pv (boolP true)) [] ⟨_,rfl,fun _=>by
    obtain rfl:k=n:=by omega
    exact hf⟩
set_option maxRecDepth 20000
set_option maxHeartbeats 8000000
def aeV:Nat→List (Nat×Nat):=fun i=>if i=1 then [(1,4),(1,5),(1,8),(4,8),(5,8),(1,9),(1,11),(4,11),(5,11),(8,11),(9,11)] else if i=5 then [(1,3),(1,5),(1,7),(1,10),(3,10),(5,10),(7,10),(1,12),(3,12),(5,12),(7,12),(1,14),(3,14),(5,14),(7,14),(1,15),(3,15),(5,15),(7,15)] else []
@[go_sem] def lsR (x:Int×List Nat):List PV:= [ag x.1,.sl (nL x.2)]
theorem TR {u:List (Int×List Nat)}(h:∀x∈u,i64 x.1∧Asc 400 x.2):lD YH (u.map lsR):=by
 intro row hr;obtain⟨x,hx,rfl⟩:=List.mem_map.1 hr;exact⟨⟨_,(h x hx).1,rfl⟩,nY (h x hx).2,trivial⟩
attribute [local go_sem] List.set_cons_zero List.set_cons_succ List.map_append List.length_append List.map_cons List.map_nil List.length_singleton
theorem F6 (n:Nat)(tx:Int)(hn:n≤4):FnEq Tryz.prog 131 [rw_ (xx n tx)] (rw_ (xx n tx)):=by
 refine wf Tryz.func131 aeV (h:=fun R hR=>?_);refine wb ?_ <;> intros
 refine dh 104 0 231 2 rfl rfl ?_;refine wl (fun u:List (Int×List Nat)=> [(1,.ptr 0 0),(2,.ptr 1 0),(3,.ptr 2 0),(4,.pv (ag u.length))]) (fun u=> [some (.box ((xx n tx).map .pv)),some (.box [.emp,.pv (ag 0),.emp,.emp]),some (.box [.own 3 u.length,.pv (ag tx),.pv (.tr [.bool] 1),.pv (.tr YI n)]),some (.row 231 2 (u.map lsR))]) (fun u=>u.length≤3∧∀x∈u,i64 x.1∧Asc 400 x.2) (fun u=>3 - u.length) [] ⟨Nat.zero_le _,fun _ h=>nomatch h⟩ (vm [0,8,104,128]) (fun u ⟨hu,hx⟩=>?_);refine wb (A2.mk ?_ ?_) <;> intros
 · refine fM fun h hh=>?_
   refine wb ?_ <;> intros
   refine iO fun l hl=>?_
   have hl4:=hl.len;refine wb ?_ <;> intros
   exact ai ⟨u++ [(h,l)],⟨by rw[List.length_append];simp only[List.length_singleton];omega,fun m hm=>by
    rcases List.mem_append.1 hm with hm | hm
    · exact hx m hm
    · rw[List.mem_singleton.1 hm];exact⟨hh,hl⟩⟩,by rw[List.length_append];simp only[List.length_singleton];omega,vm [0,1,2,188]⟩
 · have hu2:u.length=3:=by omega
   exact wr hR [(3,some YH)] (hf:=by refine ws ?_;exact⟨by simp,TR hx⟩) (hE:=by refine ws ?_;rw[hu2];exact⟨rfl,rfl⟩)
end AM
namespace AM
open Go Go.Proofs Mk
set_option maxRecDepth 20000
set_option maxHeartbeats 8000000
@[go_sem] def XN (n:Nat)(tx:Int)(q k:Nat):List AV:= [.pv (.tr YH 3),.pv (ag tx),.pv (.tr [.bool] 1),.pv (.tr YI n),.pv (.tr [.int .i64] 5),.pv (.tr [.int .i64] 1),.own q k]
def alK:Nat→List (Nat×Nat):=fun i=>if i=1 then [(1,5),(2,5),(1,9),(2,9),(5,9),(6,9),(1,12),(2,12),(5,12),(6,12),(9,12),(10,12)] else if i=5 then [(1,3),(1,5),(1,6),(1,7)] else []
attribute [local go_sem] List.set_cons_zero List.set_cons_succ List.map_append List.length_append List.map_cons List.map_nil List.length_singleton
theorem UW (n:Nat)(hn:n≤4)(tx:Int)(m m':Nat)(hm:m≤m')(h4:m'≤400)(xs:List (Int×Nat×Nat×Int))(hl:xs.length≤4)(hx:∀x∈xs,x.2.1≤5∧x.2.2.1≤5):ACall Tryz.prog 100 [rw_ (nN n tx m xs)] [] (fun v g=>v= .agg (XN n tx 0 xs.length)∧g= [some (.row 169 4 (xs.map (FT m')))]):=by
 refine wz Tryz.func100 alK (h:=fun R hR=>?_);refine wb ?_ <;> intros
 refine wE (F6 n tx hn) ?_;refine wb ?_ <;> intros
 refine dh 112 6 169 4 rfl rfl ?_;refine wl (fun u:List (Int×Nat×Nat×Int)=> [(1,.ptr 0 0),(2,.ptr 1 0),(3,.ptr 2 0),(4,.pv (ag u.length))]) (fun u=> [some (.box ((nN n tx m xs).map .pv)),some (.box [.emp,.pv (ag 0),.emp,.emp,.emp,.emp,.emp]),some (.box (XN n tx 3 u.length)),some (.row 169 4 (u.map (FT m')))]) (fun u=>u.length≤xs.length∧Hd (u=xs.take u.length)) (fun u=>xs.length - u.length) [] ⟨Nat.zero_le _,⟨rfl⟩⟩ (vm [0,8,112,136]) (fun u ⟨hk,hu⟩=>?_);refine wb (A2.mk ?_ ?_) <;> intros
 · have h2:u.length < xs.length:=by omega
   have hg:=List.getElem?_eq_getElem h2;have hq:=hx _ (List.getElem_mem h2);generalize xs[u.length]=x at hg hq;obtain⟨pc,r,s,ev⟩:=x;dsimp only at hq;refine aB (x:=(pc,r,s,ev)) (by omega) (by simpa using hg) rfl ?_;refine wb ?_ <;> intros
   refine wE (Iy m m' hm h4 pc r s ev hq.1 hq.2) ?_;refine wb ?_ <;> intros
   have e1:(u++ [(pc,r,s,ev)]).length=u.length+1:=by simp
   exact ai ⟨u++ [(pc,r,s,ev)],⟨by omega,⟨by rw[e1,List.take_add_one,←hu.out,hg];rfl⟩⟩,by omega,vm [0,1,2,116]⟩
 · have e1:u.length=xs.length:=by omega
   have hu:=hu.out;rw[e1,List.take_length] at hu;subst hu;refine wo hR (.agg (XN n tx 0 u.length)) [some (.row 169 4 (u.map (FT m')))] [3] [] ⟨rfl,rfl⟩
