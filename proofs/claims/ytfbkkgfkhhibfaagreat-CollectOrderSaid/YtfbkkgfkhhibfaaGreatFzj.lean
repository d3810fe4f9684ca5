/- Words. -/
import Derived.Test.YtfbkkgfkhhibfaaGreatAtw
set_option linter.unusedVariables false
set_option linter.unusedSimpArgs false
namespace AM
open Go Go.Proofs
theorem ZA (i n:Int):FnEq Tryz.prog 97 [.pv (ag i),.pv (ag n)] (.pv (boolP (decide (0≤i) && decide (i < n)))):=by
 refine wf Tryz.func97 (fun _=> []) (h:=fun R hR=>?_);refine wb (A2.mk ?_ ?_) <;> intros
 all_goals exact wr hR
theorem yz (i n:Int):FnEq Tryz.prog 160 [.pv (ag i),.pv (ag n)] (.pv (boolP (decide (0≤i) && decide (i < n)))):=by
 refine wf Tryz.func160 (fun _=> []) (h:=fun R hR=>?_);refine wb (A2.mk ?_ ?_) <;> intros
 all_goals exact wr hR
theorem jR (a b:Int):FnEq Tryz.prog 168 [.pv (ag a),.pv (ag b)] (.pv (ag (if a=0 then b else a))):=by
 refine wf Tryz.func168 (fun _=> []) (h:=fun R hR=>?_);refine wb (A2.mk ?_ ?_) <;> intros
 all_goals exact wr hR
theorem dK (a:Bool):FnEq Tryz.prog 171 [.pv (boolP a)] (.pv (ag (if a=true then 7 else 0))):=by
 refine wf Tryz.func171 (fun _=> []) (h:=fun R hR=>?_);refine wb (A2.mk ?_ ?_) <;> intros
 all_goals exact wr hR
theorem BZ (a:Int):FnEq Tryz.prog 126 [.pv (ag a)] (.pv (boolP (decide (1≤a) && decide (a≤5)))):=by
 refine wf Tryz.func126 (fun _=> []) (h:=fun R hR=>?_);refine wb (A2.mk ?_ ?_) <;> intros
 all_goals exact wr hR
theorem Hf (a:Int)(h: -9223372036854775808≤a∧a≤9223372036854775807):FnEq Tryz.prog 164 [.pv (ag a)] (.pv (ag (if a < 1∨100 < a then 0 else a))):=by
 refine wf Tryz.func164 (fun _=> []) (h:=fun R hR=>?_);refine wb (A2.mk ?_ (A2.mk ?_ ?_)) <;> intros
 all_goals exact wr hR
set_option maxRecDepth 20000
set_option maxHeartbeats 8000000
def i64 (n:Int):Prop:=IntKind.i64.wrap n=n
theorem ac8 (n:Int):IntKind.i64.wrap (IntKind.i64.wrap n)=IntKind.i64.wrap n:=by
 simp only[IntKind.wrap_i64];omega
def VB (r:AV):Prop:=∃y,i64 y∧r= .tup [.pv (ag y),.pv (boolP true)]
theorem Nq (n:Int):VB (.tup [.pv (ag (IntKind.i64.wrap n)),.pv (boolP true)]):=⟨_,ac8 n,rfl⟩
theorem QV {n:Int}(h:i64 n):VB (.tup [.pv (ag n),.pv (boolP true)]):=⟨_,h,rfl⟩
theorem bQ {n:Int} :i64 n ↔ -9223372036854775808≤n∧n < 9223372036854775808:=by
 unfold i64;rw[IntKind.wrap_i64];omega
theorem nG:i64 0:=bQ.2 (by decide)
theorem ac9:i64 1:=bQ.2 (by decide)
theorem FW {x y:Int}(hx:i64 x):i64 (x.tmod y):=by
 rw[bQ] at hx⊢;have h1:(x.tmod y).natAbs=x.natAbs % y.natAbs:=Int.natAbs_tmod x y;have h2:x.natAbs % y.natAbs≤x.natAbs:=Nat.mod_le _ _;by_cases h:0≤x
 · have:=Int.tmod_nonneg y h;omega
 · have h3:(-x).tmod y= -(x.tmod y):=Int.neg_tmod x y;have:=Int.tmod_nonneg y (show 0≤ -x by omega);omega
theorem jS (a:Bool):jo Tryz.prog 175 [.pv (boolP a)] (fun r=>∃y,i64 y∧r= .pv (ag y)):=by
 refine wf Tryz.func175 (fun _=> []) (h:=fun R hR=>?_);refine wb (A2.mk ?_ ?_) <;> intros
 · exact wt hR (.pv (ag 1)) [] ⟨_,ac9,rfl⟩
 · exact wt hR (.pv (ag 0)) [] ⟨_,nG,rfl⟩
theorem JB (op x y:Int)(hx:i64 x)(hy:i64 y)(ho:6≤op∧op≤18):jo Tryz.prog 165 [.pv (ag op),.pv (ag x),.pv (ag y)] VB:=by
 refine wf Tryz.func165 (fun _=> []) (h:=fun R hR=>?_);refine wb (A2.mk ?_ (A2.mk ?_ (A2.mk ?_ (A2.mk ?_ (A2.mk ?_ (A2.mk ?_ (A2.mk ?_ (A2.mk ?_ (A2.mk ?_ (A2.mk ?_ (A2.mk ?_ (A2.mk ?_ (A2.mk ?_ (A2.mk ?_ (A2.mk ?_ (A2.mk ?_ ?_)))))))))))))))) <;> intros
 all_goals try (exfalso;omega)
 all_goals first
  | exact wt hR (.tup [.pv (ag 0),.pv (boolP true)]) [] (QV nG)
  | exact wt hR (.tup [.pv (ag (IntKind.i64.wrap (x+y))),.pv (boolP true)]) [] (Nq _)
  | exact wt hR (.tup [.pv (ag (IntKind.i64.wrap (x - y))),.pv (boolP true)]) [] (Nq _)
  | exact wt hR (.tup [.pv (ag (IntKind.i64.wrap (x * y))),.pv (boolP true)]) [] (Nq _)
  | exact wt hR (.tup [.pv (ag (IntKind.i64.wrap (x.tdiv y))),.pv (boolP true)]) [] (Nq _)
  | exact wt hR (.tup [.pv (ag (x.tmod y)),.pv (boolP true)]) [] (QV (FW hx))
  | skip
 all_goals first
  | refine wF (jS (x==y)) ?_
  | refine wF (jS (x !=y)) ?_
  | refine wF (jS (decide (x < y))) ?_
  | refine wF (jS (decide (x≤y))) ?_
  | refine wF (jS (decide (y < x))) ?_
  | refine wF (jS (decide (y≤x))) ?_
  | refine wF (jS (y !=0)) ?_
  | refine wF (jS false) ?_
  | refine wF (jS true) ?_
 all_goals
  rintro r ⟨z,hz,rfl⟩;refine wb ?_ <;> intros
  exact wt hR (.tup [.pv (ag z),.pv (boolP true)]) [] (QV hz)
theorem Bc (x n:Int)(hx:i64 x)(hn:i64 n):jo Tryz.prog 159 [.pv (ag x),.pv (ag n)] (fun r=>∃y,i64 y∧r= .pv (ag y)∧(1≤n→0≤y∧y < n)):=by
 refine wf Tryz.func159 (fun _=> []) (h:=fun R hR=>?_);refine wb (A2.mk ?_ (A2.mk ?_ ?_)) <;> intros
 · exact wt hR (.pv (ag 0)) [] ⟨0,nG,rfl,fun h=>by omega⟩
 · have h1:=Int.lt_tmod_of_pos x (show 0 < n by omega);have h2:=bQ.1 hn;have h3:IntKind.i64.wrap (x.tmod n+n)=x.tmod n+n:=bQ.2 (by omega);exact wt hR (.pv (ag (IntKind.i64.wrap (x.tmod n+n)))) [] ⟨_,ac8 _,rfl,fun _=>by rw[h3];omega⟩
 · have h1:=Int.tmod_lt_of_pos x (show 0 < n by omega);exact wt hR (.pv (ag (x.tmod n))) [] ⟨_,FW hx,rfl,fun _=>by omega⟩
set_option maxRecDepth 20000
set_option maxHeartbeats 8000000
def QL:List Int:= [3,3,4,4,5,6,7,8,9,10,11,12,13,14,15,16,18,19,20,21,22,23,2]
def kdF (op:Int):Int:=if op < 6∨28 < op then 0 else QL.getD (op - 6).toNat 0
theorem OB (op:Int):0≤kdF op∧kdF op≤23:=by
 unfold kdF;split
 · decide
 · rw[List.getD_eq_getElem?_getD]
   cases h:QL[(op - 6).toNat]? with
   | none=>decide
   |
    some k=>
    have:∀k∈QL,0≤k∧k≤23:=by decide
    exact this k (List.mem_of_getElem? h)
@[go_sem] def iP (k:Int):List PV:= [ag k]
theorem VL (op:Int)(h:i64 op):FnEq Tryz.prog 128 [.pv (ag op)] (.pv (ag (kdF op))):=by
 refine wf Tryz.func128 (fun _=> []) (h:=fun R hR=>?_);have h2:=bQ.1 h;refine wb (A2.mk ?_ (A2.mk ?_ ?_)) <;> intros
 · have e:kdF op=0:=if_pos (.inl (by assumption));rw[e] at hR;exact wr hR
 · have e:kdF op=0:=if_pos (.inr (by assumption));rw[e] at hR;exact wr hR
 · have hk:(op - 6).toNat < QL.length:=by show _ < 23;omega
   have e:kdF op=QL[(op - 6).toNat]:=by
    unfold kdF;rw[if_neg (by omega),List.getD_eq_getElem?_getD,List.getElem?_eq_getElem hk];rfl
   refine aB (l:=QL) (f:=iP) (x:=QL[(op - 6).toNat]) (by omega) (List.getElem?_eq_getElem hk) rfl ?_;rw[←e];refine wb ?_ <;> intros
   exact wr hR
abbrev Yx (xs:List UInt8):PV:= .sl (xs.map fun x=> [.sc (.int .u8 x.toNat)])
@[go_sem] def uM (xs:List UInt8)(k:Nat):Obj:= .box [.pv (Yx xs),.pv (ag k)]
def FN (xs:List UInt8)(k n:Nat):Nat:=if k < xs.length then (xs.getD k 0).toNat % n else 0
theorem eU (xs:List UInt8)(k n:Nat)(hx:xs.length≤1000)(hk:k≤xs.length)(hn:0 < n)(hn2:n≤1000):ACall Tryz.prog 74 [.ptr 0 0,.pv (ag n)] [uM xs k] (fun v g=>v= .pv (ag (FN xs k n))∧∃k':Nat,k'≤xs.length∧g= [some (uM xs k')]):=by
 refine Ug (us:=fun _=> [(3,7)]) (by kernel_rfl) Tryz.func74 rfl (Nat.le_of_ble_eq_true rfl) (by kernel_rfl) (fun R hR=>?_);simp only[Tryz.f74,uM] at hR⊢;refine wb (A2.mk ?_ ?_) <;> intros
 · refine wo hR (.pv (ag 0)) [some (uM xs k)] [0] [] ?_;exact⟨by simp only[FN];rw[if_neg (by omega)];rfl,k,hk,rfl⟩
 have h2:k < xs.length:=by omega
 have h3:=xs[k].toNat_lt;refine aB (x:=xs[k]) (by omega) (by rw[show ((k:Int)+1 - 1).toNat=k by omega];simp[h2]) rfl ?_;have h4:FN xs k n=xs[k].toNat % n:=by simp[FN,h2]
 refine wb ?_ <;> intros
 refine wo hR (.pv (ag (FN xs k n))) [some (uM xs (k+1))] [0] [] ?_;exact⟨rfl,k+1,h2,rfl⟩
set_option maxRecDepth 20000
structure ER where
 op:Int
 n:Int
 s:ByteArray
 l:List (List PV)
@[go_sem] def ER.r (e:ER):List PV:= [ag e.op,ag e.n,bJ e.s,.sl e.l]
abbrev bE:ByteArray:=⟨#[]⟩
theorem xM (n:Int):FnEq Tryz.prog 77 [.pv (ag n)] (rw_ (ER.r ⟨1,n,bE,[]⟩)):=by
 refine wf Tryz.func77 (fun _=> []) (h:=fun R hR=>?_);refine wb ?_ <;> intros
 all_goals exact wr hR
theorem rq (n:ByteArray):FnEq Tryz.prog 150 [.pv (bJ n)] (rw_ (ER.r ⟨2,0,n,[]⟩)):=by
 refine wf Tryz.func150 (fun _=> []) (h:=fun R hR=>?_);refine wb ?_ <;> intros
 all_goals exact wr hR
theorem tq (op:Int)(a b:ER):FnEq Tryz.prog 149 [.pv (ag op),rw_ a.r,rw_ b.r] (rw_ (ER.r ⟨op,0,bE,[a.r,b.r]⟩)):=by
 refine wf Tryz.func149 (fun _=> []) (h:=fun R hR=>?_);refine wb ?_ <;> intros
 all_goals exact wr hR
structure MS where
 th:Int
 left:Int
 set:Bool
 tx:Bool
 atomic:Bool
 loop:Bool
 held:List ByteArray
@[go_sem] def MS.os (m:MS)(xs:List UInt8)(k:Nat):List Obj:= [.box [.ptr 1 0,.pv (ag m.th),.pv (ag m.left),.pv (boolP m.set),.pv (boolP m.tx),.pv (boolP m.atomic),.pv (boolP m.loop),.own 2 m.held.length],uM xs k,.row 9 1 (m.held.map fun s=> [bJ s])]
def names7:List ByteArray:= [⟨#[97]⟩,⟨#[98]⟩,⟨#[120]⟩,⟨#[121]⟩,⟨#[118]⟩,⟨#[120]⟩,⟨#[121]⟩]
theorem jM (xs:List UInt8)(k:Nat){n:Nat}(h:0 < n):FN xs k n < n:=by
 unfold FN;split
 · exact Nat.mod_lt _ h
 · exact h
@[go_sem] def MS.og (m:MS)(xs:List UInt8)(k:Nat):List (Option Obj):= [some (.box [.ptr 1 0,.pv (ag m.th),.pv (ag m.left),.pv (boolP m.set),.pv (boolP m.tx),.pv (boolP m.atomic),.pv (boolP m.loop),.own 3 m.held.length]),some (uM xs k),none,some (.row 9 1 (m.held.map fun s=> [bJ s]))]
inductive LfR:ER→Prop
 | num {n:Nat} (h:n < 4):LfR ⟨1,n,bE,[]⟩
 | var {s:ByteArray} (h:s∈ [(⟨#[97]⟩:ByteArray),⟨#[98]⟩,⟨#[120]⟩,⟨#[121]⟩,⟨#[118]⟩]):LfR ⟨2,0,s,[]⟩
inductive ExR:ER→Prop
 | leaf {e:ER} (h:LfR e):ExR e
 | idx {e:ER} (h:LfR e):ExR ⟨3,0,⟨#[113]⟩,[e.r]⟩
 | bin {op:Int} {a b:ER} (ho:op∈ [(6:Int),7,8,11,13,17]) (ha:LfR a) (hb:LfR b):ExR ⟨op,0,bE,[a.r,b.r]⟩
theorem ru (xs:List UInt8)(k:Nat)(m:MS)(hx:xs.length≤1000)(hk:k≤xs.length):ACall Tryz.prog 148 [.ptr 0 0,.pv (ag 0)] (m.os xs k) (fun v g=>∃(e:ER) (k':Nat),LfR e∧k'≤xs.length∧v=rw_ e.r∧g=(m.os xs k').map some):=by
 refine wz Tryz.func148 (fun _=> [(8,13),(9,13),(8,17),(9,17)]) (h:=fun R hR=>?_);refine wb ?_ <;> intros
 refine wq (eU xs k 10 hx hk (by decide) (by decide)) [1] ?_;rintro r g ⟨rfl,k',hk',rfl⟩;refine wb (A2.mk ?_ (A2.mk ?_ ?_)) <;> intros
 any_goals
  refine wq (eU xs k' 4 hx hk' (by decide) (by decide)) [1] ?_;rintro r g ⟨rfl,k2,hk2,rfl⟩;refine ws ?_;refine wE (xM _) ?_;refine wb ?_ <;> intros
  refine wo hR (rw_ (ER.r ⟨1,FN xs k' 4,bE,[]⟩)) ((m.os xs k2).map some) [0,1,2] [] ?_;exact⟨_,_,.num (jM xs k' (by decide)),hk2,rfl,rfl⟩
 refine wq (eU xs k' 7 hx hk' (by decide) (by decide)) [1] ?_;rintro r g ⟨rfl,k2,hk2,rfl⟩;refine ws ?_;refine iC names7 (fun s=> [bJ s]) (jM xs k' (by decide)) (fun s hs=>?_);refine ws ?_;refine wE (rq _) ?_;refine wb ?_ <;> intros
 refine wo hR (rw_ (ER.r ⟨2,0,s,[]⟩)) ((m.os xs k2).map some) [0,1,2] [] ?_;exact⟨_,_,.var (by simp[names7] at hs⊢;grind),hk2,rfl,rfl⟩
def ops6:List Int:= [6,7,8,11,13,17]
theorem lV (xs:List UInt8)(k:Nat)(m:MS)(hx:xs.length≤1000)(hk:k≤xs.length):ACall Tryz.prog 148 [.ptr 0 0,.pv (ag 1)] (m.os xs k) (fun v g=>∃(e:ER) (k':Nat),ExR e∧k'≤xs.length∧v=rw_ e.r∧g=(m.os xs k').map some):=by
 refine wz Tryz.func148 (fun _=> [(8,13),(9,13),(8,17),(9,17)]) (h:=fun R hR=>?_);refine wb ?_ <;> intros
 refine wq (eU xs k 10 hx hk (by decide) (by decide)) [1] ?_;rintro r g ⟨rfl,k',hk',rfl⟩;refine wb (A2.mk ?_ (A2.mk ?_ (A2.mk ?_ ?_))) <;> intros
 · refine wq (eU xs k' 4 hx hk' (by decide) (by decide)) [1] ?_;rintro r g ⟨rfl,k2,hk2,rfl⟩;refine ws ?_;refine wE (xM _) ?_;refine wb ?_ <;> intros
   refine wo hR (rw_ (ER.r ⟨1,FN xs k' 4,bE,[]⟩)) ((m.os xs k2).map some) [0,1,2] [] ?_;exact⟨_,_,.leaf (.num (jM xs k' (by decide))),hk2,rfl,rfl⟩
 · refine wq (eU xs k' 7 hx hk' (by decide) (by decide)) [1] ?_;rintro r g ⟨rfl,k2,hk2,rfl⟩;refine ws ?_;refine iC names7 (fun s=> [bJ s]) (jM xs k' (by decide)) (fun s hs=>?_);refine ws ?_;refine wE (rq _) ?_;refine wb ?_ <;> intros
   refine wo hR (rw_ (ER.r ⟨2,0,s,[]⟩)) ((m.os xs k2).map some) [0,1,2] [] ?_;exact⟨_,_,.leaf (.var (by simp[names7] at hs⊢;grind)),hk2,rfl,rfl⟩
 · refine wq (ru xs k' m hx hk') [0,1,2] ?_;rintro r g ⟨e,k2,he,hk2,rfl,rfl⟩;refine wb ?_ <;> intros
   refine wo hR (rw_ (ER.r ⟨3,0,⟨#[113]⟩,[e.r]⟩)) ((m.os xs k2).map some) [0,1,2] [] ?_;exact⟨_,_,.idx he,hk2,rfl,rfl⟩
 refine wQ (eU xs k' 6 hx hk' (by decide) (by decide)) [1] ⟨rfl,k,hk,rfl⟩ ?_;rintro r g ⟨rfl,k2,hk2,rfl⟩;refine wb ?_ <;> intros
 refine iC ops6 (fun n=> [ag n]) (jM xs k' (by decide)) (fun op ho=>?_);refine ws ?_;refine wQ (ru xs k2 m hx hk2) [0,1,2] ⟨⟨1,(0:Nat),bE,[]⟩,k,.num (by decide),hk,rfl,rfl⟩ ?_;rintro r g ⟨e,k3,he,hk3,rfl,rfl⟩;refine wb ?_ <;> intros
 refine wQ (ru xs k3 m hx hk3) [0,1,2] ⟨⟨1,(0:Nat),bE,[]⟩,k,.num (by decide),hk,rfl,rfl⟩ ?_;rintro r g ⟨e',k4,he',hk4,rfl,rfl⟩;refine wb ?_ <;> intros
 refine wE (tq op e e') ?_;refine wb ?_ <;> intros
 refine wo hR (rw_ (ER.r ⟨op,0,bE,[e.r,e'.r]⟩)) ((m.os xs k4).map some) [0,1,2] [] ?_;exact⟨_,_,.bin ho he he',hk4,rfl,rfl⟩
set_option maxRecDepth 20000
set_option maxHeartbeats 8000000
def Asc (b:Nat)(l:List Nat):Prop:=l.Pairwise (· < ·)∧∀n∈l,n < b
@[go_sem] def nP (n:Nat):List PV:= [ag n]
abbrev nL (l:List Nat):List (List PV):=l.map nP
theorem Asc.len {b:Nat}{l:List Nat}(h:Asc b l):l.length≤b:=by
 have:∀(l:List Nat) (m:Nat),l.Pairwise (· < ·)→(∀n∈l,m≤n∧n < b)→l.length≤b - m:=by
  intro l;induction l with
  | nil=>intro m _ _;exact Nat.zero_le _
  |
   cons x r ih=>
   intro m h1 h2;have h3:=List.pairwise_cons.1 h1;have h4:=h2 x (by simp);have:=ih (x+1) h3.2 (fun n hn=>⟨h3.1 n hn,(h2 n (by simp[hn])).2⟩);simp only[List.length_cons];omega
 exact this l 0 h.1 (fun n hn=>⟨Nat.zero_le _,h.2 n hn⟩)
theorem Asc.weak {b b':Nat}{l:List Nat}(h:Asc b l)(hb:b≤b'):Asc b' l:=⟨h.1,fun n hn=>Nat.lt_of_lt_of_le (h.2 n hn) hb⟩
theorem nY {b:Nat}{l:List Nat}(h:Asc b l):(CT.asc b).ok (.sl (nL l)):=⟨l,rfl,h.1,h.2⟩
theorem Ox {b:Nat}{l:List Nat}{n k:Nat}(h:Asc b l)(hn:n < b)(hk:k≤l.length)(h1:∀x∈l.take k,x < n)(h2:∀x∈l.drop k,n < x):Asc b (l.take k++ [n]++l.drop k):=by
 have hp:=h.1;rw[←List.take_append_drop k l,List.pairwise_append] at hp;refine⟨?_,?_⟩
 · rw[List.append_assoc,List.pairwise_append];refine⟨hp.1,List.pairwise_cons.2 ⟨h2,hp.2.1⟩,fun a ha b hb=>?_⟩;rcases List.mem_cons.1 hb with rfl | hb
   · exact h1 a ha
   · exact hp.2.2 a ha b hb
 · intro x hx;simp only[List.mem_append,List.mem_singleton] at hx;rcases hx with (hx | rfl) | hx
   · exact h.2 x (List.mem_of_mem_take hx)
   · exact hn
   · exact h.2 x (List.mem_of_mem_drop hx)
theorem Yk {α β:Type}(f:α→β)(l:List α)(k:Nat):(l.map f).take k=(l.take k).map f:=List.map_take.symm
theorem Yl {α β:Type}(f:α→β)(l:List α)(k:Nat):(l.map f).drop k=(l.drop k).map f:=List.map_drop.symm
attribute [local go_sem] Yk Yl List.take_length
theorem Dj (b:Nat)(hb:b≤400)(l:List Nat)(hl:Asc b l)(n:Int):jo Tryz.prog 135 [.pv (.sl (nL l)),.pv (ag n)] (fun r=>∃z,r= .pv (boolP z)∧(z=true→∃m∈l,(m:Int)=n)):=by
 have h4:l.length≤400:=Nat.le_trans hl.len hb;refine wf Tryz.func135 (fun _=> []) (h:=fun R hR=>?_);refine wb ?_ <;> intros
 refine wl (fun k:Nat=> [(0,.pv (.sl (nL l))),(1,.pv (ag n)),(5,.pv (ag k))]) (fun _=> []) (fun k=>k≤l.length) (fun k=>l.length - k) 0 (Nat.zero_le _) (vm []) (fun k hk=>?_);refine wb (A2.mk ?_ ?_) <;> intros
 · have h2:k < l.length:=by omega
   refine aB (x:=l[k]) (by omega) (by simp[h2]) rfl ?_;refine wb (A2.mk ?_ ?_) <;> intros
   · exact wt hR (.pv (boolP true)) [] ⟨_,rfl,fun _=>⟨l[k],List.getElem_mem h2,by assumption⟩⟩
   · exact ai ⟨k+1,h2,by omega,vm []⟩
 · exact wt hR (.pv (boolP false)) [] ⟨_,rfl,fun h=>by cases h⟩
theorem Oy (b:Nat)(hb:b≤400)(l:List Nat)(hl:Asc b l)(n:Nat)(hn:n < b):jo Tryz.prog 162 [.pv (.sl (nL l)),.pv (ag n)] (fun r=>∃m,Asc b m∧r= .pv (.sl (nL m))):=by
 have h4:l.length≤400:=Nat.le_trans hl.len hb;refine wf Tryz.func162 (fun _=> []) (h:=fun R hR=>?_);refine wb ?_ <;> intros
 refine wl (fun k:Nat=> [(0,.pv (.sl (nL l))),(1,.pv (ag n)),(5,.pv (ag k))]) (fun _=> []) (fun k=>k≤l.length∧∀x∈l.take k,x < n) (fun k=>l.length - k) 0 ⟨Nat.zero_le _,by simp⟩ (vm []) (fun k ⟨hk,hx⟩=>?_);refine wb (A2.mk ?_ ?_) <;> intros
 · have h2:k < l.length:=by omega
   have hg:=List.getElem?_eq_getElem h2;have hts:=List.take_add_one (i:=k) (l:=l);generalize l[k]=y at hg;rw[hg] at hts;refine aB (x:=y) (by omega) (by simpa using hg) rfl ?_;refine wb (A2.mk ?_ ?_) <;> intros
   · refine ai ⟨k+1,⟨h2,?_⟩,by omega,vm []⟩;intro x hm;rw[hts] at hm;rcases List.mem_append.1 hm with hm | hm
     · exact hx x hm
     · simp at hm;omega
   · refine aB (x:=y) (by omega) (by simpa using hg) rfl ?_;refine wb (A2.mk ?_ ?_) <;> intros
     · exact wt hR (.pv (.sl (nL l))) [] ⟨l,hl,rfl⟩
     · have hd:∀x∈l.drop k,n < x:=by
        intro x hm;have hy:n < y:=by omega
        have hp:=hl.1;rw[←List.take_append_drop k l,List.pairwise_append] at hp;rw[List.drop_eq_getElem_cons h2,(List.getElem?_eq_some_iff.1 hg).2] at hm hp;rcases List.mem_cons.1 hm with rfl | hm
        · exact hy
        · have:=(List.pairwise_cons.1 hp.2.1).1 x hm;omega
       refine And.intro (by first | omega | (simp;omega)) ?_;refine wb ?_ <;> intros
       refine And.intro (by first | omega | (simp;omega)) ?_;refine wb ?_ <;> intros
       refine And.intro (by first | omega | (simp;omega)) ?_;refine wb ?_ <;> intros
       exact wt hR (.pv (.sl (nL (l.take k++ [n]++l.drop k)))) [(312,none)] ⟨_,Ox hl hn hk hx hd,rfl⟩
 · obtain rfl:k=l.length:=by omega
   refine And.intro (by first | omega | (simp;omega)) ?_;refine wb ?_ <;> intros
   refine And.intro (by first | omega | (simp;omega)) ?_;refine wb ?_ <;> intros
   have hp:=Ox hl hn hk hx (by simp);rw[List.take_length] at hp;exact wt hR (.pv (.sl (nL (l++ [n]++l.drop l.length)))) [(312,none)] ⟨_,hp,rfl⟩
theorem F7 (b:Nat)(hb:b≤400)(l:List Nat)(hl:Asc b l)(l2:List Nat)(hl2:Asc b l2):jo Tryz.prog 132 [.pv (.sl (nL l)),.pv (.sl (nL l2))] (fun r=>∃m,Asc b m∧r= .pv (.sl (nL m))):=by
 have h4:l.length≤400:=Nat.le_trans hl.len hb;have h5:l2.length≤400:=Nat.le_trans hl2.len hb;refine wf Tryz.func132 (fun _=> []) (h:=fun R hR=>?_);refine wb ?_ <;> intros
 refine wl (fun u:Nat×List Nat=> [(0,.pv (.sl (nL l))),(1,.pv (.sl (nL l2))),(5,.pv (.sl (nL u.2))),(6,.pv (ag u.1))]) (fun _=> []) (fun u=>u.1≤l.length∧Asc b u.2) (fun u=>l.length - u.1) (0,[]) ⟨Nat.zero_le _,List.Pairwise.nil,fun n hn=>nomatch hn⟩ (vm []) (fun ⟨k,m⟩ ⟨hk,hm⟩=>?_);dsimp only at hk hm;refine wb (A2.mk ?_ ?_) <;> intros
 · have h2:k < l.length:=by omega
   refine aB (x:=l[k]) (by omega) (by simp[h2]) rfl ?_;refine wb ?_ <;> intros
   refine wF (Oy b hb m hm l[k] (hl.2 _ (List.getElem_mem h2))) ?_;rintro r ⟨m',hm',rfl⟩;refine wb ?_ <;> intros
   exact ai ⟨(k+1,m'),⟨h2,hm'⟩,by dsimp only;omega,vm []⟩
 refine wl (fun u:Nat×List Nat=> [(1,.pv (.sl (nL l2))),(5,.pv (.sl (nL u.2))),(7,.pv (ag u.1))]) (fun _=> []) (fun u=>u.1≤l2.length∧Asc b u.2) (fun u=>l2.length - u.1) (0,m) ⟨Nat.zero_le _,hm⟩ (vm []) (fun ⟨k,m⟩ ⟨hk,hm⟩=>?_);dsimp only at hk hm;refine wb (A2.mk ?_ ?_) <;> intros
 · have h2:k < l2.length:=by omega
   refine aB (x:=l2[k]) (by omega) (by simp[h2]) rfl ?_;refine wb ?_ <;> intros
   refine wF (Oy b hb m hm l2[k] (hl2.2 _ (List.getElem_mem h2))) ?_;rintro r ⟨m',hm',rfl⟩;refine wb ?_ <;> intros
   exact ai ⟨(k+1,m'),⟨h2,hm'⟩,by dsimp only;omega,vm []⟩
 · exact wt hR (.pv (.sl (nL m))) [] ⟨_,hm,rfl⟩
theorem iO {b:Nat}{F:PV→Prop}(h:∀l,Asc b l→F (.sl (nL l))):KW (.asc b) F:=by
 rintro p ⟨l,rfl,h1,h2⟩;exact h l ⟨h1,h2⟩
theorem fM {F:PV→Prop}(h:∀n,i64 n→F (ag n)):KW (.int .i64) F:=by
 rintro p ⟨n,h1,rfl⟩;exact h n h1
theorem wX {F:PV→Prop}(h:∀b,F (boolP b)):KW .bool F:=by
 rintro p ⟨b,rfl⟩;exact h b
def FD:List CT→List PV→Prop
 | [],_=>True
 | _ :: _,[]=>True
 | ct :: r,q :: s=>ct.ok q∧FD r s
theorem Jl:∀ {cts:List CT} {row:List PV},FD cts row→∀(j:Nat) ct q,cts[j]?=some ct→row[j]?=some q→ct.ok q
 | [],_,_,j,ct,q,h,_=>by simp at h
 | c :: r,[],_,j,ct,q,_,h=>by simp at h
 |
  c :: r,p :: s,hb,0,ct,q,h1,h2=>by
  simp only[List.getElem?_cons_zero,Option.some.injEq] at h1 h2
  subst h1 h2
  exact hb.1
 | c :: r,p :: s,hb,j+1,ct,q,h1,h2=>Jl hb.2 j ct q (by simpa using h1) (by simpa using h2)
def lD (cts:List CT)(els:List (List PV)):Prop:=∀row∈els,FD cts row
@[go_sem] theorem Vg {s:List PV} :FD [] s=True:=by cases s <;> rfl
@[go_sem] theorem Qv {ct:CT}{r:List CT}{q:PV}{s:List PV} :FD (ct :: r) (q :: s)=(ct.ok q∧FD r s):=rfl
@[go_sem] theorem ac2 {cts:List CT} :lD cts []=True:=by simp[lD]
@[go_sem] theorem abW {cts:List CT}{x:List PV}{r:List (List PV)} :lD cts (x :: r)=(FD cts x∧lD cts r):=by simp[lD]
@[go_sem] theorem ac3 {cts:List CT}{x r:List (List PV)} :lD cts (x++r)=(lD cts x∧lD cts r):=by
 simp only[lD,List.mem_append,eq_iff_iff];exact⟨fun h=>⟨fun a b=>h a (.inl b),fun a b=>h a (.inr b)⟩,fun h a b=>b.elim (h.1 a) (h.2 a)⟩
@[go_sem] theorem ok_int {k k':IntKind}{n:Int} :CT.ok (.int k) (.sc (.int k' n))=(k'=k∧k.wrap n=n):=by
 simp only[CT.ok,eq_iff_iff];constructor
 · rintro⟨m,h1,h2⟩;injection h2 with h2;injection h2 with h2 h3;subst h2 h3;exact⟨rfl,h1⟩
 · rintro⟨rfl,h⟩;exact⟨n,h,rfl⟩
@[go_sem] theorem X8 {b:Bool} :CT.ok .bool (.sc (.bool b))=True:=eq_true ⟨b,rfl⟩
@[go_sem] theorem air {b:Nat} :CT.ok (.asc b) (.sl [])=True:=eq_true (nY (l:= []) ⟨List.Pairwise.nil,fun n hn=>nomatch hn⟩)
def fzT (cts:List CT):Option Obj→Prop
 | some (.row _ k els)=>cts.length=k∧cts≠ []∧lD cts els
 | _=>False
@[go_sem] theorem ais {cts:List CT}{e k:Nat}{els:List (List PV)} :fzT cts (some (.row e k els))=(cts.length=k∧cts≠ []∧lD cts els):=rfl
theorem Ym {σ:Sto}{r:Nat}{cts:List CT}(h:fzT cts (σ r)):rY σ (r,some cts):=by
 unfold rY;dsimp only;generalize σ r=o at h;rcases o with _ | (_ | ⟨e,k,els⟩)
 · exact h
 · exact h
 · exact⟨h.1,h.2.1,fun row hr j ct q h1 h2=>Jl (h.2.2 row hr) j ct q h1 h2⟩
@[go_sem] theorem ac4 {σ:Sto}{r:Nat}{cts:List CT} :rY σ (r,some cts)=fzT cts (σ r):=by
 refine propext ⟨fun h=>?_,Ym⟩;unfold rY at h;dsimp only at h;generalize σ r=o at h;rcases o with _ | (_ | ⟨e,k,els⟩)
 · exact h
 · exact h
 · refine⟨h.1,h.2.1,fun row hr=>?_⟩;have h2:=h.2.2 row hr;clear h hr;induction cts generalizing row with
   | nil=>simp [FD]
   |
    cons c r ih=>
    cases row with
    | nil=>simp [FD]
    | cons p s=>exact ⟨h2 0 c p rfl rfl,ih s (fun j ct q e1 e2=>h2 (j+1) ct q (by simpa using e1) (by simpa using e2))⟩
