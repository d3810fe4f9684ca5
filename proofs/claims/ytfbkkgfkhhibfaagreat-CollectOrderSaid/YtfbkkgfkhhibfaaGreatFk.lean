/- Words. -/
import Derived.Test.YtfbkkgfkhhibfaaGreatFzj
import Derived.Test.YtfbkkgfkhhibfaaGreatTg
set_option linter.unusedVariables false
set_option linter.unusedSimpArgs false
namespace AM
open Go Go.Proofs Mk
set_option maxRecDepth 20000
abbrev fV (ss:List ByteArray):List (List PV):=ss.map fun s=> [bJ s]
theorem YC (ss:List ByteArray)(s:ByteArray)(hl:ss.length≤1000000):FnEq Tryz.prog 94 [.pv (.sl (fV ss)),.pv (bJ s)] (.pv (ag (fU ss s))):=by
 refine wf Tryz.func94 (fun _=> []) (h:=fun R hR=>?_);refine wb ?_ <;> intros
 refine wl (fun i:Nat=> [(0,.pv (.sl (fV ss))),(1,.pv (bJ s)),(5,.pv (ag i))]) (fun _=> []) (fun i=>i≤ss.length∧fU ss s=dU s i (ss.drop i)) (fun i=>ss.length - i) 0 ⟨Nat.zero_le _,rfl⟩ (vm []) (fun i ⟨hi,ha⟩=>?_);refine wb (A2.mk ?_ ?_) <;> intros
 · have h2:i < ss.length:=by omega
   refine aB (x:=ss[i]) (Int.natCast_nonneg _) (by simp[h2]) rfl ?_;refine wb (A2.mk ?_ ?_) <;> intros
   · rw[Mk.at_hit h2 ‹_› ha] at hR;exact wr hR
   · exact ai ⟨i+1,⟨h2,lu h2 ‹_› ha⟩,by omega,vm []⟩
 · rw[oN (by omega) ha] at hR;exact wr hR
theorem KA (ss:List ByteArray)(s:ByteArray)(hl:ss.length≤1000000):ACall Tryz.prog 94 [.own 0 ss.length,.pv (bJ s)] [.row 9 1 (fV ss)] (fun v g=>v= .pv (ag (fU ss s))∧g= [some (.row 9 1 (fV ss))]):=by
 refine wz Tryz.func94 (fun _=> []) (h:=fun R hR=>?_);refine wb ?_ <;> intros
 refine wl (fun i:Nat=> [(0,.own 0 ss.length),(1,.pv (bJ s)),(5,.pv (ag i))]) (fun _=> [some (.row 9 1 (fV ss))]) (fun i=>i≤ss.length∧fU ss s=dU s i (ss.drop i)) (fun i=>ss.length - i) 0 ⟨Nat.zero_le _,rfl⟩ (vm [0]) (fun i ⟨hi,ha⟩=>?_);refine wb (A2.mk ?_ ?_) <;> intros
 · have h2:i < ss.length:=by omega
   refine DK (x:= [bJ ss[i]]) (by simp[h2]) rfl ?_;refine wb (A2.mk ?_ ?_) <;> intros
   · refine wo hR (.pv (ag i)) [some (.row 9 1 (fV ss))] [0] [] ?_;exact⟨by rw[Mk.at_hit h2 ‹_› ha],rfl⟩
   · exact ai ⟨i+1,⟨h2,lu h2 ‹_› ha⟩,by omega,vm [0]⟩
 · refine wo hR (.pv (ag (-1))) [some (.row 9 1 (fV ss))] [0] [] ?_;exact⟨by rw[oN (by omega) ha],rfl⟩
theorem oO (xs:List UInt8)(k:Nat)(m:MS)(s:ByteArray)(hm:m.held.length≤1000000):ACall Tryz.prog 151 [.ptr 0 0,.pv (bJ s)] (m.os xs k) (fun v g=>(∃b,v= .pv (boolP b))∧g=(m.os xs k).map some):=by
 refine wz Tryz.func151 (fun _=> []) (h:=fun R hR=>?_);refine wb ?_ <;> intros
 refine wq (KA m.held s hm) [2] ?_;rintro r g ⟨rfl,rfl⟩;refine wb ?_ <;> intros
 refine wo hR (.pv (boolP (decide (0≤fU m.held s)))) ((m.os xs k).map some) [0,1,2] [] ?_;exact⟨⟨_,rfl⟩,rfl⟩
set_option maxRecDepth 20000
theorem ACall.post {P:Program}{f:FuncId}{vs:List AV}{pre:List Obj}{p q:AV→List (Option Obj)→Prop}(h:ACall P f vs pre p)(hp:∀v g,p v g→q v g):ACall P f vs pre q:=fun fr Ψ loc w xs a b c d=>
 (h fr Ψ loc w xs a b c d).mono fun e w' ⟨r,v,g,Ψ',loc',h1,h2,h3⟩=>⟨r,v,g,Ψ',loc',h1,hp _ _ h2,h3⟩
def VD (l:Lf):ER:=⟨l.op,l.n,l.name,[]⟩
def sV (l:Lf):List PV:=(VD l).r
def qX (e:Ex):ER:=⟨e.op,e.n,e.name,e.kids.map sV⟩
theorem LfR.of {e:ER}(h:LfR e):∃l,e=VD l:=by
 cases h with
 | @num n h=>exact ⟨.num ⟨n,h⟩,rfl⟩
 |
  @var s h=>
  simp only[List.mem_cons,List.not_mem_nil,or_false] at h;rcases h with rfl | rfl | rfl | rfl | rfl
  · exact⟨.var .a,rfl⟩
  · exact⟨.var .b,rfl⟩
  · exact⟨.var .x,rfl⟩
  · exact⟨.var .y,rfl⟩
  · exact⟨.var .v,rfl⟩
theorem ExR.of {e:ER}(h:ExR e):∃x,e=qX x:=by
 cases h with
 | leaf h=>obtain ⟨l,rfl⟩:=h.of;exact⟨.leaf l,by cases l <;> rfl⟩
 | idx h=>obtain ⟨l,rfl⟩:=h.of;exact⟨.idx l,rfl⟩
 |
  bin ho ha hb=>
  obtain⟨l,rfl⟩:=ha.of;obtain⟨r,rfl⟩:=hb.of;simp only[List.mem_cons,List.not_mem_nil,or_false] at ho;rcases ho with rfl | rfl | rfl | rfl | rfl | rfl
  · exact⟨.bin 0 l r,rfl⟩
  · exact⟨.bin 1 l r,rfl⟩
  · exact⟨.bin 2 l r,rfl⟩
  · exact⟨.bin 3 l r,rfl⟩
  · exact⟨.bin 4 l r,rfl⟩
  · exact⟨.bin 5 l r,rfl⟩
@[go_sem] def nR (op:Int)(name arg:ByteArray)(ix:List (List PV))(e:ER)(b c:List (List PV)):List PV:= [ag op,ag 0,bJ name,bJ arg,.sl ix,ag e.op,ag e.n,bJ e.s,.sl e.l,.sl b,.sl c]
def Jv:Option Ex→ER
 | some e=>qX e
 | none=>⟨0,0,bE,[]⟩
mutual
def lS:Sm→List PV
 | .ite e b c=>nR 2 bE bE [] (qX e) (D7 b) (D7 c)
 | .whl e b=>nR 3 bE bE [] (qX e) (D7 b) []
 | .blk k b=>nR (Sm.op (.blk k [])) (Sm.name (.blk k [])) bE [] (Jv none) (D7 b) []
 | .tx b=>nR 7 bE bE [] (Jv none) (D7 b) []
 | .atm b=>nR 8 bE bE [] (Jv none) (D7 b) []
 | s=>nR s.op s.name s.arg (s.index.map sV) (Jv s.ex) [] []
def D7:List Sm→List (List PV)
 | []=> []
 | s :: r=>lS s :: D7 r
end
theorem He:∀l,D7 l=l.map lS
 | []=>rfl
 | s :: r=>by simp only[D7,List.map_cons,He r]
theorem dJ (s:Sm):lS s=nR s.op s.name s.arg (s.index.map sV) (Jv s.ex) (s.body.map lS) (s.els.map lS):=by
 cases s <;> simp only[lS,He] <;> first | rfl | (rename_i k b;cases k <;> rfl) | skip
@[go_sem] theorem lC (s:Sm):(lS s).length=11:=by rw[dJ];rfl
def SmD:Nat→Sm→Prop
 | 0,s=>s.body= []∧s.els= []
 | d+1,s=>(s.body.length≤10∧∀x∈s.body,SmD d x)∧s.els.length≤10∧∀x∈s.els,SmD d x
theorem jZ (s:ByteArray)(e:ER):FnEq Tryz.prog 76 [.pv (bJ s),rw_ e.r] (rw_ (nR 1 s bE [] e [] [])):=by
 refine wf Tryz.func76 (fun _=> []) (h:=fun R hR=>?_);refine wb ?_ <;> intros
 all_goals exact wr hR
set_option maxRecDepth 20000
def StC (xs:List UInt8)(d:Nat):Prop:=∀(k:Nat) (m:MS),k≤xs.length→m.held.length+d≤100→ACall Tryz.prog 110 [.ptr 0 0,.pv (ag d)] (m.os xs k) (fun v g=>∃(s:Sm) (m':MS) (k':Nat),SmD d s∧m'.held=m.held∧k'≤xs.length∧v=rw_ (lS s)∧g=m'.og xs k')
abbrev TS (l:List Sm):Obj:= .row 196 11 (l.map lS)
def SsC (xs:List UInt8)(d:Nat):Prop:=∀(k:Nat) (m:MS) (n:Nat),k≤xs.length→m.held.length+d≤100→n≤10→ACall Tryz.prog 75 [.ptr 0 0,.pv (ag d),.pv (ag n)] (m.os xs k) (fun v g=>∃(l:List Sm) (m':MS) (k':Nat),l.length≤n∧(∀s∈l,SmD d s)∧m'.held=m.held∧k'≤xs.length∧v= .own 4 l.length∧g=m'.og xs k'++ [some (TS l)])
theorem Ur (xs:List UInt8)(d:Nat)(hS:StC xs d):SsC xs d:=by
 intro k m n hk hm hn;refine wz Tryz.func75 (fun _=> []) (h:=fun R hR=>?_);refine wb ?_ <;> intros
 refine jq 7 196 11 (by exact we) ?_;refine wl (fun t:Nat×List Sm×MS×Nat=> [(0,.ptr 0 0),(1,.pv (ag d)),(2,.pv (ag n)),(7,.own 4 t.2.1.length),(8,.pv (ag t.1))]) (fun t=>t.2.2.1.og xs t.2.2.2++ [some (TS t.2.1)]) (fun t=>t.1≤n∧t.2.1.length=t.1∧(∀s∈t.2.1,SmD d s)∧t.2.2.1.held=m.held∧t.2.2.2≤xs.length) (fun t=>n - t.1) (0,[],m,k) ⟨Nat.zero_le _,rfl,by simp,rfl,hk⟩ (vm [0,1,2,2,27]) (fun ⟨i,l,m1,k1⟩ ⟨h1,h2,h3,h4,h5⟩=>?_);dsimp only at h1 h2 h3 h4 h5;refine wb (A2.mk ?_ (A2.mk ?_ (A2.mk ?_ ?_))) <;> intros
 any_goals
  have hl:l.length≤9:=by omega
  refine wq (hS k1 m1 h5 (by rw[h4];exact hm)) [0,1,3] ?_;rintro r g ⟨s,m2,k2,q1,q2,q3,rfl,rfl⟩;refine wb ?_ <;> intros
  refine ai ⟨(i+1,l++ [s],m2,k2),⟨by omega,by simp[h2],fun x hx=>?_,by rw[q2,h4],q3⟩,by omega,vm [0,1,2,141,157]⟩;rcases List.mem_append.1 hx with hx | hx
  · exact h3 x hx
  · rw[List.mem_singleton.1 hx];exact q1
 all_goals
  refine wo hR (.own 4 l.length) (m1.og xs k1++ [some (TS l)]) [0,1,2,3,4] [] ?_;exact⟨l,m1,k1,by omega,h3,h4,h5,rfl,rfl⟩
def SsZ (xs:List UInt8)(d:Nat):Prop:=∀(k:Nat) (m:MS) (n:Nat),k≤xs.length→m.held.length+d≤100→n≤10→ACall Tryz.prog 75 [.ptr 0 0,.pv (ag d),.pv (ag n)] (m.os xs k) (fun v g=>∃(l:List Sm) (m':MS) (k':Nat),l.length≤n∧(∀s∈l,SmD d s)∧m'.held=m.held∧k'≤xs.length∧v= .pv (.sl (l.map lS))∧g=m'.og xs k')
theorem Us (xs:List UInt8)(d:Nat)(hS:StC xs d):SsZ xs d:=by
 intro k m n hk hm hn;refine wz Tryz.func75 (fun _=> []) (h:=fun R hR=>?_);refine wb ?_ <;> intros
 refine jq 7 196 11 (by exact we) ?_;refine wl (fun t:Nat×List Sm×MS×Nat=> [(0,.ptr 0 0),(1,.pv (ag d)),(2,.pv (ag n)),(7,.own 4 t.2.1.length),(8,.pv (ag t.1))]) (fun t=>t.2.2.1.og xs t.2.2.2++ [some (TS t.2.1)]) (fun t=>t.1≤n∧t.2.1.length=t.1∧(∀s∈t.2.1,SmD d s)∧t.2.2.1.held=m.held∧t.2.2.2≤xs.length) (fun t=>n - t.1) (0,[],m,k) ⟨Nat.zero_le _,rfl,by simp,rfl,hk⟩ (vm [0,1,2,2,27]) (fun ⟨i,l,m1,k1⟩ ⟨h1,h2,h3,h4,h5⟩=>?_);dsimp only at h1 h2 h3 h4 h5;refine wb (A2.mk ?_ (A2.mk ?_ (A2.mk ?_ ?_))) <;> intros
 any_goals
  have hl:l.length≤9:=by omega
  refine wq (hS k1 m1 h5 (by rw[h4];exact hm)) [0,1,3] ?_;rintro r g ⟨s,m2,k2,q1,q2,q3,rfl,rfl⟩;refine wb ?_ <;> intros
  refine ai ⟨(i+1,l++ [s],m2,k2),⟨by omega,by simp[h2],fun x hx=>?_,by rw[q2,h4],q3⟩,by omega,vm [0,1,2,141,157]⟩;rcases List.mem_append.1 hx with hx | hx
  · exact h3 x hx
  · rw[List.mem_singleton.1 hx];exact q1
 all_goals
  refine wo hR (.pv (.sl (l.map lS))) (m1.og xs k1) [0,1,2,3] [(4,none)] ?_;exact⟨l,m1,k1,by omega,h3,h4,h5,rfl,rfl⟩
set_option maxRecDepth 20000
theorem yP (xs:List UInt8)(hx:xs.length≤1000)(d:Nat)(hS:SsC xs d)(k:Nat)(m:MS)(s:ByteArray)(hk:k≤xs.length)(hm:m.held.length+d+1≤100):ACall Tryz.prog 152 [.ptr 0 0,.pv (bJ s),.pv (ag d)] (m.os xs k) (fun v g=>∃(l:List Sm) (m':MS) (k':Nat),l.length≤10∧(∀s∈l,SmD d s)∧m'.held=m.held∧k'≤xs.length∧v= .own 4 l.length∧g=m'.og xs k'++ [some (TS l)]):=by
 refine wz Tryz.func152 (fun _=> [(4,8)]) (h:=fun R hR=>?_);refine wb ?_ <;> intros
 refine wq (eU xs k 2 hx hk (by decide) (by decide)) [1] ?_;rintro r g ⟨rfl,k1,hk1,rfl⟩;have hn:=jM xs k (n:=2) (by decide);refine ws ?_;refine wq (hS k1 { m with held:=m.held++ [s] } (1+FN xs k 2) hk1 (by simp;omega) (by omega)) [0,1,67] ?_;rintro r g ⟨l,m2,k2,q1,q2,q3,q4,rfl,rfl⟩;obtain⟨vI,oW,set2,Xr,at2,lo2,held2⟩:=m2;dsimp only at q3;subst q3;refine wb ?_ <;> intros
 have h9:((m.held.length:Int)+1 - 1).toNat=(m.held.map fun s=> [bJ s]).length:=by simp
 refine wo hR (.own 4 l.length) (MS.og ⟨vI,oW,set2,Xr,at2,lo2,m.held⟩ xs k2++ [some (TS l)]) [0,1,2,267,164] [] ?_;exact⟨l,⟨vI,oW,set2,Xr,at2,lo2,m.held⟩,k2,by omega,q2,rfl,q4,rfl,rfl⟩
set_option maxRecDepth 20000
abbrev u8P (n:Int):PV:= .sc (.int .u8 n)
def WM (n:Int):Bool:=decide (97≤n) && decide (n≤122) || decide (65≤n) && decide (n≤90)
def Z9 (n:Int):Bool:=decide (48≤n) && decide (n≤57)
def aab (n:Int):Bool:=WM n || Z9 n || decide (n=95)
theorem BK (n:Int):FnEq Tryz.prog 122 [.pv (u8P n)] (.pv (boolP (WM n))):=by
 unfold WM;refine wf Tryz.func122 (fun _=> []) (h:=fun R hR=>?_);refine wb (A2.mk ?_ (A2.mk ?_ (A2.mk ?_ ?_))) <;> intros
 all_goals exact wr hR
theorem Td (n:Int):FnEq Tryz.prog 157 [.pv (u8P n)] (.pv (boolP (Z9 n))):=by
 unfold Z9;refine wf Tryz.func157 (fun _=> []) (h:=fun R hR=>?_);refine wb (A2.mk ?_ ?_) <;> intros
 all_goals exact wr hR
theorem Tf (n:Int):FnEq Tryz.prog 124 [.pv (u8P n)] (.pv (boolP (aab n))):=by
 unfold aab;refine wf Tryz.func124 (fun _=> []) (h:=fun R hR=>?_);refine wb ?_ <;> intros
 refine wE (BK n) ?_;refine wb (A2.mk ?_ ?_) <;> intros
 · exact wr hR
 refine wE (Td n) ?_;refine wb (A2.mk ?_ ?_) <;> intros
 all_goals exact wr hR
def Hm:List ByteArray:= [⟨#[118,97,114]⟩,⟨#[118,111,108,97,116,105,108,101]⟩,⟨#[109,117,116,101,120]⟩,⟨#[114,119,108,111,99,107]⟩,⟨#[99,111,110,100]⟩,⟨#[102,117,116,117,114,101]⟩,⟨#[116,104,114,101,97,100]⟩,⟨#[105,102]⟩,⟨#[101,108,115,101]⟩,⟨#[119,104,105,108,101]⟩,⟨#[108,111,99,107]⟩,⟨#[114,101,97,100]⟩,⟨#[119,114,105,116,101]⟩,⟨#[116,114,97,110,115,97,99,116,105,111,110]⟩,⟨#[97,116,111,109,105,99]⟩,⟨#[119,97,105,116]⟩,⟨#[110,111,116,105,102,121]⟩,⟨#[110,111,116,105,102,121,97,108,108]⟩,⟨#[115,112,97,119,110]⟩,⟨#[106,111,105,110]⟩,⟨#[115,101,116]⟩,⟨#[103,101,116]⟩]
theorem WN:FnEq Tryz.prog 156 [] (.pv (.sl (fV Hm))):=by
 refine wf Tryz.func156 (fun _=> []) (h:=fun R hR=>?_);refine wb ?_ <;> intros
 exact wr hR
theorem ajm:Hm.length=22:=rfl
theorem WO (s:ByteArray)(h:Hm.any (fun k=>decide (k=s))=false):FnEq Tryz.prog 123 [.pv (bJ s)] (.pv (boolP false)):=by
 have h22:=ajm;refine wf Tryz.func123 (fun _=> []) (h:=fun R hR=>?_);refine wb ?_ <;> intros
 refine wE WN ?_;refine wb ?_ <;> intros
 refine wl (fun i:Nat=> [(0,.pv (bJ s)),(3,.pv (.sl (fV Hm))),(4,.pv (ag i))]) (fun _=> []) (fun i=>i≤Hm.length) (fun i=>Hm.length - i) 0 (Nat.zero_le _) (vm []) (fun i hi=>?_);refine wb (A2.mk ?_ ?_) <;> intros
 · refine iC Hm (fun x=> [bJ x]) (by omega) (fun x hx=>?_);refine wb (A2.mk ?_ ?_) <;> intros
   · simp only[List.any_eq_false,decide_eq_true_eq] at h;exact absurd ‹_› (h x hx)
   · exact ai ⟨i+1,by omega,by omega,vm []⟩
 · exact wr hR
def jm (s:ByteArray):Bool:=decide (1≤s.size) && decide (s.size≤12) && WM ((s[0]?).getD 0).toNat &&(List.range s.size).all (fun i=>aab ((s[i]?).getD 0).toNat) && !Hm.any (fun k=>decide (k=s))
theorem gY (s:ByteArray)(h:jm s=true):FnEq Tryz.prog 93 [.pv (bJ s)] (.pv (boolP true)):=by
 simp only[jm,Bool.and_eq_true,decide_eq_true_eq,Bool.not_eq_true',List.all_eq_true,List.mem_range] at h;obtain⟨⟨⟨⟨h1,h2⟩,h3⟩,h4⟩,h5⟩:=h;refine wf Tryz.func93 (fun _=> []) (h:=fun R hR=>?_);refine wb ?_ <;> intros
 refine wE (BK _) ?_;simp only[Int.toNat_zero,h3];refine wb ?_ <;> intros
 refine wE (WO s h5) ?_;refine wb ?_ <;> intros
 refine wl (fun i:Nat=> [(0,.pv (bJ s)),(3,.pv (ag i))]) (fun _=> []) (fun i=>i≤s.size) (fun i=>s.size - i) 0 (Nat.zero_le _) (vm []) (fun i hi=>?_);refine wb (A2.mk ?_ ?_) <;> intros
 · refine wE (Tf _) ?_;rw[h4 i (by omega)];refine wb ?_ <;> intros
   exact ai ⟨i+1,by omega,by omega,vm []⟩
 · exact wr hR
set_option maxRecDepth 20000
set_option maxHeartbeats 4000000
structure DR where
 kind:Int
 name:ByteArray
 size:Int
 init:Int
 on:ByteArray
@[go_sem] def DR.r (d:DR):List PV:= [ag d.kind,ag 0,bJ d.name,ag d.size,ag d.init,bJ d.on]
def dL:List DR:= [⟨1,⟨#[120]⟩,0,0,bE⟩,⟨1,⟨#[121]⟩,0,1,bE⟩,⟨2,⟨#[118]⟩,0,0,bE⟩,⟨1,⟨#[113]⟩,2,0,bE⟩,⟨3,⟨#[109]⟩,0,0,bE⟩,⟨3,⟨#[110]⟩,0,0,bE⟩,⟨4,⟨#[114]⟩,0,0,bE⟩,⟨5,⟨#[99]⟩,0,0,⟨#[109]⟩⟩,⟨6,⟨#[102]⟩,0,0,bE⟩]
@[go_sem] theorem alJ:dL.length=9:=rfl
abbrev SS:List (List PV):=dL.map DR.r
@[go_sem] def thR (name:ByteArray)(lo:List ByteArray)(b:PV):List PV:= [bJ name,ag 0,.sl (fV lo),b]
theorem IE:FnEq Tryz.prog 73 [] (.pv (.sl SS)):=by
 refine wf Tryz.func73 (fun _=> []) (h:=fun R hR=>?_);refine wb ?_ <;> intros
 exact wr hR
theorem BJ (l:List DR)(s:ByteArray)(hl:l.length≤1000):FnEq Tryz.prog 140 [.pv (.sl (l.map DR.r)),.pv (bJ s)] (.pv (ag (fU (l.map DR.name) s))):=by
 refine wf Tryz.func140 (fun _=> []) (h:=fun R hR=>?_);refine wb ?_ <;> intros
 refine wl (fun i:Nat=> [(0,.pv (.sl (l.map DR.r))),(1,.pv (bJ s)),(5,.pv (ag i))]) (fun _=> []) (fun i=>i≤l.length∧fU (l.map DR.name) s=dU s i ((l.map DR.name).drop i)) (fun i=>l.length - i) 0 ⟨Nat.zero_le _,rfl⟩ (vm []) (fun i ⟨hi,ha⟩=>?_);refine wb (A2.mk ?_ ?_) <;> intros
 · have h2:i < l.length:=by omega
   refine aB (x:=l[i]) (Int.natCast_nonneg _) (by simp[h2]) rfl ?_;refine wb (A2.mk ?_ ?_) <;> intros
   · rw[at_hit (i:=i) (by simpa using h2) (by simpa using ‹l[i].name=s›) ha] at hR;exact wr hR
   · exact ai ⟨i+1,⟨h2,lu (i:=i) (by simpa using h2) (by simpa using ‹_›) ha⟩,by omega,vm []⟩
 · rw[oN (i:=i) (by simp;omega) ha] at hR;exact wr hR
set_option maxRecDepth 20000
def Zq (n:Int):Int:=if n=1∨n=2 then 0 else if 3≤n∧n≤5 then 1 else if 6≤n∧n≤18 then 2 else -1
theorem kZ (n r:Int)(h:Zq n=r):FnEq Tryz.prog 181 [.pv (ag n)] (.pv (ag r)):=by
 unfold Zq at h;refine wf Tryz.func181 (fun _=> []) (h:=fun R hR=>?_);refine wb (A2.mk ?_ (A2.mk ?_ (A2.mk ?_ (A2.mk ?_ (A2.mk ?_ ?_))))) <;> intros
 all_goals exact wr hR
theorem Q8:FnEq Tryz.prog 177 [rw_ (Jv none).r] (.pv (boolP true)):=by
 unfold Jv;refine wf Tryz.func177 (fun _=> []) (h:=fun R hR=>?_);refine wb ?_ <;> intros
 all_goals exact wr hR
attribute [local go_sem] sV
theorem nX (l:Lf):FnEq Tryz.prog 176 [rw_ (sV l)] (.pv (boolP true)):=by
 cases l with
 |
  num n=>
  simp only[sV,VD,Lf.op,Lf.n,Lf.name];refine wf Tryz.func176 (fun _=> [(1,4),(2,4)]) (h:=fun R hR=>?_);refine wb ?_ <;> intros
  refine wE (kZ _ 0 rfl) ?_;refine wb ?_ <;> intros
  refine w1 ?_;refine wb ?_ <;> intros
  exact wr hR
 |
  var k=>
  cases k
  all_goals
   simp only[sV,VD,Lf.op,Lf.n,Lf.name,Nm.str];refine wf Tryz.func176 (fun _=> [(1,4),(2,4)]) (h:=fun R hR=>?_);refine wb ?_ <;> intros
   refine wE (kZ _ 0 rfl) ?_;refine wb ?_ <;> intros
   refine wE (gY _ ?_) ?_;decide+kernel;refine wb ?_ <;> intros
   refine w1 ?_;refine wb ?_ <;> intros
   exact wr hR
theorem F5 (x:Ex):FnEq Tryz.prog 176 [rw_ (qX x).r] (.pv (boolP true)):=by
 cases x with
 |
  leaf l=>
  have:=nX l
  cases l <;> exact this
 |
  idx l=>
  simp only[qX,Ex.op,Ex.n,Ex.name,Ex.kids];refine wf Tryz.func176 (fun _=> [(1,4),(2,4)]) (h:=fun R hR=>?_);refine wb ?_ <;> intros
  refine wE (kZ _ 1 rfl) ?_;refine wb ?_ <;> intros
  refine wE (gY _ ?_) ?_;decide+kernel;refine wb ?_ <;> intros
  refine w2 ?_;refine wb ?_ <;> intros
  refine au (by omega) rfl rfl ?_;refine wb ?_ <;> intros
  refine wE (nX l) ?_;refine wb ?_ <;> intros
  exact wr hR
 |
  bin k l r=>
  have hk:Zq (binOp k)=2∧binOp k≠1∧binOp k≠2∧binOp k≠3:=by revert k;decide
  obtain⟨hk,hk1,hk2,hk3⟩:=hk;simp only[qX,Ex.op,Ex.n,Ex.name,Ex.kids];generalize binOp k=op at hk hk1 hk2 hk3;refine wf Tryz.func176 (fun _=> [(1,4),(2,4)]) (h:=fun R hR=>?_);refine wb ?_ <;> intros
  refine wE (kZ _ 2 hk) ?_;refine wb ?_ <;> intros
  refine w3 ?_;refine wb ?_ <;> intros
  refine au (by omega) rfl rfl ?_;refine wb ?_ <;> intros
  refine wE (nX l) ?_;refine wb ?_ <;> intros
  refine au (by omega) rfl rfl ?_;refine wb ?_ <;> intros
  refine wE (nX r) ?_;refine wb ?_ <;> intros
  exact wr hR
end AM
namespace AM
open Go Go.Proofs Mk
set_option maxRecDepth 20000
set_option maxHeartbeats 4000000
@[go_sem] theorem agp {s:Sm} :List.take 11 ((lS s).map AV.pv)=(lS s).map AV.pv:=List.take_of_length_le (by simp[lC])
abbrev NM (l:List Sm):PV:= .sl (l.map lS)
def ShS (s:Sm):Prop:=FnEq Tryz.prog 166 [rw_ (lS s)] (.pv (boolP true))
def WJ (l:List Sm):Prop:=FnEq Tryz.prog 139 [.pv (NM l)] (.pv (boolP true))
theorem shL (l:List Sm)(hl:l.length≤1000)(h:∀s∈l,ShS s):WJ l:=by
 unfold WJ;refine wf Tryz.func139 (fun _=> []) (h:=fun R hR=>?_);refine wb ?_ <;> intros
 refine wl (fun i:Nat=> [(0,.pv (NM l)),(3,.pv (ag i))]) (fun _=> []) (fun i=>i≤l.length) (fun i=>l.length - i) 0 (Nat.zero_le _) (vm []) (fun i hi=>?_);refine wb (A2.mk ?_ ?_) <;> intros
 · refine iC l lS (by omega) (fun s hs=>?_);refine wb ?_ <;> intros
   refine wE (h s hs) ?_;refine wb ?_ <;> intros
   exact ai ⟨i+1,by omega,by omega,vm []⟩
 · exact wr hR
theorem pV (k:Nat):aO k=⟨#[109,97,105,110]⟩∨aO k=⟨#[116,49]⟩∨aO k=⟨#[116,50]⟩∨aO k=⟨#[116,51]⟩:=by
 match k with
 | 0=>exact .inl rfl
 | 1=>exact .inr (.inl rfl)
 | 2=>exact .inr (.inr (.inl rfl))
 | k+3=>exact .inr (.inr (.inr rfl))
attribute [local go_sem] sV
theorem shR (op:Int)(name arg:ByteArray)(ix:List Lf)(e:Option Ex)(b c:List Sm)(hb:WJ b)(he:WJ c)(hi:ix= []∨op=1∧∃i,ix= [i])
 (h:e=none∧name=bE∧(op=7∨op=8)∧arg=bE∧c= []∨e=none∧jm name=true∧1≤name.size∧(4≤op∧op≤6)∧arg=bE∧c= []∨e=none∧jm name=true∧1≤name.size∧(9≤op∧op≤13)∧arg=bE∧b= []∧c= []∨e=none∧jm name=true∧1≤name.size∧op=15∧jm arg=true∧1≤arg.size∧b= []∧c= []∨
  ∃x,e=some x∧arg=bE∧(name=bE∧(op=2∨op=3∧c= [])∨jm name=true∧1≤name.size∧(op=1∨op=14)∧b= []∧c= [])):
 FnEq Tryz.prog 166 [rw_ (nR op name arg (ix.map sV) (Jv e) (b.map lS) (c.map lS))] (.pv (boolP true)):=by
 unfold WJ at hb he;obtain⟨rfl,rfl,rfl | rfl,rfl,rfl⟩ | ⟨rfl,hn,hs,h,rfl,rfl⟩ | ⟨rfl,hn,hs,h,rfl,rfl,rfl⟩ | ⟨rfl,hn,hs,rfl,ha,has,rfl,rfl⟩ | ⟨x,rfl,rfl,⟨rfl,rfl | ⟨rfl,rfl⟩⟩ | ⟨hn,hs,rfl | rfl,rfl,rfl⟩⟩:=h
 all_goals
  obtain rfl | ⟨h1,i,rfl⟩:=hi;all_goals first | (exfalso;omega) | skip
  all_goals
   refine wf Tryz.func166 (fun _=> []) (h:=fun R hR=>?_);repeat (refine wb ?_;intros;first | refine wE (gY name hn) ?_ | refine wE (gY arg ha) ?_ | refine wE (nX i) ?_ | refine wE (F5 x) ?_ | refine wE Q8 ?_ | refine wE hb ?_ | refine wE he ?_ | refine au (by omega) rfl rfl ?_)
   refine wb ?_;intros;exact wr hR
theorem shS (s:Sm)(hb:WJ s.body)(he:WJ s.els):ShS s:=by
 unfold ShS;rw[dJ];refine shR _ _ _ _ _ _ _ hb he ?_ ?_
 · cases s <;> first | exact .inl rfl | exact .inr ⟨rfl,_,rfl⟩
 · cases s with
   | asg k e=>exact .inr (.inr (.inr (.inr ⟨e,rfl,rfl,.inr ⟨show jm k.str=true by cases k <;> decide+kernel,show 1≤k.str.size by cases k <;> decide,.inl rfl,rfl,rfl⟩⟩)))
   | asq i e=>exact .inr (.inr (.inr (.inr ⟨e,rfl,rfl,.inr ⟨by show jm ⟨#[113]⟩=true;decide+kernel,Nat.le_refl 1,.inl rfl,rfl,rfl⟩⟩)))
   | set e=>exact .inr (.inr (.inr (.inr ⟨e,rfl,rfl,.inr ⟨by show jm ⟨#[102]⟩=true;decide+kernel,Nat.le_refl 1,.inr rfl,rfl,rfl⟩⟩)))
   | ite e b c=>exact .inr (.inr (.inr (.inr ⟨e,rfl,rfl,.inl ⟨rfl,.inl rfl⟩⟩)))
   | whl e b=>exact .inr (.inr (.inr (.inr ⟨e,rfl,rfl,.inl ⟨rfl,.inr ⟨rfl,rfl⟩⟩⟩)))
   | blk k b=>exact .inr (.inl ⟨rfl,by cases k <;> (simp only[Sm.name];decide+kernel),by cases k <;> exact Nat.le_refl 1,by cases k <;> (simp only[Sm.op];decide),rfl,rfl⟩)
   | tx b=>exact .inl ⟨rfl,rfl,.inl rfl,rfl,rfl⟩
   | atm b=>exact .inl ⟨rfl,rfl,.inr rfl,rfl,rfl⟩
   | sig k=>exact .inr (.inr (.inl ⟨rfl,by show jm ⟨#[99]⟩=true;decide+kernel,Nat.le_refl 1,by cases k <;> decide,rfl,rfl,rfl⟩))
   |
    spawn k=>
    have:=pV k;exact .inr (.inr (.inl ⟨rfl,by simp only[Sm.name];obtain h | h | h | h:=this <;> (rw[h];decide+kernel),by simp only[Sm.name];obtain h | h | h | h:=this <;> (rw[h];decide),by simp only[Sm.op];decide,rfl,rfl,rfl⟩))
   | join=>exact .inr (.inr (.inl ⟨rfl,by show jm ⟨#[116,49]⟩=true;decide+kernel,show 1≤ByteArray.size ⟨#[116,49]⟩ by decide,by decide,rfl,rfl,rfl⟩))
   | get=>exact .inr (.inr (.inr (.inl ⟨rfl,by show jm ⟨#[97]⟩=true;decide+kernel,Nat.le_refl 1,rfl,by show jm ⟨#[102]⟩=true;decide+kernel,Nat.le_refl 1,rfl,rfl⟩)))
theorem Vd:∀(d:Nat) (s:Sm),SmD d s→ShS s
 | 0,s,h=>shS s (h.1▸shL [] (by decide) (by simp)) (h.2▸shL [] (by decide) (by simp))
 | d+1,s,h=>shS s (shL _ (by have:=h.1.1;omega) fun x hx=>Vd d x (h.1.2 x hx)) (shL _ (by have:=h.2.1;omega) fun x hx=>Vd d x (h.2.2 x hx))
