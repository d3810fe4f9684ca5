/- Words. -/
import Derived.Test.YtfbkkgfkhhibfaaGreatTrP
import Derived.StillTail
set_option linter.unusedVariables false
set_option maxRecDepth 100000
set_option maxHeartbeats 8000000
namespace Iv
open Go
section
variable {P : Program} {ops : Array Oper} {Q : Exit -> Act -> World -> Prop} {md : Region.Mode} {S : World -> Prop} {z : Nat}
def jP (P:Program)(md:Region.Mode)(ops:Array Oper)(Q:Exit->Act->World->Prop)(S:World->Prop)(z:Nat):Nat->Array Bool->Act->World->Prop
 |0,listed,a,w=>Region.ready md ops listed=[]/\Q .normal a w
 |
  fuel+1,listed,a,w=>
  (Region.ready md ops listed=[]->Q .normal a w)/\
  ∀i∈Region.ready md ops listed,wpOp P ops Q i (λa' w'=>(i≠z->S w')/\jP P md ops Q S z fuel (listed.setIfInBounds i true) a' w') a w
theorem ET:∀(fuel:Nat) (listed:Array Bool) (a:Act) (w:World),jP P md ops Q S z fuel listed a w->wpAny P md ops Q fuel listed a w
 |0,_,_,_,h=>h
 |fuel+1,_,_,_,h=>⟨h.1,λi hi=>wpOp_mono (λa' w' d=>ET fuel _ a' w' d.2) (h.2 i hi)⟩
theorem KC {i:Nat}{oi:Oper}{v:Value}(hi:ops[i]?=some oi)(B:∀(j:Nat) (o:Oper) cs b,ops[j]?=some o->o.op≠ .select cs b)
 (Y:∀c a w,Q (.panic c) (a.put oi.dst v) w->Q (.panic c) a w) (R:Region.waitsFor md ops z i=true):
 ∀(fuel:Nat) (listed:Array Bool) (a:Act) (w:World),
  (∀j oj,ops[j]?=some oj->j≠i->listed.getD j true=false->(∀e∈oj.after,Region.binds md e=true->e.on≠i)->oi.apart ops oj=true)->
  i∈Region.ready md ops listed->YieldsIf P ops S oi v a->S w->
  jP P md ops Q S z fuel (listed.setIfInBounds i true) (a.put oi.dst v) w->jP P md ops Q S z (fuel+1) listed a w:=by
 intro fuel;induction fuel with
 |
  zero=>
  intro listed a w _ hr N G H;refine⟨λh=>(by rw[h] at hr;cases hr),λj O=>?_⟩;by_cases d:j=i;subst d;exact N.wpOp hi G ⟨λ_=>G,H⟩
  . have:=ready_mono O d;rw[H.1] at this
    cases this
 |
  succ fuel ih=>
  intro listed a w q hr N G H;refine⟨λh=>(by rw[h] at hr;cases hr),λj O=>?_⟩;by_cases d:j=i;subst d;exact N.wpOp hi G ⟨λ_=>G,H⟩
  . have h1:=H.2 j (ready_mono O d);obtain⟨D,oj,u,I⟩:=mem_ready.1 O
    have E:∀e∈oj.after,Region.binds md e=true->e.on≠i:=λe he hb heq=>by
     have h1:=I e he hb;have h0:=(mem_ready.1 hr).1;rw[heq] at h1;rcases Nat.lt_or_ge i listed.size with h'|h';simp[h'] at h0 h1;rw[h0] at h1;cases h1
     simp[Array.getElem?_eq_none h'] at h1
    have J:j≠z:=(by rintro rfl;obtain⟨Z,U,e,he,hb,V⟩:=Region.waitsFor_spec R;have:Z=oj:=Option.some.inj (U.symm.trans u);subst this;exact E e he hb V);have h2:=wpOp_putIf u (q j oj u d D E) (λcs b=>B i oi cs b hi) (λcs b=>B j oj cs b u) Y N h1
    have y:∀k ok,ops[k]?=some ok->k≠i->(listed.setIfInBounds j true).getD k true=false->
     (∀e∈ok.after,Region.binds md e=true->e.on≠i)->oi.apart ops ok=true:=λk ok hk X L hno=>by
     refine q k ok hk X ?_ hno;by_cases M:j=k;subst M;exact D;rw[getD_set_ne true M] at L;exact L
    refine wpOp_mono (λa' w' h3=>⟨λ_=>h3.2.1 J,ih (listed.setIfInBounds j true) a' w' y (ready_mono hr (Ne.symm d)) h3.1 (h3.2.1 J) ?_⟩) h2;rw[Array.setIfInBounds_comm _ _ d];exact h3.2.2
theorem aC {i:Nat}{oi:Oper}{v:Value}{fuel:Nat}{listed:Array Bool}{a:Act}{w:World}(hi:ops[i]?=some oi)
 (hs:Region.noSelect ops=true) (hf:Region.free md ops listed i=true) (hr:(Region.ready md ops listed).contains i=true) (d:Region.waitsFor md ops z i=true)
 (q:∀c a w,Q (.panic c) (a.put oi.dst v) w->Q (.panic c) a w) (u:YieldsIf P ops S oi v a) (y:S w)
 (h:jP P md ops Q S z fuel (listed.setIfInBounds i true) (a.put oi.dst v) w):jP P md ops Q S z (fuel+1) listed a w:=
 KC hi (Region.noSelect_spec hs) q d fuel listed a w (Region.free_spec hi hf) (by simpa using hr) u y h
theorem dS {i:Nat}{o:Oper}{fuel:Nat}{listed:Array Bool}{a:Act}{w:World}(hr:Region.ready md ops listed=[i])(ho:ops[i]?=some o)
 (h:∀d:Act->World->Prop,Shut (∀a w,S w->(S w->jP P md ops Q S z fuel (listed.setIfInBounds i true) a w)->d a w)->if Region.wanted o (yielded ops a.tmps)=true then Oper.wp P o a w d Q else d (a.put o.dst undef) w):
 jP P md ops Q S z (fuel+1) listed a w:=by refine⟨λh0=>(by rw[hr] at h0;cases h0),λj q=>?_⟩;rw[hr] at q;obtain rfl:j=i:=(by simpa using q);exact wpOp_step ho (λd y=>h d (λa w u hW=>y a w ⟨λ_=>u,hW u⟩))
theorem uP {o:Oper}{fuel:Nat}{listed:Array Bool}{a:Act}{w:World}(hr:Region.ready md ops listed=[z])(ho:ops[z]?=some o)
 (h:∀d:Act->World->Prop,Shut (∀a w,jP P md ops Q S z fuel (listed.setIfInBounds z true) a w->d a w)->if Region.wanted o (yielded ops a.tmps)=true then Oper.wp P o a w d Q else d (a.put o.dst undef) w):
 jP P md ops Q S z (fuel+1) listed a w:=by refine⟨λh0=>(by rw[hr] at h0;cases h0),λj q=>?_⟩;rw[hr] at q;obtain rfl:j=z:=(by simpa using q);exact wpOp_step ho (λd u=>h d (λa w hW=>u a w ⟨λh0=>absurd rfl h0,hW⟩))
theorem mF {listed:Array Bool}{a:Act}{w:World}(hr:Region.ready md ops listed=[])(h:Q .normal a w):
 ∀fuel,jP P md ops Q S z fuel listed a w
 |0=>⟨hr,h⟩
 |_+1=>⟨λ_=>h,by rw[hr];simp⟩
theorem mD {id:Nat}{a:Act}{w:World}(hm:P.follows .mixedOrders=true)(d:S w.drew)
 (h:S w.drew->jP P .any ops Q S z ops.size (Array.replicate ops.size false) a w.drew):(Code.region id ops true).wp P Q a w:=
 wp_region_any hm (ET _ _ _ _ (h d))
end
section
variable {P : Program} {ops : Array Oper} {Q : Exit -> Act -> World -> Prop} {md : Region.Mode} {S : World -> Prop} {z : Nat}
end
section
variable {P : Program} {ops : Array Oper} {Q : Exit -> Act -> World -> Prop} {md : Region.Mode} {S : World -> Prop} {z : Nat}
def dstOf (ops:Array Oper)(i:Nat):Option Tmp:=(ops[i]?).bind (·.dst)
theorem adA {a:Array Bool}{j:Nat}(h:a.getD j true=false):a.getD j false=false:=by rcases zM j a.size with h'|h';simp[h'] at h|-;exact h;simp[Ze h'] at h
def alP (md:Region.Mode)(ops:Array Oper)(listed:Array Bool)(rem:List Nat)(D:Nat->List Nat)(z:Nat):Bool:=
 (List.range ops.size).all (λj=>listed.getD j true || rem.contains j || j==z) &&
 rem.all (λi=>!listed.getD i true && i !=z &&((ops[z]?).isNone || Region.waitsFor md ops z i)) &&
 decide rem.Nodup && Region.noSelect ops &&
 rem.all (λi=>match ops[i]? with
  |none=>false
  |
   some o=>(D i).all (λk=>rem.contains k && o.after.any (λe=>Region.binds md e && e.on==k)) && !(D i).contains i &&
   rem.all (λk=>k==i || ((D i).contains k || (match dstOf ops k with|none=>true|some d=>!(o.looksAt ops).contains d)) &&(match dstOf ops k with|none=>true|some d=>dstOf ops i !=some d))) &&
 (List.range rem.length).all (λp=>match rem[p]? with
  |none=>true
  |
   some i=>match ops[i]? with
   |none=>false
   |some o=>o.after.all (λe=>!Region.binds md e || listed.getD e.on false || (rem.take p).contains e.on))
structure ChkF (md:Region.Mode)(ops:Array Oper)(listed:Array Bool)(rem:List Nat)(D:Nat->List Nat)(z:Nat):Prop where
 all:∀j,j<ops.size->listed.getD j true=true\/j∈rem\/j=z
 un:∀i∈rem,listed.getD i true=false/\i≠z/\(ops[z]?=none\/Region.waitsFor md ops z i=true)
 nodup:rem.Nodup
 noSel:Region.noSelect ops=true
 op:∀i∈rem,∃o,ops[i]?=some o/\(∀k∈D i,k∈rem/\∃e∈o.after,Region.binds md e=true/\e.on=k)/\i∉D i/\
  ∀k∈rem,k≠i->(k∈D i\/∀d,dstOf ops k=some d->d∉o.looksAt ops)/\∀d,dstOf ops k=some d->dstOf ops i≠some d
 top:∀(p i:Nat) (o:Oper),rem[p]?=some i->ops[i]?=some o->∀e∈o.after,Region.binds md e=true->listed.getD e.on false=true\/e.on∈rem.take p
theorem aiQ {listed:Array Bool}{rem:List Nat}{D:Nat->List Nat}(h:alP md ops listed rem D z=true):ChkF md ops listed rem D z:=by
 unfold alP at h;simp only[dC] at h;obtain⟨⟨⟨⟨⟨h1,h2⟩,h3⟩,h4⟩,h5⟩,h6⟩:=h;refine⟨λj E=>?_,λi hi=>?_,by simpa using h3,h4,λi hi=>?_,λp i o B ho e he hb=>?_⟩;have:=jU.1 h1 j (tY.2 E);simp only[pO,LX,dV] at this;rcases this with (h|h)|h;exact .inl h;exact .inr (.inl h);exact .inr (.inr h);have:=jU.1 h2 i hi;simp only[dC,wY,fB,pO,aa3] at this;exact⟨this.1.1,this.1.2,this.2⟩
 . have:=jU.1 h5 i hi
   cases ho:ops[i]? with
   |none=>rw [ho] at this;simp at this
   |
    some o=>
    rw[ho] at this;simp only[dC,wY] at this;obtain⟨⟨G,H⟩,g3⟩:=this;refine⟨o,rfl,λk hk=>?_,by simpa using H,λk hk a=>?_⟩;have q:=jU.1 G k hk;simp only[dC,LX] at q;obtain⟨e,he,hb⟩:=Array.any_eq_true'.1 q.2;simp only[dC,dV] at hb;exact⟨q.1,e,he,hb.1,hb.2⟩;have q:=jU.1 g3 k hk;simp only[pO,dV,a,false_or,dC,LX] at q;refine⟨q.1.imp id (λh d u=>?_),λd u=>?_⟩;rw[u] at h;simpa using h;have:=q.2;rw[u] at this;simpa using this
 have y:=(dF.1 B).1;have:=jU.1 h6 p (tY.2 y);rw[B] at this;simp only[ho] at this;have q:=Ns.1 this e he;simp only[pO,wY,hb,Bool.true_eq_false,false_or,LX] at q;exact q
def okT (md:Region.Mode)(ops:Array Oper)(listed:Array Bool)(z i:Nat):Bool:=
 Region.noSelect ops && Region.free md ops listed i &&(Region.ready md ops listed).contains i &&((ops[z]?).isNone || Region.waitsFor md ops z i)
theorem He {i:Nat}{oi:Oper}{v:Value}(hi:ops[i]?=some oi)(B:∀(j:Nat) (o:Oper) cs b,ops[j]?=some o->o.op≠ .select cs b)
 (V:∀c a w,Q (.panic c) (a.put oi.dst v) w->Q (.panic c) a w) (E:ops[z]?=none):
 ∀(fuel:Nat) (listed:Array Bool) (a:Act) (w:World),
  (∀j oj,ops[j]?=some oj->j≠i->listed.getD j true=false->(∀e∈oj.after,Region.binds md e=true->e.on≠i)->oi.apart ops oj=true)->
  i∈Region.ready md ops listed->YieldsIf P ops S oi v a->S w->
  jP P md ops Q S z fuel (listed.setIfInBounds i true) (a.put oi.dst v) w->jP P md ops Q S z (fuel+1) listed a w:=by
 intro fuel;induction fuel with
 |
  zero=>
  intro listed a w _ hr O G H;refine⟨λh=>(by rw[h] at hr;cases hr),λj R=>?_⟩;by_cases d:j=i;subst d;exact O.wpOp hi G ⟨λ_=>G,H⟩
  . have:=ready_mono R d;rw[H.1] at this
    cases this
 |
  succ fuel ih=>
  intro listed a w q hr O G H;refine⟨λh=>(by rw[h] at hr;cases hr),λj R=>?_⟩;by_cases d:j=i;subst d;exact O.wpOp hi G ⟨λ_=>G,H⟩
  . have h1:=H.2 j (ready_mono R d);obtain⟨D,oj,u,I⟩:=mem_ready.1 R
    have J:∀e∈oj.after,Region.binds md e=true->e.on≠i:=λe he hb heq=>by
     have h1:=I e he hb;have h0:=(mem_ready.1 hr).1;rw[heq] at h1;rw[adA h0] at h1
     cases h1
    have L:j≠z:=by
     rintro rfl;rw[u] at E
     cases E
    have h2:=wpOp_putIf u (q j oj u d D J) (λcs b=>B i oi cs b hi) (λcs b=>B j oj cs b u) V O h1
    have y:∀k ok,ops[k]?=some ok->k≠i->(listed.setIfInBounds j true).getD k true=false->
     (∀e∈ok.after,Region.binds md e=true->e.on≠i)->oi.apart ops ok=true:=λk ok hk U M hno=>by
     refine q k ok hk U ?_ hno;by_cases N:j=k;subst N;exact D;rw[getD_set_ne true N] at M;exact M
    refine wpOp_mono (λa' w' h3=>⟨λ_=>h3.2.1 L,ih (listed.setIfInBounds j true) a' w' y (ready_mono hr (xK d)) h3.1 (h3.2.1 L) ?_⟩) h2;rw[Array.setIfInBounds_comm _ _ d];exact h3.2.2
theorem dE {i:Nat}{oi:Oper}{v:Value}{fuel:Nat}{listed:Array Bool}{a:Act}{w:World}(d:okT md ops listed z i=true)(hi:ops[i]?=some oi)
 (q:∀c a w,Q (.panic c) (a.put oi.dst v) w->Q (.panic c) a w) (u:YieldsIf P ops S oi v a) (y:S w)
 (h:jP P md ops Q S z fuel (listed.setIfInBounds i true) (a.put oi.dst v) w):jP P md ops Q S z (fuel+1) listed a w:=by unfold okT at d;simp only[dC,pO,aa3] at d;obtain⟨⟨⟨h1,h2⟩,h3⟩,h4⟩:=d;rcases h4 with h4|h4;exact He hi (Region.noSelect_spec h1) q h4 fuel listed a w (Region.free_spec hi h2) (by simpa using h3) u y h;exact aC hi h1 h2 h3 h4 q u y h
end
end Iv
namespace Go.Proofs.YtfbkkgfkhhibfaaGreat
open Go Go.RowKit Iv
theorem KQ {w:World}{B n c:Nat}{A:Option Addr}{X:List Value}(h:In1 w B 5 48 A n c X)(hB:B<=w.heap.size):
 Calls Tryz.prog 55 #[.slice A n c] w λe w'=>∃A' a,e= .returned (.slice A' n a)/\w'.ownsRow w.heap.size 144 5 (.slice A' n a) n X/\w.grownBy w' none:=
 (Gq w B A n c X h.lies hB h.none_ h.one h.cap h.bytes_).mono λe w' ⟨A',d,a,he,hn,ho,hg⟩=>by subst hn;exact⟨A',a,he,ho,hg⟩
theorem KR {w:World}{B n c:Nat}{A:Option Addr}{X:List Value}(h:In1 w B 2 24 A n c X)(hB:B<=w.heap.size):
 Calls Tryz.prog 56 #[.slice A n c] w λe w'=>∃A' a,e= .returned (.slice A' n a)/\w'.ownsRow w.heap.size 147 2 (.slice A' n a) n X/\w.grownBy w' none:=
 (Gs w B A n c X h.lies hB h.none_ h.one h.cap h.bytes_).mono λe w' ⟨A',d,a,he,hn,ho,hg⟩=>by subst hn;exact⟨A',a,he,ho,hg⟩
theorem KT {w:World}{B n c:Nat}{A:Option Addr}{X:List Value}(h:In1 w B 2 24 A n c X)(hB:B<=w.heap.size):
 Calls Tryz.prog 57 #[.slice A n c] w λe w'=>∃A' a,e= .returned (.slice A' n a)/\w'.ownsRow w.heap.size 150 2 (.slice A' n a) n X/\w.grownBy w' none:=
 (Gt w B A n c X h.lies hB h.none_ h.one h.cap h.bytes_).mono λe w' ⟨A',d,a,he,hn,ho,hg⟩=>by subst hn;exact⟨A',a,he,ho,hg⟩
theorem BJ {w:World}{B n c:Nat}{A:Option Addr}{X:List Value}(h:In1 w B 1 16 A n c X)(hB:B<=w.heap.size):
 Calls Tryz.prog 58 #[.slice A n c] w λe w'=>∃A' a,e= .returned (.slice A' n a)/\w'.ownsRow w.heap.size 9 1 (.slice A' n a) n X/\w.grownBy w' none:=
 (Ji w B A n c X h.lies hB h.none_ h.one h.cap h.bytes_).mono λe w' ⟨A',d,a,he,hn,ho,hg⟩=>by subst hn;exact⟨A',a,he,ho,hg⟩
theorem KU {w:World}{B n c:Nat}{A:Option Addr}{X:List Value}(h:In1 w B 3 24 A n c X)(hB:B<=w.heap.size):
 Calls Tryz.prog 59 #[.slice A n c] w λe w'=>∃A' a,e= .returned (.slice A' n a)/\w'.ownsRow w.heap.size 154 3 (.slice A' n a) n X/\w.grownBy w' none:=
 (Gu w B A n c X h.lies hB h.none_ h.one h.cap h.bytes_).mono λe w' ⟨A',d,a,he,hn,ho,hg⟩=>by subst hn;exact⟨A',a,he,ho,hg⟩
theorem ac1 {w:World}{g:Nat}{t:TypeId}{z:Value}(H:Held w g t #[z,z,z,z,z,z])(u0 u1 u2 u3 u4 u5:Value)(b:Nat)(hb:b<=g):
 Held ((((((w.setCell ⟨g,0,none⟩ u0).setCell ⟨g,1,none⟩ u1).setCell ⟨g,2,none⟩ u2).setCell ⟨g,3,none⟩ u3).setCell ⟨g,4,none⟩ u4).setCell ⟨g,5,none⟩ u5) g t #[u0,u1,u2,u3,u4,u5]/\w.grownBy ((((((w.setCell ⟨g,0,none⟩ u0).setCell ⟨g,1,none⟩ u1).setCell ⟨g,2,none⟩ u2).setCell ⟨g,3,none⟩ u3).setCell ⟨g,4,none⟩ u4).setCell ⟨g,5,none⟩ u5) (some g):=by have a:Held (w.setCell ⟨g,0,none⟩ u0) g t #[u0,z,z,z,z,z]:=H.store 0 _;have d:w.grownBy (w.setCell ⟨g,0,none⟩ u0) (some g):=ag w g 0 u0;have q:Held ((w.setCell ⟨g,0,none⟩ u0).setCell ⟨g,1,none⟩ u1) g t #[u0,u1,z,z,z,z]:=a.store 1 _;have u:w.grownBy ((w.setCell ⟨g,0,none⟩ u0).setCell ⟨g,1,none⟩ u1) (some g):=af d (ag _ g 1 u1) (.inl rfl);have y:Held (((w.setCell ⟨g,0,none⟩ u0).setCell ⟨g,1,none⟩ u1).setCell ⟨g,2,none⟩ u2) g t #[u0,u1,u2,z,z,z]:=q.store 2 _;have B:w.grownBy (((w.setCell ⟨g,0,none⟩ u0).setCell ⟨g,1,none⟩ u1).setCell ⟨g,2,none⟩ u2) (some g):=af u (ag _ g 2 u2) (.inl rfl);have D:Held ((((w.setCell ⟨g,0,none⟩ u0).setCell ⟨g,1,none⟩ u1).setCell ⟨g,2,none⟩ u2).setCell ⟨g,3,none⟩ u3) g t #[u0,u1,u2,u3,z,z]:=y.store 3 _;have E:w.grownBy ((((w.setCell ⟨g,0,none⟩ u0).setCell ⟨g,1,none⟩ u1).setCell ⟨g,2,none⟩ u2).setCell ⟨g,3,none⟩ u3) (some g):=af B (ag _ g 3 u3) (.inl rfl);have G:Held (((((w.setCell ⟨g,0,none⟩ u0).setCell ⟨g,1,none⟩ u1).setCell ⟨g,2,none⟩ u2).setCell ⟨g,3,none⟩ u3).setCell ⟨g,4,none⟩ u4) g t #[u0,u1,u2,u3,u4,z]:=D.store 4 _;have I:w.grownBy (((((w.setCell ⟨g,0,none⟩ u0).setCell ⟨g,1,none⟩ u1).setCell ⟨g,2,none⟩ u2).setCell ⟨g,3,none⟩ u3).setCell ⟨g,4,none⟩ u4) (some g):=af E (ag _ g 4 u4) (.inl rfl);have J:Held ((((((w.setCell ⟨g,0,none⟩ u0).setCell ⟨g,1,none⟩ u1).setCell ⟨g,2,none⟩ u2).setCell ⟨g,3,none⟩ u3).setCell ⟨g,4,none⟩ u4).setCell ⟨g,5,none⟩ u5) g t #[u0,u1,u2,u3,u4,u5]:=G.store 5 _;have L:w.grownBy ((((((w.setCell ⟨g,0,none⟩ u0).setCell ⟨g,1,none⟩ u1).setCell ⟨g,2,none⟩ u2).setCell ⟨g,3,none⟩ u3).setCell ⟨g,4,none⟩ u4).setCell ⟨g,5,none⟩ u5) (some g):=af I (ag _ g 5 u5) (.inl rfl);exact⟨J,L⟩
theorem GH (w:World)(B:Nat)(A0:Option Addr)(n0 c0:Nat)(X0:List Value)(A1:Option Addr)(n1 c1:Nat)(X1:List Value)(A2:Option Addr)(n2 c2:Nat)(X2:List Value)(A3:Option Addr)(n3 c3:Nat)(X3:List Value)(A4:Option Addr)(n4 c4:Nat)(X4:List Value)(A5:Option Addr)(n5 c5:Nat)(X5:List Value)(h0:In1 w B 5 48 A0 n0 c0 X0)(h1:In1 w B 2 24 A1 n1 c1 X1)(h2:In1 w B 2 24 A2 n2 c2 X2)(h3:In1 w B 1 16 A3 n3 c3 X3)(h4:In1 w B 1 16 A4 n4 c4 X4)(h5:In1 w B 3 24 A5 n5 c5 X5)(hB:B<=w.heap.size):
 Calls Tryz.prog 34 #[.agg #[.slice A0 n0 c0,.slice A1 n1 c1,.slice A2 n2 c2,.slice A3 n3 c3,.slice A4 n4 c4,.slice A5 n5 c5]] w λe w'=>∃Z k0 D1 k1 D2 k2 D3 k3 D4 k4 D5 k5,e= .returned (.agg #[Value.slice Z n0 k0,Value.slice D1 n1 k1,Value.slice D2 n2 k2,Value.slice D3 n3 k3,Value.slice D4 n4 k4,Value.slice D5 n5 k5])/\(w'.ownsRow w.heap.size 144 5 (.slice Z n0 k0) n0 X0/\w'.ownsRow w.heap.size 147 2 (.slice D1 n1 k1) n1 X1/\w'.ownsRow w.heap.size 150 2 (.slice D2 n2 k2) n2 X2/\w'.ownsRow w.heap.size 9 1 (.slice D3 n3 k3) n3 X3/\w'.ownsRow w.heap.size 9 1 (.slice D4 n4 k4) n4 X4/\w'.ownsRow w.heap.size 154 3 (.slice D5 n5 k5) n5 X5)/\w.grownBy w' none:=by
 obtain⟨W,hW⟩:∃W,W=(w.alloc (.cells #[.slice A0 n0 c0,.slice A1 n1 c1,.slice A2 n2 c2,.slice A3 n3 c3,.slice A4 n4 c4,.slice A5 n5 c5] 31)).alloc (.cells #[.slice none 0 0,.slice none 0 0,.slice none 0 0,.slice none 0 0,.slice none 0 0,.slice none 0 0] 31):=⟨_,rfl⟩;have hg:w.grownBy W none:=(by rw[hW];exact af (aV w _ none) (aV _ _ none) (.inl rfl));have ab:Held W w.heap.size 31 #[.slice A0 n0 c0,.slice A1 n1 c1,.slice A2 n2 c2,.slice A3 n3 c3,.slice A4 n4 c4,.slice A5 n5 c5]:=(by rw[hW];exact (Held.new w _ _).alloc _);have a8:Held W (w.heap.size+1) 31 #[.slice none 0 0,.slice none 0 0,.slice none 0 0,.slice none 0 0,.slice none 0 0,.slice none 0 0]:=(by rw[hW];have:=Held.new (w.alloc (.cells #[.slice A0 n0 c0,.slice A1 n1 c1,.slice A2 n2 c2,.slice A3 n3 c3,.slice A4 n4 c4,.slice A5 n5 c5] 31)) 31 #[.slice none 0 0,.slice none 0 0,.slice none 0 0,.slice none 0 0,.slice none 0 0,.slice none 0 0];rwa [iK] at this);have al:=ae ab;have an:=ae a8;have yx:Hid (B<=W.heap.size):=ae (aK hB hg.size);have X7:=ae hg;have b2:w.heap.size+1<W.heap.size:=a8.lt;have ao:=ae (λ(E:World) (g:W.grownBy E none)=>h0.grown (af hg g (.inl rfl)) hB);have aq:=ae (λ(E:World) (g:W.grownBy E none)=>h1.grown (af hg g (.inl rfl)) hB);have ar:=ae (λ(E:World) (g:W.grownBy E none)=>h2.grown (af hg g (.inl rfl)) hB);have av:=ae (λ(E:World) (g:W.grownBy E none)=>h3.grown (af hg g (.inl rfl)) hB);have aw:=ae (λ(E:World) (g:W.grownBy E none)=>h4.grown (af hg g (.inl rfl)) hB);have aD:=ae (λ(E:World) (g:W.grownBy E none)=>h5.grown (af hg g (.inl rfl)) hB);have HS:Hid (∀w',W.grownBy w' none->w'.cell? ⟨w.heap.size,0,none⟩=some (.slice A0 n0 c0)/\w'.cell? ⟨w.heap.size,1,none⟩=some (.slice A1 n1 c1)/\w'.cell? ⟨w.heap.size,2,none⟩=some (.slice A2 n2 c2)/\w'.cell? ⟨w.heap.size,3,none⟩=some (.slice A3 n3 c3)/\w'.cell? ⟨w.heap.size,4,none⟩=some (.slice A4 n4 c4)/\w'.cell? ⟨w.heap.size,5,none⟩=some (.slice A5 n5 c5)):=ae (λw' g=>by have H:=al.o.grown g nofun;exact⟨H.cell 0,H.cell 1,H.cell 2,H.cell 3,H.cell 4,H.cell 5⟩);have HW:=ae hW;clear hW ab a8 hg h0 h1 h2 h3 h4 h5;go_enter Tryz.func34,Tryz.ntmps34;go_wp2_with fail;rw[show (w.alloc (.cells #[.slice A0 n0 c0,.slice A1 n1 c1,.slice A2 n2 c2,.slice A3 n3 c3,.slice A4 n4 c4,.slice A5 n5 c5] 31)).alloc (.cells #[.slice none 0 0,.slice none 0 0,.slice none 0 0,.slice none 0 0,.slice none 0 0,.slice none 0 0] 31)=W from HW.o.symm];refine mD (z:=19) (S:=λw'=>w'.cell? ⟨w.heap.size,0,none⟩=some (.slice A0 n0 c0)/\w'.cell? ⟨w.heap.size,1,none⟩=some (.slice A1 n1 c1)/\w'.cell? ⟨w.heap.size,2,none⟩=some (.slice A2 n2 c2)/\w'.cell? ⟨w.heap.size,3,none⟩=some (.slice A3 n3 c3)/\w'.cell? ⟨w.heap.size,4,none⟩=some (.slice A4 n4 c4)/\w'.cell? ⟨w.heap.size,5,none⟩=some (.slice A5 n5 c5)) (by kernel_rfl) (by exact HS.o _ (aB (bu W none))) (λhHeld=>?_);refine aC (i:=0) (oi:=⟨some 3,_,_,_,_,_⟩) (v:=?_) rfl (by kernel_rfl) (by kernel_rfl) (by kernel_rfl) (by kernel_rfl) (λ_ _ _ h=>h) (Or.inl ⟨by rfl,?_⟩) (by assumption) ?_;rotate_left
 . intro w a;(try dsimp only at a);go_simp;(try with_reducible rfl)
 (try simp only[Act.put,bC,bg,bD]);refine aC (i:=1) (oi:=⟨some 4,_,_,_,_,_⟩) (v:=?_) rfl (by kernel_rfl) (by kernel_rfl) (by kernel_rfl) (by kernel_rfl) (λ_ _ _ h=>h) (Or.inl ⟨by rfl,?_⟩) (by assumption) ?_;rotate_left
 . intro w a;(try dsimp only at a);go_simp;(try with_reducible rfl)
 (try simp only[Act.put,bC,bg,bD]);refine aC (i:=3) (oi:=⟨some 6,_,_,_,_,_⟩) (v:=?_) rfl (by kernel_rfl) (by kernel_rfl) (by kernel_rfl) (by kernel_rfl) (λ_ _ _ h=>h) (Or.inl ⟨by rfl,?_⟩) (by assumption) ?_;rotate_left
 . intro w a;(try dsimp only at a);go_simp;(try with_reducible rfl)
 (try simp only[Act.put,bC,bg,bD]);refine aC (i:=4) (oi:=⟨some 7,_,_,_,_,_⟩) (v:=?_) rfl (by kernel_rfl) (by kernel_rfl) (by kernel_rfl) (by kernel_rfl) (λ_ _ _ h=>h) (Or.inl ⟨by rfl,?_⟩) (by assumption) ?_;rotate_left
 . intro w a;(try dsimp only at a);go_simp;(try with_reducible rfl)
 (try simp only[Act.put,bC,bg,bD]);refine aC (i:=6) (oi:=⟨some 9,_,_,_,_,_⟩) (v:=?_) rfl (by kernel_rfl) (by kernel_rfl) (by kernel_rfl) (by kernel_rfl) (λ_ _ _ h=>h) (Or.inl ⟨by rfl,?_⟩) (by assumption) ?_;rotate_left
 . intro w a;(try dsimp only at a);go_simp;(try with_reducible rfl)
 (try simp only[Act.put,bC,bg,bD]);refine aC (i:=7) (oi:=⟨some 10,_,_,_,_,_⟩) (v:=?_) rfl (by kernel_rfl) (by kernel_rfl) (by kernel_rfl) (by kernel_rfl) (λ_ _ _ h=>h) (Or.inl ⟨by rfl,?_⟩) (by assumption) ?_;rotate_left
 . intro w a;(try dsimp only at a);go_simp;(try with_reducible rfl)
 (try simp only[Act.put,bC,bg,bD]);refine aC (i:=9) (oi:=⟨some 12,_,_,_,_,_⟩) (v:=?_) rfl (by kernel_rfl) (by kernel_rfl) (by kernel_rfl) (by kernel_rfl) (λ_ _ _ h=>h) (Or.inl ⟨by rfl,?_⟩) (by assumption) ?_;rotate_left
 . intro w a;(try dsimp only at a);go_simp;(try with_reducible rfl)
 (try simp only[Act.put,bC,bg,bD]);refine aC (i:=10) (oi:=⟨some 13,_,_,_,_,_⟩) (v:=?_) rfl (by kernel_rfl) (by kernel_rfl) (by kernel_rfl) (by kernel_rfl) (λ_ _ _ h=>h) (Or.inl ⟨by rfl,?_⟩) (by assumption) ?_;rotate_left
 . intro w a;(try dsimp only at a);go_simp;(try with_reducible rfl)
 (try simp only[Act.put,bC,bg,bD]);refine aC (i:=12) (oi:=⟨some 15,_,_,_,_,_⟩) (v:=?_) rfl (by kernel_rfl) (by kernel_rfl) (by kernel_rfl) (by kernel_rfl) (λ_ _ _ h=>h) (Or.inl ⟨by rfl,?_⟩) (by assumption) ?_;rotate_left
 . intro w a;(try dsimp only at a);go_simp;(try with_reducible rfl)
 (try simp only[Act.put,bC,bg,bD]);refine aC (i:=13) (oi:=⟨some 16,_,_,_,_,_⟩) (v:=?_) rfl (by kernel_rfl) (by kernel_rfl) (by kernel_rfl) (by kernel_rfl) (λ_ _ _ h=>h) (Or.inl ⟨by rfl,?_⟩) (by assumption) ?_;rotate_left
 . intro w a;(try dsimp only at a);go_simp;(try with_reducible rfl)
 (try simp only[Act.put,bC,bg,bD]);refine aC (i:=15) (oi:=⟨some 18,_,_,_,_,_⟩) (v:=?_) rfl (by kernel_rfl) (by kernel_rfl) (by kernel_rfl) (by kernel_rfl) (λ_ _ _ h=>h) (Or.inl ⟨by rfl,?_⟩) (by assumption) ?_;rotate_left
 . intro w a;(try dsimp only at a);go_simp;(try with_reducible rfl)
 (try simp only[Act.put,bC,bg,bD]);refine aC (i:=16) (oi:=⟨some 19,_,_,_,_,_⟩) (v:=?_) rfl (by kernel_rfl) (by kernel_rfl) (by kernel_rfl) (by kernel_rfl) (λ_ _ _ h=>h) (Or.inl ⟨by rfl,?_⟩) (by assumption) ?_;rotate_left
 . intro w a;(try dsimp only at a);go_simp;(try with_reducible rfl)
 (try simp only[Act.put,bC,bg,bD]);refine dS (i:=2) (o:=⟨some 5,_,_,_,_,_⟩) (by kernel_rfl) rfl (λK d=>?_);rw[if_pos (by rfl)];go_simp;refine (KQ (ao.o _ (aB (bu W none))) yx.o).mono ?_;rintro e w1 ⟨Z,k0,rfl,G,ad⟩;have qF:Hid (W.grownBy w1 none):=ae (af (aB (bu W none)) ad (.inl rfl));have aL:Hid (B<=w1.heap.size):=ae (aK yx.o qF.o.size);have I:Hid (w1.ownsRow W.heap.size 144 5 (.slice Z n0 k0) n0 X0):=ae (eH G (au _));clear G ad;refine d.out _ _ (by with_reducible exact HS.o _ qF.o) (λq=>?_);clear d K hHeld;have hHeld:=q;clear q;(try simp only[Act.put,bC,bg,bD]);refine dS (i:=5) (o:=⟨some 8,_,_,_,_,_⟩) (by kernel_rfl) rfl (λK d=>?_);rw[if_pos (by rfl)];go_simp;refine (KR (aq.o _ qF.o) aL.o).mono ?_;rintro e w2 ⟨D1,k1,rfl,J,aa⟩;have L:Hid (W.grownBy w2 none):=ae (af qF.o aa (.inl rfl));have aM:Hid (B<=w2.heap.size):=ae (aK yx.o L.o.size);have Gh:Hid (w2.ownsRow W.heap.size 147 2 (.slice D1 n1 k1) n1 X1):=ae (eH J qF.o.size);replace I:=ae (ax I.o aa nofun);clear J aa;refine d.out _ _ (by with_reducible exact HS.o _ L.o) (λq=>?_);clear d K hHeld;have hHeld:=q;clear q;(try simp only[Act.put,bC,bg,bD]);refine dS (i:=8) (o:=⟨some 11,_,_,_,_,_⟩) (by kernel_rfl) rfl (λK d=>?_);rw[if_pos (by rfl)];go_simp;refine (KT (ar.o _ L.o) aM.o).mono ?_;rintro e w3 ⟨D2,k2,rfl,M,a6⟩;have N:Hid (W.grownBy w3 none):=ae (af L.o a6 (.inl rfl));have aR:Hid (B<=w3.heap.size):=ae (aK yx.o N.o.size);have yC:Hid (w3.ownsRow W.heap.size 150 2 (.slice D2 n2 k2) n2 X2):=ae (eH M L.o.size);replace I:=ae (ax I.o a6 nofun);replace Gh:=ae (ax Gh.o a6 nofun);clear M a6;refine d.out _ _ (by with_reducible exact HS.o _ N.o) (λq=>?_);clear d K hHeld;have hHeld:=q;clear q;(try simp only[Act.put,bC,bg,bD]);refine dS (i:=11) (o:=⟨some 14,_,_,_,_,_⟩) (by kernel_rfl) rfl (λK d=>?_);rw[if_pos (by rfl)];go_simp;refine (BJ (av.o _ N.o) aR.o).mono ?_;rintro e w4 ⟨D3,k3,rfl,O,R⟩;have Gx:Hid (W.grownBy w4 none):=ae (af N.o R (.inl rfl));have b0:Hid (B<=w4.heap.size):=ae (aK yx.o Gx.o.size);have CZ:Hid (w4.ownsRow W.heap.size 9 1 (.slice D3 n3 k3) n3 X3):=ae (eH O N.o.size);replace I:=ae (ax I.o R nofun);replace Gh:=ae (ax Gh.o R nofun);replace yC:=ae (ax yC.o R nofun);clear O R;refine d.out _ _ (by with_reducible exact HS.o _ Gx.o) (λq=>?_);clear d K hHeld;have hHeld:=q;clear q;(try simp only[Act.put,bC,bg,bD]);refine dS (i:=14) (o:=⟨some 17,_,_,_,_,_⟩) (by kernel_rfl) rfl (λK d=>?_);rw[if_pos (by rfl)];go_simp;refine (BJ (aw.o _ Gx.o) b0.o).mono ?_;rintro e w5 ⟨D4,k4,rfl,U,y⟩;have Dp:Hid (W.grownBy w5 none):=ae (af Gx.o y (.inl rfl));have b1:Hid (B<=w5.heap.size):=ae (aK yx.o Dp.o.size);have Hy:Hid (w5.ownsRow W.heap.size 9 1 (.slice D4 n4 k4) n4 X4):=ae (eH U Gx.o.size);replace I:=ae (ax I.o y nofun);replace Gh:=ae (ax Gh.o y nofun);replace yC:=ae (ax yC.o y nofun);replace CZ:=ae (ax CZ.o y nofun);clear U y;refine d.out _ _ (by with_reducible exact HS.o _ Dp.o) (λq=>?_);clear d K hHeld;have hHeld:=q;clear q;(try simp only[Act.put,bC,bg,bD]);refine dS (i:=17) (o:=⟨some 20,_,_,_,_,_⟩) (by kernel_rfl) rfl (λK d=>?_);rw[if_pos (by rfl)];go_simp;refine (KU (aD.o _ Dp.o) b1.o).mono ?_;rintro e V ⟨D5,k5,rfl,Y,u⟩;have a7:Hid (W.grownBy V none):=ae (af Dp.o u (.inl rfl));have b3:Hid (B<=V.heap.size):=ae (aK yx.o a7.o.size);have Nb:Hid (V.ownsRow W.heap.size 154 3 (.slice D5 n5 k5) n5 X5):=ae (eH Y Dp.o.size);replace I:=ae (ax I.o u nofun);replace Gh:=ae (ax Gh.o u nofun);replace yC:=ae (ax yC.o u nofun);replace CZ:=ae (ax CZ.o u nofun);replace Hy:=ae (ax Hy.o u nofun);clear Y u;refine d.out _ _ (by with_reducible exact HS.o _ a7.o) (λq=>?_);clear d K hHeld;have hHeld:=q;clear q;(try simp only[Act.put,bC,bg,bD]);refine aC (i:=18) (oi:=⟨some 21,_,_,_,_,_⟩) (v:=?_) rfl (by kernel_rfl) (by kernel_rfl) (by kernel_rfl) (by kernel_rfl) (λ_ _ _ h=>h) (Or.inl ⟨by rfl,?_⟩) (by assumption) ?_;rotate_left
 . intro w a;(try dsimp only at a);go_simp;(try with_reducible rfl)
 (try simp only[Act.put,bC,bg,bD]);refine uP (o:=⟨none,_,_,_,_,_⟩) (by kernel_rfl) rfl (λK d=>?_);rw[if_pos (by rfl)];have D:=ae (an.o.grown a7.o nofun);have z0:V.cell? ⟨w.heap.size+1,0,none⟩=some (.slice none 0 0):=D.o.cell 0;have z1:V.cell? ⟨w.heap.size+1,1,none⟩=some (.slice none 0 0):=D.o.cell 1;have z2:V.cell? ⟨w.heap.size+1,2,none⟩=some (.slice none 0 0):=D.o.cell 2;have z3:V.cell? ⟨w.heap.size+1,3,none⟩=some (.slice none 0 0):=D.o.cell 3;have z4:V.cell? ⟨w.heap.size+1,4,none⟩=some (.slice none 0 0):=D.o.cell 4;have z5:V.cell? ⟨w.heap.size+1,5,none⟩=some (.slice none 0 0):=D.o.cell 5;have y0:=D.o.free 0;have y1:=D.o.free 1;have y2:=D.o.free 2;have y3:=D.o.free 3;have y4:=D.o.free 4;have y5:=D.o.free 5;go_simp;refine d.out _ _ ?_;clear d K;(try simp only[Act.put,bC,bg,bD]);refine mF (by kernel_rfl) ?_ _;obtain⟨q6,g6⟩:=ac1 D.o (Value.slice Z n0 k0) (Value.slice D1 n1 k1) (Value.slice D2 n2 k2) (Value.slice D3 n3 k3) (Value.slice D4 n4 k4) (Value.slice D5 n5 k5) _ (au _);generalize b4:((((((V.setCell ⟨w.heap.size+1,0,none⟩ (Value.slice Z n0 k0)).setCell ⟨w.heap.size+1,1,none⟩ (Value.slice D1 n1 k1)).setCell ⟨w.heap.size+1,2,none⟩ (Value.slice D2 n2 k2)).setCell ⟨w.heap.size+1,3,none⟩ (Value.slice D3 n3 k3)).setCell ⟨w.heap.size+1,4,none⟩ (Value.slice D4 n4 k4)).setCell ⟨w.heap.size+1,5,none⟩ (Value.slice D5 n5 k5))=wx at q6 g6|-;have r0:wx.cell? ⟨w.heap.size+1,0,none⟩=some (.slice Z n0 k0):=q6.cell 0;have r1:wx.cell? ⟨w.heap.size+1,1,none⟩=some (.slice D1 n1 k1):=q6.cell 1;have r2:wx.cell? ⟨w.heap.size+1,2,none⟩=some (.slice D2 n2 k2):=q6.cell 2;have r3:wx.cell? ⟨w.heap.size+1,3,none⟩=some (.slice D3 n3 k3):=q6.cell 3;have r4:wx.cell? ⟨w.heap.size+1,4,none⟩=some (.slice D4 n4 k4):=q6.cell 4;have r5:wx.cell? ⟨w.heap.size+1,5,none⟩=some (.slice D5 n5 k5):=q6.cell 5;go_wp2_with fail;refine bY (v:= .agg #[Value.slice Z n0 k0,Value.slice D1 n1 k1,Value.slice D2 n2 k2,Value.slice D3 n3 k3,Value.slice D4 n4 k4,Value.slice D5 n5 k5]) (by simp[results,Tryz.results34,go_sem,r0,r1,r2,r3,r4,r5]) rfl ?_
 have hk:∀(e sz n:Nat) (v:Value) (X:List Value),V.ownsRow W.heap.size e sz v n X->wx.ownsRow w.heap.size e sz v n X:=λe sz n v X h=>
  eH (ax h g6 (λx e1 e2=>by injection e2 with e2;have:=(h.lt x e1).1;omega)) (by omega)
 exact⟨Z,k0,D1,k1,D2,k2,D3,k3,D4,k4,D5,k5,rfl,⟨hk _ _ _ _ _ I.o,hk _ _ _ _ _ Gh.o,hk _ _ _ _ _ yC.o,hk _ _ _ _ _ CZ.o,hk _ _ _ _ _ Hy.o,hk _ _ _ _ _ Nb.o⟩,af (af X7.o a7.o (.inl rfl)) g6 (.inr ⟨_,rfl,by omega⟩)⟩
