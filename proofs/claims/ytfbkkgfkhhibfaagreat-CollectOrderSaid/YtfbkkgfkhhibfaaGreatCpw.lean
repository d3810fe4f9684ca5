/- Words. -/
import Derived.Test.YtfbkkgfkhhibfaaGreatTrP
import Derived.Test.YtfbkkgfkhhibfaaGreatRwrR
import Derived.StillTail
set_option linter.unusedVariables false
set_option maxRecDepth 100000
set_option maxHeartbeats 8000000
namespace Iv
open Go
section
variable {P : Program} {ops : Array Oper} {Q : Exit → Act → World → Prop} {md : Region.Mode} {S : World → Prop} {z : Nat}
def jP (P:Program)(md:Region.Mode)(ops:Array Oper)(Q:Exit→Act→World→Prop)(S:World→Prop)(z:Nat):Nat→Array Bool→Act→World→Prop
 | 0,listed,a,w=>Region.ready md ops listed= []∧Q .normal a w
 |
  fuel+1,listed,a,w=>
  (Region.ready md ops listed= []→Q .normal a w)∧
  ∀i∈Region.ready md ops listed,wpOp P ops Q i (fun a' w'=>(i≠z→S w')∧jP P md ops Q S z fuel (listed.setIfInBounds i true) a' w') a w
theorem yH:∀(fuel:Nat) (listed:Array Bool) (a:Act) (w:World),jP P md ops Q S z fuel listed a w→wpAny P md ops Q fuel listed a w
 | 0,_,_,_,h=>h
 | fuel+1,_,_,_,h=>⟨h.1,fun i hi=>wpOp_mono (fun a' w' h'=>yH fuel _ a' w' h'.2) (h.2 i hi)⟩
theorem Ef {i:Nat}{oi:Oper}{v:Value}(hi:ops[i]?=some oi)(hsel:∀(j:Nat) (o:Oper) cs b,ops[j]?=some o→o.op≠ .select cs b)
 (hQ:∀c a w,Q (.panic c) (a.put oi.dst v) w→Q (.panic c) a w) (hzw:Region.waitsFor md ops z i=true):
 ∀(fuel:Nat) (listed:Array Bool) (a:Act) (w:World),
  (∀j oj,ops[j]?=some oj→j≠i→listed.getD j true=false→(∀e∈oj.after,Region.binds md e=true→e.on≠i)→oi.apart ops oj=true)→
  i∈Region.ready md ops listed→YieldsIf P ops S oi v a→S w→
  jP P md ops Q S z fuel (listed.setIfInBounds i true) (a.put oi.dst v) w→jP P md ops Q S z (fuel+1) listed a w:=by
 intro fuel;induction fuel with
 |
  zero=>
  intro listed a w _ hr hy hS H;refine⟨fun h=>(by rw[h] at hr;cases hr),fun j hj=>?_⟩;by_cases hji:j=i
  · subst hji;exact hy.wpOp hi hS ⟨fun _=>hS,H⟩
  · have:=ready_mono hj hji;rw[H.1] at this
    cases this
 |
  succ fuel ih=>
  intro listed a w hfree hr hy hS H;refine⟨fun h=>(by rw[h] at hr;cases hr),fun j hj=>?_⟩;by_cases hji:j=i
  · subst hji;exact hy.wpOp hi hS ⟨fun _=>hS,H⟩
  · have h1:=H.2 j (ready_mono hj hji);obtain⟨hjun,oj,hoj,hall⟩:=mem_ready.1 hj
    have hnot:∀e∈oj.after,Region.binds md e=true→e.on≠i:=fun e he hb heq=>by
     have h1:=hall e he hb;have h0:=(mem_ready.1 hr).1;rw[heq] at h1;rcases Nat.lt_or_ge i listed.size with h' | h'
     · simp[h'] at h0 h1;rw[h0] at h1;cases h1
     · simp[Array.getElem?_eq_none h'] at h1
    have hjz:j≠z:=by
     rintro rfl;obtain⟨oz,hoz,e,he,hb,hon⟩:=Region.waitsFor_spec hzw;have:oz=oj:=Option.some.inj (hoz.symm.trans hoj);subst this;exact hnot e he hb hon
    have h2:=wpOp_putIf hoj (hfree j oj hoj hji hjun hnot) (fun cs b=>hsel i oi cs b hi) (fun cs b=>hsel j oj cs b hoj) hQ hy h1
    have hfree':∀k ok,ops[k]?=some ok→k≠i→(listed.setIfInBounds j true).getD k true=false→
     (∀e∈ok.after,Region.binds md e=true→e.on≠i)→oi.apart ops ok=true:=fun k ok hk hki hun hno=>by
     refine hfree k ok hk hki ?_ hno;by_cases hjk:j=k
     · subst hjk;exact hjun
     · rw[getD_set_ne true hjk] at hun;exact hun
    refine wpOp_mono (fun a' w' h3=>⟨fun _=>h3.2.1 hjz,ih (listed.setIfInBounds j true) a' w' hfree' (ready_mono hr (Ne.symm hji)) h3.1 (h3.2.1 hjz) ?_⟩) h2;rw[Array.setIfInBounds_comm _ _ hji];exact h3.2.2
theorem aA {i:Nat}{oi:Oper}{v:Value}{fuel:Nat}{listed:Array Bool}{a:Act}{w:World}(hi:ops[i]?=some oi)
 (hs:Region.noSelect ops=true) (hf:Region.free md ops listed i=true) (hr:(Region.ready md ops listed).contains i=true) (hz:Region.waitsFor md ops z i=true)
 (hQ:∀c a w,Q (.panic c) (a.put oi.dst v) w→Q (.panic c) a w) (hy:YieldsIf P ops S oi v a) (hS:S w)
 (h:jP P md ops Q S z fuel (listed.setIfInBounds i true) (a.put oi.dst v) w):jP P md ops Q S z (fuel+1) listed a w:=
 Ef hi (Region.noSelect_spec hs) hQ hz fuel listed a w (Region.free_spec hi hf) (by simpa using hr) hy hS h
theorem gQ {i:Nat}{o:Oper}{fuel:Nat}{listed:Array Bool}{a:Act}{w:World}(hr:Region.ready md ops listed= [i])(ho:ops[i]?=some o)
 (h:∀K':Act→World→Prop,Shut (∀a w,S w→(S w→jP P md ops Q S z fuel (listed.setIfInBounds i true) a w)→K' a w)→if Region.wanted o (yielded ops a.tmps)=true then Oper.wp P o a w K' Q else K' (a.put o.dst undef) w):
 jP P md ops Q S z (fuel+1) listed a w:=by
 refine⟨fun h0=>(by rw[hr] at h0;cases h0),fun j hj=>?_⟩;rw[hr] at hj;obtain rfl:j=i:=by simpa using hj
 exact wpOp_step ho (fun K' hK=>h K' (fun a w hS hW=>hK a w ⟨fun _=>hS,hW hS⟩))
theorem vg {o:Oper}{fuel:Nat}{listed:Array Bool}{a:Act}{w:World}(hr:Region.ready md ops listed= [z])(ho:ops[z]?=some o)
 (h:∀K':Act→World→Prop,Shut (∀a w,jP P md ops Q S z fuel (listed.setIfInBounds z true) a w→K' a w)→if Region.wanted o (yielded ops a.tmps)=true then Oper.wp P o a w K' Q else K' (a.put o.dst undef) w):
 jP P md ops Q S z (fuel+1) listed a w:=by
 refine⟨fun h0=>(by rw[hr] at h0;cases h0),fun j hj=>?_⟩;rw[hr] at hj;obtain rfl:j=z:=by simpa using hj
 exact wpOp_step ho (fun K' hK=>h K' (fun a w hW=>hK a w ⟨fun h0=>absurd rfl h0,hW⟩))
theorem vk {listed:Array Bool}{a:Act}{w:World}(hr:Region.ready md ops listed= [])(h:Q .normal a w):
 ∀fuel,jP P md ops Q S z fuel listed a w
 | 0=>⟨hr,h⟩
 | _+1=>⟨fun _=>h,by rw[hr];simp⟩
theorem vw {id:Nat}{a:Act}{w:World}(hm:P.follows .mixedOrders=true)(hS:S w.drew)
 (h:S w.drew→jP P .any ops Q S z ops.size (Array.replicate ops.size false) a w.drew):(Code.region id ops true).wp P Q a w:=
 wp_region_any hm (yH _ _ _ _ (h hS))
end
end Iv
namespace Go.Proofs.YtfbkkgfkhhibfaaGreat
open Go Go.RowKit Iv
theorem Eo {w:World}{B n c:Nat}{A:Option Addr}{X:List Value}(h:In1 w B 5 48 A n c X)(hB:B≤w.heap.size):
 Calls Tryz.prog 55 #[.slice A n c] w fun e w'=>∃A' c',e= .returned (.slice A' n c')∧w'.ownsRow w.heap.size 144 5 (.slice A' n c') n X∧w.grownBy w' none:=
 (zN w B A n c X h.lies hB h.none_ h.one h.cap h.bytes_).mono fun e w' ⟨A',n',c',he,hn,ho,hg⟩=>by subst hn;exact⟨A',c',he,ho,hg⟩
theorem Ep {w:World}{B n c:Nat}{A:Option Addr}{X:List Value}(h:In1 w B 2 24 A n c X)(hB:B≤w.heap.size):
 Calls Tryz.prog 56 #[.slice A n c] w fun e w'=>∃A' c',e= .returned (.slice A' n c')∧w'.ownsRow w.heap.size 147 2 (.slice A' n c') n X∧w.grownBy w' none:=
 (zO w B A n c X h.lies hB h.none_ h.one h.cap h.bytes_).mono fun e w' ⟨A',n',c',he,hn,ho,hg⟩=>by subst hn;exact⟨A',c',he,ho,hg⟩
theorem Es {w:World}{B n c:Nat}{A:Option Addr}{X:List Value}(h:In1 w B 2 24 A n c X)(hB:B≤w.heap.size):
 Calls Tryz.prog 57 #[.slice A n c] w fun e w'=>∃A' c',e= .returned (.slice A' n c')∧w'.ownsRow w.heap.size 150 2 (.slice A' n c') n X∧w.grownBy w' none:=
 (zQ w B A n c X h.lies hB h.none_ h.one h.cap h.bytes_).mono fun e w' ⟨A',n',c',he,hn,ho,hg⟩=>by subst hn;exact⟨A',c',he,ho,hg⟩
theorem vC {w:World}{B n c:Nat}{A:Option Addr}{X:List Value}(h:In1 w B 1 16 A n c X)(hB:B≤w.heap.size):
 Calls Tryz.prog 58 #[.slice A n c] w fun e w'=>∃A' c',e= .returned (.slice A' n c')∧w'.ownsRow w.heap.size 9 1 (.slice A' n c') n X∧w.grownBy w' none:=
 (Dl w B A n c X h.lies hB h.none_ h.one h.cap h.bytes_).mono fun e w' ⟨A',n',c',he,hn,ho,hg⟩=>by subst hn;exact⟨A',c',he,ho,hg⟩
theorem Et {w:World}{B n c:Nat}{A:Option Addr}{X:List Value}(h:In1 w B 3 24 A n c X)(hB:B≤w.heap.size):
 Calls Tryz.prog 59 #[.slice A n c] w fun e w'=>∃A' c',e= .returned (.slice A' n c')∧w'.ownsRow w.heap.size 154 3 (.slice A' n c') n X∧w.grownBy w' none:=
 (zS w B A n c X h.lies hB h.none_ h.one h.cap h.bytes_).mono fun e w' ⟨A',n',c',he,hn,ho,hg⟩=>by subst hn;exact⟨A',c',he,ho,hg⟩
theorem Xg {w:World}{g:Nat}{t:TypeId}{z:Value}(H:Held w g t #[z,z,z,z,z,z])(u0 u1 u2 u3 u4 u5:Value)(b:Nat)(hb:b≤g):
 Held ((((((w.setCell ⟨g,0,none⟩ u0).setCell ⟨g,1,none⟩ u1).setCell ⟨g,2,none⟩ u2).setCell ⟨g,3,none⟩ u3).setCell ⟨g,4,none⟩ u4).setCell ⟨g,5,none⟩ u5) g t #[u0,u1,u2,u3,u4,u5]∧w.grownBy ((((((w.setCell ⟨g,0,none⟩ u0).setCell ⟨g,1,none⟩ u1).setCell ⟨g,2,none⟩ u2).setCell ⟨g,3,none⟩ u3).setCell ⟨g,4,none⟩ u4).setCell ⟨g,5,none⟩ u5) (some g):=by
 have q0:Held (w.setCell ⟨g,0,none⟩ u0) g t #[u0,z,z,z,z,z]:=H.store 0 _;have g0:w.grownBy (w.setCell ⟨g,0,none⟩ u0) (some g):=ah w g 0 u0;have q1:Held ((w.setCell ⟨g,0,none⟩ u0).setCell ⟨g,1,none⟩ u1) g t #[u0,u1,z,z,z,z]:=q0.store 1 _;have g1:w.grownBy ((w.setCell ⟨g,0,none⟩ u0).setCell ⟨g,1,none⟩ u1) (some g):=af g0 (ah _ g 1 u1) (.inl rfl);have q2:Held (((w.setCell ⟨g,0,none⟩ u0).setCell ⟨g,1,none⟩ u1).setCell ⟨g,2,none⟩ u2) g t #[u0,u1,u2,z,z,z]:=q1.store 2 _;have g2:w.grownBy (((w.setCell ⟨g,0,none⟩ u0).setCell ⟨g,1,none⟩ u1).setCell ⟨g,2,none⟩ u2) (some g):=af g1 (ah _ g 2 u2) (.inl rfl);have q3:Held ((((w.setCell ⟨g,0,none⟩ u0).setCell ⟨g,1,none⟩ u1).setCell ⟨g,2,none⟩ u2).setCell ⟨g,3,none⟩ u3) g t #[u0,u1,u2,u3,z,z]:=q2.store 3 _;have g3:w.grownBy ((((w.setCell ⟨g,0,none⟩ u0).setCell ⟨g,1,none⟩ u1).setCell ⟨g,2,none⟩ u2).setCell ⟨g,3,none⟩ u3) (some g):=af g2 (ah _ g 3 u3) (.inl rfl);have q4:Held (((((w.setCell ⟨g,0,none⟩ u0).setCell ⟨g,1,none⟩ u1).setCell ⟨g,2,none⟩ u2).setCell ⟨g,3,none⟩ u3).setCell ⟨g,4,none⟩ u4) g t #[u0,u1,u2,u3,u4,z]:=q3.store 4 _;have g4:w.grownBy (((((w.setCell ⟨g,0,none⟩ u0).setCell ⟨g,1,none⟩ u1).setCell ⟨g,2,none⟩ u2).setCell ⟨g,3,none⟩ u3).setCell ⟨g,4,none⟩ u4) (some g):=af g3 (ah _ g 4 u4) (.inl rfl);have q5:Held ((((((w.setCell ⟨g,0,none⟩ u0).setCell ⟨g,1,none⟩ u1).setCell ⟨g,2,none⟩ u2).setCell ⟨g,3,none⟩ u3).setCell ⟨g,4,none⟩ u4).setCell ⟨g,5,none⟩ u5) g t #[u0,u1,u2,u3,u4,u5]:=q4.store 5 _;have g5:w.grownBy ((((((w.setCell ⟨g,0,none⟩ u0).setCell ⟨g,1,none⟩ u1).setCell ⟨g,2,none⟩ u2).setCell ⟨g,3,none⟩ u3).setCell ⟨g,4,none⟩ u4).setCell ⟨g,5,none⟩ u5) (some g):=af g4 (ah _ g 5 u5) (.inl rfl);exact⟨q5,g5⟩
theorem Aj (w:World)(B:Nat)(A0:Option Addr)(n0 c0:Nat)(X0:List Value)(A1:Option Addr)(n1 c1:Nat)(X1:List Value)(A2:Option Addr)(n2 c2:Nat)(X2:List Value)(A3:Option Addr)(n3 c3:Nat)(X3:List Value)(A4:Option Addr)(n4 c4:Nat)(X4:List Value)(A5:Option Addr)(n5 c5:Nat)(X5:List Value)(h0:In1 w B 5 48 A0 n0 c0 X0)(h1:In1 w B 2 24 A1 n1 c1 X1)(h2:In1 w B 2 24 A2 n2 c2 X2)(h3:In1 w B 1 16 A3 n3 c3 X3)(h4:In1 w B 1 16 A4 n4 c4 X4)(h5:In1 w B 3 24 A5 n5 c5 X5)(hB:B≤w.heap.size):
 Calls Tryz.prog 34 #[.agg #[.slice A0 n0 c0,.slice A1 n1 c1,.slice A2 n2 c2,.slice A3 n3 c3,.slice A4 n4 c4,.slice A5 n5 c5]] w fun e w'=>∃D0 k0 D1 k1 D2 k2 D3 k3 D4 k4 D5 k5,e= .returned (.agg #[Value.slice D0 n0 k0,Value.slice D1 n1 k1,Value.slice D2 n2 k2,Value.slice D3 n3 k3,Value.slice D4 n4 k4,Value.slice D5 n5 k5])∧(w'.ownsRow w.heap.size 144 5 (.slice D0 n0 k0) n0 X0∧w'.ownsRow w.heap.size 147 2 (.slice D1 n1 k1) n1 X1∧w'.ownsRow w.heap.size 150 2 (.slice D2 n2 k2) n2 X2∧w'.ownsRow w.heap.size 9 1 (.slice D3 n3 k3) n3 X3∧w'.ownsRow w.heap.size 9 1 (.slice D4 n4 k4) n4 X4∧w'.ownsRow w.heap.size 154 3 (.slice D5 n5 k5) n5 X5)∧w.grownBy w' none:=by
 obtain⟨W,hW⟩:∃W,W=(w.alloc (.cells #[.slice A0 n0 c0,.slice A1 n1 c1,.slice A2 n2 c2,.slice A3 n3 c3,.slice A4 n4 c4,.slice A5 n5 c5] 31)).alloc (.cells #[.slice none 0 0,.slice none 0 0,.slice none 0 0,.slice none 0 0,.slice none 0 0,.slice none 0 0] 31):=⟨_,rfl⟩
 have hg:w.grownBy W none:=by
  rw[hW];exact af (World.grownBy_alloc w _ none) (World.grownBy_alloc _ _ none) (.inl rfl)
 have hb0:Held W w.heap.size 31 #[.slice A0 n0 c0,.slice A1 n1 c1,.slice A2 n2 c2,.slice A3 n3 c3,.slice A4 n4 c4,.slice A5 n5 c5]:=by rw[hW];exact (Held.new w _ _).alloc _
 have hb1:Held W (w.heap.size+1) 31 #[.slice none 0 0,.slice none 0 0,.slice none 0 0,.slice none 0 0,.slice none 0 0,.slice none 0 0]:=by
  rw[hW];have:=Held.new (w.alloc (.cells #[.slice A0 n0 c0,.slice A1 n1 c1,.slice A2 n2 c2,.slice A3 n3 c3,.slice A4 n4 c4,.slice A5 n5 c5] 31)) 31 #[.slice none 0 0,.slice none 0 0,.slice none 0 0,.slice none 0 0,.slice none 0 0,.slice none 0 0];rwa [World.size_alloc] at this
 have HB0:=ae hb0;have HB1:=ae hb1;have wO:Hid (B≤W.heap.size):=ae (Nat.le_trans hB hg.size);have QO:=ae hg;have hws:w.heap.size+1 < W.heap.size:=hb1.lt;have HI0:=ae (fun (W2:World) (g:W.grownBy W2 none)=>h0.grown (af hg g (.inl rfl)) hB);have HI1:=ae (fun (W2:World) (g:W.grownBy W2 none)=>h1.grown (af hg g (.inl rfl)) hB);have HI2:=ae (fun (W2:World) (g:W.grownBy W2 none)=>h2.grown (af hg g (.inl rfl)) hB);have HI3:=ae (fun (W2:World) (g:W.grownBy W2 none)=>h3.grown (af hg g (.inl rfl)) hB);have HI4:=ae (fun (W2:World) (g:W.grownBy W2 none)=>h4.grown (af hg g (.inl rfl)) hB);have HI5:=ae (fun (W2:World) (g:W.grownBy W2 none)=>h5.grown (af hg g (.inl rfl)) hB)
 have HS:Hid (∀w',W.grownBy w' none→w'.cell? ⟨w.heap.size,0,none⟩=some (.slice A0 n0 c0)∧w'.cell? ⟨w.heap.size,1,none⟩=some (.slice A1 n1 c1)∧w'.cell? ⟨w.heap.size,2,none⟩=some (.slice A2 n2 c2)∧w'.cell? ⟨w.heap.size,3,none⟩=some (.slice A3 n3 c3)∧w'.cell? ⟨w.heap.size,4,none⟩=some (.slice A4 n4 c4)∧w'.cell? ⟨w.heap.size,5,none⟩=some (.slice A5 n5 c5)):=ae (fun w' g=>by
  have H:=HB0.out.grown g (fun e=>nomatch e);exact⟨H.cell 0,H.cell 1,H.cell 2,H.cell 3,H.cell 4,H.cell 5⟩)
 have HW:=ae hW;clear hW hb0 hb1 hg h0 h1 h2 h3 h4 h5;go_enter Tryz.func34,Tryz.ntmps34;go_wp2_with fail;rw[show (w.alloc (.cells #[.slice A0 n0 c0,.slice A1 n1 c1,.slice A2 n2 c2,.slice A3 n3 c3,.slice A4 n4 c4,.slice A5 n5 c5] 31)).alloc (.cells #[.slice none 0 0,.slice none 0 0,.slice none 0 0,.slice none 0 0,.slice none 0 0,.slice none 0 0] 31)=W from HW.out.symm];refine vw (z:=19) (S:=fun w'=>w'.cell? ⟨w.heap.size,0,none⟩=some (.slice A0 n0 c0)∧w'.cell? ⟨w.heap.size,1,none⟩=some (.slice A1 n1 c1)∧w'.cell? ⟨w.heap.size,2,none⟩=some (.slice A2 n2 c2)∧w'.cell? ⟨w.heap.size,3,none⟩=some (.slice A3 n3 c3)∧w'.cell? ⟨w.heap.size,4,none⟩=some (.slice A4 n4 c4)∧w'.cell? ⟨w.heap.size,5,none⟩=some (.slice A5 n5 c5)) (by kernel_rfl) (by exact HS.out _ (aN (World.grownBy.refl W none))) (fun hHeld=>?_);refine aA (i:=0) (oi:=⟨some 3,_,_,_,_,_⟩) (v:=?_) rfl (by kernel_rfl) (by kernel_rfl) (by kernel_rfl) (by kernel_rfl) (fun _ _ _ h=>h) (Or.inl ⟨by rfl,?_⟩) (by assumption) ?_;rotate_left
 · intro w hSw;(try dsimp only at hSw);go_simp;(try with_reducible rfl)
 try simp only[Act.put,List.setIfInBounds_toArray,List.set_cons_zero,List.set_cons_succ]
 refine aA (i:=1) (oi:=⟨some 4,_,_,_,_,_⟩) (v:=?_) rfl (by kernel_rfl) (by kernel_rfl) (by kernel_rfl) (by kernel_rfl) (fun _ _ _ h=>h) (Or.inl ⟨by rfl,?_⟩) (by assumption) ?_;rotate_left
 · intro w hSw;(try dsimp only at hSw);go_simp;(try with_reducible rfl)
 try simp only[Act.put,List.setIfInBounds_toArray,List.set_cons_zero,List.set_cons_succ]
 refine aA (i:=3) (oi:=⟨some 6,_,_,_,_,_⟩) (v:=?_) rfl (by kernel_rfl) (by kernel_rfl) (by kernel_rfl) (by kernel_rfl) (fun _ _ _ h=>h) (Or.inl ⟨by rfl,?_⟩) (by assumption) ?_;rotate_left
 · intro w hSw;(try dsimp only at hSw);go_simp;(try with_reducible rfl)
 try simp only[Act.put,List.setIfInBounds_toArray,List.set_cons_zero,List.set_cons_succ]
 refine aA (i:=4) (oi:=⟨some 7,_,_,_,_,_⟩) (v:=?_) rfl (by kernel_rfl) (by kernel_rfl) (by kernel_rfl) (by kernel_rfl) (fun _ _ _ h=>h) (Or.inl ⟨by rfl,?_⟩) (by assumption) ?_;rotate_left
 · intro w hSw;(try dsimp only at hSw);go_simp;(try with_reducible rfl)
 try simp only[Act.put,List.setIfInBounds_toArray,List.set_cons_zero,List.set_cons_succ]
 refine aA (i:=6) (oi:=⟨some 9,_,_,_,_,_⟩) (v:=?_) rfl (by kernel_rfl) (by kernel_rfl) (by kernel_rfl) (by kernel_rfl) (fun _ _ _ h=>h) (Or.inl ⟨by rfl,?_⟩) (by assumption) ?_;rotate_left
 · intro w hSw;(try dsimp only at hSw);go_simp;(try with_reducible rfl)
 try simp only[Act.put,List.setIfInBounds_toArray,List.set_cons_zero,List.set_cons_succ]
 refine aA (i:=7) (oi:=⟨some 10,_,_,_,_,_⟩) (v:=?_) rfl (by kernel_rfl) (by kernel_rfl) (by kernel_rfl) (by kernel_rfl) (fun _ _ _ h=>h) (Or.inl ⟨by rfl,?_⟩) (by assumption) ?_;rotate_left
 · intro w hSw;(try dsimp only at hSw);go_simp;(try with_reducible rfl)
 try simp only[Act.put,List.setIfInBounds_toArray,List.set_cons_zero,List.set_cons_succ]
 refine aA (i:=9) (oi:=⟨some 12,_,_,_,_,_⟩) (v:=?_) rfl (by kernel_rfl) (by kernel_rfl) (by kernel_rfl) (by kernel_rfl) (fun _ _ _ h=>h) (Or.inl ⟨by rfl,?_⟩) (by assumption) ?_;rotate_left
 · intro w hSw;(try dsimp only at hSw);go_simp;(try with_reducible rfl)
 try simp only[Act.put,List.setIfInBounds_toArray,List.set_cons_zero,List.set_cons_succ]
 refine aA (i:=10) (oi:=⟨some 13,_,_,_,_,_⟩) (v:=?_) rfl (by kernel_rfl) (by kernel_rfl) (by kernel_rfl) (by kernel_rfl) (fun _ _ _ h=>h) (Or.inl ⟨by rfl,?_⟩) (by assumption) ?_;rotate_left
 · intro w hSw;(try dsimp only at hSw);go_simp;(try with_reducible rfl)
 try simp only[Act.put,List.setIfInBounds_toArray,List.set_cons_zero,List.set_cons_succ]
 refine aA (i:=12) (oi:=⟨some 15,_,_,_,_,_⟩) (v:=?_) rfl (by kernel_rfl) (by kernel_rfl) (by kernel_rfl) (by kernel_rfl) (fun _ _ _ h=>h) (Or.inl ⟨by rfl,?_⟩) (by assumption) ?_;rotate_left
 · intro w hSw;(try dsimp only at hSw);go_simp;(try with_reducible rfl)
 try simp only[Act.put,List.setIfInBounds_toArray,List.set_cons_zero,List.set_cons_succ]
 refine aA (i:=13) (oi:=⟨some 16,_,_,_,_,_⟩) (v:=?_) rfl (by kernel_rfl) (by kernel_rfl) (by kernel_rfl) (by kernel_rfl) (fun _ _ _ h=>h) (Or.inl ⟨by rfl,?_⟩) (by assumption) ?_;rotate_left
 · intro w hSw;(try dsimp only at hSw);go_simp;(try with_reducible rfl)
 try simp only[Act.put,List.setIfInBounds_toArray,List.set_cons_zero,List.set_cons_succ]
 refine aA (i:=15) (oi:=⟨some 18,_,_,_,_,_⟩) (v:=?_) rfl (by kernel_rfl) (by kernel_rfl) (by kernel_rfl) (by kernel_rfl) (fun _ _ _ h=>h) (Or.inl ⟨by rfl,?_⟩) (by assumption) ?_;rotate_left
 · intro w hSw;(try dsimp only at hSw);go_simp;(try with_reducible rfl)
 try simp only[Act.put,List.setIfInBounds_toArray,List.set_cons_zero,List.set_cons_succ]
 refine aA (i:=16) (oi:=⟨some 19,_,_,_,_,_⟩) (v:=?_) rfl (by kernel_rfl) (by kernel_rfl) (by kernel_rfl) (by kernel_rfl) (fun _ _ _ h=>h) (Or.inl ⟨by rfl,?_⟩) (by assumption) ?_;rotate_left
 · intro w hSw;(try dsimp only at hSw);go_simp;(try with_reducible rfl)
 try simp only[Act.put,List.setIfInBounds_toArray,List.set_cons_zero,List.set_cons_succ]
 refine gQ (i:=2) (o:=⟨some 5,_,_,_,_,_⟩) (by kernel_rfl) rfl (fun K hK=>?_);rw[if_pos (by rfl)];go_simp;refine (Eo (HI0.out _ (aN (World.grownBy.refl W none))) wO.out).mono ?_;rintro e w1 ⟨D0,k0,rfl,hown0,hg0⟩;have nZ:Hid (W.grownBy w1 none):=ae (af (aN (World.grownBy.refl W none)) hg0 (.inl rfl));have ake:Hid (B≤w1.heap.size):=ae (Nat.le_trans wO.out nZ.out.size);have PI:Hid (w1.ownsRow W.heap.size 144 5 (.slice D0 n0 k0) n0 X0):=ae (bW hown0 (Nat.le_refl _));clear hown0 hg0;refine hK.out _ _ (by with_reducible exact HS.out _ nZ.out) (fun dW=>?_);clear hK K hHeld;have hHeld:=dW;clear dW;try simp only[Act.put,List.setIfInBounds_toArray,List.set_cons_zero,List.set_cons_succ]
 refine gQ (i:=5) (o:=⟨some 8,_,_,_,_,_⟩) (by kernel_rfl) rfl (fun K hK=>?_);rw[if_pos (by rfl)];go_simp;refine (Ep (HI1.out _ nZ.out) ake.out).mono ?_;rintro e w2 ⟨D1,k1,rfl,hown1,hg1⟩;have HG2:Hid (W.grownBy w2 none):=ae (af nZ.out hg1 (.inl rfl));have Xh:Hid (B≤w2.heap.size):=ae (Nat.le_trans wO.out HG2.out.size);have FM:Hid (w2.ownsRow W.heap.size 147 2 (.slice D1 n1 k1) n1 X1):=ae (bW hown1 nZ.out.size);replace PI:=ae (ay PI.out hg1 (fun g _ e=>nomatch e));clear hown1 hg1;refine hK.out _ _ (by with_reducible exact HS.out _ HG2.out) (fun dW=>?_);clear hK K hHeld;have hHeld:=dW;clear dW;try simp only[Act.put,List.setIfInBounds_toArray,List.set_cons_zero,List.set_cons_succ]
 refine gQ (i:=8) (o:=⟨some 11,_,_,_,_,_⟩) (by kernel_rfl) rfl (fun K hK=>?_);rw[if_pos (by rfl)];go_simp;refine (Es (HI2.out _ HG2.out) Xh.out).mono ?_;rintro e w3 ⟨D2,k2,rfl,hown2,hg2⟩;have YV:Hid (W.grownBy w3 none):=ae (af HG2.out hg2 (.inl rfl));have akf:Hid (B≤w3.heap.size):=ae (Nat.le_trans wO.out YV.out.size);have xN:Hid (w3.ownsRow W.heap.size 150 2 (.slice D2 n2 k2) n2 X2):=ae (bW hown2 HG2.out.size);replace PI:=ae (ay PI.out hg2 (fun g _ e=>nomatch e));replace FM:=ae (ay FM.out hg2 (fun g _ e=>nomatch e));clear hown2 hg2;refine hK.out _ _ (by with_reducible exact HS.out _ YV.out) (fun dW=>?_);clear hK K hHeld;have hHeld:=dW;clear dW;try simp only[Act.put,List.setIfInBounds_toArray,List.set_cons_zero,List.set_cons_succ]
 refine gQ (i:=11) (o:=⟨some 14,_,_,_,_,_⟩) (by kernel_rfl) rfl (fun K hK=>?_);rw[if_pos (by rfl)];go_simp;refine (vC (HI3.out _ YV.out) akf.out).mono ?_;rintro e w4 ⟨D3,k3,rfl,hown3,hg3⟩;have Nv:Hid (W.grownBy w4 none):=ae (af YV.out hg3 (.inl rfl));have akg:Hid (B≤w4.heap.size):=ae (Nat.le_trans wO.out Nv.out.size);have Bi:Hid (w4.ownsRow W.heap.size 9 1 (.slice D3 n3 k3) n3 X3):=ae (bW hown3 YV.out.size);replace PI:=ae (ay PI.out hg3 (fun g _ e=>nomatch e));replace FM:=ae (ay FM.out hg3 (fun g _ e=>nomatch e));replace xN:=ae (ay xN.out hg3 (fun g _ e=>nomatch e));clear hown3 hg3;refine hK.out _ _ (by with_reducible exact HS.out _ Nv.out) (fun dW=>?_);clear hK K hHeld;have hHeld:=dW;clear dW;try simp only[Act.put,List.setIfInBounds_toArray,List.set_cons_zero,List.set_cons_succ]
 refine gQ (i:=14) (o:=⟨some 17,_,_,_,_,_⟩) (by kernel_rfl) rfl (fun K hK=>?_);rw[if_pos (by rfl)];go_simp;refine (vC (HI4.out _ Nv.out) akg.out).mono ?_;rintro e w5 ⟨D4,k4,rfl,hown4,hg4⟩;have Jy:Hid (W.grownBy w5 none):=ae (af Nv.out hg4 (.inl rfl));have akh:Hid (B≤w5.heap.size):=ae (Nat.le_trans wO.out Jy.out.size);have Gq:Hid (w5.ownsRow W.heap.size 9 1 (.slice D4 n4 k4) n4 X4):=ae (bW hown4 Nv.out.size);replace PI:=ae (ay PI.out hg4 (fun g _ e=>nomatch e));replace FM:=ae (ay FM.out hg4 (fun g _ e=>nomatch e));replace xN:=ae (ay xN.out hg4 (fun g _ e=>nomatch e));replace Bi:=ae (ay Bi.out hg4 (fun g _ e=>nomatch e));clear hown4 hg4;refine hK.out _ _ (by with_reducible exact HS.out _ Jy.out) (fun dW=>?_);clear hK K hHeld;have hHeld:=dW;clear dW;try simp only[Act.put,List.setIfInBounds_toArray,List.set_cons_zero,List.set_cons_succ]
 refine gQ (i:=17) (o:=⟨some 20,_,_,_,_,_⟩) (by kernel_rfl) rfl (fun K hK=>?_);rw[if_pos (by rfl)];go_simp;refine (Et (HI5.out _ Jy.out) akh.out).mono ?_;rintro e w6 ⟨D5,k5,rfl,hown5,hg5⟩;have HG6:Hid (W.grownBy w6 none):=ae (af Jy.out hg5 (.inl rfl));have aoY:Hid (B≤w6.heap.size):=ae (Nat.le_trans wO.out HG6.out.size);have JQ:Hid (w6.ownsRow W.heap.size 154 3 (.slice D5 n5 k5) n5 X5):=ae (bW hown5 Jy.out.size);replace PI:=ae (ay PI.out hg5 (fun g _ e=>nomatch e));replace FM:=ae (ay FM.out hg5 (fun g _ e=>nomatch e));replace xN:=ae (ay xN.out hg5 (fun g _ e=>nomatch e));replace Bi:=ae (ay Bi.out hg5 (fun g _ e=>nomatch e));replace Gq:=ae (ay Gq.out hg5 (fun g _ e=>nomatch e));clear hown5 hg5;refine hK.out _ _ (by with_reducible exact HS.out _ HG6.out) (fun dW=>?_);clear hK K hHeld;have hHeld:=dW;clear dW;try simp only[Act.put,List.setIfInBounds_toArray,List.set_cons_zero,List.set_cons_succ]
 refine aA (i:=18) (oi:=⟨some 21,_,_,_,_,_⟩) (v:=?_) rfl (by kernel_rfl) (by kernel_rfl) (by kernel_rfl) (by kernel_rfl) (fun _ _ _ h=>h) (Or.inl ⟨by rfl,?_⟩) (by assumption) ?_;rotate_left
 · intro w hSw;(try dsimp only at hSw);go_simp;(try with_reducible rfl)
 try simp only[Act.put,List.setIfInBounds_toArray,List.set_cons_zero,List.set_cons_succ]
 refine vg (o:=⟨none,_,_,_,_,_⟩) (by kernel_rfl) rfl (fun K hK=>?_);rw[if_pos (by rfl)];have PK:=ae (HB1.out.grown HG6.out (fun e=>nomatch e));have z0:w6.cell? ⟨w.heap.size+1,0,none⟩=some (.slice none 0 0):=PK.out.cell 0;have z1:w6.cell? ⟨w.heap.size+1,1,none⟩=some (.slice none 0 0):=PK.out.cell 1;have z2:w6.cell? ⟨w.heap.size+1,2,none⟩=some (.slice none 0 0):=PK.out.cell 2;have z3:w6.cell? ⟨w.heap.size+1,3,none⟩=some (.slice none 0 0):=PK.out.cell 3;have z4:w6.cell? ⟨w.heap.size+1,4,none⟩=some (.slice none 0 0):=PK.out.cell 4;have z5:w6.cell? ⟨w.heap.size+1,5,none⟩=some (.slice none 0 0):=PK.out.cell 5;have y0:=PK.out.free 0;have y1:=PK.out.free 1;have y2:=PK.out.free 2;have y3:=PK.out.free 3;have y4:=PK.out.free 4;have y5:=PK.out.free 5;go_simp;refine hK.out _ _ ?_;clear hK K;try simp only[Act.put,List.setIfInBounds_toArray,List.set_cons_zero,List.set_cons_succ]
 refine vk (by kernel_rfl) ?_ _;obtain⟨q6,g6⟩:=Xg PK.out (Value.slice D0 n0 k0) (Value.slice D1 n1 k1) (Value.slice D2 n2 k2) (Value.slice D3 n3 k3) (Value.slice D4 n4 k4) (Value.slice D5 n5 k5) _ (Nat.le_refl _);generalize hwx:((((((w6.setCell ⟨w.heap.size+1,0,none⟩ (Value.slice D0 n0 k0)).setCell ⟨w.heap.size+1,1,none⟩ (Value.slice D1 n1 k1)).setCell ⟨w.heap.size+1,2,none⟩ (Value.slice D2 n2 k2)).setCell ⟨w.heap.size+1,3,none⟩ (Value.slice D3 n3 k3)).setCell ⟨w.heap.size+1,4,none⟩ (Value.slice D4 n4 k4)).setCell ⟨w.heap.size+1,5,none⟩ (Value.slice D5 n5 k5))=wx at q6 g6⊢;have r0:wx.cell? ⟨w.heap.size+1,0,none⟩=some (.slice D0 n0 k0):=q6.cell 0;have r1:wx.cell? ⟨w.heap.size+1,1,none⟩=some (.slice D1 n1 k1):=q6.cell 1;have r2:wx.cell? ⟨w.heap.size+1,2,none⟩=some (.slice D2 n2 k2):=q6.cell 2;have r3:wx.cell? ⟨w.heap.size+1,3,none⟩=some (.slice D3 n3 k3):=q6.cell 3;have r4:wx.cell? ⟨w.heap.size+1,4,none⟩=some (.slice D4 n4 k4):=q6.cell 4;have r5:wx.cell? ⟨w.heap.size+1,5,none⟩=some (.slice D5 n5 k5):=q6.cell 5;go_wp2_with fail;refine bodyPost_ret (v:= .agg #[Value.slice D0 n0 k0,Value.slice D1 n1 k1,Value.slice D2 n2 k2,Value.slice D3 n3 k3,Value.slice D4 n4 k4,Value.slice D5 n5 k5]) (by simp[results,Tryz.results34,go_sem,r0,r1,r2,r3,r4,r5]) rfl ?_
 have hk:∀(e sz n:Nat) (v:Value) (X:List Value),w6.ownsRow W.heap.size e sz v n X→wx.ownsRow w.heap.size e sz v n X:=fun e sz n v X h=>
  bW (ay h g6 (fun x e1 e2=>by injection e2 with e2;have:=(h.lt x e1).1;omega)) (by omega)
 exact⟨D0,k0,D1,k1,D2,k2,D3,k3,D4,k4,D5,k5,rfl,⟨hk _ _ _ _ _ PI.out,hk _ _ _ _ _ FM.out,hk _ _ _ _ _ xN.out,hk _ _ _ _ _ Bi.out,hk _ _ _ _ _ Gq.out,hk _ _ _ _ _ JQ.out⟩,af (af QO.out HG6.out (.inl rfl)) g6 (.inr ⟨_,rfl,by omega⟩)⟩
