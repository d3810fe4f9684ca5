/-
  The proof of 'Rows.CollectWholeSaid': for every input the law returns true, and each argument reads behind the call as it read before. No condition beyond the row's own.
-/
import Derived.Test.YtfbkkgfkhhibfaaGreatFacts
import Derived.Test.YtfbkkgfkhhibfaaGreatJp6
import Derived.Test.YtfbkkgfkhhibfaaGreatLaw15w
import Derived.ShutString
set_option linter.unusedVariables false
set_option maxRecDepth 100000
set_option maxHeartbeats 8000000
namespace Go.Proofs.YtfbkkgfkhhibfaaGreat.collectWholeDone
open Go.ChangeShapes Go.WideShapes Go.ChangeAt Go.RowKit Iv
open Go.ChangeMaps (open_string shut_string)
theorem own:ownKnob Tryz.prog.godebug=none:=by kernel_rfl
theorem laidOut:laidOutB Tryz.prog=true:=by kernel_rfl
theorem lifted (os:Os)(started:os.Started)(H:Type)(enc:TypeId×Value→H):
 ReturnsInHanded {} Tryz.checked os 5 .any (Rows.collectWholeSpec.pre6 enc Tryz.prog Tryz.f5 Rows.collectWholeRow.domain false) (Rows.collectWholeSpec.post enc Tryz.prog Tryz.f5 false true false false):=by
 refine returnsInHanded_of_change (C:=Tryz.checked) own started (by kernel_rfl) Tryz.func5
  (ChangeSpec.witness6 (enc:=enc) (C:=Tryz.checked) false ⟨#[],#[.slice none 0 0,.slice none 0 0,.agg #[.int .u8 0,.int .u8 0,.slice none 0 0,.slice none 0 0]],[]⟩ 8 (by kernel_rfl) (by kernel_rfl) (by kernel_rfl) (by kernel_rfl)) ?_
 intro W base args ds gs before hval0 hW hcnd _;have hval:∀(j:Nat) t v,Tryz.f5.params[j]?=some t→args[j]?=some v→Value.okWide Tryz.prog W .any base t v:=hval0;have hW':=hW;obtain⟨p,q,hA0,hV,rfl,hfz,hnd⟩:=hW;have hA:DataW.TrodAll enc Tryz.prog W 0 (fun _=>true) true Tryz.f5.params.toList args.toList ds p:=hA0;rw[Tryz.params5] at hA hval;obtain⟨v0,vs0,d0,ds0,p0,q0,hargs,rfl,rfl,h0,r0⟩:=trodAll_cons hA;obtain⟨v1,vs1,d1,ds1,p1,q1,rfl,rfl,rfl,h1,r1⟩:=trodAll_cons r0;obtain⟨v2,vs2,d2,ds2,p2,q2,rfl,rfl,rfl,h2,r2⟩:=trodAll_cons r1;obtain⟨rfl,rfl,rfl⟩:=trodAll_nil r2;obtain rfl:args=#[v0,v1,v2]:=by cases args;simp_all
 obtain⟨rfl,rfl⟩:=trodVars_none hV;have k0:=h0;have lt0:∀x∈p0,x.block < W.heap.size:=by obtain⟨m,hm⟩:=k0;exact DataW.trod_lt m _ _ _ hm
 obtain⟨b0,l0,c0,rfl⟩:=okWide_slice Tryz.underlying22 (hval 0 22 v0 rfl rfl);obtain⟨fuel0,hf0⟩:=h0;obtain⟨A0,n0,m0,x0,e0,y0,z0,u0,o0⟩:=nG Tryz.underlying22 Tryz.underlying5 (by kernel_rfl) hf0;simp only[Value.cells,List.cons.injEq,and_true,Value.slice.injEq] at e0;obtain⟨rfl,rfl,rfl⟩:=e0;have k1:=h1;have lt1:∀x∈p1,x.block < W.heap.size:=by obtain⟨m,hm⟩:=k1;exact DataW.trod_lt m _ _ _ hm
 obtain⟨b1,l1,c1,rfl⟩:=okWide_slice Tryz.underlying22 (hval 1 22 v1 rfl rfl);obtain⟨fuel1,hf1⟩:=h1;obtain⟨A1,n1,m1,x1,e1,y1,z1,u1,o1⟩:=nG Tryz.underlying22 Tryz.underlying5 (by kernel_rfl) hf1;simp only[Value.cells,List.cons.injEq,and_true,Value.slice.injEq] at e1;obtain⟨rfl,rfl,rfl⟩:=e1;have k2:=h2;have lt2:∀x∈p2,x.block < W.heap.size:=by obtain⟨m,hm⟩:=k2;exact DataW.trod_lt m _ _ _ hm
 obtain⟨na2,nb2,Ea2,ka2,ca2,xa2,Eb2,kb2,cb2,xb2,rfl,w2⟩:=y9 (hval 2 57 v2 rfl rfl) h2;clear hA0 hval0;refine (wL ZQ aaq b0 l0 c0 x0 b1 l1 c1 x1 na2 nb2 Ea2 ka2 ca2 xa2 Eb2 kb2 cb2 xb2 W y0 z0 u0 o0 y1 z1 u1 o1 w2.1 w2.2.1 w2.2.2.1.1 w2.2.2.1.2.1 w2.2.2.1.2.2.1 w2.2.2.1.2.2.2 w2.2.2.2.1 w2.2.2.2.2.1 w2.2.2.2.2.2.1 w2.2.2.2.2.2.2).mono fun e W' ⟨he,bel⟩=>?_
 subst he;exact⟨_,rfl,_,_,_,[],_,[],hW',trodAll_mk1 (shut_bool Tryz.underlying4 _),(trodAll_cons_mk (Below.trod laidOut (by kernel_rfl) (of_decide_eq_true (by kernel_rfl)) k0 bel lt0) (trodAll_cons_mk (Below.trod laidOut (by kernel_rfl) (of_decide_eq_true (by kernel_rfl)) k1 bel lt1) (trodAll_cons_mk (Below.trod laidOut (by kernel_rfl) (of_decide_eq_true (by kernel_rfl)) k2 bel lt2) trodAll_mk0))),rfl,bel.frame _,fun h=>by cases h⟩
theorem closed:joinedFacts Tryz.checked.prog 5 Tryz.f5 Rows.collectWholeSpec Rows.collectWholeRow=true:=
 Qi Tryz.prog 5 Tryz.f5 Rows.collectWholeSpec Rows.collectWholeRow (by as_aux_lemma=>kernel_rfl) Qj L9 (by as_aux_lemma=>kernel_rfl) (by as_aux_lemma=>kernel_rfl) (by as_aux_lemma=>kernel_rfl) Md (by as_aux_lemma=>kernel_rfl) Me (by as_aux_lemma=>kernel_rfl) (by as_aux_lemma=>kernel_rfl) (by as_aux_lemma=>kernel_rfl) (by as_aux_lemma=>kernel_rfl) (by as_aux_lemma=>kernel_rfl) (by as_aux_lemma=>kernel_rfl) (by as_aux_lemma=>kernel_rfl) (by as_aux_lemma=>kernel_rfl) (by as_aux_lemma=>kernel_rfl) (by as_aux_lemma=>kernel_rfl) (by as_aux_lemma=>kernel_rfl) (by as_aux_lemma=>kernel_rfl) (by as_aux_lemma=>kernel_rfl) (by rw[MB];rfl) (by as_aux_lemma=>kernel_rfl) MC MF (by rw[MG];rfl) (by rw[Qk];kernel_rfl) (by as_aux_lemma=>kernel_rfl) (by as_aux_lemma=>kernel_rfl) (by as_aux_lemma=>kernel_rfl) (by as_aux_lemma=>kernel_rfl)
theorem over:Rows.collectWholeRow.holds Tryz.pinned (OpenSpec.ofChange Rows.collectWholeSpec):=
 OpenClaim.holds_of_wide 5 Tryz.f5 rfl rfl rfl rfl rfl rfl rfl ⟨rfl,rfl,rfl,rfl,rfl⟩ rfl rfl rfl rfl rfl (by kernel_rfl) Tryz.func5 closed
  (of_decide_eq_true (by kernel_rfl)) (by unfold Func.isWrapper;first | (rw[if_pos (by decide+kernel)];kernel_rfl) | (rw[if_neg (by decide+kernel)];exact⟨rfl,rfl⟩))
  (fun os started H enc _=>lifted os started H enc)
theorem proved:Rows.CollectWholeSaid:=over
