/-
  The proof of 'Rows.CollectLaterSaid': for every input the law returns true, and each argument reads behind the call as it read before. No condition beyond the row's own.
-/
import Derived.Test.YtfbkkgfkhhibfaaGreatFacts
import Derived.Test.YtfbkkgfkhhibfaaGreatJpx
import Derived.Test.YtfbkkgfkhhibfaaGreatOpenNu5
import Derived.Test.YtfbkkgfkhhibfaaGreatLaw15l
import Derived.ShutString
set_option linter.unusedVariables false
set_option maxRecDepth 100000
set_option maxHeartbeats 8000000
namespace Go.Proofs.YtfbkkgfkhhibfaaGreat.collectLaterDone
open Go.ChangeShapes Go.WideShapes Go.ChangeAt Go.RowKit Iv
open Go.ChangeMaps (open_string shut_string)
theorem own:ownKnob Tryz.prog.godebug=none:=by kernel_rfl
theorem laidOut:laidOutB Tryz.prog=true:=by kernel_rfl
theorem lifted (os:Os)(started:os.Started)(H:Type)(enc:TypeId×Value->H):
 ReturnsInHanded {} Tryz.checked os 8 .any (Rows.collectLaterSpec.pre6 enc Tryz.prog Tryz.f8 Rows.collectLaterRow.domain false) (Rows.collectLaterSpec.post enc Tryz.prog Tryz.f8 false true false false):=by
 refine returnsInHanded_of_change (C:=Tryz.checked) own started (by kernel_rfl) Tryz.func8
  (ChangeSpec.witness6 (enc:=enc) (C:=Tryz.checked) false ⟨#[],#[.slice none 0 0,.slice none 0 0,.agg #[.int .u8 0,.int .u8 0,.slice none 0 0,.slice none 0 0]],[]⟩ 8 (by kernel_rfl) (by kernel_rfl) (by kernel_rfl) (by kernel_rfl)) ?_
 intro W base args ds gs before d hW hcnd _;have a:∀(j:Nat) t v,Tryz.f8.params[j]?=some t->args[j]?=some v->Value.okWide Tryz.prog W .any base t v:=d;have y:=hW;obtain⟨p,q,hA0,hV,rfl,aa,hnd⟩:=hW;have hA:DataW.TrodAll enc Tryz.prog W 0 (λ_=>true) true Tryz.f8.params.toList args.toList ds p:=hA0;rw[Tryz.params8] at hA a;obtain⟨v0,ab,d0,ad,p0,q0,A,rfl,rfl,h0,r0⟩:=trodAll_cons hA;obtain⟨v1,al,d1,an,p1,q1,rfl,rfl,rfl,h1,r1⟩:=trodAll_cons r0;obtain⟨v2,ao,d2,aq,p2,q2,rfl,rfl,rfl,h2,r2⟩:=trodAll_cons r1;obtain⟨rfl,rfl,rfl⟩:=trodAll_nil r2;obtain rfl:args=#[v0,v1,v2]:=(by cases args;simp_all);obtain⟨rfl,rfl⟩:=trodVars_none hV;have k0:=h0;have B:∀x∈p0,x.block<W.heap.size:=(by obtain⟨m,hm⟩:=k0;exact Q9 m _ _ _ hm);obtain⟨b0,l0,c0,rfl⟩:=okWide_slice Tryz.underlying22 (a 0 22 v0 rfl rfl);obtain⟨D,E⟩:=h0;obtain⟨A0,n0,m0,x0,e0,y0,z0,u0,o0⟩:=qZ Tryz.underlying22 Tryz.underlying5 (by kernel_rfl) E;simp only[Value.cells,Cm,vC,Value.slice.injEq] at e0;obtain⟨rfl,rfl,rfl⟩:=e0;have k1:=h1;have G:∀x∈p1,x.block<W.heap.size:=(by obtain⟨m,hm⟩:=k1;exact Q9 m _ _ _ hm);obtain⟨b1,l1,c1,rfl⟩:=okWide_slice Tryz.underlying22 (a 1 22 v1 rfl rfl);obtain⟨I,J⟩:=h1;obtain⟨A1,n1,m1,x1,e1,y1,z1,u1,o1⟩:=qZ Tryz.underlying22 Tryz.underlying5 (by kernel_rfl) J;simp only[Value.cells,Cm,vC,Value.slice.injEq] at e1;obtain⟨rfl,rfl,rfl⟩:=e1;have k2:=h2;have L:∀x∈p2,x.block<W.heap.size:=(by obtain⟨m,hm⟩:=k2;exact Q9 m _ _ _ hm);obtain⟨N,O,U,V,X,Y,Z,a6,a7,a8,rfl,w2⟩:=EK (a 2 57 v2 rfl rfl) h2;clear hA0 d;refine (AZ afs ahq b0 l0 c0 x0 b1 l1 c1 x1 N O U V X Y Z a6 a7 a8 W y0 z0 u0 o0 y1 z1 u1 o1 w2.1 w2.2.1 w2.2.2.1.1 w2.2.2.1.2.1 w2.2.2.1.2.2.1 w2.2.2.1.2.2.2 w2.2.2.2.1 w2.2.2.2.2.1 w2.2.2.2.2.2.1 w2.2.2.2.2.2.2).mono λe W' ⟨he,u⟩=>?_;subst he;exact⟨_,rfl,_,_,_,[],_,[],y,trodAll_mk1 (shut_bool Tryz.underlying4 _),(trodAll_cons_mk (Below.trod laidOut (by kernel_rfl) (Kw (by kernel_rfl)) k0 u B) (trodAll_cons_mk (Below.trod laidOut (by kernel_rfl) (Kw (by kernel_rfl)) k1 u G) (trodAll_cons_mk (Below.trod laidOut (by kernel_rfl) (Kw (by kernel_rfl)) k2 u L) trodAll_mk0))),rfl,u.frame _,λh=>by cases h⟩
theorem closed:joinedFacts Tryz.checked.prog 8 Tryz.f8 Rows.collectLaterSpec Rows.collectLaterRow=true:=
 VE Tryz.prog 8 Tryz.f8 Rows.collectLaterSpec Rows.collectLaterRow (by as_aux_lemma=>kernel_rfl) VF Rf (by as_aux_lemma=>kernel_rfl) (by as_aux_lemma=>kernel_rfl) (by as_aux_lemma=>kernel_rfl) Rh (by as_aux_lemma=>kernel_rfl) Ri (by as_aux_lemma=>kernel_rfl) (by as_aux_lemma=>kernel_rfl) (by as_aux_lemma=>kernel_rfl) (by as_aux_lemma=>kernel_rfl) (by as_aux_lemma=>kernel_rfl) (by as_aux_lemma=>kernel_rfl) (by as_aux_lemma=>kernel_rfl) (by as_aux_lemma=>kernel_rfl) (by as_aux_lemma=>kernel_rfl) (by as_aux_lemma=>kernel_rfl) (by as_aux_lemma=>kernel_rfl) (by as_aux_lemma=>kernel_rfl) (by as_aux_lemma=>kernel_rfl) (by rw[Rj];rfl) (by as_aux_lemma=>kernel_rfl) Rk Rl (by rw[Rn];rfl) (by rw[VG];kernel_rfl) (by as_aux_lemma=>kernel_rfl) (by as_aux_lemma=>kernel_rfl) (by as_aux_lemma=>kernel_rfl) (by as_aux_lemma=>kernel_rfl)
theorem over:Rows.collectLaterRow.holds Tryz.pinned (OpenSpec.ofChange Rows.collectLaterSpec):=
 OpenClaim.holds_of_wide 8 Tryz.f8 rfl rfl rfl rfl rfl rfl rfl ⟨rfl,rfl,rfl,rfl,rfl⟩ rfl rfl rfl rfl rfl (by kernel_rfl) Tryz.func8 closed
  (Kw (by kernel_rfl)) (by unfold Func.isWrapper;first|(rw[if_pos (by decide+kernel)];kernel_rfl)|(rw[if_neg (by decide+kernel)];exact⟨rfl,rfl⟩))
  (λos started H enc _=>lifted os started H enc)
theorem proved:Rows.CollectLaterSaid:=over
