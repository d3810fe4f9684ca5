/-
  The proof of 'Rows.CollectDamageSaid': for every input the law returns true, and each argument reads behind the call as it read before. No condition beyond the row's own.
-/
import Derived.Test.YtfbkkgfkhhibfaaGreatFacts
import Derived.Test.YtfbkkgfkhhibfaaGreatJp5
import Derived.Test.YtfbkkgfkhhibfaaGreatOpenNu5
import Derived.Test.YtfbkkgfkhhibfaaGreatLaw15d
import Derived.ShutString
set_option linter.unusedVariables false
set_option maxRecDepth 100000
set_option maxHeartbeats 8000000
namespace Go.Proofs.YtfbkkgfkhhibfaaGreat.collectDamageDone
open Go.ChangeShapes Go.WideShapes Go.ChangeAt Go.RowKit Iv
open Go.ChangeMaps (open_string shut_string)
theorem own:ownKnob Tryz.prog.godebug=none:=by kernel_rfl
theorem laidOut:laidOutB Tryz.prog=true:=by kernel_rfl
theorem lifted (os:Os)(started:os.Started)(H:Type)(enc:TypeId×Value->H):
 ReturnsInHanded {} Tryz.checked os 7 .any (Rows.collectDamageSpec.pre6 enc Tryz.prog Tryz.f7 Rows.collectDamageRow.domain false) (Rows.collectDamageSpec.post enc Tryz.prog Tryz.f7 false true false false):=by
 refine returnsInHanded_of_change (C:=Tryz.checked) own started (by kernel_rfl) Tryz.func7
  (ChangeSpec.witness6 (enc:=enc) (C:=Tryz.checked) false ⟨#[],#[.slice none 0 0,.slice none 0 0,.agg #[.int .u8 0,.int .u8 0,.slice none 0 0,.slice none 0 0],.int .u8 0,.int .u16 0,.int .u8 0],[]⟩ 8 (by kernel_rfl) (by kernel_rfl) (by kernel_rfl) (by kernel_rfl)) ?_
 intro W base args ds gs before d hW hcnd _;have a:∀(j:Nat) t v,Tryz.f7.params[j]?=some t->args[j]?=some v->Value.okWide Tryz.prog W .any base t v:=d;have y:=hW;obtain⟨p,q,hA0,hV,rfl,a8,hnd⟩:=hW;have hA:DataW.TrodAll enc Tryz.prog W 0 (λ_=>true) true Tryz.f7.params.toList args.toList ds p:=hA0;rw[Tryz.params7] at hA a;obtain⟨v0,aa,d0,ab,p0,q0,B,rfl,rfl,h0,r0⟩:=trodAll_cons hA;obtain⟨v1,ad,d1,al,p1,q1,rfl,rfl,rfl,h1,r1⟩:=trodAll_cons r0;obtain⟨v2,an,d2,ao,p2,q2,rfl,rfl,rfl,h2,r2⟩:=trodAll_cons r1;obtain⟨v3,aq,d3,ar,p3,q3,rfl,rfl,rfl,h3,r3⟩:=trodAll_cons r2;obtain⟨v4,av,d4,aw,p4,q4,rfl,rfl,rfl,h4,r4⟩:=trodAll_cons r3;obtain⟨v5,aD,d5,aL,p5,q5,rfl,rfl,rfl,h5,r5⟩:=trodAll_cons r4;obtain⟨rfl,rfl,rfl⟩:=trodAll_nil r5;obtain rfl:args=#[v0,v1,v2,v3,v4,v5]:=(by cases args;simp_all);obtain⟨rfl,rfl⟩:=trodVars_none hV;have k0:=h0;have D:∀x∈p0,x.block<W.heap.size:=(by obtain⟨m,hm⟩:=k0;exact Su m _ _ _ hm);obtain⟨b0,l0,c0,rfl⟩:=okWide_slice Tryz.underlying22 (a 0 22 v0 rfl rfl);obtain⟨E,G⟩:=h0;obtain⟨A0,n0,m0,x0,e0,y0,z0,u0,o0⟩:=qZ Tryz.underlying22 Tryz.underlying5 (by kernel_rfl) G;simp only[Value.cells,sU,and_true,Value.slice.injEq] at e0;obtain⟨rfl,rfl,rfl⟩:=e0;have k1:=h1;have I:∀x∈p1,x.block<W.heap.size:=(by obtain⟨m,hm⟩:=k1;exact Su m _ _ _ hm);obtain⟨b1,l1,c1,rfl⟩:=okWide_slice Tryz.underlying22 (a 1 22 v1 rfl rfl);obtain⟨J,L⟩:=h1;obtain⟨A1,n1,m1,x1,e1,y1,z1,u1,o1⟩:=qZ Tryz.underlying22 Tryz.underlying5 (by kernel_rfl) L;simp only[Value.cells,sU,and_true,Value.slice.injEq] at e1;obtain⟨rfl,rfl,rfl⟩:=e1;have k2:=h2;have M:∀x∈p2,x.block<W.heap.size:=(by obtain⟨m,hm⟩:=k2;exact Su m _ _ _ hm);obtain⟨N,O,R,U,V,X,Y,Z,a6,a7,rfl,w2⟩:=EM (a 2 57 v2 rfl rfl) h2;obtain⟨a3,rfl,rfl,rfl,w3⟩:=open_int Tryz.underlying5 (a 3 5 v3 rfl rfl) h3;obtain⟨a4,rfl,rfl,rfl,w4⟩:=open_int Tryz.underlying71 (a 4 71 v4 rfl rfl) h4;obtain⟨a5,rfl,rfl,rfl,w5⟩:=open_int Tryz.underlying5 (a 5 5 v5 rfl rfl) h5;clear hA0 d;refine (zN afb agv b0 l0 c0 x0 b1 l1 c1 x1 N O R U V X Y Z a6 a7 a3 a4 a5 W y0 z0 u0 o0 y1 z1 u1 o1 w2.1 w2.2.1 w2.2.2.1.1 w2.2.2.1.2.1 w2.2.2.1.2.2.1 w2.2.2.1.2.2.2 w2.2.2.2.1 w2.2.2.2.2.1 w2.2.2.2.2.2.1 w2.2.2.2.2.2.2 (yJ w3) (ZY w4) (yJ w5)).mono λe W' ⟨he,u⟩=>?_;subst he;exact⟨_,rfl,_,_,_,[],_,[],y,trodAll_mk1 (shut_bool Tryz.underlying4 _),(trodAll_cons_mk (Below.trod laidOut (by kernel_rfl) (KG (by kernel_rfl)) k0 u D) (trodAll_cons_mk (Below.trod laidOut (by kernel_rfl) (KG (by kernel_rfl)) k1 u I) (trodAll_cons_mk (Below.trod laidOut (by kernel_rfl) (KG (by kernel_rfl)) k2 u M) (trodAll_cons_mk (shut_int Tryz.underlying5 w3) (trodAll_cons_mk (shut_int Tryz.underlying71 w4) (trodAll_cons_mk (shut_int Tryz.underlying5 w5) trodAll_mk0)))))),rfl,u.frame _,λh=>by cases h⟩
theorem closed:joinedFacts Tryz.checked.prog 7 Tryz.f7 Rows.collectDamageSpec Rows.collectDamageRow=true:=
 Wq Tryz.prog 7 Tryz.f7 Rows.collectDamageSpec Rows.collectDamageRow (by as_aux_lemma=>kernel_rfl) Ws Sv (by as_aux_lemma=>kernel_rfl) (by as_aux_lemma=>kernel_rfl) (by as_aux_lemma=>kernel_rfl) Sz (by as_aux_lemma=>kernel_rfl) SA (by as_aux_lemma=>kernel_rfl) (by as_aux_lemma=>kernel_rfl) (by as_aux_lemma=>kernel_rfl) (by as_aux_lemma=>kernel_rfl) (by as_aux_lemma=>kernel_rfl) (by as_aux_lemma=>kernel_rfl) (by as_aux_lemma=>kernel_rfl) (by as_aux_lemma=>kernel_rfl) (by as_aux_lemma=>kernel_rfl) (by as_aux_lemma=>kernel_rfl) (by as_aux_lemma=>kernel_rfl) (by as_aux_lemma=>kernel_rfl) (by as_aux_lemma=>kernel_rfl) (by rw[SB];rfl) (by as_aux_lemma=>kernel_rfl) SE SG (by rw[SH];rfl) (by rw[Wu];kernel_rfl) (by as_aux_lemma=>kernel_rfl) (by as_aux_lemma=>kernel_rfl) (by as_aux_lemma=>kernel_rfl) (by as_aux_lemma=>kernel_rfl)
theorem over:Rows.collectDamageRow.holds Tryz.pinned (OpenSpec.ofChange Rows.collectDamageSpec):=
 OpenClaim.holds_of_wide 7 Tryz.f7 rfl rfl rfl rfl rfl rfl rfl ⟨rfl,rfl,rfl,rfl,rfl⟩ rfl rfl rfl rfl rfl (by kernel_rfl) Tryz.func7 closed
  (KG (by kernel_rfl)) (by unfold Func.isWrapper;first|(rw[if_pos (by decide+kernel)];kernel_rfl)|(rw[if_neg (by decide+kernel)];exact⟨rfl,rfl⟩))
  (λos started H enc _=>lifted os started H enc)
theorem proved:Rows.CollectDamageSaid:=over
