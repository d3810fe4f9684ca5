/- Words. -/
import Derived.Test.YtfbkkgfkhhibfaaGreatAto
import Derived.LoopN
set_option linter.unusedVariables false
set_option linter.unusedSimpArgs false
namespace AM
open Go Go.Proofs Go.RowKit
@[go_sem] theorem an6 {s:ByteArray} :(s.toList==(⟨#[]⟩:ByteArray).toList)=decide (s.size=0):=by
 rw[zM];congr 1;rw[pU];refine⟨λh=>by rw[h];rfl,λh=>?_⟩;obtain⟨⟨l⟩⟩:=s
 cases l with
 |nil=>rfl
 |cons a r=>simp [ByteArray.size] at h
attribute [go_sem] List.size_toArray List.length_zipIdx List.forall_mem_map implies_true Bool.true_beq Bool.false_beq Bool.not_true Bool.not_false Int.cast_ofNat_Int false_imp_iff true_imp_iff forall_const
@[go_sem] theorem axr {b:Bool} :(b==false)= !b:=by cases b<;>rfl
@[go_sem] theorem axs {b:Bool} :(b==true)=b:=by cases b<;>rfl
@[go_sem] theorem alV {a:Int} :(a==a)=true:=by simp
@[go_sem] theorem aiQ {a:Int} :(a !=a)=false:=by simp
def cS1:Code->Code
 | .seq a _=>a
 | .cond _ a _=>a
 | .block _ b=>b
 | .loop b=>b
 |c=>c
def cS2:Code->Code
 | .seq _ a=>a
 | .cond _ _ a=>a
 |c=>c
def alW:Code->Bool
 | .seq _ _=>true
 |_=>false
def Fv:Code->Bool
 | .loop _=>true
 |_=>false
def ahp:Code->Bool
 | .skip=>true
 |_=>false
def Ij:Code->Bool
 | .ret=>true
 |_=>false
def alX:Code->Option Nat
 | .block i _=>some i
 |_=>none
def arB:Code->Option Nat
 | .exit i=>some i
 |_=>none
def arC:Code->Option Operand
 | .cond x _ _=>some x
 |_=>none
def arD:Code->Option (Nat×List Oper×Bool)
 | .region i l d=>some (i,l.toList,d)
 |_=>none
section
variable {M : Mc} {k : List It} {env : Env} {σ : Sto} {nx id : Nat} {c : Code}
theorem Fz (e:alW c=true)(h:sr M (.code (cS1 c) :: .code (cS2 c)::k) env σ nx):sr M (.code c::k) env σ nx:=by cases c<;>first|exact ahq h|cases e
theorem FB (e:alX c=some id)(h:sr M (.code (cS1 c) :: .blk id::k) env σ nx):sr M (.code c::k) env σ nx:=by cases c<;>first|(injection e with e;subst e;exact aaO h)|cases e
theorem Lt (e:arB c=some id)(h:sx M id k env σ nx):sr M (.code c::k) env σ nx:=by cases c<;>first|(injection e with e;subst e;exact adq h)|cases e
theorem Lu (e:ahp c=true)(h:sr M k env σ nx):sr M (.code c::k) env σ nx:=by cases c<;>first|exact adr h|cases e
theorem LC (e:Ij c=true)(h:M.R env σ):sr M (.code c::k) env σ nx:=by cases c<;>first|exact ahr h|cases e
theorem jr {x:Operand}(e:arC c=some x)(h:F7 (ev env x) (sr M (.code (cS1 c)::k) env σ nx) (sr M (.code (cS2 c)::k) env σ nx)):sr M (.code c::k) env σ nx:=by cases c<;>first|(injection e with e;subst e;exact aha h)|cases e
theorem iI {P:Program}{us:Nat->List (Nat×Nat)}{nt n0:Nat}{R:Env->Sto->Prop}{hm:P.follows .mixedOrders=true}{l:List Oper}{d:Bool}(e:arD c=some (id,l,d))(h:vS P l.toArray nx d (if d=true then us id else []) (sr ⟨P,us,nt,n0,R,hm⟩ k) [] l 0 env σ):sr ⟨P,us,nt,n0,R,hm⟩ (.code c::k) env σ nx:=by
 cases c<;>first|cases e|skip
 exact ahb h
theorem wl {T:Type}(E:T->List (Nat×AV))(S:T->List (Option Obj))(f:T->Prop)(μ:T->Nat)(t0:T)(h0:f t0)(a:View M.n0 env σ (E t0) (S t0))(h:∀t,f t->sr M (.code (cS1 c) :: .mark (λenv σ=>∃u,f u/\μ u<μ t/\View M.n0 env σ (E u) (S u))::k) (jR (E t)) (pX (S t)) (S t).length)(e:Fv c=true:=by rfl):sr M (.code c::k) env σ nx:=by cases c<;>first|exact ads E S f μ t0 h0 a h|cases e
end
structure Hd (p:Prop):Prop where
 out:p
theorem ws {P Q:Prop}(h:Q)(s:Hd Q->P:=by (intro h;simp -implicitDefEqProofs (disch:=omega) only[go_sem,eY,uN,↓reduceIte,iM,Nat.reducePow,Nat.reduceLT,Nat.reduceEqDiff,Nat.reduceAdd,Nat.reduceMul,Nat.reduceSub,Nat.reduceLeDiff,Int.reduceAdd,Int.reduceSub,Int.reduceToNat,Int.reduceLT,Int.reduceLE,Int.reduceNeg,Int.reduceEq,Int.reduceNe,Int.reduceBEq,Int.reduceBNe,mD,reduceCtorEq];exact h.out)):P:=s ⟨h⟩
theorem w0 {P Q:Prop}(h:Q)(s:Hd Q->P:=by (intro h;(repeat first|refine Fz rfl ?_|refine FB rfl ?_|refine Lt rfl ?_|refine LD ?_|refine TD ?_|refine LG rfl ?_|refine LH ?_|refine TE ?_|refine Lu rfl ?_);exact h.out)):P:=s ⟨h⟩
theorem wg {P Q:Prop}(h:Q)(s:Hd Q->P:=by (intro h;refine iI rfl ?_;simp -implicitDefEqProofs (disch:=omega) only[go_sem,eY,uN,↓reduceIte,iM,Nat.reducePow,Nat.reduceLT,Nat.reduceEqDiff,Nat.reduceAdd,Nat.reduceMul,Nat.reduceSub,Nat.reduceLeDiff,Int.reduceAdd,Int.reduceSub,Int.reduceToNat,Int.reduceLT,Int.reduceLE,Int.reduceNeg,Int.reduceEq,Int.reduceNe,Int.reduceBEq,Int.reduceBNe,mD,reduceCtorEq];(repeat first|refine Fz rfl ?_|refine FB rfl ?_|refine Lt rfl ?_|refine LD ?_|refine TD ?_|refine LG rfl ?_|refine LH ?_|refine TE ?_|refine Lu rfl ?_);exact h.out)):P:=s ⟨h⟩
theorem we {P:Prop}(s:P:=by (first|(simp -implicitDefEqProofs (disch:=omega) only[go_sem,eY,uN,↓reduceIte,iM,Nat.reducePow,Nat.reduceLT,Nat.reduceEqDiff,Nat.reduceAdd,Nat.reduceMul,Nat.reduceSub,Nat.reduceLeDiff,Int.reduceAdd,Int.reduceSub,Int.reduceToNat,Int.reduceLT,Int.reduceLE,Int.reduceNeg,Int.reduceEq,Int.reduceNe,Int.reduceBEq,Int.reduceBNe,mD,reduceCtorEq];done)|((try simp -implicitDefEqProofs (disch:=omega) only[go_sem,eY,uN,↓reduceIte,iM,Nat.reducePow,Nat.reduceLT,Nat.reduceEqDiff,Nat.reduceAdd,Nat.reduceMul,Nat.reduceSub,Nat.reduceLeDiff,Int.reduceAdd,Int.reduceSub,Int.reduceToNat,Int.reduceLT,Int.reduceLE,Int.reduceNeg,Int.reduceEq,Int.reduceNe,Int.reduceBEq,Int.reduceBNe,mD,reduceCtorEq]);first|(simp_all;done)|(simp_all;omega)|grind|rfl))):P:=s
theorem wv {P:Prop}(s:P:=by (first|rfl|(simp -implicitDefEqProofs (disch:=omega) only[go_sem,eY,uN,↓reduceIte,iM,Nat.reducePow,Nat.reduceLT,Nat.reduceEqDiff,Nat.reduceAdd,Nat.reduceMul,Nat.reduceSub,Nat.reduceLeDiff,Int.reduceAdd,Int.reduceSub,Int.reduceToNat,Int.reduceLT,Int.reduceLE,Int.reduceNeg,Int.reduceEq,Int.reduceNe,Int.reduceBEq,Int.reduceBNe,mD,reduceCtorEq];done)|(simp -implicitDefEqProofs (disch:=omega) only[go_sem,eY,uN,↓reduceIte,iM,Nat.reducePow,Nat.reduceLT,Nat.reduceEqDiff,Nat.reduceAdd,Nat.reduceMul,Nat.reduceSub,Nat.reduceLeDiff,Int.reduceAdd,Int.reduceSub,Int.reduceToNat,Int.reduceLT,Int.reduceLE,Int.reduceNeg,Int.reduceEq,Int.reduceNe,Int.reduceBEq,Int.reduceBNe,mD,reduceCtorEq];rfl))):P:=s
structure A2 (p q:Prop):Prop where
 l:p
 r:q
theorem wb {P Q:Prop}(h:Q)(s:Hd Q->P:=by (intro h;(try simp -implicitDefEqProofs (disch:=omega) only[go_sem,eY,uN,↓reduceIte,iM,Nat.reducePow,Nat.reduceLT,Nat.reduceEqDiff,Nat.reduceAdd,Nat.reduceMul,Nat.reduceSub,Nat.reduceLeDiff,Int.reduceAdd,Int.reduceSub,Int.reduceToNat,Int.reduceLT,Int.reduceLE,Int.reduceNeg,Int.reduceEq,Int.reduceNe,Int.reduceBEq,Int.reduceBNe,mD,reduceCtorEq]);(repeat' (first|(first|refine Fz rfl ?_|refine FB rfl ?_|refine Lt rfl ?_|refine LD ?_|refine TD ?_|refine LG rfl ?_|refine LH ?_|refine TE ?_|refine Lu rfl ?_)|(refine aaE ?_;(try simp -implicitDefEqProofs only[go_sem]);((first|((refine And.intro ?_ ?_)<;>(first|(revert Wg;intro Wg;intro adt)|(revert Wm;intro Wm;intro Wg)|(revert Wo;intro Wo;intro Wm)|(revert BV;intro BV;intro Wo)|(revert Wr;intro Wr;intro BV)|(revert Wt;intro Wt;intro Wr)|(revert BX;intro BX;intro Wt)|(revert Ww;intro Ww;intro BX)|(revert Wz;intro Wz;intro Ww)|(revert BZ;intro BZ;intro Wz)|(revert WD;intro WD;intro BZ)|(revert WK;intro WK;intro WD)|(revert Xs;intro Xs;intro WK)|(revert XS;intro XS;intro Xs)|(revert Cb;intro Cb;intro XS)|(revert Cc;intro Cc;intro Cb)|(revert Ys;intro Ys;intro Cc)|(revert Z0;intro Z0;intro Ys)|(revert Ce;intro Ce;intro Z0)|(revert Cf;intro Cf;intro Ce)|(revert XU;intro XU;intro Cf)|(revert Z1;intro Z1;intro XU)|(revert VL;intro VL;intro Z1)|(revert Z2;intro Z2;intro VL)|(revert Z3;intro Z3;intro Z2)|(revert Z6;intro Z6;intro Z3)|(revert Zs;intro Zs;intro Z6)|(revert ZD;intro ZD;intro Zs)|(revert ZS;intro ZS;intro ZD)|intro ZS)<;>first|(exfalso;omega)|skip)|(rw[gQ];(refine And.intro ?_ ?_)<;>(first|(revert Wg;intro Wg;intro adt)|(revert Wm;intro Wm;intro Wg)|(revert Wo;intro Wo;intro Wm)|(revert BV;intro BV;intro Wo)|(revert Wr;intro Wr;intro BV)|(revert Wt;intro Wt;intro Wr)|(revert BX;intro BX;intro Wt)|(revert Ww;intro Ww;intro BX)|(revert Wz;intro Wz;intro Ww)|(revert BZ;intro BZ;intro Wz)|(revert WD;intro WD;intro BZ)|(revert WK;intro WK;intro WD)|(revert Xs;intro Xs;intro WK)|(revert XS;intro XS;intro Xs)|(revert Cb;intro Cb;intro XS)|(revert Cc;intro Cc;intro Cb)|(revert Ys;intro Ys;intro Cc)|(revert Z0;intro Z0;intro Ys)|(revert Ce;intro Ce;intro Z0)|(revert Cf;intro Cf;intro Ce)|(revert XU;intro XU;intro Cf)|(revert Z1;intro Z1;intro XU)|(revert VL;intro VL;intro Z1)|(revert Z2;intro Z2;intro VL)|(revert Z3;intro Z3;intro Z2)|(revert Z6;intro Z6;intro Z3)|(revert Zs;intro Zs;intro Z6)|(revert ZD;intro ZD;intro Zs)|(revert ZS;intro ZS;intro ZD)|intro ZS))|skip)<;>simp -implicitDefEqProofs (disch:=omega) only[go_sem,eY,uN,↓reduceIte,iM,Nat.reducePow,Nat.reduceLT,Nat.reduceEqDiff,Nat.reduceAdd,Nat.reduceMul,Nat.reduceSub,Nat.reduceLeDiff,Int.reduceAdd,Int.reduceSub,Int.reduceToNat,Int.reduceLT,Int.reduceLE,Int.reduceNeg,Int.reduceEq,Int.reduceNe,Int.reduceBEq,Int.reduceBNe,mD,reduceCtorEq]))|(first|refine And.intro (Lc (by kernel_rfl)) ?_|refine And.intro (by omega) ?_)|(refine iI rfl ?_;simp -implicitDefEqProofs (disch:=omega) only[go_sem,eY,uN,↓reduceIte,iM,Nat.reducePow,Nat.reduceLT,Nat.reduceEqDiff,Nat.reduceAdd,Nat.reduceMul,Nat.reduceSub,Nat.reduceLeDiff,Int.reduceAdd,Int.reduceSub,Int.reduceToNat,Int.reduceLT,Int.reduceLE,Int.reduceNeg,Int.reduceEq,Int.reduceNe,Int.reduceBEq,Int.reduceBNe,mD,reduceCtorEq])|(refine jr rfl ?_;simp -implicitDefEqProofs (disch:=omega) only[go_sem,eY,uN,↓reduceIte,iM,Nat.reducePow,Nat.reduceLT,Nat.reduceEqDiff,Nat.reduceAdd,Nat.reduceMul,Nat.reduceSub,Nat.reduceLeDiff,Int.reduceAdd,Int.reduceSub,Int.reduceToNat,Int.reduceLT,Int.reduceLE,Int.reduceNeg,Int.reduceEq,Int.reduceNe,Int.reduceBEq,Int.reduceBNe,mD,reduceCtorEq];(first|((refine And.intro ?_ ?_)<;>(first|(revert Wg;intro Wg;intro adt)|(revert Wm;intro Wm;intro Wg)|(revert Wo;intro Wo;intro Wm)|(revert BV;intro BV;intro Wo)|(revert Wr;intro Wr;intro BV)|(revert Wt;intro Wt;intro Wr)|(revert BX;intro BX;intro Wt)|(revert Ww;intro Ww;intro BX)|(revert Wz;intro Wz;intro Ww)|(revert BZ;intro BZ;intro Wz)|(revert WD;intro WD;intro BZ)|(revert WK;intro WK;intro WD)|(revert Xs;intro Xs;intro WK)|(revert XS;intro XS;intro Xs)|(revert Cb;intro Cb;intro XS)|(revert Cc;intro Cc;intro Cb)|(revert Ys;intro Ys;intro Cc)|(revert Z0;intro Z0;intro Ys)|(revert Ce;intro Ce;intro Z0)|(revert Cf;intro Cf;intro Ce)|(revert XU;intro XU;intro Cf)|(revert Z1;intro Z1;intro XU)|(revert VL;intro VL;intro Z1)|(revert Z2;intro Z2;intro VL)|(revert Z3;intro Z3;intro Z2)|(revert Z6;intro Z6;intro Z3)|(revert Zs;intro Zs;intro Z6)|(revert ZD;intro ZD;intro Zs)|(revert ZS;intro ZS;intro ZD)|intro ZS)<;>first|(exfalso;omega)|skip)|(rw[gQ];(refine And.intro ?_ ?_)<;>(first|(revert Wg;intro Wg;intro adt)|(revert Wm;intro Wm;intro Wg)|(revert Wo;intro Wo;intro Wm)|(revert BV;intro BV;intro Wo)|(revert Wr;intro Wr;intro BV)|(revert Wt;intro Wt;intro Wr)|(revert BX;intro BX;intro Wt)|(revert Ww;intro Ww;intro BX)|(revert Wz;intro Wz;intro Ww)|(revert BZ;intro BZ;intro Wz)|(revert WD;intro WD;intro BZ)|(revert WK;intro WK;intro WD)|(revert Xs;intro Xs;intro WK)|(revert XS;intro XS;intro Xs)|(revert Cb;intro Cb;intro XS)|(revert Cc;intro Cc;intro Cb)|(revert Ys;intro Ys;intro Cc)|(revert Z0;intro Z0;intro Ys)|(revert Ce;intro Ce;intro Z0)|(revert Cf;intro Cf;intro Ce)|(revert XU;intro XU;intro Cf)|(revert Z1;intro Z1;intro XU)|(revert VL;intro VL;intro Z1)|(revert Z2;intro Z2;intro VL)|(revert Z3;intro Z3;intro Z2)|(revert Z6;intro Z6;intro Z3)|(revert Zs;intro Zs;intro Z6)|(revert ZD;intro ZD;intro Zs)|(revert ZS;intro ZS;intro ZD)|intro ZS))|skip))));(all_goals ((try revert adt);(try revert Wg);(try revert Wm);(try revert Wo);(try revert BV);(try revert Wr);(try revert Wt);(try revert BX);(try revert Ww);(try revert Wz);(try revert BZ);(try revert WD);(try revert WK);(try revert Xs);(try revert XS);(try revert Cb);(try revert Cc);(try revert Ys);(try revert Z0);(try revert Ce);(try revert Cf);(try revert XU);(try revert Z1);(try revert VL);(try revert Z2);(try revert Z3);(try revert Z6);(try revert Zs);(try revert ZD);(try revert ZS);with_reducible first|exact h.out|exact A2.l h.out|exact A2.r h.out|exact A2.l (A2.r h.out)|exact A2.r (A2.r h.out)|exact A2.l (A2.r (A2.r h.out))|exact A2.r (A2.r (A2.r h.out))|exact A2.l (A2.r (A2.r (A2.r h.out)))|exact A2.r (A2.r (A2.r (A2.r h.out)))|exact A2.l (A2.r (A2.r (A2.r (A2.r h.out))))|exact A2.r (A2.r (A2.r (A2.r (A2.r h.out))))|exact A2.l (A2.r (A2.r (A2.r (A2.r (A2.r h.out)))))|exact A2.r (A2.r (A2.r (A2.r (A2.r (A2.r h.out)))))|exact A2.l (A2.r (A2.r (A2.r (A2.r (A2.r (A2.r h.out))))))|exact A2.r (A2.r (A2.r (A2.r (A2.r (A2.r (A2.r h.out))))))|exact A2.l (A2.r (A2.r (A2.r (A2.r (A2.r (A2.r (A2.r h.out)))))))|exact A2.r (A2.r (A2.r (A2.r (A2.r (A2.r (A2.r (A2.r h.out)))))))|exact A2.l (A2.r (A2.r (A2.r (A2.r (A2.r (A2.r (A2.r (A2.r h.out))))))))|exact A2.r (A2.r (A2.r (A2.r (A2.r (A2.r (A2.r (A2.r (A2.r h.out))))))))|exact A2.l (A2.r (A2.r (A2.r (A2.r (A2.r (A2.r (A2.r (A2.r (A2.r h.out)))))))))|exact A2.r (A2.r (A2.r (A2.r (A2.r (A2.r (A2.r (A2.r (A2.r (A2.r h.out)))))))))|exact A2.l (A2.r (A2.r (A2.r (A2.r (A2.r (A2.r (A2.r (A2.r (A2.r (A2.r h.out))))))))))|exact A2.r (A2.r (A2.r (A2.r (A2.r (A2.r (A2.r (A2.r (A2.r (A2.r (A2.r h.out))))))))))|exact A2.l (A2.r (A2.r (A2.r (A2.r (A2.r (A2.r (A2.r (A2.r (A2.r (A2.r (A2.r h.out)))))))))))|exact A2.r (A2.r (A2.r (A2.r (A2.r (A2.r (A2.r (A2.r (A2.r (A2.r (A2.r (A2.r h.out)))))))))))|exact A2.l (A2.r (A2.r (A2.r (A2.r (A2.r (A2.r (A2.r (A2.r (A2.r (A2.r (A2.r (A2.r h.out))))))))))))|exact A2.r (A2.r (A2.r (A2.r (A2.r (A2.r (A2.r (A2.r (A2.r (A2.r (A2.r (A2.r (A2.r h.out))))))))))))|exact A2.l (A2.r (A2.r (A2.r (A2.r (A2.r (A2.r (A2.r (A2.r (A2.r (A2.r (A2.r (A2.r (A2.r h.out)))))))))))))|exact A2.r (A2.r (A2.r (A2.r (A2.r (A2.r (A2.r (A2.r (A2.r (A2.r (A2.r (A2.r (A2.r (A2.r h.out)))))))))))))|exact A2.l (A2.r (A2.r (A2.r (A2.r (A2.r (A2.r (A2.r (A2.r (A2.r (A2.r (A2.r (A2.r (A2.r (A2.r h.out))))))))))))))|exact A2.r (A2.r (A2.r (A2.r (A2.r (A2.r (A2.r (A2.r (A2.r (A2.r (A2.r (A2.r (A2.r (A2.r (A2.r h.out))))))))))))))|exact A2.l (A2.r (A2.r (A2.r (A2.r (A2.r (A2.r (A2.r (A2.r (A2.r (A2.r (A2.r (A2.r (A2.r (A2.r (A2.r h.out)))))))))))))))|exact A2.r (A2.r (A2.r (A2.r (A2.r (A2.r (A2.r (A2.r (A2.r (A2.r (A2.r (A2.r (A2.r (A2.r (A2.r (A2.r h.out)))))))))))))))|exact A2.l (A2.r (A2.r (A2.r (A2.r (A2.r (A2.r (A2.r (A2.r (A2.r (A2.r (A2.r (A2.r (A2.r (A2.r (A2.r (A2.r h.out))))))))))))))))|exact A2.r (A2.r (A2.r (A2.r (A2.r (A2.r (A2.r (A2.r (A2.r (A2.r (A2.r (A2.r (A2.r (A2.r (A2.r (A2.r (A2.r h.out))))))))))))))))|exact A2.l (A2.r (A2.r (A2.r (A2.r (A2.r (A2.r (A2.r (A2.r (A2.r (A2.r (A2.r (A2.r (A2.r (A2.r (A2.r (A2.r (A2.r h.out)))))))))))))))))|exact A2.r (A2.r (A2.r (A2.r (A2.r (A2.r (A2.r (A2.r (A2.r (A2.r (A2.r (A2.r (A2.r (A2.r (A2.r (A2.r (A2.r (A2.r h.out)))))))))))))))))|exact A2.l (A2.r (A2.r (A2.r (A2.r (A2.r (A2.r (A2.r (A2.r (A2.r (A2.r (A2.r (A2.r (A2.r (A2.r (A2.r (A2.r (A2.r (A2.r h.out))))))))))))))))))|exact A2.r (A2.r (A2.r (A2.r (A2.r (A2.r (A2.r (A2.r (A2.r (A2.r (A2.r (A2.r (A2.r (A2.r (A2.r (A2.r (A2.r (A2.r (A2.r h.out))))))))))))))))))|exact A2.l (A2.r (A2.r (A2.r (A2.r (A2.r (A2.r (A2.r (A2.r (A2.r (A2.r (A2.r (A2.r (A2.r (A2.r (A2.r (A2.r (A2.r (A2.r (A2.r h.out)))))))))))))))))))|exact A2.r (A2.r (A2.r (A2.r (A2.r (A2.r (A2.r (A2.r (A2.r (A2.r (A2.r (A2.r (A2.r (A2.r (A2.r (A2.r (A2.r (A2.r (A2.r (A2.r h.out)))))))))))))))))))|exact A2.l (A2.r (A2.r (A2.r (A2.r (A2.r (A2.r (A2.r (A2.r (A2.r (A2.r (A2.r (A2.r (A2.r (A2.r (A2.r (A2.r (A2.r (A2.r (A2.r (A2.r h.out))))))))))))))))))))|exact A2.r (A2.r (A2.r (A2.r (A2.r (A2.r (A2.r (A2.r (A2.r (A2.r (A2.r (A2.r (A2.r (A2.r (A2.r (A2.r (A2.r (A2.r (A2.r (A2.r (A2.r h.out))))))))))))))))))))|exact A2.l (A2.r (A2.r (A2.r (A2.r (A2.r (A2.r (A2.r (A2.r (A2.r (A2.r (A2.r (A2.r (A2.r (A2.r (A2.r (A2.r (A2.r (A2.r (A2.r (A2.r (A2.r h.out)))))))))))))))))))))|exact A2.r (A2.r (A2.r (A2.r (A2.r (A2.r (A2.r (A2.r (A2.r (A2.r (A2.r (A2.r (A2.r (A2.r (A2.r (A2.r (A2.r (A2.r (A2.r (A2.r (A2.r (A2.r h.out)))))))))))))))))))))|exact A2.l (A2.r (A2.r (A2.r (A2.r (A2.r (A2.r (A2.r (A2.r (A2.r (A2.r (A2.r (A2.r (A2.r (A2.r (A2.r (A2.r (A2.r (A2.r (A2.r (A2.r (A2.r (A2.r h.out))))))))))))))))))))))|exact A2.r (A2.r (A2.r (A2.r (A2.r (A2.r (A2.r (A2.r (A2.r (A2.r (A2.r (A2.r (A2.r (A2.r (A2.r (A2.r (A2.r (A2.r (A2.r (A2.r (A2.r (A2.r (A2.r h.out))))))))))))))))))))))|exact A2.l (A2.r (A2.r (A2.r (A2.r (A2.r (A2.r (A2.r (A2.r (A2.r (A2.r (A2.r (A2.r (A2.r (A2.r (A2.r (A2.r (A2.r (A2.r (A2.r (A2.r (A2.r (A2.r (A2.r h.out)))))))))))))))))))))))|exact A2.r (A2.r (A2.r (A2.r (A2.r (A2.r (A2.r (A2.r (A2.r (A2.r (A2.r (A2.r (A2.r (A2.r (A2.r (A2.r (A2.r (A2.r (A2.r (A2.r (A2.r (A2.r (A2.r (A2.r h.out)))))))))))))))))))))))|exact A2.l (A2.r (A2.r (A2.r (A2.r (A2.r (A2.r (A2.r (A2.r (A2.r (A2.r (A2.r (A2.r (A2.r (A2.r (A2.r (A2.r (A2.r (A2.r (A2.r (A2.r (A2.r (A2.r (A2.r (A2.r h.out))))))))))))))))))))))))|exact A2.r (A2.r (A2.r (A2.r (A2.r (A2.r (A2.r (A2.r (A2.r (A2.r (A2.r (A2.r (A2.r (A2.r (A2.r (A2.r (A2.r (A2.r (A2.r (A2.r (A2.r (A2.r (A2.r (A2.r (A2.r h.out))))))))))))))))))))))))|exact A2.l (A2.r (A2.r (A2.r (A2.r (A2.r (A2.r (A2.r (A2.r (A2.r (A2.r (A2.r (A2.r (A2.r (A2.r (A2.r (A2.r (A2.r (A2.r (A2.r (A2.r (A2.r (A2.r (A2.r (A2.r (A2.r h.out)))))))))))))))))))))))))|exact A2.r (A2.r (A2.r (A2.r (A2.r (A2.r (A2.r (A2.r (A2.r (A2.r (A2.r (A2.r (A2.r (A2.r (A2.r (A2.r (A2.r (A2.r (A2.r (A2.r (A2.r (A2.r (A2.r (A2.r (A2.r (A2.r h.out))))))))))))))))))))))))))))):P:=s ⟨h⟩
section
variable {P : Program} {dr : Bool} {f : FuncId} {nx i n0 nt : Nat} {fD : List (Option AV)} {env : Env} {σ : Sto} {K : AV -> List (Nat × Option Obj) -> Key -> Prop} {vs : List AV} {pre : List Obj} {post : AV -> List (Option Obj) -> Prop} {rs : List ResultVar} {us : Nat -> List (Nat × Nat)} {R : Env -> Sto -> Prop} {hm : P.follows .mixedOrders = true} {k : List It} {c : Code}
theorem wE {r:AV}(hf:FnEq P f vs r)(h:K r [] Zp)(a:fD=vs.map some:=by exact wv)(hr:r.lb 0=true:=by rfl):mJ P dr f nx i fD σ K:=ade hf a hr h
theorem wF {Q:AV->Prop}(hf:kS P f vs Q)(h:∀r,Q r->K r [] Zp)(a:fD=vs.map some:=by exact wv):mJ P false f nx i fD σ K:=Ko hf a (λh=>by cases h) (λr _ d=>h r d)
theorem wG {Q:AV->Prop}(hf:kS P f vs Q)(w:AV)(hw:Q w)(h:∀r,Q r->K r [] Zp)(a:fD=vs.map some:=by exact wv)(d:w.lb 0=true:=by rfl):mJ P true f nx i fD σ K:=Ko hf a (λ_=>⟨w,d,hw⟩) (λr _ q=>h r q)
theorem wq (hc:ACall P f vs pre post)(ls:List Nat)(h:∀r g,post r g->K (r.ren (rho ls (nx+8*i))) (renG (rho ls (nx+8*i)) g) ⟨[],ls,false,true,true⟩)(hg:isGo P f=true:=by kernel_rfl)(hb:cB nx i ls pre.length=true:=by kernel_rfl)(a:fD=(AV.renL (rho ls (nx+8*i)) vs).map some:=by exact wv)(ha:AV.lbL pre.length vs=true:=by exact wv)(d:pre.all (Obj.lb pre.length)=true:=by exact wv)(ho:cO σ (rho ls (nx+8*i)) ls pre:=by exact wv):mJ P false f nx i fD σ K:=UU hc ls hg hb a ha d ho (λh=>by cases h) h
theorem wQ (hc:ACall P f vs pre post)(ls:List Nat){r0:AV}{a:List (Option Obj)}(w:post r0 a)(h:∀r g,post r g->K (r.ren (rho ls (nx+8*i))) (renG (rho ls (nx+8*i)) g) ⟨[],ls,false,true,true⟩)(q:pre.length<=a.length:=by exact BD rfl)(d:a.length<=pre.length+8:=by exact BD rfl)(hg:isGo P f=true:=by kernel_rfl)(hb:cB nx i ls pre.length=true:=by kernel_rfl)(u:fD=(AV.renL (rho ls (nx+8*i)) vs).map some:=by exact wv)(ha:AV.lbL pre.length vs=true:=by exact wv)(y:pre.all (Obj.lb pre.length)=true:=by exact wv)(ho:cO σ (rho ls (nx+8*i)) ls pre:=by exact wv):mJ P true f nx i fD σ K:=UU hc ls hg hb u ha y ho (λ_=>⟨r0,a,w,q,d⟩) h
theorem vm {E:List (Nat×AV)}{S:List (Option Obj)}(ls:List Nat)(fl:List (Nat×Option (List CT)):=[])(hb:vwB n0 ls S (fl.map (·.1))=true:=by kernel_rfl)(hf:vF σ fl:=by ((try clear hR);exact we))(hE:vE (sH σ fl) S.length (lG ls) env E:=by ((try clear hR);exact we))(hO:vO (sH σ fl) S.length (fl.map (·.1)) (lG ls) σ S 0:=by ((try clear hR);exact we)):View n0 env σ E S:=U7 ls fl hb hf hE hO
theorem wo (hR:∀env σ,mr P n0 rs post env σ->R env σ)(r:AV)(g:List (Option Obj))(ls:List Nat)(fl:List (Nat×Option (List CT)))(hp:post r g)(hb:vwB n0 ls g (fl.map (·.1))=true:=by kernel_rfl)(hl:g.length<=n0+8:=by exact BD rfl)(hf:vF σ fl:=by ((try clear hR);exact we))(hE:rA P env σ rs [] (λv=>r.lb g.length=true/\wk (sH σ fl) v (r.ren (lG ls))):=by ((try clear hR);exact we))(hO:vO (sH σ fl) g.length (fl.map (·.1)) (lG ls) σ g 0:=by ((try clear hR);exact we))(hc:Ij c=true:=by rfl):sr ⟨P,us,nt,n0,R,hm⟩ (.code c::k) env σ nx:=LC hc (hR _ _ (KY r g ls fl hb hl hp hf (OZ hE) hO))
theorem wr {r:AV}(hR:∀env σ,mr P 0 rs (λv g=>g=[]/\v.lb 0=true/\v=r) env σ->R env σ)(fl:List (Nat×Option (List CT)):=[])(hb:KH (fl.map (·.1))=true:=by kernel_rfl)(h0:r.lb 0=true:=by rfl)(hf:vF σ fl:=by ((try clear hR);exact we))(hE:rA P env σ rs [] (λv=>wk (sH σ fl) v r):=by ((try clear hR);exact we))(hc:Ij c=true:=by rfl):sr ⟨P,us,nt,0,R,hm⟩ (.code c::k) env σ nx:=LC hc (hR _ _ (ag9 fl hb h0 hf (OZ hE)))
theorem wt {Q:AV->Prop}(hR:∀env σ,mr P 0 rs (λv g=>g=[]/\v.lb 0=true/\Q v) env σ->R env σ)(r:AV)(fl:List (Nat×Option (List CT)))(hq:Q r)(hb:KH (fl.map (·.1))=true:=by kernel_rfl)(h0:r.lb 0=true:=by rfl)(hf:vF σ fl:=by ((try clear hR);exact we))(hE:rA P env σ rs [] (λv=>wk (sH σ fl) v r):=by ((try clear hR);exact we))(hc:Ij c=true:=by rfl):sr ⟨P,us,nt,0,R,hm⟩ (.code c::k) env σ nx:=LC hc (hR _ _ (aaB r fl hb h0 hq hf (OZ hE)))
theorem wf {fn:Func}{Q:AV->Prop}(g:P.funcs[f]?=some fn)(us:Nat->List (Nat×Nat))(hm:P.follows .mixedOrders=true:=by kernel_rfl)(hi:isGo P f=true:=by kernel_rfl)(a:AV.lbL 0 vs=true:=by exact wv)(hb:fn.body.isSome=true:=by rfl)(ha:vs.length<=fn.ntmps:=by exact BD rfl)(hc:ry fn.ntmps us (fn.body.getD .skip)=true:=by kernel_rfl)(hr:fn.results=rs.toArray:=by rfl)(h:∀R:Env->Sto->Prop,(∀env σ,mr P 0 rs (λr g=>g=[]/\r.lb 0=true/\Q r) env σ->R env σ)->sr ⟨P,us,fn.ntmps,0,R,hm⟩ [.code (fn.body.getD .skip)] (jR (zT vs)) (pX []) 0):kS P f vs Q:=⟨hi,a,by
 cases hb':fn.body with
 |none=>rw [hb'] at hb;cases hb
 |some b=>rw [hb'] at h hc;rw[show rs=fn.results.toList by rw[hr]] at h;exact aai (us:=us) hm g hb' ha hc h⟩
theorem wz {fn:Func}(g:P.funcs[f]?=some fn)(us:Nat->List (Nat×Nat))(hm:P.follows .mixedOrders=true:=by kernel_rfl)(hb:fn.body.isSome=true:=by rfl)(ha:vs.length<=fn.ntmps:=by exact BD rfl)(hc:ry fn.ntmps us (fn.body.getD .skip)=true:=by kernel_rfl)(hr:fn.results=rs.toArray:=by rfl)(h:∀R:Env->Sto->Prop,(∀env σ,mr P pre.length rs post env σ->R env σ)->sr ⟨P,us,fn.ntmps,pre.length,R,hm⟩ [.code (fn.body.getD .skip)] (jR (zT vs)) (pX (pre.map some)) pre.length):ACall P f vs pre post:=by
 cases hb':fn.body with
 |none=>rw [hb'] at hb;cases hb
 |some b=>rw [hb'] at h hc;rw[show rs=fn.results.toList by rw[hr]] at h;exact aai (us:=us) hm g hb' ha hc h
def rep (b:Code)(k:List It):Nat->List It
 |0=> .mark (λ_ _=>False)::k
 |n+1=> .code b::rep b k n
theorem U8 {M:Mc}{fr:Fr}{b:Code}{k:List It}{e:Exit}{a:Act}{w:World}(he:e≠ .normal):∀n,Ct M fr (rep b k n) e a w->Ct M fr k e a w
 |0,h=>by cases e<;>first|exact absurd rfl he|exact h
 |n+1,h=>U8 he n (by cases e<;>first|exact absurd rfl he|exact h)
theorem aaP {M:Mc}{fr:Fr}{b:Code}{k:List It} :∀(n:Nat) (a:Act) (w:World),Ct M fr (rep b k n) .normal a w->Code.rounds M.P b (Ct M fr k) n a w
 |0,a,w,h=>by obtain⟨_,_,_,_,_,_,_,h⟩:=h;exact h
 |n+1,a,w,h=>xH (show b.wp M.P (Ct M fr (rep b k n)) a w from h) (λe a w d=>by cases e<;>first|exact aaP n a w d|exact U8 (λh=>by cases h) n d)
theorem U9 {M:Mc}{b:Code}{k:List It}(h:ry M.nt M.us b=true)(h2:uC M k=true):∀n,uC M (rep b k n)=true
 |0=>h2
 |n+1=>by simp only[rep,uC,dH];exact⟨h,U9 h h2 n⟩
theorem Xh {M:Mc}{k:List It}{env:Env}{σ:Sto}{nx:Nat}{b:Code}(n:Nat)(h:sr M (rep b k n) env σ nx):sr M (.code (.loop b)::k) env σ nx:=by unfold sr at h|-;intro hc fr Ψ loc a w hn hr hf;obtain⟨c1,c2⟩:=jS hc;exact wp_loop_rounds n (aaP n a w (h (U9 (by simpa [ry] using c1) c2 n) fr Ψ loc a w hn hr hf))
theorem wn {M:Mc}{k:List It}{env:Env}{σ:Sto}{nx:Nat}{c:Code}(n:Nat)(h:sr M (rep (cS1 c) k n) env σ nx)(e:Fv c=true:=by rfl):sr M (.code c::k) env σ nx:=by cases c<;>first|exact Xh n h|cases e
theorem w1 {M:Mc}{k:List It}{env:Env}{σ:Sto}{nx:Nat}{c:Code}(h:sr M (.code (cS1 c) :: .mark (λ_ _=>False)::k) env σ nx)(e:Fv c=true:=by rfl):sr M (.code c::k) env σ nx:=wn 1 h e
theorem w2 {M:Mc}{k:List It}{env:Env}{σ:Sto}{nx:Nat}{c:Code}(h:sr M (.code (cS1 c) :: .code (cS1 c) :: .mark (λ_ _=>False)::k) env σ nx)(e:Fv c=true:=by rfl):sr M (.code c::k) env σ nx:=wn 2 h e
theorem w3 {M:Mc}{k:List It}{env:Env}{σ:Sto}{nx:Nat}{c:Code}(h:sr M (.code (cS1 c) :: .code (cS1 c) :: .code (cS1 c) :: .mark (λ_ _=>False)::k) env σ nx)(e:Fv c=true:=by rfl):sr M (.code c::k) env σ nx:=wn 3 h e
end
end AM
namespace AM
open Go Go.Proofs
theorem afd (i n:Int):FnEq Tryz.prog 97 [.pv (ah i),.pv (ah n)] (.pv (boolP (decide (0<=i) && decide (i<n)))):=by refine wf Tryz.func97 (λ_=> []) (h:=λR a=>?_);refine wb (A2.mk ?_ ?_)<;>intros;all_goals exact wr a
theorem Eu (i n:Int):FnEq Tryz.prog 160 [.pv (ah i),.pv (ah n)] (.pv (boolP (decide (0<=i) && decide (i<n)))):=by refine wf Tryz.func160 (λ_=> []) (h:=λR a=>?_);refine wb (A2.mk ?_ ?_)<;>intros;all_goals exact wr a
theorem mQ (a b:Int):FnEq Tryz.prog 168 [.pv (ah a),.pv (ah b)] (.pv (ah (if a=0 then b else a))):=by refine wf Tryz.func168 (λ_=> []) (h:=λR d=>?_);refine wb (A2.mk ?_ ?_)<;>intros;all_goals exact wr d
theorem fJ (a:Bool):FnEq Tryz.prog 171 [.pv (boolP a)] (.pv (ah (if a=true then 7 else 0))):=by refine wf Tryz.func171 (λ_=> []) (h:=λR d=>?_);refine wb (A2.mk ?_ ?_)<;>intros;all_goals exact wr d
theorem IC (a:Int):FnEq Tryz.prog 126 [.pv (ah a)] (.pv (boolP (decide (1<=a) && decide (a<=5)))):=by refine wf Tryz.func126 (λ_=> []) (h:=λR d=>?_);refine wb (A2.mk ?_ ?_)<;>intros;all_goals exact wr d
theorem Ov (a:Int)(h: -9223372036854775808<=a/\a<=9223372036854775807):FnEq Tryz.prog 164 [.pv (ah a)] (.pv (ah (if a<1\/100<a then 0 else a))):=by refine wf Tryz.func164 (λ_=> []) (h:=λR d=>?_);refine wb (A2.mk ?_ (A2.mk ?_ ?_))<;>intros;all_goals exact wr d
set_option maxRecDepth 20000
set_option maxHeartbeats 8000000
def i64 (n:Int):Prop:=IntKind.i64.wrap n=n
theorem aiX (n:Int):IntKind.i64.wrap (IntKind.i64.wrap n)=IntKind.i64.wrap n:=by simp only[dM];omega
def VB (r:AV):Prop:=∃y,i64 y/\r= .tup [.pv (ah y),.pv (boolP true)]
theorem Uu (n:Int):VB (.tup [.pv (ah (IntKind.i64.wrap n)),.pv (boolP true)]):=⟨_,aiX n,rfl⟩
theorem XX {n:Int}(h:i64 n):VB (.tup [.pv (ah n),.pv (boolP true)]):=⟨_,h,rfl⟩
theorem dQ {n:Int} :i64 n ↔ -9223372036854775808<=n/\n<9223372036854775808:=by unfold i64;rw[dM];omega
theorem rH:i64 0:=dQ.2 (by decide)
theorem aiY:i64 1:=dQ.2 (by decide)
theorem MZ {x y:Int}(hx:i64 x):i64 (x.tmod y):=by rw[dQ] at hx|-;have h1:(x.tmod y).natAbs=x.natAbs%y.natAbs:=Int.natAbs_tmod x y;have h2:x.natAbs%y.natAbs<=x.natAbs:=Nat.mod_le _ _;by_cases h:0<=x;have:=Int.tmod_nonneg y h;omega;have h3:(-x).tmod y= -(x.tmod y):=Int.neg_tmod x y;have:=Int.tmod_nonneg y (show 0<= -x by omega);omega
theorem mV (a:Bool):kS Tryz.prog 175 [.pv (boolP a)] (λr=>∃y,i64 y/\r= .pv (ah y)):=by refine wf Tryz.func175 (λ_=> []) (h:=λR d=>?_);refine wb (A2.mk ?_ ?_)<;>intros;exact wt d (.pv (ah 1)) [] ⟨_,aiY,rfl⟩;exact wt d (.pv (ah 0)) [] ⟨_,rH,rfl⟩
theorem Ql (op x y:Int)(hx:i64 x)(q:i64 y)(ho:6<=op/\op<=18):kS Tryz.prog 165 [.pv (ah op),.pv (ah x),.pv (ah y)] VB:=by
 refine wf Tryz.func165 (λ_=> []) (h:=λR a=>?_);refine wb (A2.mk ?_ (A2.mk ?_ (A2.mk ?_ (A2.mk ?_ (A2.mk ?_ (A2.mk ?_ (A2.mk ?_ (A2.mk ?_ (A2.mk ?_ (A2.mk ?_ (A2.mk ?_ (A2.mk ?_ (A2.mk ?_ (A2.mk ?_ (A2.mk ?_ (A2.mk ?_ ?_))))))))))))))))<;>intros;all_goals try (exfalso;omega)
 all_goals first
  |exact wt a (.tup [.pv (ah 0),.pv (boolP true)]) [] (XX rH)
  |exact wt a (.tup [.pv (ah (IntKind.i64.wrap (x+y))),.pv (boolP true)]) [] (Uu _)
  |exact wt a (.tup [.pv (ah (IntKind.i64.wrap (x-y))),.pv (boolP true)]) [] (Uu _)
  |exact wt a (.tup [.pv (ah (IntKind.i64.wrap (x*y))),.pv (boolP true)]) [] (Uu _)
  |exact wt a (.tup [.pv (ah (IntKind.i64.wrap (x.tdiv y))),.pv (boolP true)]) [] (Uu _)
  |exact wt a (.tup [.pv (ah (x.tmod y)),.pv (boolP true)]) [] (XX (MZ hx))
  |skip
 all_goals first
  |refine wF (mV (x==y)) ?_
  |refine wF (mV (x !=y)) ?_
  |refine wF (mV (decide (x<y))) ?_
  |refine wF (mV (decide (x<=y))) ?_
  |refine wF (mV (decide (y<x))) ?_
  |refine wF (mV (decide (y<=x))) ?_
  |refine wF (mV (y !=0)) ?_
  |refine wF (mV false) ?_
  |refine wF (mV true) ?_
 all_goals
  rintro r ⟨z,d,rfl⟩;refine wb ?_<;>intros;exact wt a (.tup [.pv (ah z),.pv (boolP true)]) [] (XX d)
theorem Hg (x n:Int)(hx:i64 x)(hn:i64 n):kS Tryz.prog 159 [.pv (ah x),.pv (ah n)] (λr=>∃y,i64 y/\r= .pv (ah y)/\(1<=n->0<=y/\y<n)):=by refine wf Tryz.func159 (λ_=> []) (h:=λR a=>?_);refine wb (A2.mk ?_ (A2.mk ?_ ?_))<;>intros;exact wt a (.pv (ah 0)) [] ⟨0,rH,rfl,λh=>by omega⟩;have h1:=Int.lt_tmod_of_pos x (show 0<n by omega);have h2:=dQ.1 hn;have h3:IntKind.i64.wrap (x.tmod n+n)=x.tmod n+n:=dQ.2 (by omega);exact wt a (.pv (ah (IntKind.i64.wrap (x.tmod n+n)))) [] ⟨_,aiX _,rfl,λ_=>by rw[h3];omega⟩;have h1:=Int.tmod_lt_of_pos x (show 0<n by omega);exact wt a (.pv (ah (x.tmod n))) [] ⟨_,MZ hx,rfl,λ_=>by omega⟩
set_option maxRecDepth 20000
set_option maxHeartbeats 8000000
def XJ:List Int:=[3,3,4,4,5,6,7,8,9,10,11,12,13,14,15,16,18,19,20,21,22,23,2]
def kdF (op:Int):Int:=if op<6\/28<op then 0 else XJ.getD (op-6).toNat 0
theorem Vw (op:Int):0<=kdF op/\kdF op<=23:=by
 unfold kdF;split;decide
 . rw[qi]
   cases h:XJ[(op-6).toNat]? with
   |none=>decide
   |
    some k=>
    have:∀k∈XJ,0<=k/\k<=23:=(by decide);exact this k (gU h)
@[go_sem] def iP (k:Int):List PV:=[ah k]
theorem abL (op:Int)(h:i64 op):FnEq Tryz.prog 128 [.pv (ah op)] (.pv (ah (kdF op))):=by
 refine wf Tryz.func128 (λ_=> []) (h:=λR a=>?_);have h2:=dQ.1 h;refine wb (A2.mk ?_ (A2.mk ?_ ?_))<;>intros;have e:kdF op=0:=if_pos (.inl (by assumption));rw[e] at a;exact wr a;have e:kdF op=0:=if_pos (.inr (by assumption));rw[e] at a;exact wr a
 . have hk:(op-6).toNat<XJ.length:=(by show _<23;omega);have e:kdF op=XJ[(op-6).toNat]:=by
    unfold kdF;rw[if_neg (by omega),qi,aX hk];rfl
   refine aJ (l:=XJ) (f:=iP) (x:=XJ[(op-6).toNat]) (by omega) (aX hk) rfl ?_;rw[<-e];refine wb ?_<;>intros;exact wr a
abbrev Ux (xs:List UInt8):PV:= .sl (xs.map λx=> [.sc (.int .u8 x.toNat)])
@[go_sem] def AO (xs:List UInt8)(k:Nat):Obj:= .box [.pv (Ux xs),.pv (ah k)]
def MO (xs:List UInt8)(k n:Nat):Nat:=if k<xs.length then (xs.getD k 0).toNat%n else 0
theorem iw (xs:List UInt8)(k n:Nat)(hx:xs.length<=1000)(hk:k<=xs.length)(hn:0<n)(q:n<=1000):ACall Tryz.prog 74 [.ptr 0 0,.pv (ah n)] [AO xs k] (λv g=>v= .pv (ah (MO xs k n))/\∃d:Nat,d<=xs.length/\g=[some (AO xs d)]):=by refine aai (us:=λ_=> [(3,7)]) (by kernel_rfl) Tryz.func74 rfl (BD rfl) (by kernel_rfl) (λR a=>?_);simp only[Tryz.f74,AO] at a|-;refine wb (A2.mk ?_ ?_)<;>intros;refine wo a (.pv (ah 0)) [some (AO xs k)] [0] [] ?_;exact⟨by simp only[MO];rw[if_neg (by omega)];rfl,k,hk,rfl⟩;have h2:k<xs.length:=(by omega);have h3:=xs[k].toNat_lt;refine aJ (x:=xs[k]) (by omega) (by rw[show ((k:Int)+1-1).toNat=k by omega];simp[h2]) rfl ?_;have h4:MO xs k n=xs[k].toNat%n:=(by simp[MO,h2]);refine wb ?_<;>intros;refine wo a (.pv (ah (MO xs k n))) [some (AO xs (k+1))] [0] [] ?_;exact⟨rfl,k+1,h2,rfl⟩
set_option maxRecDepth 20000
structure ER where
 op:Int
 n:Int
 s:ByteArray
 l:List (List PV)
@[go_sem] def ER.r (e:ER):List PV:=[ah e.op,ah e.n,dJ e.s,.sl e.l]
abbrev bE:ByteArray:=⟨#[]⟩
theorem DU (n:Int):FnEq Tryz.prog 77 [.pv (ah n)] (rw_ (ER.r ⟨1,n,bE,[]⟩)):=by refine wf Tryz.func77 (λ_=> []) (h:=λR a=>?_);refine wb ?_<;>intros;all_goals exact wr a
theorem x9 (n:ByteArray):FnEq Tryz.prog 150 [.pv (dJ n)] (rw_ (ER.r ⟨2,0,n,[]⟩)):=by refine wf Tryz.func150 (λ_=> []) (h:=λR a=>?_);refine wb ?_<;>intros;all_goals exact wr a
theorem zh (op:Int)(a b:ER):FnEq Tryz.prog 149 [.pv (ah op),rw_ a.r,rw_ b.r] (rw_ (ER.r ⟨op,0,bE,[a.r,b.r]⟩)):=by refine wf Tryz.func149 (λ_=> []) (h:=λR d=>?_);refine wb ?_<;>intros;all_goals exact wr d
structure MS where
 th:Int
 left:Int
 set:Bool
 tx:Bool
 atomic:Bool
 loop:Bool
 held:List ByteArray
@[go_sem] def MS.os (m:MS)(xs:List UInt8)(k:Nat):List Obj:=[.box [.ptr 1 0,.pv (ah m.th),.pv (ah m.left),.pv (boolP m.set),.pv (boolP m.tx),.pv (boolP m.atomic),.pv (boolP m.loop),.own 2 m.held.length],AO xs k,.row 9 1 (m.held.map λs=> [dJ s])]
def names7:List ByteArray:=[⟨#[97]⟩,⟨#[98]⟩,⟨#[120]⟩,⟨#[121]⟩,⟨#[118]⟩,⟨#[120]⟩,⟨#[121]⟩]
theorem mF (xs:List UInt8)(k:Nat){n:Nat}(h:0<n):MO xs k n<n:=by unfold MO;split;exact tq _ h;exact h
@[go_sem] def MS.og (m:MS)(xs:List UInt8)(k:Nat):List (Option Obj):=[some (.box [.ptr 1 0,.pv (ah m.th),.pv (ah m.left),.pv (boolP m.set),.pv (boolP m.tx),.pv (boolP m.atomic),.pv (boolP m.loop),.own 3 m.held.length]),some (AO xs k),none,some (.row 9 1 (m.held.map λs=> [dJ s]))]
inductive LfR:ER->Prop
 |num {n:Nat} (h:n<4):LfR ⟨1,n,bE,[]⟩
 |var {s:ByteArray} (h:s∈ [(⟨#[97]⟩:ByteArray),⟨#[98]⟩,⟨#[120]⟩,⟨#[121]⟩,⟨#[118]⟩]):LfR ⟨2,0,s,[]⟩
inductive ExR:ER->Prop
 |leaf {e:ER} (h:LfR e):ExR e
 |idx {e:ER} (h:LfR e):ExR ⟨3,0,⟨#[113]⟩,[e.r]⟩
 |bin {op:Int} {a b:ER} (ho:op∈ [(6:Int),7,8,11,13,17]) (ha:LfR a) (hb:LfR b):ExR ⟨op,0,bE,[a.r,b.r]⟩
theorem yc (xs:List UInt8)(k:Nat)(m:MS)(hx:xs.length<=1000)(hk:k<=xs.length):ACall Tryz.prog 148 [.ptr 0 0,.pv (ah 0)] (m.os xs k) (λv g=>∃(e:ER) (a:Nat),LfR e/\a<=xs.length/\v=rw_ e.r/\g=(m.os xs a).map some):=by
 refine wz Tryz.func148 (λ_=> [(8,13),(9,13),(8,17),(9,17)]) (h:=λR y=>?_);refine wb ?_<;>intros;refine wq (iw xs k 10 hx hk (by decide) (by decide)) [1] ?_;rintro r g ⟨rfl,a,q,rfl⟩;refine wb (A2.mk ?_ (A2.mk ?_ ?_))<;>intros
 any_goals
  refine wq (iw xs a 4 hx q (by decide) (by decide)) [1] ?_;rintro r g ⟨rfl,u,d,rfl⟩;refine ws ?_;refine wE (DU _) ?_;refine wb ?_<;>intros;refine wo y (rw_ (ER.r ⟨1,MO xs a 4,bE,[]⟩)) ((m.os xs u).map some) [0,1,2] [] ?_;exact⟨_,_,.num (mF xs a (by decide)),d,rfl,rfl⟩
 refine wq (iw xs a 7 hx q (by decide) (by decide)) [1] ?_;rintro r g ⟨rfl,u,d,rfl⟩;refine ws ?_;refine jJ names7 (λs=> [dJ s]) (mF xs a (by decide)) (λs hs=>?_);refine ws ?_;refine wE (x9 _) ?_;refine wb ?_<;>intros;refine wo y (rw_ (ER.r ⟨2,0,s,[]⟩)) ((m.os xs u).map some) [0,1,2] [] ?_;exact⟨_,_,.var (by simp[names7] at hs|-;grind),d,rfl,rfl⟩
def ops6:List Int:=[6,7,8,11,13,17]
theorem qo (xs:List UInt8)(k:Nat)(m:MS)(hx:xs.length<=1000)(hk:k<=xs.length):ACall Tryz.prog 148 [.ptr 0 0,.pv (ah 1)] (m.os xs k) (λv g=>∃(e:ER) (d:Nat),ExR e/\d<=xs.length/\v=rw_ e.r/\g=(m.os xs d).map some):=by refine wz Tryz.func148 (λ_=> [(8,13),(9,13),(8,17),(9,17)]) (h:=λR y=>?_);refine wb ?_<;>intros;refine wq (iw xs k 10 hx hk (by decide) (by decide)) [1] ?_;rintro r g ⟨rfl,d,q,rfl⟩;refine wb (A2.mk ?_ (A2.mk ?_ (A2.mk ?_ ?_)))<;>intros;refine wq (iw xs d 4 hx q (by decide) (by decide)) [1] ?_;rintro r g ⟨rfl,u,a,rfl⟩;refine ws ?_;refine wE (DU _) ?_;refine wb ?_<;>intros;refine wo y (rw_ (ER.r ⟨1,MO xs d 4,bE,[]⟩)) ((m.os xs u).map some) [0,1,2] [] ?_;exact⟨_,_,.leaf (.num (mF xs d (by decide))),a,rfl,rfl⟩;refine wq (iw xs d 7 hx q (by decide) (by decide)) [1] ?_;rintro r g ⟨rfl,u,a,rfl⟩;refine ws ?_;refine jJ names7 (λs=> [dJ s]) (mF xs d (by decide)) (λs hs=>?_);refine ws ?_;refine wE (x9 _) ?_;refine wb ?_<;>intros;refine wo y (rw_ (ER.r ⟨2,0,s,[]⟩)) ((m.os xs u).map some) [0,1,2] [] ?_;exact⟨_,_,.leaf (.var (by simp[names7] at hs|-;grind)),a,rfl,rfl⟩;refine wq (yc xs d m hx q) [0,1,2] ?_;rintro r g ⟨e,u,he,a,rfl,rfl⟩;refine wb ?_<;>intros;refine wo y (rw_ (ER.r ⟨3,0,⟨#[113]⟩,[e.r]⟩)) ((m.os xs u).map some) [0,1,2] [] ?_;exact⟨_,_,.idx he,a,rfl,rfl⟩;refine wQ (iw xs d 6 hx q (by decide) (by decide)) [1] ⟨rfl,k,hk,rfl⟩ ?_;rintro r g ⟨rfl,u,a,rfl⟩;refine wb ?_<;>intros;refine jJ ops6 (λn=> [ah n]) (mF xs d (by decide)) (λop ho=>?_);refine ws ?_;refine wQ (yc xs u m hx a) [0,1,2] ⟨⟨1,(0:Nat),bE,[]⟩,k,.num (by decide),hk,rfl,rfl⟩ ?_;rintro r g ⟨e,H,he,B,rfl,rfl⟩;refine wb ?_<;>intros;refine wQ (yc xs H m hx B) [0,1,2] ⟨⟨1,(0:Nat),bE,[]⟩,k,.num (by decide),hk,rfl,rfl⟩ ?_;rintro r g ⟨G,I,D,E,rfl,rfl⟩;refine wb ?_<;>intros;refine wE (zh op e G) ?_;refine wb ?_<;>intros;refine wo y (rw_ (ER.r ⟨op,0,bE,[e.r,G.r]⟩)) ((m.os xs I).map some) [0,1,2] [] ?_;exact⟨_,_,.bin ho he D,E,rfl,rfl⟩
set_option maxRecDepth 20000
set_option maxHeartbeats 8000000
def Asc (b:Nat)(l:List Nat):Prop:=l.Pairwise (· < ·)/\∀n∈l,n<b
@[go_sem] def nP (n:Nat):List PV:=[ah n]
abbrev nL (l:List Nat):List (List PV):=l.map nP
theorem Asc.len {b:Nat}{l:List Nat}(h:Asc b l):l.length<=b:=by
 have:∀(l:List Nat) (m:Nat),l.Pairwise (· < ·)->(∀n∈l,m<=n/\n<b)->l.length<=b-m:=by
  intro l;induction l with
  |nil=>intro m _ _;exact ay _
  |
   cons x r ih=>
   intro m h1 h2;have h3:=JU.1 h1;have h4:=h2 x (by simp);have:=ih (x+1) h3.2 (λn hn=>⟨h3.1 n hn,(h2 n (by simp[hn])).2⟩);simp only[iR];omega
 exact this l 0 h.1 (λn hn=>⟨ay _,h.2 n hn⟩)
theorem Asc.weak {b a:Nat}{l:List Nat}(h:Asc b l)(hb:b<=a):Asc a l:=⟨h.1,λn hn=>oM (h.2 n hn) hb⟩
theorem sQ {b:Nat}{l:List Nat}(h:Asc b l):(CT.asc b).ok (.sl (nL l)):=⟨l,rfl,h.1,h.2⟩
theorem Vr {b:Nat}{l:List Nat}{n k:Nat}(h:Asc b l)(hn:n<b)(hk:k<=l.length)(h1:∀x∈l.take k,x<n)(h2:∀x∈l.drop k,n<x):Asc b (l.take k++[n]++l.drop k):=by have d:=h.1;rw[<-ES k l,Ep] at d;refine⟨?_,?_⟩;rw[fM,Ep];refine⟨d.1,JU.2 ⟨h2,d.2.1⟩,λa ha b hb=>?_⟩;rcases fV.1 hb with rfl|hb;exact h1 a ha;exact d.2.2 a ha b hb;intro x hx;simp only[ja,lM] at hx;rcases hx with (hx|rfl)|hx;exact h.2 x (Ls hx);exact hn;exact h.2 x (aaL hx)
theorem adU {α β:Type}(f:α->β)(l:List α)(k:Nat):(l.map f).take k=(l.take k).map f:=kU.symm
theorem adV {α β:Type}(f:α->β)(l:List α)(k:Nat):(l.map f).drop k=(l.drop k).map f:=oL.symm
attribute [local go_sem] adU adV List.take_length
theorem Jg (b:Nat)(hb:b<=400)(l:List Nat)(d:Asc b l)(n:Int):kS Tryz.prog 135 [.pv (.sl (nL l)),.pv (ah n)] (λr=>∃z,r= .pv (boolP z)/\(z=true->∃m∈l,(m:Int)=n)):=by have h4:l.length<=400:=aG d.len hb;refine wf Tryz.func135 (λ_=> []) (h:=λR a=>?_);refine wb ?_<;>intros;refine wl (λk:Nat=> [(0,.pv (.sl (nL l))),(1,.pv (ah n)),(5,.pv (ah k))]) (λ_=> []) (λk=>k<=l.length) (λk=>l.length-k) 0 (ay _) (vm []) (λk hk=>?_);refine wb (A2.mk ?_ ?_)<;>intros;have h2:k<l.length:=(by omega);refine aJ (x:=l[k]) (by omega) (by simp[h2]) rfl ?_;refine wb (A2.mk ?_ ?_)<;>intros;exact wt a (.pv (boolP true)) [] ⟨_,rfl,λ_=>⟨l[k],eu h2,by assumption⟩⟩;exact aj ⟨k+1,h2,by omega,vm []⟩;exact wt a (.pv (boolP false)) [] ⟨_,rfl,λh=>by cases h⟩
theorem Vs (b:Nat)(hb:b<=400)(l:List Nat)(d:Asc b l)(n:Nat)(hn:n<b):kS Tryz.prog 162 [.pv (.sl (nL l)),.pv (ah n)] (λr=>∃m,Asc b m/\r= .pv (.sl (nL m))):=by
 have h4:l.length<=400:=aG d.len hb;refine wf Tryz.func162 (λ_=> []) (h:=λR u=>?_);refine wb ?_<;>intros;refine wl (λk:Nat=> [(0,.pv (.sl (nL l))),(1,.pv (ah n)),(5,.pv (ah k))]) (λ_=> []) (λk=>k<=l.length/\∀x∈l.take k,x<n) (λk=>l.length-k) 0 ⟨ay _,by simp⟩ (vm []) (λk ⟨hk,hx⟩=>?_);refine wb (A2.mk ?_ ?_)<;>intros
 . have h2:k<l.length:=(by omega);have hg:=aX h2;have q:=wP (i:=k) (l:=l);generalize l[k]=y at hg;rw[hg] at q;refine aJ (x:=y) (by omega) (by simpa using hg) rfl ?_;refine wb (A2.mk ?_ ?_)<;>intros;refine aj ⟨k+1,⟨h2,?_⟩,by omega,vm []⟩;intro x hm;rw[q] at hm;rcases ja.1 hm with hm|hm;exact hx x hm;simp at hm;omega
   . refine aJ (x:=y) (by omega) (by simpa using hg) rfl ?_;refine wb (A2.mk ?_ ?_)<;>intros;exact wt u (.pv (.sl (nL l))) [] ⟨l,d,rfl⟩
     . have B:∀x∈l.drop k,n<x:=by
        intro x hm;have D:n<y:=(by omega);have a:=d.1;rw[<-ES k l,Ep] at a;rw[nM h2,(dD.1 hg).2] at hm a;rcases fV.1 hm with rfl|hm;exact D;have:=(JU.1 a.2.1).1 x hm;omega
       refine And.intro (by first|omega|(simp;omega)) ?_;refine wb ?_<;>intros;refine And.intro (by first|omega|(simp;omega)) ?_;refine wb ?_<;>intros;refine And.intro (by first|omega|(simp;omega)) ?_;refine wb ?_<;>intros;exact wt u (.pv (.sl (nL (l.take k++[n]++l.drop k)))) [(312,none)] ⟨_,Vr d hn hk hx B,rfl⟩
 obtain rfl:k=l.length:=(by omega);refine And.intro (by first|omega|(simp;omega)) ?_;refine wb ?_<;>intros;refine And.intro (by first|omega|(simp;omega)) ?_;refine wb ?_<;>intros;have a:=Vr d hn hk hx (by simp);rw[rX] at a;exact wt u (.pv (.sl (nL (l++[n]++l.drop l.length)))) [(312,none)] ⟨_,a,rfl⟩
theorem Nk (b:Nat)(hb:b<=400)(l:List Nat)(y:Asc b l)(l2:List Nat)(d:Asc b l2):kS Tryz.prog 132 [.pv (.sl (nL l)),.pv (.sl (nL l2))] (λr=>∃m,Asc b m/\r= .pv (.sl (nL m))):=by have h4:l.length<=400:=aG y.len hb;have h5:l2.length<=400:=aG d.len hb;refine wf Tryz.func132 (λ_=> []) (h:=λR B=>?_);refine wb ?_<;>intros;refine wl (λu:Nat×List Nat=> [(0,.pv (.sl (nL l))),(1,.pv (.sl (nL l2))),(5,.pv (.sl (nL u.2))),(6,.pv (ah u.1))]) (λ_=> []) (λu=>u.1<=l.length/\Asc b u.2) (λu=>l.length-u.1) (0,[]) ⟨ay _,List.Pairwise.nil,λn hn=>nomatch hn⟩ (vm []) (λ⟨k,m⟩ ⟨hk,hm⟩=>?_);dsimp only at hk hm;refine wb (A2.mk ?_ ?_)<;>intros;have h2:k<l.length:=(by omega);refine aJ (x:=l[k]) (by omega) (by simp[h2]) rfl ?_;refine wb ?_<;>intros;refine wF (Vs b hb m hm l[k] (y.2 _ (eu h2))) ?_;rintro r ⟨q,a,rfl⟩;refine wb ?_<;>intros;exact aj ⟨(k+1,q),⟨h2,a⟩,by dsimp only;omega,vm []⟩;refine wl (λu:Nat×List Nat=> [(1,.pv (.sl (nL l2))),(5,.pv (.sl (nL u.2))),(7,.pv (ah u.1))]) (λ_=> []) (λu=>u.1<=l2.length/\Asc b u.2) (λu=>l2.length-u.1) (0,m) ⟨ay _,hm⟩ (vm []) (λ⟨k,m⟩ ⟨hk,hm⟩=>?_);dsimp only at hk hm;refine wb (A2.mk ?_ ?_)<;>intros;have h2:k<l2.length:=(by omega);refine aJ (x:=l2[k]) (by omega) (by simp[h2]) rfl ?_;refine wb ?_<;>intros;refine wF (Vs b hb m hm l2[k] (d.2 _ (eu h2))) ?_;rintro r ⟨q,a,rfl⟩;refine wb ?_<;>intros;exact aj ⟨(k+1,q),⟨h2,a⟩,by dsimp only;omega,vm []⟩;exact wt B (.pv (.sl (nL m))) [] ⟨_,hm,rfl⟩
theorem jW {b:Nat}{F:PV->Prop}(h:∀l,Asc b l->F (.sl (nL l))):RQ (.asc b) F:=by rintro p ⟨l,rfl,h1,h2⟩;exact h l ⟨h1,h2⟩
theorem iV {F:PV->Prop}(h:∀n,i64 n->F (ah n)):RQ (.int .i64) F:=by rintro p ⟨n,h1,rfl⟩;exact h n h1
theorem C9 {F:PV->Prop}(h:∀b,F (boolP b)):RQ .bool F:=by rintro p ⟨b,rfl⟩;exact h b
def MJ:List CT->List PV->Prop
 | [],_=>True
 |_::_,[]=>True
 |ct::r,q::s=>ct.ok q/\MJ r s
theorem P6:∀ {cts:List CT}{row:List PV},MJ cts row->∀(j:Nat) ct q,cts[j]?=some ct->row[j]?=some q->ct.ok q
 | [],_,_,j,ct,q,h,_=>by simp at h
 |c::r,[],_,j,ct,q,_,h=>by simp at h
 |
  c::r,p::s,hb,0,ct,q,h1,h2=>by
  simp only[oJ,gV] at h1 h2
  subst h1 h2
  exact hb.1
 |c::r,p::s,hb,j+1,ct,q,h1,h2=>P6 hb.2 j ct q (by simpa using h1) (by simpa using h2)
def oV (cts:List CT)(els:List (List PV)):Prop:=∀row∈els,MJ cts row
@[go_sem] theorem abm {s:List PV} :MJ [] s=True:=by cases s<;>rfl
@[go_sem] theorem Xv {ct:CT}{r:List CT}{q:PV}{s:List PV} :MJ (ct::r) (q::s)=(ct.ok q/\MJ r s):=rfl
@[go_sem] theorem aiS {cts:List CT} :oV cts []=True:=by simp[oV]
@[go_sem] theorem ahO {cts:List CT}{x:List PV}{r:List (List PV)} :oV cts (x::r)=(MJ cts x/\oV cts r):=by simp[oV]
@[go_sem] theorem aiT {cts:List CT}{x r:List (List PV)} :oV cts (x++r)=(oV cts x/\oV cts r):=by simp only[oV,ja,pU];exact⟨λh=>⟨λa b=>h a (.inl b),λa b=>h a (.inr b)⟩,λh a b=>b.elim (h.1 a) (h.2 a)⟩
@[go_sem] theorem ok_int {k a:IntKind}{n:Int} :CT.ok (.int k) (.sc (.int a n))=(a=k/\k.wrap n=n):=by simp only[CT.ok,pU];constructor;rintro⟨m,h1,h2⟩;injection h2 with h2;injection h2 with h2 h3;subst h2 h3;exact⟨rfl,h1⟩;rintro⟨rfl,h⟩;exact⟨n,h,rfl⟩
@[go_sem] theorem adK {b:Bool} :CT.ok .bool (.sc (.bool b))=True:=eq_true ⟨b,rfl⟩
@[go_sem] theorem aoc {b:Nat} :CT.ok (.asc b) (.sl [])=True:=eq_true (sQ (l:=[]) ⟨List.Pairwise.nil,λn hn=>nomatch hn⟩)
def fzT (cts:List CT):Option Obj->Prop
 |some (.row _ k els)=>cts.length=k/\cts≠ []/\oV cts els
 |_=>False
@[go_sem] theorem aod {cts:List CT}{e k:Nat}{els:List (List PV)} :fzT cts (some (.row e k els))=(cts.length=k/\cts≠ []/\oV cts els):=rfl
theorem adW {σ:Sto}{r:Nat}{cts:List CT}(h:fzT cts (σ r)):yL σ (r,some cts):=by unfold yL;dsimp only;generalize σ r=o at h;rcases o with _|(_|⟨e,k,els⟩);exact h;exact h;exact⟨h.1,h.2.1,λrow hr j ct q h1 h2=>P6 (h.2.2 row hr) j ct q h1 h2⟩
@[go_sem] theorem aiU {σ:Sto}{r:Nat}{cts:List CT} :yL σ (r,some cts)=fzT cts (σ r):=by
 refine propext ⟨λh=>?_,adW⟩;unfold yL at h;dsimp only at h;generalize σ r=o at h;rcases o with _|(_|⟨e,k,els⟩);exact h;exact h
 . refine⟨h.1,h.2.1,λrow hr=>?_⟩;have h2:=h.2.2 row hr;clear h hr;induction cts generalizing row with
   |nil=>simp [MJ]
   |
    cons c r ih=>
    cases row with
    |nil=>simp [MJ]
    |cons p s=>exact ⟨h2 0 c p rfl rfl,ih s (λj ct q e1 a=>h2 (j+1) ct q (by simpa using e1) (by simpa using a))⟩
