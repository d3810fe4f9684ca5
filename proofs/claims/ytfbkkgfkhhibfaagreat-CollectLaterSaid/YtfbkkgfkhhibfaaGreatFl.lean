/- Words. -/
import Derived.Test.YtfbkkgfkhhibfaaGreatAto
import Derived.Test.YtfbkkgfkhhibfaaGreatTh
import Derived.LoopN
set_option linter.unusedVariables false
set_option linter.unusedSimpArgs false
set_option maxRecDepth 20000
set_option maxHeartbeats 8000000
namespace AM
open Go Go.Proofs Go.RowKit
@[go_sem] theorem amj {s:ByteArray} :(s.toList==(⟨#[]⟩:ByteArray).toList)=decide (s.size=0):=by
 rw[yX];congr 1;rw[yU];refine⟨λh=>by rw[h];rfl,λh=>?_⟩;obtain⟨⟨l⟩⟩:=s
 cases l with
 |nil=>rfl
 |cons a r=>simp [ByteArray.size] at h
attribute [go_sem] List.size_toArray List.length_zipIdx List.forall_mem_map implies_true Bool.true_beq Bool.false_beq Bool.not_true Bool.not_false Int.cast_ofNat_Int false_imp_iff true_imp_iff forall_const
@[go_sem] theorem au8 {b:Bool} :(b==false)= !b:=by cases b<;>rfl
@[go_sem] theorem au9 {b:Bool} :(b==true)=b:=by cases b<;>rfl
@[go_sem] theorem ajW {a:Int} :(a==a)=true:=by simp
@[go_sem] theorem agX {a:Int} :(a !=a)=false:=by simp
def Zl:Code->Code
 | .seq a _=>a
 | .cond _ a _=>a
 | .block _ b=>b
 | .loop b=>b
 |c=>c
def cS2:Code->Code
 | .seq _ a=>a
 | .cond _ _ a=>a
 |c=>c
def ajX:Code->Bool
 | .seq _ _=>true
 |_=>false
def EH:Code->Bool
 | .loop _=>true
 |_=>false
def afq:Code->Bool
 | .skip=>true
 |_=>false
def Hl:Code->Bool
 | .ret=>true
 |_=>false
def ajY:Code->Option Nat
 | .block i _=>some i
 |_=>none
def apz:Code->Option Nat
 | .exit i=>some i
 |_=>none
def apA:Code->Option Operand
 | .cond x _ _=>some x
 |_=>none
def apB:Code->Option (Nat×List Oper×Bool)
 | .region i l d=>some (i,l.toList,d)
 |_=>none
section
variable {M : Mc} {k : List It} {env : Env} {σ : Sto} {nx id : Nat} {c : Code}
theorem EI (e:ajX c=true)(h:sr M (.code (Zl c) :: .code (cS2 c)::k) env σ nx):sr M (.code c::k) env σ nx:=by cases c<;>first|exact sr_seq h|cases e
theorem EJ (e:ajY c=some id)(h:sr M (.code (Zl c) :: .blk id::k) env σ nx):sr M (.code c::k) env σ nx:=by cases c<;>first|(injection e with e;subst e;exact sr_block h)|cases e
theorem Ko (e:apz c=some id)(h:sx M id k env σ nx):sr M (.code c::k) env σ nx:=by cases c<;>first|(injection e with e;subst e;exact sr_exit h)|cases e
theorem Kq (e:afq c=true)(h:sr M k env σ nx):sr M (.code c::k) env σ nx:=by cases c<;>first|exact sr_skip h|cases e
theorem Kr (e:Hl c=true)(h:M.R env σ):sr M (.code c::k) env σ nx:=by cases c<;>first|exact sr_ret h|cases e
theorem ji {x:Operand}(e:apA c=some x)(h:Fh (ev env x) (sr M (.code (Zl c)::k) env σ nx) (sr M (.code (cS2 c)::k) env σ nx)):sr M (.code c::k) env σ nx:=by cases c<;>first|(injection e with e;subst e;exact afj h)|cases e
theorem ig {P:Program}{us:Nat->List (Nat×Nat)}{nt n0:Nat}{R:Env->Sto->Prop}{hm:P.follows .mixedOrders=true}{l:List Oper}{d:Bool}(e:apB c=some (id,l,d))(h:vS P l.toArray nx d (if d=true then us id else []) (sr ⟨P,us,nt,n0,R,hm⟩ k) [] l 0 env σ):sr ⟨P,us,nt,n0,R,hm⟩ (.code c::k) env σ nx:=by
 cases c<;>first|cases e|skip
 exact afk h
theorem wl {T:Type}(E:T->List (Nat×AV))(S:T->List (Option Obj))(f:T->Prop)(μ:T->Nat)(t0:T)(h0:f t0)(a:View M.n0 env σ (E t0) (S t0))(h:∀t,f t->sr M (.code (Zl c) :: .mark (λenv σ=>∃u,f u/\μ u<μ t/\View M.n0 env σ (E u) (S u))::k) (jh (E t)) (oZ (S t)) (S t).length)(e:EH c=true:=by rfl):sr M (.code c::k) env σ nx:=by cases c<;>first|exact abX E S f μ t0 h0 a h|cases e
end
structure Hd (p:Prop):Prop where
 out:p
theorem ws {P Q:Prop}(h:Q)(s:Hd Q->P:=by (intro h;simp -implicitDefEqProofs (disch:=omega) only[go_sem,gQ,pX,↓reduceIte,fG,Nat.reducePow,Nat.reduceLT,Nat.reduceEqDiff,Nat.reduceAdd,Nat.reduceMul,Nat.reduceSub,Nat.reduceLeDiff,Int.reduceAdd,Int.reduceSub,Int.reduceToNat,Int.reduceLT,Int.reduceLE,Int.reduceNeg,Int.reduceEq,Int.reduceNe,Int.reduceBEq,Int.reduceBNe,lS,reduceCtorEq];exact h.out)):P:=s ⟨h⟩
theorem w0 {P Q:Prop}(h:Q)(s:Hd Q->P:=by (intro h;(repeat first|refine EI rfl ?_|refine EJ rfl ?_|refine Ko rfl ?_|refine sx_code ?_|refine sx_hit ?_|refine sx_miss rfl ?_|refine sx_mark ?_|refine sr_blk ?_|refine Kq rfl ?_);exact h.out)):P:=s ⟨h⟩
theorem wg {P Q:Prop}(h:Q)(s:Hd Q->P:=by (intro h;refine ig rfl ?_;simp -implicitDefEqProofs (disch:=omega) only[go_sem,gQ,pX,↓reduceIte,fG,Nat.reducePow,Nat.reduceLT,Nat.reduceEqDiff,Nat.reduceAdd,Nat.reduceMul,Nat.reduceSub,Nat.reduceLeDiff,Int.reduceAdd,Int.reduceSub,Int.reduceToNat,Int.reduceLT,Int.reduceLE,Int.reduceNeg,Int.reduceEq,Int.reduceNe,Int.reduceBEq,Int.reduceBNe,lS,reduceCtorEq];(repeat first|refine EI rfl ?_|refine EJ rfl ?_|refine Ko rfl ?_|refine sx_code ?_|refine sx_hit ?_|refine sx_miss rfl ?_|refine sx_mark ?_|refine sr_blk ?_|refine Kq rfl ?_);exact h.out)):P:=s ⟨h⟩
theorem we {P:Prop}(s:P:=by (first|(simp -implicitDefEqProofs (disch:=omega) only[go_sem,gQ,pX,↓reduceIte,fG,Nat.reducePow,Nat.reduceLT,Nat.reduceEqDiff,Nat.reduceAdd,Nat.reduceMul,Nat.reduceSub,Nat.reduceLeDiff,Int.reduceAdd,Int.reduceSub,Int.reduceToNat,Int.reduceLT,Int.reduceLE,Int.reduceNeg,Int.reduceEq,Int.reduceNe,Int.reduceBEq,Int.reduceBNe,lS,reduceCtorEq];done)|((try simp -implicitDefEqProofs (disch:=omega) only[go_sem,gQ,pX,↓reduceIte,fG,Nat.reducePow,Nat.reduceLT,Nat.reduceEqDiff,Nat.reduceAdd,Nat.reduceMul,Nat.reduceSub,Nat.reduceLeDiff,Int.reduceAdd,Int.reduceSub,Int.reduceToNat,Int.reduceLT,Int.reduceLE,Int.reduceNeg,Int.reduceEq,Int.reduceNe,Int.reduceBEq,Int.reduceBNe,lS,reduceCtorEq]);first|(simp_all;done)|(simp_all;omega)|grind|rfl))):P:=s
theorem wv {P:Prop}(s:P:=by (first|rfl|(simp -implicitDefEqProofs (disch:=omega) only[go_sem,gQ,pX,↓reduceIte,fG,Nat.reducePow,Nat.reduceLT,Nat.reduceEqDiff,Nat.reduceAdd,Nat.reduceMul,Nat.reduceSub,Nat.reduceLeDiff,Int.reduceAdd,Int.reduceSub,Int.reduceToNat,Int.reduceLT,Int.reduceLE,Int.reduceNeg,Int.reduceEq,Int.reduceNe,Int.reduceBEq,Int.reduceBNe,lS,reduceCtorEq];done)|(simp -implicitDefEqProofs (disch:=omega) only[go_sem,gQ,pX,↓reduceIte,fG,Nat.reducePow,Nat.reduceLT,Nat.reduceEqDiff,Nat.reduceAdd,Nat.reduceMul,Nat.reduceSub,Nat.reduceLeDiff,Int.reduceAdd,Int.reduceSub,Int.reduceToNat,Int.reduceLT,Int.reduceLE,Int.reduceNeg,Int.reduceEq,Int.reduceNe,Int.reduceBEq,Int.reduceBNe,lS,reduceCtorEq];rfl))):P:=s
structure A2 (p q:Prop):Prop where
 l:p
 r:q
theorem wb {P Q:Prop}(h:Q)(s:Hd Q->P:=by (intro h;(try simp -implicitDefEqProofs (disch:=omega) only[go_sem,gQ,pX,↓reduceIte,fG,Nat.reducePow,Nat.reduceLT,Nat.reduceEqDiff,Nat.reduceAdd,Nat.reduceMul,Nat.reduceSub,Nat.reduceLeDiff,Int.reduceAdd,Int.reduceSub,Int.reduceToNat,Int.reduceLT,Int.reduceLE,Int.reduceNeg,Int.reduceEq,Int.reduceNe,Int.reduceBEq,Int.reduceBNe,lS,reduceCtorEq]);(repeat' (first|(first|refine EI rfl ?_|refine EJ rfl ?_|refine Ko rfl ?_|refine sx_code ?_|refine sx_hit ?_|refine sx_miss rfl ?_|refine sx_mark ?_|refine sr_blk ?_|refine Kq rfl ?_)|(refine Zc ?_;(try simp -implicitDefEqProofs only[go_sem]);((first|((refine And.intro ?_ ?_)<;>(first|(revert Wb;intro Wb;intro abY)|(revert Wc;intro Wc;intro Wb)|(revert Wd;intro Wd;intro Wc)|(revert Bh;intro Bh;intro Wd)|(revert Wf;intro Wf;intro Bh)|(revert Wg;intro Wg;intro Wf)|(revert Bi;intro Bi;intro Wg)|(revert Wm;intro Wm;intro Bi)|(revert Wo;intro Wo;intro Wm)|(revert Bj;intro Bj;intro Wo)|(revert Wr;intro Wr;intro Bj)|(revert Wt;intro Wt;intro Wr)|(revert Ww;intro Ww;intro Wt)|(revert Wz;intro Wz;intro Ww)|(revert Bo;intro Bo;intro Wz)|(revert Bq;intro Bq;intro Bo)|(revert WD;intro WD;intro Bq)|(revert WK;intro WK;intro WD)|(revert Bv;intro Bv;intro WK)|(revert Bz;intro Bz;intro Bv)|(revert Wu;intro Wu;intro Bz)|(revert Xs;intro Xs;intro Wu)|(revert Uu;intro Uu;intro Xs)|(revert XS;intro XS;intro Uu)|(revert Ys;intro Ys;intro XS)|(revert Z6;intro Z6;intro Ys)|(revert Zs;intro Zs;intro Z6)|(revert ZD;intro ZD;intro Zs)|(revert ZS;intro ZS;intro ZD)|intro ZS)<;>first|(exfalso;omega)|skip)|(rw[fQ];(refine And.intro ?_ ?_)<;>(first|(revert Wb;intro Wb;intro abY)|(revert Wc;intro Wc;intro Wb)|(revert Wd;intro Wd;intro Wc)|(revert Bh;intro Bh;intro Wd)|(revert Wf;intro Wf;intro Bh)|(revert Wg;intro Wg;intro Wf)|(revert Bi;intro Bi;intro Wg)|(revert Wm;intro Wm;intro Bi)|(revert Wo;intro Wo;intro Wm)|(revert Bj;intro Bj;intro Wo)|(revert Wr;intro Wr;intro Bj)|(revert Wt;intro Wt;intro Wr)|(revert Ww;intro Ww;intro Wt)|(revert Wz;intro Wz;intro Ww)|(revert Bo;intro Bo;intro Wz)|(revert Bq;intro Bq;intro Bo)|(revert WD;intro WD;intro Bq)|(revert WK;intro WK;intro WD)|(revert Bv;intro Bv;intro WK)|(revert Bz;intro Bz;intro Bv)|(revert Wu;intro Wu;intro Bz)|(revert Xs;intro Xs;intro Wu)|(revert Uu;intro Uu;intro Xs)|(revert XS;intro XS;intro Uu)|(revert Ys;intro Ys;intro XS)|(revert Z6;intro Z6;intro Ys)|(revert Zs;intro Zs;intro Z6)|(revert ZD;intro ZD;intro Zs)|(revert ZS;intro ZS;intro ZD)|intro ZS))|skip)<;>simp -implicitDefEqProofs (disch:=omega) only[go_sem,gQ,pX,↓reduceIte,fG,Nat.reducePow,Nat.reduceLT,Nat.reduceEqDiff,Nat.reduceAdd,Nat.reduceMul,Nat.reduceSub,Nat.reduceLeDiff,Int.reduceAdd,Int.reduceSub,Int.reduceToNat,Int.reduceLT,Int.reduceLE,Int.reduceNeg,Int.reduceEq,Int.reduceNe,Int.reduceBEq,Int.reduceBNe,lS,reduceCtorEq]))|(first|refine And.intro (y8 (by kernel_rfl)) ?_|refine And.intro (by omega) ?_)|(refine ig rfl ?_;simp -implicitDefEqProofs (disch:=omega) only[go_sem,gQ,pX,↓reduceIte,fG,Nat.reducePow,Nat.reduceLT,Nat.reduceEqDiff,Nat.reduceAdd,Nat.reduceMul,Nat.reduceSub,Nat.reduceLeDiff,Int.reduceAdd,Int.reduceSub,Int.reduceToNat,Int.reduceLT,Int.reduceLE,Int.reduceNeg,Int.reduceEq,Int.reduceNe,Int.reduceBEq,Int.reduceBNe,lS,reduceCtorEq])|(refine ji rfl ?_;simp -implicitDefEqProofs (disch:=omega) only[go_sem,gQ,pX,↓reduceIte,fG,Nat.reducePow,Nat.reduceLT,Nat.reduceEqDiff,Nat.reduceAdd,Nat.reduceMul,Nat.reduceSub,Nat.reduceLeDiff,Int.reduceAdd,Int.reduceSub,Int.reduceToNat,Int.reduceLT,Int.reduceLE,Int.reduceNeg,Int.reduceEq,Int.reduceNe,Int.reduceBEq,Int.reduceBNe,lS,reduceCtorEq];(first|((refine And.intro ?_ ?_)<;>(first|(revert Wb;intro Wb;intro abY)|(revert Wc;intro Wc;intro Wb)|(revert Wd;intro Wd;intro Wc)|(revert Bh;intro Bh;intro Wd)|(revert Wf;intro Wf;intro Bh)|(revert Wg;intro Wg;intro Wf)|(revert Bi;intro Bi;intro Wg)|(revert Wm;intro Wm;intro Bi)|(revert Wo;intro Wo;intro Wm)|(revert Bj;intro Bj;intro Wo)|(revert Wr;intro Wr;intro Bj)|(revert Wt;intro Wt;intro Wr)|(revert Ww;intro Ww;intro Wt)|(revert Wz;intro Wz;intro Ww)|(revert Bo;intro Bo;intro Wz)|(revert Bq;intro Bq;intro Bo)|(revert WD;intro WD;intro Bq)|(revert WK;intro WK;intro WD)|(revert Bv;intro Bv;intro WK)|(revert Bz;intro Bz;intro Bv)|(revert Wu;intro Wu;intro Bz)|(revert Xs;intro Xs;intro Wu)|(revert Uu;intro Uu;intro Xs)|(revert XS;intro XS;intro Uu)|(revert Ys;intro Ys;intro XS)|(revert Z6;intro Z6;intro Ys)|(revert Zs;intro Zs;intro Z6)|(revert ZD;intro ZD;intro Zs)|(revert ZS;intro ZS;intro ZD)|intro ZS)<;>first|(exfalso;omega)|skip)|(rw[fQ];(refine And.intro ?_ ?_)<;>(first|(revert Wb;intro Wb;intro abY)|(revert Wc;intro Wc;intro Wb)|(revert Wd;intro Wd;intro Wc)|(revert Bh;intro Bh;intro Wd)|(revert Wf;intro Wf;intro Bh)|(revert Wg;intro Wg;intro Wf)|(revert Bi;intro Bi;intro Wg)|(revert Wm;intro Wm;intro Bi)|(revert Wo;intro Wo;intro Wm)|(revert Bj;intro Bj;intro Wo)|(revert Wr;intro Wr;intro Bj)|(revert Wt;intro Wt;intro Wr)|(revert Ww;intro Ww;intro Wt)|(revert Wz;intro Wz;intro Ww)|(revert Bo;intro Bo;intro Wz)|(revert Bq;intro Bq;intro Bo)|(revert WD;intro WD;intro Bq)|(revert WK;intro WK;intro WD)|(revert Bv;intro Bv;intro WK)|(revert Bz;intro Bz;intro Bv)|(revert Wu;intro Wu;intro Bz)|(revert Xs;intro Xs;intro Wu)|(revert Uu;intro Uu;intro Xs)|(revert XS;intro XS;intro Uu)|(revert Ys;intro Ys;intro XS)|(revert Z6;intro Z6;intro Ys)|(revert Zs;intro Zs;intro Z6)|(revert ZD;intro ZD;intro Zs)|(revert ZS;intro ZS;intro ZD)|intro ZS))|skip))));(all_goals ((try revert abY);(try revert Wb);(try revert Wc);(try revert Wd);(try revert Bh);(try revert Wf);(try revert Wg);(try revert Bi);(try revert Wm);(try revert Wo);(try revert Bj);(try revert Wr);(try revert Wt);(try revert Ww);(try revert Wz);(try revert Bo);(try revert Bq);(try revert WD);(try revert WK);(try revert Bv);(try revert Bz);(try revert Wu);(try revert Xs);(try revert Uu);(try revert XS);(try revert Ys);(try revert Z6);(try revert Zs);(try revert ZD);(try revert ZS);with_reducible first|exact h.out|exact A2.l h.out|exact A2.r h.out|exact A2.l (A2.r h.out)|exact A2.r (A2.r h.out)|exact A2.l (A2.r (A2.r h.out))|exact A2.r (A2.r (A2.r h.out))|exact A2.l (A2.r (A2.r (A2.r h.out)))|exact A2.r (A2.r (A2.r (A2.r h.out)))|exact A2.l (A2.r (A2.r (A2.r (A2.r h.out))))|exact A2.r (A2.r (A2.r (A2.r (A2.r h.out))))|exact A2.l (A2.r (A2.r (A2.r (A2.r (A2.r h.out)))))|exact A2.r (A2.r (A2.r (A2.r (A2.r (A2.r h.out)))))|exact A2.l (A2.r (A2.r (A2.r (A2.r (A2.r (A2.r h.out))))))|exact A2.r (A2.r (A2.r (A2.r (A2.r (A2.r (A2.r h.out))))))|exact A2.l (A2.r (A2.r (A2.r (A2.r (A2.r (A2.r (A2.r h.out)))))))|exact A2.r (A2.r (A2.r (A2.r (A2.r (A2.r (A2.r (A2.r h.out)))))))|exact A2.l (A2.r (A2.r (A2.r (A2.r (A2.r (A2.r (A2.r (A2.r h.out))))))))|exact A2.r (A2.r (A2.r (A2.r (A2.r (A2.r (A2.r (A2.r (A2.r h.out))))))))|exact A2.l (A2.r (A2.r (A2.r (A2.r (A2.r (A2.r (A2.r (A2.r (A2.r h.out)))))))))|exact A2.r (A2.r (A2.r (A2.r (A2.r (A2.r (A2.r (A2.r (A2.r (A2.r h.out)))))))))|exact A2.l (A2.r (A2.r (A2.r (A2.r (A2.r (A2.r (A2.r (A2.r (A2.r (A2.r h.out))))))))))|exact A2.r (A2.r (A2.r (A2.r (A2.r (A2.r (A2.r (A2.r (A2.r (A2.r (A2.r h.out))))))))))|exact A2.l (A2.r (A2.r (A2.r (A2.r (A2.r (A2.r (A2.r (A2.r (A2.r (A2.r (A2.r h.out)))))))))))|exact A2.r (A2.r (A2.r (A2.r (A2.r (A2.r (A2.r (A2.r (A2.r (A2.r (A2.r (A2.r h.out)))))))))))|exact A2.l (A2.r (A2.r (A2.r (A2.r (A2.r (A2.r (A2.r (A2.r (A2.r (A2.r (A2.r (A2.r h.out))))))))))))|exact A2.r (A2.r (A2.r (A2.r (A2.r (A2.r (A2.r (A2.r (A2.r (A2.r (A2.r (A2.r (A2.r h.out))))))))))))|exact A2.l (A2.r (A2.r (A2.r (A2.r (A2.r (A2.r (A2.r (A2.r (A2.r (A2.r (A2.r (A2.r (A2.r h.out)))))))))))))|exact A2.r (A2.r (A2.r (A2.r (A2.r (A2.r (A2.r (A2.r (A2.r (A2.r (A2.r (A2.r (A2.r (A2.r h.out)))))))))))))|exact A2.l (A2.r (A2.r (A2.r (A2.r (A2.r (A2.r (A2.r (A2.r (A2.r (A2.r (A2.r (A2.r (A2.r (A2.r h.out))))))))))))))|exact A2.r (A2.r (A2.r (A2.r (A2.r (A2.r (A2.r (A2.r (A2.r (A2.r (A2.r (A2.r (A2.r (A2.r (A2.r h.out))))))))))))))|exact A2.l (A2.r (A2.r (A2.r (A2.r (A2.r (A2.r (A2.r (A2.r (A2.r (A2.r (A2.r (A2.r (A2.r (A2.r (A2.r h.out)))))))))))))))|exact A2.r (A2.r (A2.r (A2.r (A2.r (A2.r (A2.r (A2.r (A2.r (A2.r (A2.r (A2.r (A2.r (A2.r (A2.r (A2.r h.out)))))))))))))))|exact A2.l (A2.r (A2.r (A2.r (A2.r (A2.r (A2.r (A2.r (A2.r (A2.r (A2.r (A2.r (A2.r (A2.r (A2.r (A2.r (A2.r h.out))))))))))))))))|exact A2.r (A2.r (A2.r (A2.r (A2.r (A2.r (A2.r (A2.r (A2.r (A2.r (A2.r (A2.r (A2.r (A2.r (A2.r (A2.r (A2.r h.out))))))))))))))))|exact A2.l (A2.r (A2.r (A2.r (A2.r (A2.r (A2.r (A2.r (A2.r (A2.r (A2.r (A2.r (A2.r (A2.r (A2.r (A2.r (A2.r (A2.r h.out)))))))))))))))))|exact A2.r (A2.r (A2.r (A2.r (A2.r (A2.r (A2.r (A2.r (A2.r (A2.r (A2.r (A2.r (A2.r (A2.r (A2.r (A2.r (A2.r (A2.r h.out)))))))))))))))))|exact A2.l (A2.r (A2.r (A2.r (A2.r (A2.r (A2.r (A2.r (A2.r (A2.r (A2.r (A2.r (A2.r (A2.r (A2.r (A2.r (A2.r (A2.r (A2.r h.out))))))))))))))))))|exact A2.r (A2.r (A2.r (A2.r (A2.r (A2.r (A2.r (A2.r (A2.r (A2.r (A2.r (A2.r (A2.r (A2.r (A2.r (A2.r (A2.r (A2.r (A2.r h.out))))))))))))))))))|exact A2.l (A2.r (A2.r (A2.r (A2.r (A2.r (A2.r (A2.r (A2.r (A2.r (A2.r (A2.r (A2.r (A2.r (A2.r (A2.r (A2.r (A2.r (A2.r (A2.r h.out)))))))))))))))))))|exact A2.r (A2.r (A2.r (A2.r (A2.r (A2.r (A2.r (A2.r (A2.r (A2.r (A2.r (A2.r (A2.r (A2.r (A2.r (A2.r (A2.r (A2.r (A2.r (A2.r h.out)))))))))))))))))))|exact A2.l (A2.r (A2.r (A2.r (A2.r (A2.r (A2.r (A2.r (A2.r (A2.r (A2.r (A2.r (A2.r (A2.r (A2.r (A2.r (A2.r (A2.r (A2.r (A2.r (A2.r h.out))))))))))))))))))))|exact A2.r (A2.r (A2.r (A2.r (A2.r (A2.r (A2.r (A2.r (A2.r (A2.r (A2.r (A2.r (A2.r (A2.r (A2.r (A2.r (A2.r (A2.r (A2.r (A2.r (A2.r h.out))))))))))))))))))))|exact A2.l (A2.r (A2.r (A2.r (A2.r (A2.r (A2.r (A2.r (A2.r (A2.r (A2.r (A2.r (A2.r (A2.r (A2.r (A2.r (A2.r (A2.r (A2.r (A2.r (A2.r (A2.r h.out)))))))))))))))))))))|exact A2.r (A2.r (A2.r (A2.r (A2.r (A2.r (A2.r (A2.r (A2.r (A2.r (A2.r (A2.r (A2.r (A2.r (A2.r (A2.r (A2.r (A2.r (A2.r (A2.r (A2.r (A2.r h.out)))))))))))))))))))))|exact A2.l (A2.r (A2.r (A2.r (A2.r (A2.r (A2.r (A2.r (A2.r (A2.r (A2.r (A2.r (A2.r (A2.r (A2.r (A2.r (A2.r (A2.r (A2.r (A2.r (A2.r (A2.r (A2.r h.out))))))))))))))))))))))|exact A2.r (A2.r (A2.r (A2.r (A2.r (A2.r (A2.r (A2.r (A2.r (A2.r (A2.r (A2.r (A2.r (A2.r (A2.r (A2.r (A2.r (A2.r (A2.r (A2.r (A2.r (A2.r (A2.r h.out))))))))))))))))))))))|exact A2.l (A2.r (A2.r (A2.r (A2.r (A2.r (A2.r (A2.r (A2.r (A2.r (A2.r (A2.r (A2.r (A2.r (A2.r (A2.r (A2.r (A2.r (A2.r (A2.r (A2.r (A2.r (A2.r (A2.r h.out)))))))))))))))))))))))|exact A2.r (A2.r (A2.r (A2.r (A2.r (A2.r (A2.r (A2.r (A2.r (A2.r (A2.r (A2.r (A2.r (A2.r (A2.r (A2.r (A2.r (A2.r (A2.r (A2.r (A2.r (A2.r (A2.r (A2.r h.out)))))))))))))))))))))))|exact A2.l (A2.r (A2.r (A2.r (A2.r (A2.r (A2.r (A2.r (A2.r (A2.r (A2.r (A2.r (A2.r (A2.r (A2.r (A2.r (A2.r (A2.r (A2.r (A2.r (A2.r (A2.r (A2.r (A2.r (A2.r h.out))))))))))))))))))))))))|exact A2.r (A2.r (A2.r (A2.r (A2.r (A2.r (A2.r (A2.r (A2.r (A2.r (A2.r (A2.r (A2.r (A2.r (A2.r (A2.r (A2.r (A2.r (A2.r (A2.r (A2.r (A2.r (A2.r (A2.r (A2.r h.out))))))))))))))))))))))))|exact A2.l (A2.r (A2.r (A2.r (A2.r (A2.r (A2.r (A2.r (A2.r (A2.r (A2.r (A2.r (A2.r (A2.r (A2.r (A2.r (A2.r (A2.r (A2.r (A2.r (A2.r (A2.r (A2.r (A2.r (A2.r (A2.r h.out)))))))))))))))))))))))))|exact A2.r (A2.r (A2.r (A2.r (A2.r (A2.r (A2.r (A2.r (A2.r (A2.r (A2.r (A2.r (A2.r (A2.r (A2.r (A2.r (A2.r (A2.r (A2.r (A2.r (A2.r (A2.r (A2.r (A2.r (A2.r (A2.r h.out))))))))))))))))))))))))))))):P:=s ⟨h⟩
section
variable {P : Program} {dr : Bool} {f : FuncId} {nx i n0 nt : Nat} {dA : List (Option AV)} {env : Env} {σ : Sto} {K : AV -> List (Nat × Option Obj) -> Key -> Prop} {vs : List AV} {pre : List Obj} {post : AV -> List (Option Obj) -> Prop} {rs : List ResultVar} {us : Nat -> List (Nat × Nat)} {R : Env -> Sto -> Prop} {hm : P.follows .mixedOrders = true} {k : List It} {c : Code}
theorem wE {r:AV}(hf:FnEq P f vs r)(h:K r [] Yd)(a:dA=vs.map some:=by exact wv)(hr:r.lb 0=true:=by rfl):lV P dr f nx i dA σ K:=abT hf a hr h
theorem wF {Q:AV->Prop}(hf:kV P f vs Q)(h:∀r,Q r->K r [] Yd)(a:dA=vs.map some:=by exact wv):lV P false f nx i dA σ K:=Jr hf a (λh=>by cases h) (λr _ d=>h r d)
theorem wG {Q:AV->Prop}(hf:kV P f vs Q)(w:AV)(hw:Q w)(h:∀r,Q r->K r [] Yd)(a:dA=vs.map some:=by exact wv)(d:w.lb 0=true:=by rfl):lV P true f nx i dA σ K:=Jr hf a (λ_=>⟨w,d,hw⟩) (λr _ u=>h r u)
theorem wq (hc:ACall P f vs pre post)(ls:List Nat)(h:∀r g,post r g->K (r.ren (rho ls (nx+8*i))) (renG (rho ls (nx+8*i)) g) ⟨[],ls,false,true,true⟩)(hg:isGo P f=true:=by kernel_rfl)(hb:cB nx i ls pre.length=true:=by kernel_rfl)(a:dA=(AV.renL (rho ls (nx+8*i)) vs).map some:=by exact wv)(ha:AV.lbL pre.length vs=true:=by exact wv)(d:pre.all (Obj.lb pre.length)=true:=by exact wv)(ho:cO σ (rho ls (nx+8*i)) ls pre:=by exact wv):lV P false f nx i dA σ K:=TC hc ls hg hb a ha d ho (λh=>by cases h) h
theorem wQ (hc:ACall P f vs pre post)(ls:List Nat){r0:AV}{a:List (Option Obj)}(w:post r0 a)(h:∀r g,post r g->K (r.ren (rho ls (nx+8*i))) (renG (rho ls (nx+8*i)) g) ⟨[],ls,false,true,true⟩)(u:pre.length<=a.length:=by exact Au rfl)(d:a.length<=pre.length+8:=by exact Au rfl)(hg:isGo P f=true:=by kernel_rfl)(hb:cB nx i ls pre.length=true:=by kernel_rfl)(y:dA=(AV.renL (rho ls (nx+8*i)) vs).map some:=by exact wv)(ha:AV.lbL pre.length vs=true:=by exact wv)(A:pre.all (Obj.lb pre.length)=true:=by exact wv)(ho:cO σ (rho ls (nx+8*i)) ls pre:=by exact wv):lV P true f nx i dA σ K:=TC hc ls hg hb y ha A ho (λ_=>⟨r0,a,w,u,d⟩) h
theorem vm {E:List (Nat×AV)}{S:List (Option Obj)}(ls:List Nat)(fl:List (Nat×Option (List CT)):=[])(hb:vwB n0 ls S (fl.map (·.1))=true:=by kernel_rfl)(hf:vF σ fl:=by ((try clear hR);exact we))(hE:vE (rQ σ fl) S.length (lg ls) env E:=by ((try clear hR);exact we))(hO:vO (rQ σ fl) S.length (fl.map (·.1)) (lg ls) σ S 0:=by ((try clear hR);exact we)):View n0 env σ E S:=TJ ls fl hb hf hE hO
theorem wo (hR:∀env σ,jC P n0 rs post env σ->R env σ)(r:AV)(g:List (Option Obj))(ls:List Nat)(fl:List (Nat×Option (List CT)))(hp:post r g)(hb:vwB n0 ls g (fl.map (·.1))=true:=by kernel_rfl)(hl:g.length<=n0+8:=by exact Au rfl)(hf:vF σ fl:=by ((try clear hR);exact we))(hE:rA P env σ rs [] (λv=>r.lb g.length=true/\wk (rQ σ fl) v (r.ren (lg ls))):=by ((try clear hR);exact we))(hO:vO (rQ σ fl) g.length (fl.map (·.1)) (lg ls) σ g 0:=by ((try clear hR);exact we))(hc:Hl c=true:=by rfl):sr ⟨P,us,nt,n0,R,hm⟩ (.code c::k) env σ nx:=Kr hc (hR _ _ (JW r g ls fl hb hl hp hf (NR hE) hO))
theorem wr {r:AV}(hR:∀env σ,jC P 0 rs (λv g=>g=[]/\v.lb 0=true/\v=r) env σ->R env σ)(fl:List (Nat×Option (List CT)):=[])(hb:JE (fl.map (·.1))=true:=by kernel_rfl)(h0:r.lb 0=true:=by rfl)(hf:vF σ fl:=by ((try clear hR);exact we))(hE:rA P env σ rs [] (λv=>wk (rQ σ fl) v r):=by ((try clear hR);exact we))(hc:Hl c=true:=by rfl):sr ⟨P,us,nt,0,R,hm⟩ (.code c::k) env σ nx:=Kr hc (hR _ _ (afi fl hb h0 hf (NR hE)))
theorem wt {Q:AV->Prop}(hR:∀env σ,jC P 0 rs (λv g=>g=[]/\v.lb 0=true/\Q v) env σ->R env σ)(r:AV)(fl:List (Nat×Option (List CT)))(hq:Q r)(hb:JE (fl.map (·.1))=true:=by kernel_rfl)(h0:r.lb 0=true:=by rfl)(hf:vF σ fl:=by ((try clear hR);exact we))(hE:rA P env σ rs [] (λv=>wk (rQ σ fl) v r):=by ((try clear hR);exact we))(hc:Hl c=true:=by rfl):sr ⟨P,us,nt,0,R,hm⟩ (.code c::k) env σ nx:=Kr hc (hR _ _ (Y9 r fl hb h0 hq hf (NR hE)))
theorem wf {fn:Func}{Q:AV->Prop}(g:P.funcs[f]?=some fn)(us:Nat->List (Nat×Nat))(hm:P.follows .mixedOrders=true:=by kernel_rfl)(hi:isGo P f=true:=by kernel_rfl)(a:AV.lbL 0 vs=true:=by exact wv)(hb:fn.body.isSome=true:=by rfl)(ha:vs.length<=fn.ntmps:=by exact Au rfl)(hc:nU fn.ntmps us (fn.body.getD .skip)=true:=by kernel_rfl)(hr:fn.results=rs.toArray:=by rfl)(h:∀R:Env->Sto->Prop,(∀env σ,jC P 0 rs (λr g=>g=[]/\r.lb 0=true/\Q r) env σ->R env σ)->sr ⟨P,us,fn.ntmps,0,R,hm⟩ [.code (fn.body.getD .skip)] (jh (wL vs)) (oZ []) 0):kV P f vs Q:=⟨hi,a,by
 cases hb':fn.body with
 |none=>rw [hb'] at hb;cases hb
 |some b=>rw [hb'] at h hc;rw[show rs=fn.results.toList by rw[hr]] at h;exact acall (us:=us) hm g hb' ha hc h⟩
theorem wz {fn:Func}(g:P.funcs[f]?=some fn)(us:Nat->List (Nat×Nat))(hm:P.follows .mixedOrders=true:=by kernel_rfl)(hb:fn.body.isSome=true:=by rfl)(ha:vs.length<=fn.ntmps:=by exact Au rfl)(hc:nU fn.ntmps us (fn.body.getD .skip)=true:=by kernel_rfl)(hr:fn.results=rs.toArray:=by rfl)(h:∀R:Env->Sto->Prop,(∀env σ,jC P pre.length rs post env σ->R env σ)->sr ⟨P,us,fn.ntmps,pre.length,R,hm⟩ [.code (fn.body.getD .skip)] (jh (wL vs)) (oZ (pre.map some)) pre.length):ACall P f vs pre post:=by
 cases hb':fn.body with
 |none=>rw [hb'] at hb;cases hb
 |some b=>rw [hb'] at h hc;rw[show rs=fn.results.toList by rw[hr]] at h;exact acall (us:=us) hm g hb' ha hc h
theorem wn {M:Mc}{k:List It}{env:Env}{σ:Sto}{nx:Nat}{c:Code}(n:Nat)(h:sr M (rep (Zl c) k n) env σ nx)(e:EH c=true:=by rfl):sr M (.code c::k) env σ nx:=by cases c<;>first|exact sr_rounds n h|cases e
theorem w1 {M:Mc}{k:List It}{env:Env}{σ:Sto}{nx:Nat}{c:Code}(h:sr M (.code (Zl c) :: .mark (λ_ _=>False)::k) env σ nx)(e:EH c=true:=by rfl):sr M (.code c::k) env σ nx:=wn 1 h e
theorem w2 {M:Mc}{k:List It}{env:Env}{σ:Sto}{nx:Nat}{c:Code}(h:sr M (.code (Zl c) :: .code (Zl c) :: .mark (λ_ _=>False)::k) env σ nx)(e:EH c=true:=by rfl):sr M (.code c::k) env σ nx:=wn 2 h e
theorem w3 {M:Mc}{k:List It}{env:Env}{σ:Sto}{nx:Nat}{c:Code}(h:sr M (.code (Zl c) :: .code (Zl c) :: .code (Zl c) :: .mark (λ_ _=>False)::k) env σ nx)(e:EH c=true:=by rfl):sr M (.code c::k) env σ nx:=wn 3 h e
end
end AM
namespace AM
open Go Go.Proofs
theorem adI (i n:Int):FnEq Tryz.prog 97 [.pv (ag i),.pv (ag n)] (.pv (boolP (decide (0<=i) && decide (i<n)))):=by refine wf Tryz.func97 (λ_=> []) (h:=λR a=>?_);refine wb (A2.mk ?_ ?_)<;>intros;all_goals exact wr a
theorem D6 (i n:Int):FnEq Tryz.prog 160 [.pv (ag i),.pv (ag n)] (.pv (boolP (decide (0<=i) && decide (i<n)))):=by refine wf Tryz.func160 (λ_=> []) (h:=λR a=>?_);refine wb (A2.mk ?_ ?_)<;>intros;all_goals exact wr a
theorem mD (a b:Int):FnEq Tryz.prog 168 [.pv (ag a),.pv (ag b)] (.pv (ag (if a=0 then b else a))):=by refine wf Tryz.func168 (λ_=> []) (h:=λR d=>?_);refine wb (A2.mk ?_ ?_)<;>intros;all_goals exact wr d
theorem eH (a:Bool):FnEq Tryz.prog 171 [.pv (boolP a)] (.pv (ag (if a=true then 7 else 0))):=by refine wf Tryz.func171 (λ_=> []) (h:=λR d=>?_);refine wb (A2.mk ?_ ?_)<;>intros;all_goals exact wr d
theorem Hz (a:Int):FnEq Tryz.prog 126 [.pv (ag a)] (.pv (boolP (decide (1<=a) && decide (a<=5)))):=by refine wf Tryz.func126 (λ_=> []) (h:=λR d=>?_);refine wb (A2.mk ?_ ?_)<;>intros;all_goals exact wr d
theorem Nj (a:Int)(h: -9223372036854775808<=a/\a<=9223372036854775807):FnEq Tryz.prog 164 [.pv (ag a)] (.pv (ag (if a<1\/100<a then 0 else a))):=by refine wf Tryz.func164 (λ_=> []) (h:=λR d=>?_);refine wb (A2.mk ?_ (A2.mk ?_ ?_))<;>intros;all_goals exact wr d
def i64 (n:Int):Prop:=IntKind.i64.wrap n=n
theorem ag5 (n:Int):IntKind.i64.wrap (IntKind.i64.wrap n)=IntKind.i64.wrap n:=by simp only[dD];omega
def VB (r:AV):Prop:=∃y,i64 y/\r= .tup [.pv (ag y),.pv (boolP true)]
theorem SN (n:Int):VB (.tup [.pv (ag (IntKind.i64.wrap n)),.pv (boolP true)]):=⟨_,ag5 n,rfl⟩
theorem Wy {n:Int}(h:i64 n):VB (.tup [.pv (ag n),.pv (boolP true)]):=⟨_,h,rfl⟩
theorem bM {n:Int} :i64 n ↔ -9223372036854775808<=n/\n<9223372036854775808:=by unfold i64;rw[dD];omega
theorem mV:i64 0:=bM.2 (by decide)
theorem WC:i64 1:=bM.2 (by decide)
theorem Lr {x y:Int}(hx:i64 x):i64 (x.tmod y):=by rw[bM] at hx|-;have h1:(x.tmod y).natAbs=x.natAbs%y.natAbs:=Int.natAbs_tmod x y;have h2:x.natAbs%y.natAbs<=x.natAbs:=Nat.mod_le _ _;by_cases h:0<=x;have:=Int.tmod_nonneg y h;omega;have h3:(-x).tmod y= -(x.tmod y):=Int.neg_tmod x y;have:=Int.tmod_nonneg y (show 0<= -x by omega);omega
theorem mF (a:Bool):kV Tryz.prog 175 [.pv (boolP a)] (λr=>∃y,i64 y/\r= .pv (ag y)):=by refine wf Tryz.func175 (λ_=> []) (h:=λR d=>?_);refine wb (A2.mk ?_ ?_)<;>intros;exact wt d (.pv (ag 1)) [] ⟨_,WC,rfl⟩;exact wt d (.pv (ag 0)) [] ⟨_,mV,rfl⟩
theorem Pn (op x y:Int)(hx:i64 x)(u:i64 y)(ho:6<=op/\op<=18):kV Tryz.prog 165 [.pv (ag op),.pv (ag x),.pv (ag y)] VB:=by
 refine wf Tryz.func165 (λ_=> []) (h:=λR a=>?_);refine wb (A2.mk ?_ (A2.mk ?_ (A2.mk ?_ (A2.mk ?_ (A2.mk ?_ (A2.mk ?_ (A2.mk ?_ (A2.mk ?_ (A2.mk ?_ (A2.mk ?_ (A2.mk ?_ (A2.mk ?_ (A2.mk ?_ (A2.mk ?_ (A2.mk ?_ (A2.mk ?_ ?_))))))))))))))))<;>intros;all_goals try (exfalso;omega)
 all_goals first
  |exact wt a (.tup [.pv (ag 0),.pv (boolP true)]) [] (Wy mV)
  |exact wt a (.tup [.pv (ag (IntKind.i64.wrap (x+y))),.pv (boolP true)]) [] (SN _)
  |exact wt a (.tup [.pv (ag (IntKind.i64.wrap (x-y))),.pv (boolP true)]) [] (SN _)
  |exact wt a (.tup [.pv (ag (IntKind.i64.wrap (x*y))),.pv (boolP true)]) [] (SN _)
  |exact wt a (.tup [.pv (ag (IntKind.i64.wrap (x.tdiv y))),.pv (boolP true)]) [] (SN _)
  |exact wt a (.tup [.pv (ag (x.tmod y)),.pv (boolP true)]) [] (Wy (Lr hx))
  |skip
 all_goals first
  |refine wF (mF (x==y)) ?_
  |refine wF (mF (x !=y)) ?_
  |refine wF (mF (decide (x<y))) ?_
  |refine wF (mF (decide (x<=y))) ?_
  |refine wF (mF (decide (y<x))) ?_
  |refine wF (mF (decide (y<=x))) ?_
  |refine wF (mF (y !=0)) ?_
  |refine wF (mF false) ?_
  |refine wF (mF true) ?_
 all_goals
  rintro r ⟨z,d,rfl⟩;refine wb ?_<;>intros;exact wt a (.tup [.pv (ag z),.pv (boolP true)]) [] (Wy d)
theorem Gq (x n:Int)(hx:i64 x)(hn:i64 n):kV Tryz.prog 159 [.pv (ag x),.pv (ag n)] (λr=>∃y,i64 y/\r= .pv (ag y)/\(1<=n->0<=y/\y<n)):=by refine wf Tryz.func159 (λ_=> []) (h:=λR a=>?_);refine wb (A2.mk ?_ (A2.mk ?_ ?_))<;>intros;exact wt a (.pv (ag 0)) [] ⟨0,mV,rfl,λh=>by omega⟩;have h1:=Int.lt_tmod_of_pos x (show 0<n by omega);have h2:=bM.1 hn;have h3:IntKind.i64.wrap (x.tmod n+n)=x.tmod n+n:=bM.2 (by omega);exact wt a (.pv (ag (IntKind.i64.wrap (x.tmod n+n)))) [] ⟨_,ag5 _,rfl,λ_=>by rw[h3];omega⟩;have h1:=Int.tmod_lt_of_pos x (show 0<n by omega);exact wt a (.pv (ag (x.tmod n))) [] ⟨_,Lr hx,rfl,λ_=>by omega⟩
def V9:List Int:=[3,3,4,4,5,6,7,8,9,10,11,12,13,14,15,16,18,19,20,21,22,23,2]
def kdF (op:Int):Int:=if op<6\/28<op then 0 else V9.getD (op-6).toNat 0
theorem Ui (op:Int):0<=kdF op/\kdF op<=23:=by
 unfold kdF;split;decide
 . rw[pR]
   cases h:V9[(op-6).toNat]? with
   |none=>decide
   |
    some k=>
    have:∀k∈V9,0<=k/\k<=23:=(by decide);exact this k (iC h)
@[go_sem] def iP (k:Int):List PV:=[ag k]
theorem aar (op:Int)(h:i64 op):FnEq Tryz.prog 128 [.pv (ag op)] (.pv (ag (kdF op))):=by
 refine wf Tryz.func128 (λ_=> []) (h:=λR a=>?_);have h2:=bM.1 h;refine wb (A2.mk ?_ (A2.mk ?_ ?_))<;>intros;have e:kdF op=0:=if_pos (.inl (by assumption));rw[e] at a;exact wr a;have e:kdF op=0:=if_pos (.inr (by assumption));rw[e] at a;exact wr a
 . have hk:(op-6).toNat<V9.length:=(by show _<23;omega);have e:kdF op=V9[(op-6).toNat]:=by
    unfold kdF;rw[if_neg (by omega),pR,aV hk];rfl
   refine aB (l:=V9) (f:=iP) (x:=V9[(op-6).toNat]) (by omega) (aV hk) rfl ?_;rw[<-e];refine wb ?_<;>intros;exact wr a
abbrev SS (xs:List UInt8):PV:= .sl (xs.map λx=> [.sc (.int .u8 x.toNat)])
@[go_sem] def zK (xs:List UInt8)(k:Nat):Obj:= .box [.pv (SS xs),.pv (ag k)]
def Ld (xs:List UInt8)(k n:Nat):Nat:=if k<xs.length then (xs.getD k 0).toNat%n else 0
theorem gz (xs:List UInt8)(k n:Nat)(hx:xs.length<=1000)(hk:k<=xs.length)(hn:0<n)(u:n<=1000):ACall Tryz.prog 74 [.ptr 0 0,.pv (ag n)] [zK xs k] (λv g=>v= .pv (ag (Ld xs k n))/\∃d:Nat,d<=xs.length/\g=[some (zK xs d)]):=by refine acall (us:=λ_=> [(3,7)]) (by kernel_rfl) Tryz.func74 rfl (Au rfl) (by kernel_rfl) (λR a=>?_);simp only[Tryz.f74,zK] at a|-;refine wb (A2.mk ?_ ?_)<;>intros;refine wo a (.pv (ag 0)) [some (zK xs k)] [0] [] ?_;exact⟨by simp only[Ld];rw[if_neg (by omega)];rfl,k,hk,rfl⟩;have h2:k<xs.length:=(by omega);have h3:=xs[k].toNat_lt;refine aB (x:=xs[k]) (by omega) (by rw[show ((k:Int)+1-1).toNat=k by omega];simp[h2]) rfl ?_;have h4:Ld xs k n=xs[k].toNat%n:=(by simp[Ld,h2]);refine wb ?_<;>intros;refine wo a (.pv (ag (Ld xs k n))) [some (zK xs (k+1))] [0] [] ?_;exact⟨rfl,k+1,h2,rfl⟩
structure ER where
 op:Int
 n:Int
 s:ByteArray
 l:List (List PV)
@[go_sem] def ER.r (e:ER):List PV:=[ag e.op,ag e.n,dh e.s,.sl e.l]
abbrev bE:ByteArray:=⟨#[]⟩
theorem CX (n:Int):FnEq Tryz.prog 77 [.pv (ag n)] (rw_ (ER.r ⟨1,n,bE,[]⟩)):=by refine wf Tryz.func77 (λ_=> []) (h:=λR a=>?_);refine wb ?_<;>intros;all_goals exact wr a
theorem xh (n:ByteArray):FnEq Tryz.prog 150 [.pv (dh n)] (rw_ (ER.r ⟨2,0,n,[]⟩)):=by refine wf Tryz.func150 (λ_=> []) (h:=λR a=>?_);refine wb ?_<;>intros;all_goals exact wr a
theorem yD (op:Int)(a b:ER):FnEq Tryz.prog 149 [.pv (ag op),rw_ a.r,rw_ b.r] (rw_ (ER.r ⟨op,0,bE,[a.r,b.r]⟩)):=by refine wf Tryz.func149 (λ_=> []) (h:=λR d=>?_);refine wb ?_<;>intros;all_goals exact wr d
structure MS where
 th:Int
 left:Int
 set:Bool
 tx:Bool
 atomic:Bool
 loop:Bool
 held:List ByteArray
@[go_sem] def MS.os (m:MS)(xs:List UInt8)(k:Nat):List Obj:=[.box [.ptr 1 0,.pv (ag m.th),.pv (ag m.left),.pv (boolP m.set),.pv (boolP m.tx),.pv (boolP m.atomic),.pv (boolP m.loop),.own 2 m.held.length],zK xs k,.row 9 1 (m.held.map λs=> [dh s])]
def names7:List ByteArray:=[⟨#[97]⟩,⟨#[98]⟩,⟨#[120]⟩,⟨#[121]⟩,⟨#[118]⟩,⟨#[120]⟩,⟨#[121]⟩]
theorem lU (xs:List UInt8)(k:Nat){n:Nat}(h:0<n):Ld xs k n<n:=by unfold Ld;split;exact yE _ h;exact h
@[go_sem] def MS.og (m:MS)(xs:List UInt8)(k:Nat):List (Option Obj):=[some (.box [.ptr 1 0,.pv (ag m.th),.pv (ag m.left),.pv (boolP m.set),.pv (boolP m.tx),.pv (boolP m.atomic),.pv (boolP m.loop),.own 3 m.held.length]),some (zK xs k),none,some (.row 9 1 (m.held.map λs=> [dh s]))]
inductive LfR:ER->Prop
 |num {n:Nat} (h:n<4):LfR ⟨1,n,bE,[]⟩
 |var {s:ByteArray} (h:s∈ [(⟨#[97]⟩:ByteArray),⟨#[98]⟩,⟨#[120]⟩,⟨#[121]⟩,⟨#[118]⟩]):LfR ⟨2,0,s,[]⟩
inductive ExR:ER->Prop
 |leaf {e:ER} (h:LfR e):ExR e
 |idx {e:ER} (h:LfR e):ExR ⟨3,0,⟨#[113]⟩,[e.r]⟩
 |bin {op:Int} {a b:ER} (ho:op∈ [(6:Int),7,8,11,13,17]) (ha:LfR a) (hb:LfR b):ExR ⟨op,0,bE,[a.r,b.r]⟩
theorem xm (xs:List UInt8)(k:Nat)(m:MS)(hx:xs.length<=1000)(hk:k<=xs.length):ACall Tryz.prog 148 [.ptr 0 0,.pv (ag 0)] (m.os xs k) (λv g=>∃(e:ER) (a:Nat),LfR e/\a<=xs.length/\v=rw_ e.r/\g=(m.os xs a).map some):=by
 refine wz Tryz.func148 (λ_=> [(8,13),(9,13),(8,17),(9,17)]) (h:=λR A=>?_);refine wb ?_<;>intros;refine wq (gz xs k 10 hx hk (by decide) (by decide)) [1] ?_;rintro r g ⟨rfl,a,u,rfl⟩;refine wb (A2.mk ?_ (A2.mk ?_ ?_))<;>intros
 any_goals
  refine wq (gz xs a 4 hx u (by decide) (by decide)) [1] ?_;rintro r g ⟨rfl,y,d,rfl⟩;refine ws ?_;refine wE (CX _) ?_;refine wb ?_<;>intros;refine wo A (rw_ (ER.r ⟨1,Ld xs a 4,bE,[]⟩)) ((m.os xs y).map some) [0,1,2] [] ?_;exact⟨_,_,.num (lU xs a (by decide)),d,rfl,rfl⟩
 refine wq (gz xs a 7 hx u (by decide) (by decide)) [1] ?_;rintro r g ⟨rfl,y,d,rfl⟩;refine ws ?_;refine jH names7 (λs=> [dh s]) (lU xs a (by decide)) (λs hs=>?_);refine ws ?_;refine wE (xh _) ?_;refine wb ?_<;>intros;refine wo A (rw_ (ER.r ⟨2,0,s,[]⟩)) ((m.os xs y).map some) [0,1,2] [] ?_;exact⟨_,_,.var (by simp[names7] at hs|-;grind),d,rfl,rfl⟩
def ops6:List Int:=[6,7,8,11,13,17]
theorem pW (xs:List UInt8)(k:Nat)(m:MS)(hx:xs.length<=1000)(hk:k<=xs.length):ACall Tryz.prog 148 [.ptr 0 0,.pv (ag 1)] (m.os xs k) (λv g=>∃(e:ER) (d:Nat),ExR e/\d<=xs.length/\v=rw_ e.r/\g=(m.os xs d).map some):=by refine wz Tryz.func148 (λ_=> [(8,13),(9,13),(8,17),(9,17)]) (h:=λR A=>?_);refine wb ?_<;>intros;refine wq (gz xs k 10 hx hk (by decide) (by decide)) [1] ?_;rintro r g ⟨rfl,d,u,rfl⟩;refine wb (A2.mk ?_ (A2.mk ?_ (A2.mk ?_ ?_)))<;>intros;refine wq (gz xs d 4 hx u (by decide) (by decide)) [1] ?_;rintro r g ⟨rfl,y,a,rfl⟩;refine ws ?_;refine wE (CX _) ?_;refine wb ?_<;>intros;refine wo A (rw_ (ER.r ⟨1,Ld xs d 4,bE,[]⟩)) ((m.os xs y).map some) [0,1,2] [] ?_;exact⟨_,_,.leaf (.num (lU xs d (by decide))),a,rfl,rfl⟩;refine wq (gz xs d 7 hx u (by decide) (by decide)) [1] ?_;rintro r g ⟨rfl,y,a,rfl⟩;refine ws ?_;refine jH names7 (λs=> [dh s]) (lU xs d (by decide)) (λs hs=>?_);refine ws ?_;refine wE (xh _) ?_;refine wb ?_<;>intros;refine wo A (rw_ (ER.r ⟨2,0,s,[]⟩)) ((m.os xs y).map some) [0,1,2] [] ?_;exact⟨_,_,.leaf (.var (by simp[names7] at hs|-;grind)),a,rfl,rfl⟩;refine wq (xm xs d m hx u) [0,1,2] ?_;rintro r g ⟨e,y,he,a,rfl,rfl⟩;refine wb ?_<;>intros;refine wo A (rw_ (ER.r ⟨3,0,⟨#[113]⟩,[e.r]⟩)) ((m.os xs y).map some) [0,1,2] [] ?_;exact⟨_,_,.idx he,a,rfl,rfl⟩;refine wQ (gz xs d 6 hx u (by decide) (by decide)) [1] ⟨rfl,k,hk,rfl⟩ ?_;rintro r g ⟨rfl,y,a,rfl⟩;refine wb ?_<;>intros;refine jH ops6 (λn=> [ag n]) (lU xs d (by decide)) (λop ho=>?_);refine ws ?_;refine wQ (xm xs y m hx a) [0,1,2] ⟨⟨1,(0:Nat),bE,[]⟩,k,.num (by decide),hk,rfl,rfl⟩ ?_;rintro r g ⟨e,H,he,B,rfl,rfl⟩;refine wb ?_<;>intros;refine wQ (xm xs H m hx B) [0,1,2] ⟨⟨1,(0:Nat),bE,[]⟩,k,.num (by decide),hk,rfl,rfl⟩ ?_;rintro r g ⟨G,I,D,E,rfl,rfl⟩;refine wb ?_<;>intros;refine wE (yD op e G) ?_;refine wb ?_<;>intros;refine wo A (rw_ (ER.r ⟨op,0,bE,[e.r,G.r]⟩)) ((m.os xs I).map some) [0,1,2] [] ?_;exact⟨_,_,.bin ho he D,E,rfl,rfl⟩
end AM
namespace AM
open Go Go.Proofs Mk
abbrev iT (ss:List ByteArray):List (List PV):=ss.map λs=> [dh s]
theorem acK (ss:List ByteArray)(s:ByteArray)(d:ss.length<=1000000):FnEq Tryz.prog 94 [.pv (.sl (iT ss)),.pv (dh s)] (.pv (ag (iR ss s))):=by
 refine wf Tryz.func94 (λ_=> []) (h:=λR a=>?_);refine wb ?_<;>intros;refine wl (λi:Nat=> [(0,.pv (.sl (iT ss))),(1,.pv (dh s)),(5,.pv (ag i))]) (λ_=> []) (λi=>i<=ss.length/\iR ss s=fH s i (ss.drop i)) (λi=>ss.length-i) 0 ⟨aG _,rfl⟩ (vm []) (λi ⟨hi,ha⟩=>?_);refine wb (A2.mk ?_ ?_)<;>intros
 . have h2:i<ss.length:=(by omega);refine aB (x:=ss[i]) (DC _) (by simp[h2]) rfl ?_;refine wb (A2.mk ?_ ?_)<;>intros
   . rw[Mk.at_hit h2 ‹_› ha] at a;exact wr a
   . exact sr_mark ⟨i+1,⟨h2,oN h2 ‹_› ha⟩,by omega,vm []⟩
 . rw[sW (by omega) ha] at a;exact wr a
theorem Qj (ss:List ByteArray)(s:ByteArray)(d:ss.length<=1000000):ACall Tryz.prog 94 [.own 0 ss.length,.pv (dh s)] [.row 9 1 (iT ss)] (λv g=>v= .pv (ag (iR ss s))/\g=[some (.row 9 1 (iT ss))]):=by
 refine wz Tryz.func94 (λ_=> []) (h:=λR a=>?_);refine wb ?_<;>intros;refine wl (λi:Nat=> [(0,.own 0 ss.length),(1,.pv (dh s)),(5,.pv (ag i))]) (λ_=> [some (.row 9 1 (iT ss))]) (λi=>i<=ss.length/\iR ss s=fH s i (ss.drop i)) (λi=>ss.length-i) 0 ⟨aG _,rfl⟩ (vm [0]) (λi ⟨hi,ha⟩=>?_);refine wb (A2.mk ?_ ?_)<;>intros
 . have h2:i<ss.length:=(by omega);refine yO (x:=[dh ss[i]]) (by simp[h2]) rfl ?_;refine wb (A2.mk ?_ ?_)<;>intros
   . refine wo a (.pv (ag i)) [some (.row 9 1 (iT ss))] [0] [] ?_;exact⟨by rw[Mk.at_hit h2 ‹_› ha],rfl⟩
   . exact sr_mark ⟨i+1,⟨h2,oN h2 ‹_› ha⟩,by omega,vm [0]⟩
 . refine wo a (.pv (ag (-1))) [some (.row 9 1 (iT ss))] [0] [] ?_;exact⟨by rw[sW (by omega) ha],rfl⟩
theorem sZ (xs:List UInt8)(k:Nat)(m:MS)(s:ByteArray)(hm:m.held.length<=1000000):ACall Tryz.prog 151 [.ptr 0 0,.pv (dh s)] (m.os xs k) (λv g=>(∃b,v= .pv (boolP b))/\g=(m.os xs k).map some):=by refine wz Tryz.func151 (λ_=> []) (h:=λR a=>?_);refine wb ?_<;>intros;refine wq (Qj m.held s hm) [2] ?_;rintro r g ⟨rfl,rfl⟩;refine wb ?_<;>intros;refine wo a (.pv (boolP (decide (0<=iR m.held s)))) ((m.os xs k).map some) [0,1,2] [] ?_;exact⟨⟨_,rfl⟩,rfl⟩
structure CeR where
 name:ByteArray
 ix:Int
 size:Int
 vol:Bool
 init:Int
@[go_sem] def CeR.r (c:CeR):List PV:=[dh c.name,ag c.ix,ag c.size,boolP c.vol,ag c.init]
def OZ:List CeR:=[⟨⟨#[120]⟩,0,0,false,0⟩,⟨⟨#[121]⟩,0,0,false,1⟩,⟨⟨#[118]⟩,0,0,true,0⟩,⟨⟨#[113]⟩,0,2,false,0⟩,⟨⟨#[113]⟩,1,2,false,0⟩]
def Po:List (ByteArray×Bool):=[(⟨#[109]⟩,false),(⟨#[110]⟩,false),(⟨#[114]⟩,true)]
@[go_sem] def Pq (p:ByteArray×Bool):List PV:=[dh p.1,boolP p.2]
def O1:List (ByteArray×Int):=[(⟨#[99]⟩,0)]
@[go_sem] def V3 (p:ByteArray×Int):List PV:=[dh p.1,ag p.2]
def V4:List ByteArray:=[⟨#[102]⟩]
@[go_sem] def V5 (p:Nat×Nat):List PV:=[ag p.1,ag p.2,ag 0]
@[go_sem] def qJ (n:Nat)(ss:List (Nat×Nat)):List PV:=[.sl (OZ.map CeR.r),.sl (Po.map Pq),.sl (O1.map V3),.sl (iT V4),.sl (iT (thNames n)),.sl (ss.map V5)]
@[go_sem] theorem TG:OZ.length=5:=rfl
@[go_sem] theorem alT:Po.length=3:=rfl
@[go_sem] theorem TI:O1.length=1:=rfl
@[go_sem] theorem alU:V4.length=1:=rfl
end AM
namespace Mk
open AM
@[go_sem] def In.r (i:In):List PV:=[ag i.op,ag i.a,ag i.b,ag i.c,ag i.n,ag i.site]
end Mk
namespace AM
open Go Go.Proofs Mk
abbrev Wh (l:List Int):List (List PV):=l.map λx=> [ag x]
theorem jr (i:In):FnEq Tryz.prog 72 [rw_ i.r] (.pv (.sl (Wh (regsI i)))):=by obtain⟨op,a,b,c,n,st⟩:=i;unfold regsI;dsimp only;refine wf Tryz.func72 (λ_=> []) (h:=λR d=>?_);refine wb (A2.mk ?_ (A2.mk ?_ (A2.mk ?_ (A2.mk ?_ (A2.mk ?_ (A2.mk ?_ (A2.mk ?_ (A2.mk ?_ (A2.mk ?_ (A2.mk ?_ (A2.mk ?_ ?_)))))))))))<;>intros;all_goals exact wr d
@[go_sem] def tcR (p:Int×List In):List PV:=[ag p.1,.sl (p.2.map In.r)]
@[go_sem] def coR (n:Nat)(ss:List (Nat×Nat))(cs:List (Int×List In)):List PV:=[.sl (OZ.map CeR.r),.sl (Po.map Pq),.sl (O1.map V3),.sl (iT V4),.sl (iT (thNames n)),.sl (ss.map V5),.sl (cs.map tcR)]
abbrev u8P (n:Int):PV:= .sc (.int .u8 n)
def aa7 (n:Int):Bool:=decide (97<=n) && decide (n<=122) || decide (65<=n) && decide (n<=90)
def ad8 (n:Int):Bool:=decide (48<=n) && decide (n<=57)
def ad9 (n:Int):Bool:=aa7 n || ad8 n || decide (n=95)
theorem Hg (n:Int):FnEq Tryz.prog 122 [.pv (u8P n)] (.pv (boolP (aa7 n))):=by unfold aa7;refine wf Tryz.func122 (λ_=> []) (h:=λR a=>?_);refine wb (A2.mk ?_ (A2.mk ?_ (A2.mk ?_ ?_)))<;>intros;all_goals exact wr a
theorem X6 (n:Int):FnEq Tryz.prog 157 [.pv (u8P n)] (.pv (boolP (ad8 n))):=by unfold ad8;refine wf Tryz.func157 (λ_=> []) (h:=λR a=>?_);refine wb (A2.mk ?_ ?_)<;>intros;all_goals exact wr a
theorem X7 (n:Int):FnEq Tryz.prog 124 [.pv (u8P n)] (.pv (boolP (ad9 n))):=by unfold ad9;refine wf Tryz.func124 (λ_=> []) (h:=λR a=>?_);refine wb ?_<;>intros;refine wE (Hg n) ?_;refine wb (A2.mk ?_ ?_)<;>intros;exact wr a;refine wE (X6 n) ?_;refine wb (A2.mk ?_ ?_)<;>intros;all_goals exact wr a
def Np:List ByteArray:=[⟨#[118,97,114]⟩,⟨#[118,111,108,97,116,105,108,101]⟩,⟨#[109,117,116,101,120]⟩,⟨#[114,119,108,111,99,107]⟩,⟨#[99,111,110,100]⟩,⟨#[102,117,116,117,114,101]⟩,⟨#[116,104,114,101,97,100]⟩,⟨#[105,102]⟩,⟨#[101,108,115,101]⟩,⟨#[119,104,105,108,101]⟩,⟨#[108,111,99,107]⟩,⟨#[114,101,97,100]⟩,⟨#[119,114,105,116,101]⟩,⟨#[116,114,97,110,115,97,99,116,105,111,110]⟩,⟨#[97,116,111,109,105,99]⟩,⟨#[119,97,105,116]⟩,⟨#[110,111,116,105,102,121]⟩,⟨#[110,111,116,105,102,121,97,108,108]⟩,⟨#[115,112,97,119,110]⟩,⟨#[106,111,105,110]⟩,⟨#[115,101,116]⟩,⟨#[103,101,116]⟩]
theorem aa8:FnEq Tryz.prog 156 [] (.pv (.sl (iT Np))):=by refine wf Tryz.func156 (λ_=> []) (h:=λR a=>?_);refine wb ?_<;>intros;exact wr a
theorem anC:Np.length=22:=rfl
theorem aa9 (s:ByteArray)(h:Np.any (λk=>decide (k=s))=false):FnEq Tryz.prog 123 [.pv (dh s)] (.pv (boolP false)):=by have a:=anC;refine wf Tryz.func123 (λ_=> []) (h:=λR d=>?_);refine wb ?_<;>intros;refine wE aa8 ?_;refine wb ?_<;>intros;refine wl (λi:Nat=> [(0,.pv (dh s)),(3,.pv (.sl (iT Np))),(4,.pv (ag i))]) (λ_=> []) (λi=>i<=Np.length) (λi=>Np.length-i) 0 (aG _) (vm []) (λi hi=>?_);refine wb (A2.mk ?_ ?_)<;>intros;refine jH Np (λx=> [dh x]) (by omega) (λx hx=>?_);refine wb (A2.mk ?_ ?_)<;>intros;simp only[Jo,gK] at h;exact absurd ‹_› (h x hx);exact sr_mark ⟨i+1,by omega,by omega,vm []⟩;exact wr d
def kU (s:ByteArray):Bool:=decide (1<=s.size) && decide (s.size<=12) && aa7 ((s[0]?).getD 0).toNat &&(List.range s.size).all (λi=>ad9 ((s[i]?).getD 0).toNat) && !Np.any (λk=>decide (k=s))
theorem jo (s:ByteArray)(h:kU s=true):FnEq Tryz.prog 93 [.pv (dh s)] (.pv (boolP true)):=by simp only[kU,cZ,gK,DZ,mf,yB] at h;obtain⟨⟨⟨⟨h1,h2⟩,h3⟩,h4⟩,h5⟩:=h;refine wf Tryz.func93 (λ_=> []) (h:=λR a=>?_);refine wb ?_<;>intros;refine wE (Hg _) ?_;simp only[Int.toNat_zero,h3];refine wb ?_<;>intros;refine wE (aa9 s h5) ?_;refine wb ?_<;>intros;refine wl (λi:Nat=> [(0,.pv (dh s)),(3,.pv (ag i))]) (λ_=> []) (λi=>i<=s.size) (λi=>s.size-i) 0 (aG _) (vm []) (λi hi=>?_);refine wb (A2.mk ?_ ?_)<;>intros;refine wE (X7 _) ?_;rw[h4 i (by omega)];refine wb ?_<;>intros;exact sr_mark ⟨i+1,by omega,by omega,vm []⟩;exact wr a
structure DR where
 kind:Int
 name:ByteArray
 size:Int
 init:Int
 on:ByteArray
@[go_sem] def DR.r (d:DR):List PV:=[ag d.kind,ag 0,dh d.name,ag d.size,ag d.init,dh d.on]
def dL:List DR:=[⟨1,⟨#[120]⟩,0,0,bE⟩,⟨1,⟨#[121]⟩,0,1,bE⟩,⟨2,⟨#[118]⟩,0,0,bE⟩,⟨1,⟨#[113]⟩,2,0,bE⟩,⟨3,⟨#[109]⟩,0,0,bE⟩,⟨3,⟨#[110]⟩,0,0,bE⟩,⟨4,⟨#[114]⟩,0,0,bE⟩,⟨5,⟨#[99]⟩,0,0,⟨#[109]⟩⟩,⟨6,⟨#[102]⟩,0,0,bE⟩]
@[go_sem] theorem apQ:dL.length=9:=rfl
abbrev XR:List (List PV):=dL.map DR.r
@[go_sem] def thR (name:ByteArray)(lo:List ByteArray)(b:PV):List PV:=[dh name,ag 0,.sl (iT lo),b]
theorem Oh:FnEq Tryz.prog 73 [] (.pv (.sl XR)):=by refine wf Tryz.func73 (λ_=> []) (h:=λR a=>?_);refine wb ?_<;>intros;exact wr a
theorem Hf (l:List DR)(s:ByteArray)(d:l.length<=1000):FnEq Tryz.prog 140 [.pv (.sl (l.map DR.r)),.pv (dh s)] (.pv (ag (iR (l.map DR.name) s))):=by
 refine wf Tryz.func140 (λ_=> []) (h:=λR a=>?_);refine wb ?_<;>intros;refine wl (λi:Nat=> [(0,.pv (.sl (l.map DR.r))),(1,.pv (dh s)),(5,.pv (ag i))]) (λ_=> []) (λi=>i<=l.length/\iR (l.map DR.name) s=fH s i ((l.map DR.name).drop i)) (λi=>l.length-i) 0 ⟨aG _,rfl⟩ (vm []) (λi ⟨hi,ha⟩=>?_);refine wb (A2.mk ?_ ?_)<;>intros
 . have h2:i<l.length:=(by omega);refine aB (x:=l[i]) (DC _) (by simp[h2]) rfl ?_;refine wb (A2.mk ?_ ?_)<;>intros
   . rw[at_hit (i:=i) (by simpa using h2) (by simpa using ‹l[i].name=s›) ha] at a;exact wr a
   . exact sr_mark ⟨i+1,⟨h2,oN (i:=i) (by simpa using h2) (by simpa using ‹_›) ha⟩,by omega,vm []⟩
 . rw[sW (i:=i) (by simp;omega) ha] at a;exact wr a
