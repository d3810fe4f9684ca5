/- Words. -/
import Derived.Test.YtfbkkgfkhhibfaaGreatBlC
set_option linter.unusedVariables false
set_option maxRecDepth 100000
set_option maxHeartbeats 8000000
namespace Iv
theorem MG (th:Int)(f:Nat):∀(b:Bytes) (rc la:Int) (x:Blk) (k:Nat),(x,k)∈dm th f b rc la->∃a:Bytes,a.length<=b.length/\Iv.decode a=(x,k,0):=by
 induction f with
 |zero=>intro b rc la x k h;simp[dm] at h
 |
  succ f ih=>
  intro b rc la x k h;unfold dm at h;split at h;rename_i hg;obtain⟨e0,h1,h2,_⟩:=mJ hg;rcases gJ.1 h with h|h;refine⟨b,au _,?_⟩;injection h with hx hk;rw[hx,hk,<-e0];obtain⟨a,hb,d⟩:=ih _ _ _ x k h;exact⟨a,by rw[qf] at hb;omega,d⟩;simp at h
theorem xh {th rc la:Int}{b:Bytes}{x:Blk}{k:Nat}(h:(x,k)∈aI th b rc la):∃a:Bytes,a.length<=b.length/\Iv.decode a=(x,k,0):=MG th _ b rc la x k h
theorem MH (th:Int)(f:Nat):∀(b:Bytes) (rc la:Int),(dm th f b rc la).length<=b.length:=by
 induction f with
 |zero=>intro b rc la;simp[dm]
 |
  succ f ih=>
  intro b rc la;unfold dm;split;rename_i hg;obtain⟨e0,h1,h2,_⟩:=mJ hg;have:=ih (b.drop (Iv.decode b).2.1) (rc+(Iv.decode b).1.recs.length) (jg (Iv.decode b).1 la);rw[qf] at this;rw[iZ];omega;simp
theorem xg (th rc la:Int)(b:Bytes):(aI th b rc la).length<=b.length:=MH th _ b rc la
theorem E5 {b:Bytes}{x:Blk}{k:Nat}(h:Iv.decode b=(x,k,0)):(encode x).1.length<=b.length/\x.recs.length<=64:=by obtain⟨f0,a,hk,_⟩:=pK h;refine⟨?_,?_⟩;unfold encode;rw[if_pos f0];show (az x).length<=_;rw[<-a,qE];omega;exact (fE f0).2.1
def qU:Blk:=⟨0,0,[⟨0,⟨0,1,0,0,0,[],[]⟩⟩]⟩
theorem arK:(encode qU).2=0/\(encode qU).1.length<=100/\(aI 0 (encode qU).1 0 (-1)).length=1/\sizeB (aI 0 (encode qU).1 0 (-1))=(encode qU).1.length:=by decide+kernel
end Iv
namespace Go.Proofs.YtfbkkgfkhhibfaaGreat
open Go Go.RowKit Iv
theorem Qe (w:World):Calls Tryz.prog 19 #[] w λe w'=>e= .returned (.bool true)/\w.grownBy w' none:=by obtain⟨a1,a2,a3,a4⟩:=arK;obtain⟨W,hW⟩:∃W,W=w.alloc (.cells #[.int .i64 0,.int .i64 0,.int .i64 1,.int .i64 0,.int .i64 0,.int .i64 0,.slice none 0 0,.slice none 0 0] 54):=⟨_,rfl⟩;have hg:w.grownBy W none:=(by rw[hW];exact aV w _ none);have O:Held W w.heap.size 54 #[.int .i64 0,.int .i64 0,.int .i64 1,.int .i64 0,.int .i64 0,.int .i64 0,.slice none 0 0,.slice none 0 0]:=(by rw[hW];exact Held.new _ _ _);have hs:W.heap.size=w.heap.size+1:=(by rw[hW];simp);have q:Recs W W.heap.size (some ⟨w.heap.size,0,none⟩) 1 qU.recs:=(by refine⟨rfl,λk r hr=>?_⟩;obtain rfl:k=0:=(by have:=(dF.1 hr).1;simp[qU] at this;exact this);have:r=⟨0,⟨0,1,0,0,0,[],[]⟩⟩:=(by simp[qU] at hr;exact hr.symm);subst this;refine⟨w.heap.size,0,none,0,0,none,0,0,rfl,by omega,λj u U=>?_,Lies.nil,Lies.nil⟩;have:=O.cell j;simp only[TR,fG];rw[this];exact U);have V:=ae (uC qU (some ⟨w.heap.size,0,none⟩) 1 1 W.heap.size W q (au _) (λr hr=>by have:r=⟨0,⟨0,1,0,0,0,[],[]⟩⟩:=(by simp[qU] at hr;exact hr);subst this;have z:∀m:Int,0<=m->m<=1->inI64 m:=λm h1 h2=>⟨by omega,by omega⟩;exact⟨z _ (by decide) (by decide),z _ (by decide) (by decide),z _ (by decide) (by decide),z _ (by decide) (by decide),z _ (by decide) (by decide),z _ (by decide) (by decide),λm hm=>by simp at hm,λm hm=>by simp at hm⟩) W.heap.size (au _));have X:=ae hW;have R:=ae (And.intro a3 a4);clear hW O hs q a1 a3 a4;go_enter Tryz.func19,Tryz.ntmps19;go_wp2_with fail;rw[show w.alloc (.cells #[.int .i64 0,.int .i64 0,.int .i64 1,.int .i64 0,.int .i64 0,.int .i64 0,.slice none 0 0,.slice none 0 0] 54)=W from X.o.symm];refine V.o.mono ?_;rintro e w1 ⟨v1,rfl,a,D⟩;obtain⟨A1,c1,E,G,H,y,B⟩:=ai a;have Y:=ae (BH A1 _ c1 _ (encode qU).1 0 w1 y (au _) G H B (by omega));clear y B a;subst E;go_wp2_with fail;refine Y.o.mono ?_;rintro e w2 ⟨v2,css,rfl,d,I,J⟩;obtain⟨A2,c2,L,Z,a6,M,N⟩:=ai d;clear M N d I;subst L;rw[R.o.1,R.o.2];have a7:(((encode qU).1.length:Int)==((encode qU).1.length:Int))=true:=(by simp);go_wp2_with fail;go_ret;exact⟨rfl,af (af hg D (.inl rfl)) J (.inl rfl)⟩
