/- Words. -/
import Derived.Test.YtfbkkgfkhhibfaaGreatBlC
set_option linter.unusedVariables false
set_option maxRecDepth 100000
set_option maxHeartbeats 8000000
namespace Iv
theorem LZ (th:Int)(f:Nat):∀(b:Bytes) (d q:Int) (x:Blk) (k:Nat),(x,k)∈bZ th f b d q->∃a:Bytes,a.length<=b.length/\Iv.decode a=(x,k,0):=by
 induction f with
 |zero=>intro b d q x k h;simp[bZ] at h
 |
  succ f ih=>
  intro b d q x k h;unfold bZ at h;split at h;rename_i hg;obtain⟨e0,h1,h2,_⟩:=lY hg;rcases fV.1 h with h|h;refine⟨b,ak _,?_⟩;injection h with hx hk;rw[hx,hk,<-e0];obtain⟨a,hb,u⟩:=ih _ _ _ x k h;exact⟨a,by rw[pG] at hb;omega,u⟩;simp at h
theorem wU {th a d:Int}{b:Bytes}{x:Blk}{k:Nat}(h:(x,k)∈aN th b a d):∃q:Bytes,q.length<=b.length/\Iv.decode q=(x,k,0):=LZ th _ b a d x k h
theorem L8 (th:Int)(f:Nat):∀(b:Bytes) (a d:Int),(bZ th f b a d).length<=b.length:=by
 induction f with
 |zero=>intro b a d;simp[bZ]
 |
  succ f ih=>
  intro b a d;unfold bZ;split;rename_i hg;obtain⟨e0,h1,h2,_⟩:=lY hg;have:=ih (b.drop (Iv.decode b).2.1) (a+(Iv.decode b).1.recs.length) (mZ (Iv.decode b).1 d);rw[pG] at this;rw[iR];omega;simp
theorem wS (th a d:Int)(b:Bytes):(aN th b a d).length<=b.length:=L8 th _ b a d
theorem EP {b:Bytes}{x:Blk}{k:Nat}(h:Iv.decode b=(x,k,0)):(encode x).1.length<=b.length/\x.recs.length<=64:=by obtain⟨f0,a,hk,_⟩:=oP h;refine⟨?_,?_⟩;unfold encode;rw[if_pos f0];show (dC x).length<=_;rw[<-a,sS];omega;exact (iH f0).2.1
def qH:Blk:=⟨0,0,[⟨0,⟨0,1,0,0,0,[],[]⟩⟩]⟩
theorem ar1:(encode qH).2=0/\(encode qH).1.length<=100/\(aN 0 (encode qH).1 0 (-1)).length=1/\sizeB (aN 0 (encode qH).1 0 (-1))=(encode qH).1.length:=by decide+kernel
end Iv
namespace Go.Proofs.YtfbkkgfkhhibfaaGreat
open Go Go.RowKit Iv
theorem BB (w:World):Calls Tryz.prog 19 #[] w λe w'=>e= .returned (.bool true)/\w.grownBy w' none:=by obtain⟨a1,a2,a3,a4⟩:=ar1;obtain⟨W,hW⟩:∃W,W=w.alloc (.cells #[.int .i64 0,.int .i64 0,.int .i64 1,.int .i64 0,.int .i64 0,.int .i64 0,.slice none 0 0,.slice none 0 0] 54):=⟨_,rfl⟩;have hg:w.grownBy W none:=(by rw[hW];exact aP w _ none);have O:Held W w.heap.size 54 #[.int .i64 0,.int .i64 0,.int .i64 1,.int .i64 0,.int .i64 0,.int .i64 0,.slice none 0 0,.slice none 0 0]:=(by rw[hW];exact Held.new _ _ _);have hs:W.heap.size=w.heap.size+1:=(by rw[hW];simp);have q:Recs W W.heap.size (some ⟨w.heap.size,0,none⟩) 1 qH.recs:=(by refine⟨rfl,λk r hr=>?_⟩;obtain rfl:k=0:=(by have:=(dD.1 hr).1;simp[qH] at this;exact this);have:r=⟨0,⟨0,1,0,0,0,[],[]⟩⟩:=(by simp[qH] at hr;exact hr.symm);subst this;refine⟨w.heap.size,0,none,0,0,none,0,0,rfl,by omega,λj u U=>?_,Lies.nil,Lies.nil⟩;have:=O.cell j;simp only[TC,eX];rw[this];exact U);have V:=ae (uj qH (some ⟨w.heap.size,0,none⟩) 1 1 W.heap.size W q (ak _) (λr hr=>by have:r=⟨0,⟨0,1,0,0,0,[],[]⟩⟩:=(by simp[qH] at hr;exact hr);subst this;have z:∀m:Int,0<=m->m<=1->inI64 m:=λm h1 h2=>⟨by omega,by omega⟩;exact⟨z _ (by decide) (by decide),z _ (by decide) (by decide),z _ (by decide) (by decide),z _ (by decide) (by decide),z _ (by decide) (by decide),z _ (by decide) (by decide),λm hm=>by simp at hm,λm hm=>by simp at hm⟩) W.heap.size (ak _));have X:=ae hW;have R:=ae (And.intro a3 a4);clear hW O hs q a1 a3 a4;go_enter Tryz.func19,Tryz.ntmps19;go_wp2_with fail;rw[show w.alloc (.cells #[.int .i64 0,.int .i64 0,.int .i64 1,.int .i64 0,.int .i64 0,.int .i64 0,.slice none 0 0,.slice none 0 0] 54)=W from X.o.symm];refine V.o.mono ?_;rintro e w1 ⟨v1,rfl,a,D⟩;obtain⟨A1,c1,E,G,H,y,B⟩:=ai a;have Y:=ae (Bv A1 _ c1 _ (encode qH).1 0 w1 y (ak _) G H B (by omega));clear y B a;subst E;go_wp2_with fail;refine Y.o.mono ?_;rintro e w2 ⟨v2,css,rfl,d,I,J⟩;obtain⟨A2,c2,L,Z,a6,M,N⟩:=ai d;clear M N d I;subst L;rw[R.o.1,R.o.2];have a7:(((encode qH).1.length:Int)==((encode qH).1.length:Int))=true:=(by simp);go_wp2_with fail;go_ret;exact⟨rfl,af (af hg D (.inl rfl)) J (.inl rfl)⟩
