/- Words. -/
import Derived.Test.YtfbkkgfkhhibfaaGreatBlC
set_option linter.unusedVariables false
set_option maxRecDepth 100000
set_option maxHeartbeats 8000000
namespace Iv
theorem KH (th:Int)(f:Nat):∀(b:Bytes) (rc la:Int) (x:Blk) (k:Nat),(x,k)∈bZ th f b rc la->∃a:Bytes,a.length<=b.length/\Iv.decode a=(x,k,0):=by
 induction f with
 |zero=>intro b rc la x k h;simp[bZ] at h
 |
  succ f ih=>
  intro b rc la x k h;unfold bZ at h;split at h;rename_i hg;obtain⟨e0,h1,h2,_⟩:=nM hg;rcases dV.1 h with h|h;refine⟨b,ax _,?_⟩;injection h with hx hk;rw[hx,hk,<-e0];obtain⟨a,hb,d⟩:=ih _ _ _ x k h;exact⟨a,by rw[qp] at hb;omega,d⟩;simp at h
theorem F5 {th rc la:Int}{b:Bytes}{x:Blk}{k:Nat}(h:(x,k)∈aN th b rc la):∃a:Bytes,a.length<=b.length/\Iv.decode a=(x,k,0):=KH th _ b rc la x k h
theorem KI (th:Int)(f:Nat):∀(b:Bytes) (rc la:Int),(bZ th f b rc la).length<=b.length:=by
 induction f with
 |zero=>intro b rc la;simp[bZ]
 |
  succ f ih=>
  intro b rc la;unfold bZ;split;rename_i hg;obtain⟨e0,h1,h2,_⟩:=nM hg;have:=ih (b.drop (Iv.decode b).2.1) (rc+(Iv.decode b).1.recs.length) (jR (Iv.decode b).1 la);rw[qp] at this;rw[iO];omega;simp
theorem FZ (th rc la:Int)(b:Bytes):(aN th b rc la).length<=b.length:=KI th _ b rc la
theorem QK {b:Bytes}{x:Blk}{k:Nat}(h:Iv.decode b=(x,k,0)):(encode x).1.length<=b.length/\x.recs.length<=64:=by obtain⟨f0,a,hk,_⟩:=sS h;refine⟨?_,?_⟩;unfold encode;rw[if_pos f0];show (ak x).length<=_;rw[<-a,mZ];omega;exact (fF f0).2.1
def qF:Blk:=⟨0,0,[⟨0,⟨0,1,0,0,0,[],[]⟩⟩]⟩
theorem ap1:(encode qF).2=0/\(encode qF).1.length<=100/\(aN 0 (encode qF).1 0 (-1)).length=1/\sizeB (aN 0 (encode qF).1 0 (-1))=(encode qF).1.length:=by decide+kernel
end Iv
namespace Go.Proofs.YtfbkkgfkhhibfaaGreat
open Go Go.RowKit Iv
theorem LX (w:World):Calls Tryz.prog 19 #[] w λe w'=>e= .returned (.bool true)/\w.grownBy w' none:=by obtain⟨a1,a2,a3,a4⟩:=ap1;obtain⟨W,hW⟩:∃W,W=w.alloc (.cells #[.int .i64 0,.int .i64 0,.int .i64 1,.int .i64 0,.int .i64 0,.int .i64 0,.slice none 0 0,.slice none 0 0] 54):=⟨_,rfl⟩;have hg:w.grownBy W none:=(by rw[hW];exact aY w _ none);have U:Held W w.heap.size 54 #[.int .i64 0,.int .i64 0,.int .i64 1,.int .i64 0,.int .i64 0,.int .i64 0,.slice none 0 0,.slice none 0 0]:=(by rw[hW];exact Held.new _ _ _);have hs:W.heap.size=w.heap.size+1:=(by rw[hW];simp);have y:Recs W W.heap.size (some ⟨w.heap.size,0,none⟩) 1 qF.recs:=(by refine⟨rfl,λk r hr=>?_⟩;obtain rfl:k=0:=(by have:=(bV.1 hr).1;simp[qF] at this;exact this);have:r=⟨0,⟨0,1,0,0,0,[],[]⟩⟩:=(by simp[qF] at hr;exact hr.symm);subst this;refine⟨w.heap.size,0,none,0,0,none,0,0,rfl,by omega,λj u X=>?_,Lies.nil,Lies.nil⟩;have:=U.cell j;simp only[Jl,dJ];rw[this];exact X);have Y:=ae (zX qF (some ⟨w.heap.size,0,none⟩) 1 1 W.heap.size W y (ax _) (λr hr=>by have:r=⟨0,⟨0,1,0,0,0,[],[]⟩⟩:=(by simp[qF] at hr;exact hr);subst this;have z:∀m:Int,0<=m->m<=1->inI64 m:=λm h1 h2=>⟨by omega,by omega⟩;exact⟨z _ (by decide) (by decide),z _ (by decide) (by decide),z _ (by decide) (by decide),z _ (by decide) (by decide),z _ (by decide) (by decide),z _ (by decide) (by decide),λm hm=>by simp at hm,λm hm=>by simp at hm⟩) W.heap.size (ax _));have Z:=ae hW;have V:=ae (And.intro a3 a4);clear hW U hs y a1 a3 a4;go_enter Tryz.func19,Tryz.ntmps19;go_wp2_with fail;rw[show w.alloc (.cells #[.int .i64 0,.int .i64 0,.int .i64 1,.int .i64 0,.int .i64 0,.int .i64 0,.slice none 0 0,.slice none 0 0] 54)=W from Z.o.symm];refine Y.o.mono ?_;rintro e w1 ⟨v1,rfl,a,D⟩;obtain⟨A1,c1,E,G,H,A,B⟩:=ai a;have CB:=ae (Am A1 _ c1 _ (encode qF).1 0 w1 A (ax _) G H B (by omega));clear A B a;subst E;go_wp2_with fail;refine CB.o.mono ?_;rintro e w2 ⟨v2,css,rfl,d,I,J⟩;obtain⟨A2,c2,L,a6,a7,N,O⟩:=ai d;clear N O d I;subst L;rw[V.o.1,V.o.2];have a8:(((encode qF).1.length:Int)==((encode qF).1.length:Int))=true:=(by simp);go_wp2_with fail;go_ret;exact⟨rfl,af (af hg D (.inl rfl)) J (.inl rfl)⟩
