/- Words. -/
import Derived.Test.YtfbkkgfkhhibfaaGreatBlC
set_option linter.unusedVariables false
set_option maxRecDepth 100000
set_option maxHeartbeats 8000000
namespace Iv
theorem Fb (th:Int)(f:Nat):∀(b:Bytes) (rc la:Int) (x:Blk) (k:Nat),(x,k)∈bI th f b rc la→∃b':Bytes,b'.length≤b.length∧Iv.decode b'=(x,k,0):=by
 induction f with
 | zero=>intro b rc la x k h;simp[bI] at h
 |
  succ f ih=>
  intro b rc la x k h;unfold bI at h;split at h
  · rename_i hg
    obtain⟨e0,h1,h2,_⟩:=kP hg;rcases List.mem_cons.1 h with h | h
    · refine⟨b,Nat.le_refl _,?_⟩;injection h with hx hk;rw[hx,hk,←e0]
    · obtain⟨b',hb,hd⟩:=ih _ _ _ x k h;exact⟨b',by rw[List.length_drop] at hb;omega,hd⟩
  · simp at h
theorem AA {th rc la:Int}{b:Bytes}{x:Blk}{k:Nat}(h:(x,k)∈aJ th b rc la):∃b':Bytes,b'.length≤b.length∧Iv.decode b'=(x,k,0):=Fb th _ b rc la x k h
theorem Fe (th:Int)(f:Nat):∀(b:Bytes) (rc la:Int),(bI th f b rc la).length≤b.length:=by
 induction f with
 | zero=>intro b rc la;simp[bI]
 |
  succ f ih=>
  intro b rc la;unfold bI;split
  · rename_i hg
    obtain⟨e0,h1,h2,_⟩:=kP hg;have:=ih (b.drop (Iv.decode b).2.1) (rc+(Iv.decode b).1.recs.length) (iJ (Iv.decode b).1 la);rw[List.length_drop] at this;rw[List.length_cons];omega
  · simp
theorem Az (th rc la:Int)(b:Bytes):(aJ th b rc la).length≤b.length:=Fe th _ b rc la
theorem Lt {b:Bytes}{x:Blk}{k:Nat}(h:Iv.decode b=(x,k,0)):(encode x).1.length≤b.length∧x.recs.length≤64:=by
 obtain⟨f0,hy,hk,_⟩:=oK h;refine⟨?_,?_⟩
 · unfold encode;rw[if_pos f0];show (ak x).length≤_;rw[←hy,List.length_take];omega
 · exact (dR f0).2.1
def mJ:Blk:=⟨0,0,[⟨0,⟨0,1,0,0,0,[],[]⟩⟩]⟩
theorem alU:(encode mJ).2=0∧(encode mJ).1.length≤100∧(aJ 0 (encode mJ).1 0 (-1)).length=1∧sizeB (aJ 0 (encode mJ).1 0 (-1))=(encode mJ).1.length:=by decide+kernel
end Iv
namespace Go.Proofs.YtfbkkgfkhhibfaaGreat
open Go Go.RowKit Iv
theorem Jd (w:World):Calls Tryz.prog 19 #[] w fun e w'=>e= .returned (.bool true)∧w.grownBy w' none:=by
 obtain⟨a1,a2,a3,a4⟩:=alU;obtain⟨W,hW⟩:∃W,W=w.alloc (.cells #[.int .i64 0,.int .i64 0,.int .i64 1,.int .i64 0,.int .i64 0,.int .i64 0,.slice none 0 0,.slice none 0 0] 54):=⟨_,rfl⟩;have hg:w.grownBy W none:=by rw[hW];exact World.grownBy_alloc w _ none
 have hh:Held W w.heap.size 54 #[.int .i64 0,.int .i64 0,.int .i64 1,.int .i64 0,.int .i64 0,.int .i64 0,.slice none 0 0,.slice none 0 0]:=by rw[hW];exact Held.new _ _ _
 have hs:W.heap.size=w.heap.size+1:=by rw[hW];simp
 have hrec:Recs W W.heap.size (some ⟨w.heap.size,0,none⟩) 1 mJ.recs:=by
  refine⟨rfl,fun k r hr=>?_⟩
  obtain rfl:k=0:=by
   have:=(List.getElem?_eq_some_iff.1 hr).1;simp[mJ] at this;exact this
  have:r=⟨0,⟨0,1,0,0,0,[],[]⟩⟩:=by simp[mJ] at hr;exact hr.symm
  subst this;refine⟨w.heap.size,0,none,0,0,none,0,0,rfl,by omega,fun j u hu=>?_,Lies.nil,Lies.nil⟩;have:=hh.cell j;simp only[Nat.zero_mul,Nat.zero_add];rw[this];exact hu
 have CE:=ae (uU mJ (some ⟨w.heap.size,0,none⟩) 1 1 W.heap.size W hrec (Nat.le_refl _) (fun r hr=>by
  have:r=⟨0,⟨0,1,0,0,0,[],[]⟩⟩:=by simp[mJ] at hr;exact hr
  subst this;have z:∀m:Int,0≤m→m≤1→inI64 m:=fun m h1 h2=>⟨by omega,by omega⟩
  exact⟨z _ (by decide) (by decide),z _ (by decide) (by decide),z _ (by decide) (by decide),z _ (by decide) (by decide),z _ (by decide) (by decide),z _ (by decide) (by decide),fun m hm=>by simp at hm,fun m hm=>by simp at hm⟩) W.heap.size (Nat.le_refl _))
 have HW:=ae hW;have HA:=ae (And.intro a3 a4);clear hW hh hs hrec a1 a3 a4;go_enter Tryz.func19,Tryz.ntmps19;go_wp2_with fail;rw[show w.alloc (.cells #[.int .i64 0,.int .i64 0,.int .i64 1,.int .i64 0,.int .i64 0,.int .i64 0,.slice none 0 0,.slice none 0 0] 54)=W from HW.out.symm];refine CE.out.mono ?_;rintro e w1 ⟨v1,rfl,hown1,hg1⟩;obtain⟨A1,c1,hv1,hn1,hm1,hl1,ho1⟩:=aj hown1;have CB:=ae (vz A1 _ c1 _ (encode mJ).1 0 w1 hl1 (Nat.le_refl _) hn1 hm1 ho1 (by omega));clear hl1 ho1 hown1;subst hv1;go_wp2_with fail;refine CB.out.mono ?_;rintro e w2 ⟨v2,css,rfl,hown2,hb2,hg2⟩;obtain⟨A2,c2,hv2,hn2,hm2,hl2,ho2⟩:=aj hown2;clear hl2 ho2 hown2 hb2;subst hv2;rw[HA.out.1,HA.out.2];have hxx:(((encode mJ).1.length:Int)==((encode mJ).1.length:Int))=true:=by simp
 go_wp2_with fail;go_ret;exact⟨rfl,af (af hg hg1 (.inl rfl)) hg2 (.inl rfl)⟩
