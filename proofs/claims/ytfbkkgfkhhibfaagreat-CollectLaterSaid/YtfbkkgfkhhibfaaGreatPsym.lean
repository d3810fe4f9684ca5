/- Words. -/
import Derived.Sort.LotA
set_option linter.unusedVariables false
namespace Iv
open Go.Sort
theorem ET {β:Type}{lt:β->β->Bool}(hO:SWO lt)(x y:β)(a:lt x y=true):lt y x=false:=by
 cases hyx:lt y x with
 |false=>rfl
 |true=>have:=hO.trans x y x a hyx;rw[hO.irrefl] at this;exact absurd this (by decide)
variable {α : Type} [Inhabited α]
def fE (d:Array α)(a m b t:Nat):α:=if t<a\/b<=t then d[t]! else if t<a+(b-m) then d[t+(m-a)]! else d[t-(b-m)]!
def oV (d:Array α)(a b:Nat):Nat->Array α
 |0=>d
 |n+1=>swp (oV d a b n) (a+n) (b+n)
theorem jZ (d:Array α)(a b n:Nat):(oV d a b n).size=d.size:=by
 induction n with
 |zero=>rfl
 |succ n ih=>unfold oV;rw[size_swp,ih]
theorem zq (d:Array α)(a b:Nat):∀n,a+n<=b->b+n<=d.size->∀t,(oV d a b n)[t]! =if a<=t/\t<a+n then d[t+(b-a)]! else if b<=t/\t<b+n then d[t-(b-a)]! else d[t]! :=by
 intro n;induction n with
 |
  zero=>
  intro _ _ t;rw[if_neg (by omega),if_neg (by omega)];rfl
 |
  succ n u=>
  intro h1 h2 t;have u:=u (by omega) (by omega);unfold oV;by_cases e1:t=a+n;rw[e1,swp_left _ _ _ (by rw[jZ];omega) (by omega),u,if_neg (by omega),if_neg (by omega),if_pos (by omega)];congr 1;omega;by_cases y:t=b+n;rw[y,swp_right _ _ _ (by rw[jZ];omega),u,if_neg (by omega),if_neg (by omega),if_neg (by omega),if_pos (by omega)];congr 1;omega;rw[swp_other _ _ _ _ e1 y,u];by_cases c1:a<=t/\t<a+n;rw[if_pos c1,if_pos (by omega)];by_cases c2:b<=t/\t<b+n;rw[if_neg c1,if_pos c2,if_neg (by omega),if_pos (by omega)];rw[if_neg c1,if_neg c2,if_neg (by omega),if_neg (by omega)]
theorem wO (d:Array α)(lo hi a b n:Nat)(h0:lo<=a)(h1:a+n<=b)(h2:b+n<=hi)(h3:hi<=d.size):PermIn lo hi d (oV d a b n):=by
 induction n with
 |zero=>exact permIn_refl d lo hi
 |succ n ih=>exact permIn_trans d _ _ lo hi (ih (by omega) (by omega)) (swp_permIn _ lo hi _ _ (by omega) (by omega) (by omega) (by omega) (by rw[jZ];exact h3))
theorem Vs (d:Array α)(p m q:Nat)(h1:q-m<m-p)(a:p<=m)(u:m<q)(y:q<=d.size)(t:Nat):fE (oV d p m (q-m)) (p+(q-m)) m q t=fE d p m q t:=by have g:=zq d p m (q-m) (by omega) (by omega);unfold fE;by_cases c0:t<p\/q<=t;rw[if_pos (by omega),if_pos c0,g,if_neg (by omega),if_neg (by omega)];rw[if_neg c0];by_cases c1:t<p+(q-m);rw[if_pos (by omega),if_pos c1,g,if_pos (by omega)];rw[if_neg c1];rw[if_neg (by omega)];by_cases c2:t<p+(q-m)+(q-m);rw[if_pos c2,g,if_neg (by omega),if_pos (by omega)];congr 1;omega;rw[if_neg c2,g,if_neg (by omega),if_neg (by omega)]
theorem Vr (d:Array α)(p m q:Nat)(h1:m-p<q-m)(a:p<m)(u:m<=q)(y:q<=d.size)(t:Nat):fE (oV d p (q-(m-p)) (m-p)) p m (q-(m-p)) t=fE d p m q t:=by have g:=zq d p (q-(m-p)) (m-p) (by omega) (by omega);unfold fE;by_cases c0:t<p\/q<=t;rw[if_pos (by omega),if_pos c0,g,if_neg (by omega),if_neg (by omega)];rw[if_neg c0];by_cases c1:t<p+(q-m);rw[if_pos c1];by_cases c2:q-(m-p)<=t;rw[if_pos (by omega),g,if_neg (by omega),if_pos (by omega)];omega;rw[if_neg (by omega)];by_cases c3:t<p+(q-(m-p)-m);rw[if_pos c3,g,if_neg (by omega),if_neg (by omega)];rw[if_neg c3,g,if_pos (by omega)];congr 1;omega;rw[if_neg c1,if_pos (by omega),g,if_neg (by omega),if_pos (by omega)];congr 1;omega
theorem YV (d:Array α)(p m q:Nat)(h1:m-p=q-m)(a:p<=m)(u:m<=q)(y:q<=d.size)(t:Nat):(oV d p m (m-p))[t]! =fE d p m q t:=by rw[zq d p m (m-p) (by omega) (by omega)];unfold fE;by_cases c0:t<p\/q<=t;rw[if_pos c0,if_neg (by omega),if_neg (by omega)];rw[if_neg c0];by_cases c1:t<p+(q-m);rw[if_pos c1,if_pos (by omega)];rw[if_neg c1,if_neg (by omega),if_pos (by omega)];congr 1;omega
theorem DF (d:Array α)(a m b t:Nat)(h:m=a\/m=b)(h1:a<=m)(h2:m<=b):fE d a m b t=d[t]! :=by unfold fE;split;rfl;split;congr 1;omega;congr 1;omega
theorem Om (d:Array α)(i j t:Nat)(hi:i<d.size)(u:j<d.size)(a:i≠j):(swp d i j)[t]! =if t=i then d[j]! else if t=j then d[i]! else d[t]! :=by by_cases h1:t=i;rw[if_pos h1,h1,swp_left _ _ _ hi a];by_cases h2:t=j;rw[if_neg h1,if_pos h2,h2,swp_right _ _ _ u];rw[if_neg h1,if_neg h2,swp_other _ _ _ _ h1 h2]
theorem UH (d u:Array α)(a k b:Nat)(hk:a<=k)(y:k+1<b)(hb:b<=d.size)(hs:u.size=d.size)(h:∀t,u[t]! =fE d a (a+1) (k+1) t)(t:Nat):(swp u k (k+1))[t]! =fE d a (a+1) (k+2) t:=by rw[Om _ _ _ _ (by omega) (by omega) (by omega),h,h,h];unfold fE;by_cases c1:t=k;rw[if_pos c1,if_pos (by omega),if_neg (by omega),if_pos (by omega)];congr 1;omega;by_cases c2:t=k+1;rw[if_neg c1,if_pos c2,if_neg (by omega),if_neg (by omega),if_neg (by omega),if_neg (by omega)];congr 1;omega;rw[if_neg c1,if_neg c2];by_cases c3:t<a\/k+1<=t;rw[if_pos c3,if_pos (by omega)];rw[if_neg c3,if_pos (by omega),if_neg (by omega),if_pos (by omega)]
theorem XJ (d u:Array α)(a k m:Nat)(hk:a<k)(y:k<=m)(hb:m<d.size)(hs:u.size=d.size)(h:∀t,u[t]! =fE d k m (m+1) t)(t:Nat):(swp u k (k-1))[t]! =fE d (k-1) m (m+1) t:=by rw[Om _ _ _ _ (by omega) (by omega) (by omega),h,h,h];unfold fE;by_cases c1:t=k;rw[if_pos c1,if_pos (by omega),if_neg (by omega),if_neg (by omega)];congr 1;omega;by_cases c2:t=k-1;rw[if_neg c1,if_pos c2,if_neg (by omega),if_pos (by omega),if_neg (by omega),if_pos (by omega)];congr 1;omega;rw[if_neg c1,if_neg c2];by_cases c3:t<k\/m+1<=t;rw[if_pos c3,if_pos (by omega)];rw[if_neg c3,if_neg (by omega),if_neg (by omega),if_neg (by omega)]
theorem kQ {d:Array α}{a m b t:Nat}(h:t<a\/b<=t):fE d a m b t=d[t]! :=by unfold fE;rw[if_pos h]
theorem AA {d:Array α}{a m b t:Nat}(h1:a<=t)(h2:t<b)(h3:t<a+(b-m)):fE d a m b t=d[t+(m-a)]! :=by unfold fE;rw[if_neg (by omega),if_pos h3]
theorem xY {d:Array α}{a m b t:Nat}(h1:a<=t)(h2:t<b)(h3:a+(b-m)<=t):fE d a m b t=d[t-(b-m)]! :=by unfold fE;rw[if_neg (by omega),if_neg (by omega)]
variable {lt : α -> α -> Bool}
theorem Ja (hO:SWO lt)(d u:Array α)(a i b:Nat)(A:a+1<=i)(hib:i<=b)(hs:SortedIn lt (a+1) b d)(h1:∀t,a+1<=t->t<i->lt d[t]! d[a]! =true)(h2:∀t,i<=t->t<b->lt d[t]! d[a]! =false)
 (h:∀t,u[t]! =fE d a (a+1) i t):SortedIn lt a b u:=by intro x y hx B D;rw[h,h];by_cases c1:y<i;rw[AA (t:=x) hx (by omega) (by omega)];by_cases c2:y<a+(i-(a+1));rw[AA (t:=y) (by omega) c1 c2];exact hs _ _ (by omega) (by omega) (by omega);rw[xY (t:=y) (by omega) c1 (by omega),show y-(i-(a+1))=a by omega];exact ET hO _ _ (h1 _ (by omega) (by omega));rw[kQ (t:=y) (by omega)];by_cases c2:x<i;by_cases c3:x<a+(i-(a+1));rw[AA (t:=x) hx c2 c3];exact hs _ _ (by omega) (by omega) (by omega);rw[xY (t:=x) hx c2 (by omega),show x-(i-(a+1))=a by omega];exact h2 _ (by omega) (by omega);rw[kQ (t:=x) (by omega)];exact hs _ _ (by omega) (by omega) (by omega)
theorem MP (hO:SWO lt)(d A:Array α)(a i m:Nat)(B:a<=i)(D:i<=m)(hs:SortedIn lt a m d)(h1:∀t,a<=t->t<i->lt d[m]! d[t]! =false)(h2:∀t,i<=t->t<m->lt d[m]! d[t]! =true)
 (h:∀t,A[t]! =fE d i m (m+1) t):SortedIn lt a (m+1) A:=by intro x y hx E u;rw[h,h];by_cases c1:x<i;rw[kQ (t:=x) (by omega)];by_cases c2:y<i;rw[kQ (t:=y) (by omega)];exact hs _ _ (by omega) (by omega) (by omega);by_cases c3:y=i;rw[AA (t:=y) (by omega) u (by omega),show y+(m-i)=m by omega];exact h1 _ (by omega) (by omega);rw[xY (t:=y) (by omega) u (by omega)];exact hs _ _ (by omega) (by omega) (by omega);rw[xY (t:=y) (by omega) u (by omega)];by_cases c3:x=i;rw[AA (t:=x) (by omega) (by omega) (by omega),show x+(m-i)=m by omega];exact ET hO _ _ (h2 _ (by omega) (by omega));rw[xY (t:=x) (by omega) (by omega) (by omega)];exact hs _ _ (by omega) (by omega) (by omega)
theorem aaW (hO:SWO lt)(d B:Array α)(a m b u s e:Nat)(X:u=(a+b)/2)(Y:a<m)(Z:m<b)
 (D:SortedIn lt a m d) (hr:SortedIn lt m b d) (he:e+s=u+m)
 (E:(if m>u then u+m-b else a)<=s) (G:s<=(if m>u then u else m))
 (h1:∀c,(if m>u then u+m-b else a)<=c->c<s->lt d[u+m-1-c]! d[c]! =false)
 (h2:∀c,s<=c->c<(if m>u then u else m)->lt d[u+m-1-c]! d[c]! =true)
 (h:∀t,B[t]! =fE d s m e t):
 a<=s/\s<=u/\u<=e/\e<=b/\s<=m/\m<=e/\SortedIn lt a s B/\SortedIn lt s u B/\SortedIn lt u e B/\SortedIn lt e b B/\∀x y,a<=x->x<u->u<=y->y<b->lt B[y]! B[x]! =false:=by
 have hle:∀ {lo hi:Nat},SortedIn lt lo hi d->∀i j,lo<=i->i<=j->j<hi->lt d[j]! d[i]! =false:=(λhs i j hi L hj=>by rcases Nat.lt_or_eq_of_le L with h0|h0;exact hs i j hi h0 hj;subst h0;exact hO.irrefl _);(have b1:a<=s:=by split at E<;>omega);(have b2:s<=m:=by split at G<;>omega);(have b3:s<=u:=by split at G<;>omega);(have b4:e<=b:=by split at E<;>omega);have b5:m<=e:=(by omega);have b6:u<=e:=(by omega);refine⟨b1,b3,b6,b4,b2,b5,?_,?_,?_,?_,?_⟩;intro x y hx A I;rw[h,h,kQ (t:=x) (by omega),kQ (t:=y) (by omega)];exact D _ _ hx A (by omega);intro x y hx A I;rw[h,h,AA (t:=x) (by omega) (by omega) (by omega),AA (t:=y) (by omega) (by omega) (by omega)];exact hr _ _ (by omega) (by omega) (by omega);intro x y hx A I;rw[h,h,xY (t:=x) (by omega) (by omega) (by omega),xY (t:=y) (by omega) (by omega) (by omega)];exact D _ _ (by omega) (by omega) (by omega);intro x y hx A I;rw[h,h,kQ (t:=x) (by omega),kQ (t:=y) (by omega)];exact hr _ _ (by omega) (by omega) (by omega)
 ·
  intro x y hx a6 I H;rw[h,h];((((have N:s>a->e<b->lt d[e]! d[s-1]! =false:=λO U=>by ((have:=h1 (s-1) (by split<;>omega) (by omega));have e1:u+m-1-(s-1)=e:=by omega);rwa [e1] at this);have V:s<m->m<e->lt d[s]! d[e-1]! =false:=λO U=>by have:=h2 s (Nat.le_refl _) (by split<;>omega);have e1:u+m-1-s=e-1:=(by omega);rw[e1] at this;exact ET hO _ _ this);by_cases cx:x<s);rw[kQ (t:=x) (.inl cx)];by_cases J:e<=y;rw[kQ (t:=y) (.inr J)];exact hO.ntrans _ _ _ (hle hr e y (by omega) J H) (hO.ntrans _ _ _ (N (by omega) (by omega)) (hle D x (s-1) hx (by omega) (by omega)));rw[xY (t:=y) (by omega) (by omega) (by omega)];exact hle D _ _ hx (by omega) (by omega));rw[AA (t:=x) (by omega) (by omega) (by omega)];by_cases J:e<=y;rw[kQ (t:=y) (.inr J)];exact hle hr _ _ (by omega) (by omega) H;rw[xY (t:=y) (by omega) (by omega) (by omega)];exact hO.ntrans _ _ _ (hle D s _ (by omega) (by omega) (by omega)) (hO.ntrans _ _ _ (V (by omega) (by omega)) (hle hr _ (e-1) (by omega) (by omega) (by omega)))
theorem XK (hO:SWO lt)(d:Array α)(a m b u lo hi:Nat)(B:u=(a+b)/2)(D:a<m)(E:m<b)(y:lo=if m>u then u+m-b else a)(A:hi=if m>u then u else m)
 (G:SortedIn lt a m d) (hr:SortedIn lt m b d) (c1 c2:Nat) (h0:lo<=c1) (h1:c1<c2) (h2:c2<hi) (h:lt d[u+m-1-c2]! d[c2]! =false):lt d[u+m-1-c1]! d[c1]! =false:=by (have e1:a<=c1/\c2<m/\m<=u+m-1-c2/\u+m-1-c1<b:=by split at y<;>split at A<;>omega);exact hO.ntrans _ _ _ (hr _ _ (by omega) (by omega) (by omega)) (hO.ntrans _ _ _ h (G _ _ (by omega) h1 (by omega)))
theorem MQ (d B d2:Array α)(a A b:Nat)(h1:a<=A)(h2:A<=b)(hb:b<=d.size)(hx:∀x y,a<=x->x<A->A<=y->y<b->lt d[y]! d[x]! =false)
 (G:PermIn a A d B) (s1:SortedIn lt a A B) (E:PermIn A b B d2) (s2:SortedIn lt A b d2):SortedIn lt a b d2:=by have V:∀x y,a<=x->x<A->A<=y->y<b->lt B[y]! B[x]! =false:=(by intro x y X Y J Z;rw[G.2.1 y (.inr J)];exact permIn_all d B a A (λu=>lt d[y]! u=false) (by omega) G (λi H I=>hx i y H I J Z) x X Y);intro x y L N O;by_cases U:y<A;rw[E.2.1 x (.inl (by omega)),E.2.1 y (.inl U)];exact s1 x y L N U;by_cases D:x<A;rw[E.2.1 x (.inl D)];exact permIn_all B d2 A b (λu=>lt u B[x]! =false) (by rw[G.1];exact hb) E (λi H I=>V x i L D H I) y (by omega) O;exact s2 x y (by omega) N O
