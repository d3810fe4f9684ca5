/- Words. -/
import Derived.Sort.LotA
set_option linter.unusedVariables false
namespace Iv
open Go.Sort
theorem FN {β:Type}{lt:β->β->Bool}(hO:SWO lt)(x y:β)(a:lt x y=true):lt y x=false:=by
 cases hyx:lt y x with
 |false=>rfl
 |true=>have:=hO.trans x y x a hyx;rw[hO.irrefl] at this;exact absurd this (by decide)
variable {α : Type} [Inhabited α]
def fU (d:Array α)(a m b t:Nat):α:=if t<a\/b<=t then d[t]! else if t<a+(b-m) then d[t+(m-a)]! else d[t-(b-m)]!
def pI (d:Array α)(a b:Nat):Nat->Array α
 |0=>d
 |n+1=>swp (pI d a b n) (a+n) (b+n)
theorem ku (d:Array α)(a b n:Nat):(pI d a b n).size=d.size:=by
 induction n with
 |zero=>rfl
 |succ n ih=>unfold pI;rw[size_swp,ih]
theorem Am (d:Array α)(a b:Nat):∀n,a+n<=b->b+n<=d.size->∀t,(pI d a b n)[t]! =if a<=t/\t<a+n then d[t+(b-a)]! else if b<=t/\t<b+n then d[t-(b-a)]! else d[t]! :=by
 intro n;induction n with
 |
  zero=>
  intro _ _ t;rw[if_neg (by omega),if_neg (by omega)];rfl
 |
  succ n q=>
  intro h1 h2 t;have q:=q (by omega) (by omega);unfold pI;by_cases e1:t=a+n;rw[e1,swp_left _ _ _ (by rw[ku];omega) (by omega),q,if_neg (by omega),if_neg (by omega),if_pos (by omega)];congr 1;omega;by_cases u:t=b+n;rw[u,swp_right _ _ _ (by rw[ku];omega),q,if_neg (by omega),if_neg (by omega),if_neg (by omega),if_pos (by omega)];congr 1;omega;rw[swp_other _ _ _ _ e1 u,q];by_cases c1:a<=t/\t<a+n;rw[if_pos c1,if_pos (by omega)];by_cases c2:b<=t/\t<b+n;rw[if_neg c1,if_pos c2,if_neg (by omega),if_pos (by omega)];rw[if_neg c1,if_neg c2,if_neg (by omega),if_neg (by omega)]
theorem xM (d:Array α)(lo hi a b n:Nat)(h0:lo<=a)(h1:a+n<=b)(h2:b+n<=hi)(h3:hi<=d.size):PermIn lo hi d (pI d a b n):=by
 induction n with
 |zero=>exact permIn_refl d lo hi
 |succ n ih=>exact permIn_trans d _ _ lo hi (ih (by omega) (by omega)) (swp_permIn _ lo hi _ _ (by omega) (by omega) (by omega) (by omega) (by rw[ku];exact h3))
theorem WX (d:Array α)(p m q:Nat)(h1:q-m<m-p)(a:p<=m)(u:m<q)(y:q<=d.size)(t:Nat):fU (pI d p m (q-m)) (p+(q-m)) m q t=fU d p m q t:=by have g:=Am d p m (q-m) (by omega) (by omega);unfold fU;by_cases c0:t<p\/q<=t;rw[if_pos (by omega),if_pos c0,g,if_neg (by omega),if_neg (by omega)];rw[if_neg c0];by_cases c1:t<p+(q-m);rw[if_pos (by omega),if_pos c1,g,if_pos (by omega)];rw[if_neg c1];rw[if_neg (by omega)];by_cases c2:t<p+(q-m)+(q-m);rw[if_pos c2,g,if_neg (by omega),if_pos (by omega)];congr 1;omega;rw[if_neg c2,g,if_neg (by omega),if_neg (by omega)]
theorem WW (d:Array α)(p m q:Nat)(h1:m-p<q-m)(a:p<m)(u:m<=q)(y:q<=d.size)(t:Nat):fU (pI d p (q-(m-p)) (m-p)) p m (q-(m-p)) t=fU d p m q t:=by have g:=Am d p (q-(m-p)) (m-p) (by omega) (by omega);unfold fU;by_cases c0:t<p\/q<=t;rw[if_pos (by omega),if_pos c0,g,if_neg (by omega),if_neg (by omega)];rw[if_neg c0];by_cases c1:t<p+(q-m);rw[if_pos c1];by_cases c2:q-(m-p)<=t;rw[if_pos (by omega),g,if_neg (by omega),if_pos (by omega)];omega;rw[if_neg (by omega)];by_cases c3:t<p+(q-(m-p)-m);rw[if_pos c3,g,if_neg (by omega),if_neg (by omega)];rw[if_neg c3,g,if_pos (by omega)];congr 1;omega;rw[if_neg c1,if_pos (by omega),g,if_neg (by omega),if_pos (by omega)];congr 1;omega
theorem aat (d:Array α)(p m q:Nat)(h1:m-p=q-m)(a:p<=m)(u:m<=q)(y:q<=d.size)(t:Nat):(pI d p m (m-p))[t]! =fU d p m q t:=by rw[Am d p m (m-p) (by omega) (by omega)];unfold fU;by_cases c0:t<p\/q<=t;rw[if_pos c0,if_neg (by omega),if_neg (by omega)];rw[if_neg c0];by_cases c1:t<p+(q-m);rw[if_pos c1,if_pos (by omega)];rw[if_neg c1,if_neg (by omega),if_pos (by omega)];congr 1;omega
theorem Ee (d:Array α)(a m b t:Nat)(h:m=a\/m=b)(h1:a<=m)(h2:m<=b):fU d a m b t=d[t]! :=by unfold fU;split;rfl;split;congr 1;omega;congr 1;omega
theorem PD (d:Array α)(i j t:Nat)(hi:i<d.size)(q:j<d.size)(a:i≠j):(swp d i j)[t]! =if t=i then d[j]! else if t=j then d[i]! else d[t]! :=by by_cases h1:t=i;rw[if_pos h1,h1,swp_left _ _ _ hi a];by_cases h2:t=j;rw[if_neg h1,if_pos h2,h2,swp_right _ _ _ q];rw[if_neg h1,if_neg h2,swp_other _ _ _ _ h1 h2]
theorem VT (d q:Array α)(a k b:Nat)(hk:a<=k)(u:k+1<b)(hb:b<=d.size)(hs:q.size=d.size)(h:∀t,q[t]! =fU d a (a+1) (k+1) t)(t:Nat):(swp q k (k+1))[t]! =fU d a (a+1) (k+2) t:=by rw[PD _ _ _ _ (by omega) (by omega) (by omega),h,h,h];unfold fU;by_cases c1:t=k;rw[if_pos c1,if_pos (by omega),if_neg (by omega),if_pos (by omega)];congr 1;omega;by_cases c2:t=k+1;rw[if_neg c1,if_pos c2,if_neg (by omega),if_neg (by omega),if_neg (by omega),if_neg (by omega)];congr 1;omega;rw[if_neg c1,if_neg c2];by_cases c3:t<a\/k+1<=t;rw[if_pos c3,if_pos (by omega)];rw[if_neg c3,if_pos (by omega),if_neg (by omega),if_pos (by omega)]
theorem YP (d q:Array α)(a k m:Nat)(hk:a<k)(u:k<=m)(hb:m<d.size)(hs:q.size=d.size)(h:∀t,q[t]! =fU d k m (m+1) t)(t:Nat):(swp q k (k-1))[t]! =fU d (k-1) m (m+1) t:=by rw[PD _ _ _ _ (by omega) (by omega) (by omega),h,h,h];unfold fU;by_cases c1:t=k;rw[if_pos c1,if_pos (by omega),if_neg (by omega),if_neg (by omega)];congr 1;omega;by_cases c2:t=k-1;rw[if_neg c1,if_pos c2,if_neg (by omega),if_pos (by omega),if_neg (by omega),if_pos (by omega)];congr 1;omega;rw[if_neg c1,if_neg c2];by_cases c3:t<k\/m+1<=t;rw[if_pos c3,if_pos (by omega)];rw[if_neg c3,if_neg (by omega),if_neg (by omega),if_neg (by omega)]
theorem kR {d:Array α}{a m b t:Nat}(h:t<a\/b<=t):fU d a m b t=d[t]! :=by unfold fU;rw[if_pos h]
theorem BJ {d:Array α}{a m b t:Nat}(h1:a<=t)(h2:t<b)(h3:t<a+(b-m)):fU d a m b t=d[t+(m-a)]! :=by unfold fU;rw[if_neg (by omega),if_pos h3]
theorem yU {d:Array α}{a m b t:Nat}(h1:a<=t)(h2:t<b)(h3:a+(b-m)<=t):fU d a m b t=d[t-(b-m)]! :=by unfold fU;rw[if_neg (by omega),if_neg (by omega)]
variable {lt : α -> α -> Bool}
theorem JP (hO:SWO lt)(d q:Array α)(a i b:Nat)(u:a+1<=i)(hib:i<=b)(hs:SortedIn lt (a+1) b d)(h1:∀t,a+1<=t->t<i->lt d[t]! d[a]! =true)(h2:∀t,i<=t->t<b->lt d[t]! d[a]! =false)
 (h:∀t,q[t]! =fU d a (a+1) i t):SortedIn lt a b q:=by intro x y hx B D;rw[h,h];by_cases c1:y<i;rw[BJ (t:=x) hx (by omega) (by omega)];by_cases c2:y<a+(i-(a+1));rw[BJ (t:=y) (by omega) c1 c2];exact hs _ _ (by omega) (by omega) (by omega);rw[yU (t:=y) (by omega) c1 (by omega),show y-(i-(a+1))=a by omega];exact FN hO _ _ (h1 _ (by omega) (by omega));rw[kR (t:=y) (by omega)];by_cases c2:x<i;by_cases c3:x<a+(i-(a+1));rw[BJ (t:=x) hx c2 c3];exact hs _ _ (by omega) (by omega) (by omega);rw[yU (t:=x) hx c2 (by omega),show x-(i-(a+1))=a by omega];exact h2 _ (by omega) (by omega);rw[kR (t:=x) (by omega)];exact hs _ _ (by omega) (by omega) (by omega)
theorem Og (hO:SWO lt)(d u:Array α)(a i m:Nat)(B:a<=i)(D:i<=m)(hs:SortedIn lt a m d)(h1:∀t,a<=t->t<i->lt d[m]! d[t]! =false)(h2:∀t,i<=t->t<m->lt d[m]! d[t]! =true)
 (h:∀t,u[t]! =fU d i m (m+1) t):SortedIn lt a (m+1) u:=by intro x y hx E q;rw[h,h];by_cases c1:x<i;rw[kR (t:=x) (by omega)];by_cases c2:y<i;rw[kR (t:=y) (by omega)];exact hs _ _ (by omega) (by omega) (by omega);by_cases c3:y=i;rw[BJ (t:=y) (by omega) q (by omega),show y+(m-i)=m by omega];exact h1 _ (by omega) (by omega);rw[yU (t:=y) (by omega) q (by omega)];exact hs _ _ (by omega) (by omega) (by omega);rw[yU (t:=y) (by omega) q (by omega)];by_cases c3:x=i;rw[BJ (t:=x) (by omega) (by omega) (by omega),show x+(m-i)=m by omega];exact FN hO _ _ (h2 _ (by omega) (by omega));rw[yU (t:=x) (by omega) (by omega) (by omega)];exact hs _ _ (by omega) (by omega) (by omega)
theorem ach (hO:SWO lt)(d B:Array α)(a m b q s e:Nat)(U:q=(a+b)/2)(V:a<m)(X:m<b)
 (D:SortedIn lt a m d) (hr:SortedIn lt m b d) (he:e+s=q+m)
 (E:(if m>q then q+m-b else a)<=s) (G:s<=(if m>q then q else m))
 (h1:∀c,(if m>q then q+m-b else a)<=c->c<s->lt d[q+m-1-c]! d[c]! =false)
 (h2:∀c,s<=c->c<(if m>q then q else m)->lt d[q+m-1-c]! d[c]! =true)
 (h:∀t,B[t]! =fU d s m e t):
 a<=s/\s<=q/\q<=e/\e<=b/\s<=m/\m<=e/\SortedIn lt a s B/\SortedIn lt s q B/\SortedIn lt q e B/\SortedIn lt e b B/\∀x y,a<=x->x<q->q<=y->y<b->lt B[y]! B[x]! =false:=by
 have hle:∀ {lo hi:Nat},SortedIn lt lo hi d->∀i j,lo<=i->i<=j->j<hi->lt d[j]! d[i]! =false:=(λhs i j hi L Y=>by rcases Nat.lt_or_eq_of_le L with h0|h0;exact hs i j hi h0 Y;subst h0;exact hO.irrefl _);(have Z:a<=s:=by split at E<;>omega);(have b2:s<=m:=by split at G<;>omega);(have b3:s<=q:=by split at G<;>omega);(have b4:e<=b:=by split at E<;>omega);have b5:m<=e:=(by omega);have b6:q<=e:=(by omega);refine⟨Z,b3,b6,b4,b2,b5,?_,?_,?_,?_,?_⟩;intro x y hx u I;rw[h,h,kR (t:=x) (by omega),kR (t:=y) (by omega)];exact D _ _ hx u (by omega);intro x y hx u I;rw[h,h,BJ (t:=x) (by omega) (by omega) (by omega),BJ (t:=y) (by omega) (by omega) (by omega)];exact hr _ _ (by omega) (by omega) (by omega);intro x y hx u I;rw[h,h,yU (t:=x) (by omega) (by omega) (by omega),yU (t:=y) (by omega) (by omega) (by omega)];exact D _ _ (by omega) (by omega) (by omega);intro x y hx u I;rw[h,h,kR (t:=x) (by omega),kR (t:=y) (by omega)];exact hr _ _ (by omega) (by omega) (by omega)
 ·
  intro x y hx a6 I H;rw[h,h];((((have M:s>a->e<b->lt d[e]! d[s-1]! =false:=λN O=>by ((have:=h1 (s-1) (by split<;>omega) (by omega));have e1:q+m-1-(s-1)=e:=by omega);rwa [e1] at this);have R:s<m->m<e->lt d[s]! d[e-1]! =false:=λN O=>by have:=h2 s (Nat.le_refl _) (by split<;>omega);have e1:q+m-1-s=e-1:=(by omega);rw[e1] at this;exact FN hO _ _ this);by_cases cx:x<s);rw[kR (t:=x) (.inl cx)];by_cases J:e<=y;rw[kR (t:=y) (.inr J)];exact hO.ntrans _ _ _ (hle hr e y (by omega) J H) (hO.ntrans _ _ _ (M (by omega) (by omega)) (hle D x (s-1) hx (by omega) (by omega)));rw[yU (t:=y) (by omega) (by omega) (by omega)];exact hle D _ _ hx (by omega) (by omega));rw[BJ (t:=x) (by omega) (by omega) (by omega)];by_cases J:e<=y;rw[kR (t:=y) (.inr J)];exact hle hr _ _ (by omega) (by omega) H;rw[yU (t:=y) (by omega) (by omega) (by omega)];exact hO.ntrans _ _ _ (hle D s _ (by omega) (by omega) (by omega)) (hO.ntrans _ _ _ (R (by omega) (by omega)) (hle hr _ (e-1) (by omega) (by omega) (by omega)))
theorem YQ (hO:SWO lt)(d:Array α)(a m b q lo hi:Nat)(B:q=(a+b)/2)(D:a<m)(E:m<b)(u:lo=if m>q then q+m-b else a)(y:hi=if m>q then q else m)
 (G:SortedIn lt a m d) (hr:SortedIn lt m b d) (c1 c2:Nat) (h0:lo<=c1) (h1:c1<c2) (h2:c2<hi) (h:lt d[q+m-1-c2]! d[c2]! =false):lt d[q+m-1-c1]! d[c1]! =false:=by (have e1:a<=c1/\c2<m/\m<=q+m-1-c2/\q+m-1-c1<b:=by split at u<;>split at y<;>omega);exact hO.ntrans _ _ _ (hr _ _ (by omega) (by omega) (by omega)) (hO.ntrans _ _ _ h (G _ _ (by omega) h1 (by omega)))
theorem Oi (d B d2:Array α)(a q b:Nat)(h1:a<=q)(h2:q<=b)(hb:b<=d.size)(hx:∀x y,a<=x->x<q->q<=y->y<b->lt d[y]! d[x]! =false)
 (G:PermIn a q d B) (s1:SortedIn lt a q B) (E:PermIn q b B d2) (s2:SortedIn lt q b d2):SortedIn lt a b d2:=by have R:∀x y,a<=x->x<q->q<=y->y<b->lt B[y]! B[x]! =false:=(by intro x y U V J X;rw[G.2.1 y (.inr J)];exact permIn_all d B a q (λu=>lt d[y]! u=false) (by omega) G (λi H I=>hx i y H I J X) x U V);intro x y L M N;by_cases O:y<q;rw[E.2.1 x (.inl (by omega)),E.2.1 y (.inl O)];exact s1 x y L M O;by_cases D:x<q;rw[E.2.1 x (.inl D)];exact permIn_all B d2 q b (λu=>lt u B[x]! =false) (by rw[G.1];exact hb) E (λi H I=>R x i L D H I) y (by omega) N;exact s2 x y (by omega) M N
