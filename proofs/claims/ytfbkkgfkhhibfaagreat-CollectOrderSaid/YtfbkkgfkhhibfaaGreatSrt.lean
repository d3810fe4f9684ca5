/- Words. -/
import Derived.Test.YtfbkkgfkhhibfaaGreatCln
import Derived.Test.YtfbkkgfkhhibfaaGreatProg
import Derived.Sort.LotA
import Derived.Shelf.SlSortCmp.KitK
import Derived.Sort.WalkA
import Derived.Deep.LoopGhost
set_option linter.unusedVariables false
set_option maxRecDepth 100000
set_option maxHeartbeats 8000000
namespace Iv
open Go.Sort
theorem zi {β:Type}{lt:β→β→Bool}(hO:SWO lt)(x y:β)(hxy:lt x y=true):lt y x=false:=by
 cases hyx:lt y x with
 | false=>rfl
 | true=>have:=hO.trans x y x hxy hyx;rw[hO.irrefl] at this;exact absurd this (by decide)
variable {α : Type} [Inhabited α]
def dQ (d:Array α)(a m b t:Nat):α:=if t < a∨b≤t then d[t]! else if t < a+(b - m) then d[t+(m - a)]! else d[t - (b - m)]!
def lH (d:Array α)(a b:Nat):Nat→Array α
 | 0=>d
 | n+1=>swp (lH d a b n) (a+n) (b+n)
theorem iU (d:Array α)(a b n:Nat):(lH d a b n).size=d.size:=by
 induction n with
 | zero=>rfl
 | succ n ih=>unfold lH;rw[size_swp,ih]
theorem uC (d:Array α)(a b:Nat):∀n,a+n≤b→b+n≤d.size→∀t,(lH d a b n)[t]! =if a≤t∧t < a+n then d[t+(b - a)]! else if b≤t∧t < b+n then d[t - (b - a)]! else d[t]! :=by
 intro n;induction n with
 |
  zero=>
  intro _ _ t;rw[if_neg (by omega),if_neg (by omega)];rfl
 |
  succ n ih=>
  intro h1 h2 t;have ih:=ih (by omega) (by omega);unfold lH;by_cases e1:t=a+n
  · rw[e1,swp_left _ _ _ (by rw[iU];omega) (by omega),ih,if_neg (by omega),if_neg (by omega),if_pos (by omega)];congr 1;omega
  · by_cases e2:t=b+n
    · rw[e2,swp_right _ _ _ (by rw[iU];omega),ih,if_neg (by omega),if_neg (by omega),if_neg (by omega),if_pos (by omega)];congr 1;omega
    · rw[swp_other _ _ _ _ e1 e2,ih];by_cases c1:a≤t∧t < a+n
      · rw[if_pos c1,if_pos (by omega)]
      · by_cases c2:b≤t∧t < b+n
        · rw[if_neg c1,if_pos c2,if_neg (by omega),if_pos (by omega)]
        · rw[if_neg c1,if_neg c2,if_neg (by omega),if_neg (by omega)]
theorem qN (d:Array α)(lo hi a b n:Nat)(h0:lo≤a)(h1:a+n≤b)(h2:b+n≤hi)(h3:hi≤d.size):PermIn lo hi d (lH d a b n):=by
 induction n with
 | zero=>exact permIn_refl d lo hi
 | succ n ih=>exact permIn_trans d _ _ lo hi (ih (by omega) (by omega)) (swp_permIn _ lo hi _ _ (by omega) (by omega) (by omega) (by omega) (by rw[iU];exact h3))
theorem P7 (d:Array α)(p m q:Nat)(h1:q - m < m - p)(hp:p≤m)(hq:m < q)(hd:q≤d.size)(t:Nat):dQ (lH d p m (q - m)) (p+(q - m)) m q t=dQ d p m q t:=by
 have g:=uC d p m (q - m) (by omega) (by omega);unfold dQ;by_cases c0:t < p∨q≤t
 · rw[if_pos (by omega),if_pos c0,g,if_neg (by omega),if_neg (by omega)]
 · rw[if_neg c0];by_cases c1:t < p+(q - m)
   · rw[if_pos (by omega),if_pos c1,g,if_pos (by omega)]
   · rw[if_neg c1];rw[if_neg (by omega)];by_cases c2:t < p+(q - m)+(q - m)
     · rw[if_pos c2,g,if_neg (by omega),if_pos (by omega)];congr 1;omega
     · rw[if_neg c2,g,if_neg (by omega),if_neg (by omega)]
theorem P6 (d:Array α)(p m q:Nat)(h1:m - p < q - m)(hp:p < m)(hq:m≤q)(hd:q≤d.size)(t:Nat):dQ (lH d p (q - (m - p)) (m - p)) p m (q - (m - p)) t=dQ d p m q t:=by
 have g:=uC d p (q - (m - p)) (m - p) (by omega) (by omega);unfold dQ;by_cases c0:t < p∨q≤t
 · rw[if_pos (by omega),if_pos c0,g,if_neg (by omega),if_neg (by omega)]
 · rw[if_neg c0];by_cases c1:t < p+(q - m)
   · rw[if_pos c1];by_cases c2:q - (m - p)≤t
     · rw[if_pos (by omega),g,if_neg (by omega),if_pos (by omega)];omega
     · rw[if_neg (by omega)];by_cases c3:t < p+(q - (m - p) - m)
       · rw[if_pos c3,g,if_neg (by omega),if_neg (by omega)]
       · rw[if_neg c3,g,if_pos (by omega)];congr 1;omega
   · rw[if_neg c1,if_pos (by omega),g,if_neg (by omega),if_pos (by omega)];congr 1;omega
theorem Uo (d:Array α)(p m q:Nat)(h1:m - p=q - m)(hp:p≤m)(hq:m≤q)(hd:q≤d.size)(t:Nat):(lH d p m (m - p))[t]! =dQ d p m q t:=by
 rw[uC d p m (m - p) (by omega) (by omega)];unfold dQ;by_cases c0:t < p∨q≤t
 · rw[if_pos c0,if_neg (by omega),if_neg (by omega)]
 · rw[if_neg c0];by_cases c1:t < p+(q - m)
   · rw[if_pos c1,if_pos (by omega)]
   · rw[if_neg c1,if_neg (by omega),if_pos (by omega)];congr 1;omega
theorem yg (d:Array α)(a m b t:Nat)(h:m=a∨m=b)(h1:a≤m)(h2:m≤b):dQ d a m b t=d[t]! :=by
 unfold dQ;split
 · rfl
 · split
   · congr 1;omega
   · congr 1;omega
theorem IK (d:Array α)(i j t:Nat)(hi:i < d.size)(hj:j < d.size)(hij:i≠j):(swp d i j)[t]! =if t=i then d[j]! else if t=j then d[i]! else d[t]! :=by
 by_cases h1:t=i
 · rw[if_pos h1,h1,swp_left _ _ _ hi hij]
 · by_cases h2:t=j
   · rw[if_neg h1,if_pos h2,h2,swp_right _ _ _ hj]
   · rw[if_neg h1,if_neg h2,swp_other _ _ _ _ h1 h2]
theorem OZ (d dk:Array α)(a k b:Nat)(hk:a≤k)(hkb:k+1 < b)(hb:b≤d.size)(hs:dk.size=d.size)(h:∀t,dk[t]! =dQ d a (a+1) (k+1) t)(t:Nat):(swp dk k (k+1))[t]! =dQ d a (a+1) (k+2) t:=by
 rw[IK _ _ _ _ (by omega) (by omega) (by omega),h,h,h];unfold dQ;by_cases c1:t=k
 · rw[if_pos c1,if_pos (by omega),if_neg (by omega),if_pos (by omega)];congr 1;omega
 · by_cases c2:t=k+1
   · rw[if_neg c1,if_pos c2,if_neg (by omega),if_neg (by omega),if_neg (by omega),if_neg (by omega)];congr 1;omega
   · rw[if_neg c1,if_neg c2];by_cases c3:t < a∨k+1≤t
     · rw[if_pos c3,if_pos (by omega)]
     · rw[if_neg c3,if_pos (by omega),if_neg (by omega),if_pos (by omega)]
theorem SB (d dk:Array α)(a k m:Nat)(hk:a < k)(hkm:k≤m)(hb:m < d.size)(hs:dk.size=d.size)(h:∀t,dk[t]! =dQ d k m (m+1) t)(t:Nat):(swp dk k (k - 1))[t]! =dQ d (k - 1) m (m+1) t:=by
 rw[IK _ _ _ _ (by omega) (by omega) (by omega),h,h,h];unfold dQ;by_cases c1:t=k
 · rw[if_pos c1,if_pos (by omega),if_neg (by omega),if_neg (by omega)];congr 1;omega
 · by_cases c2:t=k - 1
   · rw[if_neg c1,if_pos c2,if_neg (by omega),if_pos (by omega),if_neg (by omega),if_pos (by omega)];congr 1;omega
   · rw[if_neg c1,if_neg c2];by_cases c3:t < k∨m+1≤t
     · rw[if_pos c3,if_pos (by omega)]
     · rw[if_neg c3,if_neg (by omega),if_neg (by omega),if_neg (by omega)]
theorem ji {d:Array α}{a m b t:Nat}(h:t < a∨b≤t):dQ d a m b t=d[t]! :=by unfold dQ;rw[if_pos h]
theorem vK {d:Array α}{a m b t:Nat}(h1:a≤t)(h2:t < b)(h3:t < a+(b - m)):dQ d a m b t=d[t+(m - a)]! :=by unfold dQ;rw[if_neg (by omega),if_pos h3]
theorem sJ {d:Array α}{a m b t:Nat}(h1:a≤t)(h2:t < b)(h3:a+(b - m)≤t):dQ d a m b t=d[t - (b - m)]! :=by unfold dQ;rw[if_neg (by omega),if_neg (by omega)]
variable {lt : α → α → Bool}
theorem DU (hO:SWO lt)(d d':Array α)(a i b:Nat)(hai:a+1≤i)(hib:i≤b)(hs:SortedIn lt (a+1) b d)(h1:∀t,a+1≤t→t < i→lt d[t]! d[a]! =true)(h2:∀t,i≤t→t < b→lt d[t]! d[a]! =false)
 (h:∀t,d'[t]! =dQ d a (a+1) i t):SortedIn lt a b d':=by
 intro x y hx hxy hy;rw[h,h];by_cases c1:y < i
 · rw[vK (t:=x) hx (by omega) (by omega)];by_cases c2:y < a+(i - (a+1))
   · rw[vK (t:=y) (by omega) c1 c2];exact hs _ _ (by omega) (by omega) (by omega)
   · rw[sJ (t:=y) (by omega) c1 (by omega),show y - (i - (a+1))=a by omega];exact zi hO _ _ (h1 _ (by omega) (by omega))
 · rw[ji (t:=y) (by omega)];by_cases c2:x < i
   · by_cases c3:x < a+(i - (a+1))
     · rw[vK (t:=x) hx c2 c3];exact hs _ _ (by omega) (by omega) (by omega)
     · rw[sJ (t:=x) hx c2 (by omega),show x - (i - (a+1))=a by omega];exact h2 _ (by omega) (by omega)
   · rw[ji (t:=x) (by omega)];exact hs _ _ (by omega) (by omega) (by omega)
theorem GV (hO:SWO lt)(d d':Array α)(a i m:Nat)(hai:a≤i)(him:i≤m)(hs:SortedIn lt a m d)(h1:∀t,a≤t→t < i→lt d[m]! d[t]! =false)(h2:∀t,i≤t→t < m→lt d[m]! d[t]! =true)
 (h:∀t,d'[t]! =dQ d i m (m+1) t):SortedIn lt a (m+1) d':=by
 intro x y hx hxy hy;rw[h,h];by_cases c1:x < i
 · rw[ji (t:=x) (by omega)];by_cases c2:y < i
   · rw[ji (t:=y) (by omega)];exact hs _ _ (by omega) (by omega) (by omega)
   · by_cases c3:y=i
     · rw[vK (t:=y) (by omega) hy (by omega),show y+(m - i)=m by omega];exact h1 _ (by omega) (by omega)
     · rw[sJ (t:=y) (by omega) hy (by omega)];exact hs _ _ (by omega) (by omega) (by omega)
 · rw[sJ (t:=y) (by omega) hy (by omega)];by_cases c3:x=i
   · rw[vK (t:=x) (by omega) (by omega) (by omega),show x+(m - i)=m by omega];exact zi hO _ _ (h2 _ (by omega) (by omega))
   · rw[sJ (t:=x) (by omega) (by omega) (by omega)];exact hs _ _ (by omega) (by omega) (by omega)
theorem WB (hO:SWO lt)(d d':Array α)(a m b mid s e:Nat)(hmid:mid=(a+b) / 2)(ham:a < m)(hmb:m < b)
 (hl:SortedIn lt a m d) (hr:SortedIn lt m b d) (he:e+s=mid+m)
 (hlo:(if m > mid then mid+m - b else a)≤s) (hhi:s≤(if m > mid then mid else m))
 (h1:∀c,(if m > mid then mid+m - b else a)≤c→c < s→lt d[mid+m - 1 - c]! d[c]! =false)
 (h2:∀c,s≤c→c < (if m > mid then mid else m)→lt d[mid+m - 1 - c]! d[c]! =true)
 (h:∀t,d'[t]! =dQ d s m e t):
 a≤s∧s≤mid∧mid≤e∧e≤b∧s≤m∧m≤e∧SortedIn lt a s d'∧SortedIn lt s mid d'∧SortedIn lt mid e d'∧SortedIn lt e b d'∧∀x y,a≤x→x < mid→mid≤y→y < b→lt d'[y]! d'[x]! =false:=by
 have hle:∀ {lo hi:Nat},SortedIn lt lo hi d→∀i j,lo≤i→i≤j→j < hi→lt d[j]! d[i]! =false:=fun hs i j hi hij hj=>by
  rcases Nat.lt_or_eq_of_le hij with h0 | h0
  · exact hs i j hi h0 hj
  · subst h0;exact hO.irrefl _
 have b1:a≤s:=by split at hlo <;> omega
 have b2:s≤m:=by split at hhi <;> omega
 have b3:s≤mid:=by split at hhi <;> omega
 have b4:e≤b:=by split at hlo <;> omega
 have b5:m≤e:=by omega
 have b6:mid≤e:=by omega
 refine⟨b1,b3,b6,b4,b2,b5,?_,?_,?_,?_,?_⟩
 · intro x y hx hxy hy;rw[h,h,ji (t:=x) (by omega),ji (t:=y) (by omega)];exact hl _ _ hx hxy (by omega)
 · intro x y hx hxy hy;rw[h,h,vK (t:=x) (by omega) (by omega) (by omega),vK (t:=y) (by omega) (by omega) (by omega)];exact hr _ _ (by omega) (by omega) (by omega)
 · intro x y hx hxy hy;rw[h,h,sJ (t:=x) (by omega) (by omega) (by omega),sJ (t:=y) (by omega) (by omega) (by omega)];exact hl _ _ (by omega) (by omega) (by omega)
 · intro x y hx hxy hy;rw[h,h,ji (t:=x) (by omega),ji (t:=y) (by omega)];exact hr _ _ (by omega) (by omega) (by omega)
 ·
  intro x y hx hxm hy hyb;rw[h,h]
  have alN:s > a→e < b→lt d[e]! d[s - 1]! =false:=fun hs0 he0=>by
   have:=h1 (s - 1) (by split <;> omega) (by omega)
   have e1:mid+m - 1 - (s - 1)=e:=by omega
   rwa [e1] at this
  have alO:s < m→m < e→lt d[s]! d[e - 1]! =false:=fun hs0 he0=>by
   have:=h2 s (Nat.le_refl _) (by split <;> omega)
   have e1:mid+m - 1 - s=e - 1:=by omega
   rw[e1] at this;exact zi hO _ _ this
  by_cases cx:x < s
  · rw[ji (t:=x) (.inl cx)];by_cases cy:e≤y
    · rw[ji (t:=y) (.inr cy)];exact hO.ntrans _ _ _ (hle hr e y (by omega) cy hyb) (hO.ntrans _ _ _ (alN (by omega) (by omega)) (hle hl x (s - 1) hx (by omega) (by omega)))
    · rw[sJ (t:=y) (by omega) (by omega) (by omega)];exact hle hl _ _ hx (by omega) (by omega)
  · rw[vK (t:=x) (by omega) (by omega) (by omega)];by_cases cy:e≤y
    · rw[ji (t:=y) (.inr cy)];exact hle hr _ _ (by omega) (by omega) hyb
    · rw[sJ (t:=y) (by omega) (by omega) (by omega)];exact hO.ntrans _ _ _ (hle hl s _ (by omega) (by omega) (by omega)) (hO.ntrans _ _ _ (alO (by omega) (by omega)) (hle hr _ (e - 1) (by omega) (by omega) (by omega)))
theorem SE (hO:SWO lt)(d:Array α)(a m b mid lo hi:Nat)(hmid:mid=(a+b) / 2)(ham:a < m)(hmb:m < b)(hlo:lo=if m > mid then mid+m - b else a)(hhi:hi=if m > mid then mid else m)
 (hl:SortedIn lt a m d) (hr:SortedIn lt m b d) (c1 c2:Nat) (h0:lo≤c1) (h1:c1 < c2) (h2:c2 < hi) (h:lt d[mid+m - 1 - c2]! d[c2]! =false):lt d[mid+m - 1 - c1]! d[c1]! =false:=by
 have e1:a≤c1∧c2 < m∧m≤mid+m - 1 - c2∧mid+m - 1 - c1 < b:=by split at hlo <;> split at hhi <;> omega
 exact hO.ntrans _ _ _ (hr _ _ (by omega) (by omega) (by omega)) (hO.ntrans _ _ _ h (hl _ _ (by omega) h1 (by omega)))
theorem GX (d d1 d2:Array α)(a mid b:Nat)(h1:a≤mid)(h2:mid≤b)(hb:b≤d.size)(hx:∀x y,a≤x→x < mid→mid≤y→y < b→lt d[y]! d[x]! =false)
 (p1:PermIn a mid d d1) (s1:SortedIn lt a mid d1) (p2:PermIn mid b d1 d2) (s2:SortedIn lt mid b d2):SortedIn lt a b d2:=by
 have q1:∀x y,a≤x→x < mid→mid≤y→y < b→lt d1[y]! d1[x]! =false:=by
  intro x y x1 x2 y1 y2;rw[p1.2.1 y (.inr y1)];exact permIn_all d d1 a mid (fun u=>lt d[y]! u=false) (by omega) p1 (fun i i1 i2=>hx i y i1 i2 y1 y2) x x1 x2
 intro x y x0 xy yb;by_cases hy:y < mid
 · rw[p2.2.1 x (.inl (by omega)),p2.2.1 y (.inl hy)];exact s1 x y x0 xy hy
 · by_cases hx':x < mid
   · rw[p2.2.1 x (.inl hx')];exact permIn_all d1 d2 mid b (fun u=>lt u d1[x]! =false) (by rw[p1.1];exact hb) p2 (fun i i1 i2=>q1 x i x0 hx' i1 i2) y (by omega) yb
   · exact s2 x y (by omega) xy yb
end Iv
namespace Go.Proofs.YtfbkkgfkhhibfaaGreat
open Go Go.Shelf Go.RowKit Go.Lib Go.Sort Iv
structure SortLays (P:Program)(k:Nat):Prop where
 mixed:P.follows .mixedOrders=true
 f62:P.funcs[31]?=some Tryz.f31
 f77:P.funcs[53]?=some Tryz.f53
 f86:P.funcs[87]?=some Tryz.f87
 f87:P.funcs[88]?=some Tryz.f88
 f88:P.funcs[120]?=some Tryz.f120
 f89:P.funcs[155]?=some Tryz.f155
 t0:P.underlying 0=some (TypeDesc.tuple #[])
 a0:∀w,(isAgg 0).run P w= .ok false w
 z0:∀w,(Go.sizeOf 0).run P w= .ok 1 w
 v0:∀w,(zeroValue 0).run P w= .ok (Value.tuple #[]) w
 t3:P.underlying 3=some (TypeDesc.int IntKind.i64)
 a3:∀w,(isAgg 3).run P w= .ok false w
 z3:∀w,(Go.sizeOf 3).run P w= .ok 1 w
 v3:∀w,(zeroValue 3).run P w= .ok (Value.int IntKind.i64 0) w
 t4:P.underlying 4=some (TypeDesc.bool)
 a4:∀w,(isAgg 4).run P w= .ok false w
 z4:∀w,(Go.sizeOf 4).run P w= .ok 1 w
 v4:∀w,(zeroValue 4).run P w= .ok (Value.bool false) w
 t36:P.underlying 48=some (TypeDesc.slice 54)
 a36:∀w,(isAgg 48).run P w= .ok false w
 z36:∀w,(Go.sizeOf 48).run P w= .ok 1 w
 v36:∀w,(zeroValue 48).run P w= .ok (Value.slice none 0 0) w
 t124:P.underlying 100=some (TypeDesc.func #[54,54] #[3] false)
 a124:∀w,(isAgg 100).run P w= .ok false w
 z124:∀w,(Go.sizeOf 100).run P w= .ok 1 w
 v124:∀w,(zeroValue 100).run P w= .ok (Value.nilFunc) w
 t96:P.underlying 132=some (TypeDesc.int IntKind.u64)
 a96:∀w,(isAgg 132).run P w= .ok false w
 z96:∀w,(Go.sizeOf 132).run P w= .ok 1 w
 v96:∀w,(zeroValue 132).run P w= .ok (Value.int IntKind.u64 0) w
 aE:∀w,(isAgg 54).run P w= .ok true w
 zE:∀w,(Go.sizeOf 54).run P w= .ok k w
variable {P : Program} {α : Type} [Inhabited α]
theorem AP {k:Nat}(L:SortLays P k)(enc:α→List Value)(g:Nat)(cb:Array Value)(blk off cap a b n:Nat)(d0 d:Array α)(w0 w:World)
 (R:RowK enc k w0 blk off d0) (hs:d.size=d0.size) (S:SWK enc k w0 blk off d w) (hab:a+n≤b) (hb:b+n≤d0.size) (hsz:d0.size < 1000000000):
 Calls P 155 #[.slice (some ⟨blk,off,none⟩) d0.size cap,.int .i64 a,.int .i64 b,.int .i64 n,.func (.func g) #[] cb] w fun e w'=>e= .returned (.tuple #[])∧SWK enc k w0 blk off (lH d a b n) w':=by
 have mixed:=L.mixed;have t0:=L.t0;have a0:=L.a0;have z0:=L.z0;have v0:=L.v0;have t3:=L.t3;have a3:=L.a3;have z3:=L.z3;have v3:=L.v3;have t4:=L.t4;have a4:=L.a4;have z4:=L.z4;have v4:=L.v4;have t36:=L.t36;have a36:=L.a36;have z36:=L.z36;have v36:=L.v36;have t124:=L.t124;have a124:=L.a124;have z124:=L.z124;have v124:=L.v124;have t96:=L.t96;have a96:=L.a96;have z96:=L.z96;have v96:=L.v96;have aE:=L.aE;have zE:=L.zE;have u36:=run_underlying L.t36;have S0:Aside (SWK enc k w0 blk off d w):=S;clear S;go_enter L.f89,Tryz.ntmps155;go_wp2;go_loopg [10] n (fun kx s10 wr=>∃(i:Nat),s10= .int .i64 (i:Int)∧i≤n∧n - i≤kx∧Aside (SWK enc k w0 blk off (lH d a b i) wr))
 case atStart=>exact ⟨0,rfl,Nat.zero_le _,by omega,S0⟩
 case round=>
  clear S0;obtain⟨i,rfl,hin,hkx,S1⟩:=hrel;by_cases hlt:i < n
  · have hz:(i:Int) < (n:Int):=by omega
    have hds:(lH d a b i).size=d0.size:=by rw[iU];exact hs
    generalize hdk:lH d a b i=dk at hds S1;have HDK:=ae hdk;clear hdk;have q1:(0:Int)≤(a:Int)+(i:Int):=by omega
    have q2:(a:Int)+(i:Int) < (d0.size:Int):=by omega
    have q3:(0:Int)≤(b:Int)+(i:Int):=by omega
    have q4:(b:Int)+(i:Int) < (d0.size:Int):=by omega
    have q5:((a:Int)+(i:Int)).toNat=a+i:=by omega
    have q6:((b:Int)+(i:Int)).toNat=b+i:=by omega
    have q7:IntKind.i64.wrap ((a:Int)+(i:Int))=(a:Int)+(i:Int):=by rw[IntKind.wrap_i64];omega
    have q8:IntKind.i64.wrap ((b:Int)+(i:Int))=(b:Int)+(i:Int):=by rw[IntKind.wrap_i64];omega
    have ea1:((a+i:Nat):Int).toNat=a+i:=by omega
    have ec1:((b+i:Nat):Int).toNat=b+i:=by omega
    have Zd:Aside (SWK enc k w0 blk off (swp dk (a+i) (b+i)) ((wr.drew.setCells blk (off+(a+i)* k) (enc dk[b+i]!)).setCells blk (off+(b+i)* k) (enc dk[a+i]!))):=S1.out.swapped R (a+i) (b+i) (by omega) (by omega);have FP:=S1.out.ld1 R (by omega) P (a+i) (by omega);have FQ:=S1.out.ld1 R (by omega) P (b+i) (by omega);have s1a:=S1.out.st1 R (by omega) P (a+i) (by omega) dk[b+i]!;have s1b:=S1.out.st2 R (by omega) P (a+i) (b+i) (by omega) (by omega) dk[b+i]! dk[a+i]!;have n1a:(enc dk[a+i]!).length=k:=R.hk _;have n1b:(enc dk[b+i]!).length=k:=R.hk _;generalize enc dk[a+i]! =cI1 at Zd FP s1b n1a;generalize enc dk[b+i]! =cJ1 at Zd FQ s1a s1b n1b;clear S1;go_wp2_with fail;go_big_region_o;clear FP FQ s1a s1b;generalize (wr.drew.setCells blk (off+(a+i)* k) cJ1).setCells blk (off+(b+i)* k) cI1=w2 at Zd⊢;go_wp2;go_roundg (n - (i+1))
    case measure=>omega
    case rel=>exact ⟨i+1,by go_num,hlt,Nat.le_refl _,by unfold lH;rw[HDK.out];exact Zd⟩
  · obtain rfl:i=n:=by omega
    have hz:¬(i:Int) < (i:Int):=by omega
    go_wp2;go_end0;exact⟨rfl,S1.out⟩
theorem KC {k:Nat}(L:SortLays P k)(enc:α→List Value)(g:Nat)(cb:Array Value)(blk off cap a m b:Nat)(d0 d:Array α)(w0 w:World)
 (R:RowK enc k w0 blk off d0) (hs:d.size=d0.size) (S:SWK enc k w0 blk off d w) (ham:a < m) (hmb:m < b) (hb:b≤d0.size) (hsz:d0.size < 1000000000):
 Calls P 120 #[.slice (some ⟨blk,off,none⟩) d0.size cap,.int .i64 a,.int .i64 m,.int .i64 b,.func (.func g) #[] cb] w fun e w'=>e= .returned (.tuple #[])∧∃d',d'.size=d0.size∧PermIn a b d d'∧(∀t,d'[t]! =dQ d a m b t)∧SWK enc k w0 blk off d' w':=by
 have mixed:=L.mixed;have t0:=L.t0;have a0:=L.a0;have z0:=L.z0;have v0:=L.v0;have t3:=L.t3;have a3:=L.a3;have z3:=L.z3;have v3:=L.v3;have t4:=L.t4;have a4:=L.a4;have z4:=L.z4;have v4:=L.v4;have t36:=L.t36;have a36:=L.a36;have z36:=L.z36;have v36:=L.v36;have t124:=L.t124;have a124:=L.a124;have z124:=L.z124;have v124:=L.v124;have t96:=L.t96;have a96:=L.a96;have z96:=L.z96;have v96:=L.v96;have aE:=L.aE;have zE:=L.zE;have u36:=run_underlying L.t36;have e89:∀args w,(callFunc 155 args).run P w= .ok (.enter 155 args) w:=enters_of L.f89 (by kernel_rfl) rfl;have S0:Aside (SWK enc k w0 blk off d w):=S;have CS:=ae (fun (a' b' n':Nat) (d':Array α) (W:World) (h1:d'.size=d0.size) (h2:SWK enc k w0 blk off d' W) (h3:a'+n'≤b') (h4:b'+n'≤d0.size)=>AP L enc g cb blk off cap a' b' n' d0 d' w0 W R h1 h2 h3 h4 hsz);clear S;have i1:IntKind.i64.wrap ((m:Int) - (a:Int))=((m - a:Nat):Int):=by rw[IntKind.wrap_i64];omega
 have i2:IntKind.i64.wrap ((b:Int) - (m:Int))=((b - m:Nat):Int):=by rw[IntKind.wrap_i64];omega
 go_enter L.f88,Tryz.ntmps120;go_wp2_with fail;go_loopg [10,11] (b - a) (fun kx s10 s11 wr=>∃(i j:Nat) (dk:Array α),s10= .int .i64 (i:Int)∧s11= .int .i64 (j:Int)∧0 < i∧0 < j∧i≤m - a∧j≤b - m∧i+j≤kx∧dk.size=d0.size∧Aside (SWK enc k w0 blk off dk wr)∧Aside (PermIn a b d dk)∧Aside (∀t,dQ dk (m - i) m (m+j) t=dQ d a m b t))
 case atStart=>exact ⟨m - a,b - m,d,by first | rfl | (congr 1;omega),by first | rfl | (congr 1;omega),by omega,by omega,Nat.le_refl _,Nat.le_refl _,by omega,hs,S0,permIn_refl d a b,fun t=>by rw[show m - (m - a)=a by omega,show m+(b - m)=b by omega]⟩
 case round=>
  clear S0 i1 i2;obtain⟨i,j,dk,rfl,rfl,hi,hj,him,hjm,hkx,hds,S1,P1,E1⟩:=hrel;have j1:IntKind.i64.wrap ((m:Int) - (i:Int))=(m:Int) - (i:Int):=by rw[IntKind.wrap_i64];omega
  rcases Nat.lt_trichotomy i j with hij | hij | hij
  · have n1:¬(i:Int)=(j:Int):=by omega
    have n2:¬(j:Int) < (i:Int):=by omega
    have n3:((i:Int) !=(j:Int))=true:=by simp;omega
    have j2:IntKind.i64.wrap ((m:Int)+(j:Int))=(m:Int)+(j:Int):=by rw[IntKind.wrap_i64];omega
    have j3:IntKind.i64.wrap ((m:Int)+(j:Int) - (i:Int))=(m:Int)+(j:Int) - (i:Int):=by rw[IntKind.wrap_i64];omega
    have j4:IntKind.i64.wrap ((j:Int) - (i:Int))=(j:Int) - (i:Int):=by rw[IntKind.wrap_i64];omega
    have C:=CS.out (m - i) (m+j - i) i dk wr hds S1.out (by omega) (by omega);rw[show ((m - i:Nat):Int)=(m:Int) - (i:Int) by omega,show ((m+j - i:Nat):Int)=(m:Int)+(j:Int) - (i:Int) by omega] at C;have C:=ae C;go_wp2_with (go_at_call 155;refine C.out.mono ?_;rintro e w2 ⟨rfl,S2⟩;replace S2:Aside _:=S2);go_roundg (i+(j - i))
    case measure=>omega
    case rel=>exact ⟨i,j - i,_,rfl,by first | rfl | (congr 1;omega),hi,by omega,him,by omega,Nat.le_refl _,by rw[iU];exact hds,S2,permIn_trans _ _ _ _ _ P1.out (qN dk a b _ _ _ (by omega) (by omega) (by omega) (by omega)),fun t=>by
     have:=P6 dk (m - i) m (m+j) (by omega) (by omega) (by omega) (by omega) t;rw[show m - (m - i)=i by omega] at this;rw[show m+(j - i)=m+j - i by omega,this];exact E1.out t⟩
  · subst hij;have C:=CS.out (m - i) m i dk wr hds S1.out (by omega) (by omega);rw[show ((m - i:Nat):Int)=(m:Int) - (i:Int) by omega] at C;have C:=ae C;go_wp2_with (go_at_call 155;refine C.out.mono ?_;rintro e w2 ⟨rfl,S2⟩;replace S2:Aside _:=S2);go_end0
    exact⟨rfl,_,by rw[iU];exact hds,permIn_trans _ _ _ _ _ P1.out (qN dk a b _ _ _ (by omega) (by omega) (by omega) (by omega)),fun t=>by
     have:=Uo dk (m - i) m (m+i) (by omega) (by omega) (by omega) (by omega) t;rw[show m - (m - i)=i by omega] at this;rw[this];exact E1.out t,S2.out⟩
  · have n1:¬(i:Int)=(j:Int):=by omega
    have n2:(j:Int) < (i:Int):=by omega
    have n3:((i:Int) !=(j:Int))=true:=by simp;omega
    have j4:IntKind.i64.wrap ((i:Int) - (j:Int))=(i:Int) - (j:Int):=by rw[IntKind.wrap_i64];omega
    have C:=CS.out (m - i) m j dk wr hds S1.out (by omega) (by omega);rw[show ((m - i:Nat):Int)=(m:Int) - (i:Int) by omega] at C;have C:=ae C;go_wp2_with (go_at_call 155;refine C.out.mono ?_;rintro e w2 ⟨rfl,S2⟩;replace S2:Aside _:=S2);go_roundg ((i - j)+j)
    case measure=>omega
    case rel=>exact ⟨i - j,j,_,by first | rfl | (congr 1;omega),rfl,by omega,hj,by omega,hjm,Nat.le_refl _,by rw[iU];exact hds,S2,permIn_trans _ _ _ _ _ P1.out (qN dk a b _ _ _ (by omega) (by omega) (by omega) (by omega)),fun t=>by
     have:=P7 dk (m - i) m (m+j) (by omega) (by omega) (by omega) (by omega) t;rw[show m+j - m=j by omega] at this;rw[show m - (i - j)=m - i+j by omega,this];exact E1.out t⟩
theorem AQ {k:Nat}(L:SortLays P k)(enc:α→List Value)(cf:α→α→Int)(g:Nat)(cb:Array Value)(blk off cap a b:Nat)(d0 d:Array α)(w0 w:World)
 (eg:∀args w,(callFunc g args).run P w= .ok (.enter g args) w) (hcmp:CmpLays P g cb enc k cf blk off d0.size w0)
 (R:RowK enc k w0 blk off d0) (hs:d.size=d0.size) (S:SWK enc k w0 blk off d w) (hab:a≤b) (hb:b≤d0.size) (hsz:d0.size < 1000000000):
 Calls P 87 #[.slice (some ⟨blk,off,none⟩) d0.size cap,.int .i64 a,.int .i64 b,.func (.func g) #[] cb] w fun e w'=>e= .returned (.tuple #[])∧SWK enc k w0 blk off (Sort.insertionSort (ltOf cf) d a b) w':=by
 have mixed:=L.mixed;have t0:=L.t0;have a0:=L.a0;have z0:=L.z0;have v0:=L.v0;have t3:=L.t3;have a3:=L.a3;have z3:=L.z3;have v3:=L.v3;have t4:=L.t4;have a4:=L.a4;have z4:=L.z4;have v4:=L.v4;have t36:=L.t36;have a36:=L.a36;have z36:=L.z36;have v36:=L.v36;have t124:=L.t124;have a124:=L.a124;have z124:=L.z124;have v124:=L.v124;have t96:=L.t96;have a96:=L.a96;have z96:=L.z96;have v96:=L.v96;have aE:=L.aE;have zE:=L.zE;have u36:=run_underlying L.t36;have HC:Aside _:=hcmp;have S0:Aside (SWK enc k w0 blk off d w):=S;clear S hcmp;have i1:IntKind.i64.wrap ((a:Int)+1)=(a:Int)+1:=by rw[IntKind.wrap_i64];omega
 go_enter L.f86,Tryz.ntmps87;go_wp2;go_loopg [8] (b - a) (fun g1 vi wr=>∃(i:Nat) (dk:Array α),vi= .int .i64 i∧a < i∧i≤b+1∧b+1 - i≤g1+1∧dk.size=d0.size∧Aside (SWK enc k w0 blk off dk wr)∧Hid (insOuter (ltOf cf) a b i dk=insOuter (ltOf cf) a b (a+1) d))
 case atStart=>exact ⟨a+1,d,by go_num,by omega,by omega,by omega,hs,S0,rfl⟩
 case round=>
  clear S0 i1;obtain⟨i,dk,rfl,hai,hib,hg1,hsk,S1,HO⟩:=hrel;by_cases hlt:i < b
  · have hltz:(i:Int) < (b:Int):=by omega
    have i2:IntKind.i64.wrap ((i:Int)+1)=(i:Int)+1:=by rw[IntKind.wrap_i64];omega
    go_wp2;go_loopg [9] i (fun g2 vj wr2=>∃(j:Nat) (dj:Array α),vj= .int .i64 j∧a≤j∧j≤i∧j≤g2∧dj.size=d0.size∧Aside (SWK enc k w0 blk off dj wr2)∧Hid (insInner (ltOf cf) a j dj=insInner (ltOf cf) a i dk))
    case atStart=>exact ⟨i,dk,rfl,by omega,Nat.le_refl _,Nat.le_refl _,hsk,S1,rfl⟩
    case round=>
     clear S1;obtain⟨j,dj,rfl,haj,hji,hg2,hsj,S2,HI⟩:=hrel
     have out:(j≤a∨ltOf cf dj[j]! dj[j - 1]! =false)→Hid (insOuter (ltOf cf) a b (i+1) dj=insOuter (ltOf cf) a b (a+1) d):=fun hs=>by
      show _=_;rw[←HO.out,insOuter_go _ _ _ _ _ hlt,←HI.out,insInner_stop _ _ _ _ hs]
     have OUT:Aside _:=out;clear out;by_cases hja:a < j
     · have hjaz:(a:Int) < (j:Int):=by omega
       obtain⟨jp,rfl⟩:∃jp,j=jp+1:=⟨j - 1,by omega⟩;obtain⟨xj,hxj⟩:∃x,dj[jp+1]! =x:=⟨_,rfl⟩;obtain⟨xp,hxp⟩:∃x,dj[jp]! =x:=⟨_,rfl⟩;have hwp:IntKind.i64.wrap (jp:Int)=(jp:Int):=by rw[IntKind.wrap_i64];omega
       have jz:(jp:Int)+1 < (d0.size:Int):=by omega
       have jz1:(jp:Int) < (d0.size:Int):=by omega
       have hjaz':(a:Int) < (jp:Int)+1:=by omega
       have p0:(0:Int)≤(jp:Int)+1:=by omega
       have e0:((jp:Int)+1).toNat=jp+1:=by omega
       have FP:=S2.out.ld R (by omega) P (jp+1) (by omega);have FQ:=S2.out.ld R (by omega) P jp (by omega);have hc1:=S2.out.cmp HC.out (by omega) xj xp;rw[hxj] at FP;rw[hxp] at FQ;by_cases hlv:cf xj xp < 0
       · go_wp2_with fail;go_quiet_grown (first | (go_at_fn g;refine Calls.grown_of (hc1 _ _)));go_wp2_with fail;have S3:Aside (SWK enc k w0 blk off dj (grow (wr.drewN nq) osq)):=S2.out.grown nq osq;clear FP FQ hc1 S2;generalize grow (wr.drewN nq) osq=w2 at S3⊢;have Zd:Aside (SWK enc k w0 blk off (swp dj (jp+1) jp) ((w2.drew.setCells blk (off+(jp+1)* k) (enc dj[jp]!)).setCells blk (off+jp * k) (enc dj[jp+1]!))):=S3.out.swapped R (jp+1) jp (by omega) (by omega);have ZU:=S3.out.ld1 R (by omega) P (jp+1) (by omega);have ZV:=S3.out.ld1 R (by omega) P jp (by omega);have ZW:=S3.out.st1 R (by omega) P (jp+1) (by omega) dj[jp]!;have VH:=S3.out.st2 R (by omega) P (jp+1) jp (by omega) (by omega) dj[jp]! dj[jp+1]!;have n2a:(enc dj[jp+1]!).length=k:=R.hk _;have n2b:(enc dj[jp]!).length=k:=R.hk _;have HXJ:=ae hxj;have HXP:=ae hxp;clear hxj hxp;generalize enc dj[jp+1]! =cI at Zd ZU VH n2a;generalize enc dj[jp]! =cJ at Zd ZV ZW VH n2b;clear S3;go_big_region_o;all_goals go_wp2
         go_roundg jp
         case measure=>omega
         case rel=>
          refine⟨jp,swp dj (jp+1) jp,by first | rfl | go_num | (congr 1;omega),by omega,by omega,Nat.le_refl _,by rw[size_swp];exact hsj,Zd,(show Hid _ from ?_)⟩;show _=_;have:=insInner_go (ltOf cf) a (jp+1) dj hja (by simp only[Nat.add_sub_cancel];rw[HXJ.out,HXP.out];exact decide_eq_true hlv);simp only[Nat.add_sub_cancel] at this;rw[←HI.out,this]
       · go_wp2_with fail;go_quiet_grown (first | (go_at_fn g;refine Calls.grown_of (hc1 _ _)));have S3:Aside (SWK enc k w0 blk off dj (grow (wr.drewN nq) osq)):=S2.out.grown nq osq;clear FP FQ hc1 S2;generalize grow (wr.drewN nq) osq=w2 at S3⊢;go_wp2;go_roundg (b - (i+1))
         case measure=>omega
         case rel=>exact ⟨i+1,dj,by go_num,by omega,by omega,by omega,hsj,S3,OUT.out (Or.inr (by simp only[Nat.add_sub_cancel];rw[hxj,hxp];exact decide_eq_false (by omega)))⟩
     · have hjaz:decide ((j:Int) > (a:Int))=false:=decide_eq_false (by omega);have hjaz':¬(a:Int) < (j:Int):=by omega
       go_wp2_with fail;go_big_region_o;all_goals go_wp2
       go_roundg (b - (i+1))
       case measure=>omega
       case rel=>exact ⟨i+1,dj,by go_num,by omega,by omega,by omega,hsj,S2.out.drew,OUT.out (Or.inl (by omega))⟩
  · have hltz:¬(i:Int) < (b:Int):=by omega
    go_wp2;go_end0;exact⟨rfl,by unfold Sort.insertionSort;rw[←HO.out,insOuter_stop _ _ _ _ _ hlt];exact S1.out⟩
