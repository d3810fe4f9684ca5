/- Words. -/
import Derived.Lib.Hide
import Derived.OwnWalk
import Derived.Laws.AppendOwn
import Derived.Laws.BitsLemmas
import Derived.IntWalk
import Derived.Below
import Derived.Laws.OwnMore
import Derived.Deep.AppendLies
import Derived.Deep.Draws
import Derived.Maps.AppendAt
import Derived.RegionTactic
import Derived.ArgAppend
import Derived.WalkKit
import Derived.Deep.RegionHeld3
import Derived.StillTail
set_option linter.unusedVariables false
set_option linter.defProp false
open Go Go.RowKit
theorem Go.RowKit.Hid.o {p:Prop}(h:Hid p):p:=h.out
def ae:=@Lib.hid
def aV:=@List.getElem?_eq_getElem
def bV:=@List.getElem?_eq_some_iff
def aY:=@World.grownBy_alloc
def ax:=@Nat.le_refl
def dF:=@List.setIfInBounds_toArray
def bG:=@List.length_append
def aG:=@Nat.zero_le
def aP:=@Nat.le_trans
def dC:=@List.set_cons_zero
def bu:=@List.set_cons_succ
def bK:=@List.getElem?_map
def dH:=@Array.getElem?_toList
def cZ:=@Bool.and_eq_true
def dm:=@List.getElem_mem
def iU:=@Array.getElem?_eq_some_iff
def dD:=@IntKind.wrap_i64
def dU:=@World.ownsRow_nil
def jJ:=@List.getElem?_append_right
def jI:=@List.getElem?_append_left
def iC:=@List.mem_of_getElem?
def fU:=@List.append_assoc
def lZ:=@List.eq_nil_of_length_eq_zero
def gK:=@decide_eq_true_eq
def iJ:=@beq_eq_false_iff_ne
def eU:=@List.map_append
def eX:=@decide_eq_false
def iW:=@Nat.mul_le_mul_right
def ku:=@List.drop_eq_nil_of_le
def dJ:=@Nat.zero_add
def dV:=@List.mem_cons
def gy:=@List.length_map
def lL:=@decide_eq_false_iff_not
def iO:=@List.length_cons
def jA:=@Option.some.injEq
def oG:=@List.drop_eq_getElem_cons
def pR:=@List.getD_eq_getElem?_getD
def mg:=@List.mem_iff_getElem?
def mX:=@Option.map_eq_some_iff
def jK:=@List.not_mem_nil
def jO:=@World.size_alloc
def lW:=@World.cell?_of_block
def lJ:=@Nat.lt_of_lt_of_le
def lS:=@Bool.false_eq_true
def oK:=@List.getElem?_toArray
def iw:=@bodyPost_ret
def jM:=@List.mem_append
def jy:=@run_underlying
def lX:=@List.mem_singleton
def nH:=@Array.length_toList
def mi:=@List.getElem?_take
def iq:=@Nat.add_mul
def rF:=@List.getElem?_eq_none
def mf:=@List.all_eq_true
def iV:=@List.mem_map
def lN:=@List.nil_append
def gI:=@beq_iff_eq
def uU:=@List.getElem?_cons_zero
def oP:=@List.take_add_one
def mZ:=@List.length_take
def pV:=@Nat.eq_zero_or_pos
def kH:=@List.map_cons
def oQ:=@List.take_length
def ng:=@Option.map_some
def zG:=@Array.getElem?_eq_getElem
def Et:=@List.mem_zipIdx_iff_getElem?
def xM:=@List.take_of_length_le
def qp:=@List.length_drop
def pY:=@List.append_nil
def nz:=@Nat.add_assoc
def ve:=@Nat.add_sub_cancel
def zQ:=@Bool.and_eq_false_iff
def Au:=@Nat.le_of_ble_eq_true
def oC:=@List.map_take
def uX:=@List.size_toArray
def uT:=@Option.bind_some
def lY:=@Nat.mul_one
def xe:=@Int.toNat_natCast
def oD:=@Nat.add_zero
def kS:=@bne_iff_ne
def Gp:=@Int.eq_ofNat_of_zero_le
def Gt:=@World.block_lt_of_cell?
def uS:=@List.nodup_cons
def Aj:=@World.grownBy.cell
def DK:=@List.mem_append_left
def SV:=@Array.all_eq_true_iff_forall_mem
def CJ:=@bne_eq_false_iff_eq
def NW:=@Decidable.byContradiction
def rD:=@Nat.sub_self
def xH:=@Bool.or_eq_true
def DC:=@Int.natCast_nonneg
def DD:=@Nat.lt_or_eq_of_le
def qh:=@Nat.one_mul
def MB:=@Nat.add_sub_cancel_left
def DZ:=@Bool.not_eq_true'
def Dy:=@List.cons_append
def Gv:=@World.ownsRow_made
def qK:=@List.map_drop
def DL:=@List.mem_append_right
def pK:=@Nat.le_of_eq
def y9:=@List.getElem?_drop
def DU:=@List.pairwise_append
def DW:=@Bool.or_eq_false_iff
def PD:=@Array.getElem?_setIfInBounds_ne
def rq:=@List.map_nil
def Iu:=@List.pairwise_singleton
def yV:=@Below.heap_alloc
def wC:=@Nat.mul_le_mul
def Pz:=@Array.getElem?_setIfInBounds
def jW:=@congrArg
def DX:=@List.length_modify
def Io:=@List.length_singleton
def Ip:=@Array.mem_of_getElem?
def yA:=@Nat.min_eq_left
def yJ:=@List.length_nil
def JK:=@List.take_append_drop
def tX:=@Sem.run_bind
def vK:=@Bool.true_and
def Eu:=@Result.andThen_ok
def Ro:=@Nat.mod_two_eq_zero_or_one
def IE:=@List.getElem?_modify
def Jn:=@Nat.pow_le_pow_right
def Jq:=@World.cell?_alloc_lt
def Jy:=@List.mem_iff_getElem
def JO:=@List.mem_cons_of_mem
def JS:=@List.range_eq_range'
def J9:=@List.mem_of_mem_take
def yB:=@List.mem_range
def Dj:=@Nat.mod_eq_of_lt
def EE:=@Nat.lt_succ_self
def rU:=@Int.le_refl
def Iz:=@List.map_eq_nil_iff
def IA:=@List.mem_map_of_mem
def Ji:=@List.getElem?_range
def Kt:=@List.take_succ_cons
def vz:=@List.map_map
def vT:=@Nat.lt_or_ge
def vZ:=@results_none
def wJ:=@getElem!_pos
def Cm:=@List.cons.injEq
def yC:=@Nat.lt_irrefl
def Je:=@List.pairwise_cons
def JD:=@Below.heap_setCell
def Eh:=@List.length_set
def Q4:=@List.getElem?_cons_succ
def Q3:=@List.getElem_cons_succ
def Jk:=@List.getElem?_set
def Jo:=@List.any_eq_false
def Jv:=@List.ext_getElem?
def Kw:=@of_decide_eq_true
def CY:=@List.drop_zero
def ED:=@List.drop_drop
def yS:=@Nat.ne_of_lt
def QD:=@Array.getElem?_modify
def ZO:=@Array.eq_empty_of_size_eq_zero
def Jm:=@Array.toList_map
def QT:=@List.forall_mem_cons
def yw:=@setRow_heap
def Ir:=@List.mem_filter
def Qp:=@Array.toList_zipIdx
def QZ:=@List.map_congr_left
def qL:=@Eq.trans
def Qo:=@Array.foldl_toList
def Qs:=@List.mem_replicate
def Ee:=@Sem.run_pure
def QV:=@decide_eq_true_iff
def Rz:=@List.mem_cons_self
def WO:=@List.snd_lt_of_mem_zipIdx
def XV:=@List.mem_or_eq_of_mem_set
def Ky:=@Bool.false_and
def yE:=@Nat.mod_lt
def yU:=@eq_iff_iff
def Zx:=@Array.size_setIfInBounds
def RD:=@Nat.dvd_add_right
def tq:=@if_false
def YH:=@List.getElem?_replicate
def ZH:=@List.mem_singleton_self
def QS:=@List.range'_succ
def XQ:=@Array.getElem?_eq_none
def PE:=@Option.some.inj
def Jl:=@Nat.zero_mul
def QI:=@List.sum_append
def YB:=@List.modify_succ_cons
def QJ:=@List.find?_cons
def YI:=@List.set_append_right
def YL:=@Nat.div_lt_iff_lt_mul
def JP:=@Nat.mul_comm
def qY:=@wp_mono
def vC:=@and_true
def Yw:=@Array.replicate_succ
def Yx:=@Array.replicate_zero
def Zj:=@List.mem_of_mem_drop
def su:=@if_true
def IG:=@Nat.add_mod
def II:=@Nat.mod_mod
def Jj:=@Nat.sub_mul
def Yy:=@List.append_toArray
def YJ:=@List.flatMap_append
def Zm:=@List.drop_succ_cons
def ZC:=@List.zipIdx_map_snd
def Cb:=@Array.ext
def Xn:=@Nat.lt_or_gt_of_ne
def Xo:=@Array.ext_getElem?
def Q9:=@DataW.trod_lt
def wB:=@Ne.symm
def Py:=@setRow_other
def PK:=@wpList_plain
def Qq:=@Nat.sub_zero
def Qr:=@Nat.add_comm
def RF:=@Nat.dvd_refl
def Qu:=@Nat.le_succ
set_option linter.defProp false
open Go Go.RowKit
def bI:=@World.grownBy.refl
def gQ:=@IntWalk.i64_in
def pX:=@IntWalk.u8_in
namespace Iv
open Go Go.RowKit
theorem addBlock (a:Addr)(n:Nat):(a.add n).block=a.block:=by unfold Addr.add;by_cases h:n=0<;>simp[h]
def Lies (w:World)(B sz:Nat)(A:Option Addr)(n:Nat)(xs:List Value):Prop:=
 xs.length=n*sz/\(0<n->∃ad,A=some ad/\ad.block<B/\∀j u,xs[j]?=some u->w.cell? (ad.add j)=some u)
section
variable {w w' : World} {B B' sz n : Nat} {A : Option Addr} {xs : List Value}
theorem Lies.nil:Lies w B sz none 0 []:=⟨by simp,λh=>absurd h (by omega)⟩
theorem Lies.cellAt {k:Nat}(h:Lies w B 1 A n xs)(hk:k<n):∃a u,A=some a/\a.block<B/\xs[k]?=some u/\w.cell? (a.add k)=some u:=by obtain⟨a,e,hb,hc⟩:=h.2 (by omega);have d:k<xs.length:=(by have:=h.1;omega);exact⟨a,xs[k],e,hb,aV d,hc k _ (aV d)⟩
theorem Lies.same (h:Lies w B sz A n xs)(hk:∀p:Addr,p.block<B->w'.cell? p=w.cell? p):Lies w' B sz A n xs:=
 ⟨h.1,λhn=>by
  obtain⟨a,e,hb,hc⟩:=h.2 hn
  exact⟨a,e,hb,λj u d=>(hk _ (by rw[addBlock];exact hb)).trans (hc j u d)⟩⟩
theorem Lies.more (h:Lies w B sz A n xs)(hB:B<=B'):Lies w B' sz A n xs:=
 ⟨h.1,λhn=>by
  obtain⟨a,e,hb,hc⟩:=h.2 hn
  exact⟨a,e,by omega,hc⟩⟩
theorem Lies.drew (h:Lies w B sz A n xs):Lies w.drew B sz A n xs:=h
theorem Lies.alloc (h:Lies w B sz A n xs)(hB:B<=w.heap.size)(o:Obj):Lies (w.alloc o) B sz A n xs:=h.same λp a=>Jq w o p (by omega)
theorem Lies.grown (h:Lies w B sz A n xs){row:Option Nat}(hg:w.grownBy w' row)(hB:B<=w.heap.size)(hr:∀g,row=some g->B<=g):Lies w' B sz A n xs:=
 h.same λp a=>lW (hg.block p.block (by omega) (λe=>by have:=hr _ e.symm;omega))
end
theorem Lies.take {w:World}{B sz n m:Nat}{A:Option Addr}{xs:List Value}(h:Lies w B sz A n xs)(hm:m<=n):Lies w B sz A m (xs.take (m*sz)):=by
 refine⟨?_,λd=>?_⟩;rw[mZ,h.1];exact yA (iW _ hm)
 . obtain⟨y,e,hb,hc⟩:=h.2 (by omega);refine⟨y,e,hb,λj u a=>hc j u ?_⟩;rw[mi] at a;split at a;exact a
   cases a
theorem Lies.ofOwn {w:World}{base e sz n:Nat}{A:Option Addr}{c:Nat}{xs:List Value}(h:w.ownsRow base e sz (.slice A n c) n xs):Lies w w.heap.size sz A n xs:=by refine⟨h.1,λhn=>?_⟩;obtain⟨g,cap,d,_,a⟩:=h.form hn;injection d with u;subst u;exact⟨_,rfl,a,h.cells (g:=g) rfl⟩
theorem Zy (a:Addr)(i j:Nat):(a.add i).add j=a.add (i+j):=by unfold Addr.add;by_cases hi:i=0<;>by_cases d:j=0<;>simp[hi,d,nz]
theorem Lies.drop {w:World}{B sz n k:Nat}{A:Option Addr}{xs:List Value}(h:Lies w B sz A n xs)(hk:k<=n):Lies w B sz (A.map λx=>x.add (k*sz)) (n-k) (xs.drop (k*sz)):=by refine⟨by rw[qp,h.1,Jj],λhn=>?_⟩;obtain⟨d,rfl,hb,hc⟩:=h.2 (by omega);refine⟨_,rfl,by rw[addBlock];exact hb,λj u a=>?_⟩;rw[Zy];exact hc _ u (by rw[<-a,y9])
theorem Lies.dropIf {w:World}{B sz n k c:Nat}{A:Option Addr}{xs:List Value}(h:Lies w B sz A n xs)(hk:k<=n)(hnc:n<=c):Lies w B sz (if c=k then A else A.map λx=>x.add (k*sz)) (n-k) (xs.drop (k*sz)):=by by_cases hc:c=k;rw[if_pos hc];exact⟨by rw[qp,h.1,Jj],λhn=>by omega⟩;rw[if_neg hc];exact h.drop hk
theorem ai {w:World}{base e sz n:Nat}{v:Value}{xs:List Value}(h:w.ownsRow base e sz v n xs):
 ∃A c,v= .slice A n c/\n<=c/\c<=maxLen/\Lies w w.heap.size sz A n xs/\(A=none->c=0):=by have h0:=h;rcases h.2 with ⟨rfl,rfl⟩|⟨g,cap,cur,rfl,hb,hg,hnc,hcm,_⟩;have hx:xs=[]:=lZ (by simpa using h.1);subst hx;exact⟨none,0,rfl,ax _,aG _,Lies.nil,λ_=>rfl⟩;exact⟨_,cap,rfl,hnc,hcm,Lies.ofOwn h0,λe=>by cases e⟩
def App (w:World)(base e sz:Nat)(v:Value)(o:Option Nat)(n:Nat)(xs:List Value):Prop:=
 (w.ownsRow base e sz v n xs/\o=v.ownBlock)\/(∃A B,v= .slice A n n/\Lies w B sz A n xs/\(A=none->n=0)/\o=none)
def At (w:World)(o o':Option Nat):Prop:=o'=o\/∃g,o'=some g/\w.heap.size<=g
theorem App.own {w:World}{base e sz n:Nat}{v:Value}{xs:List Value}(h:w.ownsRow base e sz v n xs):App w base e sz v v.ownBlock n xs:= .inl ⟨h,rfl⟩
theorem App.cut {w:World}{base e sz B n:Nat}{A:Option Addr}{xs:List Value}(h:Lies w B sz A n xs):App w base e sz (.slice A n n) none n xs:=by
 refine .inr ⟨A,B,rfl,h,λe=>?_,rfl⟩;rcases pV n with h0|h0;exact h0
 . obtain⟨a,h1,_⟩:=h.2 h0;rw[e] at h1
   cases h1
theorem dI {w:World}{base base' e sz n:Nat}{v:Value}{xs:List Value}(h:w.ownsRow base e sz v n xs)(hb:base'<=base):w.ownsRow base' e sz v n xs:=by refine⟨h.1,?_⟩;rcases h.2 with h2|⟨g,cap,cur,h1,h2,h3⟩;exact .inl h2;exact .inr ⟨g,cap,cur,h1,aP hb h2,h3⟩
theorem af {a b c:World}{o o':Option Nat}(h:a.grownBy b o)(d:b.grownBy c o')(y:At a o o'):a.grownBy c o:=by refine⟨d.os.trans h.os,d.tape.trans h.tape,d.output.trans h.output,aP h.size d.size,λk hk u=>?_⟩;have h1:=h.block k hk u;refine (d.block k (lJ hk h.size) ?_).trans h1;rcases y with rfl|⟨g,rfl,hg⟩;exact u;intro e;injection e with e;omega
theorem At.trans {a b:World}{o o' d:Option Nat}(h:At a o o')(u:At b o' d)(y:a.heap.size<=b.heap.size):At a o d:=by rcases u with rfl|⟨g,rfl,hg⟩;exact h;exact .inr ⟨g,rfl,by omega⟩
theorem At.refl (w:World)(o:Option Nat):At w o o:= .inl rfl
theorem App.alloc {w:World}{base e sz n:Nat}{v:Value}{o:Option Nat}{xs:List Value}(h:App w base e sz v o n xs)(ob:Obj):App (w.alloc ob) base e sz v o n xs:=by rcases h with ⟨h,e⟩|⟨A,B,h1,h2,h3⟩;exact .inl ⟨h.alloc ob,e⟩;refine .inr ⟨A,B,h1,⟨h2.1,λhn=>?_⟩,h3⟩;obtain⟨d,ha,hb,hc⟩:=h2.2 hn;exact⟨d,ha,hb,λj u a=>(Jq w ob _ (Gt w _ (hc j u a))).trans (hc j u a)⟩
theorem dn {w w':World}{ob:Obj}{o:Option Nat}(h:(w.alloc ob).grownBy w' o):w.grownBy w' o:=
 af (aY w ob o) h (.inl rfl)
theorem nT {w w':World}{o:Option Nat}(h:w.drew.grownBy w' o):w.grownBy w' o:=⟨h.os,h.tape,h.output,h.size,h.block⟩
theorem tu {w w':World}{o:Option Nat}{q:Nat}(h:(w.drewN q).grownBy w' o):w.grownBy w' o:=⟨h.os,h.tape,h.output,h.size,h.block⟩
theorem At.drew {w:World}{o o':Option Nat}(h:At w.drew o o'):At w o o':=h
theorem At.drewN {w:World}{o o':Option Nat}{q:Nat}(h:At (w.drewN q) o o'):At w o o':=h
theorem At.alloc {w:World}{ob:Obj}{o o':Option Nat}(h:At (w.alloc ob) o o'):At w o o':=by rcases h with h|⟨g,h,hg⟩;exact .inl h;exact .inr ⟨g,h,by simp at hg;omega⟩
theorem iL (w:World)(u:Value)(e:TypeId):∀j a,[u][j]?=some a->(w.alloc (.cells #[u] e)).cell? ((⟨w.heap.size,0,none⟩:Addr).add j)=some a:=by intro j a h;have d:j=0:=(by have:=(bV.1 h).1;simp at this;exact this);subst d;simp at h;subst h;simp[Addr.add]
theorem FU {u:Value}(h:u.oneCell'=true):∀x∈ [u],x.oneCell'=true:=by intro x hx;simp at hx;subst hx;exact h
section
variable {P : Program} (w : World)
theorem TB (base:Nat)(t ty e:TypeId)(i:TypeInfo)(z:Value)(size bytes:Nat)(N:P.underlying t=some (.slice e))(hi:P.info? e=some i)(O:i.zero=some z)
 (y:i.size=size) (H:i.bytes=bytes) (I:z.cells.size=size) (J:0<size)
 (v:Value) (o:Option Nat) (n:Nat) (xs:List Value) (h:App w base e size v o n xs)
 (a:Addr) (m c:Nat) (news:List Value) (hm:0<m) (U:news.length=m*size) (D:∀j u,news[j]?=some u->w.cell? (a.add j)=some u) (h1:∀u∈news,u.oneCell'=true)
 (L:n+m<=maxLen) (d:(n+m)* bytes<=140737488355328) (E:base<=w.heap.size):
 ∃v' w',(Builtin.append_ #[t,t] ty #[v,.slice (some a) m c]).run P w= .ok v' w'/\w'.ownsRow base e size v' (n+m) (xs++news)/\w.grownBy w' o/\At w o v'.ownBlock:=by
 have own:∀v:Value,w.ownsRow base e size v n xs->∃v' w',(Builtin.append_ #[t,t] ty #[v,.slice (some a) m c]).run P w= .ok v' w'/\w'.ownsRow base e size v' (n+m) (xs++news)/\w.grownBy w' v.ownBlock/\At w v.ownBlock v'.ownBlock:=(by intro v G;obtain⟨v',w',hr,h2,h3,_,h5⟩:=run_append_own_at (P:=P) w base t ty e i z size bytes N hi O y H I J v n xs G a m c news U D h1 L d E;refine⟨v',w',hr,h2,h3,?_⟩;rcases h5 with h5|h5;exact .inl h5;exact .inr ⟨_,h5,ax _⟩);rcases h with ⟨G,rfl⟩|⟨A,B,rfl,hlies,hA,rfl⟩;exact own v G
 . cases A with
   |
    none=>
    obtain rfl:=hA rfl;have hx:xs=[]:=lZ (by simpa using hlies.1);subst hx;exact own _ (dU _ _ _ _)
   |
    some b=>
    have holds:∀j u,xs[j]?=some u->w.cell? (b.add j)=some u:=(by intro j u V;rcases pV n with h0|h0;subst h0;have hx:xs=[]:=lZ (by simpa using hlies.1);subst hx;simp at V;obtain⟨X,hb,_,hc⟩:=hlies.2 h0;injection hb with hb;subst hb;exact hc j u V);obtain⟨v',w',hr,h2,h3⟩:=run_append_arg_grows (P:=P) w t ty e i z size bytes N hi O y H I J b n n xs hlies.1 holds a m c news U D (by omega) L d;refine⟨v',w',hr,dI h2 E,h3,?_⟩;have:=h2.lt
    cases hv:v'.ownBlock with
    |none=>exact .inl rfl
    |some g=>exact .inr ⟨g,rfl,(this g hv).1⟩
theorem dM {ops:Array Oper}{rest:List Oper}{o:Oper}{a:Act}{Q:Exit->Act->World->Prop}(hg:o.guard=none)(s x:Operand)(t:TypeId)
 (G:o.op=Op.call { callee:=Callee.builtin Builtin.append,args:=#[s,x],argTypes:=#[t,t] })
 (base:Nat) (e:TypeId) (i:TypeInfo) (z:Value) (size bytes:Nat) (U:P.underlying t=some (.slice e)) (hi:P.info? e=some i) (V:i.zero=some z)
 (y:i.size=size) (H:i.bytes=bytes) (I:z.cells.size=size) (J:0<size)
 (v:Value) (ow:Option Nat) (n:Nat) (xs:List Value) (hs:a.eval s=v) (h:App w base e size v ow n xs)
 (L:Addr) (m c:Nat) (news:List Value) (hx:a.eval x= .slice (some L) m c) (hm:0<m) (hn:news.length=m*size) (hc:∀j u,news[j]?=some u->w.cell? (L.add j)=some u) (h1:∀u∈news,u.oneCell'=true)
 (N:n+m<=maxLen) (d:(n+m)* bytes<=140737488355328) (D:base<=w.heap.size)
 (X:∀v' w',w'.ownsRow base e size v' (n+m) (xs++news)->w.grownBy w' ow->At w ow v'.ownBlock->wpList P ops Q rest (a.put o.dst v') w'):
 wpList P ops Q (o::rest) a w:=by refine PK hg λK O=>?_;obtain⟨v',w',E,r1,Y,Z⟩:=TB (P:=P) w base t o.type e i z size bytes U hi V y H I J v ow n xs h L m c news hm hn hc h1 N d D;unfold Oper.wp;simp[execOp,G,resolve,invoke,builtin,hs,hx,E,Result.andThen];exact O _ _ (X v' w' r1 Y Z)
end
section
variable {P : Program} (w : World)
theorem Oi (base:Nat)(t ty e:TypeId)(i:TypeInfo)(z:Value)(size bytes:Nat)(N:P.underlying t=some (.slice e))(hi:P.info? e=some i)(U:i.zero=some z)
 (y:i.size=size) (E:i.bytes=bytes) (G:z.cells.size=size) (H:0<size)
 (v:Value) (n:Nat) (xs:List Value) (a:w.ownsRow base e size v n xs)
 (B:Nat) (A:Option Addr) (m c:Nat) (news:List Value) (hr:Lies w B size A m news) (ho:A=none->c=0) (h1:∀u∈news,u.oneCell'=true)
 (I:n+m<=maxLen) (d:(n+m)* bytes<=140737488355328) (D:base<=w.heap.size):
 ∃v' w',(Builtin.append_ #[t,t] ty #[v,.slice A m c]).run P w= .ok v' w'/\w'.ownsRow base e size v' (n+m) (xs++news)/\w.grownBy w' v.ownBlock/\At w v.ownBlock v'.ownBlock:=by
 cases A with
 |
  none=>
  have hm:m=0:=by
   rcases pV m with h0|h0;exact h0
   . obtain⟨J,h,_⟩:=hr.2 h0
     cases h
  subst hm;obtain rfl:=ho rfl;have hn:news=[]:=lZ (by simpa using hr.1);subst hn;exact⟨v,w,run_append_owned_none (P:=P) (w:=w) base t ty e i size N hi v n xs a,by simpa using a,bI w _,.inl rfl⟩
 |
  some J=>
  have hc:∀j u,news[j]?=some u->w.cell? (J.add j)=some u:=(by intro j u O;rcases pV m with h0|h0;subst h0;have hn:news=[]:=lZ (by simpa using hr.1);subst hn;simp at O;obtain⟨V,h,_,hc⟩:=hr.2 h0;injection h with h;subst h;exact hc j u O);obtain⟨v',w',L,h2,h3,_,h5⟩:=run_append_own_at (P:=P) w base t ty e i z size bytes N hi U y E G H v n xs a J m c news hr.1 hc h1 I d D;refine⟨v',w',L,h2,h3,?_⟩;rcases h5 with h5|h5;exact .inl h5;exact .inr ⟨_,h5,ax _⟩
theorem dw {ops:Array Oper}{rest:List Oper}{o:Oper}{a:Act}{Q:Exit->Act->World->Prop}(hg:o.guard=none)(s x:Operand)(t:TypeId)
 (H:o.op=Op.call { callee:=Callee.builtin Builtin.append,args:=#[s,x],argTypes:=#[t,t] })
 (base:Nat) (e:TypeId) (i:TypeInfo) (z:Value) (size bytes:Nat) (U:P.underlying t=some (.slice e)) (hi:P.info? e=some i) (V:i.zero=some z)
 (y:i.size=size) (I:i.bytes=bytes) (J:z.cells.size=size) (L:0<size)
 (v:Value) (n:Nat) (xs:List Value) (hs:a.eval s=v) (E:w.ownsRow base e size v n xs)
 (B:Nat) (A:Option Addr) (m c:Nat) (news:List Value) (hx:a.eval x= .slice A m c) (hr:Lies w B size A m news) (ho:A=none->c=0) (h1:∀u∈news,u.oneCell'=true)
 (N:n+m<=maxLen) (d:(n+m)* bytes<=140737488355328) (D:base<=w.heap.size)
 (X:∀v' w',w'.ownsRow base e size v' (n+m) (xs++news)->w.grownBy w' v.ownBlock->At w v.ownBlock v'.ownBlock->wpList P ops Q rest (a.put o.dst v') w'):
 wpList P ops Q (o::rest) a w:=by refine PK hg λK O=>?_;obtain⟨v',w',G,r1,Y,Z⟩:=Oi (P:=P) w base t o.type e i z size bytes U hi V y I J L v n xs E B A m c news hr ho h1 N d D;unfold Oper.wp;simp[execOp,H,resolve,invoke,builtin,hs,hx,G,Result.andThen];exact O _ _ (X v' w' r1 Y Z)
end
theorem vw (w:World)(base:Nat)(e:TypeId)(sz:Nat)(hb:base<=w.heap.size):(w.alloc (.cells #[] e)).ownsRow base e sz (.slice (some ⟨w.heap.size,0,none⟩) 0 0) 0 []:=
 Gv w #[] 0 hb (aG _) (by simp)
theorem Lies.allocAny {w:World}{B sz n:Nat}{A:Option Addr}{xs:List Value}(h:Lies w B sz A n xs)(o:Obj):Lies (w.alloc o) B sz A n xs:=by refine⟨h.1,λhn=>?_⟩;obtain⟨d,ha,hb,hc⟩:=h.2 hn;exact⟨d,ha,hb,λj u a=>(Jq w o _ (Gt w _ (hc j u a))).trans (hc j u a)⟩
theorem Oj {w w':World}{ob:Obj}{g:Nat}(h:(w.alloc ob).grownBy w' (some g))(hg:w.heap.size<=g)(o:Option Nat):w.grownBy w' o:=by refine⟨h.os,h.tape,h.output,?_,λk hk _=>?_⟩;have:=h.size;simp at this;omega;refine (h.block k (by simp;omega) ?_).trans (yV w ob k hk);intro e;injection e with e;omega
theorem At.ofNew {w:World}{ob:Obj}{g:Nat}{o':Option Nat}(h:At (w.alloc ob) (some g) o')(hg:w.heap.size<=g):At w none o':=by rcases h with rfl|⟨g',rfl,hg'⟩;exact .inr ⟨g,rfl,hg⟩;exact .inr ⟨g',rfl,by simp at hg';omega⟩
def Held (w:World)(g:Nat)(t:TypeId)(cs:Array Value):Prop:=w.heap[g]?=some (.cells cs t (0,0))
section
variable {w w' : World} {g : Nat} {t : TypeId} {cs : Array Value}
theorem Held.lt (h:Held w g t cs):g<w.heap.size:=(iU.1 h).1
theorem Held.cell (h:Held w g t cs)(i:Nat):w.cell? ⟨g,i,none⟩=cs[i]?:=cell_of_row w g i cs t (0,0) h
theorem Held.free (h:Held w g t cs)(i:Nat):w.frozen? ⟨g,i,none⟩=false:=by unfold Held at h;simp[World.frozen?,h]
theorem Held.new (w:World)(t:TypeId)(cs:Array Value):Held (w.alloc (.cells cs t)) w.heap.size t cs:=heap_alloc_new w _
theorem Held.drew (h:Held w g t cs):Held w.drew g t cs:=h
theorem Held.drewN (h:Held w g t cs)(n:Nat):Held (w.drewN n) g t cs:=h
theorem Held.alloc (h:Held w g t cs)(o:Obj):Held (w.alloc o) g t cs:=(yV w o g h.lt).trans h
theorem Held.store (h:Held w g t cs)(i:Nat)(u:Value):Held (w.setCell ⟨g,i,none⟩ u) g t (cs.setIfInBounds i u):=by unfold Held at h|-;simp[World.setCell,QD,h]
theorem Held.far (h:Held w g t cs){p:Addr}(a:g≠p.block)(u:Value):Held (w.setCell p u) g t cs:=(JD w p u g a).trans h
theorem Held.grown {row:Option Nat}(h:Held w g t cs)(hb:w.grownBy w' row)(hg:some g≠row):Held w' g t cs:=(hb.block g h.lt hg).trans h
end
theorem ah (w:World)(g i:Nat)(u:Value):w.grownBy (w.setCell ⟨g,i,none⟩ u) (some g):=
 ⟨rfl,rfl,rfl,by simp[World.setCell],λk hk a=>JD w ⟨g,i,none⟩ u k (λe=>a (by rw[e]))⟩
theorem au {a b c:World}{o:Option Nat}(h:a.grownBy b o)(d:b.grownBy c o):a.grownBy c o:=af h d (.inl rfl)
theorem aI {a b:World}{o:Option Nat}(h:a.grownBy b o):a.grownBy b.drew o:=⟨h.os,h.tape,h.output,h.size,h.block⟩
theorem aT {a b:World}{o:Option Nat}(h:a.grownBy b o)(n:Nat):a.grownBy (b.drewN n) o:=⟨h.os,h.tape,h.output,h.size,h.block⟩
theorem st2 {w:World}{g:Nat}{t:TypeId}{z0 a:Value}(h:Held w g t #[z0,a])(u0 u1:Value):Held ((w.setCell ⟨g,0,none⟩ u0).setCell ⟨g,1,none⟩ u1) g t #[u0,u1]/\w.grownBy ((w.setCell ⟨g,0,none⟩ u0).setCell ⟨g,1,none⟩ u1) (some g):=by have h1:Held (w.setCell ⟨g,0,none⟩ u0) g t #[u0,a]:=h.store 0 _;have h2:Held ((w.setCell ⟨g,0,none⟩ u0).setCell ⟨g,1,none⟩ u1) g t #[u0,u1]:=h1.store 1 _;refine⟨h2,?_⟩;have d:=bI w (some g);have u:=au d (ah w g 0 u0);have y:=au u (ah (w.setCell ⟨g,0,none⟩ u0) g 1 u1);exact y
theorem st3 {w:World}{g:Nat}{t:TypeId}{z0 d a:Value}(h:Held w g t #[z0,d,a])(u0 u1 u2:Value):Held (((w.setCell ⟨g,0,none⟩ u0).setCell ⟨g,1,none⟩ u1).setCell ⟨g,2,none⟩ u2) g t #[u0,u1,u2]/\w.grownBy (((w.setCell ⟨g,0,none⟩ u0).setCell ⟨g,1,none⟩ u1).setCell ⟨g,2,none⟩ u2) (some g):=by have h1:Held (w.setCell ⟨g,0,none⟩ u0) g t #[u0,d,a]:=h.store 0 _;have h2:Held ((w.setCell ⟨g,0,none⟩ u0).setCell ⟨g,1,none⟩ u1) g t #[u0,u1,a]:=h1.store 1 _;have h3:Held (((w.setCell ⟨g,0,none⟩ u0).setCell ⟨g,1,none⟩ u1).setCell ⟨g,2,none⟩ u2) g t #[u0,u1,u2]:=h2.store 2 _;refine⟨h3,?_⟩;have u:=bI w (some g);have y:=au u (ah w g 0 u0);have A:=au y (ah (w.setCell ⟨g,0,none⟩ u0) g 1 u1);have B:=au A (ah ((w.setCell ⟨g,0,none⟩ u0).setCell ⟨g,1,none⟩ u1) g 2 u2);exact B
theorem st4 {w:World}{g:Nat}{t:TypeId}{z0 d a z3:Value}(h:Held w g t #[z0,d,a,z3])(u0 u1 u2 u3:Value):Held ((((w.setCell ⟨g,0,none⟩ u0).setCell ⟨g,1,none⟩ u1).setCell ⟨g,2,none⟩ u2).setCell ⟨g,3,none⟩ u3) g t #[u0,u1,u2,u3]/\w.grownBy ((((w.setCell ⟨g,0,none⟩ u0).setCell ⟨g,1,none⟩ u1).setCell ⟨g,2,none⟩ u2).setCell ⟨g,3,none⟩ u3) (some g):=by have h1:Held (w.setCell ⟨g,0,none⟩ u0) g t #[u0,d,a,z3]:=h.store 0 _;have h2:Held ((w.setCell ⟨g,0,none⟩ u0).setCell ⟨g,1,none⟩ u1) g t #[u0,u1,a,z3]:=h1.store 1 _;have h3:Held (((w.setCell ⟨g,0,none⟩ u0).setCell ⟨g,1,none⟩ u1).setCell ⟨g,2,none⟩ u2) g t #[u0,u1,u2,z3]:=h2.store 2 _;have h4:Held ((((w.setCell ⟨g,0,none⟩ u0).setCell ⟨g,1,none⟩ u1).setCell ⟨g,2,none⟩ u2).setCell ⟨g,3,none⟩ u3) g t #[u0,u1,u2,u3]:=h3.store 3 _;refine⟨h4,?_⟩;have u:=bI w (some g);have y:=au u (ah w g 0 u0);have A:=au y (ah (w.setCell ⟨g,0,none⟩ u0) g 1 u1);have B:=au A (ah ((w.setCell ⟨g,0,none⟩ u0).setCell ⟨g,1,none⟩ u1) g 2 u2);have D:=au B (ah (((w.setCell ⟨g,0,none⟩ u0).setCell ⟨g,1,none⟩ u1).setCell ⟨g,2,none⟩ u2) g 3 u3);exact D
theorem st7 {w:World}{g:Nat}{t:TypeId}{z0 y u z3 z4 d a:Value}(h:Held w g t #[z0,y,u,z3,z4,d,a])(u0 u1 u2 u3 u4 u5 u6:Value):Held (((((((w.setCell ⟨g,0,none⟩ u0).setCell ⟨g,1,none⟩ u1).setCell ⟨g,2,none⟩ u2).setCell ⟨g,3,none⟩ u3).setCell ⟨g,4,none⟩ u4).setCell ⟨g,5,none⟩ u5).setCell ⟨g,6,none⟩ u6) g t #[u0,u1,u2,u3,u4,u5,u6]/\w.grownBy (((((((w.setCell ⟨g,0,none⟩ u0).setCell ⟨g,1,none⟩ u1).setCell ⟨g,2,none⟩ u2).setCell ⟨g,3,none⟩ u3).setCell ⟨g,4,none⟩ u4).setCell ⟨g,5,none⟩ u5).setCell ⟨g,6,none⟩ u6) (some g):=by have h1:Held (w.setCell ⟨g,0,none⟩ u0) g t #[u0,y,u,z3,z4,d,a]:=h.store 0 _;have h2:Held ((w.setCell ⟨g,0,none⟩ u0).setCell ⟨g,1,none⟩ u1) g t #[u0,u1,u,z3,z4,d,a]:=h1.store 1 _;have h3:Held (((w.setCell ⟨g,0,none⟩ u0).setCell ⟨g,1,none⟩ u1).setCell ⟨g,2,none⟩ u2) g t #[u0,u1,u2,z3,z4,d,a]:=h2.store 2 _;have h4:Held ((((w.setCell ⟨g,0,none⟩ u0).setCell ⟨g,1,none⟩ u1).setCell ⟨g,2,none⟩ u2).setCell ⟨g,3,none⟩ u3) g t #[u0,u1,u2,u3,z4,d,a]:=h3.store 3 _;have h5:Held (((((w.setCell ⟨g,0,none⟩ u0).setCell ⟨g,1,none⟩ u1).setCell ⟨g,2,none⟩ u2).setCell ⟨g,3,none⟩ u3).setCell ⟨g,4,none⟩ u4) g t #[u0,u1,u2,u3,u4,d,a]:=h4.store 4 _;have A:Held ((((((w.setCell ⟨g,0,none⟩ u0).setCell ⟨g,1,none⟩ u1).setCell ⟨g,2,none⟩ u2).setCell ⟨g,3,none⟩ u3).setCell ⟨g,4,none⟩ u4).setCell ⟨g,5,none⟩ u5) g t #[u0,u1,u2,u3,u4,u5,a]:=h5.store 5 _;have B:Held (((((((w.setCell ⟨g,0,none⟩ u0).setCell ⟨g,1,none⟩ u1).setCell ⟨g,2,none⟩ u2).setCell ⟨g,3,none⟩ u3).setCell ⟨g,4,none⟩ u4).setCell ⟨g,5,none⟩ u5).setCell ⟨g,6,none⟩ u6) g t #[u0,u1,u2,u3,u4,u5,u6]:=A.store 6 _;refine⟨B,?_⟩;have D:=bI w (some g);have E:=au D (ah w g 0 u0);have G:=au E (ah (w.setCell ⟨g,0,none⟩ u0) g 1 u1);have H:=au G (ah ((w.setCell ⟨g,0,none⟩ u0).setCell ⟨g,1,none⟩ u1) g 2 u2);have I:=au H (ah (((w.setCell ⟨g,0,none⟩ u0).setCell ⟨g,1,none⟩ u1).setCell ⟨g,2,none⟩ u2) g 3 u3);have J:=au I (ah ((((w.setCell ⟨g,0,none⟩ u0).setCell ⟨g,1,none⟩ u1).setCell ⟨g,2,none⟩ u2).setCell ⟨g,3,none⟩ u3) g 4 u4);have L:=au J (ah (((((w.setCell ⟨g,0,none⟩ u0).setCell ⟨g,1,none⟩ u1).setCell ⟨g,2,none⟩ u2).setCell ⟨g,3,none⟩ u3).setCell ⟨g,4,none⟩ u4) g 5 u5);have N:=au L (ah ((((((w.setCell ⟨g,0,none⟩ u0).setCell ⟨g,1,none⟩ u1).setCell ⟨g,2,none⟩ u2).setCell ⟨g,3,none⟩ u3).setCell ⟨g,4,none⟩ u4).setCell ⟨g,5,none⟩ u5) g 6 u6);exact N
end Iv
namespace Iv
open Go
section
variable {P : Program} {ops : Array Oper} {Q : Exit -> Act -> World -> Prop} {md : Region.Mode} {S : World -> Prop} {z : Nat}
def jE (P:Program)(md:Region.Mode)(ops:Array Oper)(Q:Exit->Act->World->Prop)(S:World->Prop)(z:Nat):Nat->Array Bool->Act->World->Prop
 |0,listed,a,w=>Region.ready md ops listed=[]/\Q .normal a w
 |
  fuel+1,listed,a,w=>
  (Region.ready md ops listed=[]->Q .normal a w)/\
  ∀i∈Region.ready md ops listed,wpOp P ops Q i (λa' w'=>(i≠z->S w')/\jE P md ops Q S z fuel (listed.setIfInBounds i true) a' w') a w
theorem Ed:∀(fuel:Nat) (listed:Array Bool) (a:Act) (w:World),jE P md ops Q S z fuel listed a w->wpAny P md ops Q fuel listed a w
 |0,_,_,_,h=>h
 |fuel+1,_,_,_,h=>⟨h.1,λi hi=>wpOp_mono (λa' w' d=>Ed fuel _ a' w' d.2) (h.2 i hi)⟩
theorem Jz {i:Nat}{oi:Oper}{v:Value}(hi:ops[i]?=some oi)(B:∀(j:Nat) (o:Oper) cs b,ops[j]?=some o->o.op≠ .select cs b)
 (hQ:∀c a w,Q (.panic c) (a.put oi.dst v) w->Q (.panic c) a w) (V:Region.waitsFor md ops z i=true):
 ∀(fuel:Nat) (listed:Array Bool) (a:Act) (w:World),
  (∀j oj,ops[j]?=some oj->j≠i->listed.getD j true=false->(∀e∈oj.after,Region.binds md e=true->e.on≠i)->oi.apart ops oj=true)->
  i∈Region.ready md ops listed->YieldsIf P ops S oi v a->S w->
  jE P md ops Q S z fuel (listed.setIfInBounds i true) (a.put oi.dst v) w->jE P md ops Q S z (fuel+1) listed a w:=by
 intro fuel;induction fuel with
 |
  zero=>
  intro listed a w _ hr O G H;refine⟨λh=>(by rw[h] at hr;cases hr),λj U=>?_⟩;by_cases d:j=i;subst d;exact O.wpOp hi G ⟨λ_=>G,H⟩
  . have:=ready_mono U d;rw[H.1] at this
    cases this
 |
  succ fuel ih=>
  intro listed a w u hr O G H;refine⟨λh=>(by rw[h] at hr;cases hr),λj U=>?_⟩;by_cases d:j=i;subst d;exact O.wpOp hi G ⟨λ_=>G,H⟩
  . have h1:=H.2 j (ready_mono U d);obtain⟨D,oj,y,I⟩:=mem_ready.1 U
    have E:∀e∈oj.after,Region.binds md e=true->e.on≠i:=λe he hb heq=>by
     have h1:=I e he hb;have h0:=(mem_ready.1 hr).1;rw[heq] at h1;rcases Nat.lt_or_ge i listed.size with h'|h';simp[h'] at h0 h1;rw[h0] at h1;cases h1
     simp[Array.getElem?_eq_none h'] at h1
    have J:j≠z:=(by rintro rfl;obtain⟨oz,X,e,he,hb,Y⟩:=Region.waitsFor_spec V;have:oz=oj:=Option.some.inj (X.symm.trans y);subst this;exact E e he hb Y);have h2:=wpOp_putIf y (u j oj y d D E) (λcs b=>B i oi cs b hi) (λcs b=>B j oj cs b y) hQ O h1
    have A:∀k ok,ops[k]?=some ok->k≠i->(listed.setIfInBounds j true).getD k true=false->
     (∀e∈ok.after,Region.binds md e=true->e.on≠i)->oi.apart ops ok=true:=λk ok hk Z L hno=>by
     refine u k ok hk Z ?_ hno;by_cases N:j=k;subst N;exact D;rw[getD_set_ne true N] at L;exact L
    refine wpOp_mono (λa' w' h3=>⟨λ_=>h3.2.1 J,ih (listed.setIfInBounds j true) a' w' A (ready_mono hr (Ne.symm d)) h3.1 (h3.2.1 J) ?_⟩) h2;rw[Array.setIfInBounds_comm _ _ d];exact h3.2.2
theorem aA {i:Nat}{oi:Oper}{v:Value}{fuel:Nat}{listed:Array Bool}{a:Act}{w:World}(hi:ops[i]?=some oi)
 (hs:Region.noSelect ops=true) (hf:Region.free md ops listed i=true) (hr:(Region.ready md ops listed).contains i=true) (d:Region.waitsFor md ops z i=true)
 (u:∀c a w,Q (.panic c) (a.put oi.dst v) w->Q (.panic c) a w) (y:YieldsIf P ops S oi v a) (A:S w)
 (h:jE P md ops Q S z fuel (listed.setIfInBounds i true) (a.put oi.dst v) w):jE P md ops Q S z (fuel+1) listed a w:=
 Jz hi (Region.noSelect_spec hs) u d fuel listed a w (Region.free_spec hi hf) (by simpa using hr) y A h
theorem gY {i:Nat}{o:Oper}{fuel:Nat}{listed:Array Bool}{a:Act}{w:World}(hr:Region.ready md ops listed=[i])(ho:ops[i]?=some o)
 (h:∀d:Act->World->Prop,Shut (∀a w,S w->(S w->jE P md ops Q S z fuel (listed.setIfInBounds i true) a w)->d a w)->if Region.wanted o (yielded ops a.tmps)=true then Oper.wp P o a w d Q else d (a.put o.dst undef) w):
 jE P md ops Q S z (fuel+1) listed a w:=by refine⟨λh0=>(by rw[hr] at h0;cases h0),λj u=>?_⟩;rw[hr] at u;obtain rfl:j=i:=(by simpa using u);exact wpOp_step ho (λd A=>h d (λa w y hW=>A a w ⟨λ_=>y,hW y⟩))
theorem Ak {o:Oper}{fuel:Nat}{listed:Array Bool}{a:Act}{w:World}(hr:Region.ready md ops listed=[z])(ho:ops[z]?=some o)
 (h:∀d:Act->World->Prop,Shut (∀a w,jE P md ops Q S z fuel (listed.setIfInBounds z true) a w->d a w)->if Region.wanted o (yielded ops a.tmps)=true then Oper.wp P o a w d Q else d (a.put o.dst undef) w):
 jE P md ops Q S z (fuel+1) listed a w:=by refine⟨λh0=>(by rw[hr] at h0;cases h0),λj u=>?_⟩;rw[hr] at u;obtain rfl:j=z:=(by simpa using u);exact wpOp_step ho (λd y=>h d (λa w hW=>y a w ⟨λh0=>absurd rfl h0,hW⟩))
theorem tJ {listed:Array Bool}{a:Act}{w:World}(hr:Region.ready md ops listed=[])(h:Q .normal a w):
 ∀fuel,jE P md ops Q S z fuel listed a w
 |0=>⟨hr,h⟩
 |_+1=>⟨λ_=>h,by rw[hr];simp⟩
theorem tK {id:Nat}{a:Act}{w:World}(hm:P.follows .mixedOrders=true)(d:S w.drew)
 (h:S w.drew->jE P .any ops Q S z ops.size (Array.replicate ops.size false) a w.drew):(Code.region id ops true).wp P Q a w:=
 wp_region_any hm (Ed _ _ _ _ (h d))
end
section
variable {P : Program} {ops : Array Oper} {Q : Exit -> Act -> World -> Prop} {md : Region.Mode} {S : World -> Prop} {z : Nat}
end
section
variable {P : Program} {ops : Array Oper} {Q : Exit -> Act -> World -> Prop} {md : Region.Mode} {S : World -> Prop} {z : Nat}
theorem ab1 {a:Array Bool}{j:Nat}(h:a.getD j true=false):a.getD j false=false:=by rcases vT j a.size with h'|h';simp[h'] at h|-;exact h;simp[XQ h'] at h
def okT (md:Region.Mode)(ops:Array Oper)(listed:Array Bool)(z i:Nat):Bool:=
 Region.noSelect ops && Region.free md ops listed i &&(Region.ready md ops listed).contains i &&((ops[z]?).isNone || Region.waitsFor md ops z i)
theorem Gg {i:Nat}{oi:Oper}{v:Value}(hi:ops[i]?=some oi)(B:∀(j:Nat) (o:Oper) cs b,ops[j]?=some o->o.op≠ .select cs b)
 (Y:∀c a w,Q (.panic c) (a.put oi.dst v) w->Q (.panic c) a w) (E:ops[z]?=none):
 ∀(fuel:Nat) (listed:Array Bool) (a:Act) (w:World),
  (∀j oj,ops[j]?=some oj->j≠i->listed.getD j true=false->(∀e∈oj.after,Region.binds md e=true->e.on≠i)->oi.apart ops oj=true)->
  i∈Region.ready md ops listed->YieldsIf P ops S oi v a->S w->
  jE P md ops Q S z fuel (listed.setIfInBounds i true) (a.put oi.dst v) w->jE P md ops Q S z (fuel+1) listed a w:=by
 intro fuel;induction fuel with
 |
  zero=>
  intro listed a w _ hr U G H;refine⟨λh=>(by rw[h] at hr;cases hr),λj V=>?_⟩;by_cases d:j=i;subst d;exact U.wpOp hi G ⟨λ_=>G,H⟩
  . have:=ready_mono V d;rw[H.1] at this
    cases this
 |
  succ fuel ih=>
  intro listed a w u hr U G H;refine⟨λh=>(by rw[h] at hr;cases hr),λj V=>?_⟩;by_cases d:j=i;subst d;exact U.wpOp hi G ⟨λ_=>G,H⟩
  . have h1:=H.2 j (ready_mono V d);obtain⟨D,oj,y,I⟩:=mem_ready.1 V
    have J:∀e∈oj.after,Region.binds md e=true->e.on≠i:=λe he hb heq=>by
     have h1:=I e he hb;have h0:=(mem_ready.1 hr).1;rw[heq] at h1;rw[ab1 h0] at h1
     cases h1
    have L:j≠z:=by
     rintro rfl;rw[y] at E
     cases E
    have h2:=wpOp_putIf y (u j oj y d D J) (λcs b=>B i oi cs b hi) (λcs b=>B j oj cs b y) Y U h1
    have A:∀k ok,ops[k]?=some ok->k≠i->(listed.setIfInBounds j true).getD k true=false->
     (∀e∈ok.after,Region.binds md e=true->e.on≠i)->oi.apart ops ok=true:=λk ok hk X N hno=>by
     refine u k ok hk X ?_ hno;by_cases O:j=k;subst O;exact D;rw[getD_set_ne true O] at N;exact N
    refine wpOp_mono (λa' w' h3=>⟨λ_=>h3.2.1 L,ih (listed.setIfInBounds j true) a' w' A (ready_mono hr (wB d)) h3.1 (h3.2.1 L) ?_⟩) h2;rw[Array.setIfInBounds_comm _ _ d];exact h3.2.2
theorem mr {i:Nat}{oi:Oper}{v:Value}{fuel:Nat}{listed:Array Bool}{a:Act}{w:World}(d:okT md ops listed z i=true)(hi:ops[i]?=some oi)
 (u:∀c a w,Q (.panic c) (a.put oi.dst v) w->Q (.panic c) a w) (y:YieldsIf P ops S oi v a) (A:S w)
 (h:jE P md ops Q S z fuel (listed.setIfInBounds i true) (a.put oi.dst v) w):jE P md ops Q S z (fuel+1) listed a w:=by unfold okT at d;simp only[cZ,xH,Option.isNone_iff_eq_none] at d;obtain⟨⟨⟨h1,h2⟩,h3⟩,h4⟩:=d;rcases h4 with h4|h4;exact Gg hi (Region.noSelect_spec h1) u h4 fuel listed a w (Region.free_spec hi h2) (by simpa using h3) y A h;exact aA hi h1 h2 h3 h4 u y A h
end
