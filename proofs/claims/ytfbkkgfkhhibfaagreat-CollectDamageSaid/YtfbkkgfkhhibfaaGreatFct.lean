/- Words. -/
import Derived.Lib.Hide
import Derived.OwnWalk
import Derived.Laws.AppendOwn
import Derived.Laws.BitsLemmas
import Derived.IntWalk
import Derived.Below
import Derived.Laws.OwnMore
import Derived.Deep.AppendLies
import Derived.Deep.Draws
import Derived.Maps.AppendAt
import Derived.RegionTactic
import Derived.ArgAppend
import Derived.WalkKit
import Derived.Deep.RegionHeld3
import Derived.StillTail
set_option linter.unusedVariables false
set_option linter.defProp false
open Go Go.RowKit
theorem Go.RowKit.Hid.o {p:Prop}(h:Hid p):p:=h.out
def ae:=@Lib.hid
def aX:=@List.getElem?_eq_getElem
def aP:=@World.grownBy_alloc
def bI:=@List.setIfInBounds_toArray
def ak:=@Nat.le_refl
def aY:=@List.length_append
def dD:=@List.getElem?_eq_some_iff
def aG:=@Nat.le_trans
def bH:=@List.set_cons_zero
def bJ:=@List.set_cons_succ
def ay:=@Nat.zero_le
def bM:=@List.getElem?_map
def dw:=@World.ownsRow_nil
def fQ:=@Array.getElem?_toList
def dH:=@Bool.and_eq_true
def iW:=@Array.getElem?_eq_some_iff
def dM:=@IntKind.wrap_i64
def fO:=@beq_eq_false_iff_ne
def gU:=@List.mem_of_getElem?
def eu:=@List.getElem_mem
def bU:=@bodyPost_ret
def jP:=@List.getElem?_append_right
def fM:=@List.append_assoc
def jO:=@List.getElem?_append_left
def ji:=@decide_eq_false_iff_not
def lS:=@List.eq_nil_of_length_eq_zero
def gV:=@Option.some.injEq
def gX:=@decide_eq_true_eq
def fC:=@decide_eq_false
def fF:=@List.map_append
def jK:=@List.drop_eq_nil_of_le
def gY:=@World.size_alloc
def nM:=@List.drop_eq_getElem_cons
def iR:=@List.length_cons
def iG:=@List.length_map
def eX:=@Nat.zero_add
def fV:=@List.mem_cons
def mO:=@Option.map_eq_some_iff
def qi:=@List.getD_eq_getElem?_getD
def lL:=@World.cell?_of_block
def lN:=@Nat.mul_le_mul_right
def ja:=@List.mem_append
def oJ:=@List.getElem?_cons_zero
def eG:=@beq_iff_eq
def eQ:=@bne_iff_ne
def lM:=@List.mem_singleton
def mD:=@Bool.false_eq_true
def jF:=@run_underlying
def iK:=@List.mem_map
def qg:=@List.length_singleton
def kN:=@List.nil_append
def lX:=@List.not_mem_nil
def rM:=@List.mem_iff_getElem?
def rV:=@List.getElem?_toArray
def oI:=@Nat.eq_zero_or_pos
def oM:=@Nat.lt_of_lt_of_le
def uy:=@List.take_of_length_le
def kD:=@List.map_cons
def uw:=@List.getElem?_eq_none
def nO:=@List.all_eq_true
def iY:=@Nat.mul_one
def rU:=@bne_eq_false_iff_eq
def pG:=@List.length_drop
def rO:=@World.grownBy.cell
def kU:=@List.map_take
def nJ:=@Option.map_some
def nN:=@List.append_nil
def rZ:=@List.getElem?_take
def AA:=@Array.getElem?_eq_getElem
def tN:=@Array.length_toList
def EZ:=@List.mem_zipIdx_iff_getElem?
def lW:=@Nat.add_assoc
def jM:=@Nat.add_mul
def rX:=@List.take_length
def wK:=@Nat.add_sub_cancel
def AY:=@Bool.and_eq_false_iff
def BD:=@Nat.le_of_ble_eq_true
def sS:=@List.length_take
def oL:=@List.map_drop
def wP:=@List.take_add_one
def nY:=@Nat.le_of_eq
def sU:=@List.cons.injEq
def wB:=@Option.bind_some
def xZ:=@Int.toNat_natCast
def Hf:=@Int.eq_ofNat_of_zero_le
def Hm:=@World.block_lt_of_cell?
def vY:=@List.nodup_cons
def Bf:=@Nat.lt_or_eq_of_le
def wO:=@Bool.or_eq_true
def Bo:=@decide_eq_true_iff
def Eh:=@List.mem_append_left
def qm:=@Nat.sub_self
def Uz:=@Array.all_eq_true_iff_forall_mem
def AP:=@List.size_toArray
def O7:=@Decidable.byContradiction
def rQ:=@Nat.add_zero
def Et:=@Bool.not_eq_true'
def LM:=@Nat.mod_two_eq_zero_or_one
def xu:=@List.cons_append
def zf:=@World.ownsRow_made
def zD:=@Int.natCast_nonneg
def Ei:=@List.mem_append_right
def ES:=@List.take_append_drop
def zY:=@List.getElem?_drop
def pW:=@List.map_nil
def Ep:=@List.pairwise_append
def Ew:=@World.cell?_alloc_lt
def Qr:=@Array.getElem?_setIfInBounds_ne
def Jz:=@Nat.add_sub_cancel_left
def Lj:=@List.getElem?_cons_succ
def zL:=@Below.heap_alloc
def wX:=@List.mem_range
def Qq:=@Array.getElem?_setIfInBounds
def jY:=@congrArg
def qJ:=@Int.le_refl
def Jc:=@Array.mem_of_getElem?
def qN:=@Nat.one_mul
def zl:=@List.length_nil
def zQ:=@List.length_set
def uI:=@Sem.run_bind
def xh:=@Bool.true_and
def pU:=@eq_iff_iff
def E5:=@Result.andThen_ok
def JY:=@Nat.pow_le_pow_right
def Kw:=@List.mem_iff_getElem
def KA:=@Bool.or_eq_false_iff
def KT:=@List.mem_cons_of_mem
def KW:=@List.range_eq_range'
def Ls:=@List.mem_of_mem_take
def zJ:=@Nat.mul_le_mul
def zV:=@List.drop_drop
def Jj:=@List.map_eq_nil_iff
def Jl:=@List.mem_map_of_mem
def KL:=@List.flatMap_append
def LJ:=@List.take_succ_cons
def wW:=@List.map_map
def xB:=@results_none
def xG:=@getElem!_pos
def Dv:=@Option.some.inj
def Qu:=@List.pairwise_singleton
def Dz:=@Nat.min_eq_left
def JU:=@List.pairwise_cons
def KE:=@Below.heap_setCell
def QC:=@Option.map_eq_none_iff
def TF:=@List.getElem_cons_succ
def tq:=@Nat.mod_lt
def JZ:=@List.any_eq_false
def Ku:=@List.ext_getElem?
def KG:=@of_decide_eq_true
def DZ:=@List.drop_zero
def zB:=@Nat.lt_or_ge
def RZ:=@Array.getElem?_modify
def abg:=@Array.eq_empty_of_size_eq_zero
def Jt:=@Nat.mod_eq_of_lt
def QN:=@List.getElem?_modify
def Tj:=@List.forall_mem_cons
def pM:=@Eq.trans
def Je:=@List.mem_filter
def KD:=@List.sum_append
def Tn:=@List.map_congr_left
def Eo:=@Nat.ne_of_lt
def EK:=@Sem.run_pure
def rD:=@if_false
def TU:=@List.mem_cons_self
def Yc:=@List.snd_lt_of_mem_zipIdx
def aar:=@List.getLast?_eq_getElem?
def LP:=@Bool.false_and
def SI:=@List.getElem?_set
def Tu:=@not_true_eq_false
def aaZ:=@Array.size_setIfInBounds
def TV:=@Nat.dvd_add_right
def Jk:=@Nat.lt_irrefl
def EC:=@Nat.le_succ
def Zv:=@List.length_eq_zero_iff
def Ti:=@List.range'_succ
def Tq:=@Nat.lt_succ_self
def TB:=@Nat.le_max_right
def TW:=@Array.toList_map
def YY:=@Array.getElem?_eq_none
def qM:=@if_true
def ZV:=@List.modify_succ_cons
def SK:=@List.find?_cons
def SQ:=@List.range_succ
def aaj:=@Nat.div_lt_iff_lt_mul
def TA:=@Nat.le_max_left
def ZP:=@Array.replicate_succ
def ZQ:=@Array.replicate_zero
def aaL:=@List.mem_of_mem_drop
def Jb:=@setRow_heap
def Jr:=@Nat.add_mod
def Js:=@Nat.mod_mod
def ZR:=@List.append_toArray
def Lr:=@Prod.mk.inj
def aaQ:=@List.drop_succ_cons
def aa3:=@List.zipIdx_map_snd
def abh:=@Array.toList_zipIdx
def abj:=@List.getElem?_range
def DD:=@Array.ext
def YC:=@Array.ext_getElem?
def Su:=@DataW.trod_lt
def abk:=@Array.foldl_toList
def xC:=@Ne.symm
def xH:=@wp_mono
def Qx:=@wpList_plain
def Rt:=@Nat.add_comm
def S9:=@Nat.mul_comm
def Tc:=@Nat.zero_mod
def TC:=@Nat.zero_mul
def TY:=@Nat.dvd_refl
def TQ:=@Nat.sub_mul
set_option linter.defProp false
open Go Go.RowKit
def aW:=@World.grownBy.refl
def eY:=@IntWalk.i64_in
def uN:=@IntWalk.u8_in
namespace Iv
open Go Go.RowKit
theorem addBlock (a:Addr)(n:Nat):(a.add n).block=a.block:=by unfold Addr.add;by_cases h:n=0<;>simp[h]
def Lies (w:World)(B sz:Nat)(A:Option Addr)(n:Nat)(xs:List Value):Prop:=
 xs.length=n*sz/\(0<n->∃ad,A=some ad/\ad.block<B/\∀j u,xs[j]?=some u->w.cell? (ad.add j)=some u)
section
variable {w w' : World} {B B' sz n : Nat} {A : Option Addr} {xs : List Value}
theorem Lies.nil:Lies w B sz none 0 []:=⟨by simp,λh=>absurd h (by omega)⟩
theorem Lies.cellAt {k:Nat}(h:Lies w B 1 A n xs)(hk:k<n):∃a u,A=some a/\a.block<B/\xs[k]?=some u/\w.cell? (a.add k)=some u:=by obtain⟨a,e,hb,hc⟩:=h.2 (by omega);have d:k<xs.length:=(by have:=h.1;omega);exact⟨a,xs[k],e,hb,aX d,hc k _ (aX d)⟩
theorem Lies.same (h:Lies w B sz A n xs)(hk:∀p:Addr,p.block<B->w'.cell? p=w.cell? p):Lies w' B sz A n xs:=
 ⟨h.1,λhn=>by
  obtain⟨a,e,hb,hc⟩:=h.2 hn
  exact⟨a,e,hb,λj u d=>(hk _ (by rw[addBlock];exact hb)).trans (hc j u d)⟩⟩
theorem Lies.more (h:Lies w B sz A n xs)(hB:B<=B'):Lies w B' sz A n xs:=
 ⟨h.1,λhn=>by
  obtain⟨a,e,hb,hc⟩:=h.2 hn
  exact⟨a,e,by omega,hc⟩⟩
theorem Lies.drew (h:Lies w B sz A n xs):Lies w.drew B sz A n xs:=h
theorem Lies.drewN (h:Lies w B sz A n xs)(k:Nat):Lies (w.drewN k) B sz A n xs:=h
theorem Lies.alloc (h:Lies w B sz A n xs)(hB:B<=w.heap.size)(o:Obj):Lies (w.alloc o) B sz A n xs:=h.same λp a=>Ew w o p (by omega)
theorem Lies.grown (h:Lies w B sz A n xs){row:Option Nat}(hg:w.grownBy w' row)(hB:B<=w.heap.size)(hr:∀g,row=some g->B<=g):Lies w' B sz A n xs:=
 h.same λp a=>lL (hg.block p.block (by omega) (λe=>by have:=hr _ e.symm;omega))
end
theorem Lies.take {w:World}{B sz n m:Nat}{A:Option Addr}{xs:List Value}(h:Lies w B sz A n xs)(hm:m<=n):Lies w B sz A m (xs.take (m*sz)):=by
 refine⟨?_,λd=>?_⟩;rw[sS,h.1];exact Dz (lN _ hm)
 . obtain⟨q,e,hb,hc⟩:=h.2 (by omega);refine⟨q,e,hb,λj u a=>hc j u ?_⟩;rw[rZ] at a;split at a;exact a
   cases a
theorem Lies.ofOwn {w:World}{base e sz n:Nat}{A:Option Addr}{c:Nat}{xs:List Value}(h:w.ownsRow base e sz (.slice A n c) n xs):Lies w w.heap.size sz A n xs:=by refine⟨h.1,λhn=>?_⟩;obtain⟨g,cap,d,_,a⟩:=h.form hn;injection d with q;subst q;exact⟨_,rfl,a,h.cells (g:=g) rfl⟩
theorem aa0 (a:Addr)(i j:Nat):(a.add i).add j=a.add (i+j):=by unfold Addr.add;by_cases hi:i=0<;>by_cases d:j=0<;>simp[hi,d,lW]
theorem Lies.drop {w:World}{B sz n k:Nat}{A:Option Addr}{xs:List Value}(h:Lies w B sz A n xs)(hk:k<=n):Lies w B sz (A.map λx=>x.add (k*sz)) (n-k) (xs.drop (k*sz)):=by refine⟨by rw[pG,h.1,TQ],λhn=>?_⟩;obtain⟨d,rfl,hb,hc⟩:=h.2 (by omega);refine⟨_,rfl,by rw[addBlock];exact hb,λj u a=>?_⟩;rw[aa0];exact hc _ u (by rw[<-a,zY])
theorem Lies.dropIf {w:World}{B sz n k c:Nat}{A:Option Addr}{xs:List Value}(h:Lies w B sz A n xs)(hk:k<=n)(hnc:n<=c):Lies w B sz (if c=k then A else A.map λx=>x.add (k*sz)) (n-k) (xs.drop (k*sz)):=by by_cases hc:c=k;rw[if_pos hc];exact⟨by rw[pG,h.1,TQ],λhn=>by omega⟩;rw[if_neg hc];exact h.drop hk
theorem ai {w:World}{base e sz n:Nat}{v:Value}{xs:List Value}(h:w.ownsRow base e sz v n xs):
 ∃A c,v= .slice A n c/\n<=c/\c<=maxLen/\Lies w w.heap.size sz A n xs/\(A=none->c=0):=by have h0:=h;rcases h.2 with ⟨rfl,rfl⟩|⟨g,cap,cur,rfl,hb,hg,hnc,hcm,_⟩;have hx:xs=[]:=lS (by simpa using h.1);subst hx;exact⟨none,0,rfl,ak _,ay _,Lies.nil,λ_=>rfl⟩;exact⟨_,cap,rfl,hnc,hcm,Lies.ofOwn h0,λe=>by cases e⟩
def App (w:World)(base e sz:Nat)(v:Value)(o:Option Nat)(n:Nat)(xs:List Value):Prop:=
 (w.ownsRow base e sz v n xs/\o=v.ownBlock)\/(∃A B,v= .slice A n n/\Lies w B sz A n xs/\(A=none->n=0)/\o=none)
def At (w:World)(o o':Option Nat):Prop:=o'=o\/∃g,o'=some g/\w.heap.size<=g
theorem App.own {w:World}{base e sz n:Nat}{v:Value}{xs:List Value}(h:w.ownsRow base e sz v n xs):App w base e sz v v.ownBlock n xs:= .inl ⟨h,rfl⟩
theorem App.cut {w:World}{base e sz B n:Nat}{A:Option Addr}{xs:List Value}(h:Lies w B sz A n xs):App w base e sz (.slice A n n) none n xs:=by
 refine .inr ⟨A,B,rfl,h,λe=>?_,rfl⟩;rcases oI n with h0|h0;exact h0
 . obtain⟨a,h1,_⟩:=h.2 h0;rw[e] at h1
   cases h1
theorem dK {w:World}{base base' e sz n:Nat}{v:Value}{xs:List Value}(h:w.ownsRow base e sz v n xs)(hb:base'<=base):w.ownsRow base' e sz v n xs:=by refine⟨h.1,?_⟩;rcases h.2 with h2|⟨g,cap,cur,h1,h2,h3⟩;exact .inl h2;exact .inr ⟨g,cap,cur,h1,aG hb h2,h3⟩
theorem af {a b c:World}{o o':Option Nat}(h:a.grownBy b o)(d:b.grownBy c o')(u:At a o o'):a.grownBy c o:=by refine⟨d.os.trans h.os,d.tape.trans h.tape,d.output.trans h.output,aG h.size d.size,λk hk q=>?_⟩;have h1:=h.block k hk q;refine (d.block k (oM hk h.size) ?_).trans h1;rcases u with rfl|⟨g,rfl,hg⟩;exact q;intro e;injection e with e;omega
theorem At.trans {a b:World}{o o' d:Option Nat}(h:At a o o')(q:At b o' d)(u:a.heap.size<=b.heap.size):At a o d:=by rcases q with rfl|⟨g,rfl,hg⟩;exact h;exact .inr ⟨g,rfl,by omega⟩
theorem At.refl (w:World)(o:Option Nat):At w o o:= .inl rfl
theorem App.alloc {w:World}{base e sz n:Nat}{v:Value}{o:Option Nat}{xs:List Value}(h:App w base e sz v o n xs)(ob:Obj):App (w.alloc ob) base e sz v o n xs:=by rcases h with ⟨h,e⟩|⟨A,B,h1,h2,h3⟩;exact .inl ⟨h.alloc ob,e⟩;refine .inr ⟨A,B,h1,⟨h2.1,λhn=>?_⟩,h3⟩;obtain⟨d,ha,hb,hc⟩:=h2.2 hn;exact⟨d,ha,hb,λj u a=>(Ew w ob _ (Hm w _ (hc j u a))).trans (hc j u a)⟩
theorem dA {w w':World}{ob:Obj}{o:Option Nat}(h:(w.alloc ob).grownBy w' o):w.grownBy w' o:=
 af (aP w ob o) h (.inl rfl)
theorem lg {w w':World}{o:Option Nat}(h:w.drew.grownBy w' o):w.grownBy w' o:=⟨h.os,h.tape,h.output,h.size,h.block⟩
theorem uz {w w':World}{o:Option Nat}{q:Nat}(h:(w.drewN q).grownBy w' o):w.grownBy w' o:=⟨h.os,h.tape,h.output,h.size,h.block⟩
theorem At.drew {w:World}{o o':Option Nat}(h:At w.drew o o'):At w o o':=h
theorem At.drewN {w:World}{o o':Option Nat}{q:Nat}(h:At (w.drewN q) o o'):At w o o':=h
theorem At.alloc {w:World}{ob:Obj}{o o':Option Nat}(h:At (w.alloc ob) o o'):At w o o':=by rcases h with h|⟨g,h,hg⟩;exact .inl h;exact .inr ⟨g,h,by simp at hg;omega⟩
theorem gZ (w:World)(u:Value)(e:TypeId):∀j a,[u][j]?=some a->(w.alloc (.cells #[u] e)).cell? ((⟨w.heap.size,0,none⟩:Addr).add j)=some a:=by intro j a h;have d:j=0:=(by have:=(dD.1 h).1;simp at this;exact this);subst d;simp at h;subst h;simp[Addr.add]
theorem BQ {u:Value}(h:u.oneCell'=true):∀x∈ [u],x.oneCell'=true:=by intro x hx;simp at hx;subst hx;exact h
section
variable {P : Program} (w : World)
theorem UR (base:Nat)(t ty e:TypeId)(i:TypeInfo)(z:Value)(size bytes:Nat)(L:P.underlying t=some (.slice e))(hi:P.info? e=some i)(M:i.zero=some z)
 (q:i.size=size) (G:i.bytes=bytes) (H:z.cells.size=size) (I:0<size)
 (v:Value) (o:Option Nat) (n:Nat) (xs:List Value) (h:App w base e size v o n xs)
 (a:Addr) (m c:Nat) (news:List Value) (hm:0<m) (N:news.length=m*size) (y:∀j u,news[j]?=some u->w.cell? (a.add j)=some u) (h1:∀u∈news,u.oneCell'=true)
 (J:n+m<=maxLen) (d:(n+m)* bytes<=140737488355328) (D:base<=w.heap.size):
 ∃v' w',(Builtin.append_ #[t,t] ty #[v,.slice (some a) m c]).run P w= .ok v' w'/\w'.ownsRow base e size v' (n+m) (xs++news)/\w.grownBy w' o/\At w o v'.ownBlock:=by
 have own:∀v:Value,w.ownsRow base e size v n xs->∃v' w',(Builtin.append_ #[t,t] ty #[v,.slice (some a) m c]).run P w= .ok v' w'/\w'.ownsRow base e size v' (n+m) (xs++news)/\w.grownBy w' v.ownBlock/\At w v.ownBlock v'.ownBlock:=(by intro v E;obtain⟨v',w',hr,h2,h3,_,h5⟩:=run_append_own_at (P:=P) w base t ty e i z size bytes L hi M q G H I v n xs E a m c news N y h1 J d D;refine⟨v',w',hr,h2,h3,?_⟩;rcases h5 with h5|h5;exact .inl h5;exact .inr ⟨_,h5,ak _⟩);rcases h with ⟨E,rfl⟩|⟨A,B,rfl,hlies,hA,rfl⟩;exact own v E
 . cases A with
   |
    none=>
    obtain rfl:=hA rfl;have hx:xs=[]:=lS (by simpa using hlies.1);subst hx;exact own _ (dw _ _ _ _)
   |
    some b=>
    have holds:∀j u,xs[j]?=some u->w.cell? (b.add j)=some u:=(by intro j u O;rcases oI n with h0|h0;subst h0;have hx:xs=[]:=lS (by simpa using hlies.1);subst hx;simp at O;obtain⟨R,hb,_,hc⟩:=hlies.2 h0;injection hb with hb;subst hb;exact hc j u O);obtain⟨v',w',hr,h2,h3⟩:=run_append_arg_grows (P:=P) w t ty e i z size bytes L hi M q G H I b n n xs hlies.1 holds a m c news N y (by omega) J d;refine⟨v',w',hr,dK h2 D,h3,?_⟩;have:=h2.lt
    cases hv:v'.ownBlock with
    |none=>exact .inl rfl
    |some g=>exact .inr ⟨g,rfl,(this g hv).1⟩
theorem bW {ops:Array Oper}{rest:List Oper}{o:Oper}{a:Act}{Q:Exit->Act->World->Prop}(hg:o.guard=none)(s x:Operand)(t:TypeId)
 (E:o.op=Op.call { callee:=Callee.builtin Builtin.append,args:=#[s,x],argTypes:=#[t,t] })
 (base:Nat) (e:TypeId) (i:TypeInfo) (z:Value) (size bytes:Nat) (N:P.underlying t=some (.slice e)) (hi:P.info? e=some i) (O:i.zero=some z)
 (q:i.size=size) (G:i.bytes=bytes) (H:z.cells.size=size) (I:0<size)
 (v:Value) (ow:Option Nat) (n:Nat) (xs:List Value) (hs:a.eval s=v) (h:App w base e size v ow n xs)
 (J:Addr) (m c:Nat) (news:List Value) (hx:a.eval x= .slice (some J) m c) (hm:0<m) (hn:news.length=m*size) (hc:∀j u,news[j]?=some u->w.cell? (J.add j)=some u) (h1:∀u∈news,u.oneCell'=true)
 (L:n+m<=maxLen) (d:(n+m)* bytes<=140737488355328) (y:base<=w.heap.size)
 (R:∀v' w',w'.ownsRow base e size v' (n+m) (xs++news)->w.grownBy w' ow->At w ow v'.ownBlock->wpList P ops Q rest (a.put o.dst v') w'):
 wpList P ops Q (o::rest) a w:=by refine Qx hg λK M=>?_;obtain⟨v',w',D,r1,U,V⟩:=UR (P:=P) w base t o.type e i z size bytes N hi O q G H I v ow n xs h J m c news hm hn hc h1 L d y;unfold Oper.wp;simp[execOp,E,resolve,invoke,builtin,hs,hx,D,Result.andThen];exact M _ _ (R v' w' r1 U V)
end
section
variable {P : Program} (w : World)
theorem Py (base:Nat)(t ty e:TypeId)(i:TypeInfo)(z:Value)(size bytes:Nat)(L:P.underlying t=some (.slice e))(hi:P.info? e=some i)(N:i.zero=some z)
 (q:i.size=size) (D:i.bytes=bytes) (E:z.cells.size=size) (G:0<size)
 (v:Value) (n:Nat) (xs:List Value) (a:w.ownsRow base e size v n xs)
 (B:Nat) (A:Option Addr) (m c:Nat) (news:List Value) (hr:Lies w B size A m news) (ho:A=none->c=0) (h1:∀u∈news,u.oneCell'=true)
 (H:n+m<=maxLen) (d:(n+m)* bytes<=140737488355328) (y:base<=w.heap.size):
 ∃v' w',(Builtin.append_ #[t,t] ty #[v,.slice A m c]).run P w= .ok v' w'/\w'.ownsRow base e size v' (n+m) (xs++news)/\w.grownBy w' v.ownBlock/\At w v.ownBlock v'.ownBlock:=by
 cases A with
 |
  none=>
  have hm:m=0:=by
   rcases oI m with h0|h0;exact h0
   . obtain⟨I,h,_⟩:=hr.2 h0
     cases h
  subst hm;obtain rfl:=ho rfl;have hn:news=[]:=lS (by simpa using hr.1);subst hn;exact⟨v,w,run_append_owned_none (P:=P) (w:=w) base t ty e i size L hi v n xs a,by simpa using a,aW w _,.inl rfl⟩
 |
  some I=>
  have hc:∀j u,news[j]?=some u->w.cell? (I.add j)=some u:=(by intro j u M;rcases oI m with h0|h0;subst h0;have hn:news=[]:=lS (by simpa using hr.1);subst hn;simp at M;obtain⟨O,h,_,hc⟩:=hr.2 h0;injection h with h;subst h;exact hc j u M);obtain⟨v',w',J,h2,h3,_,h5⟩:=run_append_own_at (P:=P) w base t ty e i z size bytes L hi N q D E G v n xs a I m c news hr.1 hc h1 H d y;refine⟨v',w',J,h2,h3,?_⟩;rcases h5 with h5|h5;exact .inl h5;exact .inr ⟨_,h5,ak _⟩
theorem dn {ops:Array Oper}{rest:List Oper}{o:Oper}{a:Act}{Q:Exit->Act->World->Prop}(hg:o.guard=none)(s x:Operand)(t:TypeId)
 (G:o.op=Op.call { callee:=Callee.builtin Builtin.append,args:=#[s,x],argTypes:=#[t,t] })
 (base:Nat) (e:TypeId) (i:TypeInfo) (z:Value) (size bytes:Nat) (N:P.underlying t=some (.slice e)) (hi:P.info? e=some i) (O:i.zero=some z)
 (q:i.size=size) (H:i.bytes=bytes) (I:z.cells.size=size) (J:0<size)
 (v:Value) (n:Nat) (xs:List Value) (hs:a.eval s=v) (D:w.ownsRow base e size v n xs)
 (B:Nat) (A:Option Addr) (m c:Nat) (news:List Value) (hx:a.eval x= .slice A m c) (hr:Lies w B size A m news) (ho:A=none->c=0) (h1:∀u∈news,u.oneCell'=true)
 (L:n+m<=maxLen) (d:(n+m)* bytes<=140737488355328) (y:base<=w.heap.size)
 (R:∀v' w',w'.ownsRow base e size v' (n+m) (xs++news)->w.grownBy w' v.ownBlock->At w v.ownBlock v'.ownBlock->wpList P ops Q rest (a.put o.dst v') w'):
 wpList P ops Q (o::rest) a w:=by refine Qx hg λK M=>?_;obtain⟨v',w',E,r1,U,V⟩:=Py (P:=P) w base t o.type e i z size bytes N hi O q H I J v n xs D B A m c news hr ho h1 L d y;unfold Oper.wp;simp[execOp,G,resolve,invoke,builtin,hs,hx,E,Result.andThen];exact M _ _ (R v' w' r1 U V)
end
theorem pV (w:World)(base:Nat)(e:TypeId)(sz:Nat)(hb:base<=w.heap.size):(w.alloc (.cells #[] e)).ownsRow base e sz (.slice (some ⟨w.heap.size,0,none⟩) 0 0) 0 []:=
 zf w #[] 0 hb (ay _) (by simp)
theorem Lies.allocAny {w:World}{B sz n:Nat}{A:Option Addr}{xs:List Value}(h:Lies w B sz A n xs)(o:Obj):Lies (w.alloc o) B sz A n xs:=by refine⟨h.1,λhn=>?_⟩;obtain⟨d,ha,hb,hc⟩:=h.2 hn;exact⟨d,ha,hb,λj u a=>(Ew w o _ (Hm w _ (hc j u a))).trans (hc j u a)⟩
theorem BC {w w':World}{ob:Obj}{g:Nat}(h:(w.alloc ob).grownBy w' (some g))(hg:w.heap.size<=g)(o:Option Nat):w.grownBy w' o:=by refine⟨h.os,h.tape,h.output,?_,λk hk _=>?_⟩;have:=h.size;simp at this;omega;refine (h.block k (by simp;omega) ?_).trans (zL w ob k hk);intro e;injection e with e;omega
theorem At.ofNew {w:World}{ob:Obj}{g:Nat}{o':Option Nat}(h:At (w.alloc ob) (some g) o')(hg:w.heap.size<=g):At w none o':=by rcases h with rfl|⟨g',rfl,hg'⟩;exact .inr ⟨g,rfl,hg⟩;exact .inr ⟨g',rfl,by simp at hg';omega⟩
def Held (w:World)(g:Nat)(t:TypeId)(cs:Array Value):Prop:=w.heap[g]?=some (.cells cs t (0,0))
section
variable {w w' : World} {g : Nat} {t : TypeId} {cs : Array Value}
theorem Held.lt (h:Held w g t cs):g<w.heap.size:=(iW.1 h).1
theorem Held.cell (h:Held w g t cs)(i:Nat):w.cell? ⟨g,i,none⟩=cs[i]?:=cell_of_row w g i cs t (0,0) h
theorem Held.free (h:Held w g t cs)(i:Nat):w.frozen? ⟨g,i,none⟩=false:=by unfold Held at h;simp[World.frozen?,h]
theorem Held.new (w:World)(t:TypeId)(cs:Array Value):Held (w.alloc (.cells cs t)) w.heap.size t cs:=heap_alloc_new w _
theorem Held.drew (h:Held w g t cs):Held w.drew g t cs:=h
theorem Held.drewN (h:Held w g t cs)(n:Nat):Held (w.drewN n) g t cs:=h
theorem Held.alloc (h:Held w g t cs)(o:Obj):Held (w.alloc o) g t cs:=(zL w o g h.lt).trans h
theorem Held.store (h:Held w g t cs)(i:Nat)(u:Value):Held (w.setCell ⟨g,i,none⟩ u) g t (cs.setIfInBounds i u):=by unfold Held at h|-;simp[World.setCell,RZ,h]
theorem Held.far (h:Held w g t cs){p:Addr}(a:g≠p.block)(u:Value):Held (w.setCell p u) g t cs:=(KE w p u g a).trans h
theorem Held.grown {row:Option Nat}(h:Held w g t cs)(hb:w.grownBy w' row)(hg:some g≠row):Held w' g t cs:=(hb.block g h.lt hg).trans h
end
theorem ag (w:World)(g i:Nat)(u:Value):w.grownBy (w.setCell ⟨g,i,none⟩ u) (some g):=
 ⟨rfl,rfl,rfl,by simp[World.setCell],λk hk a=>KE w ⟨g,i,none⟩ u k (λe=>a (by rw[e]))⟩
theorem au {a b c:World}{o:Option Nat}(h:a.grownBy b o)(d:b.grownBy c o):a.grownBy c o:=af h d (.inl rfl)
theorem aA {a b:World}{o:Option Nat}(h:a.grownBy b o):a.grownBy b.drew o:=⟨h.os,h.tape,h.output,h.size,h.block⟩
theorem aH {a b:World}{o:Option Nat}(h:a.grownBy b o)(n:Nat):a.grownBy (b.drewN n) o:=⟨h.os,h.tape,h.output,h.size,h.block⟩
theorem st2 {w:World}{g:Nat}{t:TypeId}{z0 a:Value}(h:Held w g t #[z0,a])(u0 u1:Value):Held ((w.setCell ⟨g,0,none⟩ u0).setCell ⟨g,1,none⟩ u1) g t #[u0,u1]/\w.grownBy ((w.setCell ⟨g,0,none⟩ u0).setCell ⟨g,1,none⟩ u1) (some g):=by have h1:Held (w.setCell ⟨g,0,none⟩ u0) g t #[u0,a]:=h.store 0 _;have h2:Held ((w.setCell ⟨g,0,none⟩ u0).setCell ⟨g,1,none⟩ u1) g t #[u0,u1]:=h1.store 1 _;refine⟨h2,?_⟩;have d:=aW w (some g);have q:=au d (ag w g 0 u0);have u:=au q (ag (w.setCell ⟨g,0,none⟩ u0) g 1 u1);exact u
theorem st3 {w:World}{g:Nat}{t:TypeId}{z0 d a:Value}(h:Held w g t #[z0,d,a])(u0 u1 u2:Value):Held (((w.setCell ⟨g,0,none⟩ u0).setCell ⟨g,1,none⟩ u1).setCell ⟨g,2,none⟩ u2) g t #[u0,u1,u2]/\w.grownBy (((w.setCell ⟨g,0,none⟩ u0).setCell ⟨g,1,none⟩ u1).setCell ⟨g,2,none⟩ u2) (some g):=by have h1:Held (w.setCell ⟨g,0,none⟩ u0) g t #[u0,d,a]:=h.store 0 _;have h2:Held ((w.setCell ⟨g,0,none⟩ u0).setCell ⟨g,1,none⟩ u1) g t #[u0,u1,a]:=h1.store 1 _;have h3:Held (((w.setCell ⟨g,0,none⟩ u0).setCell ⟨g,1,none⟩ u1).setCell ⟨g,2,none⟩ u2) g t #[u0,u1,u2]:=h2.store 2 _;refine⟨h3,?_⟩;have q:=aW w (some g);have u:=au q (ag w g 0 u0);have y:=au u (ag (w.setCell ⟨g,0,none⟩ u0) g 1 u1);have B:=au y (ag ((w.setCell ⟨g,0,none⟩ u0).setCell ⟨g,1,none⟩ u1) g 2 u2);exact B
theorem st4 {w:World}{g:Nat}{t:TypeId}{z0 d a z3:Value}(h:Held w g t #[z0,d,a,z3])(u0 u1 u2 u3:Value):Held ((((w.setCell ⟨g,0,none⟩ u0).setCell ⟨g,1,none⟩ u1).setCell ⟨g,2,none⟩ u2).setCell ⟨g,3,none⟩ u3) g t #[u0,u1,u2,u3]/\w.grownBy ((((w.setCell ⟨g,0,none⟩ u0).setCell ⟨g,1,none⟩ u1).setCell ⟨g,2,none⟩ u2).setCell ⟨g,3,none⟩ u3) (some g):=by have h1:Held (w.setCell ⟨g,0,none⟩ u0) g t #[u0,d,a,z3]:=h.store 0 _;have h2:Held ((w.setCell ⟨g,0,none⟩ u0).setCell ⟨g,1,none⟩ u1) g t #[u0,u1,a,z3]:=h1.store 1 _;have h3:Held (((w.setCell ⟨g,0,none⟩ u0).setCell ⟨g,1,none⟩ u1).setCell ⟨g,2,none⟩ u2) g t #[u0,u1,u2,z3]:=h2.store 2 _;have h4:Held ((((w.setCell ⟨g,0,none⟩ u0).setCell ⟨g,1,none⟩ u1).setCell ⟨g,2,none⟩ u2).setCell ⟨g,3,none⟩ u3) g t #[u0,u1,u2,u3]:=h3.store 3 _;refine⟨h4,?_⟩;have q:=aW w (some g);have u:=au q (ag w g 0 u0);have y:=au u (ag (w.setCell ⟨g,0,none⟩ u0) g 1 u1);have B:=au y (ag ((w.setCell ⟨g,0,none⟩ u0).setCell ⟨g,1,none⟩ u1) g 2 u2);have D:=au B (ag (((w.setCell ⟨g,0,none⟩ u0).setCell ⟨g,1,none⟩ u1).setCell ⟨g,2,none⟩ u2) g 3 u3);exact D
theorem st7 {w:World}{g:Nat}{t:TypeId}{z0 u q z3 z4 d a:Value}(h:Held w g t #[z0,u,q,z3,z4,d,a])(u0 u1 u2 u3 u4 u5 u6:Value):Held (((((((w.setCell ⟨g,0,none⟩ u0).setCell ⟨g,1,none⟩ u1).setCell ⟨g,2,none⟩ u2).setCell ⟨g,3,none⟩ u3).setCell ⟨g,4,none⟩ u4).setCell ⟨g,5,none⟩ u5).setCell ⟨g,6,none⟩ u6) g t #[u0,u1,u2,u3,u4,u5,u6]/\w.grownBy (((((((w.setCell ⟨g,0,none⟩ u0).setCell ⟨g,1,none⟩ u1).setCell ⟨g,2,none⟩ u2).setCell ⟨g,3,none⟩ u3).setCell ⟨g,4,none⟩ u4).setCell ⟨g,5,none⟩ u5).setCell ⟨g,6,none⟩ u6) (some g):=by have h1:Held (w.setCell ⟨g,0,none⟩ u0) g t #[u0,u,q,z3,z4,d,a]:=h.store 0 _;have h2:Held ((w.setCell ⟨g,0,none⟩ u0).setCell ⟨g,1,none⟩ u1) g t #[u0,u1,q,z3,z4,d,a]:=h1.store 1 _;have h3:Held (((w.setCell ⟨g,0,none⟩ u0).setCell ⟨g,1,none⟩ u1).setCell ⟨g,2,none⟩ u2) g t #[u0,u1,u2,z3,z4,d,a]:=h2.store 2 _;have h4:Held ((((w.setCell ⟨g,0,none⟩ u0).setCell ⟨g,1,none⟩ u1).setCell ⟨g,2,none⟩ u2).setCell ⟨g,3,none⟩ u3) g t #[u0,u1,u2,u3,z4,d,a]:=h3.store 3 _;have h5:Held (((((w.setCell ⟨g,0,none⟩ u0).setCell ⟨g,1,none⟩ u1).setCell ⟨g,2,none⟩ u2).setCell ⟨g,3,none⟩ u3).setCell ⟨g,4,none⟩ u4) g t #[u0,u1,u2,u3,u4,d,a]:=h4.store 4 _;have y:Held ((((((w.setCell ⟨g,0,none⟩ u0).setCell ⟨g,1,none⟩ u1).setCell ⟨g,2,none⟩ u2).setCell ⟨g,3,none⟩ u3).setCell ⟨g,4,none⟩ u4).setCell ⟨g,5,none⟩ u5) g t #[u0,u1,u2,u3,u4,u5,a]:=h5.store 5 _;have B:Held (((((((w.setCell ⟨g,0,none⟩ u0).setCell ⟨g,1,none⟩ u1).setCell ⟨g,2,none⟩ u2).setCell ⟨g,3,none⟩ u3).setCell ⟨g,4,none⟩ u4).setCell ⟨g,5,none⟩ u5).setCell ⟨g,6,none⟩ u6) g t #[u0,u1,u2,u3,u4,u5,u6]:=y.store 6 _;refine⟨B,?_⟩;have D:=aW w (some g);have E:=au D (ag w g 0 u0);have G:=au E (ag (w.setCell ⟨g,0,none⟩ u0) g 1 u1);have H:=au G (ag ((w.setCell ⟨g,0,none⟩ u0).setCell ⟨g,1,none⟩ u1) g 2 u2);have I:=au H (ag (((w.setCell ⟨g,0,none⟩ u0).setCell ⟨g,1,none⟩ u1).setCell ⟨g,2,none⟩ u2) g 3 u3);have J:=au I (ag ((((w.setCell ⟨g,0,none⟩ u0).setCell ⟨g,1,none⟩ u1).setCell ⟨g,2,none⟩ u2).setCell ⟨g,3,none⟩ u3) g 4 u4);have L:=au J (ag (((((w.setCell ⟨g,0,none⟩ u0).setCell ⟨g,1,none⟩ u1).setCell ⟨g,2,none⟩ u2).setCell ⟨g,3,none⟩ u3).setCell ⟨g,4,none⟩ u4) g 5 u5);have M:=au L (ag ((((((w.setCell ⟨g,0,none⟩ u0).setCell ⟨g,1,none⟩ u1).setCell ⟨g,2,none⟩ u2).setCell ⟨g,3,none⟩ u3).setCell ⟨g,4,none⟩ u4).setCell ⟨g,5,none⟩ u5) g 6 u6);exact M
end Iv
namespace Iv
open Go
section
variable {P : Program} {ops : Array Oper} {Q : Exit -> Act -> World -> Prop} {md : Region.Mode} {S : World -> Prop} {z : Nat}
def jH (P:Program)(md:Region.Mode)(ops:Array Oper)(Q:Exit->Act->World->Prop)(S:World->Prop)(z:Nat):Nat->Array Bool->Act->World->Prop
 |0,listed,a,w=>Region.ready md ops listed=[]/\Q .normal a w
 |
  fuel+1,listed,a,w=>
  (Region.ready md ops listed=[]->Q .normal a w)/\
  ∀i∈Region.ready md ops listed,wpOp P ops Q i (λa' w'=>(i≠z->S w')/\jH P md ops Q S z fuel (listed.setIfInBounds i true) a' w') a w
theorem EJ:∀(fuel:Nat) (listed:Array Bool) (a:Act) (w:World),jH P md ops Q S z fuel listed a w->wpAny P md ops Q fuel listed a w
 |0,_,_,_,h=>h
 |fuel+1,_,_,_,h=>⟨h.1,λi hi=>wpOp_mono (λa' w' d=>EJ fuel _ a' w' d.2) (h.2 i hi)⟩
theorem Ky {i:Nat}{oi:Oper}{v:Value}(hi:ops[i]?=some oi)(B:∀(j:Nat) (o:Oper) cs b,ops[j]?=some o->o.op≠ .select cs b)
 (Y:∀c a w,Q (.panic c) (a.put oi.dst v) w->Q (.panic c) a w) (R:Region.waitsFor md ops z i=true):
 ∀(fuel:Nat) (listed:Array Bool) (a:Act) (w:World),
  (∀j oj,ops[j]?=some oj->j≠i->listed.getD j true=false->(∀e∈oj.after,Region.binds md e=true->e.on≠i)->oi.apart ops oj=true)->
  i∈Region.ready md ops listed->YieldsIf P ops S oi v a->S w->
  jH P md ops Q S z fuel (listed.setIfInBounds i true) (a.put oi.dst v) w->jH P md ops Q S z (fuel+1) listed a w:=by
 intro fuel;induction fuel with
 |
  zero=>
  intro listed a w _ hr N G H;refine⟨λh=>(by rw[h] at hr;cases hr),λj O=>?_⟩;by_cases d:j=i;subst d;exact N.wpOp hi G ⟨λ_=>G,H⟩
  . have:=ready_mono O d;rw[H.1] at this
    cases this
 |
  succ fuel ih=>
  intro listed a w q hr N G H;refine⟨λh=>(by rw[h] at hr;cases hr),λj O=>?_⟩;by_cases d:j=i;subst d;exact N.wpOp hi G ⟨λ_=>G,H⟩
  . have h1:=H.2 j (ready_mono O d);obtain⟨D,oj,u,I⟩:=mem_ready.1 O
    have E:∀e∈oj.after,Region.binds md e=true->e.on≠i:=λe he hb heq=>by
     have h1:=I e he hb;have h0:=(mem_ready.1 hr).1;rw[heq] at h1;rcases Nat.lt_or_ge i listed.size with h'|h';simp[h'] at h0 h1;rw[h0] at h1;cases h1
     simp[Array.getElem?_eq_none h'] at h1
    have J:j≠z:=(by rintro rfl;obtain⟨Z,U,e,he,hb,V⟩:=Region.waitsFor_spec R;have:Z=oj:=Option.some.inj (U.symm.trans u);subst this;exact E e he hb V);have h2:=wpOp_putIf u (q j oj u d D E) (λcs b=>B i oi cs b hi) (λcs b=>B j oj cs b u) Y N h1
    have y:∀k ok,ops[k]?=some ok->k≠i->(listed.setIfInBounds j true).getD k true=false->
     (∀e∈ok.after,Region.binds md e=true->e.on≠i)->oi.apart ops ok=true:=λk ok hk X L hno=>by
     refine q k ok hk X ?_ hno;by_cases M:j=k;subst M;exact D;rw[getD_set_ne true M] at L;exact L
    refine wpOp_mono (λa' w' h3=>⟨λ_=>h3.2.1 J,ih (listed.setIfInBounds j true) a' w' y (ready_mono hr (Ne.symm d)) h3.1 (h3.2.1 J) ?_⟩) h2;rw[Array.setIfInBounds_comm _ _ d];exact h3.2.2
theorem aB {i:Nat}{oi:Oper}{v:Value}{fuel:Nat}{listed:Array Bool}{a:Act}{w:World}(hi:ops[i]?=some oi)
 (hs:Region.noSelect ops=true) (hf:Region.free md ops listed i=true) (hr:(Region.ready md ops listed).contains i=true) (d:Region.waitsFor md ops z i=true)
 (q:∀c a w,Q (.panic c) (a.put oi.dst v) w->Q (.panic c) a w) (u:YieldsIf P ops S oi v a) (y:S w)
 (h:jH P md ops Q S z fuel (listed.setIfInBounds i true) (a.put oi.dst v) w):jH P md ops Q S z (fuel+1) listed a w:=
 Ky hi (Region.noSelect_spec hs) q d fuel listed a w (Region.free_spec hi hf) (by simpa using hr) u y h
theorem fG {i:Nat}{o:Oper}{fuel:Nat}{listed:Array Bool}{a:Act}{w:World}(hr:Region.ready md ops listed=[i])(ho:ops[i]?=some o)
 (h:∀d:Act->World->Prop,Shut (∀a w,S w->(S w->jH P md ops Q S z fuel (listed.setIfInBounds i true) a w)->d a w)->if Region.wanted o (yielded ops a.tmps)=true then Oper.wp P o a w d Q else d (a.put o.dst undef) w):
 jH P md ops Q S z (fuel+1) listed a w:=by refine⟨λh0=>(by rw[hr] at h0;cases h0),λj q=>?_⟩;rw[hr] at q;obtain rfl:j=i:=(by simpa using q);exact wpOp_step ho (λd y=>h d (λa w u hW=>y a w ⟨λ_=>u,hW u⟩))
theorem oW {o:Oper}{fuel:Nat}{listed:Array Bool}{a:Act}{w:World}(hr:Region.ready md ops listed=[z])(ho:ops[z]?=some o)
 (h:∀d:Act->World->Prop,Shut (∀a w,jH P md ops Q S z fuel (listed.setIfInBounds z true) a w->d a w)->if Region.wanted o (yielded ops a.tmps)=true then Oper.wp P o a w d Q else d (a.put o.dst undef) w):
 jH P md ops Q S z (fuel+1) listed a w:=by refine⟨λh0=>(by rw[hr] at h0;cases h0),λj q=>?_⟩;rw[hr] at q;obtain rfl:j=z:=(by simpa using q);exact wpOp_step ho (λd u=>h d (λa w hW=>u a w ⟨λh0=>absurd rfl h0,hW⟩))
theorem lV {listed:Array Bool}{a:Act}{w:World}(hr:Region.ready md ops listed=[])(h:Q .normal a w):
 ∀fuel,jH P md ops Q S z fuel listed a w
 |0=>⟨hr,h⟩
 |_+1=>⟨λ_=>h,by rw[hr];simp⟩
theorem lU {id:Nat}{a:Act}{w:World}(hm:P.follows .mixedOrders=true)(d:S w.drew)
 (h:S w.drew->jH P .any ops Q S z ops.size (Array.replicate ops.size false) a w.drew):(Code.region id ops true).wp P Q a w:=
 wp_region_any hm (EJ _ _ _ _ (h d))
end
section
variable {P : Program} {ops : Array Oper} {Q : Exit -> Act -> World -> Prop} {md : Region.Mode} {S : World -> Prop} {z : Nat}
end
section
variable {P : Program} {ops : Array Oper} {Q : Exit -> Act -> World -> Prop} {md : Region.Mode} {S : World -> Prop} {z : Nat}
theorem adv {a:Array Bool}{j:Nat}(h:a.getD j true=false):a.getD j false=false:=by rcases zB j a.size with h'|h';simp[h'] at h|-;exact h;simp[YY h'] at h
def okT (md:Region.Mode)(ops:Array Oper)(listed:Array Bool)(z i:Nat):Bool:=
 Region.noSelect ops && Region.free md ops listed i &&(Region.ready md ops listed).contains i &&((ops[z]?).isNone || Region.waitsFor md ops z i)
theorem G9 {i:Nat}{oi:Oper}{v:Value}(hi:ops[i]?=some oi)(B:∀(j:Nat) (o:Oper) cs b,ops[j]?=some o->o.op≠ .select cs b)
 (V:∀c a w,Q (.panic c) (a.put oi.dst v) w->Q (.panic c) a w) (E:ops[z]?=none):
 ∀(fuel:Nat) (listed:Array Bool) (a:Act) (w:World),
  (∀j oj,ops[j]?=some oj->j≠i->listed.getD j true=false->(∀e∈oj.after,Region.binds md e=true->e.on≠i)->oi.apart ops oj=true)->
  i∈Region.ready md ops listed->YieldsIf P ops S oi v a->S w->
  jH P md ops Q S z fuel (listed.setIfInBounds i true) (a.put oi.dst v) w->jH P md ops Q S z (fuel+1) listed a w:=by
 intro fuel;induction fuel with
 |
  zero=>
  intro listed a w _ hr O G H;refine⟨λh=>(by rw[h] at hr;cases hr),λj R=>?_⟩;by_cases d:j=i;subst d;exact O.wpOp hi G ⟨λ_=>G,H⟩
  . have:=ready_mono R d;rw[H.1] at this
    cases this
 |
  succ fuel ih=>
  intro listed a w q hr O G H;refine⟨λh=>(by rw[h] at hr;cases hr),λj R=>?_⟩;by_cases d:j=i;subst d;exact O.wpOp hi G ⟨λ_=>G,H⟩
  . have h1:=H.2 j (ready_mono R d);obtain⟨D,oj,u,I⟩:=mem_ready.1 R
    have J:∀e∈oj.after,Region.binds md e=true->e.on≠i:=λe he hb heq=>by
     have h1:=I e he hb;have h0:=(mem_ready.1 hr).1;rw[heq] at h1;rw[adv h0] at h1
     cases h1
    have L:j≠z:=by
     rintro rfl;rw[u] at E
     cases E
    have h2:=wpOp_putIf u (q j oj u d D J) (λcs b=>B i oi cs b hi) (λcs b=>B j oj cs b u) V O h1
    have y:∀k ok,ops[k]?=some ok->k≠i->(listed.setIfInBounds j true).getD k true=false->
     (∀e∈ok.after,Region.binds md e=true->e.on≠i)->oi.apart ops ok=true:=λk ok hk U M hno=>by
     refine q k ok hk U ?_ hno;by_cases N:j=k;subst N;exact D;rw[getD_set_ne true N] at M;exact M
    refine wpOp_mono (λa' w' h3=>⟨λ_=>h3.2.1 L,ih (listed.setIfInBounds j true) a' w' y (ready_mono hr (xC d)) h3.1 (h3.2.1 L) ?_⟩) h2;rw[Array.setIfInBounds_comm _ _ d];exact h3.2.2
theorem fZ {i:Nat}{oi:Oper}{v:Value}{fuel:Nat}{listed:Array Bool}{a:Act}{w:World}(d:okT md ops listed z i=true)(hi:ops[i]?=some oi)
 (q:∀c a w,Q (.panic c) (a.put oi.dst v) w->Q (.panic c) a w) (u:YieldsIf P ops S oi v a) (y:S w)
 (h:jH P md ops Q S z fuel (listed.setIfInBounds i true) (a.put oi.dst v) w):jH P md ops Q S z (fuel+1) listed a w:=by unfold okT at d;simp only[dH,wO,Option.isNone_iff_eq_none] at d;obtain⟨⟨⟨h1,h2⟩,h3⟩,h4⟩:=d;rcases h4 with h4|h4;exact G9 hi (Region.noSelect_spec h1) q h4 fuel listed a w (Region.free_spec hi h2) (by simpa using h3) u y h;exact aB hi h1 h2 h3 h4 q u y h
end
