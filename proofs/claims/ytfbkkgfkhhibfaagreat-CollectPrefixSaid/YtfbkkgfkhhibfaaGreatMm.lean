/- Words. -/
import Derived.Lib.Hide
import Derived.OwnWalk
import Derived.Laws.AppendOwn
import Derived.Laws.BitsLemmas
import Derived.IntWalk
import Derived.Below
import Derived.Laws.OwnMore
import Derived.Deep.AppendLies
import Derived.Deep.Draws
import Derived.Maps.AppendAt
import Derived.RegionTactic
import Derived.ArgAppend
import Derived.WalkKit
set_option linter.defProp false
open Go Go.RowKit
theorem Go.RowKit.Hid.o {p:Prop}(h:Hid p):p:=h.out
def ae:=@Lib.hid
def bC:=@List.setIfInBounds_toArray
def bH:=@List.getElem?_eq_getElem
def aV:=@World.grownBy_alloc
def au:=@Nat.le_refl
def bg:=@List.set_cons_zero
def bD:=@List.set_cons_succ
def dF:=@List.getElem?_eq_some_iff
def bI:=@List.length_append
def aK:=@Nat.le_trans
def ay:=@Nat.zero_le
def bV:=@List.getElem?_map
def dD:=@World.ownsRow_nil
def dC:=@Bool.and_eq_true
def gz:=@Array.getElem?_toList
def jd:=@Array.getElem?_eq_some_iff
def dQ:=@IntKind.wrap_i64
def gq:=@beq_eq_false_iff_ne
def gZ:=@List.mem_of_getElem?
def fA:=@List.getElem_mem
def bY:=@bodyPost_ret
def jY:=@List.getElem?_append_right
def gm:=@List.append_assoc
def jX:=@List.getElem?_append_left
def jy:=@decide_eq_false_iff_not
def mi:=@List.eq_nil_of_length_eq_zero
def ig:=@Option.some.injEq
def iq:=@decide_eq_true_eq
def fK:=@decide_eq_false
def fQ:=@List.map_append
def jT:=@List.drop_eq_nil_of_le
def iK:=@World.size_alloc
def nY:=@List.drop_eq_getElem_cons
def iZ:=@List.length_cons
def iM:=@List.length_map
def fG:=@Nat.zero_add
def gJ:=@List.mem_cons
def mZ:=@Option.map_eq_some_iff
def qC:=@List.getD_eq_getElem?_getD
def lY:=@World.cell?_of_block
def mf:=@Nat.mul_le_mul_right
def jh:=@List.mem_append
def dV:=@beq_iff_eq
def oZ:=@List.getElem?_cons_zero
def jU:=@List.all_eq_true
def fB:=@bne_iff_ne
def lZ:=@List.mem_singleton
def mV:=@Bool.false_eq_true
def jL:=@run_underlying
def qA:=@List.length_singleton
def mG:=@List.not_mem_nil
def sG:=@List.mem_iff_getElem?
def sO:=@List.getElem?_toArray
def lG:=@List.nil_append
def oW:=@Nat.eq_zero_or_pos
def pF:=@Nat.lt_of_lt_of_le
def uK:=@List.take_of_length_le
def jo:=@List.mem_map
def kM:=@List.map_cons
def uJ:=@List.getElem?_eq_none
def je:=@Nat.mul_one
def sN:=@bne_eq_false_iff_eq
def qf:=@List.length_drop
def sH:=@World.grownBy.cell
def lC:=@List.map_take
def nU:=@Option.map_some
def nZ:=@List.append_nil
def sV:=@List.getElem?_take
def Ba:=@Array.getElem?_eq_getElem
def uu:=@Array.length_toList
def Ff:=@List.mem_zipIdx_iff_getElem?
def qE:=@List.length_take
def jW:=@Nat.add_mul
def pO:=@Bool.or_eq_true
def sS:=@List.take_length
def nV:=@Nat.add_assoc
def wV:=@Nat.add_sub_cancel
def Ns:=@Array.all_eq_true_iff_forall_mem
def Bi:=@Bool.and_eq_false_iff
def BK:=@Nat.le_of_ble_eq_true
def pq:=@List.map_drop
def wY:=@Bool.not_eq_true'
def wZ:=@List.take_add_one
def oK:=@Nat.le_of_eq
def tX:=@List.cons.injEq
def wP:=@Option.bind_some
def yu:=@Int.toNat_natCast
def Hl:=@Int.eq_ofNat_of_zero_le
def Hq:=@World.block_lt_of_cell?
def wO:=@List.nodup_cons
def Bz:=@Nat.lt_or_eq_of_le
def BD:=@decide_eq_true_iff
def Ey:=@List.mem_append_left
def qH:=@Nat.sub_self
def Bf:=@List.size_toArray
def PD:=@Decidable.byContradiction
def sK:=@Nat.add_zero
def LY:=@Nat.mod_two_eq_zero_or_one
def xE:=@List.cons_append
def zn:=@World.ownsRow_made
def zO:=@Int.natCast_nonneg
def Ez:=@List.mem_append_right
def E8:=@List.take_append_drop
def Am:=@List.getElem?_drop
def qp:=@List.map_nil
def tY:=@List.mem_range
def EF:=@List.pairwise_append
def EI:=@World.cell?_alloc_lt
def QH:=@Array.getElem?_setIfInBounds_ne
def JC:=@Nat.add_sub_cancel_left
def Lr:=@List.getElem?_cons_succ
def zX:=@Below.heap_alloc
def QG:=@Array.getElem?_setIfInBounds
def qW:=@Int.le_refl
def Jc:=@Array.mem_of_getElem?
def rq:=@Nat.one_mul
def zD:=@List.length_nil
def uX:=@Sem.run_bind
def LX:=@List.contains_iff_mem
def kU:=@congrArg
def xA:=@Bool.true_and
def qo:=@eq_iff_iff
def Fg:=@Result.andThen_ok
def Ko:=@Nat.pow_le_pow_right
def KA:=@List.mem_iff_getElem
def KE:=@Bool.or_eq_false_iff
def KY:=@List.mem_cons_of_mem
def La:=@List.range_eq_range'
def LD:=@List.mem_of_mem_take
def zU:=@Nat.mul_le_mul
def Aj:=@List.drop_drop
def Jj:=@List.map_eq_nil_iff
def Jl:=@List.mem_map_of_mem
def KO:=@List.flatMap_append
def LU:=@List.take_succ_cons
def xq:=@List.map_map
def xJ:=@results_none
def xN:=@getElem!_pos
def DC:=@Option.some.inj
def QJ:=@List.pairwise_singleton
def DJ:=@Nat.min_eq_left
def JX:=@List.pairwise_cons
def KI:=@Below.heap_setCell
def QR:=@Option.map_eq_none_iff
def TU:=@List.getElem_cons_succ
def Js:=@of_decide_eq_true
def Kq:=@List.any_eq_false
def Ky:=@List.ext_getElem?
def Eb:=@List.drop_zero
def zM:=@Nat.lt_or_ge
def SY:=@Array.getElem?_modify
def abq:=@Array.eq_empty_of_size_eq_zero
def Jw:=@Nat.mod_eq_of_lt
def Rn:=@List.getElem?_modify
def TE:=@List.forall_mem_cons
def qi:=@Eq.trans
def Je:=@List.mem_filter
def KH:=@List.sum_append
def KW:=@List.length_set
def TG:=@List.map_congr_left
def EE:=@Nat.ne_of_lt
def EU:=@Sem.run_pure
def rY:=@if_false
def Uh:=@List.mem_cons_self
def Yl:=@List.snd_lt_of_mem_zipIdx
def aay:=@List.getLast?_eq_getElem?
def aa3:=@Option.isNone_iff_eq_none
def LZ:=@Bool.false_and
def Yt:=@List.getElem?_take_of_lt
def zt:=@Nat.mod_lt
def Tf:=@List.getElem?_set
def TK:=@not_true_eq_false
def aa8:=@Array.size_setIfInBounds
def Ui:=@Nat.dvd_add_right
def Jk:=@Nat.lt_irrefl
def EL:=@Nat.le_succ
def ZG:=@List.length_eq_zero_iff
def TD:=@List.range'_succ
def TI:=@Nat.lt_succ_self
def TQ:=@Nat.le_max_right
def Uj:=@Array.toList_map
def Ze:=@Array.getElem?_eq_none
def qZ:=@if_true
def aab:=@List.modify_succ_cons
def Ti:=@List.find?_cons
def Tn:=@List.range_succ
def aaq:=@Nat.div_lt_iff_lt_mul
def TP:=@Nat.le_max_left
def Z4:=@Array.replicate_succ
def Z5:=@Array.replicate_zero
def aaT:=@List.mem_of_mem_drop
def Jb:=@setRow_heap
def Ju:=@Nat.add_mod
def Jv:=@Nat.mod_mod
def Z7:=@List.append_toArray
def LC:=@Prod.mk.inj
def aaY:=@List.drop_succ_cons
def abe:=@List.zipIdx_map_snd
def abr:=@Array.toList_zipIdx
def abt:=@List.getElem?_range
def DL:=@Array.ext
def Q4:=@DataW.trod_lt
def YO:=@Array.ext_getElem?
def abu:=@Array.foldl_toList
def xK:=@Ne.symm
def xO:=@wp_mono
def QM:=@wpList_plain
def Sj:=@Nat.add_comm
def Tz:=@Nat.mul_comm
def TA:=@Nat.zero_mod
def TR:=@Nat.zero_mul
def Uk:=@Nat.dvd_refl
def Ud:=@Nat.sub_mul
set_option linter.defProp false
open Go Go.RowKit
def bu:=@World.grownBy.refl
def fP:=@IntWalk.i64_in
def vg:=@IntWalk.u8_in
namespace Iv
open Go Go.RowKit
theorem addBlock (a:Addr)(n:Nat):(a.add n).block=a.block:=by unfold Addr.add;by_cases h:n=0<;>simp[h]
def Lies (w:World)(B sz:Nat)(A:Option Addr)(n:Nat)(xs:List Value):Prop:=
 xs.length=n*sz/\(0<n->∃ad,A=some ad/\ad.block<B/\∀j u,xs[j]?=some u->w.cell? (ad.add j)=some u)
section
variable {w w' : World} {B B' sz n : Nat} {A : Option Addr} {xs : List Value}
theorem Lies.nil:Lies w B sz none 0 []:=⟨by simp,λh=>absurd h (by omega)⟩
theorem Lies.cellAt {k:Nat}(h:Lies w B 1 A n xs)(hk:k<n):∃a u,A=some a/\a.block<B/\xs[k]?=some u/\w.cell? (a.add k)=some u:=by obtain⟨a,e,hb,hc⟩:=h.2 (by omega);have d:k<xs.length:=(by have:=h.1;omega);exact⟨a,xs[k],e,hb,bH d,hc k _ (bH d)⟩
theorem Lies.same (h:Lies w B sz A n xs)(hk:∀p:Addr,p.block<B->w'.cell? p=w.cell? p):Lies w' B sz A n xs:=
 ⟨h.1,λhn=>by
  obtain⟨a,e,hb,hc⟩:=h.2 hn
  exact⟨a,e,hb,λj u d=>(hk _ (by rw[addBlock];exact hb)).trans (hc j u d)⟩⟩
theorem Lies.more (h:Lies w B sz A n xs)(hB:B<=B'):Lies w B' sz A n xs:=
 ⟨h.1,λhn=>by
  obtain⟨a,e,hb,hc⟩:=h.2 hn
  exact⟨a,e,by omega,hc⟩⟩
theorem Lies.drew (h:Lies w B sz A n xs):Lies w.drew B sz A n xs:=h
theorem Lies.drewN (h:Lies w B sz A n xs)(k:Nat):Lies (w.drewN k) B sz A n xs:=h
theorem Lies.alloc (h:Lies w B sz A n xs)(hB:B<=w.heap.size)(o:Obj):Lies (w.alloc o) B sz A n xs:=h.same λp a=>EI w o p (by omega)
theorem Lies.grown (h:Lies w B sz A n xs){row:Option Nat}(hg:w.grownBy w' row)(hB:B<=w.heap.size)(hr:∀g,row=some g->B<=g):Lies w' B sz A n xs:=
 h.same λp a=>lY (hg.block p.block (by omega) (λe=>by have:=hr _ e.symm;omega))
end
theorem Lies.take {w:World}{B sz n m:Nat}{A:Option Addr}{xs:List Value}(h:Lies w B sz A n xs)(hm:m<=n):Lies w B sz A m (xs.take (m*sz)):=by
 refine⟨?_,λd=>?_⟩;rw[qE,h.1];exact DJ (mf _ hm)
 . obtain⟨q,e,hb,hc⟩:=h.2 (by omega);refine⟨q,e,hb,λj u a=>hc j u ?_⟩;rw[sV] at a;split at a;exact a
   cases a
theorem Lies.ofOwn {w:World}{base e sz n:Nat}{A:Option Addr}{c:Nat}{xs:List Value}(h:w.ownsRow base e sz (.slice A n c) n xs):Lies w w.heap.size sz A n xs:=by refine⟨h.1,λhn=>?_⟩;obtain⟨g,cap,d,_,a⟩:=h.form hn;injection d with q;subst q;exact⟨_,rfl,a,h.cells (g:=g) rfl⟩
theorem aa9 (a:Addr)(i j:Nat):(a.add i).add j=a.add (i+j):=by unfold Addr.add;by_cases hi:i=0<;>by_cases d:j=0<;>simp[hi,d,nV]
theorem Lies.drop {w:World}{B sz n k:Nat}{A:Option Addr}{xs:List Value}(h:Lies w B sz A n xs)(hk:k<=n):Lies w B sz (A.map λx=>x.add (k*sz)) (n-k) (xs.drop (k*sz)):=by refine⟨by rw[qf,h.1,Ud],λhn=>?_⟩;obtain⟨d,rfl,hb,hc⟩:=h.2 (by omega);refine⟨_,rfl,by rw[addBlock];exact hb,λj u a=>?_⟩;rw[aa9];exact hc _ u (by rw[<-a,Am])
theorem Lies.dropIf {w:World}{B sz n k c:Nat}{A:Option Addr}{xs:List Value}(h:Lies w B sz A n xs)(hk:k<=n)(hnc:n<=c):Lies w B sz (if c=k then A else A.map λx=>x.add (k*sz)) (n-k) (xs.drop (k*sz)):=by by_cases hc:c=k;rw[if_pos hc];exact⟨by rw[qf,h.1,Ud],λhn=>by omega⟩;rw[if_neg hc];exact h.drop hk
theorem ai {w:World}{base e sz n:Nat}{v:Value}{xs:List Value}(h:w.ownsRow base e sz v n xs):
 ∃A c,v= .slice A n c/\n<=c/\c<=maxLen/\Lies w w.heap.size sz A n xs/\(A=none->c=0):=by have h0:=h;rcases h.2 with ⟨rfl,rfl⟩|⟨g,cap,cur,rfl,hb,hg,hnc,hcm,_⟩;have hx:xs=[]:=mi (by simpa using h.1);subst hx;exact⟨none,0,rfl,au _,ay _,Lies.nil,λ_=>rfl⟩;exact⟨_,cap,rfl,hnc,hcm,Lies.ofOwn h0,λe=>by cases e⟩
def App (w:World)(base e sz:Nat)(v:Value)(o:Option Nat)(n:Nat)(xs:List Value):Prop:=
 (w.ownsRow base e sz v n xs/\o=v.ownBlock)\/(∃A B,v= .slice A n n/\Lies w B sz A n xs/\(A=none->n=0)/\o=none)
def At (w:World)(o o':Option Nat):Prop:=o'=o\/∃g,o'=some g/\w.heap.size<=g
theorem App.own {w:World}{base e sz n:Nat}{v:Value}{xs:List Value}(h:w.ownsRow base e sz v n xs):App w base e sz v v.ownBlock n xs:= .inl ⟨h,rfl⟩
theorem App.cut {w:World}{base e sz B n:Nat}{A:Option Addr}{xs:List Value}(h:Lies w B sz A n xs):App w base e sz (.slice A n n) none n xs:=by
 refine .inr ⟨A,B,rfl,h,λe=>?_,rfl⟩;rcases oW n with h0|h0;exact h0
 . obtain⟨a,h1,_⟩:=h.2 h0;rw[e] at h1
   cases h1
theorem eH {w:World}{base base' e sz n:Nat}{v:Value}{xs:List Value}(h:w.ownsRow base e sz v n xs)(hb:base'<=base):w.ownsRow base' e sz v n xs:=by refine⟨h.1,?_⟩;rcases h.2 with h2|⟨g,cap,cur,h1,h2,h3⟩;exact .inl h2;exact .inr ⟨g,cap,cur,h1,aK hb h2,h3⟩
theorem af {a b c:World}{o o':Option Nat}(h:a.grownBy b o)(d:b.grownBy c o')(u:At a o o'):a.grownBy c o:=by refine⟨d.os.trans h.os,d.tape.trans h.tape,d.output.trans h.output,aK h.size d.size,λk hk q=>?_⟩;have h1:=h.block k hk q;refine (d.block k (pF hk h.size) ?_).trans h1;rcases u with rfl|⟨g,rfl,hg⟩;exact q;intro e;injection e with e;omega
theorem At.trans {a b:World}{o o' d:Option Nat}(h:At a o o')(q:At b o' d)(u:a.heap.size<=b.heap.size):At a o d:=by rcases q with rfl|⟨g,rfl,hg⟩;exact h;exact .inr ⟨g,rfl,by omega⟩
theorem At.refl (w:World)(o:Option Nat):At w o o:= .inl rfl
theorem App.alloc {w:World}{base e sz n:Nat}{v:Value}{o:Option Nat}{xs:List Value}(h:App w base e sz v o n xs)(ob:Obj):App (w.alloc ob) base e sz v o n xs:=by rcases h with ⟨h,e⟩|⟨A,B,h1,h2,h3⟩;exact .inl ⟨h.alloc ob,e⟩;refine .inr ⟨A,B,h1,⟨h2.1,λhn=>?_⟩,h3⟩;obtain⟨d,ha,hb,hc⟩:=h2.2 hn;exact⟨d,ha,hb,λj u a=>(EI w ob _ (Hq w _ (hc j u a))).trans (hc j u a)⟩
theorem dG {w w':World}{ob:Obj}{o:Option Nat}(h:(w.alloc ob).grownBy w' o):w.grownBy w' o:=
 af (aV w ob o) h (.inl rfl)
theorem lJ {w w':World}{o:Option Nat}(h:w.drew.grownBy w' o):w.grownBy w' o:=⟨h.os,h.tape,h.output,h.size,h.block⟩
theorem uM {w w':World}{o:Option Nat}{q:Nat}(h:(w.drewN q).grownBy w' o):w.grownBy w' o:=⟨h.os,h.tape,h.output,h.size,h.block⟩
theorem At.drew {w:World}{o o':Option Nat}(h:At w.drew o o'):At w o o':=h
theorem At.drewN {w:World}{o o':Option Nat}{q:Nat}(h:At (w.drewN q) o o'):At w o o':=h
theorem At.alloc {w:World}{ob:Obj}{o o':Option Nat}(h:At (w.alloc ob) o o'):At w o o':=by rcases h with h|⟨g,h,hg⟩;exact .inl h;exact .inr ⟨g,h,by simp at hg;omega⟩
theorem iC (w:World)(u:Value)(e:TypeId):∀j a,[u][j]?=some a->(w.alloc (.cells #[u] e)).cell? ((⟨w.heap.size,0,none⟩:Addr).add j)=some a:=by intro j a h;have d:j=0:=(by have:=(dF.1 h).1;simp at this;exact this);subst d;simp at h;subst h;simp[Addr.add]
theorem Cb {u:Value}(h:u.oneCell'=true):∀x∈ [u],x.oneCell'=true:=by intro x hx;simp at hx;subst hx;exact h
section
variable {P : Program} (w : World)
theorem U7 (base:Nat)(t ty e:TypeId)(i:TypeInfo)(z:Value)(size bytes:Nat)(L:P.underlying t=some (.slice e))(hi:P.info? e=some i)(M:i.zero=some z)
 (q:i.size=size) (G:i.bytes=bytes) (H:z.cells.size=size) (I:0<size)
 (v:Value) (o:Option Nat) (n:Nat) (xs:List Value) (h:App w base e size v o n xs)
 (a:Addr) (m c:Nat) (news:List Value) (hm:0<m) (N:news.length=m*size) (y:∀j u,news[j]?=some u->w.cell? (a.add j)=some u) (h1:∀u∈news,u.oneCell'=true)
 (J:n+m<=maxLen) (d:(n+m)* bytes<=140737488355328) (D:base<=w.heap.size):
 ∃v' w',(Builtin.append_ #[t,t] ty #[v,.slice (some a) m c]).run P w= .ok v' w'/\w'.ownsRow base e size v' (n+m) (xs++news)/\w.grownBy w' o/\At w o v'.ownBlock:=by
 have own:∀v:Value,w.ownsRow base e size v n xs->∃v' w',(Builtin.append_ #[t,t] ty #[v,.slice (some a) m c]).run P w= .ok v' w'/\w'.ownsRow base e size v' (n+m) (xs++news)/\w.grownBy w' v.ownBlock/\At w v.ownBlock v'.ownBlock:=(by intro v E;obtain⟨v',w',hr,h2,h3,_,h5⟩:=run_append_own_at (P:=P) w base t ty e i z size bytes L hi M q G H I v n xs E a m c news N y h1 J d D;refine⟨v',w',hr,h2,h3,?_⟩;rcases h5 with h5|h5;exact .inl h5;exact .inr ⟨_,h5,au _⟩);rcases h with ⟨E,rfl⟩|⟨A,B,rfl,hlies,hA,rfl⟩;exact own v E
 . cases A with
   |
    none=>
    obtain rfl:=hA rfl;have hx:xs=[]:=mi (by simpa using hlies.1);subst hx;exact own _ (dD _ _ _ _)
   |
    some b=>
    have holds:∀j u,xs[j]?=some u->w.cell? (b.add j)=some u:=(by intro j u O;rcases oW n with h0|h0;subst h0;have hx:xs=[]:=mi (by simpa using hlies.1);subst hx;simp at O;obtain⟨R,hb,_,hc⟩:=hlies.2 h0;injection hb with hb;subst hb;exact hc j u O);obtain⟨v',w',hr,h2,h3⟩:=run_append_arg_grows (P:=P) w t ty e i z size bytes L hi M q G H I b n n xs hlies.1 holds a m c news N y (by omega) J d;refine⟨v',w',hr,eH h2 D,h3,?_⟩;have:=h2.lt
    cases hv:v'.ownBlock with
    |none=>exact .inl rfl
    |some g=>exact .inr ⟨g,rfl,(this g hv).1⟩
theorem cZ {ops:Array Oper}{rest:List Oper}{o:Oper}{a:Act}{Q:Exit->Act->World->Prop}(hg:o.guard=none)(s x:Operand)(t:TypeId)
 (E:o.op=Op.call { callee:=Callee.builtin Builtin.append,args:=#[s,x],argTypes:=#[t,t] })
 (base:Nat) (e:TypeId) (i:TypeInfo) (z:Value) (size bytes:Nat) (N:P.underlying t=some (.slice e)) (hi:P.info? e=some i) (O:i.zero=some z)
 (q:i.size=size) (G:i.bytes=bytes) (H:z.cells.size=size) (I:0<size)
 (v:Value) (ow:Option Nat) (n:Nat) (xs:List Value) (hs:a.eval s=v) (h:App w base e size v ow n xs)
 (J:Addr) (m c:Nat) (news:List Value) (hx:a.eval x= .slice (some J) m c) (hm:0<m) (hn:news.length=m*size) (hc:∀j u,news[j]?=some u->w.cell? (J.add j)=some u) (h1:∀u∈news,u.oneCell'=true)
 (L:n+m<=maxLen) (d:(n+m)* bytes<=140737488355328) (y:base<=w.heap.size)
 (R:∀v' w',w'.ownsRow base e size v' (n+m) (xs++news)->w.grownBy w' ow->At w ow v'.ownBlock->wpList P ops Q rest (a.put o.dst v') w'):
 wpList P ops Q (o::rest) a w:=by refine QM hg λK M=>?_;obtain⟨v',w',D,r1,U,V⟩:=U7 (P:=P) w base t o.type e i z size bytes N hi O q G H I v ow n xs h J m c news hm hn hc h1 L d y;unfold Oper.wp;simp[execOp,E,resolve,invoke,builtin,hs,hx,D,Result.andThen];exact M _ _ (R v' w' r1 U V)
end
section
variable {P : Program} (w : World)
theorem PS (base:Nat)(t ty e:TypeId)(i:TypeInfo)(z:Value)(size bytes:Nat)(L:P.underlying t=some (.slice e))(hi:P.info? e=some i)(N:i.zero=some z)
 (q:i.size=size) (D:i.bytes=bytes) (E:z.cells.size=size) (G:0<size)
 (v:Value) (n:Nat) (xs:List Value) (a:w.ownsRow base e size v n xs)
 (B:Nat) (A:Option Addr) (m c:Nat) (news:List Value) (hr:Lies w B size A m news) (ho:A=none->c=0) (h1:∀u∈news,u.oneCell'=true)
 (H:n+m<=maxLen) (d:(n+m)* bytes<=140737488355328) (y:base<=w.heap.size):
 ∃v' w',(Builtin.append_ #[t,t] ty #[v,.slice A m c]).run P w= .ok v' w'/\w'.ownsRow base e size v' (n+m) (xs++news)/\w.grownBy w' v.ownBlock/\At w v.ownBlock v'.ownBlock:=by
 cases A with
 |
  none=>
  have hm:m=0:=by
   rcases oW m with h0|h0;exact h0
   . obtain⟨I,h,_⟩:=hr.2 h0
     cases h
  subst hm;obtain rfl:=ho rfl;have hn:news=[]:=mi (by simpa using hr.1);subst hn;exact⟨v,w,run_append_owned_none (P:=P) (w:=w) base t ty e i size L hi v n xs a,by simpa using a,bu w _,.inl rfl⟩
 |
  some I=>
  have hc:∀j u,news[j]?=some u->w.cell? (I.add j)=some u:=(by intro j u M;rcases oW m with h0|h0;subst h0;have hn:news=[]:=mi (by simpa using hr.1);subst hn;simp at M;obtain⟨O,h,_,hc⟩:=hr.2 h0;injection h with h;subst h;exact hc j u M);obtain⟨v',w',J,h2,h3,_,h5⟩:=run_append_own_at (P:=P) w base t ty e i z size bytes L hi N q D E G v n xs a I m c news hr.1 hc h1 H d y;refine⟨v',w',J,h2,h3,?_⟩;rcases h5 with h5|h5;exact .inl h5;exact .inr ⟨_,h5,au _⟩
theorem dH {ops:Array Oper}{rest:List Oper}{o:Oper}{a:Act}{Q:Exit->Act->World->Prop}(hg:o.guard=none)(s x:Operand)(t:TypeId)
 (G:o.op=Op.call { callee:=Callee.builtin Builtin.append,args:=#[s,x],argTypes:=#[t,t] })
 (base:Nat) (e:TypeId) (i:TypeInfo) (z:Value) (size bytes:Nat) (N:P.underlying t=some (.slice e)) (hi:P.info? e=some i) (O:i.zero=some z)
 (q:i.size=size) (H:i.bytes=bytes) (I:z.cells.size=size) (J:0<size)
 (v:Value) (n:Nat) (xs:List Value) (hs:a.eval s=v) (D:w.ownsRow base e size v n xs)
 (B:Nat) (A:Option Addr) (m c:Nat) (news:List Value) (hx:a.eval x= .slice A m c) (hr:Lies w B size A m news) (ho:A=none->c=0) (h1:∀u∈news,u.oneCell'=true)
 (L:n+m<=maxLen) (d:(n+m)* bytes<=140737488355328) (y:base<=w.heap.size)
 (R:∀v' w',w'.ownsRow base e size v' (n+m) (xs++news)->w.grownBy w' v.ownBlock->At w v.ownBlock v'.ownBlock->wpList P ops Q rest (a.put o.dst v') w'):
 wpList P ops Q (o::rest) a w:=by refine QM hg λK M=>?_;obtain⟨v',w',E,r1,U,V⟩:=PS (P:=P) w base t o.type e i z size bytes N hi O q H I J v n xs D B A m c news hr ho h1 L d y;unfold Oper.wp;simp[execOp,G,resolve,invoke,builtin,hs,hx,E,Result.andThen];exact M _ _ (R v' w' r1 U V)
end
theorem xm (w:World)(base:Nat)(e:TypeId)(sz:Nat)(hb:base<=w.heap.size):(w.alloc (.cells #[] e)).ownsRow base e sz (.slice (some ⟨w.heap.size,0,none⟩) 0 0) 0 []:=
 zn w #[] 0 hb (ay _) (by simp)
theorem Lies.allocAny {w:World}{B sz n:Nat}{A:Option Addr}{xs:List Value}(h:Lies w B sz A n xs)(o:Obj):Lies (w.alloc o) B sz A n xs:=by refine⟨h.1,λhn=>?_⟩;obtain⟨d,ha,hb,hc⟩:=h.2 hn;exact⟨d,ha,hb,λj u a=>(EI w o _ (Hq w _ (hc j u a))).trans (hc j u a)⟩
theorem PT {w w':World}{ob:Obj}{g:Nat}(h:(w.alloc ob).grownBy w' (some g))(hg:w.heap.size<=g)(o:Option Nat):w.grownBy w' o:=by refine⟨h.os,h.tape,h.output,?_,λk hk _=>?_⟩;have:=h.size;simp at this;omega;refine (h.block k (by simp;omega) ?_).trans (zX w ob k hk);intro e;injection e with e;omega
theorem At.ofNew {w:World}{ob:Obj}{g:Nat}{o':Option Nat}(h:At (w.alloc ob) (some g) o')(hg:w.heap.size<=g):At w none o':=by rcases h with rfl|⟨g',rfl,hg'⟩;exact .inr ⟨g,rfl,hg⟩;exact .inr ⟨g',rfl,by simp at hg';omega⟩
def Held (w:World)(g:Nat)(t:TypeId)(cs:Array Value):Prop:=w.heap[g]?=some (.cells cs t (0,0))
section
variable {w w' : World} {g : Nat} {t : TypeId} {cs : Array Value}
theorem Held.lt (h:Held w g t cs):g<w.heap.size:=(jd.1 h).1
theorem Held.cell (h:Held w g t cs)(i:Nat):w.cell? ⟨g,i,none⟩=cs[i]?:=cell_of_row w g i cs t (0,0) h
theorem Held.free (h:Held w g t cs)(i:Nat):w.frozen? ⟨g,i,none⟩=false:=by unfold Held at h;simp[World.frozen?,h]
theorem Held.new (w:World)(t:TypeId)(cs:Array Value):Held (w.alloc (.cells cs t)) w.heap.size t cs:=heap_alloc_new w _
theorem Held.drew (h:Held w g t cs):Held w.drew g t cs:=h
theorem Held.drewN (h:Held w g t cs)(n:Nat):Held (w.drewN n) g t cs:=h
theorem Held.alloc (h:Held w g t cs)(o:Obj):Held (w.alloc o) g t cs:=(zX w o g h.lt).trans h
theorem Held.store (h:Held w g t cs)(i:Nat)(u:Value):Held (w.setCell ⟨g,i,none⟩ u) g t (cs.setIfInBounds i u):=by unfold Held at h|-;simp[World.setCell,SY,h]
theorem Held.far (h:Held w g t cs){p:Addr}(a:g≠p.block)(u:Value):Held (w.setCell p u) g t cs:=(KI w p u g a).trans h
theorem Held.grown {row:Option Nat}(h:Held w g t cs)(hb:w.grownBy w' row)(hg:some g≠row):Held w' g t cs:=(hb.block g h.lt hg).trans h
end
theorem ag (w:World)(g i:Nat)(u:Value):w.grownBy (w.setCell ⟨g,i,none⟩ u) (some g):=
 ⟨rfl,rfl,rfl,by simp[World.setCell],λk hk a=>KI w ⟨g,i,none⟩ u k (λe=>a (by rw[e]))⟩
theorem aj {a b c:World}{o:Option Nat}(h:a.grownBy b o)(d:b.grownBy c o):a.grownBy c o:=af h d (.inl rfl)
theorem aB {a b:World}{o:Option Nat}(h:a.grownBy b o):a.grownBy b.drew o:=⟨h.os,h.tape,h.output,h.size,h.block⟩
theorem aQ {a b:World}{o:Option Nat}(h:a.grownBy b o)(n:Nat):a.grownBy (b.drewN n) o:=⟨h.os,h.tape,h.output,h.size,h.block⟩
