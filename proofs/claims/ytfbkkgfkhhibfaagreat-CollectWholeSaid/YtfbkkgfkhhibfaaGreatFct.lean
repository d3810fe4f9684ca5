/- Words. -/
import Derived.Below
import Derived.Laws.OwnMore
import Derived.Deep.AppendLies
import Derived.Deep.Draws
import Derived.Maps.AppendAt
import Derived.RegionTactic
import Derived.OwnWalk
import Derived.ArgAppend
import Derived.WalkKit
import Derived.Lib.Hide
import Derived.Deep.RegionHeld3
import Derived.StillTail
set_option linter.unusedVariables false
namespace Iv
open Go Go.RowKit
theorem addBlock (a:Addr)(n:Nat):(a.add n).block=a.block:=by
 unfold Addr.add;by_cases h:n=0 <;> simp[h]
def Lies (w:World)(B sz:Nat)(A:Option Addr)(n:Nat)(xs:List Value):Prop:=
 xs.length=n * sz∧(0 < n→∃ad,A=some ad∧ad.block < B∧∀j u,xs[j]?=some u→w.cell? (ad.add j)=some u)
section
variable {w w' : World} {B B' sz n : Nat} {A : Option Addr} {xs : List Value}
theorem Lies.nil:Lies w B sz none 0 []:=⟨by simp,fun h=>absurd h (by omega)⟩
theorem Lies.cellAt {k:Nat}(h:Lies w B 1 A n xs)(hk:k < n):∃ad u,A=some ad∧ad.block < B∧xs[k]?=some u∧w.cell? (ad.add k)=some u:=by
 obtain⟨ad,e,hb,hc⟩:=h.2 (by omega);have hl:k < xs.length:=by have:=h.1;omega
 exact⟨ad,xs[k],e,hb,List.getElem?_eq_getElem hl,hc k _ (List.getElem?_eq_getElem hl)⟩
theorem Lies.same (h:Lies w B sz A n xs)(hk:∀p:Addr,p.block < B→w'.cell? p=w.cell? p):Lies w' B sz A n xs:=
 ⟨h.1,fun hn=>by
  obtain⟨ad,e,hb,hc⟩:=h.2 hn
  exact⟨ad,e,hb,fun j u hu=>(hk _ (by rw[addBlock];exact hb)).trans (hc j u hu)⟩⟩
theorem Lies.more (h:Lies w B sz A n xs)(hB:B≤B'):Lies w B' sz A n xs:=
 ⟨h.1,fun hn=>by
  obtain⟨ad,e,hb,hc⟩:=h.2 hn
  exact⟨ad,e,by omega,hc⟩⟩
theorem Lies.drew (h:Lies w B sz A n xs):Lies w.drew B sz A n xs:=h
theorem Lies.drewN (h:Lies w B sz A n xs)(k:Nat):Lies (w.drewN k) B sz A n xs:=h
theorem Lies.alloc (h:Lies w B sz A n xs)(hB:B≤w.heap.size)(o:Obj):Lies (w.alloc o) B sz A n xs:=h.same fun p hp=>World.cell?_alloc_lt w o p (by omega)
theorem Lies.grown (h:Lies w B sz A n xs){row:Option Nat}(hg:w.grownBy w' row)(hB:B≤w.heap.size)(hr:∀g,row=some g→B≤g):Lies w' B sz A n xs:=
 h.same fun p hp=>World.cell?_of_block (hg.block p.block (by omega) (fun e=>by have:=hr _ e.symm;omega))
end
theorem Lies.take {w:World}{B sz n m:Nat}{A:Option Addr}{xs:List Value}(h:Lies w B sz A n xs)(hm:m≤n):Lies w B sz A m (xs.take (m * sz)):=by
 refine⟨?_,fun hm0=>?_⟩
 · rw[List.length_take,h.1];exact Nat.min_eq_left (Nat.mul_le_mul_right _ hm)
 · obtain⟨ad,e,hb,hc⟩:=h.2 (by omega);refine⟨ad,e,hb,fun j u hu=>hc j u ?_⟩;rw[List.getElem?_take] at hu;split at hu
   · exact hu
   · cases hu
theorem Lies.ofOwn {w:World}{base e sz n:Nat}{A:Option Addr}{c:Nat}{xs:List Value}(h:w.ownsRow base e sz (.slice A n c) n xs):Lies w w.heap.size sz A n xs:=by
 refine⟨h.1,fun hn=>?_⟩;obtain⟨g,cap,hv,_,hlt⟩:=h.form hn;injection hv with hA;subst hA;exact⟨_,rfl,hlt,h.cells (g:=g) rfl⟩
theorem Vj (a:Addr)(i j:Nat):(a.add i).add j=a.add (i+j):=by
 unfold Addr.add;by_cases hi:i=0 <;> by_cases hj:j=0 <;> simp[hi,hj,Nat.add_assoc]
theorem Lies.drop {w:World}{B sz n k:Nat}{A:Option Addr}{xs:List Value}(h:Lies w B sz A n xs)(hk:k≤n):Lies w B sz (A.map fun x=>x.add (k * sz)) (n - k) (xs.drop (k * sz)):=by
 refine⟨by rw[List.length_drop,h.1,Nat.sub_mul],fun hn=>?_⟩;obtain⟨ad,rfl,hb,hc⟩:=h.2 (by omega);refine⟨_,rfl,by rw[addBlock];exact hb,fun j u hu=>?_⟩;rw[Vj];exact hc _ u (by rw[←hu,List.getElem?_drop])
theorem Lies.dropIf {w:World}{B sz n k c:Nat}{A:Option Addr}{xs:List Value}(h:Lies w B sz A n xs)(hk:k≤n)(hnc:n≤c):Lies w B sz (if c=k then A else A.map fun x=>x.add (k * sz)) (n - k) (xs.drop (k * sz)):=by
 by_cases hc:c=k
 · rw[if_pos hc];exact⟨by rw[List.length_drop,h.1,Nat.sub_mul],fun hn=>by omega⟩
 · rw[if_neg hc];exact h.drop hk
theorem aj {w:World}{base e sz n:Nat}{v:Value}{xs:List Value}(h:w.ownsRow base e sz v n xs):
 ∃A c,v= .slice A n c∧n≤c∧c≤maxLen∧Lies w w.heap.size sz A n xs∧(A=none→c=0):=by
 have h0:=h;rcases h.2 with ⟨rfl,rfl⟩ | ⟨g,cap,cur,rfl,hb,hg,hnc,hcm,_⟩
 · have hx:xs= []:=List.eq_nil_of_length_eq_zero (by simpa using h.1);subst hx;exact⟨none,0,rfl,Nat.le_refl _,Nat.zero_le _,Lies.nil,fun _=>rfl⟩
 · exact⟨_,cap,rfl,hnc,hcm,Lies.ofOwn h0,fun e=>by cases e⟩
def App (w:World)(base e sz:Nat)(v:Value)(o:Option Nat)(n:Nat)(xs:List Value):Prop:=
 (w.ownsRow base e sz v n xs∧o=v.ownBlock)∨(∃A B,v= .slice A n n∧Lies w B sz A n xs∧(A=none→n=0)∧o=none)
def At (w:World)(o o':Option Nat):Prop:=o'=o∨∃g,o'=some g∧w.heap.size≤g
theorem App.own {w:World}{base e sz n:Nat}{v:Value}{xs:List Value}(h:w.ownsRow base e sz v n xs):App w base e sz v v.ownBlock n xs:= .inl ⟨h,rfl⟩
theorem App.cut {w:World}{base e sz B n:Nat}{A:Option Addr}{xs:List Value}(h:Lies w B sz A n xs):App w base e sz (.slice A n n) none n xs:=by
 refine .inr ⟨A,B,rfl,h,fun e=>?_,rfl⟩;rcases Nat.eq_zero_or_pos n with h0 | h0
 · exact h0
 · obtain⟨ad,h1,_⟩:=h.2 h0;rw[e] at h1
   cases h1
theorem cZ {w:World}{base base' e sz n:Nat}{v:Value}{xs:List Value}(h:w.ownsRow base e sz v n xs)(hb:base'≤base):w.ownsRow base' e sz v n xs:=by
 refine⟨h.1,?_⟩;rcases h.2 with h2 | ⟨g,cap,cur,h1,h2,h3⟩
 · exact .inl h2
 · exact .inr ⟨g,cap,cur,h1,Nat.le_trans hb h2,h3⟩
theorem af {a b c:World}{o o':Option Nat}(h:a.grownBy b o)(h':b.grownBy c o')(hat:At a o o'):a.grownBy c o:=by
 refine⟨h'.os.trans h.os,h'.tape.trans h.tape,h'.output.trans h.output,Nat.le_trans h.size h'.size,fun k hk hne=>?_⟩;have h1:=h.block k hk hne;refine (h'.block k (Nat.lt_of_lt_of_le hk h.size) ?_).trans h1;rcases hat with rfl | ⟨g,rfl,hg⟩
 · exact hne
 · intro e;injection e with e;omega
theorem At.trans {a b:World}{o o' o'':Option Nat}(h:At a o o')(h':At b o' o'')(hab:a.heap.size≤b.heap.size):At a o o'':=by
 rcases h' with rfl | ⟨g,rfl,hg⟩
 · exact h
 · exact .inr ⟨g,rfl,by omega⟩
theorem At.refl (w:World)(o:Option Nat):At w o o:= .inl rfl
theorem App.alloc {w:World}{base e sz n:Nat}{v:Value}{o:Option Nat}{xs:List Value}(h:App w base e sz v o n xs)(ob:Obj):App (w.alloc ob) base e sz v o n xs:=by
 rcases h with ⟨h,e⟩ | ⟨A,B,h1,h2,h3⟩
 · exact .inl ⟨h.alloc ob,e⟩
 · refine .inr ⟨A,B,h1,⟨h2.1,fun hn=>?_⟩,h3⟩;obtain⟨ad,ha,hb,hc⟩:=h2.2 hn;exact⟨ad,ha,hb,fun j u hu=>(World.cell?_alloc_lt w ob _ (World.block_lt_of_cell? w _ (hc j u hu))).trans (hc j u hu)⟩
theorem bQ {w w':World}{ob:Obj}{o:Option Nat}(h:(w.alloc ob).grownBy w' o):w.grownBy w' o:=
 af (World.grownBy_alloc w ob o) h (.inl rfl)
theorem jw {w w':World}{o:Option Nat}(h:w.drew.grownBy w' o):w.grownBy w' o:=⟨h.os,h.tape,h.output,h.size,h.block⟩
theorem oV {w w':World}{o:Option Nat}{q:Nat}(h:(w.drewN q).grownBy w' o):w.grownBy w' o:=⟨h.os,h.tape,h.output,h.size,h.block⟩
theorem At.drew {w:World}{o o':Option Nat}(h:At w.drew o o'):At w o o':=h
theorem At.drewN {w:World}{o o':Option Nat}{q:Nat}(h:At (w.drewN q) o o'):At w o o':=h
theorem At.alloc {w:World}{ob:Obj}{o o':Option Nat}(h:At (w.alloc ob) o o'):At w o o':=by
 rcases h with h | ⟨g,h,hg⟩
 · exact .inl h
 · exact .inr ⟨g,h,by simp at hg;omega⟩
theorem fM (w:World)(u:Value)(e:TypeId):∀j u',[u][j]?=some u'→(w.alloc (.cells #[u] e)).cell? ((⟨w.heap.size,0,none⟩:Addr).add j)=some u':=by
 intro j u' h
 have hj:j=0:=by
  have:=(List.getElem?_eq_some_iff.1 h).1;simp at this;exact this
 subst hj;simp at h;subst h;simp[Addr.add]
theorem Az {u:Value}(h:u.oneCell'=true):∀x∈ [u],x.oneCell'=true:=by
 intro x hx;simp at hx;subst hx;exact h
section
variable {P : Program} (w : World)
theorem Og (base:Nat)(t ty e:TypeId)(i:TypeInfo)(z:Value)(size bytes:Nat)(ht:P.underlying t=some (.slice e))(hi:P.info? e=some i)(hz:i.zero=some z)
 (hsize:i.size=size) (hby:i.bytes=bytes) (hzs:z.cells.size=size) (hsz:0 < size)
 (v:Value) (o:Option Nat) (n:Nat) (xs:List Value) (h:App w base e size v o n xs)
 (a:Addr) (m c:Nat) (news:List Value) (hm:0 < m) (hl:news.length=m * size) (hnews:∀j u,news[j]?=some u→w.cell? (a.add j)=some u) (h1:∀u∈news,u.oneCell'=true)
 (h63:n+m≤maxLen) (hbytes:(n+m)* bytes≤140737488355328) (hbase:base≤w.heap.size):
 ∃v' w',(Builtin.append_ #[t,t] ty #[v,.slice (some a) m c]).run P w= .ok v' w'∧w'.ownsRow base e size v' (n+m) (xs++news)∧w.grownBy w' o∧At w o v'.ownBlock:=by
 have own:∀v:Value,w.ownsRow base e size v n xs→∃v' w',(Builtin.append_ #[t,t] ty #[v,.slice (some a) m c]).run P w= .ok v' w'∧w'.ownsRow base e size v' (n+m) (xs++news)∧w.grownBy w' v.ownBlock∧At w v.ownBlock v'.ownBlock:=by
  intro v hown;obtain⟨v',w',hr,h2,h3,_,h5⟩:=run_append_own_at (P:=P) w base t ty e i z size bytes ht hi hz hsize hby hzs hsz v n xs hown a m c news hl hnews h1 h63 hbytes hbase;refine⟨v',w',hr,h2,h3,?_⟩;rcases h5 with h5 | h5
  · exact .inl h5
  · exact .inr ⟨_,h5,Nat.le_refl _⟩
 rcases h with ⟨hown,rfl⟩ | ⟨A,B,rfl,hlies,hA,rfl⟩
 · exact own v hown
 · cases A with
   |
    none=>
    obtain rfl:=hA rfl;have hx:xs= []:=List.eq_nil_of_length_eq_zero (by simpa using hlies.1);subst hx;exact own _ (World.ownsRow_nil _ _ _ _)
   |
    some b=>
    have holds:∀j u,xs[j]?=some u→w.cell? (b.add j)=some u:=by
     intro j u hu;rcases Nat.eq_zero_or_pos n with h0 | h0
     · subst h0;have hx:xs= []:=List.eq_nil_of_length_eq_zero (by simpa using hlies.1);subst hx;simp at hu
     · obtain⟨ad,hb,_,hc⟩:=hlies.2 h0;injection hb with hb;subst hb;exact hc j u hu
    obtain⟨v',w',hr,h2,h3⟩:=run_append_arg_grows (P:=P) w t ty e i z size bytes ht hi hz hsize hby hzs hsz b n n xs hlies.1 holds a m c news hl hnews (by omega) h63 hbytes;refine⟨v',w',hr,cZ h2 hbase,h3,?_⟩;have:=h2.lt
    cases hv:v'.ownBlock with
    | none=>exact .inl rfl
    | some g=>exact .inr ⟨g,rfl,(this g hv).1⟩
theorem bP {ops:Array Oper}{rest:List Oper}{o:Oper}{a:Act}{Q:Exit→Act→World→Prop}(hg:o.guard=none)(s x:Operand)(t:TypeId)
 (hop:o.op=Op.call { callee:=Callee.builtin Builtin.append,args:=#[s,x],argTypes:=#[t,t] })
 (base:Nat) (e:TypeId) (i:TypeInfo) (z:Value) (size bytes:Nat) (ht:P.underlying t=some (.slice e)) (hi:P.info? e=some i) (hz:i.zero=some z)
 (hsize:i.size=size) (hby:i.bytes=bytes) (hzs:z.cells.size=size) (hsz:0 < size)
 (v:Value) (ow:Option Nat) (n:Nat) (xs:List Value) (hs:a.eval s=v) (h:App w base e size v ow n xs)
 (ad:Addr) (m c:Nat) (news:List Value) (hx:a.eval x= .slice (some ad) m c) (hm:0 < m) (hn:news.length=m * size) (hc:∀j u,news[j]?=some u→w.cell? (ad.add j)=some u) (h1:∀u∈news,u.oneCell'=true)
 (h63:n+m≤maxLen) (hbytes:(n+m)* bytes≤140737488355328) (hbase:base≤w.heap.size)
 (hK:∀v' w',w'.ownsRow base e size v' (n+m) (xs++news)→w.grownBy w' ow→At w ow v'.ownBlock→wpList P ops Q rest (a.put o.dst v') w'):
 wpList P ops Q (o :: rest) a w:=by
 refine wpList_plain hg fun K hK'=>?_
 obtain⟨v',w',hrun,r1,r2,r3⟩:=Og (P:=P) w base t o.type e i z size bytes ht hi hz hsize hby hzs hsz v ow n xs h ad m c news hm hn hc h1 h63 hbytes hbase;unfold Oper.wp;simp[execOp,hop,resolve,invoke,builtin,hs,hx,hrun,Result.andThen];exact hK' _ _ (hK v' w' r1 r2 r3)
end
section
variable {P : Program} (w : World)
theorem IX (base:Nat)(t ty e:TypeId)(i:TypeInfo)(z:Value)(size bytes:Nat)(ht:P.underlying t=some (.slice e))(hi:P.info? e=some i)(hz:i.zero=some z)
 (hsize:i.size=size) (hby:i.bytes=bytes) (hzs:z.cells.size=size) (hsz:0 < size)
 (v:Value) (n:Nat) (xs:List Value) (hown:w.ownsRow base e size v n xs)
 (B:Nat) (A:Option Addr) (m c:Nat) (news:List Value) (hr:Lies w B size A m news) (ho:A=none→c=0) (h1:∀u∈news,u.oneCell'=true)
 (h63:n+m≤maxLen) (hbytes:(n+m)* bytes≤140737488355328) (hbase:base≤w.heap.size):
 ∃v' w',(Builtin.append_ #[t,t] ty #[v,.slice A m c]).run P w= .ok v' w'∧w'.ownsRow base e size v' (n+m) (xs++news)∧w.grownBy w' v.ownBlock∧At w v.ownBlock v'.ownBlock:=by
 cases A with
 |
  none=>
  have hm:m=0:=by
   rcases Nat.eq_zero_or_pos m with h0 | h0
   · exact h0
   · obtain⟨ad,h,_⟩:=hr.2 h0
     cases h
  subst hm;obtain rfl:=ho rfl;have hn:news= []:=List.eq_nil_of_length_eq_zero (by simpa using hr.1);subst hn;exact⟨v,w,run_append_owned_none (P:=P) (w:=w) base t ty e i size ht hi v n xs hown,by simpa using hown,World.grownBy.refl w _,.inl rfl⟩
 |
  some ad=>
  have hc:∀j u,news[j]?=some u→w.cell? (ad.add j)=some u:=by
   intro j u hu;rcases Nat.eq_zero_or_pos m with h0 | h0
   · subst h0;have hn:news= []:=List.eq_nil_of_length_eq_zero (by simpa using hr.1);subst hn;simp at hu
   · obtain⟨ad',h,_,hc⟩:=hr.2 h0;injection h with h;subst h;exact hc j u hu
  obtain⟨v',w',hr',h2,h3,_,h5⟩:=run_append_own_at (P:=P) w base t ty e i z size bytes ht hi hz hsize hby hzs hsz v n xs hown ad m c news hr.1 hc h1 h63 hbytes hbase;refine⟨v',w',hr',h2,h3,?_⟩;rcases h5 with h5 | h5
  · exact .inl h5
  · exact .inr ⟨_,h5,Nat.le_refl _⟩
theorem bU {ops:Array Oper}{rest:List Oper}{o:Oper}{a:Act}{Q:Exit→Act→World→Prop}(hg:o.guard=none)(s x:Operand)(t:TypeId)
 (hop:o.op=Op.call { callee:=Callee.builtin Builtin.append,args:=#[s,x],argTypes:=#[t,t] })
 (base:Nat) (e:TypeId) (i:TypeInfo) (z:Value) (size bytes:Nat) (ht:P.underlying t=some (.slice e)) (hi:P.info? e=some i) (hz:i.zero=some z)
 (hsize:i.size=size) (hby:i.bytes=bytes) (hzs:z.cells.size=size) (hsz:0 < size)
 (v:Value) (n:Nat) (xs:List Value) (hs:a.eval s=v) (hown:w.ownsRow base e size v n xs)
 (B:Nat) (A:Option Addr) (m c:Nat) (news:List Value) (hx:a.eval x= .slice A m c) (hr:Lies w B size A m news) (ho:A=none→c=0) (h1:∀u∈news,u.oneCell'=true)
 (h63:n+m≤maxLen) (hbytes:(n+m)* bytes≤140737488355328) (hbase:base≤w.heap.size)
 (hK:∀v' w',w'.ownsRow base e size v' (n+m) (xs++news)→w.grownBy w' v.ownBlock→At w v.ownBlock v'.ownBlock→wpList P ops Q rest (a.put o.dst v') w'):
 wpList P ops Q (o :: rest) a w:=by
 refine wpList_plain hg fun K hK'=>?_
 obtain⟨v',w',hrun,r1,r2,r3⟩:=IX (P:=P) w base t o.type e i z size bytes ht hi hz hsize hby hzs hsz v n xs hown B A m c news hr ho h1 h63 hbytes hbase;unfold Oper.wp;simp[execOp,hop,resolve,invoke,builtin,hs,hx,hrun,Result.andThen];exact hK' _ _ (hK v' w' r1 r2 r3)
end
theorem qG (w:World)(base:Nat)(e:TypeId)(sz:Nat)(hb:base≤w.heap.size):(w.alloc (.cells #[] e)).ownsRow base e sz (.slice (some ⟨w.heap.size,0,none⟩) 0 0) 0 []:=
 World.ownsRow_made w #[] 0 hb (Nat.zero_le _) (by simp)
theorem Lies.allocAny {w:World}{B sz n:Nat}{A:Option Addr}{xs:List Value}(h:Lies w B sz A n xs)(o:Obj):Lies (w.alloc o) B sz A n xs:=by
 refine⟨h.1,fun hn=>?_⟩;obtain⟨ad,ha,hb,hc⟩:=h.2 hn;exact⟨ad,ha,hb,fun j u hu=>(World.cell?_alloc_lt w o _ (World.block_lt_of_cell? w _ (hc j u hu))).trans (hc j u hu)⟩
theorem IY {w w':World}{ob:Obj}{g:Nat}(h:(w.alloc ob).grownBy w' (some g))(hg:w.heap.size≤g)(o:Option Nat):w.grownBy w' o:=by
 refine⟨h.os,h.tape,h.output,?_,fun k hk _=>?_⟩
 · have:=h.size;simp at this;omega
 · refine (h.block k (by simp;omega) ?_).trans (Below.heap_alloc w ob k hk);intro e;injection e with e;omega
theorem At.ofNew {w:World}{ob:Obj}{g:Nat}{o':Option Nat}(h:At (w.alloc ob) (some g) o')(hg:w.heap.size≤g):At w none o':=by
 rcases h with rfl | ⟨g',rfl,hg'⟩
 · exact .inr ⟨g,rfl,hg⟩
 · exact .inr ⟨g',rfl,by simp at hg';omega⟩
def Held (w:World)(g:Nat)(t:TypeId)(cs:Array Value):Prop:=w.heap[g]?=some (.cells cs t (0,0))
section
variable {w w' : World} {g : Nat} {t : TypeId} {cs : Array Value}
theorem Held.lt (h:Held w g t cs):g < w.heap.size:=(Array.getElem?_eq_some_iff.1 h).1
theorem Held.cell (h:Held w g t cs)(i:Nat):w.cell? ⟨g,i,none⟩=cs[i]?:=cell_of_row w g i cs t (0,0) h
theorem Held.free (h:Held w g t cs)(i:Nat):w.frozen? ⟨g,i,none⟩=false:=by
 unfold Held at h;simp[World.frozen?,h]
theorem Held.new (w:World)(t:TypeId)(cs:Array Value):Held (w.alloc (.cells cs t)) w.heap.size t cs:=heap_alloc_new w _
theorem Held.drew (h:Held w g t cs):Held w.drew g t cs:=h
theorem Held.drewN (h:Held w g t cs)(n:Nat):Held (w.drewN n) g t cs:=h
theorem Held.alloc (h:Held w g t cs)(o:Obj):Held (w.alloc o) g t cs:=(Below.heap_alloc w o g h.lt).trans h
theorem Held.store (h:Held w g t cs)(i:Nat)(u:Value):Held (w.setCell ⟨g,i,none⟩ u) g t (cs.setIfInBounds i u):=by
 unfold Held at h⊢;simp[World.setCell,Array.getElem?_modify,h]
theorem Held.far (h:Held w g t cs){p:Addr}(hp:g≠p.block)(u:Value):Held (w.setCell p u) g t cs:=(Below.heap_setCell w p u g hp).trans h
theorem Held.grown {row:Option Nat}(h:Held w g t cs)(hb:w.grownBy w' row)(hg:some g≠row):Held w' g t cs:=(hb.block g h.lt hg).trans h
end
theorem ah (w:World)(g i:Nat)(u:Value):w.grownBy (w.setCell ⟨g,i,none⟩ u) (some g):=
 ⟨rfl,rfl,rfl,by simp[World.setCell],fun k hk hne=>Below.heap_setCell w ⟨g,i,none⟩ u k (fun e=>hne (by rw[e]))⟩
theorem ax {a b c:World}{o:Option Nat}(h:a.grownBy b o)(h':b.grownBy c o):a.grownBy c o:=af h h' (.inl rfl)
theorem aI {a b:World}{o:Option Nat}(h:a.grownBy b o):a.grownBy b.drew o:=⟨h.os,h.tape,h.output,h.size,h.block⟩
theorem aH {a b:World}{o:Option Nat}(h:a.grownBy b o)(n:Nat):a.grownBy (b.drewN n) o:=⟨h.os,h.tape,h.output,h.size,h.block⟩
end Iv
namespace Iv
open Go
section
variable {P : Program} {ops : Array Oper} {Q : Exit → Act → World → Prop} {md : Region.Mode} {S : World → Prop} {z : Nat}
def iD (P:Program)(md:Region.Mode)(ops:Array Oper)(Q:Exit→Act→World→Prop)(S:World→Prop)(z:Nat):Nat→Array Bool→Act→World→Prop
 | 0,listed,a,w=>Region.ready md ops listed= []∧Q .normal a w
 |
  fuel+1,listed,a,w=>
  (Region.ready md ops listed= []→Q .normal a w)∧
  ∀i∈Region.ready md ops listed,wpOp P ops Q i (fun a' w'=>(i≠z→S w')∧iD P md ops Q S z fuel (listed.setIfInBounds i true) a' w') a w
theorem yO:∀(fuel:Nat) (listed:Array Bool) (a:Act) (w:World),iD P md ops Q S z fuel listed a w→wpAny P md ops Q fuel listed a w
 | 0,_,_,_,h=>h
 | fuel+1,_,_,_,h=>⟨h.1,fun i hi=>wpOp_mono (fun a' w' h'=>yO fuel _ a' w' h'.2) (h.2 i hi)⟩
theorem Es {i:Nat}{oi:Oper}{v:Value}(hi:ops[i]?=some oi)(hsel:∀(j:Nat) (o:Oper) cs b,ops[j]?=some o→o.op≠ .select cs b)
 (hQ:∀c a w,Q (.panic c) (a.put oi.dst v) w→Q (.panic c) a w) (hzw:Region.waitsFor md ops z i=true):
 ∀(fuel:Nat) (listed:Array Bool) (a:Act) (w:World),
  (∀j oj,ops[j]?=some oj→j≠i→listed.getD j true=false→(∀e∈oj.after,Region.binds md e=true→e.on≠i)→oi.apart ops oj=true)→
  i∈Region.ready md ops listed→YieldsIf P ops S oi v a→S w→
  iD P md ops Q S z fuel (listed.setIfInBounds i true) (a.put oi.dst v) w→iD P md ops Q S z (fuel+1) listed a w:=by
 intro fuel;induction fuel with
 |
  zero=>
  intro listed a w _ hr hy hS H;refine⟨fun h=>(by rw[h] at hr;cases hr),fun j hj=>?_⟩;by_cases hji:j=i
  · subst hji;exact hy.wpOp hi hS ⟨fun _=>hS,H⟩
  · have:=ready_mono hj hji;rw[H.1] at this
    cases this
 |
  succ fuel ih=>
  intro listed a w hfree hr hy hS H;refine⟨fun h=>(by rw[h] at hr;cases hr),fun j hj=>?_⟩;by_cases hji:j=i
  · subst hji;exact hy.wpOp hi hS ⟨fun _=>hS,H⟩
  · have h1:=H.2 j (ready_mono hj hji);obtain⟨hjun,oj,hoj,hall⟩:=mem_ready.1 hj
    have hnot:∀e∈oj.after,Region.binds md e=true→e.on≠i:=fun e he hb heq=>by
     have h1:=hall e he hb;have h0:=(mem_ready.1 hr).1;rw[heq] at h1;rcases Nat.lt_or_ge i listed.size with h' | h'
     · simp[h'] at h0 h1;rw[h0] at h1;cases h1
     · simp[Array.getElem?_eq_none h'] at h1
    have hjz:j≠z:=by
     rintro rfl;obtain⟨oz,hoz,e,he,hb,hon⟩:=Region.waitsFor_spec hzw;have:oz=oj:=Option.some.inj (hoz.symm.trans hoj);subst this;exact hnot e he hb hon
    have h2:=wpOp_putIf hoj (hfree j oj hoj hji hjun hnot) (fun cs b=>hsel i oi cs b hi) (fun cs b=>hsel j oj cs b hoj) hQ hy h1
    have hfree':∀k ok,ops[k]?=some ok→k≠i→(listed.setIfInBounds j true).getD k true=false→
     (∀e∈ok.after,Region.binds md e=true→e.on≠i)→oi.apart ops ok=true:=fun k ok hk hki hun hno=>by
     refine hfree k ok hk hki ?_ hno;by_cases hjk:j=k
     · subst hjk;exact hjun
     · rw[getD_set_ne true hjk] at hun;exact hun
    refine wpOp_mono (fun a' w' h3=>⟨fun _=>h3.2.1 hjz,ih (listed.setIfInBounds j true) a' w' hfree' (ready_mono hr (Ne.symm hji)) h3.1 (h3.2.1 hjz) ?_⟩) h2;rw[Array.setIfInBounds_comm _ _ hji];exact h3.2.2
theorem aA {i:Nat}{oi:Oper}{v:Value}{fuel:Nat}{listed:Array Bool}{a:Act}{w:World}(hi:ops[i]?=some oi)
 (hs:Region.noSelect ops=true) (hf:Region.free md ops listed i=true) (hr:(Region.ready md ops listed).contains i=true) (hz:Region.waitsFor md ops z i=true)
 (hQ:∀c a w,Q (.panic c) (a.put oi.dst v) w→Q (.panic c) a w) (hy:YieldsIf P ops S oi v a) (hS:S w)
 (h:iD P md ops Q S z fuel (listed.setIfInBounds i true) (a.put oi.dst v) w):iD P md ops Q S z (fuel+1) listed a w:=
 Es hi (Region.noSelect_spec hs) hQ hz fuel listed a w (Region.free_spec hi hf) (by simpa using hr) hy hS h
theorem dK {i:Nat}{o:Oper}{fuel:Nat}{listed:Array Bool}{a:Act}{w:World}(hr:Region.ready md ops listed= [i])(ho:ops[i]?=some o)
 (h:∀K':Act→World→Prop,Shut (∀a w,S w→(S w→iD P md ops Q S z fuel (listed.setIfInBounds i true) a w)→K' a w)→if Region.wanted o (yielded ops a.tmps)=true then Oper.wp P o a w K' Q else K' (a.put o.dst undef) w):
 iD P md ops Q S z (fuel+1) listed a w:=by
 refine⟨fun h0=>(by rw[hr] at h0;cases h0),fun j hj=>?_⟩;rw[hr] at hj;obtain rfl:j=i:=by simpa using hj
 exact wpOp_step ho (fun K' hK=>h K' (fun a w hS hW=>hK a w ⟨fun _=>hS,hW hS⟩))
theorem vM {o:Oper}{fuel:Nat}{listed:Array Bool}{a:Act}{w:World}(hr:Region.ready md ops listed= [z])(ho:ops[z]?=some o)
 (h:∀K':Act→World→Prop,Shut (∀a w,iD P md ops Q S z fuel (listed.setIfInBounds z true) a w→K' a w)→if Region.wanted o (yielded ops a.tmps)=true then Oper.wp P o a w K' Q else K' (a.put o.dst undef) w):
 iD P md ops Q S z (fuel+1) listed a w:=by
 refine⟨fun h0=>(by rw[hr] at h0;cases h0),fun j hj=>?_⟩;rw[hr] at hj;obtain rfl:j=z:=by simpa using hj
 exact wpOp_step ho (fun K' hK=>h K' (fun a w hW=>hK a w ⟨fun h0=>absurd rfl h0,hW⟩))
theorem pg {listed:Array Bool}{a:Act}{w:World}(hr:Region.ready md ops listed= [])(h:Q .normal a w):
 ∀fuel,iD P md ops Q S z fuel listed a w
 | 0=>⟨hr,h⟩
 | _+1=>⟨fun _=>h,by rw[hr];simp⟩
theorem pq {id:Nat}{a:Act}{w:World}(hm:P.follows .mixedOrders=true)(hS:S w.drew)
 (h:S w.drew→iD P .any ops Q S z ops.size (Array.replicate ops.size false) a w.drew):(Code.region id ops true).wp P Q a w:=
 wp_region_any hm (yO _ _ _ _ (h hS))
end
section
variable {P : Program} {ops : Array Oper} {Q : Exit → Act → World → Prop} {md : Region.Mode} {S : World → Prop} {z : Nat}
end
section
variable {P : Program} {ops : Array Oper} {Q : Exit → Act → World → Prop} {md : Region.Mode} {S : World → Prop} {z : Nat}
def dstOf (ops:Array Oper)(i:Nat):Option Tmp:=(ops[i]?).bind (·.dst)
theorem Ya {a:Array Bool}{j:Nat}(h:a.getD j true=false):a.getD j false=false:=by
 rcases Nat.lt_or_ge j a.size with h' | h'
 · simp[h'] at h⊢;exact h
 · simp[Array.getElem?_eq_none h'] at h
def agf (md:Region.Mode)(ops:Array Oper)(listed:Array Bool)(rem:List Nat)(D:Nat→List Nat)(z:Nat):Bool:=
 (List.range ops.size).all (fun j=>listed.getD j true || rem.contains j || j==z) &&
 rem.all (fun i=>!listed.getD i true && i !=z &&((ops[z]?).isNone || Region.waitsFor md ops z i)) &&
 decide rem.Nodup && Region.noSelect ops &&
 rem.all (fun i=>match ops[i]? with
  | none=>false
  |
   some o=>(D i).all (fun k=>rem.contains k && o.after.any (fun e=>Region.binds md e && e.on==k)) && !(D i).contains i &&
   rem.all (fun k=>k==i || ((D i).contains k || (match dstOf ops k with | none=>true | some d=>!(o.looksAt ops).contains d)) &&(match dstOf ops k with | none=>true | some d=>dstOf ops i !=some d))) &&
 (List.range rem.length).all (fun p=>match rem[p]? with
  | none=>true
  |
   some i=>match ops[i]? with
   | none=>false
   | some o=>o.after.all (fun e=>!Region.binds md e || listed.getD e.on false || (rem.take p).contains e.on))
structure ChkF (md:Region.Mode)(ops:Array Oper)(listed:Array Bool)(rem:List Nat)(D:Nat→List Nat)(z:Nat):Prop where
 all:∀j,j < ops.size→listed.getD j true=true∨j∈rem∨j=z
 un:∀i∈rem,listed.getD i true=false∧i≠z∧(ops[z]?=none∨Region.waitsFor md ops z i=true)
 nodup:rem.Nodup
 noSel:Region.noSelect ops=true
 op:∀i∈rem,∃o,ops[i]?=some o∧(∀k∈D i,k∈rem∧∃e∈o.after,Region.binds md e=true∧e.on=k)∧i∉D i∧
  ∀k∈rem,k≠i→(k∈D i∨∀d,dstOf ops k=some d→d∉o.looksAt ops)∧∀d,dstOf ops k=some d→dstOf ops i≠some d
 top:∀(p i:Nat) (o:Oper),rem[p]?=some i→ops[i]?=some o→∀e∈o.after,Region.binds md e=true→listed.getD e.on false=true∨e.on∈rem.take p
theorem adm {listed:Array Bool}{rem:List Nat}{D:Nat→List Nat}(h:agf md ops listed rem D z=true):ChkF md ops listed rem D z:=by
 unfold agf at h;simp only[Bool.and_eq_true] at h;obtain⟨⟨⟨⟨⟨h1,h2⟩,h3⟩,h4⟩,h5⟩,h6⟩:=h;refine⟨fun j hj=>?_,fun i hi=>?_,by simpa using h3,h4,fun i hi=>?_,fun p i o hp ho e he hb=>?_⟩
 · have:=List.all_eq_true.1 h1 j (List.mem_range.2 hj);simp only[Bool.or_eq_true,List.contains_iff_mem,beq_iff_eq] at this;rcases this with (h | h) | h
   · exact .inl h
   · exact .inr (.inl h)
   · exact .inr (.inr h)
 · have:=List.all_eq_true.1 h2 i hi;simp only[Bool.and_eq_true,Bool.not_eq_true',bne_iff_ne,Bool.or_eq_true,Option.isNone_iff_eq_none] at this;exact⟨this.1.1,this.1.2,this.2⟩
 · have:=List.all_eq_true.1 h5 i hi
   cases ho:ops[i]? with
   | none=>rw [ho] at this;simp at this
   |
    some o=>
    rw[ho] at this;simp only[Bool.and_eq_true,Bool.not_eq_true'] at this;obtain⟨⟨g1,g2⟩,g3⟩:=this;refine⟨o,rfl,fun k hk=>?_,by simpa using g2,fun k hk hne=>?_⟩
    · have q:=List.all_eq_true.1 g1 k hk;simp only[Bool.and_eq_true,List.contains_iff_mem] at q;obtain⟨e,he,hb⟩:=Array.any_eq_true'.1 q.2;simp only[Bool.and_eq_true,beq_iff_eq] at hb;exact⟨q.1,e,he,hb.1,hb.2⟩
    · have q:=List.all_eq_true.1 g3 k hk;simp only[Bool.or_eq_true,beq_iff_eq,hne,false_or,Bool.and_eq_true,List.contains_iff_mem] at q;refine⟨q.1.imp id (fun h d hd=>?_),fun d hd=>?_⟩
      · rw[hd] at h;simpa using h
      · have:=q.2;rw[hd] at this;simpa using this
 · have hp2:=(List.getElem?_eq_some_iff.1 hp).1;have:=List.all_eq_true.1 h6 p (List.mem_range.2 hp2);rw[hp] at this;simp only[ho] at this;have q:=Array.all_eq_true_iff_forall_mem.1 this e he;simp only[Bool.or_eq_true,Bool.not_eq_true',hb,Bool.true_eq_false,false_or,List.contains_iff_mem] at q;exact q
def okT (md:Region.Mode)(ops:Array Oper)(listed:Array Bool)(z i:Nat):Bool:=
 Region.noSelect ops && Region.free md ops listed i &&(Region.ready md ops listed).contains i &&((ops[z]?).isNone || Region.waitsFor md ops z i)
theorem Bg {i:Nat}{oi:Oper}{v:Value}(hi:ops[i]?=some oi)(hsel:∀(j:Nat) (o:Oper) cs b,ops[j]?=some o→o.op≠ .select cs b)
 (hQ:∀c a w,Q (.panic c) (a.put oi.dst v) w→Q (.panic c) a w) (hzw:ops[z]?=none):
 ∀(fuel:Nat) (listed:Array Bool) (a:Act) (w:World),
  (∀j oj,ops[j]?=some oj→j≠i→listed.getD j true=false→(∀e∈oj.after,Region.binds md e=true→e.on≠i)→oi.apart ops oj=true)→
  i∈Region.ready md ops listed→YieldsIf P ops S oi v a→S w→
  iD P md ops Q S z fuel (listed.setIfInBounds i true) (a.put oi.dst v) w→iD P md ops Q S z (fuel+1) listed a w:=by
 intro fuel;induction fuel with
 |
  zero=>
  intro listed a w _ hr hy hS H;refine⟨fun h=>(by rw[h] at hr;cases hr),fun j hj=>?_⟩;by_cases hji:j=i
  · subst hji;exact hy.wpOp hi hS ⟨fun _=>hS,H⟩
  · have:=ready_mono hj hji;rw[H.1] at this
    cases this
 |
  succ fuel ih=>
  intro listed a w hfree hr hy hS H;refine⟨fun h=>(by rw[h] at hr;cases hr),fun j hj=>?_⟩;by_cases hji:j=i
  · subst hji;exact hy.wpOp hi hS ⟨fun _=>hS,H⟩
  · have h1:=H.2 j (ready_mono hj hji);obtain⟨hjun,oj,hoj,hall⟩:=mem_ready.1 hj
    have hnot:∀e∈oj.after,Region.binds md e=true→e.on≠i:=fun e he hb heq=>by
     have h1:=hall e he hb;have h0:=(mem_ready.1 hr).1;rw[heq] at h1;rw[Ya h0] at h1
     cases h1
    have hjz:j≠z:=by
     rintro rfl;rw[hoj] at hzw
     cases hzw
    have h2:=wpOp_putIf hoj (hfree j oj hoj hji hjun hnot) (fun cs b=>hsel i oi cs b hi) (fun cs b=>hsel j oj cs b hoj) hQ hy h1
    have hfree':∀k ok,ops[k]?=some ok→k≠i→(listed.setIfInBounds j true).getD k true=false→
     (∀e∈ok.after,Region.binds md e=true→e.on≠i)→oi.apart ops ok=true:=fun k ok hk hki hun hno=>by
     refine hfree k ok hk hki ?_ hno;by_cases hjk:j=k
     · subst hjk;exact hjun
     · rw[getD_set_ne true hjk] at hun;exact hun
    refine wpOp_mono (fun a' w' h3=>⟨fun _=>h3.2.1 hjz,ih (listed.setIfInBounds j true) a' w' hfree' (ready_mono hr (Ne.symm hji)) h3.1 (h3.2.1 hjz) ?_⟩) h2;rw[Array.setIfInBounds_comm _ _ hji];exact h3.2.2
theorem lJ {i:Nat}{oi:Oper}{v:Value}{fuel:Nat}{listed:Array Bool}{a:Act}{w:World}(hok:okT md ops listed z i=true)(hi:ops[i]?=some oi)
 (hQ:∀c a w,Q (.panic c) (a.put oi.dst v) w→Q (.panic c) a w) (hy:YieldsIf P ops S oi v a) (hS:S w)
 (h:iD P md ops Q S z fuel (listed.setIfInBounds i true) (a.put oi.dst v) w):iD P md ops Q S z (fuel+1) listed a w:=by
 unfold okT at hok;simp only[Bool.and_eq_true,Bool.or_eq_true,Option.isNone_iff_eq_none] at hok;obtain⟨⟨⟨h1,h2⟩,h3⟩,h4⟩:=hok;rcases h4 with h4 | h4
 · exact Bg hi (Region.noSelect_spec h1) hQ h4 fuel listed a w (Region.free_spec hi h2) (by simpa using h3) hy hS h
 · exact aA hi h1 h2 h3 h4 hQ hy hS h
end
