/- Words. -/
import Derived.Test.YtfbkkgfkhhibfaaGreatProg
import Derived.Test.YtfbkkgfkhhibfaaGreatPl
import Derived.Below
import Derived.Laws.OwnMore
import Derived.Deep.AppendLies
import Derived.Deep.Draws
import Derived.Maps.AppendAt
import Derived.RegionTactic
import Derived.OwnWalk
import Derived.ArgAppend
import Derived.WalkKit
import Derived.Lib.Hide
import Derived.WalkLawsBesides
import Derived.WalkSpells
import Derived.Deep.QuietTactic
import Derived.BigQuiet
import Derived.Deep.DeepFit
import Derived.Laws.StructEq
import Derived.ProofKit
import Derived.OpenShut
import Derived.ChangeOld
set_option linter.unusedVariables false
namespace Iv
open Go Go.RowKit
theorem addBlock (a:Addr)(n:Nat):(a.add n).block=a.block:=by
 unfold Addr.add;by_cases h:n=0 <;> simp[h]
def Lies (w:World)(B sz:Nat)(A:Option Addr)(n:Nat)(xs:List Value):Prop:=
 xs.length=n * sz∧(0 < n→∃ad,A=some ad∧ad.block < B∧∀j u,xs[j]?=some u→w.cell? (ad.add j)=some u)
section
variable {w w' : World} {B B' sz n : Nat} {A : Option Addr} {xs : List Value}
theorem Lies.nil:Lies w B sz none 0 []:=⟨by simp,fun h=>absurd h (by omega)⟩
theorem Lies.cellAt {k:Nat}(h:Lies w B 1 A n xs)(hk:k < n):∃ad u,A=some ad∧ad.block < B∧xs[k]?=some u∧w.cell? (ad.add k)=some u:=by
 obtain⟨ad,e,hb,hc⟩:=h.2 (by omega);have hl:k < xs.length:=by have:=h.1;omega
 exact⟨ad,xs[k],e,hb,List.getElem?_eq_getElem hl,hc k _ (List.getElem?_eq_getElem hl)⟩
theorem Lies.same (h:Lies w B sz A n xs)(hk:∀p:Addr,p.block < B→w'.cell? p=w.cell? p):Lies w' B sz A n xs:=
 ⟨h.1,fun hn=>by
  obtain⟨ad,e,hb,hc⟩:=h.2 hn
  exact⟨ad,e,hb,fun j u hu=>(hk _ (by rw[addBlock];exact hb)).trans (hc j u hu)⟩⟩
theorem Lies.more (h:Lies w B sz A n xs)(hB:B≤B'):Lies w B' sz A n xs:=
 ⟨h.1,fun hn=>by
  obtain⟨ad,e,hb,hc⟩:=h.2 hn
  exact⟨ad,e,by omega,hc⟩⟩
theorem Lies.drew (h:Lies w B sz A n xs):Lies w.drew B sz A n xs:=h
theorem Lies.drewN (h:Lies w B sz A n xs)(k:Nat):Lies (w.drewN k) B sz A n xs:=h
theorem Lies.alloc (h:Lies w B sz A n xs)(hB:B≤w.heap.size)(o:Obj):Lies (w.alloc o) B sz A n xs:=h.same fun p hp=>World.cell?_alloc_lt w o p (by omega)
theorem Lies.grown (h:Lies w B sz A n xs){row:Option Nat}(hg:w.grownBy w' row)(hB:B≤w.heap.size)(hr:∀g,row=some g→B≤g):Lies w' B sz A n xs:=
 h.same fun p hp=>World.cell?_of_block (hg.block p.block (by omega) (fun e=>by have:=hr _ e.symm;omega))
end
theorem Lies.take {w:World}{B sz n m:Nat}{A:Option Addr}{xs:List Value}(h:Lies w B sz A n xs)(hm:m≤n):Lies w B sz A m (xs.take (m * sz)):=by
 refine⟨?_,fun hm0=>?_⟩
 · rw[List.length_take,h.1];exact Nat.min_eq_left (Nat.mul_le_mul_right _ hm)
 · obtain⟨ad,e,hb,hc⟩:=h.2 (by omega);refine⟨ad,e,hb,fun j u hu=>hc j u ?_⟩;rw[List.getElem?_take] at hu;split at hu
   · exact hu
   · cases hu
theorem Lies.ofOwn {w:World}{base e sz n:Nat}{A:Option Addr}{c:Nat}{xs:List Value}(h:w.ownsRow base e sz (.slice A n c) n xs):Lies w w.heap.size sz A n xs:=by
 refine⟨h.1,fun hn=>?_⟩;obtain⟨g,cap,hv,_,hlt⟩:=h.form hn;injection hv with hA;subst hA;exact⟨_,rfl,hlt,h.cells (g:=g) rfl⟩
theorem UZ (a:Addr)(i j:Nat):(a.add i).add j=a.add (i+j):=by
 unfold Addr.add;by_cases hi:i=0 <;> by_cases hj:j=0 <;> simp[hi,hj,Nat.add_assoc]
theorem Lies.drop {w:World}{B sz n k:Nat}{A:Option Addr}{xs:List Value}(h:Lies w B sz A n xs)(hk:k≤n):Lies w B sz (A.map fun x=>x.add (k * sz)) (n - k) (xs.drop (k * sz)):=by
 refine⟨by rw[List.length_drop,h.1,Nat.sub_mul],fun hn=>?_⟩;obtain⟨ad,rfl,hb,hc⟩:=h.2 (by omega);refine⟨_,rfl,by rw[addBlock];exact hb,fun j u hu=>?_⟩;rw[UZ];exact hc _ u (by rw[←hu,List.getElem?_drop])
theorem Lies.dropIf {w:World}{B sz n k c:Nat}{A:Option Addr}{xs:List Value}(h:Lies w B sz A n xs)(hk:k≤n)(hnc:n≤c):Lies w B sz (if c=k then A else A.map fun x=>x.add (k * sz)) (n - k) (xs.drop (k * sz)):=by
 by_cases hc:c=k
 · rw[if_pos hc];exact⟨by rw[List.length_drop,h.1,Nat.sub_mul],fun hn=>by omega⟩
 · rw[if_neg hc];exact h.drop hk
theorem aj {w:World}{base e sz n:Nat}{v:Value}{xs:List Value}(h:w.ownsRow base e sz v n xs):
 ∃A c,v= .slice A n c∧n≤c∧c≤maxLen∧Lies w w.heap.size sz A n xs∧(A=none→c=0):=by
 have h0:=h;rcases h.2 with ⟨rfl,rfl⟩ | ⟨g,cap,cur,rfl,hb,hg,hnc,hcm,_⟩
 · have hx:xs= []:=List.eq_nil_of_length_eq_zero (by simpa using h.1);subst hx;exact⟨none,0,rfl,Nat.le_refl _,Nat.zero_le _,Lies.nil,fun _=>rfl⟩
 · exact⟨_,cap,rfl,hnc,hcm,Lies.ofOwn h0,fun e=>by cases e⟩
def App (w:World)(base e sz:Nat)(v:Value)(o:Option Nat)(n:Nat)(xs:List Value):Prop:=
 (w.ownsRow base e sz v n xs∧o=v.ownBlock)∨(∃A B,v= .slice A n n∧Lies w B sz A n xs∧(A=none→n=0)∧o=none)
def At (w:World)(o o':Option Nat):Prop:=o'=o∨∃g,o'=some g∧w.heap.size≤g
theorem App.own {w:World}{base e sz n:Nat}{v:Value}{xs:List Value}(h:w.ownsRow base e sz v n xs):App w base e sz v v.ownBlock n xs:= .inl ⟨h,rfl⟩
theorem App.cut {w:World}{base e sz B n:Nat}{A:Option Addr}{xs:List Value}(h:Lies w B sz A n xs):App w base e sz (.slice A n n) none n xs:=by
 refine .inr ⟨A,B,rfl,h,fun e=>?_,rfl⟩;rcases Nat.eq_zero_or_pos n with h0 | h0
 · exact h0
 · obtain⟨ad,h1,_⟩:=h.2 h0;rw[e] at h1
   cases h1
theorem bW {w:World}{base base' e sz n:Nat}{v:Value}{xs:List Value}(h:w.ownsRow base e sz v n xs)(hb:base'≤base):w.ownsRow base' e sz v n xs:=by
 refine⟨h.1,?_⟩;rcases h.2 with h2 | ⟨g,cap,cur,h1,h2,h3⟩
 · exact .inl h2
 · exact .inr ⟨g,cap,cur,h1,Nat.le_trans hb h2,h3⟩
theorem af {a b c:World}{o o':Option Nat}(h:a.grownBy b o)(h':b.grownBy c o')(hat:At a o o'):a.grownBy c o:=by
 refine⟨h'.os.trans h.os,h'.tape.trans h.tape,h'.output.trans h.output,Nat.le_trans h.size h'.size,fun k hk hne=>?_⟩;have h1:=h.block k hk hne;refine (h'.block k (Nat.lt_of_lt_of_le hk h.size) ?_).trans h1;rcases hat with rfl | ⟨g,rfl,hg⟩
 · exact hne
 · intro e;injection e with e;omega
theorem At.trans {a b:World}{o o' o'':Option Nat}(h:At a o o')(h':At b o' o'')(hab:a.heap.size≤b.heap.size):At a o o'':=by
 rcases h' with rfl | ⟨g,rfl,hg⟩
 · exact h
 · exact .inr ⟨g,rfl,by omega⟩
theorem At.refl (w:World)(o:Option Nat):At w o o:= .inl rfl
theorem App.alloc {w:World}{base e sz n:Nat}{v:Value}{o:Option Nat}{xs:List Value}(h:App w base e sz v o n xs)(ob:Obj):App (w.alloc ob) base e sz v o n xs:=by
 rcases h with ⟨h,e⟩ | ⟨A,B,h1,h2,h3⟩
 · exact .inl ⟨h.alloc ob,e⟩
 · refine .inr ⟨A,B,h1,⟨h2.1,fun hn=>?_⟩,h3⟩;obtain⟨ad,ha,hb,hc⟩:=h2.2 hn;exact⟨ad,ha,hb,fun j u hu=>(World.cell?_alloc_lt w ob _ (World.block_lt_of_cell? w _ (hc j u hu))).trans (hc j u hu)⟩
theorem bM {w w':World}{ob:Obj}{o:Option Nat}(h:(w.alloc ob).grownBy w' o):w.grownBy w' o:=
 af (World.grownBy_alloc w ob o) h (.inl rfl)
theorem jr {w w':World}{o:Option Nat}(h:w.drew.grownBy w' o):w.grownBy w' o:=⟨h.os,h.tape,h.output,h.size,h.block⟩
theorem oP {w w':World}{o:Option Nat}{q:Nat}(h:(w.drewN q).grownBy w' o):w.grownBy w' o:=⟨h.os,h.tape,h.output,h.size,h.block⟩
theorem At.drew {w:World}{o o':Option Nat}(h:At w.drew o o'):At w o o':=h
theorem At.drewN {w:World}{o o':Option Nat}{q:Nat}(h:At (w.drewN q) o o'):At w o o':=h
theorem At.alloc {w:World}{ob:Obj}{o o':Option Nat}(h:At (w.alloc ob) o o'):At w o o':=by
 rcases h with h | ⟨g,h,hg⟩
 · exact .inl h
 · exact .inr ⟨g,h,by simp at hg;omega⟩
theorem fK (w:World)(u:Value)(e:TypeId):∀j u',[u][j]?=some u'→(w.alloc (.cells #[u] e)).cell? ((⟨w.heap.size,0,none⟩:Addr).add j)=some u':=by
 intro j u' h
 have hj:j=0:=by
  have:=(List.getElem?_eq_some_iff.1 h).1;simp at this;exact this
 subst hj;simp at h;subst h;simp[Addr.add]
theorem Am {u:Value}(h:u.oneCell'=true):∀x∈ [u],x.oneCell'=true:=by
 intro x hx;simp at hx;subst hx;exact h
section
variable {P : Program} (w : World)
theorem NR (base:Nat)(t ty e:TypeId)(i:TypeInfo)(z:Value)(size bytes:Nat)(ht:P.underlying t=some (.slice e))(hi:P.info? e=some i)(hz:i.zero=some z)
 (hsize:i.size=size) (hby:i.bytes=bytes) (hzs:z.cells.size=size) (hsz:0 < size)
 (v:Value) (o:Option Nat) (n:Nat) (xs:List Value) (h:App w base e size v o n xs)
 (a:Addr) (m c:Nat) (news:List Value) (hm:0 < m) (hl:news.length=m * size) (hnews:∀j u,news[j]?=some u→w.cell? (a.add j)=some u) (h1:∀u∈news,u.oneCell'=true)
 (h63:n+m≤maxLen) (hbytes:(n+m)* bytes≤140737488355328) (hbase:base≤w.heap.size):
 ∃v' w',(Builtin.append_ #[t,t] ty #[v,.slice (some a) m c]).run P w= .ok v' w'∧w'.ownsRow base e size v' (n+m) (xs++news)∧w.grownBy w' o∧At w o v'.ownBlock:=by
 have own:∀v:Value,w.ownsRow base e size v n xs→∃v' w',(Builtin.append_ #[t,t] ty #[v,.slice (some a) m c]).run P w= .ok v' w'∧w'.ownsRow base e size v' (n+m) (xs++news)∧w.grownBy w' v.ownBlock∧At w v.ownBlock v'.ownBlock:=by
  intro v hown;obtain⟨v',w',hr,h2,h3,_,h5⟩:=run_append_own_at (P:=P) w base t ty e i z size bytes ht hi hz hsize hby hzs hsz v n xs hown a m c news hl hnews h1 h63 hbytes hbase;refine⟨v',w',hr,h2,h3,?_⟩;rcases h5 with h5 | h5
  · exact .inl h5
  · exact .inr ⟨_,h5,Nat.le_refl _⟩
 rcases h with ⟨hown,rfl⟩ | ⟨A,B,rfl,hlies,hA,rfl⟩
 · exact own v hown
 · cases A with
   |
    none=>
    obtain rfl:=hA rfl;have hx:xs= []:=List.eq_nil_of_length_eq_zero (by simpa using hlies.1);subst hx;exact own _ (World.ownsRow_nil _ _ _ _)
   |
    some b=>
    have holds:∀j u,xs[j]?=some u→w.cell? (b.add j)=some u:=by
     intro j u hu;rcases Nat.eq_zero_or_pos n with h0 | h0
     · subst h0;have hx:xs= []:=List.eq_nil_of_length_eq_zero (by simpa using hlies.1);subst hx;simp at hu
     · obtain⟨ad,hb,_,hc⟩:=hlies.2 h0;injection hb with hb;subst hb;exact hc j u hu
    obtain⟨v',w',hr,h2,h3⟩:=run_append_arg_grows (P:=P) w t ty e i z size bytes ht hi hz hsize hby hzs hsz b n n xs hlies.1 holds a m c news hl hnews (by omega) h63 hbytes;refine⟨v',w',hr,bW h2 hbase,h3,?_⟩;have:=h2.lt
    cases hv:v'.ownBlock with
    | none=>exact .inl rfl
    | some g=>exact .inr ⟨g,rfl,(this g hv).1⟩
theorem bK {ops:Array Oper}{rest:List Oper}{o:Oper}{a:Act}{Q:Exit→Act→World→Prop}(hg:o.guard=none)(s x:Operand)(t:TypeId)
 (hop:o.op=Op.call { callee:=Callee.builtin Builtin.append,args:=#[s,x],argTypes:=#[t,t] })
 (base:Nat) (e:TypeId) (i:TypeInfo) (z:Value) (size bytes:Nat) (ht:P.underlying t=some (.slice e)) (hi:P.info? e=some i) (hz:i.zero=some z)
 (hsize:i.size=size) (hby:i.bytes=bytes) (hzs:z.cells.size=size) (hsz:0 < size)
 (v:Value) (ow:Option Nat) (n:Nat) (xs:List Value) (hs:a.eval s=v) (h:App w base e size v ow n xs)
 (ad:Addr) (m c:Nat) (news:List Value) (hx:a.eval x= .slice (some ad) m c) (hm:0 < m) (hn:news.length=m * size) (hc:∀j u,news[j]?=some u→w.cell? (ad.add j)=some u) (h1:∀u∈news,u.oneCell'=true)
 (h63:n+m≤maxLen) (hbytes:(n+m)* bytes≤140737488355328) (hbase:base≤w.heap.size)
 (hK:∀v' w',w'.ownsRow base e size v' (n+m) (xs++news)→w.grownBy w' ow→At w ow v'.ownBlock→wpList P ops Q rest (a.put o.dst v') w'):
 wpList P ops Q (o :: rest) a w:=by
 refine wpList_plain hg fun K hK'=>?_
 obtain⟨v',w',hrun,r1,r2,r3⟩:=NR (P:=P) w base t o.type e i z size bytes ht hi hz hsize hby hzs hsz v ow n xs h ad m c news hm hn hc h1 h63 hbytes hbase;unfold Oper.wp;simp[execOp,hop,resolve,invoke,builtin,hs,hx,hrun,Result.andThen];exact hK' _ _ (hK v' w' r1 r2 r3)
end
section
variable {P : Program} (w : World)
theorem IG (base:Nat)(t ty e:TypeId)(i:TypeInfo)(z:Value)(size bytes:Nat)(ht:P.underlying t=some (.slice e))(hi:P.info? e=some i)(hz:i.zero=some z)
 (hsize:i.size=size) (hby:i.bytes=bytes) (hzs:z.cells.size=size) (hsz:0 < size)
 (v:Value) (n:Nat) (xs:List Value) (hown:w.ownsRow base e size v n xs)
 (B:Nat) (A:Option Addr) (m c:Nat) (news:List Value) (hr:Lies w B size A m news) (ho:A=none→c=0) (h1:∀u∈news,u.oneCell'=true)
 (h63:n+m≤maxLen) (hbytes:(n+m)* bytes≤140737488355328) (hbase:base≤w.heap.size):
 ∃v' w',(Builtin.append_ #[t,t] ty #[v,.slice A m c]).run P w= .ok v' w'∧w'.ownsRow base e size v' (n+m) (xs++news)∧w.grownBy w' v.ownBlock∧At w v.ownBlock v'.ownBlock:=by
 cases A with
 |
  none=>
  have hm:m=0:=by
   rcases Nat.eq_zero_or_pos m with h0 | h0
   · exact h0
   · obtain⟨ad,h,_⟩:=hr.2 h0
     cases h
  subst hm;obtain rfl:=ho rfl;have hn:news= []:=List.eq_nil_of_length_eq_zero (by simpa using hr.1);subst hn;exact⟨v,w,run_append_owned_none (P:=P) (w:=w) base t ty e i size ht hi v n xs hown,by simpa using hown,World.grownBy.refl w _,.inl rfl⟩
 |
  some ad=>
  have hc:∀j u,news[j]?=some u→w.cell? (ad.add j)=some u:=by
   intro j u hu;rcases Nat.eq_zero_or_pos m with h0 | h0
   · subst h0;have hn:news= []:=List.eq_nil_of_length_eq_zero (by simpa using hr.1);subst hn;simp at hu
   · obtain⟨ad',h,_,hc⟩:=hr.2 h0;injection h with h;subst h;exact hc j u hu
  obtain⟨v',w',hr',h2,h3,_,h5⟩:=run_append_own_at (P:=P) w base t ty e i z size bytes ht hi hz hsize hby hzs hsz v n xs hown ad m c news hr.1 hc h1 h63 hbytes hbase;refine⟨v',w',hr',h2,h3,?_⟩;rcases h5 with h5 | h5
  · exact .inl h5
  · exact .inr ⟨_,h5,Nat.le_refl _⟩
theorem bP {ops:Array Oper}{rest:List Oper}{o:Oper}{a:Act}{Q:Exit→Act→World→Prop}(hg:o.guard=none)(s x:Operand)(t:TypeId)
 (hop:o.op=Op.call { callee:=Callee.builtin Builtin.append,args:=#[s,x],argTypes:=#[t,t] })
 (base:Nat) (e:TypeId) (i:TypeInfo) (z:Value) (size bytes:Nat) (ht:P.underlying t=some (.slice e)) (hi:P.info? e=some i) (hz:i.zero=some z)
 (hsize:i.size=size) (hby:i.bytes=bytes) (hzs:z.cells.size=size) (hsz:0 < size)
 (v:Value) (n:Nat) (xs:List Value) (hs:a.eval s=v) (hown:w.ownsRow base e size v n xs)
 (B:Nat) (A:Option Addr) (m c:Nat) (news:List Value) (hx:a.eval x= .slice A m c) (hr:Lies w B size A m news) (ho:A=none→c=0) (h1:∀u∈news,u.oneCell'=true)
 (h63:n+m≤maxLen) (hbytes:(n+m)* bytes≤140737488355328) (hbase:base≤w.heap.size)
 (hK:∀v' w',w'.ownsRow base e size v' (n+m) (xs++news)→w.grownBy w' v.ownBlock→At w v.ownBlock v'.ownBlock→wpList P ops Q rest (a.put o.dst v') w'):
 wpList P ops Q (o :: rest) a w:=by
 refine wpList_plain hg fun K hK'=>?_
 obtain⟨v',w',hrun,r1,r2,r3⟩:=IG (P:=P) w base t o.type e i z size bytes ht hi hz hsize hby hzs hsz v n xs hown B A m c news hr ho h1 h63 hbytes hbase;unfold Oper.wp;simp[execOp,hop,resolve,invoke,builtin,hs,hx,hrun,Result.andThen];exact hK' _ _ (hK v' w' r1 r2 r3)
end
theorem qw (w:World)(base:Nat)(e:TypeId)(sz:Nat)(hb:base≤w.heap.size):(w.alloc (.cells #[] e)).ownsRow base e sz (.slice (some ⟨w.heap.size,0,none⟩) 0 0) 0 []:=
 World.ownsRow_made w #[] 0 hb (Nat.zero_le _) (by simp)
theorem Lies.allocAny {w:World}{B sz n:Nat}{A:Option Addr}{xs:List Value}(h:Lies w B sz A n xs)(o:Obj):Lies (w.alloc o) B sz A n xs:=by
 refine⟨h.1,fun hn=>?_⟩;obtain⟨ad,ha,hb,hc⟩:=h.2 hn;exact⟨ad,ha,hb,fun j u hu=>(World.cell?_alloc_lt w o _ (World.block_lt_of_cell? w _ (hc j u hu))).trans (hc j u hu)⟩
theorem II {w w':World}{ob:Obj}{g:Nat}(h:(w.alloc ob).grownBy w' (some g))(hg:w.heap.size≤g)(o:Option Nat):w.grownBy w' o:=by
 refine⟨h.os,h.tape,h.output,?_,fun k hk _=>?_⟩
 · have:=h.size;simp at this;omega
 · refine (h.block k (by simp;omega) ?_).trans (Below.heap_alloc w ob k hk);intro e;injection e with e;omega
theorem At.ofNew {w:World}{ob:Obj}{g:Nat}{o':Option Nat}(h:At (w.alloc ob) (some g) o')(hg:w.heap.size≤g):At w none o':=by
 rcases h with rfl | ⟨g',rfl,hg'⟩
 · exact .inr ⟨g,rfl,hg⟩
 · exact .inr ⟨g',rfl,by simp at hg';omega⟩
def Held (w:World)(g:Nat)(t:TypeId)(cs:Array Value):Prop:=w.heap[g]?=some (.cells cs t (0,0))
section
variable {w w' : World} {g : Nat} {t : TypeId} {cs : Array Value}
theorem Held.lt (h:Held w g t cs):g < w.heap.size:=(Array.getElem?_eq_some_iff.1 h).1
theorem Held.cell (h:Held w g t cs)(i:Nat):w.cell? ⟨g,i,none⟩=cs[i]?:=cell_of_row w g i cs t (0,0) h
theorem Held.free (h:Held w g t cs)(i:Nat):w.frozen? ⟨g,i,none⟩=false:=by
 unfold Held at h;simp[World.frozen?,h]
theorem Held.new (w:World)(t:TypeId)(cs:Array Value):Held (w.alloc (.cells cs t)) w.heap.size t cs:=heap_alloc_new w _
theorem Held.drew (h:Held w g t cs):Held w.drew g t cs:=h
theorem Held.drewN (h:Held w g t cs)(n:Nat):Held (w.drewN n) g t cs:=h
theorem Held.alloc (h:Held w g t cs)(o:Obj):Held (w.alloc o) g t cs:=(Below.heap_alloc w o g h.lt).trans h
theorem Held.store (h:Held w g t cs)(i:Nat)(u:Value):Held (w.setCell ⟨g,i,none⟩ u) g t (cs.setIfInBounds i u):=by
 unfold Held at h⊢;simp[World.setCell,Array.getElem?_modify,h]
theorem Held.far (h:Held w g t cs){p:Addr}(hp:g≠p.block)(u:Value):Held (w.setCell p u) g t cs:=(Below.heap_setCell w p u g hp).trans h
theorem Held.grown {row:Option Nat}(h:Held w g t cs)(hb:w.grownBy w' row)(hg:some g≠row):Held w' g t cs:=(hb.block g h.lt hg).trans h
end
theorem ah (w:World)(g i:Nat)(u:Value):w.grownBy (w.setCell ⟨g,i,none⟩ u) (some g):=
 ⟨rfl,rfl,rfl,by simp[World.setCell],fun k hk hne=>Below.heap_setCell w ⟨g,i,none⟩ u k (fun e=>hne (by rw[e]))⟩
theorem ax {a b c:World}{o:Option Nat}(h:a.grownBy b o)(h':b.grownBy c o):a.grownBy c o:=af h h' (.inl rfl)
theorem aN {a b:World}{o:Option Nat}(h:a.grownBy b o):a.grownBy b.drew o:=⟨h.os,h.tape,h.output,h.size,h.block⟩
theorem aH {a b:World}{o:Option Nat}(h:a.grownBy b o)(n:Nat):a.grownBy (b.drewN n) o:=⟨h.os,h.tape,h.output,h.size,h.block⟩
def bv (b:UInt8):Value:= .int .u8 (b.toNat:Int)
def iv (n:Int):Value:= .int .i64 n
theorem mG {α:Type}{xs:List α}{k:Nat}{x:α}(h:xs[k]?=some x):xs.take (k+1)=xs.take k++ [x]:=by
 obtain⟨hl,rfl⟩:=List.getElem?_eq_some_iff.1 h;exact List.take_succ_eq_append_getElem hl
theorem dB {a b:Bool}(h:a=b):Ending.returned (.bool a)= .returned (.bool b):=by rw[h]
theorem bg {k:IntKind}{a b:Int}(h:a=b):Ending.returned (.int k a)= .returned (.int k b):=by rw[h]
theorem lN (l:Bytes):∀u∈l.map bv,u.oneCell'=true:=by
 intro u hu;obtain⟨b,_,rfl⟩:=List.mem_map.1 hu;rfl
theorem Lies.byte {w:World}{B n k:Nat}{A:Option Addr}{xs:Bytes}(h:Lies w B 1 A n (xs.map bv))(hk:k < n):
 ∃ad x,A=some ad∧ad.block < B∧xs[k]?=some x∧w.cell? (ad.add k)=some (.int .u8 (x.toNat:Int)):=by
 obtain⟨ad,u,rfl,hb,hx,hc⟩:=h.cellAt hk;simp only[List.getElem?_map,Option.map_eq_some_iff] at hx;obtain⟨x,hx,rfl⟩:=hx;exact⟨ad,x,rfl,hb,hx,hc⟩
theorem Lies.int {w:World}{B n k:Nat}{A:Option Addr}{xs:List Int}(h:Lies w B 1 A n (xs.map iv))(hk:k < n):
 ∃ad x,A=some ad∧ad.block < B∧xs[k]?=some x∧w.cell? (ad.add k)=some (.int .i64 x):=by
 obtain⟨ad,u,rfl,hb,hx,hc⟩:=h.cellAt hk;simp only[List.getElem?_map,Option.map_eq_some_iff] at hx;obtain⟨x,hx,rfl⟩:=hx;exact⟨ad,x,rfl,hb,hx,hc⟩
theorem Lies.lenB {w:World}{B n:Nat}{A:Option Addr}{xs:Bytes}(h:Lies w B 1 A n (xs.map bv)):xs.length=n:=by simpa using h.1
theorem Lies.lenI {w:World}{B n:Nat}{A:Option Addr}{xs:List Int}(h:Lies w B 1 A n (xs.map iv)):xs.length=n:=by simpa using h.1
end Iv
namespace Go.Proofs.YtfbkkgfkhhibfaaGreat
open Go
theorem jF:(Tryz.prog.info? 5).map (fun i=>(i.zero,i.size,i.bytes))=some (some (.int .u8 0),1,1):=by kernel_rfl
theorem yJ:(Tryz.prog.info? 3).map (fun i=>(i.zero,i.size,i.bytes))=some (some (.int .i64 0),1,8):=by kernel_rfl
end Go.Proofs.YtfbkkgfkhhibfaaGreat
namespace Iv
open Go Go.RowKit
theorem ay {w w':World}{base e sz n:Nat}{row:Option Nat}{v:Value}{xs:List Value}(h:w.ownsRow base e sz v n xs)(hg:w.grownBy w' row)(hne:∀g,v.ownBlock=some g→row≠some g):w'.ownsRow base e sz v n xs:=by
 refine⟨h.1,?_⟩;rcases h.2 with h2 | ⟨b,cap,cur,rfl,hb,hh,h3⟩
 · exact .inl h2
 · refine .inr ⟨b,cap,cur,rfl,hb,?_,h3⟩;exact (hg.block b (Array.getElem?_eq_some_iff.1 hh).1 (fun e=>hne b rfl e.symm)).trans hh
section
variable {P : Program} (w : World)
theorem pX {ops:Array Oper}{o:Oper}{a:Act}{K:Act→World→Prop}{Q:Exit→Act→World→Prop}{E:Prop}(hg:o.guard=none)(s x:Operand)(t:TypeId)
 (hop:o.op=Op.call { callee:=Callee.builtin Builtin.append,args:=#[s,x],argTypes:=#[t,t] })
 (base:Nat) (e:TypeId) (i:TypeInfo) (z:Value) (size bytes:Nat) (ht:P.underlying t=some (.slice e)) (hi:P.info? e=some i) (hz:i.zero=some z)
 (hsize:i.size=size) (hby:i.bytes=bytes) (hzs:z.cells.size=size) (hsz:0 < size)
 (v:Value) (n:Nat) (xs:List Value) (hs:a.eval s=v) (hown:w.ownsRow base e size v n xs)
 (B:Nat) (A:Option Addr) (m c:Nat) (news:List Value) (hx:a.eval x= .slice A m c) (hr:Lies w B size A m news) (ho:A=none→c=0) (h1:∀u∈news,u.oneCell'=true)
 (h63:n+m≤maxLen) (hbytes:(n+m)* bytes≤140737488355328) (hbase:base≤w.heap.size)
 (hK:∀v' w',w'.ownsRow base e size v' (n+m) (xs++news)→w.grownBy w' v.ownBlock→At w v.ownBlock v'.ownBlock→K (a.put o.dst v') w'):
 if Region.wanted o (yielded ops a.tmps)=true then Oper.wp P o a w K Q else E:=by
 have hw:Region.wanted o (yielded ops a.tmps)=true:=by simp[Region.wanted,hg]
 rw[if_pos hw];obtain⟨v',w',hrun,r1,r2,r3⟩:=IG (P:=P) w base t o.type e i z size bytes ht hi hz hsize hby hzs hsz v n xs hown B A m c news hr ho h1 h63 hbytes hbase;unfold Oper.wp;simp[execOp,hop,resolve,invoke,builtin,hs,hx,hrun,Result.andThen];exact hK _ _ r1 r2 r3
end
section
variable {P : Program} (w : World)
end
theorem BO (w:World)(u u2:Value)(e:TypeId):∀j u',[u,u2][j]?=some u'→(w.alloc (.cells #[u,u2] e)).cell? ((⟨w.heap.size,0,none⟩:Addr).add j)=some u':=by
 intro j u' h;have hj:j < 2:=(List.getElem?_eq_some_iff.1 h).1;rcases (show j=0∨j=1 by omega) with rfl | rfl
 · simp at h;subst h;simp[Addr.add]
 · simp at h;subst h;simp[Addr.add]
theorem adW {u u2:Value}(h:u.oneCell'=true)(h2:u2.oneCell'=true):∀x∈ [u,u2],x.oneCell'=true:=by
 intro x hx;simp at hx;rcases hx with rfl | rfl
 · exact h
 · exact h2
def Ak (p:Bytes):Bytes:=if 0 < p.length then UInt8.ofNat (p.length - 1) :: p else []
theorem Hr {b:Bytes}{f e:Nat}(hf:f≤e)(he:e≤b.length):Ak ((b.take e).drop f)=lit b f e:=by
 unfold Ak lit;have hl:((b.take e).drop f).length=e - f:=by simp;omega
 rw[hl];by_cases h:f < e
 · rw[if_pos (by omega),if_pos h]
 · rw[if_neg (by omega),if_neg h]
theorem Pj {b:Bytes}{f i:Nat}{x:UInt8}(hf:f≤i)(hx:b[i]?=some x):(b.take (i+1)).drop f=(b.take i).drop f++ [x]:=by
 have hl:i < b.length:=(List.getElem?_eq_some_iff.1 hx).1;rw[mG hx,List.drop_append_of_le_length (by simp;omega)]
def Apart (v p:Value):Prop:=∀g,v.ownBlock=some g→p.ownBlock≠some g
theorem Apart.nil (v:Value):Apart v (.slice none 0 0):=fun g _ h=>nomatch h
theorem Apart.symm {v p:Value}(h:Apart v p):Apart p v:=fun g h1 h2=>h g h2 h1
theorem Apart.step {w:World}{base e sz n:Nat}{xs:List Value}{v p v':Value}(h:Apart v p)(hp:w.ownsRow base e sz p n xs)(hat:At w v.ownBlock v'.ownBlock):Apart v' p:=by
 intro g h1 h2;have hlt:=(hp.lt g h2).2;rcases hat with h3 | ⟨g',h3,h4⟩
 · exact h g (h3▸h1) h2
 · rw[h1] at h3;injection h3 with h3;omega
theorem qK {w w':World}{base e sz n:Nat}{xs:List Value}{v p:Value}(h:Apart v p)(hp:w.ownsRow base e sz p n xs)(hg:w.grownBy w' v.ownBlock):w'.ownsRow base e sz p n xs:=
 ay hp hg fun g h1 h2=>h g h2 h1
structure PkInv (ts ti te:TypeId)(w:World)(gb go gf base:Nat)(A:Option Addr)(n c f:Nat)(ys:Bytes)(v:Value)(wr:World):Prop where
 hb:Held wr gb ts #[.slice A n c]
 ho:Held wr go ts #[v]
 hf:Held wr gf ti #[.int .i64 (f:Int)]
 own:wr.ownsRow base te 1 v ys.length (ys.map bv)
 grown:w.grownBy wr none
 lo:w.heap.size≤gb∧w.heap.size≤go∧w.heap.size≤gf
 hi:gb < base∧go < base∧gf < base
 ne:gb≠go∧gb≠gf∧go≠gf
section
variable {ts ti te : TypeId} {w wr w1 : World} {gb go gf base n c f : Nat} {A : Option Addr} {ys zs : Bytes} {v v1 : Value}
theorem PkInv.drewN (h:PkInv ts ti te w gb go gf base A n c f ys v wr)(q:Nat):PkInv ts ti te w gb go gf base A n c f ys v (wr.drewN q):=
 ⟨h.hb.drewN q,h.ho.drewN q,h.hf.drewN q,ay h.own (aH (World.grownBy.refl wr none) q) (fun g _ e=>nomatch e),aH h.grown q,h.lo,h.hi,h.ne⟩
theorem PkInv.drew (h:PkInv ts ti te w gb go gf base A n c f ys v wr):PkInv ts ti te w gb go gf base A n c f ys v wr.drew:=
 ⟨h.hb.drew,h.ho.drew,h.hf.drew,ay h.own (aN (World.grownBy.refl wr none)) (fun g _ e=>nomatch e),aN h.grown,h.lo,h.hi,h.ne⟩
theorem PkInv.push (h:PkInv ts ti te w gb go gf base A n c f ys v wr)(hown:w1.ownsRow base te 1 v1 zs.length (zs.map bv))(hg:wr.grownBy w1 v.ownBlock):
 PkInv ts ti te w gb go gf base A n c f zs v1 (w1.setCell ⟨go,0,none⟩ v1):=by
 have hv:∀g,v.ownBlock=some g→base≤g:=fun g e=>(h.own.lt g e).1
 have hv1:∀g,v1.ownBlock=some g→base≤g:=fun g e=>(hown.lt g e).1
 have ne1:∀b,b < base→some b≠v.ownBlock:=fun b hb e=>by have:=hv b e.symm;omega
 obtain⟨l1,l2,l3⟩:=h.lo;obtain⟨i1,i2,i3⟩:=h.hi;obtain⟨n1,n2,n3⟩:=h.ne;refine⟨(h.hb.grown hg (ne1 _ i1)).far (fun e=>n1 e) v1,?_,(h.hf.grown hg (ne1 _ i3)).far (fun e=>n3 e.symm) v1,?_,?_,h.lo,h.hi,h.ne⟩
 · have:=(h.ho.grown hg (ne1 _ i2)).store 0 v1;simpa using this
 · exact ay hown (ah w1 go 0 v1) (fun g e e'=>by have:=hv1 g e;injection e' with e';omega)
 · refine⟨hg.os.trans h.grown.os,hg.tape.trans h.grown.tape,hg.output.trans h.grown.output,?_,fun k hk hne=>?_⟩
   · have:=hg.size;have:=h.grown.size;simp[World.setCell];omega
   · refine ((ah w1 go 0 v1).block k ?_ (fun e=>by injection e with e;omega)).trans ((hg.block k (Nat.lt_of_lt_of_le hk h.grown.size) (ne1 k (by omega))).trans (h.grown.block k hk hne));have:=hg.size;have:=h.grown.size;omega
theorem PkInv.seen (h:PkInv ts ti te w gb go gf base A n c f ys v wr)(hg:wr.grownBy w1 v.ownBlock):
 w1.cell? ⟨gb,0,none⟩=some (.slice A n c)∧w1.cell? ⟨go,0,none⟩=some v∧w1.cell? ⟨gf,0,none⟩=some (.int .i64 (f:Int))∧w1.frozen? ⟨go,0,none⟩=false∧w1.frozen? ⟨gf,0,none⟩=false:=by
 have hv:∀g,v.ownBlock=some g→base≤g:=fun g e=>(h.own.lt g e).1
 have ne1:∀b,b < base→some b≠v.ownBlock:=fun b hb e=>by have:=hv b e.symm;omega
 obtain⟨i1,i2,i3⟩:=h.hi;have a1:=h.hb.grown hg (ne1 _ i1);have a2:=h.ho.grown hg (ne1 _ i2);have a3:=h.hf.grown hg (ne1 _ i3);exact⟨a1.cell 0,a2.cell 0,a3.cell 0,a2.free 0,a3.free 0⟩
theorem PkInv.cells (h:PkInv ts ti te w gb go gf base A n c f ys v wr):
 wr.cell? ⟨gb,0,none⟩=some (.slice A n c)∧wr.cell? ⟨go,0,none⟩=some v∧wr.cell? ⟨gf,0,none⟩=some (.int .i64 (f:Int))∧wr.frozen? ⟨go,0,none⟩=false∧wr.frozen? ⟨gf,0,none⟩=false:=
 h.seen (World.grownBy.refl wr _)
theorem PkInv.first (h:PkInv ts ti te w gb go gf base A n c f ys v wr)(e:Nat):PkInv ts ti te w gb go gf base A n c e ys v (wr.setCell ⟨gf,0,none⟩ (.int .i64 (e:Int))):=by
 obtain⟨l1,l2,l3⟩:=h.lo;obtain⟨i1,i2,i3⟩:=h.hi;obtain⟨n1,n2,n3⟩:=h.ne;refine⟨h.hb.far (fun e=>n2 e) _,h.ho.far (fun e=>n3 e) _,?_,ay h.own (ah wr gf 0 _) (fun g e e'=>by have:=(h.own.lt g e).1;injection e' with e';omega),?_,h.lo,h.hi,h.ne⟩
 · have:=h.hf.store 0 (.int .i64 (e:Int));simpa using this
 · exact af h.grown (ah wr gf 0 _) (.inr ⟨gf,rfl,l3⟩)
end
structure UnAt (te:TypeId)(w:World)(base:Nat)(most:Int)(xs:Bytes)(k:Nat)(ys:Bytes)(v:Value)(wr:World):Prop where
 own:wr.ownsRow base te 1 v ys.length (ys.map bv)
 grown:w.grownBy wr none
 at_:At w none v.ownBlock
 len:ys.length≤130 * k
 room:ys= []∨(ys.length:Int)≤most
 eq:unp most (xs.drop k) ys=unpack xs most
theorem drop_cons {xs:Bytes}{k:Nat}{x:UInt8}(hx:xs[k]?=some x):xs.drop k=x :: xs.drop (k+1):=by
 obtain⟨hl,hx'⟩:=List.getElem?_eq_some_iff.1 hx;rw[List.drop_eq_getElem_cons hl,hx']
section
variable {te : TypeId} {w wr w1 : World} {base k : Nat} {most : Int} {xs ys zs : Bytes} {v v1 : Value}
theorem UnAt.start (te:TypeId)(w:World)(base:Nat)(most:Int)(xs:Bytes):UnAt te w base most xs 0 [] (.slice none 0 0) w:=
 ⟨World.ownsRow_nil _ _ _ _,World.grownBy.refl w none,.inl rfl,Nat.zero_le _,.inl rfl,rfl⟩
theorem UnAt.done (h:UnAt te w base most xs k ys v wr)(hk:xs.length≤k):unpack xs most=(ys,0):=by
 have:=h.eq;rw[List.drop_eq_nil_of_le hk,Dx] at this;exact this.symm
theorem UnAt.lit {x:UInt8}(h:UnAt te w base most xs k ys v wr)(hx:xs[k]?=some x)(h7:x.toNat < 128):
 unpack xs most=if xs.length - (k+1) < x.toNat+1 then ([],9) else if most < (ys.length:Int)+x.toNat+1 then ([],2) else unp most (xs.drop (k+x.toNat+2)) (ys++(xs.drop (k+1)).take (x.toNat+1)):=by
 rw[←h.eq,drop_cons hx,Dy h7,List.length_drop,List.drop_drop];rw[show k+1+(x.toNat+1)=k+x.toNat+2 from by omega]
theorem UnAt.litNext {x:UInt8}(h:UnAt te w base most xs k ys v wr)(hx:xs[k]?=some x)(h7:x.toNat < 128)(h1:k+x.toNat+2≤xs.length)(h2:(ys.length:Int)+x.toNat+1≤most)
 (hown:w1.ownsRow base te 1 v1 (ys.length+(x.toNat+1)) (ys.map bv++((xs.drop (k+1)).take (x.toNat+1)).map bv)) (hg:wr.grownBy w1 v.ownBlock) (hat:At wr v.ownBlock v1.ownBlock):
 UnAt te w base most xs (k+x.toNat+2) (ys++(xs.drop (k+1)).take (x.toNat+1)) v1 w1:=by
 have hl:(ys++(xs.drop (k+1)).take (x.toNat+1)).length=ys.length+(x.toNat+1):=by simp;omega
 refine⟨?_,af h.grown hg h.at_,h.at_.trans hat h.grown.size,?_,.inr ?_,?_⟩
 · rw[hl,List.map_append];exact hown
 · rw[hl];have:=h.len;omega
 · rw[hl];omega
 · have:=h.lit hx h7;rw[if_neg (by omega),if_neg (by omega)] at this;exact this.symm
theorem UnAt.one {x:UInt8}(h:UnAt te w base most xs k ys v wr)(hx:xs[k]?=some x)(h7:128≤x.toNat)(hl:xs.length≤k+1):unpack xs most=([],9):=by
 rw[←h.eq,drop_cons hx,List.drop_eq_nil_of_le hl,NF h7]
theorem UnAt.copy {x d:UInt8}(h:UnAt te w base most xs k ys v wr)(hx:xs[k]?=some x)(h7:128≤x.toNat)(hd:xs[k+1]?=some d):
 unpack xs most=if d.toNat=0∨ys.length < d.toNat then ([],11) else if most < (ys.length:Int)+x.toNat - 125 then ([],2) else unp most (xs.drop (k+2)) (copyOut ys d.toNat (x.toNat - 125)):=by
 rw[←h.eq,drop_cons hx,drop_cons hd,xY h7]
theorem UnAt.copyNext {x d:UInt8}(h:UnAt te w base most xs k ys v wr)(hx:xs[k]?=some x)(h7:128≤x.toNat)(hd:xs[k+1]?=some d)(h0:¬(d.toNat=0∨ys.length < d.toNat))(h2:(ys.length:Int)+x.toNat - 125≤most)
 (hz:zs=copyOut ys d.toNat (x.toNat - 125)) (hown:w1.ownsRow base te 1 v1 zs.length (zs.map bv)) (hg:w.grownBy w1 none) (hat:At w none v1.ownBlock):
 UnAt te w base most xs (k+2) zs v1 w1:=by
 have hl:zs.length=ys.length+(x.toNat - 125):=by rw[hz,uQ]
 have hx8:=jf x;refine⟨hown,hg,hat,?_,.inr ?_,?_⟩
 · rw[hl];have:=h.len;omega
 · rw[hl];omega
 · have:=h.copy hx h7 hd;rw[if_neg h0,if_neg (by omega)] at this;rw[hz];exact this.symm
end
theorem Yi {most:Int}(n:Nat):∀(l out:Bytes),l.length=n→(unp most l out).1.length≤out.length+130 * n:=by
 induction n using Nat.strongRecOn with
 |
  _ n ih=>
  intro l out hn
  match l with
  | []=>rw [Dx];simp
  |
   x :: t=>
   simp only[List.length_cons] at hn;have hx8:=jf x;by_cases h7:x.toNat < 128
   · rw[Dy h7];split
     · simp
     · split
       · simp
       · rename_i h1 _
         have:=ih (t.drop (x.toNat+1)).length (by simp;omega) (t.drop (x.toNat+1)) (out++t.take (x.toNat+1)) rfl;simp only[List.length_append,List.length_drop,List.length_take] at this;omega
   · match t with
     | []=>rw [NF (by omega)];simp
     |
      d :: u=>
      rw[xY (by omega)];split
      · simp
      · split
        · simp
        · have:=ih u.length (by simp at hn;omega) u (copyOut out d.toNat (x.toNat - 125)) rfl;rw[uQ] at this;simp only[List.length_cons] at hn;omega
theorem JL (l:Bytes)(most:Int):(unpack l most).1.length≤130 * l.length:=by
 have:=Yi (most:=most) _ l [] rfl;unfold unpack;simpa using this
structure CpAt (te:TypeId)(w:World)(base:Nat)(ys:Bytes)(d N j:Nat)(zs:Bytes)(v:Value)(wr:World):Prop where
 own:wr.ownsRow base te 1 v zs.length (zs.map bv)
 grown:w.grownBy wr none
 at_:At w none v.ownBlock
 len:zs.length=ys.length+j
 le:j≤N
 eq:copyOut zs d (N - j)=copyOut ys d N
section
variable {te : TypeId} {w wr w1 : World} {base d N j : Nat} {ys zs : Bytes} {v v1 : Value}
theorem CpAt.get (h:CpAt te w base ys d N j zs v wr)(hd:1≤d)(hdy:d≤ys.length):∃y,zs[zs.length - d]?=some y:=by
 have:=h.len;exact⟨_,List.getElem?_eq_getElem (by omega)⟩
theorem CpAt.next {y:UInt8}(h:CpAt te w base ys d N j zs v wr)(hj:j < N)(hy:zs[zs.length - d]?=some y)
 (hown:w1.ownsRow base te 1 v1 (zs.length+1) (zs.map bv++ [bv y])) (hg:wr.grownBy w1 v.ownBlock) (hat:At wr v.ownBlock v1.ownBlock):
 CpAt te w base ys d N (j+1) (zs++ [y]) v1 w1:=by
 refine⟨?_,af h.grown hg h.at_,h.at_.trans hat h.grown.size,by rw[List.length_append,h.len];rfl,hj,?_⟩
 · rw[List.length_append,List.map_append];exact hown
 · rw[←h.eq,show N - j=(N - (j+1))+1 from by omega,copyOut,hy];rfl
theorem CpAt.done (h:CpAt te w base ys d N j zs v wr)(hj:N≤j):zs=copyOut ys d N:=by
 have:=h.eq;rw[show N - j=0 from by omega] at this;exact this
end
end Iv
namespace Go.Proofs.YtfbkkgfkhhibfaaGreat
open Go Go.RowKit Iv
end Go.Proofs.YtfbkkgfkhhibfaaGreat
namespace Iv
open Go Go.RowKit Go.ChangeShapes Go.WideShapes Go.ChangeAt
open Go.ChangeMaps (open_string shut_string)
section
variable {H : Type} {enc : TypeId × Value → H} {P : Program} {W : World} {held : Bool}
theorem Ee {n:Int}(h:(Lit.int .u8 n).wf=true):0≤n∧n≤255:=by
 simp[Lit.wf,IntKind.min,IntKind.max,IntKind.signed,IntKind.bits] at h;omega
theorem AY {k:IntKind}{a:Addr}{len cap:Nat}{zs:List Int}(hl:len≤cap)(hz:zs.length=cap)
 (hc:∀i,i < zs.length→W.cell? (a.add i)=some (.int k (zs.getD i 0))):Lies W W.heap.size 1 (some a) len ((zs.take len).map (Value.int k)):=by
 refine⟨by simp;omega,fun hn=>⟨a,rfl,?_,fun j u hu=>?_⟩⟩
 · have:=World.block_lt_of_cell? W _ (hc 0 (by omega));rwa [addBlock] at this
 · simp only[List.getElem?_map,List.getElem?_take,Option.map_eq_some_iff] at hu;obtain⟨z,hz2,rfl⟩:=hu;split at hz2
   · have hj:j < zs.length:=(List.getElem?_eq_some_iff.1 hz2).1;rw[hc j hj];simp[List.getD,hz2]
   · cases hz2
theorem IW (zs:List Int)(h:∀n∈zs,(Lit.int .u8 n).wf=true):∃xs:Bytes,zs.map (Value.int .u8)=xs.map bv:=by
 refine⟨zs.map fun n=>UInt8.ofNat n.toNat,?_⟩;rw[List.map_map];refine List.map_congr_left fun n hn=>?_
 have:=Ee (h n hn);show _=bv _;unfold bv;rw[aK (by omega),Int.toNat_of_nonneg this.1]
theorem yF {t e:TypeId}{fuel:Nat}{cs:List Value}{x:DataW H×List MemPlace}(ht:P.underlying t=some (.slice e))(he:P.underlying e=some (.int .u8))(hc:P.cellsOf e=1)
 (h:DataW.trod enc P W 0 (fun _=>true) held fuel t cs=some x):
 ∃A n c,∃xs:Bytes,cs= [.slice A n c]∧Lies W W.heap.size 1 A n (xs.map bv)∧n≤c∧c≤maxLen∧(A=none→c=0):=by
 rcases open_ints ht he hc h with ⟨rfl,_⟩ | ⟨a,len,cap,zs,rfl,_,hl,hm,hz,_,hcell,hw⟩
 · exact⟨none,0,0,[],rfl,Lies.nil,Nat.le_refl _,Nat.zero_le _,fun _=>rfl⟩
 · obtain⟨xs,hx⟩:=IW (zs.take len) (fun n hn=>hw n (List.mem_of_mem_take hn));refine⟨some a,len,cap,xs,rfl,?_,hl,hm,fun e=>by cases e⟩;rw[←hx];exact AY hl (by simpa using hz) hcell
end
