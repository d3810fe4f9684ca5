/- Words. -/
import Derived.Below
import Derived.Laws.OwnMore
import Derived.Deep.AppendLies
import Derived.Deep.Draws
import Derived.Maps.AppendAt
import Derived.RegionTactic
import Derived.OwnWalk
import Derived.ArgAppend
import Derived.WalkKit
import Derived.Lib.Hide
set_option linter.unusedVariables false
namespace AM
open Go Go.RowKit
inductive CT where
 | int (k:IntKind)
 | bool
 | asc (b:Nat)
inductive PV where
 | sc (v:Value)
 | sl (els:List (List PV))
 | tr (cts:List CT) (n:Nat)
inductive AV where
 | pv (p:PV)
 | own (r n:Nat)
 | ptr (l off:Nat)
 | rp (r k i off:Nat)
 | fp (row:List PV) (off:Nat)
 | tp (cts:List CT) (j:Nat)
 | emp
 | agg (cs:List AV)
 | tup (vs:List AV)
instance:Inhabited PV:=⟨.sc undef⟩
instance:Inhabited AV:=⟨.emp⟩
inductive Obj where
 | box (cs:List AV)
 | row (e k:Nat) (els:List (List PV))
abbrev ag (n:Int):PV:= .sc (.int .i64 n)
abbrev boolP (b:Bool):PV:= .sc (.bool b)
abbrev bJ (s:ByteArray):PV:= .sc (.string s)
def CT.ok:CT→PV→Prop
 | .int k,p=>∃n,k.wrap n=n∧p= .sc (.int k n)
 | .bool,p=>∃b,p=boolP b
 | .asc b,p=>∃ns:List Nat,p= .sl (ns.map fun (n:Nat)=> [ag n])∧ns.Pairwise (· < ·)∧∀n∈ns,n < b
structure Psi where
 fz:Nat→Nat→Option Value
 tb:Nat→Option (List CT×Nat)
def Psi.le (Ψ Ψ':Psi):Prop:=(∀b o v,Ψ.fz b o=some v→Ψ'.fz b o=some v)∧∀b e,Ψ.tb b=some e→Ψ'.tb b=some e
theorem Psi.le.refl (Ψ:Psi):Ψ.le Ψ:=⟨fun _ _ _ h=>h,fun _ _ h=>h⟩
theorem Psi.le.trans {a b c:Psi}(h:a.le b)(h':b.le c):a.le c:=⟨fun x y v e=>h'.1 x y v (h.1 x y v e),fun x e q=>h'.2 x e (h.2 x e q)⟩
def cellOf (els:List (List PV))(i j:Nat):Option PV:=(els[i]?).bind (·[j]?)
inductive Rep (Ψ:Psi):PV→Value→Prop
 | sc {v:Value} (h:v.oneCell'=true):Rep Ψ (.sc v) v
 | nil {A:Option Addr} {c:Nat} (h:A=none→c=0):Rep Ψ (.sl []) (.slice A 0 c)
 | sl {els:List (List PV)} {b o c n k:Nat} (f:Nat→Nat→Value) (hn:els.length=n) (hnc:n≤c) (hk:∀row∈els,row.length=k)
  (hf:∀i j p,cellOf els i j=some p→Ψ.fz b (o+(i * k+j))=some (f i j)) (hr:∀i j p,cellOf els i j=some p→Rep Ψ p (f i j)):Rep Ψ (.sl els) (.slice (some ⟨b,o,none⟩) n c)
 | tr {cts:List CT} {n b o c m:Nat} (h:Ψ.tb b=some (cts,m)) (h0:cts≠ []) (ho:o % cts.length=0) (hnc:n≤c) (hm:o+n * cts.length≤m):Rep Ψ (.tr cts n) (.slice (some ⟨b,o,none⟩) n c)
 | tr0 {cts:List CT} {A:Option Addr} :Rep Ψ (.tr cts 0) (.slice A 0 0)
theorem Rep.mono {Ψ Ψ':Psi}(h:Ψ.le Ψ'){p:PV}{v:Value}(hr:Rep Ψ p v):Rep Ψ' p v:=by
 induction hr with
 | sc h=>exact .sc h
 | nil h=>exact .nil h
 | sl f hn hnc hk hf hr ih=>exact .sl f hn hnc hk (fun i j p e=>h.1 _ _ _ (hf i j p e)) ih
 | tr h1 h0 ho hnc hm=>exact .tr (h.2 _ _ h1) h0 ho hnc hm
 | tr0=>exact .tr0
theorem Rep.one {Ψ:Psi}{p:PV}{v:Value}(hr:Rep Ψ p v):v.oneCell'=true:=by cases hr <;> first | assumption | rfl
abbrev Loc:=Nat→Option (Option Addr×Nat)
def Loc.le (l l':Loc):Prop:=∀r e,l r=some e→l' r=some e
theorem Loc.le.refl (l:Loc):l.le l:=fun _ _ h=>h
inductive RepA (Ψ:Psi)(loc:Loc):AV→Value→Prop
 | pv {p:PV} {v:Value} (h:Rep Ψ p v):RepA Ψ loc (.pv p) v
 | own {r n c:Nat} {A:Option Addr} (h:loc r=some (A,c)) (hn:n≤c):RepA Ψ loc (.own r n) (.slice A n c)
 | ptr {l off b c:Nat} (h:loc l=some (some ⟨b,0,none⟩,c)):RepA Ψ loc (.ptr l off) (.pointer (some ⟨b,off,none⟩))
 | rp {r k i off b c:Nat} (h:loc r=some (some ⟨b,0,none⟩,c)):RepA Ψ loc (.rp r k i off) (.pointer (some ⟨b,i * k+off,none⟩))
 | fp {row:List PV} {off b o:Nat} (f:Nat→Value) (hf:∀j p,row[j]?=some p→Ψ.fz b (o+j)=some (f j)) (hr:∀j p,row[j]?=some p→Rep Ψ p (f j)):RepA Ψ loc (.fp row off) (.pointer (some ⟨b,o+off,none⟩))
 | tp {cts:List CT} {j b o m:Nat} (h:Ψ.tb b=some (cts,m)) (h0:cts≠ []) (ho:o % cts.length=0) (hm:o+cts.length≤m):RepA Ψ loc (.tp cts j) (.pointer (some ⟨b,o+j,none⟩))
 | emp {A:Option Addr} :RepA Ψ loc .emp (.slice A 0 0)
 | agg {cs:List AV} {xs:Array Value} (f:Nat→Value) (hs:xs.size=cs.length) (hx:∀j,j < cs.length→xs[j]?=some (f j)) (hr:∀j v,cs[j]?=some v→RepA Ψ loc v (f j)):RepA Ψ loc (.agg cs) (.agg xs)
 | tup {vs:List AV} {xs:Array Value} (f:Nat→Value) (hs:xs.size=vs.length) (hx:∀j,j < vs.length→xs[j]?=some (f j)) (hr:∀j v,vs[j]?=some v→RepA Ψ loc v (f j)):RepA Ψ loc (.tup vs) (.tuple xs)
theorem RepA.mono {Ψ Ψ':Psi}{l l':Loc}(h:Ψ.le Ψ')(hl:Loc.le l l'){p:AV}{v:Value}(hr:RepA Ψ l p v):RepA Ψ' l' p v:=by
 induction hr with
 | pv h1=>exact .pv (h1.mono h)
 | own h1 hn=>exact .own (hl _ _ h1) hn
 | ptr h1=>exact .ptr (hl _ _ h1)
 | rp h1=>exact .rp (hl _ _ h1)
 | fp f hf hr=>exact .fp f (fun j p e=>h.1 _ _ _ (hf j p e)) (fun j p e=>(hr j p e).mono h)
 | tp h1 h0 ho hm=>exact .tp (h.2 _ _ h1) h0 ho hm
 | emp=>exact .emp
 | agg f hs hx hr ih=>exact .agg f hs hx ih
 | tup f hs hx hr ih=>exact .tup f hs hx ih
structure Fr where
 w0:World
 pr:Nat→Prop
 Ψ0:Psi
 loc0:Loc
 n0:Nat
def blk (loc:Loc)(l:Nat):Option Nat:=
 match loc l with
 | some (some a,c+1)=>some a.block
 | _=>none
def xw (Ψ:Psi)(loc:Loc)(w:World)(l:Nat)(cs:List AV):Prop:=
 ∃b c arr ty,loc l=some (some ⟨b,0,none⟩,c+1)∧w.heap[b]?=some (.cells arr ty (0,0))∧arr.size=cs.length∧∀(j:Nat) v,cs[j]?=some v→∃x,arr[j]?=some x∧x.oneCell'=true∧RepA Ψ loc v x
def lU (Ψ:Psi)(loc:Loc)(w:World)(l e k:Nat)(els:List (List PV)):Prop:=
 ∃A c,loc l=some (A,c)∧((els= []∧c=0)∨(0 < c∧∃g cur,A=some ⟨g,0,none⟩∧w.heap[g]?=some (.cells cur e (0,0))∧els.length≤c∧c≤maxLen∧cur.size=c * k∧
  (∀r∈els,r.length=k)∧∀i j p,cellOf els i j=some p→∃x,cur[i * k+j]?=some x∧Rep Ψ p x))
def Holds (Ψ:Psi)(loc:Loc)(w:World)(l:Nat):Obj→Prop
 | .box cs=>xw Ψ loc w l cs
 | .row e k els=>lU Ψ loc w l e k els
abbrev Sto:=Nat→Option Obj
structure Ok (fr:Fr)(Ψ:Psi)(loc:Loc)(σ:Sto)(w:World):Prop where
 fz:∀b o v,Ψ.fz b o=some v→w.cell? ⟨b,o,none⟩=some v
 tb:∀b cts m,Ψ.tb b=some (cts,m)→∃arr ty,w.heap[b]?=some (.cells arr ty (0,0))∧m≤arr.size∧∀o ct,o < m→cts[o % cts.length]?=some ct→∃p x,arr[o]?=some x∧ct.ok p∧Rep Ψ p x
 ob:∀l o,σ l=some o→Holds Ψ loc w l o
 dj:∀l l' o o' b,σ l=some o→σ l'=some o'→blk loc l=some b→blk loc l'=some b→l=l'
 ow:∀l o b,σ l=some o→blk loc l=some b→¬fr.pr b∧Ψ.tb b=none∧∀q,Ψ.fz b q=none
 tf:∀b e,Ψ.tb b=some e→¬fr.pr b∧∀q,Ψ.fz b q=none
 pr:∀b,fr.pr b→b < fr.w0.heap.size∧w.heap[b]?=fr.w0.heap[b]?
 sz:fr.w0.heap.size≤w.heap.size
 os:w.os=fr.w0.os∧w.tape=fr.w0.tape∧w.output=fr.w0.output
 pz:∀b,fr.pr b→∀q,Ψ.fz b q=fr.Ψ0.fz b q
 le0:fr.Ψ0.le Ψ
 l0:∀l,l < fr.n0→∃e,fr.loc0 l=some e∧loc l=some e
theorem kC {w:World}{b:Nat}{o:Go.Obj}(h:w.heap[b]?=some o):b < w.heap.size:=(Array.getElem?_eq_some_iff.1 h).1
theorem jw {w:World}{b o:Nat}{arr:Array Value}{ty:TypeId}{f:Nat×Nat}(h:w.heap[b]?=some (.cells arr ty f)):w.cell? ⟨b,o,none⟩=arr[o]?:=by simp[World.cell?,h]
theorem Ok.fz_lt {fr:Fr}{Ψ:Psi}{loc:Loc}{σ:Sto}{w:World}(h:Ok fr Ψ loc σ w){b o:Nat}{v:Value}(e:Ψ.fz b o=some v):b < w.heap.size:=World.block_lt_of_cell? w _ (h.fz b o v e)
theorem Ok.blk_lt {fr:Fr}{Ψ:Psi}{loc:Loc}{σ:Sto}{w:World}(h:Ok fr Ψ loc σ w){l b:Nat}{o:Obj}(e:σ l=some o)(hb:blk loc l=some b):b < w.heap.size:=by
 have h1:=h.ob l o e
 cases o with
 |
  box cs=>
  obtain⟨b',c,arr,ty,hl,hh,_⟩:=h1;simp[blk,hl] at hb;subst hb;exact kC hh
 |
  row e k els=>
  obtain⟨A,c,hl,h2⟩:=h1;rcases h2 with ⟨_,rfl⟩ | ⟨h0,g,cur,rfl,hh,_⟩
  · cases A <;> simp[blk,hl] at hb
  · obtain⟨c',rfl⟩:∃c',c=c'+1:=⟨c - 1,by omega⟩;simp[blk,hl] at hb;subst hb;exact kC hh
def Sto.upd (σ:Sto)(l:Nat)(o:Option Obj):Sto:=fun r=>if r=l then o else σ r
theorem iV {loc loc':Loc}{l:Nat}(h:loc' l=loc l):blk loc' l=blk loc l:=by simp[blk,h]
theorem Holds.same {Ψ Ψ':Psi}{loc loc':Loc}{w w':World}{l:Nat}{o:Obj}(h:Holds Ψ loc w l o)(hΨ:Ψ.le Ψ')(hl:Loc.le loc loc')(hb:∀b,blk loc l=some b→w'.heap[b]?=w.heap[b]?):Holds Ψ' loc' w' l o:=by
 cases o with
 |
  box cs=>
  obtain⟨b,c,arr,ty,h1,hh,hs,hr⟩:=h
  exact⟨b,c,arr,ty,hl _ _ h1,(hb b (by simp[blk,h1])).trans hh,hs,fun j v e=>by
   obtain⟨x,q1,q2,q3⟩:=hr j v e;exact⟨x,q1,q2,q3.mono hΨ hl⟩⟩
 |
  row e k els=>
  obtain⟨A,c,h1,h2⟩:=h;refine⟨A,c,hl _ _ h1,?_⟩;rcases h2 with h2 | ⟨h0,g,cur,rfl,hh,q1,q2,q3,q4,q5⟩
  · exact .inl h2
  · obtain⟨c',rfl⟩:∃c',c=c'+1:=⟨c - 1,by omega⟩
    exact .inr ⟨h0,g,cur,rfl,(hb g (by simp[blk,h1])).trans hh,q1,q2,q3,q4,fun i j p e=>by
     obtain⟨x,r1,r2⟩:=q5 i j p e;exact⟨x,r1,r2.mono hΨ⟩⟩
structure Free (fr:Fr)(Ψ:Psi)(loc:Loc)(σ:Sto)(b:Nat):Prop where
 pr:¬fr.pr b
 tb:Ψ.tb b=none
 fz:∀q,Ψ.fz b q=none
 ob:∀l o,σ l=some o→blk loc l≠some b
structure Same (K:Nat→Prop)(w w':World):Prop where
 os:w'.os=w.os
 tape:w'.tape=w.tape
 output:w'.output=w.output
 size:w.heap.size≤w'.heap.size
 block:∀k,k < w.heap.size→¬K k→w'.heap[k]?=w.heap[k]?
theorem Same.refl (K:Nat→Prop)(w:World):Same K w w:=⟨rfl,rfl,rfl,Nat.le_refl _,fun _ _ _=>rfl⟩
theorem Same.of {w w':World}{r:Option Nat}{K:Nat→Prop}(h:w.grownBy w' r)(hr:∀k,r=some k→K k):Same K w w':=⟨h.os,h.tape,h.output,h.size,fun k hk hn=>h.block k hk (fun e=>hn (hr k e.symm))⟩
theorem Same.row {w:World}{K:Nat→Prop}{g:Nat}(h:K g)(cs:Array Value):Same K w (w.setRow g cs):=⟨rfl,rfl,rfl,by simp[World.setRow],fun k _ hn=>setRow_other w g k cs (fun e=>hn (e▸h))⟩
section
variable {fr : Fr} {Ψ Ψ' : Psi} {loc loc' : Loc} {σ : Sto} {w w' : World}
theorem Ok.new (h:Ok fr Ψ loc σ w){b:Nat}(hb:w.heap.size≤b):Free fr Ψ loc σ b:=by
 refine⟨fun e=>?_,?_,fun q=>?_,fun l o e e2=>?_⟩
 · have:=(h.pr b e).1;have:=h.sz;omega
 · cases e:Ψ.tb b with
   | none=>rfl
   |
    some x=>
    obtain⟨cts,m⟩:=x;obtain⟨arr,ty,hh,_⟩:=h.tb b cts m e;have:=kC hh;omega
 · cases e:Ψ.fz b q with
   | none=>rfl
   | some x=>have:=h.fz_lt e;omega
 · have:=h.blk_lt e e2;omega
theorem Ok.chg (h:Ok fr Ψ loc σ w)(hs:Same (Free fr Ψ loc σ) w w'):Ok fr Ψ loc σ w':=by
 have keep:∀k,k < w.heap.size→(¬Free fr Ψ loc σ k)→w'.heap[k]?=w.heap[k]?:=hs.block;refine⟨fun b o v e=>?_,fun b cts m e=>?_,fun l o e=>?_,h.dj,h.ow,h.tf,fun b e=>⟨(h.pr b e).1,?_⟩,Nat.le_trans h.sz hs.size,?_,h.pz,h.le0,h.l0⟩
 · rw[World.cell?_of_block (hs.block b (h.fz_lt e) (fun f=>by rw[f.fz] at e;cases e))];exact h.fz b o v e
 · obtain⟨arr,ty,hh,h2⟩:=h.tb b cts m e;exact⟨arr,ty,(hs.block b (kC hh) (fun f=>by rw[f.tb] at e;cases e)).trans hh,h2⟩
 · exact (h.ob l o e).same (.refl _) (.refl _) (fun b hb=>hs.block b (h.blk_lt e hb) (fun f=>f.ob l o e hb))
 · exact (hs.block b (by have:=(h.pr b e).1;have:=h.sz;omega) (fun f=>f.pr e)).trans (h.pr b e).2
 · exact⟨hs.os.trans h.os.1,hs.tape.trans h.os.2.1,hs.output.trans h.os.2.2⟩
theorem Ok.drew (h:Ok fr Ψ loc σ w):Ok fr Ψ loc σ w.drew:=h.chg ⟨rfl,rfl,rfl,Nat.le_refl _,fun _ _ _=>rfl⟩
theorem Ok.drop (h:Ok fr Ψ loc σ w)(l:Nat):Ok fr Ψ loc (σ.upd l none) w:=by
 have hs:∀r o,(σ.upd l none) r=some o→σ r=some o:=fun r o e=>by
  unfold Sto.upd at e;split at e
  · cases e
  · exact e
 exact⟨h.fz,h.tb,fun r o e=>h.ob r o (hs r o e),fun r r' o o' b e e'=>h.dj r r' o o' b (hs r o e) (hs r' o' e'),fun r o b e=>h.ow r o b (hs r o e),h.tf,h.pr,h.sz,h.os,h.pz,h.le0,h.l0⟩
theorem Ok.free (h:Ok fr Ψ loc σ w){l b:Nat}{o:Obj}(e:σ l=some o)(hb:blk loc l=some b):Free fr Ψ loc (σ.upd l none) b:=by
 obtain⟨h1,h2,h3⟩:=h.ow l o b e hb;refine⟨h1,h2,h3,fun r o' e2 hr=>?_⟩;unfold Sto.upd at e2;split at e2
 · cases e2
 · rename_i hne
   exact hne (h.dj r l o' o b e2 e hr hb)
theorem Ok.locs (h:Ok fr Ψ loc σ w)(hl:Loc.le loc loc')(hb:∀l o,σ l=some o→loc' l=loc l):Ok fr Ψ loc' σ w:=
 ⟨h.fz,h.tb,fun l o e=>(h.ob l o e).same (.refl _) hl (fun _ _=>rfl),fun l l' o o' b e e'=>by rw[iV (hb l o e),iV (hb l' o' e')];exact h.dj l l' o o' b e e',
  fun l o b e=>by rw[iV (hb l o e)];exact h.ow l o b e,h.tf,h.pr,h.sz,h.os,h.pz,h.le0,fun l hn=>by
   obtain⟨e,h1,h2⟩:=h.l0 l hn
   exact⟨e,h1,hl _ _ h2⟩⟩
theorem Ok.claim (h:Ok fr Ψ loc σ w){l:Nat}{o:Obj}(hl:σ l=none)(ho:Holds Ψ loc w l o)(hb:∀b,blk loc l=some b→Free fr Ψ loc σ b):Ok fr Ψ loc (σ.upd l (some o)) w:=by
 have hs:∀r o',(σ.upd l (some o)) r=some o'→(r=l∧o'=o)∨(r≠l∧σ r=some o'):=fun r o' e=>by
  unfold Sto.upd at e;split at e
  · rename_i hr;injection e with e;exact .inl ⟨hr,e.symm⟩
  · rename_i hr;exact .inr ⟨hr,e⟩
 refine⟨h.fz,h.tb,fun r o' e=>?_,fun r r' o1 o2 b e e' h1 h2=>?_,fun r o' b e h1=>?_,h.tf,h.pr,h.sz,h.os,h.pz,h.le0,h.l0⟩
 · rcases hs r o' e with ⟨rfl,rfl⟩ | ⟨_,e⟩
   · exact ho
   · exact h.ob r o' e
 · rcases hs r o1 e with ⟨rfl,rfl⟩ | ⟨n1,e1⟩ <;> rcases hs r' o2 e' with ⟨rfl,rfl⟩ | ⟨n2,e2⟩
   · rfl
   · exact absurd h2 ((hb b h1).ob _ _ e2)
   · exact absurd h1 ((hb b h2).ob _ _ e1)
   · exact h.dj r r' o1 o2 b e1 e2 h1 h2
 · rcases hs r o' e with ⟨rfl,rfl⟩ | ⟨_,e⟩
   · exact⟨(hb b h1).pr,(hb b h1).tb,(hb b h1).fz⟩
   · exact h.ow r o' b e h1
def Loc.upd (loc:Loc)(l:Nat)(e:Option Addr×Nat):Loc:=fun r=>if r=l then some e else loc r
theorem Loc.le_upd {l:Nat}{e:Option Addr×Nat}(h:loc l=none):Loc.le loc (loc.upd l e):=fun r e' q=>by
 unfold Loc.upd
 split
 · rename_i hr;rw[hr,h] at q;cases q
 · exact q
theorem Loc.upd_ne {l r:Nat}{e:Option Addr×Nat}(h:r≠l):(loc.upd l e) r=loc r:=by simp[Loc.upd,h]
theorem Loc.upd_eq {l:Nat}{e:Option Addr×Nat} :(loc.upd l e) l=some e:=by simp[Loc.upd]
def Psi.addFz (Ψ:Psi)(b:Nat)(xs:Array Value):Psi:=⟨fun b' o=>if b'=b then xs[o]? else Ψ.fz b' o,Ψ.tb⟩
def Psi.addTb (Ψ:Psi)(b:Nat)(e:List CT×Nat):Psi:=⟨Ψ.fz,fun b'=>if b'=b then some e else Ψ.tb b'⟩
theorem Free.le_fz {b:Nat}(h:Free fr Ψ loc σ b)(xs:Array Value):Ψ.le (Ψ.addFz b xs):=
 ⟨fun b' o v e=>by
  unfold Psi.addFz
  dsimp only
  split
  · rename_i hb;rw[hb,h.fz] at e;cases e
  · exact e,fun _ _ e=>e⟩
theorem Free.le_tb {b:Nat}(h:Free fr Ψ loc σ b)(e:List CT×Nat):Ψ.le (Ψ.addTb b e):=
 ⟨fun _ _ _ e=>e,fun b' e' q=>by
  unfold Psi.addTb
  dsimp only
  split
  · rename_i hb;rw[hb,h.tb] at q;cases q
  · exact q⟩
theorem Ok.freeze (h:Ok fr Ψ loc σ w){b:Nat}{xs:Array Value}{ty:TypeId}{f:Nat×Nat}(hf:Free fr Ψ loc σ b)(hh:w.heap[b]?=some (.cells xs ty f)):Ok fr (Ψ.addFz b xs) loc σ w:=by
 have hle:=hf.le_fz xs;refine⟨fun b' o v e=>?_,fun b' cts m e=>?_,fun l o e=>(h.ob l o e).same hle (.refl _) (fun _ _=>rfl),h.dj,fun l o b' e hb=>?_,fun b' e q=>?_,h.pr,h.sz,h.os,fun b' hp q=>?_,h.le0.trans hle,h.l0⟩
 · unfold Psi.addFz at e;dsimp only at e;split at e
   · rename_i hb;rw[hb,jw hh];exact e
   · exact h.fz b' o v e
 · obtain⟨arr,ty,h1,h2,h3⟩:=h.tb b' cts m e
   exact⟨arr,ty,h1,h2,fun o ct ho hc=>by
    obtain⟨p,x,q1,q2,q3⟩:=h3 o ct ho hc;exact⟨p,x,q1,q2,q3.mono hle⟩⟩
 · obtain⟨h1,h2,h3⟩:=h.ow l o b' e hb;refine⟨h1,h2,fun q=>?_⟩;unfold Psi.addFz;dsimp only;rw[if_neg (fun (e2:b'=b)=>hf.ob l o e (by rw[←e2];exact hb))];exact h3 q
 · obtain⟨h1,h3⟩:=h.tf b' e q;refine⟨h1,fun q2=>?_⟩;unfold Psi.addFz;dsimp only;have hq:Ψ.tb b'=some e:=q;rw[if_neg (fun e2=>by rw[e2,hf.tb] at hq;cases hq)];exact h3 q2
 · unfold Psi.addFz;dsimp only;rw[if_neg (fun (e2:b'=b)=>hf.pr (by rw[←e2];exact hp))];exact h.pz b' hp q
theorem Ok.typed (h:Ok fr Ψ loc σ w){b m0:Nat}{xs:Array Value}{ty:TypeId}{cts:List CT}(hf:Free fr Ψ loc σ b)(hm0:m0≤xs.size)(hh:w.heap[b]?=some (.cells xs ty (0,0)))
 (hx:∀o ct,o < m0→cts[o % cts.length]?=some ct→∃p x,xs[o]?=some x∧ct.ok p∧Rep Ψ p x):Ok fr (Ψ.addTb b (cts,m0)) loc σ w:=by
 have hle:=hf.le_tb (cts,m0);refine⟨h.fz,fun b' Zo m e=>?_,fun l o e=>(h.ob l o e).same hle (.refl _) (fun _ _=>rfl),h.dj,fun l o b' e hb=>?_,fun b' e q=>?_,h.pr,h.sz,h.os,h.pz,h.le0.trans hle,h.l0⟩
 · unfold Psi.addTb at e;dsimp only at e;split at e
   · rename_i hb
     injection e with e;injection e with e1 e2;subst e1 e2 hb
     exact⟨xs,ty,hh,hm0,fun o ct ho hc=>by
      obtain⟨p,x,q1,q2,q3⟩:=hx o ct ho hc;exact⟨p,x,q1,q2,q3.mono hle⟩⟩
   · obtain⟨arr,ty,h1,h2,h3⟩:=h.tb b' Zo m e
     exact⟨arr,ty,h1,h2,fun o ct ho hc=>by
      obtain⟨p,x,q1,q2,q3⟩:=h3 o ct ho hc;exact⟨p,x,q1,q2,q3.mono hle⟩⟩
 · obtain⟨h1,h2,h3⟩:=h.ow l o b' e hb;refine⟨h1,?_,h3⟩;unfold Psi.addTb;dsimp only;rw[if_neg (fun (e2:b'=b)=>hf.ob l o e (by rw[←e2];exact hb))];exact h2
 · unfold Psi.addTb at q;dsimp only at q;split at q
   · rename_i hb;rw[hb];exact⟨hf.pr,hf.fz⟩
   · exact h.tf b' e q
theorem Ok.storeTyped (h:Ok fr Ψ loc σ w){b o m:Nat}{cts:List CT}{ct:CT}{p:PV}{x:Value}(ht:Ψ.tb b=some (cts,m))(ho:o < m)(hc:cts[o % cts.length]?=some ct)(hp:ct.ok p)(hr:Rep Ψ p x)
 {arr:Array Value} {ty:TypeId} (hh:w.heap[b]?=some (.cells arr ty (0,0))):Ok fr Ψ loc σ (w.setRow b (arr.setIfInBounds o x)):=by
 have hs:Same (fun k=>k=b) w (w.setRow b (arr.setIfInBounds o x)):=Same.row (K:=fun k=>k=b) rfl _;refine⟨fun b' o v e=>?_,fun b' Zo m' e=>?_,fun l o e=>?_,h.dj,h.ow,h.tf,fun b' e=>⟨(h.pr b' e).1,?_⟩,Nat.le_trans h.sz hs.size,h.os,h.pz,h.le0,h.l0⟩
 · rw[World.cell?_of_block (hs.block b' (h.fz_lt e) (fun f=>by rw[f,(h.tf b _ ht).2] at e;cases e))];exact h.fz b' o v e
 · by_cases hb:b'=b
   · subst hb;rw[ht] at e;injection e with e;injection e with e1 e2;subst e1 e2;obtain⟨ade,ty',h1,h2,h3⟩:=h.tb b' cts m ht;rw[hh] at h1;injection h1 with h1;injection h1 with h1 h4;subst h1 h4;refine⟨_,_,setRow_heap w b' arr _ ty _ hh,by simpa using h2,fun o2 ct2 ho2 hc2=>?_⟩;by_cases ho3:o=o2
     · subst ho3;rw[hc] at hc2;injection hc2 with hc2;subst hc2;exact⟨p,x,by rw[Array.getElem?_setIfInBounds,if_pos rfl,if_pos (by omega)],hp,hr⟩
     · obtain⟨p2,x2,q1,q2,q3⟩:=h3 o2 ct2 ho2 hc2;exact⟨p2,x2,by rw[Array.getElem?_setIfInBounds_ne ho3];exact q1,q2,q3⟩
   · obtain⟨ade,ty',h1,h2⟩:=h.tb b' Zo m' e;exact⟨ade,ty',(hs.block b' (kC h1) hb).trans h1,h2⟩
 · exact (h.ob l o e).same (.refl _) (.refl _) (fun b' hb=>hs.block b' (h.blk_lt e hb) (fun f=>by rw[f] at hb;have:=(h.ow l o b e hb).2.1;rw[ht] at this;cases this))
 · exact (hs.block b' (by have:=(h.pr b' e).1;have:=h.sz;omega) (fun f=>(h.tf b _ ht).1 (f▸e))).trans (h.pr b' e).2
end
