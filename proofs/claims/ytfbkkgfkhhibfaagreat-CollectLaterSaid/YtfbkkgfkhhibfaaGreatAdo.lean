/- Words. -/
import Derived.Test.YtfbkkgfkhhibfaaGreatFct
import Derived.Deep.MidRow
import Derived.Great.BuildSlice
set_option linter.unusedVariables false
set_option linter.unusedSimpArgs false
namespace AM
open Go Go.RowKit
inductive CT where
 |int (k:IntKind)
 |bool
 |asc (b:Nat)
inductive PV where
 |sc (v:Value)
 |sl (els:List (List PV))
 |tr (cts:List CT) (n:Nat)
inductive AV where
 |pv (p:PV)
 |own (r n:Nat)
 |ptr (l off:Nat)
 |rp (r k i off:Nat)
 |fp (row:List PV) (off:Nat)
 |tp (cts:List CT) (j:Nat)
 |emp
 |agg (cs:List AV)
 |tup (vs:List AV)
 |tl (cs:List AV)
instance:Inhabited PV:=⟨.sc undef⟩
instance:Inhabited AV:=⟨.emp⟩
inductive Obj where
 |box (cs:List AV)
 |row (e k:Nat) (els:List (List PV))
 |rov (e k:Nat) (els:List (List PV)) (i:Nat) (cs:List AV)
abbrev ag (n:Int):PV:= .sc (.int .i64 n)
abbrev boolP (b:Bool):PV:= .sc (.bool b)
abbrev dh (s:ByteArray):PV:= .sc (.string s)
def CT.ok:CT->PV->Prop
 | .int k,p=>∃n,k.wrap n=n/\p= .sc (.int k n)
 | .bool,p=>∃b,p=boolP b
 | .asc b,p=>∃ns:List Nat,p= .sl (ns.map λ(n:Nat)=> [ag n])/\ns.Pairwise (· < ·)/\∀n∈ns,n<b
structure Psi where
 fz:Nat->Nat->Option Value
 tb:Nat->Option (List CT×Nat)
def Psi.le (Ψ Ψ':Psi):Prop:=(∀b o v,Ψ.fz b o=some v->Ψ'.fz b o=some v)/\∀b e,Ψ.tb b=some e->Ψ'.tb b=some e
theorem Psi.le.refl (Ψ:Psi):Ψ.le Ψ:=⟨λ_ _ _ h=>h,λ_ _ h=>h⟩
theorem Psi.le.trans {a b c:Psi}(h:a.le b)(d:b.le c):a.le c:=⟨λx y v e=>d.1 x y v (h.1 x y v e),λx e q=>d.2 x e (h.2 x e q)⟩
def cellOf (els:List (List PV))(i j:Nat):Option PV:=(els[i]?).bind (·[j]?)
inductive Rep (Ψ:Psi):PV->Value->Prop
 |sc {v:Value} (h:v.oneCell'=true):Rep Ψ (.sc v) v
 |nil {A:Option Addr} {c:Nat} (h:A=none->c=0):Rep Ψ (.sl []) (.slice A 0 c)
 |sl {els:List (List PV)} {b o c n k:Nat} (f:Nat->Nat->Value) (hn:els.length=n) (hnc:n<=c) (hk:∀row∈els,row.length=k)
  (hf:∀i j p,cellOf els i j=some p->Ψ.fz b (o+(i*k+j))=some (f i j)) (hr:∀i j p,cellOf els i j=some p->Rep Ψ p (f i j)):Rep Ψ (.sl els) (.slice (some ⟨b,o,none⟩) n c)
 |tr {cts:List CT} {n b o c m:Nat} (h:Ψ.tb b=some (cts,m)) (h0:cts≠ []) (ho:o%cts.length=0) (hnc:n<=c) (hm:o+n*cts.length<=m):Rep Ψ (.tr cts n) (.slice (some ⟨b,o,none⟩) n c)
 |tr0 {cts:List CT} {A:Option Addr} :Rep Ψ (.tr cts 0) (.slice A 0 0)
theorem Rep.mono {Ψ Ψ':Psi}(h:Ψ.le Ψ'){p:PV}{v:Value}(hr:Rep Ψ p v):Rep Ψ' p v:=by
 induction hr with
 |sc h=>exact .sc h
 |nil h=>exact .nil h
 |sl f hn hnc hk hf hr ih=>exact .sl f hn hnc hk (λi j p e=>h.1 _ _ _ (hf i j p e)) ih
 |tr h1 h0 ho hnc hm=>exact .tr (h.2 _ _ h1) h0 ho hnc hm
 |tr0=>exact .tr0
theorem Rep.one {Ψ:Psi}{p:PV}{v:Value}(hr:Rep Ψ p v):v.oneCell'=true:=by cases hr<;>first|assumption|rfl
abbrev Loc:=Nat->Option (Option Addr×Nat)
def Loc.le (l l':Loc):Prop:=∀r e,l r=some e->l' r=some e
theorem Loc.le.refl (l:Loc):l.le l:=λ_ _ h=>h
inductive RepA (Ψ:Psi)(loc:Loc):AV->Value->Prop
 |pv {p:PV} {v:Value} (h:Rep Ψ p v):RepA Ψ loc (.pv p) v
 |own {r n c:Nat} {A:Option Addr} (h:loc r=some (A,c)) (hn:n<=c):RepA Ψ loc (.own r n) (.slice A n c)
 |ptr {l off b c:Nat} (h:loc l=some (some ⟨b,0,none⟩,c)):RepA Ψ loc (.ptr l off) (.pointer (some ⟨b,off,none⟩))
 |rp {r k i off b c:Nat} (h:loc r=some (some ⟨b,0,none⟩,c)):RepA Ψ loc (.rp r k i off) (.pointer (some ⟨b,i*k+off,none⟩))
 |fp {row:List PV} {off b o:Nat} (f:Nat->Value) (hf:∀j p,row[j]?=some p->Ψ.fz b (o+j)=some (f j)) (hr:∀j p,row[j]?=some p->Rep Ψ p (f j)):RepA Ψ loc (.fp row off) (.pointer (some ⟨b,o+off,none⟩))
 |tp {cts:List CT} {j b o m:Nat} (h:Ψ.tb b=some (cts,m)) (h0:cts≠ []) (ho:o%cts.length=0) (hm:o+cts.length<=m):RepA Ψ loc (.tp cts j) (.pointer (some ⟨b,o+j,none⟩))
 |emp {A:Option Addr} :RepA Ψ loc .emp (.slice A 0 0)
 |agg {cs:List AV} {xs:Array Value} (f:Nat->Value) (hs:xs.size=cs.length) (hx:∀j,j<cs.length->xs[j]?=some (f j)) (hr:∀j v,cs[j]?=some v->RepA Ψ loc v (f j)):RepA Ψ loc (.agg cs) (.agg xs)
 |tup {vs:List AV} {xs:Array Value} (f:Nat->Value) (hs:xs.size=vs.length) (hx:∀j,j<vs.length->xs[j]?=some (f j)) (hr:∀j v,vs[j]?=some v->RepA Ψ loc v (f j)):RepA Ψ loc (.tup vs) (.tuple xs)
 |tl {cs:List AV} {b o c:Nat} (f:Nat->Value) (hc:1<=c) (hx:∀j,j<cs.length->Ψ.fz b (o+j)=some (f j)/\(f j).oneCell'=true) (hr:∀j v,cs[j]?=some v->RepA Ψ loc v (f j)):RepA Ψ loc (.tl cs) (.slice (some ⟨b,o,none⟩) 1 c)
theorem RepA.mono {Ψ Ψ':Psi}{l l':Loc}(h:Ψ.le Ψ')(a:Loc.le l l'){p:AV}{v:Value}(hr:RepA Ψ l p v):RepA Ψ' l' p v:=by
 induction hr with
 |pv h1=>exact .pv (h1.mono h)
 |own h1 hn=>exact .own (a _ _ h1) hn
 |ptr h1=>exact .ptr (a _ _ h1)
 |rp h1=>exact .rp (a _ _ h1)
 |fp f hf hr=>exact .fp f (λj p e=>h.1 _ _ _ (hf j p e)) (λj p e=>(hr j p e).mono h)
 |tp h1 h0 ho hm=>exact .tp (h.2 _ _ h1) h0 ho hm
 |emp=>exact .emp
 |agg f hs hx hr ih=>exact .agg f hs hx ih
 |tup f hs hx hr ih=>exact .tup f hs hx ih
 |tl f hc hx hr ih=>exact .tl f hc (λj d=>⟨h.1 _ _ _ (hx j d).1,(hx j d).2⟩) ih
structure Fr where
 w0:World
 pr:Nat->Prop
 Ψ0:Psi
 loc0:Loc
 n0:Nat
def blk (loc:Loc)(l:Nat):Option Nat:=
 match loc l with
 |some (some a,c+1)=>some a.block
 |_=>none
def BU (Ψ:Psi)(loc:Loc)(w:World)(l:Nat)(cs:List AV):Prop:=
 ∃b c arr ty,loc l=some (some ⟨b,0,none⟩,c+1)/\w.heap[b]?=some (.cells arr ty (0,0))/\arr.size=cs.length/\∀(j:Nat) v,cs[j]?=some v->∃x,arr[j]?=some x/\x.oneCell'=true/\RepA Ψ loc v x
def mW (Ψ:Psi)(loc:Loc)(w:World)(l e k:Nat)(els:List (List PV)):Prop:=
 ∃A c,loc l=some (A,c)/\((els=[]/\c=0)\/(0<c/\∃g cur,A=some ⟨g,0,none⟩/\w.heap[g]?=some (.cells cur e (0,0))/\els.length<=c/\c<=maxLen/\cur.size=c*k/\
  (∀r∈els,r.length=k)/\∀i j p,cellOf els i j=some p->∃x,cur[i*k+j]?=some x/\Rep Ψ p x))
def rW (Ψ:Psi)(loc:Loc)(w:World)(l e k:Nat)(els:List (List PV))(i:Nat)(cs:List AV):Prop:=
 ∃g c cur,loc l=some (some ⟨g,0,none⟩,c+1)/\w.heap[g]?=some (.cells cur e (0,0))/\els.length<=c+1/\c+1<=maxLen/\cur.size=(c+1)* k/\(∀r∈els,r.length=k)/\(∀a j p,a≠i->cellOf els a j=some p->∃x,cur[a*k+j]?=some x/\Rep Ψ p x)/\
  i<els.length/\cs.length=k/\∀(j:Nat) v,cs[j]?=some v->∃x,cur[i*k+j]?=some x/\x.oneCell'=true/\RepA Ψ loc v x
def Holds (Ψ:Psi)(loc:Loc)(w:World)(l:Nat):Obj->Prop
 | .box cs=>BU Ψ loc w l cs
 | .row e k els=>mW Ψ loc w l e k els
 | .rov e k els i cs=>rW Ψ loc w l e k els i cs
abbrev Sto:=Nat->Option Obj
structure Ok (fr:Fr)(Ψ:Psi)(loc:Loc)(σ:Sto)(w:World):Prop where
 fz:∀b o v,Ψ.fz b o=some v->w.cell? ⟨b,o,none⟩=some v
 tb:∀b cts m,Ψ.tb b=some (cts,m)->∃arr ty,w.heap[b]?=some (.cells arr ty (0,0))/\m<=arr.size/\∀o ct,o<m->cts[o%cts.length]?=some ct->∃p x,arr[o]?=some x/\ct.ok p/\Rep Ψ p x
 ob:∀l o,σ l=some o->Holds Ψ loc w l o
 dj:∀l l' o o' b,σ l=some o->σ l'=some o'->blk loc l=some b->blk loc l'=some b->l=l'
 ow:∀l o b,σ l=some o->blk loc l=some b->¬fr.pr b/\Ψ.tb b=none/\∀q,Ψ.fz b q=none
 tf:∀b e,Ψ.tb b=some e->¬fr.pr b/\∀q,Ψ.fz b q=none
 pr:∀b,fr.pr b->b<fr.w0.heap.size/\w.heap[b]?=fr.w0.heap[b]?
 sz:fr.w0.heap.size<=w.heap.size
 os:w.os=fr.w0.os/\w.tape=fr.w0.tape/\w.output=fr.w0.output
 pz:∀b,fr.pr b->∀q,Ψ.fz b q=fr.Ψ0.fz b q
 le0:fr.Ψ0.le Ψ
 l0:∀l,l<fr.n0->∃e,fr.loc0 l=some e/\loc l=some e
theorem kX {w:World}{b:Nat}{o:Go.Obj}(h:w.heap[b]?=some o):b<w.heap.size:=(iU.1 h).1
theorem jl {w:World}{b o:Nat}{arr:Array Value}{ty:TypeId}{f:Nat×Nat}(h:w.heap[b]?=some (.cells arr ty f)):w.cell? ⟨b,o,none⟩=arr[o]?:=by simp[World.cell?,h]
theorem Ok.fz_lt {fr:Fr}{Ψ:Psi}{loc:Loc}{σ:Sto}{w:World}(h:Ok fr Ψ loc σ w){b o:Nat}{v:Value}(e:Ψ.fz b o=some v):b<w.heap.size:=Gt w _ (h.fz b o v e)
theorem Ok.blk_lt {fr:Fr}{Ψ:Psi}{loc:Loc}{σ:Sto}{w:World}(h:Ok fr Ψ loc σ w){l b:Nat}{o:Obj}(e:σ l=some o)(hb:blk loc l=some b):b<w.heap.size:=by
 have h1:=h.ob l o e
 cases o with
 |
  box cs=>
  obtain⟨y,c,arr,ty,a,d,_⟩:=h1;simp[blk,a] at hb;subst hb;exact kX d
 |
  row e k els=>
  obtain⟨A,c,a,h2⟩:=h1;rcases h2 with ⟨_,rfl⟩|⟨h0,g,cur,rfl,d,_⟩
  cases A<;>simp[blk,a] at hb
  obtain⟨u,rfl⟩:∃u,c=u+1:=⟨c-1,by omega⟩;simp[blk,a] at hb;subst hb;exact kX d
 |
  rov e k els i cs=>
  obtain⟨g,c,cur,a,d,_⟩:=h1;simp[blk,a] at hb;subst hb;exact kX d
def Sto.upd (σ:Sto)(l:Nat)(o:Option Obj):Sto:=λr=>if r=l then o else σ r
theorem jm {loc loc':Loc}{l:Nat}(h:loc' l=loc l):blk loc' l=blk loc l:=by simp[blk,h]
theorem Holds.same {Ψ Ψ':Psi}{loc loc':Loc}{w w':World}{l:Nat}{o:Obj}(h:Holds Ψ loc w l o)(hΨ:Ψ.le Ψ')(d:Loc.le loc loc')(hb:∀b,blk loc l=some b->w'.heap[b]?=w.heap[b]?):Holds Ψ' loc' w' l o:=by
 cases o with
 |
  box cs=>
  obtain⟨b,c,arr,ty,h1,u,hs,hr⟩:=h;exact⟨b,c,arr,ty,d _ _ h1,(hb b (by simp[blk,h1])).trans u,hs,λj v e=>by obtain⟨x,y,B,D⟩:=hr j v e;exact⟨x,y,B,D.mono hΨ d⟩⟩
 |
  row e k els=>
  obtain⟨A,c,h1,h2⟩:=h;refine⟨A,c,d _ _ h1,?_⟩;rcases h2 with h2|⟨h0,g,cur,rfl,u,y,B,D,G,H⟩;exact .inl h2;obtain⟨I,rfl⟩:∃I,c=I+1:=⟨c-1,by omega⟩;exact .inr ⟨h0,g,cur,rfl,(hb g (by simp[blk,h1])).trans u,y,B,D,G,λi j p e=>by obtain⟨x,r1,E⟩:=H i j p e;exact⟨x,r1,E.mono hΨ⟩⟩
 |
  rov e k els i cs=>
  obtain⟨g,c,cur,h1,u,y,B,D,G,H,J,L,N⟩:=h
  exact⟨g,c,cur,d _ _ h1,(hb g (by simp[blk,h1])).trans u,y,B,D,G,λa j p ha e=>by
   obtain⟨x,r1,E⟩:=H a j p ha e;exact⟨x,r1,E.mono hΨ⟩,J,L,λj v e=>by
   obtain⟨x,r1,E,O⟩:=N j v e;exact⟨x,r1,E,O.mono hΨ d⟩⟩
structure Free (fr:Fr)(Ψ:Psi)(loc:Loc)(σ:Sto)(b:Nat):Prop where
 pr:¬fr.pr b
 tb:Ψ.tb b=none
 fz:∀q,Ψ.fz b q=none
 ob:∀l o,σ l=some o->blk loc l≠some b
structure Same (K:Nat->Prop)(w w':World):Prop where
 os:w'.os=w.os
 tape:w'.tape=w.tape
 output:w'.output=w.output
 size:w.heap.size<=w'.heap.size
 block:∀k,k<w.heap.size->¬K k->w'.heap[k]?=w.heap[k]?
theorem Same.refl (K:Nat->Prop)(w:World):Same K w w:=⟨rfl,rfl,rfl,ax _,λ_ _ _=>rfl⟩
theorem Same.of {w w':World}{r:Option Nat}{K:Nat->Prop}(h:w.grownBy w' r)(hr:∀k,r=some k->K k):Same K w w':=⟨h.os,h.tape,h.output,h.size,λk hk hn=>h.block k hk (λe=>hn (hr k e.symm))⟩
theorem Same.row {w:World}{K:Nat->Prop}{g:Nat}(h:K g)(cs:Array Value):Same K w (w.setRow g cs):=⟨rfl,rfl,rfl,by simp[World.setRow],λk _ hn=>Py w g k cs (λe=>hn (e▸h))⟩
section
variable {fr : Fr} {Ψ Ψ' : Psi} {loc loc' : Loc} {σ : Sto} {w w' : World}
theorem Ok.new (h:Ok fr Ψ loc σ w){b:Nat}(hb:w.heap.size<=b):Free fr Ψ loc σ b:=by
 refine⟨λe=>?_,?_,λq=>?_,λl o e a=>?_⟩;have:=(h.pr b e).1;have:=h.sz;omega
 . cases e:Ψ.tb b with
   |none=>rfl
   |
    some x=>
    obtain⟨cts,m⟩:=x;obtain⟨arr,ty,d,_⟩:=h.tb b cts m e;have:=kX d;omega
 . cases e:Ψ.fz b q with
   |none=>rfl
   |some x=>have:=h.fz_lt e;omega
 have:=h.blk_lt e a;omega
theorem Ok.chg (h:Ok fr Ψ loc σ w)(hs:Same (Free fr Ψ loc σ) w w'):Ok fr Ψ loc σ w':=by have keep:∀k,k<w.heap.size->(¬Free fr Ψ loc σ k)->w'.heap[k]?=w.heap[k]?:=hs.block;refine⟨λb o v e=>?_,λb cts m e=>?_,λl o e=>?_,h.dj,h.ow,h.tf,λb e=>⟨(h.pr b e).1,?_⟩,aP h.sz hs.size,?_,h.pz,h.le0,h.l0⟩;rw[lW (hs.block b (h.fz_lt e) (λf=>by rw[f.fz] at e;cases e))];exact h.fz b o v e;obtain⟨arr,ty,a,h2⟩:=h.tb b cts m e;exact⟨arr,ty,(hs.block b (kX a) (λf=>by rw[f.tb] at e;cases e)).trans a,h2⟩;exact (h.ob l o e).same (.refl _) (.refl _) (λb hb=>hs.block b (h.blk_lt e hb) (λf=>f.ob l o e hb));exact (hs.block b (by have:=(h.pr b e).1;have:=h.sz;omega) (λf=>f.pr e)).trans (h.pr b e).2;exact⟨hs.os.trans h.os.1,hs.tape.trans h.os.2.1,hs.output.trans h.os.2.2⟩
theorem Ok.drew (h:Ok fr Ψ loc σ w):Ok fr Ψ loc σ w.drew:=h.chg ⟨rfl,rfl,rfl,ax _,λ_ _ _=>rfl⟩
theorem Ok.drop (h:Ok fr Ψ loc σ w)(l:Nat):Ok fr Ψ loc (σ.upd l none) w:=by
 have hs:∀r o,(σ.upd l none) r=some o->σ r=some o:=λr o e=>by
  unfold Sto.upd at e;split at e
  cases e
  exact e
 exact⟨h.fz,h.tb,λr o e=>h.ob r o (hs r o e),λr a o o' b e d=>h.dj r a o o' b (hs r o e) (hs a o' d),λr o b e=>h.ow r o b (hs r o e),h.tf,h.pr,h.sz,h.os,h.pz,h.le0,h.l0⟩
theorem Ok.free (h:Ok fr Ψ loc σ w){l b:Nat}{o:Obj}(e:σ l=some o)(hb:blk loc l=some b):Free fr Ψ loc (σ.upd l none) b:=by
 obtain⟨h1,h2,h3⟩:=h.ow l o b e hb;refine⟨h1,h2,h3,λr o' a hr=>?_⟩;unfold Sto.upd at a;split at a
 cases a
 rename_i d;exact d (h.dj r l o' o b a e hr hb)
theorem Ok.locs (h:Ok fr Ψ loc σ w)(a:Loc.le loc loc')(hb:∀l o,σ l=some o->loc' l=loc l):Ok fr Ψ loc' σ w:=
 ⟨h.fz,h.tb,λl o e=>(h.ob l o e).same (.refl _) a (λ_ _=>rfl),λl l' o o' b e d=>by rw[jm (hb l o e),jm (hb l' o' d)];exact h.dj l l' o o' b e d,
  λl o b e=>by rw[jm (hb l o e)];exact h.ow l o b e,h.tf,h.pr,h.sz,h.os,h.pz,h.le0,λl hn=>by
   obtain⟨e,h1,h2⟩:=h.l0 l hn
   exact⟨e,h1,a _ _ h2⟩⟩
theorem Ok.claim (h:Ok fr Ψ loc σ w){l:Nat}{o:Obj}(u:σ l=none)(ho:Holds Ψ loc w l o)(hb:∀b,blk loc l=some b->Free fr Ψ loc σ b):Ok fr Ψ loc (σ.upd l (some o)) w:=by have hs:∀r o',(σ.upd l (some o)) r=some o'->(r=l/\o'=o)\/(r≠l/\σ r=some o'):=(λr o' e=>by unfold Sto.upd at e;split at e;rename_i hr;injection e with e;exact .inl ⟨hr,e.symm⟩;rename_i hr;exact .inr ⟨hr,e⟩);refine⟨h.fz,h.tb,λr o' e=>?_,λr a o1 o2 b e d h1 h2=>?_,λr o' b e h1=>?_,h.tf,h.pr,h.sz,h.os,h.pz,h.le0,h.l0⟩;rcases hs r o' e with ⟨rfl,rfl⟩|⟨_,e⟩;exact ho;exact h.ob r o' e;rcases hs r o1 e with ⟨rfl,rfl⟩|⟨n1,e1⟩<;>rcases hs a o2 d with ⟨rfl,rfl⟩|⟨n2,e2⟩;rfl;exact absurd h2 ((hb b h1).ob _ _ e2);exact absurd h1 ((hb b h2).ob _ _ e1);exact h.dj r a o1 o2 b e1 e2 h1 h2;rcases hs r o' e with ⟨rfl,rfl⟩|⟨_,e⟩;exact⟨(hb b h1).pr,(hb b h1).tb,(hb b h1).fz⟩;exact h.ow r o' b e h1
def Loc.upd (loc:Loc)(l:Nat)(e:Option Addr×Nat):Loc:=λr=>if r=l then some e else loc r
theorem Loc.le_upd {l:Nat}{e:Option Addr×Nat}(h:loc l=none):Loc.le loc (loc.upd l e):=λr a q=>by
 unfold Loc.upd
 split
 . rename_i hr;rw[hr,h] at q;cases q
 . exact q
theorem Loc.upd_ne {l r:Nat}{e:Option Addr×Nat}(h:r≠l):(loc.upd l e) r=loc r:=by simp[Loc.upd,h]
theorem Loc.upd_eq {l:Nat}{e:Option Addr×Nat} :(loc.upd l e) l=some e:=by simp[Loc.upd]
def Psi.addFz (Ψ:Psi)(b:Nat)(xs:Array Value):Psi:=⟨λb' o=>if b'=b then xs[o]? else Ψ.fz b' o,Ψ.tb⟩
def Psi.addTb (Ψ:Psi)(b:Nat)(e:List CT×Nat):Psi:=⟨Ψ.fz,λb'=>if b'=b then some e else Ψ.tb b'⟩
theorem Free.le_fz {b:Nat}(h:Free fr Ψ loc σ b)(xs:Array Value):Ψ.le (Ψ.addFz b xs):=
 ⟨λa o v e=>by
  unfold Psi.addFz
  dsimp only
  split
  . rename_i hb;rw[hb,h.fz] at e;cases e
  . exact e,λ_ _ e=>e⟩
theorem Free.le_tb {b:Nat}(h:Free fr Ψ loc σ b)(e:List CT×Nat):Ψ.le (Ψ.addTb b e):=
 ⟨λ_ _ _ e=>e,λa d q=>by
  unfold Psi.addTb
  dsimp only
  split
  . rename_i hb;rw[hb,h.tb] at q;cases q
  . exact q⟩
theorem Ok.freeze (h:Ok fr Ψ loc σ w){b:Nat}{xs:Array Value}{ty:TypeId}{f:Nat×Nat}(hf:Free fr Ψ loc σ b)(B:w.heap[b]?=some (.cells xs ty f)):Ok fr (Ψ.addFz b xs) loc σ w:=by have hle:=hf.le_fz xs;refine⟨λa o v e=>?_,λa cts m e=>?_,λl o e=>(h.ob l o e).same hle (.refl _) (λ_ _=>rfl),h.dj,λl o a e hb=>?_,λa e q=>?_,h.pr,h.sz,h.os,λa y q=>?_,h.le0.trans hle,h.l0⟩;unfold Psi.addFz at e;dsimp only at e;split at e;rename_i hb;rw[hb,jl B];exact e;exact h.fz a o v e;obtain⟨arr,ty,h1,h2,h3⟩:=h.tb a cts m e;exact⟨arr,ty,h1,h2,λo ct ho hc=>by obtain⟨p,x,D,u,E⟩:=h3 o ct ho hc;exact⟨p,x,D,u,E.mono hle⟩⟩;obtain⟨h1,h2,h3⟩:=h.ow l o a e hb;refine⟨h1,h2,λq=>?_⟩;unfold Psi.addFz;dsimp only;rw[if_neg (λ(d:a=b)=>hf.ob l o e (by rw[<-d];exact hb))];exact h3 q;obtain⟨h1,h3⟩:=h.tf a e q;refine⟨h1,λu=>?_⟩;unfold Psi.addFz;dsimp only;have A:Ψ.tb a=some e:=q;rw[if_neg (λd=>by rw[d,hf.tb] at A;cases A)];exact h3 u;unfold Psi.addFz;dsimp only;rw[if_neg (λ(d:a=b)=>hf.pr (by rw[<-d];exact y))];exact h.pz a y q
theorem Ok.typed (h:Ok fr Ψ loc σ w){b m0:Nat}{xs:Array Value}{ty:TypeId}{cts:List CT}(hf:Free fr Ψ loc σ b)(d:m0<=xs.size)(E:w.heap[b]?=some (.cells xs ty (0,0)))
 (hx:∀o ct,o<m0->cts[o%cts.length]?=some ct->∃p x,xs[o]?=some x/\ct.ok p/\Rep Ψ p x):Ok fr (Ψ.addTb b (cts,m0)) loc σ w:=by have hle:=hf.le_tb (cts,m0);refine⟨h.fz,λa u m e=>?_,λl o e=>(h.ob l o e).same hle (.refl _) (λ_ _=>rfl),h.dj,λl o a e hb=>?_,λa e q=>?_,h.pr,h.sz,h.os,h.pz,h.le0.trans hle,h.l0⟩;unfold Psi.addTb at e;dsimp only at e;split at e;rename_i hb;injection e with e;injection e with e1 y;subst e1 y hb;exact⟨xs,ty,E,d,λo ct ho hc=>by obtain⟨p,x,A,B,D⟩:=hx o ct ho hc;exact⟨p,x,A,B,D.mono hle⟩⟩;obtain⟨arr,ty,h1,h2,h3⟩:=h.tb a u m e;exact⟨arr,ty,h1,h2,λo ct ho hc=>by obtain⟨p,x,A,B,D⟩:=h3 o ct ho hc;exact⟨p,x,A,B,D.mono hle⟩⟩;obtain⟨h1,h2,h3⟩:=h.ow l o a e hb;refine⟨h1,?_,h3⟩;unfold Psi.addTb;dsimp only;rw[if_neg (λ(y:a=b)=>hf.ob l o e (by rw[<-y];exact hb))];exact h2;unfold Psi.addTb at q;dsimp only at q;split at q;rename_i hb;rw[hb];exact⟨hf.pr,hf.fz⟩;exact h.tf a e q
theorem Ok.storeTyped (h:Ok fr Ψ loc σ w){b o m:Nat}{cts:List CT}{ct:CT}{p:PV}{x:Value}(u:Ψ.tb b=some (cts,m))(ho:o<m)(hc:cts[o%cts.length]?=some ct)(I:ct.ok p)(hr:Rep Ψ p x)
 {arr:Array Value} {ty:TypeId} (H:w.heap[b]?=some (.cells arr ty (0,0))):Ok fr Ψ loc σ (w.setRow b (arr.setIfInBounds o x)):=by have hs:Same (λk=>k=b) w (w.setRow b (arr.setIfInBounds o x)):=Same.row (K:=λk=>k=b) rfl _;refine⟨λa o v e=>?_,λa D m' e=>?_,λl o e=>?_,h.dj,h.ow,h.tf,λa e=>⟨(h.pr a e).1,?_⟩,aP h.sz hs.size,h.os,h.pz,h.le0,h.l0⟩;rw[lW (hs.block a (h.fz_lt e) (λf=>by rw[f,(h.tf b _ u).2] at e;cases e))];exact h.fz a o v e;by_cases hb:a=b;subst hb;rw[u] at e;injection e with e;injection e with e1 e2;subst e1 e2;obtain⟨y,A,h1,h2,h3⟩:=h.tb a cts m u;rw[H] at h1;injection h1 with h1;injection h1 with h1 h4;subst h1 h4;refine⟨_,_,yw w a arr _ ty _ H,by simpa using h2,λo2 E G d=>?_⟩;by_cases B:o=o2;subst B;rw[hc] at d;injection d with d;subst d;exact⟨p,x,by rw[Pz,if_pos rfl,if_pos (by omega)],I,hr⟩;obtain⟨J,L,N,O,U⟩:=h3 o2 E G d;exact⟨J,L,by rw[PD B];exact N,O,U⟩;obtain⟨y,A,h1,h2⟩:=h.tb a D m' e;exact⟨y,A,(hs.block a (kX h1) hb).trans h1,h2⟩;exact (h.ob l o e).same (.refl _) (.refl _) (λa hb=>hs.block a (h.blk_lt e hb) (λf=>by rw[f] at hb;have:=(h.ow l o b e hb).2.1;rw[u] at this;cases this));exact (hs.block a (by have:=(h.pr a e).1;have:=h.sz;omega) (λf=>(h.tf b _ u).1 (f▸e))).trans (h.pr a e).2
end
def Um:Value->AV
 | .slice none 0 0=> .emp
 |v=> .pv (.sc v)
def ofV:Value->Option AV
 | .agg cs=>if cs.all (·.oneCell') then some (.agg (cs.toList.map Um)) else none
 | .tuple _=>none
 |v=>some (Um v)
def lay (P:Program)(t:TypeId):Option (Bool×Nat):=
 match P.underlying t,P.info? t with
 |some d,some i=>some (d.isRow,i.size)
 |_,_=>none
def aS (P:Program)(t:TypeId):Option (TypeId×Nat×Nat):=
 match P.underlying t with
 |some (.slice e)=>(P.info? e).bind λi=>i.zero.bind λz=>if z.cells.size=i.size/\0<i.size/\i.bytes<=1000 then some (e,i.size,i.bytes) else none
 |_=>none
def aU (P:Program)(t:TypeId)(k:Nat):Option Nat:=
 match P.underlying t with
 |some (.struct fs)=>(fs[k]?).bind λf=>(P.info? f.type).bind λi=>if i.size=0 then none else some f.offset
 |_=>none
def dE (P:Program)(t:TypeId):Option (List AV):=
 (P.info? t).bind λi=>i.zero.bind λz=>if z.cells.all (·.oneCell') then some (z.cells.toList.map Um) else none
def Ju (P:Program)(t:TypeId):Option IntKind:=
 match P.underlying t with
 |some (.int k)=>some k
 |_=>none
def Nv (P:Program)(t:TypeId):Bool:=
 match P.underlying t with
 |some .bool=>true
 |_=>false
structure DO where
 ok:Prop
 out:AV->Prop
 rd:List Nat
 det:Bool
 upd:List (Nat×Option Obj)
def DO.val (v:AV):DO:=⟨True,λu=>u=v,[],true,[]⟩
def DO.chk (p:Prop)(v:AV):DO:=⟨p,λu=>u=v,[],true,[]⟩
def Sto.upds (σ:Sto):List (Nat×Option Obj)->Sto
 | []=>σ
 |(l,o)::r=>Sto.upds (σ.upd l o) r
def tH:BinOp->Value->Value->Option (Prop×Value)
 | .add,.int k a,.int k' b=>if k=k' then some (True,.int k (k.wrap (a+b))) else none
 | .sub,.int k a,.int k' b=>if k=k' then some (True,.int k (k.wrap (a-b))) else none
 | .mul,.int k a,.int k' b=>if k=k' then some (True,.int k (k.wrap (a*b))) else none
 | .quo,.int k a,.int k' b=>if k=k' then some (b≠0,.int k (k.wrap (a.tdiv b))) else none
 | .rem,.int k a,.int k' b=>if k=k' then some (b≠0,.int k (a.tmod b)) else none
 | .eql,.int k a,.int k' b=>if k=k' then some (True,.bool (a==b)) else none
 | .neq,.int k a,.int k' b=>if k=k' then some (True,.bool (a !=b)) else none
 | .lss,.int k a,.int k' b=>if k=k' then some (True,.bool (decide (a<b))) else none
 | .leq,.int k a,.int k' b=>if k=k' then some (True,.bool (decide (a<=b))) else none
 | .gtr,.int k a,.int k' b=>if k=k' then some (True,.bool (decide (a>b))) else none
 | .geq,.int k a,.int k' b=>if k=k' then some (True,.bool (decide (a>=b))) else none
 | .and,.int k a,.int k' b=>if k=k' then some (True,.int k (bits .and k a b)) else none
 | .or,.int k a,.int k' b=>if k=k' then some (True,.int k (bits .or k a b)) else none
 | .xor,.int k a,.int k' b=>if k=k' then some (True,.int k (bits .xor k a b)) else none
 | .shl,.int k a,.int _ b=>some (0<=b/\b<=k.bits,.int k (k.wrap (a *(2^b.toNat:Nat))))
 | .shr,.int k a,.int _ b=>some (0<=b/\b<=k.bits,.int k (a/(2^b.toNat:Nat)))
 | .eql,.string a,.string b=>some (True,.bool (a.toList==b.toList))
 | .neq,.string a,.string b=>some (True,.bool (!(a.toList==b.toList)))
 |_,_,_=>none
def Yj (P:Program)(t:TypeId):BinOp->Value->Value->Option Value
 | .eql,.bool a,.bool b=>if Nv P t=true then some (.bool (a==b)) else none
 | .neq,.bool a,.bool b=>if Nv P t=true then some (.bool (!(a==b))) else none
 |_,_,_=>none
def DSound (P:Program)(o:Oper)(e:Operand->Option AV)(σ:Sto)(lab:Nat)(d:DO):Prop:=
 ∀(fr:Fr) (Ψ:Psi) (loc:Loc) (w:World) (ρ:Operand->Value),(∀x v,e x=some v->RepA Ψ loc v (ρ x))->Ok fr Ψ loc σ w->loc lab=none->σ lab=none->d.ok->
  ∃r w' Ψ' loc' v,((execOp ρ o).run P w= .ok (.value r) w'/\RepA Ψ' loc' v r\/(execOp ρ o).run P w= .ok .skip w'/\o.dst=none)/\d.out v/\Ok fr Ψ' loc' (σ.upds d.upd) w'/\Ψ.le Ψ'/\(∀l,l≠lab->loc' l=loc l)/\Same (λk=>¬fr.pr k) w w'
section
variable {P : Program} {o : Oper} {e : Operand -> Option AV} {σ : Sto} {lab : Nat}
theorem DSound.pure {d:DO}(u:d.upd=[])(h:∀(Ψ:Psi) (loc:Loc) (fr:Fr) (w:World) (ρ:Operand->Value),(∀x v,e x=some v->RepA Ψ loc v (ρ x))->Ok fr Ψ loc σ w->d.ok->∃r v,(execOp ρ o).run P w= .ok (.value r) w/\RepA Ψ loc v r/\d.out v):DSound P o e σ lab d:=by intro fr Ψ loc w ρ he a A hσ y;obtain⟨r,v,h1,h2,h3⟩:=h Ψ loc fr w ρ he a y;refine⟨r,w,Ψ,loc,v,.inl ⟨h1,h2⟩,h3,?_,.refl _,λ_ _=>rfl,Same.refl _ _⟩;rw[u];exact a
theorem TY {x:Operand}{v:AV}(ho:o.op= .move x\/o.op= .assign x)(hx:e x=some v):DSound P o e σ lab (.val v):=
 .pure rfl λΨ loc fr w ρ he a d=>⟨ρ x,v,by rcases ho with ho|ho<;>simp[execOp,ho],he x v hx,rfl⟩
theorem aco {c a b:Operand}{t:Bool}{v:AV}(ho:o.op= .pick c a b)(hc:e c=some (.pv (.sc (.bool t))))(hx:(if t=true then e a else e b)=some v):DSound P o e σ lab (.val v):=
 .pure rfl λΨ loc fr w ρ he d u=>by
  have h1:=he c _ hc
  cases h1 with
  |
   pv h1=>
   generalize hr:ρ c=y at h1
   cases h1 with
   |
    sc h2=>
    cases t
    . exact⟨ρ b,v,by simp[execOp,ho,hr,asBool],he b v (by simpa using hx),rfl⟩
    . exact⟨ρ a,v,by simp[execOp,ho,hr,asBool],he a v (by simpa using hx),rfl⟩
theorem dK {Ψ:Psi}{loc:Loc}{v x:Value}(h:RepA Ψ loc (.pv (.sc v)) x):x=v/\v.oneCell'=true:=by
 cases h with
 |
  pv h=>cases h with
  |sc h=>exact ⟨rfl,h⟩
theorem wZ {Ψ:Psi}{loc:Loc}{v:Value}(h:v.oneCell'=true):RepA Ψ loc (Um v) v:=by unfold Um;split;exact .emp;exact .pv (.sc h)
theorem NV {i:TypeInfo}{t:TypeId}{d:TypeDesc}(h1:P.underlying t=some d)(w:World):(isAgg t).run P w= .ok d.isRow w:=by
 unfold isAgg;rw[tX,jy h1 w]
 cases d<;>simp[TypeDesc.isRow]
theorem yI {t:TypeId}{b:Bool}{n:Nat}(h:lay P t=some (b,n)):∃d i,P.underlying t=some d/\P.info? t=some i/\d.isRow=b/\i.size=n:=by
 unfold lay at h;split at h;rename_i d i h1 h2;injection h with h;injection h with h3 h4;exact⟨d,i,h1,h2,h3,h4⟩
 cases h
theorem dS {t a:TypeId}{s b:Nat}(h:aS P t=some (a,s,b)):P.underlying t=some (.slice a)/\∃i z,P.info? a=some i/\i.zero=some z/\i.size=s/\i.bytes=b/\z.cells.size=s/\0<s/\b<=1000:=by
 unfold aS at h;split at h
 . rename_i u h1
   cases h2:P.info? u with
   |none=>simp [h2] at h
   |
    some i=>
    cases h3:i.zero with
    |none=>simp [h2,h3] at h
    |
     some z=>
     simp only[h2,h3,uT] at h;split at h;rename_i h4;injection h with h;injection h with h5 d;injection d with d h7;subst h5 d h7;exact⟨h1,i,z,h2,h3,rfl,rfl,h4.1,h4.2.1,h4.2.2⟩
     cases h
 cases h
theorem VX {t:TypeId}{k off:Nat}(h:aU P t k=some off):∃fs f i,P.underlying t=some (.struct fs)/\fs[k]?=some f/\P.info? f.type=some i/\i.size≠0/\f.offset=off:=by
 unfold aU at h;split at h
 . rename_i fs h1
   cases h2:fs[k]? with
   |none=>simp [h2] at h
   |
    some f=>
    cases h3:P.info? f.type with
    |none=>simp [h2,h3] at h
    |
     some i=>
     simp only[h2,h3,uT] at h;split at h
     cases h
     rename_i h4;injection h with h;exact⟨fs,f,i,h1,h2,h3,h4,h⟩
 cases h
theorem vJ {t:TypeId}{cs:List AV}(h:dE P t=some cs):∃i z,P.info? t=some i/\i.zero=some z/\z.cells.all (·.oneCell')=true/\cs=z.cells.toList.map Um:=by
 unfold dE at h
 cases h2:P.info? t with
 |none=>simp [h2] at h
 |
  some i=>
  cases h3:i.zero with
  |none=>simp [h2,h3] at h
  |
   some z=>
   simp only[h2,h3,uT] at h;split at h;rename_i h4;injection h with h;exact⟨i,z,rfl,h3,h4,h.symm⟩
   cases h
theorem Ij {t:TypeId}{k:IntKind}(h:Ju P t=some k):P.underlying t=some (.int k):=by
 unfold Ju at h;split at h;rename_i a h1;injection h with h;rw[<-h];exact h1
 cases h
theorem sJ (b o n:Nat):(⟨b,o,none⟩:Addr).add n=⟨b,o+n,none⟩:=by cases n<;>simp[Addr.add]
theorem OI {x:Operand}{v:AV}(ho:o.op= .nilCheck x)(hx:e x=some v)(d:(match v with | .ptr .. | .rp .. | .fp .. | .tp .. =>True|_=>False)):DSound P o e σ lab (.val v):=
 .pure rfl λΨ loc fr w ρ he u A=>by
  have h:=he x v hx
  have:∃a,ρ x= .pointer (some a):=by
   generalize ρ x=y at h
   cases h<;>first|exact⟨_,rfl⟩|cases d
  obtain⟨a,hr⟩:=this
  exact⟨ρ x,v,by simp[execOp,ho,hr],h,rfl⟩
theorem afK {op:BinOp}{t D:TypeId}{x y:Operand}{a b v:Value}{p:Prop}(ho:o.op= .binOp op t x y D)(hx:e x=some (.pv (.sc a)))(E:e y=some (.pv (.sc b)))(u:tH op a b=some (p,v)):DSound P o e σ lab (.chk p (.pv (.sc v))):=
 .pure rfl λΨ loc fr w ρ he G H=>by
  obtain⟨h1,_⟩:=dK (he x _ hx)
  obtain⟨h2,_⟩:=dK (he y _ E)
  have d:v.oneCell'=true/\(execOp ρ o).run P w= .ok (.value v) w:=by
   simp only[execOp,ho,h1,h2]
   have A:p:=H
   unfold tH at u
   split at u<;>first
    |(cases u;done)
    |(
     split at u
     . rename_i hk
       injection u with u
       injection u with d hv2
       subst hk d hv2
       first
        |(refine⟨rfl,?_⟩;simp[eqGuard,binOp,Op.intArith,Op.intCmp,Op.intDiv];done)
        |(refine⟨rfl,?_⟩;simp[eqGuard,binOp,intBits_and,intBits_or,intBits_xor];done)
        |(refine⟨rfl,?_⟩;have B:=A;simp[eqGuard,binOp,Op.intArith,Op.intCmp,Op.intDiv,B];done)
     . cases u)
    |(
     injection u with u
     injection u with d hv2
     subst d hv2
     refine⟨rfl,?_⟩
     first
      |(simp[eqGuard,binOp,Op.stringOp];done)
      |(simp[eqGuard,binOp,shift_shl _ _ _ _ A.1 A.2,shift_shr _ _ _ _ A.1 A.2]))
  exact⟨v,_,d.2,.pv (.sc d.1),rfl⟩
theorem OQ {t:TypeId}(h:P.underlying t=some .bool)(a b:Bool)(w:World):(Op.equal t (.bool a) (.bool b)).run P w= .ok (a==b) w:=by show (Op.equalIn (9999+1) t (.bool a) (.bool b)).run P w=_;unfold Op.equalIn;rw[tX,jy h];rfl
theorem acp {op:BinOp}{t B:TypeId}{x y:Operand}{a b v:Value}(ho:o.op= .binOp op t x y B)(hx:e x=some (.pv (.sc a)))(D:e y=some (.pv (.sc b)))(d:Yj P t op a b=some v):DSound P o e σ lab (.val (.pv (.sc v))):=
 .pure rfl λΨ loc fr w ρ he E G=>by
  obtain⟨h1,_⟩:=dK (he x _ hx)
  obtain⟨h2,_⟩:=dK (he y _ D)
  have u:v.oneCell'=true/\(execOp ρ o).run P w= .ok (.value v) w:=by
   simp only[execOp,ho,h1,h2]
   unfold Yj at d
   split at d<;>first
    |(cases d;done)
    |(
     split at d
     . rename_i hk
       injection d with d
       subst d
       refine⟨rfl,?_⟩
       have A:P.underlying t=some .bool:=by
        unfold Nv at hk
        split at hk
        . assumption
        . cases hk
       simp[eqGuard,binOp,OQ A]
     . cases d)
  exact⟨v,_,u.2,.pv (.sc u.1),rfl⟩
theorem afL {t:TypeId}{x:Operand}{b:Bool}(ho:o.op= .unOp .not t x)(hx:e x=some (.pv (.sc (.bool b)))):DSound P o e σ lab (.val (.pv (.sc (.bool (!b))))):=
 .pure rfl λΨ loc fr w ρ he a d=>by
  obtain⟨h1,_⟩:=dK (he x _ hx)
  exact⟨.bool (!b),_,by simp[execOp,ho,h1,Op.unary],.pv (.sc rfl),rfl⟩
theorem afM {t:TypeId}{x:Operand}{k:IntKind}{n:Int}(ho:o.op= .unOp .neg t x)(hx:e x=some (.pv (.sc (.int k n)))):DSound P o e σ lab (.val (.pv (.sc (.int k (k.wrap (0-n)))))):=
 .pure rfl λΨ loc fr w ρ he a d=>by
  obtain⟨h1,_⟩:=dK (he x _ hx)
  exact⟨.int k (k.wrap (0-n)),_,by simp[execOp,ho,h1,Op.unary,Op.intArith],.pv (.sc rfl),rfl⟩
theorem afN {t:TypeId}{x:Operand}{k:IntKind}{n:Int}(ho:o.op= .unOp .xor t x)(hx:e x=some (.pv (.sc (.int k n)))):DSound P o e σ lab (.val (.pv (.sc (.int k (bits .xor k (if k.signed then -1 else k.max) n))))):=
 .pure rfl λΨ loc fr w ρ he a d=>by
  obtain⟨h1,_⟩:=dK (he x _ hx)
  exact⟨.int k (bits .xor k (if k.signed then -1 else k.max) n),_,by simp[execOp,ho,h1,Op.unary,intBits_xor],.pv (.sc rfl),rfl⟩
theorem acr {s t:TypeId}{x:Operand}{k a:IntKind}{n:Int}{d:TypeDesc}(ho:o.op= .convert s t x)(hs:P.underlying s=some d)(u:Ju P t=some a)(hx:e x=some (.pv (.sc (.int k n)))):DSound P o e σ lab (.val (.pv (.sc (.int a (a.wrap n))))):=
 .pure rfl λΨ loc fr w ρ he y A=>by
  obtain⟨h1,_⟩:=dK (he x _ hx)
  exact⟨.int a (a.wrap n),_,by simp[execOp,ho,h1,convert,jy hs,jy (Ij u),Conv.intToInt],.pv (.sc rfl),rfl⟩
theorem RS {x:Operand}{i:Nat}{vs:List AV}{v:AV}(ho:o.op= .extract x i)(hx:e x=some (.tup vs))(a:vs[i]?=some v):DSound P o e σ lab (.val v):=
 .pure rfl λΨ loc fr w ρ he d A=>by
  have h:=he x _ hx
  generalize u:ρ x=y at h
  cases h with
  |
   tup f hs hx hr=>
   have hi:=(bV.1 a).1
   exact⟨f i,v,by simp[execOp,ho,u,Instr.extract,hx i hi],hr i v a,rfl⟩
theorem KL {t:TypeId}{x:Operand}{k off:Nat}{v v':AV}(ho:o.op= .fieldAddr t x k)(hf:aU P t k=some off)(hx:e x=some v)
 (a:(match v with | .ptr l o=>some (AV.ptr l (o+off)) | .rp r k i o=>some (.rp r k i (o+off)) | .fp row o=>some (.fp row (o+off)) | .tp cts j=>some (.tp cts (j+off))|_=>none)=some v'):DSound P o e σ lab (.val v'):=
 .pure rfl λΨ loc fr w ρ he u A=>by
  obtain⟨fs,f,i,h1,h2,h3,h4,h5⟩:=VX hf
  have h:=he x v hx
  have run:∀b q,ρ x= .pointer (some ⟨b,q,none⟩)->(execOp ρ o).run P w= .ok (.value (.pointer (some ⟨b,q+off,none⟩))) w:=λb q hr=>by
   simp[execOp,ho,hr,Instr.fieldAt,jy h1,h2,Instr.sureAddr,fieldPlace,Go.sizeOf,typeInfo,h3,h4,sJ,h5]
  generalize d:ρ x=y at h
  cases h with
  |ptr hl=>injection a with a;subst a;exact⟨_,_,run _ _ d,.ptr hl,rfl⟩
  |rp hl=>injection a with a;subst a;exact⟨_,_,run _ _ d,by rw[nz];exact .rp hl,rfl⟩
  |fp g hf hr=>injection a with a;subst a;exact⟨_,_,run _ _ d,by rw[nz];exact .fp g hf hr,rfl⟩
  |tp ht h0 h6 hm=>injection a with a;subst a;exact⟨_,_,run _ _ d,by rw[nz];exact .tp ht h0 h6 hm,rfl⟩
  |_=>cases a
end
