/- Words. -/
import Derived.Test.YtfbkkgfkhhibfaaGreatRwrR
set_option linter.unusedVariables false
set_option linter.unusedSimpArgs false
set_option maxRecDepth 100000
set_option maxHeartbeats 8000000
namespace Go.Proofs.YtfbkkgfkhhibfaaGreat
open Go Go.RowKit Iv
structure In1 (w:World)(B sz bytes:Nat)(A:Option Addr)(n c:Nat)(X:List Value):Prop where
 lies:Lies w B sz A n X
 none_:A=none→c=0
 one:∀u∈X,u.oneCell'=true
 cap:n≤maxLen
 bytes_:n * bytes≤140737488355328
theorem In1.grown {w w':World}{B sz bytes n c:Nat}{A:Option Addr}{X:List Value}(h:In1 w B sz bytes A n c X)(hg:w.grownBy w' none)(hB:B≤w.heap.size):In1 w' B sz bytes A n c X:=
 ⟨h.lies.grown hg hB (fun g e=>nomatch e),h.none_,h.one,h.cap,h.bytes_⟩
def AtCell (X:List Value)(k:Nat):Prop:=∃(s:ByteArray) (a b:Int) (d:Bool) (e:Int),X[k * 5+0]?=some (.string s)∧X[k * 5+1]?=some (.int .i64 a)∧X[k * 5+2]?=some (.int .i64 b)∧X[k * 5+3]?=some (.bool d)∧X[k * 5+4]?=some (.int .i64 e)
def AtLock (X:List Value)(k:Nat):Prop:=∃(s:ByteArray) (d:Bool),X[k * 2+0]?=some (.string s)∧X[k * 2+1]?=some (.bool d)
def AtCond (X:List Value)(k:Nat):Prop:=∃(s:ByteArray) (a:Int),X[k * 2+0]?=some (.string s)∧X[k * 2+1]?=some (.int .i64 a)
def AtStr (X:List Value)(k:Nat):Prop:=∃(s:ByteArray),X[k * 1+0]?=some (.string s)
def AtSite (X:List Value)(k:Nat):Prop:=∃(a b e:Int),X[k * 3+0]?=some (.int .i64 a)∧X[k * 3+1]?=some (.int .i64 b)∧X[k * 3+2]?=some (.int .i64 e)
structure WIn (w:World)(B:Nat)(A0:Option Addr)(n0 c0:Nat)(X0:List Value)(A1:Option Addr)(n1 c1:Nat)(X1:List Value)(A2:Option Addr)(n2 c2:Nat)(X2:List Value)(A3:Option Addr)(n3 c3:Nat)(X3:List Value)(A4:Option Addr)(n4 c4:Nat)(X4:List Value)(A5:Option Addr)(n5 c5:Nat)(X5:List Value):Prop where
 h0:In1 w B 5 48 A0 n0 c0 X0
 h1:In1 w B 2 24 A1 n1 c1 X1
 h2:In1 w B 2 24 A2 n2 c2 X2
 h3:In1 w B 1 16 A3 n3 c3 X3
 h4:In1 w B 1 16 A4 n4 c4 X4
 h5:In1 w B 3 24 A5 n5 c5 X5
 s0:∀k,k < n0→AtCell X0 k
 s1:∀k,k < n1→AtLock X1 k
 s2:∀k,k < n2→AtCond X2 k
 s3:∀k,k < n3→AtStr X3 k
 s4:∀k,k < n4→AtStr X4 k
 s5:∀k,k < n5→AtSite X5 k
 a0:0 < n0→∃b o,A0=some ⟨b,o,none⟩
 a1:0 < n1→∃b o,A1=some ⟨b,o,none⟩
 a2:0 < n2→∃b o,A2=some ⟨b,o,none⟩
 a3:0 < n3→∃b o,A3=some ⟨b,o,none⟩
 a4:0 < n4→∃b o,A4=some ⟨b,o,none⟩
 a5:0 < n5→∃b o,A5=some ⟨b,o,none⟩
theorem WIn.grown {w w':World}{B:Nat}{A0:Option Addr}{n0 c0:Nat}{X0:List Value}{A1:Option Addr}{n1 c1:Nat}{X1:List Value}{A2:Option Addr}{n2 c2:Nat}{X2:List Value}{A3:Option Addr}{n3 c3:Nat}{X3:List Value}{A4:Option Addr}{n4 c4:Nat}{X4:List Value}{A5:Option Addr}{n5 c5:Nat}{X5:List Value}(h:WIn w B A0 n0 c0 X0 A1 n1 c1 X1 A2 n2 c2 X2 A3 n3 c3 X3 A4 n4 c4 X4 A5 n5 c5 X5)(hg:w.grownBy w' none)(hB:B≤w.heap.size):WIn w' B A0 n0 c0 X0 A1 n1 c1 X1 A2 n2 c2 X2 A3 n3 c3 X3 A4 n4 c4 X4 A5 n5 c5 X5:=
 ⟨h.h0.grown hg hB,h.h1.grown hg hB,h.h2.grown hg hB,h.h3.grown hg hB,h.h4.grown hg hB,h.h5.grown hg hB,h.s0,h.s1,h.s2,h.s3,h.s4,h.s5,h.a0,h.a1,h.a2,h.a3,h.a4,h.a5⟩
theorem In1.more {w:World}{B B' sz bytes n c:Nat}{A:Option Addr}{X:List Value}(h:In1 w B sz bytes A n c X)(hB:B≤B'):In1 w B' sz bytes A n c X:=⟨h.lies.more hB,h.none_,h.one,h.cap,h.bytes_⟩
theorem WIn.more {w:World}{B B':Nat}{A0:Option Addr}{n0 c0:Nat}{X0:List Value}{A1:Option Addr}{n1 c1:Nat}{X1:List Value}{A2:Option Addr}{n2 c2:Nat}{X2:List Value}{A3:Option Addr}{n3 c3:Nat}{X3:List Value}{A4:Option Addr}{n4 c4:Nat}{X4:List Value}{A5:Option Addr}{n5 c5:Nat}{X5:List Value}(h:WIn w B A0 n0 c0 X0 A1 n1 c1 X1 A2 n2 c2 X2 A3 n3 c3 X3 A4 n4 c4 X4 A5 n5 c5 X5)(hB:B≤B'):WIn w B' A0 n0 c0 X0 A1 n1 c1 X1 A2 n2 c2 X2 A3 n3 c3 X3 A4 n4 c4 X4 A5 n5 c5 X5:=
 ⟨h.h0.more hB,h.h1.more hB,h.h2.more hB,h.h3.more hB,h.h4.more hB,h.h5.more hB,h.s0,h.s1,h.s2,h.s3,h.s4,h.s5,h.a0,h.a1,h.a2,h.a3,h.a4,h.a5⟩
end Go.Proofs.YtfbkkgfkhhibfaaGreat
namespace Iv
structure MadeOk (x:Blk):Prop where
 t0:0≤x.thread
 t4:x.thread < 4
 f0:0≤x.first
 f4:x.first≤400
 len:x.recs.length≤64
 ok:okRecs x.thread (-1) x.recs=true
 fit:∀r∈x.recs,RecFit r
 sh:∀r∈x.recs,r.ev.deps.length≤100∧r.ev.from_.length≤100
theorem MadeOk.recOk {x:Blk}(h:MadeOk x):∀r∈x.recs,RecOk r:=tZ h.ok h.fit
theorem Dn (l:List Int)(h:l.length≤100):(je l).length≤1010:=by
 unfold je;have:=qC l 0;have:=aJ (n:=(l.length:Int)) ⟨by omega,by omega⟩;simp only[List.length_append];omega
theorem FV (l:List Rec):∀seq,(∀r∈l,RecOk r∧r.ev.deps.length≤100∧r.ev.from_.length≤100)→(aP seq l).length≤2070 * l.length:=by
 induction l with
 | nil=>intro seq _;simp[aP]
 |
  cons r t ih=>
  intro seq h;obtain⟨h0,h1,h2⟩:=h r (by simp);have h3:=ih r.seq fun q hq=>h q (by simp[hq])
  have:=aJ (dh (r.seq - seq));have:=aJ h0.kind;have:=aJ h0.obj;have:=aJ h0.value;have:=aJ h0.site;have:=Dn _ h1;have:=Dn _ h2;simp only[aP,bD,List.length_append,List.length_cons];omega
theorem MadeOk.bytes {x:Blk}(h:MadeOk x):(encode x).1.length≤200000:=by
 unfold encode;split
 · rename_i hf
   have hl:=h.len;obtain⟨z0,z1,z2,z3,z4,z5,z6⟩:=dS hf;have hpl:=FV x.recs (-1) (fun r hr=>⟨h.recOk r hr,h.sh r hr⟩);have hq:=dC (aP (-1) x.recs);have q1:=aJ (n:=x.first) ⟨by omega,by omega⟩;have q2:=aJ (n:=(x.recs.length:Int)) ⟨by omega,by omega⟩;have q3:=aJ (n:=((aP (-1) x.recs).length:Int)) ⟨by omega,by omega⟩;have q4:=aJ (n:=((pack (aP (-1) x.recs)).length:Int)) ⟨by omega,by omega⟩;show (ak x).length≤_;unfold ak aU eQ;simp only[List.length_append,List.length_cons,jK];omega
 · simp
structure EvOk (n:Nat)(k:Int)(e:Ev):Prop where
 th0:0≤e.thread
 thn:e.thread < n
 kd1:1≤e.kind
 kd23:e.kind≤23
 obj:inI64 e.obj
 val:inI64 e.value
 s0: -1≤e.site
 s1:e.site≤60
 dp:(e.deps.length:Int)≤k∧∀x∈e.deps,0≤x∧x < k
 fr:(e.from_.length:Int)≤k∧∀x∈e.from_,0≤x∧x < k
theorem EvOk.fit {n:Nat}{k:Nat}{e:Ev}(h:EvOk n k e)(hn:n≤4)(hk:k≤400):RecFit ⟨(k:Int),e⟩∧e.deps.length≤400∧e.from_.length≤400:=by
 have h1:=h.th0;have h2:=h.thn;have h3:=h.kd1;have h4:=h.kd23;have h5:=h.s0;have h6:=h.s1;have l1:=h.dp.1;have l2:=h.fr.1;refine⟨⟨⟨by show (-9223372036854775808:Int)≤(k:Int);omega,by show (k:Int)≤9223372036854775807;omega⟩,⟨by show (-9223372036854775808:Int)≤e.thread;omega,by show e.thread≤9223372036854775807;omega⟩,⟨by show (-9223372036854775808:Int)≤e.kind;omega,by show e.kind≤9223372036854775807;omega⟩,h.obj,h.val,⟨by show (-9223372036854775808:Int)≤e.site;omega,by show e.site≤9223372036854775807;omega⟩,fun x hx=>?_,fun x hx=>?_⟩,by omega,by omega⟩
 · have:=h.dp.2 x hx;exact⟨by omega,by omega⟩
 · have:=h.fr.2 x hx;exact⟨by omega,by omega⟩
end Iv
namespace Go.Proofs.YtfbkkgfkhhibfaaGreat
open Go Go.RowKit Iv
structure TrN (w:World)(m n:Nat)(A:Option Addr)(l:List Ev):Prop where
 n1:1≤n
 n4:n≤4
 len:l.length≤m
 evs:Evs w w.heap.size A l.length l
 ok:∀(k:Nat) e,l[k]?=some e→EvOk n k e
def adG (w:World)(B m:Nat)(e:Ending)(w':World):Prop:=∃(A0:Option Addr) (n0 c0:Nat) (X0:List Value) (A1:Option Addr) (n1 c1:Nat) (X1:List Value) (A2:Option Addr) (n2 c2:Nat) (X2:List Value) (A3:Option Addr) (n3 c3:Nat) (X3:List Value) (A4:Option Addr) (n4 c4:Nat) (X4:List Value) (A5:Option Addr) (n5 c5:Nat) (X5:List Value) (A:Option Addr) (c:Nat) (l:List Ev),e= .returned (.agg #[.slice A0 n0 c0,.slice A1 n1 c1,.slice A2 n2 c2,.slice A3 n3 c3,.slice A4 n4 c4,.slice A5 n5 c5,.slice A l.length c])∧l.length≤c∧TrN w' m n4 A l∧WIn w' w'.heap.size A0 n0 c0 X0 A1 n1 c1 X1 A2 n2 c2 X2 A3 n3 c3 X3 A4 n4 c4 X4 A5 n5 c5 X5∧(∀W' g,w'.grownBy W' (some g)→B≤g→g < w.heap.size→Evs W' w'.heap.size A l.length l∧WIn W' w'.heap.size A0 n0 c0 X0 A1 n1 c1 X1 A2 n2 c2 X2 A3 n3 c3 X3 A4 n4 c4 X4 A5 n5 c5 X5)∧w.grownBy w' none
structure PlnG (n:Nat)(p:Pln):Prop where
 c1:1≤p.cap
 c8:p.cap≤8
 s0:0≤p.stop
 s1:p.stop≤255
 fl:p.flushes.length≤20
 fk:∀f∈p.flushes,0≤f.1∧f.1≤255∧0≤f.2∧f.2 < n
 cl:p.cuts.length≤n
 ck:∀k∈p.cuts,0≤k∧k≤255
theorem Vz {l:List Ev}{n:Nat}(h4:n≤4)(hl:l.length≤100)(he:∀(k:Nat) e,l[k]?=some e→EvOk n k e):∀e∈l,RecFit ⟨0,e⟩:=by
 intro e hm;obtain⟨k,hk⟩:=List.mem_iff_getElem?.1 hm;have hkl:=(List.getElem?_eq_some_iff.1 hk).1;obtain⟨h,_,_⟩:=(he k e hk).fit h4 (by omega);exact⟨⟨by show (-9223372036854775808:Int)≤0;decide,by show (0:Int)≤9223372036854775807;decide⟩,h.thread,h.kind,h.obj,h.value,h.site,h.deps,h.from_⟩
theorem rq {w0 wr w4:World}{o:Option Nat}(h:w0.grownBy wr none)(h4:wr.grownBy w4 o)(ho:∀g,o=some g→w0.heap.size≤g):w0.grownBy w4 none:=
 ⟨h4.os.trans h.os,h4.tape.trans h.tape,h4.output.trans h.output,Nat.le_trans h.size h4.size,fun k hk _=>(h4.block k (Nat.lt_of_lt_of_le hk h.size) (fun e=>by have:=ho k e.symm;omega)).trans (h.block k hk (fun e=>nomatch e))⟩
def RZ:Prop:=∀(w:World) (B:Nat) (A1:Option Addr) (n1 c1:Nat) (xs:Bytes) (hx:Lies w B 1 A1 n1 (xs.map bv)) (hc1:n1≤c1) (hn1:n1≤1000) (ho1:A1=none→c1=0) (A2:Option Addr) (m c2:Nat) (ys:Bytes) (hy:Lies w B 1 A2 m (ys.map bv)) (hc2:m≤c2) (hm:m≤1000) (ho2:A2=none→c2=0),
 Calls Tryz.prog 9 #[.slice A1 n1 c1,.slice A2 m c2] w fun e w'=>adG w B m e w'
def MI (l:List (Int×Int)):List Value:=l.flatMap fun f=> [.int .i64 f.1,.int .i64 f.2]
theorem Eg:∀l:List (Int×Int),(MI l).length=l.length * 2
 | []=>rfl
 |
  f :: r=>by
  have:=Eg r
  unfold MI at this⊢
  rw[List.flatMap_cons,List.length_append,this,List.length_cons]
  simp only[List.length_cons,List.length_nil]
  omega
theorem Vl (l:List (Int×Int))(f:Int×Int):MI (l++ [f])=MI l++ [.int .i64 f.1,.int .i64 f.2]:=by
 unfold MI;rw[List.flatMap_append];rfl
theorem Eh:∀(l:List (Int×Int)) (k:Nat) (f:Int×Int),l[k]?=some f→(MI l)[k * 2]?=some (.int .i64 f.1)∧(MI l)[k * 2+1]?=some (.int .i64 f.2)
 | [],k,f,h=>by simp at h
 |
  g :: r,0,f,h=>by
  simp only[List.getElem?_cons_zero,Option.some.injEq] at h
  subst h
  exact⟨rfl,rfl⟩
 |
  g :: r,k+1,f,h=>by
  have:=Eh r k f (by simpa using h)
  have e:MI (g :: r)= .int .i64 g.1 :: .int .i64 g.2 :: MI r:=rfl
  rw[e,show (k+1)* 2=(k * 2+1)+1 by omega]
  exact this
def OwF (w:World)(base:Nat)(v:Value)(l:List (Int×Int)):Prop:=
 w.ownsRow base 68 2 v l.length (MI l)∨(l= []∧∃A,v= .slice A 0 0)
theorem OwF.fls {w:World}{base:Nat}{v:Value}{l:List (Int×Int)}(h:OwF w base v l):∃A c,v= .slice A l.length c∧Fls w w.heap.size A l.length l:=by
 rcases h with h | ⟨rfl,A,rfl⟩
 · obtain⟨A,c,hv,_,_,hl,_⟩:=aj h;refine⟨A,c,hv,rfl,fun k f hk=>?_⟩;have hlt:=(List.getElem?_eq_some_iff.1 hk).1;obtain⟨g,cc,hv2,_,hg⟩:=h.form (by omega);rw[hv] at hv2;injection hv2 with e1 _ _;subst e1;have hc:=h.cells (g:=g) (by rw[hv];rfl);obtain⟨h1,h2⟩:=Eh l k f hk;have a:∀j,(⟨g,0,none⟩:Addr).add j=⟨g,j,none⟩:=fun j=>by unfold Addr.add;split <;> simp_all
   refine⟨g,0,rfl,hg,?_,?_⟩
   · have:=hc _ _ h1;rw[a] at this;rw[Nat.zero_add];exact this
   · have:=hc _ _ h2;rw[a] at this;rw[Nat.zero_add];exact this
 · exact⟨A,0,rfl,rfl,fun k f hk=>by simp at hk⟩
def TL:Prop:=∀(w:World) (n cap stop:Nat) (h1:1≤n) (h4:n≤4) (hc:cap < 256) (hs:stop < 256) (A1:Option Addr) (n1 c1 B1:Nat) (xs:Bytes) (hx:Lies w B1 1 A1 n1 (xs.map bv)) (hc1:n1≤c1) (hm1:c1≤maxLen) (ho1:A1=none→c1=0) (A2:Option Addr) (n2 c2 B2:Nat) (ys:Bytes) (hy:Lies w B2 1 A2 n2 (ys.map bv)) (hc2:n2≤c2) (hm2:c2≤maxLen) (ho2:A2=none→c2=0),
 Calls Tryz.prog 20 #[.agg #[.int .u8 (cap:Int),.int .u8 (stop:Int),.slice A1 n1 c1,.slice A2 n2 c2],.int .i64 (n:Int)] w fun e w'=>
  ∃(p:Pln) (Af:Option Addr) (cf:Nat) (Ac:Option Addr) (cc:Nat),e= .returned (.agg (qF p Af p.flushes.length cf Ac p.cuts.length cc))∧PlnG n p∧OwF w' w.heap.size (.slice Af p.flushes.length cf) p.flushes∧Lies w' w'.heap.size 1 Ac p.cuts.length (p.cuts.map iv)∧w.grownBy w' none
structure Two (w:World)(B sz:Nat)(A A':Option Addr)(n:Nat)(X:List Value):Prop where
 l:Lies w B sz A n X
 l':Lies w B sz A' n X
 a:0 < n→∃b o,A=some ⟨b,o,none⟩
 a':0 < n→∃b o,A'=some ⟨b,o,none⟩
theorem Two.grown {w w':World}{B sz n:Nat}{A A':Option Addr}{X:List Value}(h:Two w B sz A A' n X)(hg:w.grownBy w' none)(hB:B≤w.heap.size):Two w' B sz A A' n X:=
 ⟨h.l.grown hg hB (fun _ e=>nomatch e),h.l'.grown hg hB (fun _ e=>nomatch e),h.a,h.a'⟩
theorem Tm (b o m:Nat):(⟨b,o,none⟩:Addr).add m=⟨b,o+m,none⟩:=by cases m <;> simp[Addr.add]
theorem Two.at {w:World}{B sz n k:Nat}{A A':Option Addr}{X:List Value}(h:Two w B sz A A' n X)(hk:k < n)(hs:0 < sz):
 ∃b o b' o',A=some ⟨b,o,none⟩∧A'=some ⟨b',o',none⟩∧(∀j u,X[k * sz+j]?=some u→w.cell? ⟨b,o+k * sz+j,none⟩=some u)∧(∀j u,X[k * sz+j]?=some u→w.cell? ⟨b',o'+k * sz+j,none⟩=some u):=by
 obtain⟨b,o,rfl⟩:=h.a (by omega);obtain⟨b',o',rfl⟩:=h.a' (by omega);obtain⟨ad,e1,_,c⟩:=h.l.2 (by omega);obtain⟨ad',e1',_,c'⟩:=h.l'.2 (by omega);injection e1 with e1;injection e1' with e1';subst e1 e1';exact⟨b,o,b',o',rfl,rfl,fun j u hu=>by rw[Nat.add_assoc,←Tm];exact c _ u hu,fun j u hu=>by rw[Nat.add_assoc,←Tm];exact c' _ u hu⟩
theorem Aq (w:World)(B:Nat)(A0 KQ:Option Addr)(n0 c0 c0':Nat)(X0:List Value)(A1 KR:Option Addr)(n1 c1 c1':Nat)(X1:List Value)(A2 KT:Option Addr)(n2 c2 c2':Nat)(X2:List Value)(A3 KU:Option Addr)(n3 c3 c3':Nat)(X3:List Value)(A4 KW:Option Addr)(n4 c4 N8:Nat)(X4:List Value)(A5 KX:Option Addr)(n5 c5 sF:Nat)(X5:List Value)(h0:Two w B 5 A0 KQ n0 X0)(h1:Two w B 2 A1 KR n1 X1)(h2:Two w B 2 A2 KT n2 X2)(h3:Two w B 1 A3 KU n3 X3)(h4:Two w B 1 A4 KW n4 X4)(h5:Two w B 3 A5 KX n5 X5)(s0:∀k,k < n0→AtCell X0 k)(s1:∀k,k < n1→AtLock X1 k)(s2:∀k,k < n2→AtCond X2 k)(s3:∀k,k < n3→AtStr X3 k)(s4:∀k,k < n4→AtStr X4 k)(s5:∀k,k < n5→AtSite X5 k)(hB:B≤w.heap.size)(m0:n0≤9000000000000000)(m1:n1≤9000000000000000)(m2:n2≤9000000000000000)(m3:n3≤9000000000000000)(m4:n4≤9000000000000000)(m5:n5≤9000000000000000):
 Calls Tryz.prog 40 #[.agg #[.slice A0 n0 c0,.slice A1 n1 c1,.slice A2 n2 c2,.slice A3 n3 c3,.slice A4 n4 c4,.slice A5 n5 c5],.agg #[.slice KQ n0 c0',.slice KR n1 c1',.slice KT n2 c2',.slice KU n3 c3',.slice KW n4 N8,.slice KX n5 sF]] w fun e w'=>e= .returned (.bool true)∧w.grownBy w' none:=by
 obtain⟨W,hW⟩:∃W,W=(w.alloc (.cells #[.slice A0 n0 c0,.slice A1 n1 c1,.slice A2 n2 c2,.slice A3 n3 c3,.slice A4 n4 c4,.slice A5 n5 c5] 31)).alloc (.cells #[.slice KQ n0 c0',.slice KR n1 c1',.slice KT n2 c2',.slice KU n3 c3',.slice KW n4 N8,.slice KX n5 sF] 31):=⟨_,rfl⟩
 have hg:w.grownBy W none:=by
  rw[hW];exact af (World.grownBy_alloc w _ none) (World.grownBy_alloc _ _ none) (.inl rfl)
 have hb0:Held W w.heap.size 31 #[.slice A0 n0 c0,.slice A1 n1 c1,.slice A2 n2 c2,.slice A3 n3 c3,.slice A4 n4 c4,.slice A5 n5 c5]:=by rw[hW];exact (Held.new w _ _).alloc _
 have hb1:Held W (w.heap.size+1) 31 #[.slice KQ n0 c0',.slice KR n1 c1',.slice KT n2 c2',.slice KU n3 c3',.slice KW n4 N8,.slice KX n5 sF]:=by
  rw[hW];have:=Held.new (w.alloc (.cells #[.slice A0 n0 c0,.slice A1 n1 c1,.slice A2 n2 c2,.slice A3 n3 c3,.slice A4 n4 c4,.slice A5 n5 c5] 31)) 31 #[.slice KQ n0 c0',.slice KR n1 c1',.slice KT n2 c2',.slice KU n3 c3',.slice KW n4 N8,.slice KX n5 sF];rwa [World.size_alloc] at this
 have HB0:=ae hb0;have HB1:=ae hb1;have HG:=ae hg;have H0:=ae (h0.grown hg hB);have S0:=ae s0;have q0:((n0:Int) !=(n0:Int))=false:=by simp
 have H1:=ae (h1.grown hg hB);have S1:=ae s1;have q1:((n1:Int) !=(n1:Int))=false:=by simp
 have H2:=ae (h2.grown hg hB);have S2:=ae s2;have q2:((n2:Int) !=(n2:Int))=false:=by simp
 have H3:=ae (h3.grown hg hB);have S3:=ae s3;have q3:((n3:Int) !=(n3:Int))=false:=by simp
 have H4:=ae (h4.grown hg hB);have S4:=ae s4;have q4:((n4:Int) !=(n4:Int))=false:=by simp
 have H5:=ae (h5.grown hg hB);have S5:=ae s5;have q5:((n5:Int) !=(n5:Int))=false:=by simp
 have HW:=ae hW;clear hW hb0 hb1 hg h0 h1 h2 h3 h4 h5 s0 s1 s2 s3 s4 s5;go_enter Tryz.func40,Tryz.ntmps40;go_wp2_with fail;rw[show (w.alloc (.cells #[.slice A0 n0 c0,.slice A1 n1 c1,.slice A2 n2 c2,.slice A3 n3 c3,.slice A4 n4 c4,.slice A5 n5 c5] 31)).alloc (.cells #[.slice KQ n0 c0',.slice KR n1 c1',.slice KT n2 c2',.slice KU n3 c3',.slice KW n4 N8,.slice KX n5 sF] 31)=W from HW.out.symm];go_loopw [5] (fun iv wr=>∃k q:Nat,iv= .int .i64 (k:Int)∧k≤n0∧wr=W.drewN q) (fun iv _=>n0 - (intOf iv).toNat)
 case atStart=>exact ⟨0,0,rfl,Nat.zero_le _,rfl⟩
 case round=>
  obtain⟨k,N9,rfl,hk,rfl⟩:=hrel;have e0:(W.drewN N9).cell? ⟨w.heap.size,0,none⟩=some (.slice A0 n0 c0):=HB0.out.cell 0;have f0:(W.drewN N9).cell? ⟨w.heap.size+1,0,none⟩=some (.slice KQ n0 c0'):=HB1.out.cell 0;by_cases hlt:k < n0
  · obtain⟨gb,go,gc,gp,hA,hA',g0,g1⟩:=H0.out.at hlt (by omega);obtain⟨s_,a_,b_,d_,e_,x0,x1,x2,x3,x4⟩:=S0.out k hlt;have Tn:(W.drewN N9).cell? ⟨gb,go+k * 5,none⟩=some (.string s_):=by simpa using g0 0 _ x0
    have Tq:(W.drewN N9).cell? ⟨gc,gp+k * 5,none⟩=some (.string s_):=by simpa using g1 0 _ x0
    have y1_:(W.drewN N9).cell? ⟨gb,go+k * 5+1,none⟩=some (.int .i64 a_):=by simpa using g0 1 _ x1
    have z1_:(W.drewN N9).cell? ⟨gc,gp+k * 5+1,none⟩=some (.int .i64 a_):=by simpa using g1 1 _ x1
    have y2_:(W.drewN N9).cell? ⟨gb,go+k * 5+2,none⟩=some (.int .i64 b_):=by simpa using g0 2 _ x2
    have z2_:(W.drewN N9).cell? ⟨gc,gp+k * 5+2,none⟩=some (.int .i64 b_):=by simpa using g1 2 _ x2
    have y3_:(W.drewN N9).cell? ⟨gb,go+k * 5+3,none⟩=some (.bool d_):=by simpa using g0 3 _ x3
    have z3_:(W.drewN N9).cell? ⟨gc,gp+k * 5+3,none⟩=some (.bool d_):=by simpa using g1 3 _ x3
    have y4_:(W.drewN N9).cell? ⟨gb,go+k * 5+4,none⟩=some (.int .i64 e_):=by simpa using g0 4 _ x4
    have z4_:(W.drewN N9).cell? ⟨gc,gp+k * 5+4,none⟩=some (.int .i64 e_):=by simpa using g1 4 _ x4
    have i0:(0:Int)≤(k:Int):=by omega
    have i1:(k:Int) < (n0:Int):=by omega
    clear g0 g1 x0 x1 x2 x3 x4;subst hA hA';go_upto_region 6 with fail;go_region_held3 (fun w'=>w'.cell? ⟨w.heap.size,0,none⟩=some (.slice (some ⟨gb,go,none⟩) n0 c0)∧w'.cell? ⟨w.heap.size+1,0,none⟩=some (.slice (some ⟨gc,gp,none⟩) n0 c0')∧w'.cell? ⟨gb,go+k * 5,none⟩=some (.string s_)∧w'.cell? ⟨gc,gp+k * 5,none⟩=some (.string s_)∧w'.cell? ⟨gb,go+k * 5+1,none⟩=some (.int .i64 a_)∧w'.cell? ⟨gc,gp+k * 5+1,none⟩=some (.int .i64 a_)∧w'.cell? ⟨gb,go+k * 5+2,none⟩=some (.int .i64 b_)∧w'.cell? ⟨gc,gp+k * 5+2,none⟩=some (.int .i64 b_)∧w'.cell? ⟨gb,go+k * 5+3,none⟩=some (.bool d_)∧w'.cell? ⟨gc,gp+k * 5+3,none⟩=some (.bool d_)∧w'.cell? ⟨gb,go+k * 5+4,none⟩=some (.int .i64 e_)∧w'.cell? ⟨gc,gp+k * 5+4,none⟩=some (.int .i64 e_)) (first | exact⟨e0,f0,Tn,Tq,y1_,z1_,y2_,z2_,y3_,z3_,y4_,z4_⟩ | fail) (first | fail);go_wp2_with fail;go_roundw
    case rel=>exact ⟨k+1,N9+1,by go_num,by omega,rfl⟩
    case measure=>simp [intOf];omega
  · obtain rfl:k=n0:=by omega
    go_wp2_with fail;go_loopw [6] (fun iv wr=>∃k q:Nat,iv= .int .i64 (k:Int)∧k≤n1∧wr=W.drewN q) (fun iv _=>n1 - (intOf iv).toNat)
    case atStart=>exact ⟨0,N9,rfl,Nat.zero_le _,rfl⟩
    case round=>
     obtain⟨k,YV,rfl,hk,rfl⟩:=hrel;have e1:(W.drewN YV).cell? ⟨w.heap.size,1,none⟩=some (.slice A1 n1 c1):=HB0.out.cell 1;have f1:(W.drewN YV).cell? ⟨w.heap.size+1,1,none⟩=some (.slice KR n1 c1'):=HB1.out.cell 1;by_cases hlt:k < n1
     · obtain⟨gb,go,gc,gp,hA,hA',g0,g1⟩:=H1.out.at hlt (by omega);obtain⟨s_,d_,x0,x1⟩:=S1.out k hlt;have Tn:(W.drewN YV).cell? ⟨gb,go+k * 2,none⟩=some (.string s_):=by simpa using g0 0 _ x0
       have Tq:(W.drewN YV).cell? ⟨gc,gp+k * 2,none⟩=some (.string s_):=by simpa using g1 0 _ x0
       have y1_:(W.drewN YV).cell? ⟨gb,go+k * 2+1,none⟩=some (.bool d_):=by simpa using g0 1 _ x1
       have z1_:(W.drewN YV).cell? ⟨gc,gp+k * 2+1,none⟩=some (.bool d_):=by simpa using g1 1 _ x1
       have i0:(0:Int)≤(k:Int):=by omega
       have i1:(k:Int) < (n1:Int):=by omega
       clear g0 g1 x0 x1;subst hA hA';go_upto_region 11 with fail;go_region_held3 (fun w'=>w'.cell? ⟨w.heap.size,1,none⟩=some (.slice (some ⟨gb,go,none⟩) n1 c1)∧w'.cell? ⟨w.heap.size+1,1,none⟩=some (.slice (some ⟨gc,gp,none⟩) n1 c1')∧w'.cell? ⟨gb,go+k * 2,none⟩=some (.string s_)∧w'.cell? ⟨gc,gp+k * 2,none⟩=some (.string s_)∧w'.cell? ⟨gb,go+k * 2+1,none⟩=some (.bool d_)∧w'.cell? ⟨gc,gp+k * 2+1,none⟩=some (.bool d_)) (first | exact⟨e1,f1,Tn,Tq,y1_,z1_⟩ | fail) (first | fail);go_wp2_with fail;go_roundw
       case rel=>exact ⟨k+1,YV+1,by go_num,by omega,rfl⟩
       case measure=>simp [intOf];omega
     · obtain rfl:k=n1:=by omega
       go_wp2_with fail;go_loopw [7] (fun iv wr=>∃k q:Nat,iv= .int .i64 (k:Int)∧k≤n2∧wr=W.drewN q) (fun iv _=>n2 - (intOf iv).toNat)
       case atStart=>exact ⟨0,YV,rfl,Nat.zero_le _,rfl⟩
       case round=>
        obtain⟨k,YW,rfl,hk,rfl⟩:=hrel;have e2:(W.drewN YW).cell? ⟨w.heap.size,2,none⟩=some (.slice A2 n2 c2):=HB0.out.cell 2;have f2:(W.drewN YW).cell? ⟨w.heap.size+1,2,none⟩=some (.slice KT n2 c2'):=HB1.out.cell 2;by_cases hlt:k < n2
        · obtain⟨gb,go,gc,gp,hA,hA',g0,g1⟩:=H2.out.at hlt (by omega);obtain⟨s_,a_,x0,x1⟩:=S2.out k hlt;have Tn:(W.drewN YW).cell? ⟨gb,go+k * 2,none⟩=some (.string s_):=by simpa using g0 0 _ x0
          have Tq:(W.drewN YW).cell? ⟨gc,gp+k * 2,none⟩=some (.string s_):=by simpa using g1 0 _ x0
          have y1_:(W.drewN YW).cell? ⟨gb,go+k * 2+1,none⟩=some (.int .i64 a_):=by simpa using g0 1 _ x1
          have z1_:(W.drewN YW).cell? ⟨gc,gp+k * 2+1,none⟩=some (.int .i64 a_):=by simpa using g1 1 _ x1
          have i0:(0:Int)≤(k:Int):=by omega
          have i1:(k:Int) < (n2:Int):=by omega
          clear g0 g1 x0 x1;subst hA hA';go_upto_region 16 with fail;go_region_held3 (fun w'=>w'.cell? ⟨w.heap.size,2,none⟩=some (.slice (some ⟨gb,go,none⟩) n2 c2)∧w'.cell? ⟨w.heap.size+1,2,none⟩=some (.slice (some ⟨gc,gp,none⟩) n2 c2')∧w'.cell? ⟨gb,go+k * 2,none⟩=some (.string s_)∧w'.cell? ⟨gc,gp+k * 2,none⟩=some (.string s_)∧w'.cell? ⟨gb,go+k * 2+1,none⟩=some (.int .i64 a_)∧w'.cell? ⟨gc,gp+k * 2+1,none⟩=some (.int .i64 a_)) (first | exact⟨e2,f2,Tn,Tq,y1_,z1_⟩ | fail) (first | fail);go_wp2_with fail;go_roundw
          case rel=>exact ⟨k+1,YW+1,by go_num,by omega,rfl⟩
          case measure=>simp [intOf];omega
        · obtain rfl:k=n2:=by omega
          go_wp2_with fail;go_loopw [8] (fun iv wr=>∃k q:Nat,iv= .int .i64 (k:Int)∧k≤n3∧wr=W.drewN q) (fun iv _=>n3 - (intOf iv).toNat)
          case atStart=>exact ⟨0,YW,rfl,Nat.zero_le _,rfl⟩
          case round=>
           obtain⟨k,q3_,rfl,hk,rfl⟩:=hrel;have e3:(W.drewN q3_).cell? ⟨w.heap.size,3,none⟩=some (.slice A3 n3 c3):=HB0.out.cell 3;have f3:(W.drewN q3_).cell? ⟨w.heap.size+1,3,none⟩=some (.slice KU n3 c3'):=HB1.out.cell 3;by_cases hlt:k < n3
           · obtain⟨gb,go,gc,gp,hA,hA',g0,g1⟩:=H3.out.at hlt (by omega);obtain⟨s_,x0⟩:=S3.out k hlt;have Tn:(W.drewN q3_).cell? ⟨gb,go+k,none⟩=some (.string s_):=by simpa using g0 0 _ x0
             have Tq:(W.drewN q3_).cell? ⟨gc,gp+k,none⟩=some (.string s_):=by simpa using g1 0 _ x0
             have i0:(0:Int)≤(k:Int):=by omega
             have i1:(k:Int) < (n3:Int):=by omega
             clear g0 g1 x0;subst hA hA';go_upto_region 21 with fail;go_region_held3 (fun w'=>w'.cell? ⟨w.heap.size,3,none⟩=some (.slice (some ⟨gb,go,none⟩) n3 c3)∧w'.cell? ⟨w.heap.size+1,3,none⟩=some (.slice (some ⟨gc,gp,none⟩) n3 c3')∧w'.cell? ⟨gb,go+k,none⟩=some (.string s_)∧w'.cell? ⟨gc,gp+k,none⟩=some (.string s_)) (first | exact⟨e3,f3,Tn,Tq⟩ | fail) (first | fail);go_wp2_with fail;go_roundw
             case rel=>exact ⟨k+1,q3_+1,by go_num,by omega,rfl⟩
             case measure=>simp [intOf];omega
           · obtain rfl:k=n3:=by omega
             go_wp2_with fail;go_loopw [9] (fun iv wr=>∃k q:Nat,iv= .int .i64 (k:Int)∧k≤n4∧wr=W.drewN q) (fun iv _=>n4 - (intOf iv).toNat)
             case atStart=>exact ⟨0,q3_,rfl,Nat.zero_le _,rfl⟩
             case round=>
              obtain⟨k,q4_,rfl,hk,rfl⟩:=hrel;have e4:(W.drewN q4_).cell? ⟨w.heap.size,4,none⟩=some (.slice A4 n4 c4):=HB0.out.cell 4;have f4:(W.drewN q4_).cell? ⟨w.heap.size+1,4,none⟩=some (.slice KW n4 N8):=HB1.out.cell 4;by_cases hlt:k < n4
              · obtain⟨gb,go,gc,gp,hA,hA',g0,g1⟩:=H4.out.at hlt (by omega);obtain⟨s_,x0⟩:=S4.out k hlt;have Tn:(W.drewN q4_).cell? ⟨gb,go+k,none⟩=some (.string s_):=by simpa using g0 0 _ x0
                have Tq:(W.drewN q4_).cell? ⟨gc,gp+k,none⟩=some (.string s_):=by simpa using g1 0 _ x0
                have i0:(0:Int)≤(k:Int):=by omega
                have i1:(k:Int) < (n4:Int):=by omega
                clear g0 g1 x0;subst hA hA';go_upto_region 26 with fail;go_region_held3 (fun w'=>w'.cell? ⟨w.heap.size,4,none⟩=some (.slice (some ⟨gb,go,none⟩) n4 c4)∧w'.cell? ⟨w.heap.size+1,4,none⟩=some (.slice (some ⟨gc,gp,none⟩) n4 N8)∧w'.cell? ⟨gb,go+k,none⟩=some (.string s_)∧w'.cell? ⟨gc,gp+k,none⟩=some (.string s_)) (first | exact⟨e4,f4,Tn,Tq⟩ | fail) (first | fail);go_wp2_with fail;go_roundw
                case rel=>exact ⟨k+1,q4_+1,by go_num,by omega,rfl⟩
                case measure=>simp [intOf];omega
              · obtain rfl:k=n4:=by omega
                go_wp2_with fail;go_loopw [10] (fun iv wr=>∃k q:Nat,iv= .int .i64 (k:Int)∧k≤n5∧wr=W.drewN q) (fun iv _=>n5 - (intOf iv).toNat)
                case atStart=>exact ⟨0,q4_,rfl,Nat.zero_le _,rfl⟩
                case round=>
                 obtain⟨k,WX,rfl,hk,rfl⟩:=hrel;have e5:(W.drewN WX).cell? ⟨w.heap.size,5,none⟩=some (.slice A5 n5 c5):=HB0.out.cell 5;have f5:(W.drewN WX).cell? ⟨w.heap.size+1,5,none⟩=some (.slice KX n5 sF):=HB1.out.cell 5;by_cases hlt:k < n5
                 · obtain⟨gb,go,gc,gp,hA,hA',g0,g1⟩:=H5.out.at hlt (by omega);obtain⟨a_,b_,e_,x0,x1,x2⟩:=S5.out k hlt;have Tn:(W.drewN WX).cell? ⟨gb,go+k * 3,none⟩=some (.int .i64 a_):=by simpa using g0 0 _ x0
                   have Tq:(W.drewN WX).cell? ⟨gc,gp+k * 3,none⟩=some (.int .i64 a_):=by simpa using g1 0 _ x0
                   have y1_:(W.drewN WX).cell? ⟨gb,go+k * 3+1,none⟩=some (.int .i64 b_):=by simpa using g0 1 _ x1
                   have z1_:(W.drewN WX).cell? ⟨gc,gp+k * 3+1,none⟩=some (.int .i64 b_):=by simpa using g1 1 _ x1
                   have y2_:(W.drewN WX).cell? ⟨gb,go+k * 3+2,none⟩=some (.int .i64 e_):=by simpa using g0 2 _ x2
                   have z2_:(W.drewN WX).cell? ⟨gc,gp+k * 3+2,none⟩=some (.int .i64 e_):=by simpa using g1 2 _ x2
                   have i0:(0:Int)≤(k:Int):=by omega
                   have i1:(k:Int) < (n5:Int):=by omega
                   clear g0 g1 x0 x1 x2;subst hA hA';go_upto_region 31 with fail;go_region_held3 (fun w'=>w'.cell? ⟨w.heap.size,5,none⟩=some (.slice (some ⟨gb,go,none⟩) n5 c5)∧w'.cell? ⟨w.heap.size+1,5,none⟩=some (.slice (some ⟨gc,gp,none⟩) n5 sF)∧w'.cell? ⟨gb,go+k * 3,none⟩=some (.int .i64 a_)∧w'.cell? ⟨gc,gp+k * 3,none⟩=some (.int .i64 a_)∧w'.cell? ⟨gb,go+k * 3+1,none⟩=some (.int .i64 b_)∧w'.cell? ⟨gc,gp+k * 3+1,none⟩=some (.int .i64 b_)∧w'.cell? ⟨gb,go+k * 3+2,none⟩=some (.int .i64 e_)∧w'.cell? ⟨gc,gp+k * 3+2,none⟩=some (.int .i64 e_)) (first | exact⟨e5,f5,Tn,Tq,y1_,z1_,y2_,z2_⟩ | fail) (first | fail);go_wp2_with fail;go_roundw
                   case rel=>exact ⟨k+1,WX+1,by go_num,by omega,rfl⟩
                   case measure=>simp [intOf];omega
                 · obtain rfl:k=n5:=by omega
                   go_wp2_with fail;go_ret;exact⟨rfl,aH HG.out _⟩
