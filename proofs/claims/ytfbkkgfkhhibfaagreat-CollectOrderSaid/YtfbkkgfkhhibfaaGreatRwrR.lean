/- Words. -/
import Derived.Test.YtfbkkgfkhhibfaaGreatPlnR
import Derived.StillTailTactics
set_option linter.unusedVariables false
set_option linter.unusedSimpArgs false
set_option maxRecDepth 100000
set_option maxHeartbeats 8000000
namespace Go.Proofs.YtfbkkgfkhhibfaaGreat
open Go Go.RowKit Iv
structure RP (T:TypeId)(cells:Array Value)(W0:World)(base B thr gR gB gW gF:Nat)(s:St)(wr:World):Prop where
 ex:∃vb vf css,RM base B thr gB gW gF s vb vf css wr
 rec_:Held wr gR T cells
 gr:W0.grownBy wr none
 lo:W0.heap.size≤base∧W0.heap.size≤gB∧W0.heap.size≤gW∧W0.heap.size≤gF
 nr:gR < base∧gR≠gB∧gR≠gW∧gR≠gF
theorem jA {W0 wr w1:World}{o:Option Nat}(h:W0.grownBy wr none)(hg:wr.grownBy w1 o)(ho:∀g,o=some g→W0.heap.size≤g):W0.grownBy w1 none:=by
 refine af h hg ?_
 cases o with
 | none=>exact .inl rfl
 | some g=>exact .inr ⟨g,rfl,ho g rfl⟩
theorem IQ {r:Rec}(h:RecFit r):RecNums r:=⟨h.seq,h.thread,h.kind,h.obj,h.value,h.site,h.deps,h.from_⟩
theorem RP.keep {T:TypeId}{cells:Array Value}{W0 wr w1:World}{base B thr gR gB gW gF:Nat}{s:St}(h:RP T cells W0 base B thr gR gB gW gF s wr)(hg:wr.grownBy w1 none):RP T cells W0 base B thr gR gB gW gF s w1:=by
 obtain⟨⟨vb,vf,css,hM⟩,hR,hgr,hlo,hnr⟩:=h;exact⟨⟨vb,vf,css,hM.keep hg⟩,hR.grown hg (fun e=>nomatch e),jA hgr hg (fun g e=>nomatch e),hlo,hnr⟩
theorem Uj (w:World)(r:Rec)(Ad:Option Addr)(nd cd:Nat)(Af:Option Addr)(nf cf:Nat):
 Lies (w.alloc (.cells (recV r Ad nd cd Af nf cf) 54)) (w.alloc (.cells (recV r Ad nd cd Af nf cf) 54)).heap.size 8 (some ⟨w.heap.size,0,none⟩) 1 (recV r Ad nd cd Af nf cf).toList:=by
 obtain⟨A,c,hv,_,_,hl,_⟩:=aj (World.ownsRow_lit (base:=w.heap.size) (e:=54) (size:=8) w (recV r Ad nd cd Af nf cf) 1 (Nat.le_refl _) (by unfold maxLen;omega) rfl);injection hv with hA;subst hA;exact hl
theorem Xu (r:Rec)(Ad:Option Addr)(nd cd:Nat)(Af:Option Addr)(nf cf:Nat):∀u∈(recV r Ad nd cd Af nf cf).toList,u.oneCell'=true:=by
 intro u hu;simp only[recV,List.mem_cons,List.not_mem_nil,or_false] at hu;rcases hu with h | h | h | h | h | h | h | h <;> rw[h] <;> rfl
theorem Q9 {w:World}{base e sz n m c:Nat}{A:Option Addr}{xs:List Value}(h:w.ownsRow base e sz (.slice A n c) n xs)(hm:m≤n):w.ownsRow base e sz (.slice A m c) m (xs.take (m * sz)):=by
 refine⟨by rw[List.length_take,h.1];exact Nat.min_eq_left (Nat.mul_le_mul_right _ hm),?_⟩;rcases h.2 with ⟨h1,h0⟩ | ⟨g,cap,cur,h1,hb,hg,hnc,hcm,hcs,ht⟩
 · injection h1 with h2 h3 h4;subst h2 h4;have:m=0:=by omega
   subst this;exact .inl ⟨rfl,by simp⟩
 · injection h1 with h2 h3 h4;subst h2 h4;refine .inr ⟨g,c,cur,rfl,hb,hg,by omega,hcm,hcs,?_⟩;rw[←ht,List.take_take,Nat.min_eq_left (Nat.mul_le_mul_right _ hm)]
theorem OI {w:World}{base e n m c:Nat}{A:Option Addr}{b:Bytes}(h:w.ownsRow base e 1 (.slice A n c) n (b.map bv))(hm:m≤n):w.ownsRow base e 1 (.slice A m c) m ((b.take m).map bv):=by
 have:=Q9 h hm;rwa [Nat.mul_one,←List.map_take] at this
structure FilesAt (base thr gF:Nat)(fs:Nat→Bytes)(vf:Nat→Value)(w:World):Prop where
 h:Held w gF 22 (fam thr vf)
 own:∀t,t < thr→w.ownsRow base 5 1 (vf t) (fs t).length ((fs t).map bv)
 ap:∀t k,t < thr→k < thr→t≠k→Apart (vf t) (vf k)
 lo:base≤gF
 ne:∀t,t < thr→(vf t).ownBlock≠some gF
def xB (l:List Ev)(thr:Int)(p:Pln)(w:World)(e:Ending)(w':World):Prop:=
 ∃v,e= .returned (.tuple #[v,.int .i64 (aY l thr p)])∧w.grownBy w' none∧
  (aY l thr p≠0→v= .slice none 0 0)∧
  (aY l thr p=0→∃(t gF:Nat) (vf:Nat→Value),thr=(t:Int)∧v= .slice (some ⟨gF,0,none⟩) t t∧FilesAt w.heap.size t gF (dN l p) vf w')
theorem Dk {l:List Ev}{thr:Int}{p:Pln}{w w':World}{k:Int}(hk:aY l thr p=k)(h0:k≠0)(hg:w.grownBy w' none):xB l thr p w (.returned (.tuple #[.slice none 0 0,.int .i64 k])) w':=
 ⟨_,by rw[hk],hg,fun _=>rfl,fun h=>absurd (hk▸h) h0⟩
theorem Rf (t:Nat)(v:Value)(h:v.cells=#[v]):madeCells v.cells (t * 1)=fam t fun _=>v:=by
 rw[h];unfold madeCells fam;apply Array.ext
 · simp
 · intro i h1 h2;simp[Nat.mod_one]
theorem OJ:(Tryz.prog.info? 48).map (fun i=>(i.zero,i.size,i.bytes))=some (some (.slice none 0 0),1,24):=by kernel_rfl
theorem JI:(Tryz.prog.info? 22).map (fun i=>(i.zero,i.size,i.bytes))=some (some (.slice none 0 0),1,24):=by kernel_rfl
theorem xC {T e:TypeId}{z:Value}{bytes:Nat}(hu:Tryz.prog.underlying T=some (.slice e))(hi:(Tryz.prog.info? e).map (fun i=>(i.zero,i.size,i.bytes))=some (some z,1,bytes))(hz:z.cells=#[z])(hb:bytes≤24)(w:World){t:Nat}(ht:t≤4):
 (Instr.makeSlice T (.int .i64 (t:Int)) (.int .i64 (t:Int))).run Tryz.prog w= .ok (.slice (some ⟨w.heap.size,0,none⟩) t t) (w.alloc (.cells (fam t fun _=>z) e)):=by
 obtain⟨i0,hi,hz0,hz1,hz2⟩:=info_parts hi;have:=run_make (P:=Tryz.prog) w T e i0 z hu hi hz0 .i64 .i64 (t:Int) (t:Int) (by omega) (Int.le_refl _) (by rw[hz2];rcases (show t=0∨t=1∨t=2∨t=3∨t=4 by omega) with h | h | h | h | h <;> subst h <;> omega) (by omega)
 rw[Int.toNat_natCast,hz1,Rf t z hz] at this;exact this
theorem rf {a b:World}(h:a.grownBy b none)(o:Obj):a.grownBy (b.alloc o) none:=af h (World.grownBy_alloc _ _ none) (.inl rfl)
theorem RP.init {T:TypeId}{cells:Array Value}{W0 w4:World}{base B thr gR gB gW gF:Nat}(hB:Held w4 gB 48 (fam thr fun _=> .slice none 0 0))(hW:Held w4 gW 3 (fam thr fun _=> .int .i64 0))(hF:Held w4 gF 22 (fam thr fun _=> .slice none 0 0))(hR:Held w4 gR T cells)(gr:W0.grownBy w4 none)
 (lo:W0.heap.size≤gR∧W0.heap.size≤gB∧W0.heap.size≤gW∧W0.heap.size≤gF) (hi:gR < base∧gB < base∧gW < base∧gF < base) (nr:gR≠gB∧gR≠gW∧gR≠gF) (ne:gB≠gW∧gB≠gF∧gW≠gF) (hBW:B≤W0.heap.size) (bs:base≤w4.heap.size):
 RP T cells W0 base B thr gR gB gW gF St.none w4:=by
 obtain⟨l0,l1,l2,l3⟩:=lo;obtain⟨i0,i1,i2,i3⟩:=hi;refine⟨⟨fun _=> .slice none 0 0,fun _=> .slice none 0 0,fun _=> [],⟨hB,hW,hF,fun t ht=>World.ownsRow_nil _ _ _ _,fun t ht=>BufAt.nil _ _,fun t ht=>World.ownsRow_nil _ _ _ _,fun t k _ _ _=>Apart.nil _,fun t k _ _ _=>Apart.nil _,fun t k _ _=>Apart.nil _,⟨i1,i2,i3⟩,⟨by omega,by omega,by omega⟩,ne,bs⟩⟩,hR,gr,⟨by omega,l1,l2,l3⟩,i0,nr⟩
theorem adf (W:World)(c0 c1 c2 c3:Array Value)(t0 t1 t2 t3:TypeId):
 Held ((((W.alloc (.cells c0 t0)).alloc (.cells c1 t1)).alloc (.cells c2 t2)).alloc (.cells c3 t3)).drew W.heap.size t0 c0∧
 Held ((((W.alloc (.cells c0 t0)).alloc (.cells c1 t1)).alloc (.cells c2 t2)).alloc (.cells c3 t3)).drew (W.heap.size+1) t1 c1∧
 Held ((((W.alloc (.cells c0 t0)).alloc (.cells c1 t1)).alloc (.cells c2 t2)).alloc (.cells c3 t3)).drew (W.heap.size+1+1) t2 c2∧
 Held ((((W.alloc (.cells c0 t0)).alloc (.cells c1 t1)).alloc (.cells c2 t2)).alloc (.cells c3 t3)).drew (W.heap.size+1+1+1) t3 c3∧
 W.grownBy ((((W.alloc (.cells c0 t0)).alloc (.cells c1 t1)).alloc (.cells c2 t2)).alloc (.cells c3 t3)).drew none∧
 ((((W.alloc (.cells c0 t0)).alloc (.cells c1 t1)).alloc (.cells c2 t2)).alloc (.cells c3 t3)).drew.heap.size=W.heap.size+4:=by
 have s1:(W.alloc (.cells c0 t0)).heap.size=W.heap.size+1:=by simp
 have s2:((W.alloc (.cells c0 t0)).alloc (.cells c1 t1)).heap.size=W.heap.size+1+1:=by simp
 have s3:(((W.alloc (.cells c0 t0)).alloc (.cells c1 t1)).alloc (.cells c2 t2)).heap.size=W.heap.size+1+1+1:=by simp
 refine⟨(((Held.new W t0 c0).alloc _).alloc _).alloc _,?_,?_,?_,?_,by simp⟩
 · have:=((Held.new (W.alloc (.cells c0 t0)) t1 c1).alloc (.cells c2 t2)).alloc (.cells c3 t3);rw[s1] at this;exact this
 · have:=(Held.new ((W.alloc (.cells c0 t0)).alloc (.cells c1 t1)) t2 c2).alloc (.cells c3 t3);rw[s2] at this;exact this
 · have:=Held.new (((W.alloc (.cells c0 t0)).alloc (.cells c1 t1)).alloc (.cells c2 t2)) t3 c3;rw[s3] at this;exact this
 · exact aN (rf (rf (rf (rf (World.grownBy.refl W none) _) _) _) _)
theorem RP.cut {T:TypeId}{cells:Array Value}{W0 wr:World}{base B thr gR gB gW gF:Nat}{s:St}(h:RP T cells W0 base B thr gR gB gW gF s wr){t:Nat}(ht:t < thr){A:Option Addr}{c m:Nat}(hc:wr.cell? ⟨gF,t,none⟩=some (.slice A (s.file t).length c))(hm:m≤(s.file t).length):
 RP T cells W0 base B thr gR gB gW gF ⟨s.buf,s.first,upd s.file t ((s.file t).take m)⟩ (wr.setCell ⟨gF,t,none⟩ (.slice A m c)):=by
 obtain⟨⟨vb,vf,css,hM⟩,hR,hgr,hlo,hnr⟩:=h
 have hv:vf t= .slice A (s.file t).length c:=by
  have:=hM.hF.cell t;rw[fE _ ht,hc] at this;injection this with this;exact this.symm
 have hown:=hM.of_ t ht;rw[hv] at hown;have ho2:=OI hown hm;have hb:∀g,(Value.slice A m c).ownBlock=some g→(vf t).ownBlock=some g:=fun g e=>by rw[hv];cases A with | none=>exact (nomatch e) | some a=>simpa [Value.ownBlock] using e
 have hl:((s.file t).take m).length=m:=by rw[List.length_take];omega
 refine⟨⟨vb,_,css,hM.setF ht (by rw[hl];exact ho2) (World.grownBy.refl wr _) (fun k hk hkt g e1 e2=>hM.aff t k ht hk (fun e=>hkt e.symm) g (hb g e1) e2) (fun k hk g e1 e2=>hM.abf k t hk ht g e1 (hb g e2))⟩,hR.far (p:=⟨gF,t,none⟩) hnr.2.2.2 _,?_,hlo,hnr⟩;exact jA hgr (ah wr gF t _) (fun g e=>by injection e with e;have:=hlo.2.2.2;omega)
theorem RP.files {T:TypeId}{cells:Array Value}{W0 wr:World}{base B thr gR gB gW gF:Nat}{s:St}(h:RP T cells W0 base B thr gR gB gW gF s wr)(w:World)(hw:w.heap.size≤W0.heap.size):∃vf,FilesAt w.heap.size thr gF s.file vf wr:=by
 obtain⟨⟨vb,vf,css,hM⟩,hR,hgr,hlo,hnr⟩:=h;refine⟨vf,hM.hF,fun t ht=>bW (hM.of_ t ht) (by omega),hM.aff,by omega,fun t ht=>gm (hM.of_ t ht) hM.lt.2.2⟩
structure In1 (w:World)(B sz bytes:Nat)(A:Option Addr)(n c:Nat)(X:List Value):Prop where
 lies:Lies w B sz A n X
 none_:A=none→c=0
 one:∀u∈X,u.oneCell'=true
 cap:n≤maxLen
 bytes_:n * bytes≤140737488355328
theorem In1.grown {w w':World}{B sz bytes n c:Nat}{A:Option Addr}{X:List Value}(h:In1 w B sz bytes A n c X)(hg:w.grownBy w' none)(hB:B≤w.heap.size):In1 w' B sz bytes A n c X:=
 ⟨h.lies.grown hg hB (fun g e=>nomatch e),h.none_,h.one,h.cap,h.bytes_⟩
def AtCell (X:List Value)(k:Nat):Prop:=∃(s:ByteArray) (a b:Int) (d:Bool) (e:Int),X[k * 5+0]?=some (.string s)∧X[k * 5+1]?=some (.int .i64 a)∧X[k * 5+2]?=some (.int .i64 b)∧X[k * 5+3]?=some (.bool d)∧X[k * 5+4]?=some (.int .i64 e)
def AtLock (X:List Value)(k:Nat):Prop:=∃(s:ByteArray) (d:Bool),X[k * 2+0]?=some (.string s)∧X[k * 2+1]?=some (.bool d)
def AtCond (X:List Value)(k:Nat):Prop:=∃(s:ByteArray) (a:Int),X[k * 2+0]?=some (.string s)∧X[k * 2+1]?=some (.int .i64 a)
def AtStr (X:List Value)(k:Nat):Prop:=∃(s:ByteArray),X[k * 1+0]?=some (.string s)
def AtSite (X:List Value)(k:Nat):Prop:=∃(a b e:Int),X[k * 3+0]?=some (.int .i64 a)∧X[k * 3+1]?=some (.int .i64 b)∧X[k * 3+2]?=some (.int .i64 e)
structure WIn (w:World)(B:Nat)(A0:Option Addr)(n0 c0:Nat)(X0:List Value)(A1:Option Addr)(n1 c1:Nat)(X1:List Value)(A2:Option Addr)(n2 c2:Nat)(X2:List Value)(A3:Option Addr)(n3 c3:Nat)(X3:List Value)(A4:Option Addr)(n4 c4:Nat)(X4:List Value)(A5:Option Addr)(n5 c5:Nat)(X5:List Value):Prop where
 h0:In1 w B 5 48 A0 n0 c0 X0
 h1:In1 w B 2 24 A1 n1 c1 X1
 h2:In1 w B 2 24 A2 n2 c2 X2
 h3:In1 w B 1 16 A3 n3 c3 X3
 h4:In1 w B 1 16 A4 n4 c4 X4
 h5:In1 w B 3 24 A5 n5 c5 X5
 s0:∀k,k < n0→AtCell X0 k
 s1:∀k,k < n1→AtLock X1 k
 s2:∀k,k < n2→AtCond X2 k
 s3:∀k,k < n3→AtStr X3 k
 s4:∀k,k < n4→AtStr X4 k
 s5:∀k,k < n5→AtSite X5 k
 a0:0 < n0→∃b o,A0=some ⟨b,o,none⟩
 a1:0 < n1→∃b o,A1=some ⟨b,o,none⟩
 a2:0 < n2→∃b o,A2=some ⟨b,o,none⟩
 a3:0 < n3→∃b o,A3=some ⟨b,o,none⟩
 a4:0 < n4→∃b o,A4=some ⟨b,o,none⟩
 a5:0 < n5→∃b o,A5=some ⟨b,o,none⟩
theorem WIn.grown {w w':World}{B:Nat}{A0:Option Addr}{n0 c0:Nat}{X0:List Value}{A1:Option Addr}{n1 c1:Nat}{X1:List Value}{A2:Option Addr}{n2 c2:Nat}{X2:List Value}{A3:Option Addr}{n3 c3:Nat}{X3:List Value}{A4:Option Addr}{n4 c4:Nat}{X4:List Value}{A5:Option Addr}{n5 c5:Nat}{X5:List Value}(h:WIn w B A0 n0 c0 X0 A1 n1 c1 X1 A2 n2 c2 X2 A3 n3 c3 X3 A4 n4 c4 X4 A5 n5 c5 X5)(hg:w.grownBy w' none)(hB:B≤w.heap.size):WIn w' B A0 n0 c0 X0 A1 n1 c1 X1 A2 n2 c2 X2 A3 n3 c3 X3 A4 n4 c4 X4 A5 n5 c5 X5:=
 ⟨h.h0.grown hg hB,h.h1.grown hg hB,h.h2.grown hg hB,h.h3.grown hg hB,h.h4.grown hg hB,h.h5.grown hg hB,h.s0,h.s1,h.s2,h.s3,h.s4,h.s5,h.a0,h.a1,h.a2,h.a3,h.a4,h.a5⟩
theorem In1.more {w:World}{B B' sz bytes n c:Nat}{A:Option Addr}{X:List Value}(h:In1 w B sz bytes A n c X)(hB:B≤B'):In1 w B' sz bytes A n c X:=⟨h.lies.more hB,h.none_,h.one,h.cap,h.bytes_⟩
theorem WIn.more {w:World}{B B':Nat}{A0:Option Addr}{n0 c0:Nat}{X0:List Value}{A1:Option Addr}{n1 c1:Nat}{X1:List Value}{A2:Option Addr}{n2 c2:Nat}{X2:List Value}{A3:Option Addr}{n3 c3:Nat}{X3:List Value}{A4:Option Addr}{n4 c4:Nat}{X4:List Value}{A5:Option Addr}{n5 c5:Nat}{X5:List Value}(h:WIn w B A0 n0 c0 X0 A1 n1 c1 X1 A2 n2 c2 X2 A3 n3 c3 X3 A4 n4 c4 X4 A5 n5 c5 X5)(hB:B≤B'):WIn w B' A0 n0 c0 X0 A1 n1 c1 X1 A2 n2 c2 X2 A3 n3 c3 X3 A4 n4 c4 X4 A5 n5 c5 X5:=
 ⟨h.h0.more hB,h.h1.more hB,h.h2.more hB,h.h3.more hB,h.h4.more hB,h.h5.more hB,h.s0,h.s1,h.s2,h.s3,h.s4,h.s5,h.a0,h.a1,h.a2,h.a3,h.a4,h.a5⟩
structure TrN (w:World)(m n:Nat)(A:Option Addr)(l:List Ev):Prop where
 n1:1≤n
 n4:n≤4
 len:l.length≤m
 evs:Evs w w.heap.size A l.length l
 ok:∀(k:Nat) e,l[k]?=some e→EvOk n k e
def adp (w:World)(B m:Nat)(e:Ending)(w':World):Prop:=∃(A0:Option Addr) (n0 c0:Nat) (X0:List Value) (A1:Option Addr) (n1 c1:Nat) (X1:List Value) (A2:Option Addr) (n2 c2:Nat) (X2:List Value) (A3:Option Addr) (n3 c3:Nat) (X3:List Value) (A4:Option Addr) (n4 c4:Nat) (X4:List Value) (A5:Option Addr) (n5 c5:Nat) (X5:List Value) (A:Option Addr) (c:Nat) (l:List Ev),e= .returned (.agg #[.slice A0 n0 c0,.slice A1 n1 c1,.slice A2 n2 c2,.slice A3 n3 c3,.slice A4 n4 c4,.slice A5 n5 c5,.slice A l.length c])∧l.length≤c∧TrN w' m n4 A l∧WIn w' w'.heap.size A0 n0 c0 X0 A1 n1 c1 X1 A2 n2 c2 X2 A3 n3 c3 X3 A4 n4 c4 X4 A5 n5 c5 X5∧(∀W' g,w'.grownBy W' (some g)→B≤g→g < w.heap.size→Evs W' w'.heap.size A l.length l∧WIn W' w'.heap.size A0 n0 c0 X0 A1 n1 c1 X1 A2 n2 c2 X2 A3 n3 c3 X3 A4 n4 c4 X4 A5 n5 c5 X5)∧w.grownBy w' none
theorem Vt {l:List Ev}{n:Nat}(h4:n≤4)(hl:l.length≤100)(he:∀(k:Nat) e,l[k]?=some e→EvOk n k e):∀e∈l,RecFit ⟨0,e⟩:=by
 intro e hm;obtain⟨k,hk⟩:=List.mem_iff_getElem?.1 hm;have hkl:=(List.getElem?_eq_some_iff.1 hk).1;obtain⟨h,_,_⟩:=(he k e hk).fit h4 (by omega);exact⟨⟨by show (-9223372036854775808:Int)≤0;decide,by show (0:Int)≤9223372036854775807;decide⟩,h.thread,h.kind,h.obj,h.value,h.site,h.deps,h.from_⟩
theorem MQ {w0 wr w4:World}{o:Option Nat}(h:w0.grownBy wr none)(h4:wr.grownBy w4 o)(ho:∀g,o=some g→w0.heap.size≤g):w0.grownBy w4 none:=
 ⟨h4.os.trans h.os,h4.tape.trans h.tape,h4.output.trans h.output,Nat.le_trans h.size h4.size,fun k hk _=>(h4.block k (Nat.lt_of_lt_of_le hk h.size) (fun e=>by have:=ho k e.symm;omega)).trans (h.block k hk (fun e=>nomatch e))⟩
def Rx:Prop:=∀(w:World) (B:Nat) (A1:Option Addr) (n1 c1:Nat) (xs:Bytes) (hx:Lies w B 1 A1 n1 (xs.map bv)) (hc1:n1≤c1) (hn1:n1≤1000) (ho1:A1=none→c1=0) (A2:Option Addr) (m c2:Nat) (ys:Bytes) (hy:Lies w B 1 A2 m (ys.map bv)) (hc2:m≤c2) (hm:m≤1000) (ho2:A2=none→c2=0),
 Calls Tryz.prog 9 #[.slice A1 n1 c1,.slice A2 m c2] w fun e w'=>adp w B m e w'
def QS (l:List (Int×Int)):List Value:=l.flatMap fun f=> [.int .i64 f.1,.int .i64 f.2]
theorem U3 (l:List (Int×Int))(f:Int×Int):QS (l++ [f])=QS l++ [.int .i64 f.1,.int .i64 f.2]:=by
 unfold QS;rw[List.flatMap_append];rfl
theorem Oe:∀(l:List (Int×Int)) (k:Nat) (f:Int×Int),l[k]?=some f→(QS l)[k * 2]?=some (.int .i64 f.1)∧(QS l)[k * 2+1]?=some (.int .i64 f.2)
 | [],k,f,h=>by simp at h
 |
  g :: r,0,f,h=>by
  simp only[List.getElem?_cons_zero,Option.some.injEq] at h
  subst h
  exact⟨rfl,rfl⟩
 |
  g :: r,k+1,f,h=>by
  have:=Oe r k f (by simpa using h)
  have e:QS (g :: r)= .int .i64 g.1 :: .int .i64 g.2 :: QS r:=rfl
  rw[e,show (k+1)* 2=(k * 2+1)+1 by omega]
  exact this
def OwF (w:World)(base:Nat)(v:Value)(l:List (Int×Int)):Prop:=
 w.ownsRow base 68 2 v l.length (QS l)∨(l= []∧∃A,v= .slice A 0 0)
theorem OwF.fls {w:World}{base:Nat}{v:Value}{l:List (Int×Int)}(h:OwF w base v l):∃A c,v= .slice A l.length c∧Fls w w.heap.size A l.length l:=by
 rcases h with h | ⟨rfl,A,rfl⟩
 · obtain⟨A,c,hv,_,_,hl,_⟩:=aj h;refine⟨A,c,hv,rfl,fun k f hk=>?_⟩;have hlt:=(List.getElem?_eq_some_iff.1 hk).1;obtain⟨g,cc,hv2,_,hg⟩:=h.form (by omega);rw[hv] at hv2;injection hv2 with e1 _ _;subst e1;have hc:=h.cells (g:=g) (by rw[hv];rfl);obtain⟨h1,h2⟩:=Oe l k f hk;have a:∀j,(⟨g,0,none⟩:Addr).add j=⟨g,j,none⟩:=fun j=>by unfold Addr.add;split <;> simp_all
   refine⟨g,0,rfl,hg,?_,?_⟩
   · have:=hc _ _ h1;rw[a] at this;rw[Nat.zero_add];exact this
   · have:=hc _ _ h2;rw[a] at this;rw[Nat.zero_add];exact this
 · exact⟨A,0,rfl,rfl,fun k f hk=>by simp at hk⟩
theorem yS (W0:World)(base B thr gR gB gW gF:Nat)(s:St)(wr:World)(cc n t:Nat)
 (h:RP 109 #[.slice (some ⟨gB,0,none⟩) thr thr,.slice (some ⟨gW,0,none⟩) thr thr,.slice (some ⟨gF,0,none⟩) thr thr] W0 base B thr gR gB gW gF s wr)
 (hG:GoodT cc n t (s.buf t) (s.first t) (s.file t)) (ht:t < thr) (xR:thr≤4) (hc:cc≤64) (hn:n≤400):
 Calls Tryz.prog 39 #[.pointer (some ⟨gR,0,none⟩),.int .i64 (t:Int)] wr fun e w'=>e= .returned (.tuple #[])∧
  RP 109 #[.slice (some ⟨gB,0,none⟩) thr thr,.slice (some ⟨gW,0,none⟩) thr thr,.slice (some ⟨gF,0,none⟩) thr thr] W0 base B thr gR gB gW gF (s.write t) w':=by
 obtain⟨⟨vb,vf,css,hM⟩,hR,hgr,hlo,hnr⟩:=h;obtain⟨Ab,cb,hvb,hbn,hbm,_,hbo⟩:=aj (hM.ob t ht);have r4:wr.cell? ⟨gR,0,none⟩=some (.slice (some ⟨gB,0,none⟩) thr thr):=hR.cell 0;have r5:wr.cell? ⟨gR,1,none⟩=some (.slice (some ⟨gW,0,none⟩) thr thr):=hR.cell 1;have b1:wr.cell? ⟨gB,t,none⟩=some (.slice Ab (s.buf t).length cb):=by rw[hM.hB.cell t,fE _ ht,hvb]
 have b2:wr.cell? ⟨gW,t,none⟩=some (.int .i64 (s.first t)):=by rw[hM.hW.cell t,fE _ ht]
 have i0:(0:Int)≤(t:Int):=by omega
 have i1:(t:Int) < (thr:Int):=by omega
 have HM:=ae hM;have HR:=ae hR;have HVB:=ae hvb;have HG:=ae hG;by_cases h0:(s.buf t).length=0
 · have hbe:(((s.buf t).length:Int)==0)=true:=by rw[beq_iff_eq];omega
   have HS:Hid (s.write t=s):=ae (by unfold St.write;rw[if_pos h0]);have HH:Hid (RP 109 #[.slice (some ⟨gB,0,none⟩) thr thr,.slice (some ⟨gW,0,none⟩) thr thr,.slice (some ⟨gF,0,none⟩) thr thr] W0 base B thr gR gB gW gF s wr):=ae ⟨⟨vb,vf,css,hM⟩,hR,hgr,hlo,hnr⟩;clear h0 hM hR hvb hG;go_enter Tryz.func39,Tryz.ntmps39;go_wp2_with fail
   (try simp only[Exit.inBlock,Exit.then]);refine bodyPost_ret (results_none rfl _ _ _) rfl ?_
   exact⟨rfl,by rw[HS.out];exact HH.out⟩
 · obtain⟨nb,hnb⟩:∃nb,nb=(s.buf t).length:=⟨_,rfl⟩;have hbe:((nb:Int)==0)=false:=by rw[beq_eq_false_iff_ne];omega
   obtain⟨ge,gl⟩:=hG.enc (by omega) hc hn (by omega);have hBw:B≤wr.heap.size:=by have:=hM.bs;have:=hM.lt;have:=hM.ge;omega
   have hown:=hM.ob t ht;rw[hvb] at hown;have CE:=ae (uU ⟨t,s.first t,s.buf t⟩ Ab (s.buf t).length cb wr.heap.size wr.drew ((hM.oc t ht).recs hown rfl hBw).drew (Nat.le_refl _) (fun r hr=>IQ (hG.fit r hr)) wr.heap.size (Nat.le_refl _));rw[←hnb] at b1 hown;obtain⟨ys,er,hys⟩:∃ys er,encode ⟨t,s.first t,s.buf t⟩=(ys,er):=⟨_,_,rfl⟩;rw[hys] at ge gl;dsimp only at ge gl;subst ge;have HYS:=ae hys;have hnl:nb≤64:=by have:=hG.len;omega
   have yl:ys.length≤640000:=by omega
   have QQ:=ae hnb;have hsz:=hG.size;have hhi:=hG.hi;have fl:(s.file t).length≤4000000:=by omega
   rw[←hnb] at CE;clear h0 hM hR hvb hG hys hown hnb hsz hhi;go_enter Tryz.func39,Tryz.ntmps39;go_upto_region 1 with fail
   go_region_held3 (fun w'=>w'.cell? ⟨gR,0,none⟩=some (.slice (some ⟨gB,0,none⟩) thr thr)∧w'.cell? ⟨gR,1,none⟩=some (.slice (some ⟨gW,0,none⟩) thr thr)∧w'.cell? ⟨gB,t,none⟩=some (.slice Ab nb cb)∧w'.cell? ⟨gW,t,none⟩=some (.int .i64 (s.first t)))
    (first | go_keep | (refine⟨?_,?_,?_,?_⟩ <;> exact World.grownBy.cell (w:=wr) (by assumption) (by assumption) (by simp)) | fail)
    (first | (go_at_call 37;((with_reducible refine CE.out.mono ?_);rintro e w2 ⟨v2,rfl,hown2,hg2⟩;replace hg2:=jr hg2;rw[HYS.out] at hown2⊢)) | fail)
   obtain⟨A2,k2,hv2,hn2,hm2,hl2,ho2⟩:=aj hown2;subst hv2;have HL2:=ae hl2;have Vw:=ae (HM.out.keep hg2);have HR2:=ae (HR.out.grown hg2 (fun e=>nomatch e));have Gn:=ae (af hgr hg2 (.inl rfl));clear hown2 hl2 r4 r5 b1 b2;go_upto_region 2 with fail;obtain⟨Af,cf,WQ,hfn,hfm,hfl,hfo⟩:=aj (Vw.out.of_ t ht);have HVF:=ae WQ;have YW:=ae hfl;have HFO:=ae hfo;have r6:w2.cell? ⟨gR,2,none⟩=some (.slice (some ⟨gF,0,none⟩) thr thr):=HR2.out.cell 2;have b3:w2.cell? ⟨gF,t,none⟩=some (.slice Af (s.file t).length cf):=by rw[Vw.out.hF.cell t,fE _ ht,WQ]
   have z3:=Vw.out.hF.free t;have al6:base≤w2.heap.size:=Vw.out.bs;obtain⟨l1,l2,l3⟩:=Vw.out.lt;obtain⟨j0,hi,hz0,hz1,hz2⟩:=info_parts jF;have HI:=ae hi;have HZ0:=ae hz0;have HZ1:=ae hz1;have HZ2:=ae hz2;have hz:(0:Nat) < 1:=by omega
   have agB:Hid (w2.grownBy (w2.alloc (.cells #[] 5)) none):=ae (World.grownBy_alloc w2 _ none);have ED:Hid (w2.grownBy (w2.alloc (.cells #[] 5)).drew none):=ae (aN (World.grownBy_alloc w2 _ none));have HE0:=ae (qw w2 w2.heap.size 5 1 (Nat.le_refl _)).drew;have a6:(w2.alloc (.cells #[] 5)).cell? ⟨gR,2,none⟩=some (.slice (some ⟨gF,0,none⟩) thr thr):=(HR2.out.grown agB.out (fun e=>nomatch e)).cell 2;have a3:(w2.alloc (.cells #[] 5)).cell? ⟨gF,t,none⟩=some (.slice Af (s.file t).length cf):=by rw[(Vw.out.hF.grown agB.out (fun e=>nomatch e)).cell t,fE _ ht,HVF.out]
   clear WQ hfl hfo hi hz0 hz1 hz2 hgr;go_cut [50] (fun _ wx=>RP 109 #[.slice (some ⟨gB,0,none⟩) thr thr,.slice (some ⟨gW,0,none⟩) thr thr,.slice (some ⟨gF,0,none⟩) thr thr] W0 base B thr gR gB gW gF ⟨s.buf,s.first,upd s.file t (s.file t++ys)⟩ wx)
   case first=>
    go_region_law
     (first
      | (refine pX (o:=⟨some 48,_,_,_,_,_⟩) _ (by rfl) (.tmp 40) (.tmp 47) _ (by rfl) w2.heap.size 5 j0 (.int .u8 0) 1 1 Tryz.underlying22 HI.out HZ0.out HZ1.out HZ2.out (by rfl) hz _ 0 [] (by rfl) HE0.out w2.heap.size Af (s.file t).length cf ((s.file t).map bv) (by rfl) (YW.out.grown ED.out (Nat.le_refl _) (fun g hg=>nomatch hg)) HFO.out (lN _) (by unfold maxLen;omega) (by omega) ED.out.size ?_;intro v4 w4 hown4 hg4 qx;rw[Nat.zero_add,List.nil_append] at hown4;have hG4:w2.grownBy w4 none:=jA ED.out hg4 (fun g e=>by injection e with e;subst e;exact Nat.le_refl _);obtain⟨A4,k4,hv4,_⟩:=aj hown4;subst hv4;have q6:=(HR2.out.grown hG4 (fun e=>nomatch e)).cell 2)
      | (refine pX (o:=⟨some 50,_,_,_,_,_⟩) _ (by rfl) (.tmp 48) (.tmp 49) _ (by rfl) w2.heap.size 5 j0 (.int .u8 0) 1 1 Tryz.underlying22 HI.out HZ0.out HZ1.out HZ2.out (by rfl) hz _ (s.file t).length ((s.file t).map bv) (by rfl) hown4 w2.heap.size A2 ys.length k2 (ys.map bv) (by rfl) (HL2.out.grown hG4 (Nat.le_refl _) (fun g hg=>nomatch hg)) ho2 (lN _) (by unfold maxLen;omega) (by omega) hG4.size ?_;intro v5 w5 hown5 hg5 ZP;have hG5:w2.grownBy w5 none:=jA hG4 hg5 (fun g e=>(hown4.lt g e).1);obtain⟨A5,k5,hv5,_⟩:=aj hown5;subst hv5;have p6:=(HR2.out.grown hG5 (fun e=>nomatch e)).cell 2;have pz:=(Vw.out.hF.grown hG5 (fun e=>nomatch e)).free t;have p3:w5.cell? ⟨gF,t,none⟩=some (.slice Af (s.file t).length cf):=(by rw[(Vw.out.hF.grown hG5 (fun e=>nomatch e)).cell t,fE _ ht,HVF.out]))
      | fail)
    all_goals
     go_wp2_with fail;go_meet
     case rel=>
      have HM5:=Vw.out.keep hG5;have hlt:∀g,(Value.slice A5 ((s.file t).length+ys.length) k5).ownBlock=some g→w2.heap.size≤g:=fun g e=>(hown5.lt g e).1
      refine⟨⟨_,_,_,HM5.setF ht (by rw[List.length_append,List.map_append];exact bW hown5 al6) (World.grownBy.refl w5 _) (fun k hk _ g e1 e2=>by have:=hlt g e1;have:=((Vw.out.of_ k hk).lt g e2).2;omega) (fun k hk g e1 e2=>by have:=hlt g e2;have:=((Vw.out.ob k hk).lt g e1).2;omega)⟩,(HR2.out.grown hG5 (fun e=>nomatch e)).far (p:=⟨gF,t,none⟩) hnr.2.2.2 _,?_,hlo,hnr⟩;exact jA (jA Gn.out hG5 (fun g e=>nomatch e)) (ah w5 gF t _) (fun g e=>by injection e with e;have:=hlo.2.2.2;omega)
   case rest=>
    obtain⟨⟨vb2,vf2,PR,hM⟩,hR,hgr,_,_⟩:=hcut;have hd:=aN (World.grownBy.refl wc none);obtain⟨A5,k5,agC,hn5,hm5,_,Zy⟩:=aj (hM.ob t ht);have r4:wc.cell? ⟨gR,0,none⟩=some (.slice (some ⟨gB,0,none⟩) thr thr):=hR.cell 0;have r5:wc.cell? ⟨gR,1,none⟩=some (.slice (some ⟨gW,0,none⟩) thr thr):=hR.cell 1;have b1:wc.cell? ⟨gB,t,none⟩=some (.slice A5 nb k5):=by rw[hM.hB.cell t,fE _ ht,agC,QQ.out]
    have b2:wc.cell? ⟨gW,t,none⟩=some (.int .i64 (s.first t)):=by rw[hM.hW.cell t,fE _ ht]
    have f0:=HG.out.lo;have f1:s.first t≤400:=by have:=HG.out.hi;omega
    have hw:IntKind.i64.wrap (s.first t+(nb:Int))=s.first t+(nb:Int):=IntWalk.i64_in _ (by omega);have HM3:=ae hM;have HR3:=ae hR;have YV:=ae hgr;clear hM hR hgr agC;go_wp2_with fail;go_still_tail 22,(by kernel_rfl);change wpList _ _ _ _ _ wc.drew;have HM4:=ae (HM3.out.keep hd);have HR4:=ae (HR3.out.grown hd (fun e=>nomatch e));have Nv:=ae (jA YV.out hd (fun g e=>nomatch e));generalize wc.drew=wd at HM4 HR4 Nv⊢;clear r4 r5 b1 b2 hd HM3 HR3 YV;have b2:wd.cell? ⟨gW,t,none⟩=some (.int .i64 (s.first t)):=by rw[HM4.out.hW.cell t,fE _ ht]
    have z2:=HM4.out.hW.free t;obtain⟨we,hwe⟩:∃we,we=wd.setCell ⟨gW,t,none⟩ (.int .i64 (s.first t+(nb:Int))):=⟨_,rfl⟩;have HM5:=ae (HM4.out.setW (t:=t) (s.first t+(nb:Int)));have HR5:=ae (HR4.out.far (p:=⟨gW,t,none⟩) hnr.2.2.1 (.int .i64 (s.first t+(nb:Int))));have Jy:=ae (jA Nv.out (ah wd gW t (.int .i64 (s.first t+(nb:Int)))) (fun g e=>by injection e with e;have:=hlo.2.2.1;omega));rw[←hwe] at HM5 HR5 Jy;have HWE:=ae hwe;clear hwe;go_upto_region 4 with fail;rw[show wd.setCell ⟨gW,t,none⟩ (.int .i64 (s.first t+(nb:Int)))=we from HWE.out.symm];clear b2 z2;have r4:we.cell? ⟨gR,0,none⟩=some (.slice (some ⟨gB,0,none⟩) thr thr):=HR5.out.cell 0;obtain⟨A6,k6,agD,_⟩:=aj (HM5.out.ob t ht);have b1:we.cell? ⟨gB,t,none⟩=some (.slice A6 (s.buf t).length k6):=by rw[HM5.out.hB.cell t,fE _ ht,agD]
    have z1:=HM5.out.hB.free t;clear agD;go_wp2_with fail;go_end0;refine⟨rfl,?_⟩
    have HS:Hid (s.write t=⟨upd s.buf t [],upd s.first t (s.first t+(nb:Int)),upd s.file t (s.file t++ys)⟩):=by
     refine ae ?_;unfold St.write;rw[if_neg (by rw[←QQ.out];intro e;rw[e] at hbe;simp at hbe),QQ.out];rw[show encode (Bj s t)=(ys,0) from HYS.out]
    rw[HS.out];refine⟨⟨_,_,_,HM5.out.clearB ht⟩,HR5.out.far (p:=⟨gB,t,none⟩) hnr.2.1 _,?_,hlo,hnr⟩;exact jA Jy.out (ah we gB t _) (fun g e=>by injection e with e;have:=hlo.2.1;omega)
