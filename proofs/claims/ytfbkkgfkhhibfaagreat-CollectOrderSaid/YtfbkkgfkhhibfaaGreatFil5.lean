/- Words. -/
import Derived.Test.YtfbkkgfkhhibfaaGreatSww
import Derived.Test.YtfbkkgfkhhibfaaGreatFlR
import Derived.Test.YtfbkkgfkhhibfaaGreatClp
set_option linter.unusedVariables false
set_option linter.unusedSimpArgs false
set_option maxRecDepth 100000
set_option maxHeartbeats 8000000
namespace Go.Proofs.YtfbkkgfkhhibfaaGreat
open Go Go.RowKit Iv
theorem Zn {w:World}{base lo B n c:Nat}{A:Option Addr}{css:List Value}{E:List Ev}(hown:w.ownsRow base 52 7 (.slice A n c) n css)(h:EvsB w lo B css E)(hB:B≤w.heap.size)(hn:E.length=n):Evs w w.heap.size A n E:=by
 refine⟨hn,fun k e he=>?_⟩;have hk:k < n:=by have:=(List.getElem?_eq_some_iff.1 he).1;omega
 obtain⟨Ad,nd,cd,Af,nf,cf,q⟩:=h.2 k e he;obtain⟨g,c',hv,hmc,hlt⟩:=hown.form (by omega);injection hv with hA _ _;subst hA;have hc:=hown.cells (g:=g) rfl;have l1:=q.ld.lenI;have l2:=q.lf.lenI;refine⟨g,0,Ad,cd,Af,cf,rfl,hlt,fun j u hu=>?_,?_,?_⟩
 · have:=hc (k * 7+j) u (q.cells j u (by unfold evV;rw[←l1,←l2];exact hu));rw[show (⟨g,0,none⟩:Addr).add (k * 7+j)=⟨g,0+k * 7+j,none⟩ by unfold Addr.add;split <;> simp_all] at this
   exact this
 · rw[l1];exact q.ld.more hB
 · rw[l2];exact q.lf.more hB
theorem xn (E:List Ev)(A A':Option Addr)(n c c' B:Nat)(w:World)(h:Evs w B A n E)(h':Evs w B A' n E)(hB:B≤w.heap.size)(hn:n≤1000000000)(hl:∀e∈E,e.deps.length≤1000000000000∧e.from_.length≤1000000000000):
 Calls Tryz.prog 17 #[.slice A n c,.slice A' n c'] w fun e w'=>e= .returned (.bool true)∧w.grownBy w' none:=by
 have HH:=ae h;have HH':=ae h';have HL:=ae hl;have q0:((n:Int) !=(n:Int))=false:=by simp
 clear h h' hl;go_enter Tryz.func17,Tryz.ntmps17;go_wp2_with fail;go_loopw [5] (fun iv wr=>∃k:Nat,iv= .int .i64 (k:Int)∧k≤n∧w.grownBy wr none) (fun iv _=>n - (intOf iv).toNat)
 case atStart=>exact ⟨0,rfl,Nat.zero_le _,World.grownBy.refl w none⟩
 case round=>
  obtain⟨k,rfl,hk,hg⟩:=hrel;by_cases hlt:k < n
  · obtain⟨b,o,e,Ad,cd,Af,cf,hA,hb,he,c0,c1,c2,c3,c4,c5,c6,hld,hlf⟩:=(HH.out.grown hg hB (fun _ e=>nomatch e)).at hlt;obtain⟨b',o',e',xq,zG,xu,cf',hA',hb',he',d0,d1,d2,d3,d4,d5,d6,ada,adb⟩:=(HH'.out.grown hg hB (fun _ e=>nomatch e)).at hlt;have hee:e'=e:=by rw[he] at he';exact (Option.some.inj he').symm
    subst hee;have hln:=HL.out e' (List.mem_of_getElem? he);have CE:=ae (zM e' Ad _ cd Af _ cf xq _ zG xu _ cf' wr.drew B hld.drew hlf.drew ada.drew adb.drew hln.1 hln.2);unfold evV at CE;have i0:(0:Int)≤(k:Int):=by omega
    have i1:(k:Int) < (n:Int):=by omega
    subst hA hA';clear hld hlf ada adb he he' hln;go_upto_region 6 with fail
    go_region_held3 (fun w'=>w'.cell? ⟨b,o+k * 7,none⟩=some (.int .i64 e'.thread)∧w'.cell? ⟨b,o+k * 7+1,none⟩=some (.int .i64 e'.kind)∧w'.cell? ⟨b,o+k * 7+2,none⟩=some (.int .i64 e'.obj)∧w'.cell? ⟨b,o+k * 7+3,none⟩=some (.int .i64 e'.value)∧w'.cell? ⟨b,o+k * 7+4,none⟩=some (.int .i64 e'.site)∧w'.cell? ⟨b,o+k * 7+5,none⟩=some (.slice Ad e'.deps.length cd)∧w'.cell? ⟨b,o+k * 7+6,none⟩=some (.slice Af e'.from_.length cf)∧
     w'.cell? ⟨b',o'+k * 7,none⟩=some (.int .i64 e'.thread)∧w'.cell? ⟨b',o'+k * 7+1,none⟩=some (.int .i64 e'.kind)∧w'.cell? ⟨b',o'+k * 7+2,none⟩=some (.int .i64 e'.obj)∧w'.cell? ⟨b',o'+k * 7+3,none⟩=some (.int .i64 e'.value)∧w'.cell? ⟨b',o'+k * 7+4,none⟩=some (.int .i64 e'.site)∧w'.cell? ⟨b',o'+k * 7+5,none⟩=some (.slice xq e'.deps.length zG)∧w'.cell? ⟨b',o'+k * 7+6,none⟩=some (.slice xu e'.from_.length cf'))
     (first | go_keep | (refine⟨?_,?_,?_,?_,?_,?_,?_,?_,?_,?_,?_,?_,?_,?_⟩ <;> exact World.grownBy.cell (w:=wr) (by assumption) (by assumption) (by simp)) | fail)
     (first | (go_at_call 35;((with_reducible refine CE.out.mono ?_);rintro e w2 ⟨rfl,hg2⟩;replace hg2:=jr hg2)) | fail)
    go_wp2_with fail;go_roundw
    case rel=>exact ⟨k+1,by go_num,by omega,af hg hg2 (.inl rfl)⟩
    case measure=>simp [intOf];omega
  · go_wp2_with fail;go_ret;exact⟨rfl,hg⟩
theorem zT (w:World)(B:Nat)(A0 KD:Option Addr)(n0 c0 c0':Nat)(X0:List Value)(A1 KE:Option Addr)(n1 c1 c1':Nat)(X1:List Value)(A2 KG:Option Addr)(n2 c2 c2':Nat)(X2:List Value)(A3 KH:Option Addr)(n3 c3 c3':Nat)(X3:List Value)(A4 KI:Option Addr)(n4 c4 NJ:Nat)(X4:List Value)(A5 KJ:Option Addr)(n5 c5 zH:Nat)(X5:List Value)(h0:Two w B 5 A0 KD n0 X0)(h1:Two w B 2 A1 KE n1 X1)(h2:Two w B 2 A2 KG n2 X2)(h3:Two w B 1 A3 KH n3 X3)(h4:Two w B 1 A4 KI n4 X4)(h5:Two w B 3 A5 KJ n5 X5)(s0:∀k,k < n0→AtCell X0 k)(s1:∀k,k < n1→AtLock X1 k)(s2:∀k,k < n2→AtCond X2 k)(s3:∀k,k < n3→AtStr X3 k)(s4:∀k,k < n4→AtStr X4 k)(s5:∀k,k < n5→AtSite X5 k)(hB:B≤w.heap.size)(m0:n0≤9000000000000000)(m1:n1≤9000000000000000)(m2:n2≤9000000000000000)(m3:n3≤9000000000000000)(m4:n4≤9000000000000000)(m5:n5≤9000000000000000)(E:List Ev)(AE QK:Option Addr)(nE cE VE:Nat)(hE:Evs w B AE nE E)(hE':Evs w B QK nE E)(hnE:nE≤1000000000)(hl:∀e∈E,e.deps.length≤1000000000000∧e.from_.length≤1000000000000):
 Calls Tryz.prog 22 #[.agg #[.slice A0 n0 c0,.slice A1 n1 c1,.slice A2 n2 c2,.slice A3 n3 c3,.slice A4 n4 c4,.slice A5 n5 c5,.slice AE nE cE],.agg #[.slice KD n0 c0',.slice KE n1 c1',.slice KG n2 c2',.slice KH n3 c3',.slice KI n4 NJ,.slice KJ n5 zH,.slice QK nE VE]] w fun e w'=>e= .returned (.bool true)∧w.grownBy w' none:=by
 obtain⟨W,hW⟩:∃W,W=(w.alloc (.cells #[.slice A0 n0 c0,.slice A1 n1 c1,.slice A2 n2 c2,.slice A3 n3 c3,.slice A4 n4 c4,.slice A5 n5 c5,.slice AE nE cE] 34)).alloc (.cells #[.slice KD n0 c0',.slice KE n1 c1',.slice KG n2 c2',.slice KH n3 c3',.slice KI n4 NJ,.slice KJ n5 zH,.slice QK nE VE] 34):=⟨_,rfl⟩
 have hg:w.grownBy W none:=by
  rw[hW];exact af (World.grownBy_alloc w _ none) (World.grownBy_alloc _ _ none) (.inl rfl)
 have hb0:Held W w.heap.size 34 #[.slice A0 n0 c0,.slice A1 n1 c1,.slice A2 n2 c2,.slice A3 n3 c3,.slice A4 n4 c4,.slice A5 n5 c5,.slice AE nE cE]:=by rw[hW];exact (Held.new w _ _).alloc _
 have hb1:Held W (w.heap.size+1) 34 #[.slice KD n0 c0',.slice KE n1 c1',.slice KG n2 c2',.slice KH n3 c3',.slice KI n4 NJ,.slice KJ n5 zH,.slice QK nE VE]:=by
  rw[hW];have:=Held.new (w.alloc (.cells #[.slice A0 n0 c0,.slice A1 n1 c1,.slice A2 n2 c2,.slice A3 n3 c3,.slice A4 n4 c4,.slice A5 n5 c5,.slice AE nE cE] 34)) 34 #[.slice KD n0 c0',.slice KE n1 c1',.slice KG n2 c2',.slice KH n3 c3',.slice KI n4 NJ,.slice KJ n5 zH,.slice QK nE VE];rwa [World.size_alloc] at this
 have HB0:=ae hb0;have HB1:=ae hb1;have HG:=ae hg;have CW:=ae (Ag W B A0 KD n0 c0 c0' X0 A1 KE n1 c1 c1' X1 A2 KG n2 c2 c2' X2 A3 KH n3 c3 c3' X3 A4 KI n4 c4 NJ X4 A5 KJ n5 c5 zH X5 (h0.grown hg hB) (h1.grown hg hB) (h2.grown hg hB) (h3.grown hg hB) (h4.grown hg hB) (h5.grown hg hB) s0 s1 s2 s3 s4 s5 (Nat.le_trans hB hg.size) m0 m1 m2 m3 m4 m5);have CE:=ae (fun (W2:World) (g:W.grownBy W2 none)=>xn E AE QK nE cE VE B W2 (hE.grown (af hg g (.inl rfl)) hB (fun _ e=>nomatch e)) (hE'.grown (af hg g (.inl rfl)) hB (fun _ e=>nomatch e)) (Nat.le_trans hB (af hg g (.inl rfl)).size) hnE hl);have HW:=ae hW;clear hW hb0 hb1 hg hE hE' hl h0 h1 h2 h3 h4 h5 s0 s1 s2 s3 s4 s5;go_enter Tryz.func22,Tryz.ntmps22;go_wp2_with fail;rw[show (w.alloc (.cells #[.slice A0 n0 c0,.slice A1 n1 c1,.slice A2 n2 c2,.slice A3 n3 c3,.slice A4 n4 c4,.slice A5 n5 c5,.slice AE nE cE] 34)).alloc (.cells #[.slice KD n0 c0',.slice KE n1 c1',.slice KG n2 c2',.slice KH n3 c3',.slice KI n4 NJ,.slice KJ n5 zH,.slice QK nE VE] 34)=W from HW.out.symm];refine CW.out.mono ?_;rintro e w2 ⟨rfl,hg2⟩;have d0:w2.cell? ⟨w.heap.size,6,none⟩=some (.slice AE nE cE):=(HB0.out.grown hg2 (fun e=>nomatch e)).cell 6;have d1:w2.cell? ⟨w.heap.size+1,6,none⟩=some (.slice QK nE VE):=(HB1.out.grown hg2 (fun e=>nomatch e)).cell 6;go_wp2_with fail;refine (CE.out _ hg2).mono ?_;rintro e w3 ⟨rfl,hg3⟩;go_wp2_with fail;go_ret;exact⟨rfl,af HG.out (af hg2 hg3 (.inl rfl)) (.inl rfl)⟩
def Cp1 (W:World)(lo B sz:Nat)(u:Sl)(n:Nat)(X:List Value):Prop:=u.n=n∧Lies W B sz u.A n X∧Lo lo u.A n∧(0 < n→∃b o,u.A=some ⟨b,o,none⟩)
theorem Cp1.keep {W W':World}{lo B sz n:Nat}{row:Option Nat}{u:Sl}{X:List Value}(h:Cp1 W lo B sz u n X)(hg:W.grownBy W' row)(hB:B≤W.heap.size)(hr:Rng lo B row):Cp1 W' lo B sz u n X:=
 ⟨h.1,fC h.2.1 h.2.2.1 hg hB hr,h.2.2.1,h.2.2.2⟩
theorem Cp1.own {W:World}{base e sz n c:Nat}{A:Option Addr}{X:List Value}(h:W.ownsRow base e sz (.slice A n c) n X):Cp1 W base W.heap.size sz ⟨A,n,c⟩ n X:=by
 refine⟨rfl,Lies.ofOwn h,?_,?_⟩
 · exact Lo.ofOwn h (Nat.le_refl _)
 · intro hn;rcases h.2 with ⟨h0,h1⟩ | ⟨g,cap,cur,h0,_⟩
   · omega
   · injection h0 with h0;exact⟨g,0,h0⟩
def CpW (n0:Nat)(X0:List Value)(n1:Nat)(X1:List Value)(n2:Nat)(X2:List Value)(n3:Nat)(X3:List Value)(n4:Nat)(X4:List Value)(n5:Nat)(X5:List Value)(W:World)(lo B:Nat)(us:List Sl):Prop:=∃u0 u1 u2 u3 u4 u5:Sl,us= [u0,u1,u2,u3,u4,u5]∧Cp1 W lo B 5 u0 n0 X0∧Cp1 W lo B 2 u1 n1 X1∧Cp1 W lo B 2 u2 n2 X2∧Cp1 W lo B 1 u3 n3 X3∧Cp1 W lo B 1 u4 n4 X4∧Cp1 W lo B 3 u5 n5 X5
theorem CpW.keep {n0 n1 n2 n3 n4 n5:Nat}{X0 X1 X2 X3 X4 X5:List Value} :∀W W' lo B row us,CpW n0 X0 n1 X1 n2 X2 n3 X3 n4 X4 n5 X5 W lo B us→W.grownBy W' row→B≤W.heap.size→Rng lo B row→CpW n0 X0 n1 X1 n2 X2 n3 X3 n4 X4 n5 X5 W' lo B us:=by
 rintro W W' lo B row us ⟨u0,u1,u2,u3,u4,u5,hu,h0,h1,h2,h3,h4,h5⟩ hg hB hr;exact⟨u0,u1,u2,u3,u4,u5,hu,h0.keep hg hB hr,h1.keep hg hB hr,h2.keep hg hB hr,h3.keep hg hB hr,h4.keep hg hB hr,h5.keep hg hB hr⟩
theorem CpW.made (w:World)(B:Nat)(A0:Option Addr)(n0 c0:Nat)(X0:List Value)(A1:Option Addr)(n1 c1:Nat)(X1:List Value)(A2:Option Addr)(n2 c2:Nat)(X2:List Value)(A3:Option Addr)(n3 c3:Nat)(X3:List Value)(A4:Option Addr)(n4 c4:Nat)(X4:List Value)(A5:Option Addr)(n5 c5:Nat)(X5:List Value)(h0:In1 w B 5 48 A0 n0 c0 X0)(h1:In1 w B 2 24 A1 n1 c1 X1)(h2:In1 w B 2 24 A2 n2 c2 X2)(h3:In1 w B 1 16 A3 n3 c3 X3)(h4:In1 w B 1 16 A4 n4 c4 X4)(h5:In1 w B 3 24 A5 n5 c5 X5)(hB:B≤w.heap.size):∀W,w.grownBy W none→Calls Tryz.prog 34 #[.agg #[.slice A0 n0 c0,.slice A1 n1 c1,.slice A2 n2 c2,.slice A3 n3 c3,.slice A4 n4 c4,.slice A5 n5 c5]] W fun e W'=>
 ∃u0 u1 u2 u3 u4 u5:Sl,e= .returned (.agg #[.slice u0.A u0.n u0.c,.slice u1.A u1.n u1.c,.slice u2.A u2.n u2.c,.slice u3.A u3.n u3.c,.slice u4.A u4.n u4.c,.slice u5.A u5.n u5.c])∧CpW n0 X0 n1 X1 n2 X2 n3 X3 n4 X4 n5 X5 W' W.heap.size W'.heap.size [u0,u1,u2,u3,u4,u5]∧W.grownBy W' none:=by
 intro W hg;refine (Aj W B A0 n0 c0 X0 A1 n1 c1 X1 A2 n2 c2 X2 A3 n3 c3 X3 A4 n4 c4 X4 A5 n5 c5 X5 (h0.grown hg hB) (h1.grown hg hB) (h2.grown hg hB) (h3.grown hg hB) (h4.grown hg hB) (h5.grown hg hB) (Nat.le_trans hB hg.size)).mono ?_;rintro e W' ⟨D0,k0,D1,k1,D2,k2,D3,k3,D4,k4,D5,k5,rfl,⟨o0,o1,o2,o3,o4,o5⟩,hg2⟩;exact⟨⟨D0,n0,k0⟩,⟨D1,n1,k1⟩,⟨D2,n2,k2⟩,⟨D3,n3,k3⟩,⟨D4,n4,k4⟩,⟨D5,n5,k5⟩,rfl,⟨⟨D0,n0,k0⟩,⟨D1,n1,k1⟩,⟨D2,n2,k2⟩,⟨D3,n3,k3⟩,⟨D4,n4,k4⟩,⟨D5,n5,k5⟩,rfl,Cp1.own o0,Cp1.own o1,Cp1.own o2,Cp1.own o3,Cp1.own o4,Cp1.own o5⟩,hg2⟩
variable {w : World} {wv : Array Value} {bw bT bL bX lo : Nat} {ls : List Int} {vB v : Value} {css : List Value} {rs : List Rec} {W W' : World}
end Go.Proofs.YtfbkkgfkhhibfaaGreat
namespace Iv
end Iv
namespace Go.Proofs.YtfbkkgfkhhibfaaGreat
open Go Go.RowKit Iv
theorem BX {w W:World}{a b:Array Value}{s t:TypeId}(h:W=(w.alloc (.cells a s)).alloc (.cells b t)):w.grownBy W none∧Held W w.heap.size s a∧Held W (w.heap.size+1) t b:=by
 subst h;have e:(w.alloc (.cells a s)).heap.size=w.heap.size+1:=by simp
 exact⟨af (World.grownBy_alloc _ _ none) (World.grownBy_alloc _ _ none) (.inl rfl),(Held.new w s a).alloc _,by rw[←e];exact Held.new _ _ _⟩
theorem Evs.more6 {w:World}{B B' n:Nat}{A:Option Addr}{l:List Ev}(h:Evs w B A n l)(hB:B≤B'):Evs w B' A n l:=
 ⟨h.1,fun k e he=>by
  obtain⟨b,o,Ad,cd,Af,cf,q1,hb,q2,q3,q4⟩:=h.2 k e he
  exact⟨b,o,Ad,cd,Af,cf,q1,Nat.lt_of_lt_of_le hb hB,q2,q3.more hB,q4.more hB⟩⟩
structure WRd (w:World)(B:Nat)(A0:Option Addr)(n0:Nat)(X0:List Value)(A1:Option Addr)(n1:Nat)(X1:List Value)(A2:Option Addr)(n2:Nat)(X2:List Value)(A3:Option Addr)(n3:Nat)(X3:List Value)(A4:Option Addr)(n4:Nat)(X4:List Value)(A5:Option Addr)(n5:Nat)(X5:List Value):Prop where
 l0:Lies w B 5 A0 n0 X0
 l1:Lies w B 2 A1 n1 X1
 l2:Lies w B 2 A2 n2 X2
 l3:Lies w B 1 A3 n3 X3
 l4:Lies w B 1 A4 n4 X4
 l5:Lies w B 3 A5 n5 X5
 s0:∀k,k < n0→AtCell X0 k
 s1:∀k,k < n1→AtLock X1 k
 s2:∀k,k < n2→AtCond X2 k
 s3:∀k,k < n3→AtStr X3 k
 s4:∀k,k < n4→AtStr X4 k
 s5:∀k,k < n5→AtSite X5 k
 a0:0 < n0→∃b o,A0=some ⟨b,o,none⟩
 a1:0 < n1→∃b o,A1=some ⟨b,o,none⟩
 a2:0 < n2→∃b o,A2=some ⟨b,o,none⟩
 a3:0 < n3→∃b o,A3=some ⟨b,o,none⟩
 a4:0 < n4→∃b o,A4=some ⟨b,o,none⟩
 a5:0 < n5→∃b o,A5=some ⟨b,o,none⟩
 m0:n0≤9000000000000000
 m1:n1≤9000000000000000
 m2:n2≤9000000000000000
 m3:n3≤9000000000000000
 m4:n4≤9000000000000000
 m5:n5≤9000000000000000
theorem WRd.grown {w w':World}{B:Nat}{row:Option Nat}{A0:Option Addr}{n0:Nat}{X0:List Value}{A1:Option Addr}{n1:Nat}{X1:List Value}{A2:Option Addr}{n2:Nat}{X2:List Value}{A3:Option Addr}{n3:Nat}{X3:List Value}{A4:Option Addr}{n4:Nat}{X4:List Value}{A5:Option Addr}{n5:Nat}{X5:List Value}(h:WRd w B A0 n0 X0 A1 n1 X1 A2 n2 X2 A3 n3 X3 A4 n4 X4 A5 n5 X5)(hg:w.grownBy w' row)(hB:B≤w.heap.size)(hr:∀g,row=some g→B≤g):WRd w' B A0 n0 X0 A1 n1 X1 A2 n2 X2 A3 n3 X3 A4 n4 X4 A5 n5 X5:=
 ⟨h.l0.grown hg hB hr,h.l1.grown hg hB hr,h.l2.grown hg hB hr,h.l3.grown hg hB hr,h.l4.grown hg hB hr,h.l5.grown hg hB hr,h.s0,h.s1,h.s2,h.s3,h.s4,h.s5,h.a0,h.a1,h.a2,h.a3,h.a4,h.a5,h.m0,h.m1,h.m2,h.m3,h.m4,h.m5⟩
theorem WRd.more {w:World}{B B':Nat}{A0:Option Addr}{n0:Nat}{X0:List Value}{A1:Option Addr}{n1:Nat}{X1:List Value}{A2:Option Addr}{n2:Nat}{X2:List Value}{A3:Option Addr}{n3:Nat}{X3:List Value}{A4:Option Addr}{n4:Nat}{X4:List Value}{A5:Option Addr}{n5:Nat}{X5:List Value}(h:WRd w B A0 n0 X0 A1 n1 X1 A2 n2 X2 A3 n3 X3 A4 n4 X4 A5 n5 X5)(hB:B≤B'):WRd w B' A0 n0 X0 A1 n1 X1 A2 n2 X2 A3 n3 X3 A4 n4 X4 A5 n5 X5:=
 ⟨h.l0.more hB,h.l1.more hB,h.l2.more hB,h.l3.more hB,h.l4.more hB,h.l5.more hB,h.s0,h.s1,h.s2,h.s3,h.s4,h.s5,h.a0,h.a1,h.a2,h.a3,h.a4,h.a5,h.m0,h.m1,h.m2,h.m3,h.m4,h.m5⟩
theorem WIn.rd {w:World}{B:Nat}{A0:Option Addr}{n0 c0:Nat}{X0:List Value}{A1:Option Addr}{n1 c1:Nat}{X1:List Value}{A2:Option Addr}{n2 c2:Nat}{X2:List Value}{A3:Option Addr}{n3 c3:Nat}{X3:List Value}{A4:Option Addr}{n4 c4:Nat}{X4:List Value}{A5:Option Addr}{n5 c5:Nat}{X5:List Value}(h:WIn w B A0 n0 c0 X0 A1 n1 c1 X1 A2 n2 c2 X2 A3 n3 c3 X3 A4 n4 c4 X4 A5 n5 c5 X5):WRd w B A0 n0 X0 A1 n1 X1 A2 n2 X2 A3 n3 X3 A4 n4 X4 A5 n5 X5:=
 ⟨h.h0.lies,h.h1.lies,h.h2.lies,h.h3.lies,h.h4.lies,h.h5.lies,h.s0,h.s1,h.s2,h.s3,h.s4,h.s5,h.a0,h.a1,h.a2,h.a3,h.a4,h.a5,(by have:=h.h0.bytes_;omega),(by have:=h.h1.bytes_;omega),(by have:=h.h2.bytes_;omega),(by have:=h.h3.bytes_;omega),(by have:=h.h4.bytes_;omega),(by have:=h.h5.bytes_;omega)⟩
def aiC (w:World)(A0:Option Addr)(n0:Nat)(X0:List Value)(A1:Option Addr)(n1:Nat)(X1:List Value)(A2:Option Addr)(n2:Nat)(X2:List Value)(A3:Option Addr)(n3:Nat)(X3:List Value)(A4:Option Addr)(n4:Nat)(X4:List Value)(A5:Option Addr)(n5:Nat)(X5:List Value)(fs:List Bytes)(e:Ending)(w':World):Prop:=∃(D0:Option Addr) (k0:Nat) (D1:Option Addr) (k1:Nat) (D2:Option Addr) (k2:Nat) (D3:Option Addr) (k3:Nat) (D4:Option Addr) (k4:Nat) (D5:Option Addr) (k5:Nat) (AE:Option Addr) (cE:Nat) (AB:Option Addr) (cB:Nat),e= .returned (.tuple #[.agg #[.slice D0 n0 k0,.slice D1 n1 k1,.slice D2 n2 k2,.slice D3 n3 k3,.slice D4 n4 k4,.slice D5 n5 k5,.slice AE (dF (aV fs n4)).length cE],.agg #[.slice AB (dH fs n4).length cB,.int .i64 (((aV fs n4).length:Int) - ((dF (aV fs n4)).length:Int))]])∧
 WRd w' w'.heap.size D0 n0 X0 D1 n1 X1 D2 n2 X2 D3 n3 X3 D4 n4 X4 D5 n5 X5∧Evs w' w'.heap.size AE (dF (aV fs n4)).length (dF (aV fs n4))∧Lies w' w'.heap.size 1 AB (dH fs n4).length ((dH fs n4).map iv)∧w.grownBy w' none
theorem xI (w:World)(B:Nat)(A0:Option Addr)(n0 c0:Nat)(X0:List Value)(A1:Option Addr)(n1 c1:Nat)(X1:List Value)(A2:Option Addr)(n2 c2:Nat)(X2:List Value)(A3:Option Addr)(n3 c3:Nat)(X3:List Value)(A4:Option Addr)(n4 c4:Nat)(X4:List Value)(A5:Option Addr)(n5 c5:Nat)(X5:List Value)(hW:WIn w B A0 n0 c0 X0 A1 n1 c1 X1 A2 n2 c2 X2 A3 n3 c3 X3 A4 n4 c4 X4 A5 n5 c5 X5)(hB:B≤w.heap.size)(AF:Option Addr)(nF cF BF:Nat)(fs:List Bytes)(hF:FIn w BF AF nF fs)(hBF:BF≤w.heap.size)(hk:n4≤10)(hlen:∀f∈fs,f.length≤1000000)(hnF:nF≤1000):
 Calls Tryz.prog 15 #[.agg #[.slice A0 n0 c0,.slice A1 n1 c1,.slice A2 n2 c2,.slice A3 n3 c3,.slice A4 n4 c4,.slice A5 n5 c5],.slice AF nF cF] w fun e w'=>aiC w A0 n0 X0 A1 n1 X1 A2 n2 X2 A3 n3 X3 A4 n4 X4 A5 n5 X5 fs e w':=by
 have hCM:=CpW.made w B A0 n0 c0 X0 A1 n1 c1 X1 A2 n2 c2 X2 A3 n3 c3 X3 A4 n4 c4 X4 A5 n5 c5 X5 hW.h0 hW.h1 hW.h2 hW.h3 hW.h4 hW.h5 hB;refine (JK _ _ _ _ _ A4 n4 c4 AF nF cF BF fs w hF hBF hk hlen hnF ⟨rfl,rfl,rfl,rfl,rfl⟩ (CpW n0 X0 n1 X1 n2 X2 n3 X3 n4 X4 n5 X5) CpW.keep hCM).mono ?_;rintro e w2 ⟨⟨D0,q0,k0⟩,⟨D1,q1,k1⟩,⟨D2,q2,k2⟩,⟨D3,q3,k3⟩,⟨D4,q4,k4⟩,⟨D5,q5,k5⟩,AE,cE,AB,cB,rfl,⟨lo,B1,⟨v0,v1,v2,v3,v4,v5,hu,p0,p1,p2,p3,p4,p5⟩,hb1⟩,⟨base,lo2,B2,css,hown,hev,hb2⟩,hls,hg2⟩;simp only[List.cons.injEq,and_true] at hu;obtain⟨rfl,rfl,rfl,rfl,rfl,rfl⟩:=hu;obtain⟨rfl,rfl,rfl,rfl,rfl,rfl⟩:q0=n0∧q1=n1∧q2=n2∧q3=n3∧q4=n4∧q5=n5:=⟨p0.1,p1.1,p2.1,p3.1,p4.1,p5.1⟩;have hrd:=hW.rd;exact⟨D0,k0,D1,k1,D2,k2,D3,k3,D4,k4,D5,k5,AE,cE,AB,cB,rfl,⟨p0.2.1.more hb1,p1.2.1.more hb1,p2.2.1.more hb1,p3.2.1.more hb1,p4.2.1.more hb1,p5.2.1.more hb1,hrd.s0,hrd.s1,hrd.s2,hrd.s3,hrd.s4,hrd.s5,p0.2.2.2,p1.2.2.2,p2.2.2.2,p3.2.2.2,p4.2.2.2,p5.2.2.2,hrd.m0,hrd.m1,hrd.m2,hrd.m3,hrd.m4,hrd.m5⟩,Zn hown hev hb2 rfl,hls,hg2⟩
theorem VQ (w:World)(B:Nat)(A0 D0:Option Addr)(n0 c0 k0:Nat)(X0:List Value)(A1 D1:Option Addr)(n1 c1 k1:Nat)(X1:List Value)(A2 D2:Option Addr)(n2 c2 k2:Nat)(X2:List Value)(A3 D3:Option Addr)(n3 c3 k3:Nat)(X3:List Value)(A4 D4:Option Addr)(n4 c4 k4:Nat)(X4:List Value)(A5 D5:Option Addr)(n5 c5 k5:Nat)(X5:List Value)(h:WRd w B A0 n0 X0 A1 n1 X1 A2 n2 X2 A3 n3 X3 A4 n4 X4 A5 n5 X5)(h':WRd w B D0 n0 X0 D1 n1 X1 D2 n2 X2 D3 n3 X3 D4 n4 X4 D5 n5 X5)(hB:B≤w.heap.size)(E:List Ev)(AE QK:Option Addr)(nE cE VE:Nat)(hE:Evs w B AE nE E)(hE':Evs w B QK nE E)(hnE:nE≤1000000000)(hl:∀e∈E,e.deps.length≤1000000000000∧e.from_.length≤1000000000000):
 Calls Tryz.prog 22 #[.agg #[.slice A0 n0 c0,.slice A1 n1 c1,.slice A2 n2 c2,.slice A3 n3 c3,.slice A4 n4 c4,.slice A5 n5 c5,.slice AE nE cE],.agg #[.slice D0 n0 k0,.slice D1 n1 k1,.slice D2 n2 k2,.slice D3 n3 k3,.slice D4 n4 k4,.slice D5 n5 k5,.slice QK nE VE]] w fun e w'=>e= .returned (.bool true)∧w.grownBy w' none:=
 zT w B A0 D0 n0 c0 k0 X0 A1 D1 n1 c1 k1 X1 A2 D2 n2 c2 k2 X2 A3 D3 n3 c3 k3 X3 A4 D4 n4 c4 k4 X4 A5 D5 n5 c5 k5 X5 ⟨h.l0,h'.l0,h.a0,h'.a0⟩ ⟨h.l1,h'.l1,h.a1,h'.a1⟩ ⟨h.l2,h'.l2,h.a2,h'.a2⟩ ⟨h.l3,h'.l3,h.a3,h'.a3⟩ ⟨h.l4,h'.l4,h.a4,h'.a4⟩ ⟨h.l5,h'.l5,h.a5,h'.a5⟩ h.s0 h.s1 h.s2 h.s3 h.s4 h.s5 hB h.m0 h.m1 h.m2 h.m3 h.m4 h.m5 E AE QK nE cE VE hE hE' hnE hl
theorem FilesAt.fin {base thr gF:Nat}{fs:Nat→Bytes}{vf:Nat→Value}{w:World}(h:FilesAt base thr gF fs vf w):FIn w w.heap.size (some ⟨gF,0,none⟩) thr ((List.range thr).map fs):=by
 refine⟨by simp,fun k f hk=>?_⟩;rw[List.getElem?_map] at hk
 cases hr:(List.range thr)[k]? with
 | none=>rw [hr] at hk;simp at hk
 |
  some t=>
  obtain⟨hkt,ht⟩:=List.getElem?_eq_some_iff.1 hr;rw[List.length_range] at hkt;simp only[List.getElem_range] at ht;subst ht;rw[hr] at hk;simp only[Option.map_some,Option.some.injEq] at hk;subst hk;obtain⟨A,c,hv,h1,h2,h3,h4⟩:=aj (h.own k hkt);refine⟨gF,0,A,_,c,rfl,h.h.lt,?_,h3,h1,h2,h4⟩;have:=h.h.cell k;rw[Nat.zero_add,this,fE _ hkt,hv]
theorem Bf {l:List Ev}{n:Nat}{p:Pln}(h:aY l n p=0)(hl:l.length≤100)(hn:∀e∈l,RecFit ⟨0,e⟩):∀f∈(List.range n).map (dN l p),f.length≤1000000:=by
 intro f hf;obtain⟨t,ht,rfl⟩:=List.mem_map.1 hf;have ht:=List.mem_range.1 ht;obtain⟨tt,c,htt,hp⟩:=xJ h;obtain rfl:n=tt:=by omega
 have hN:jQ l p≤l.length:=by unfold jQ;omega
 have h1:=hp.recorded hn _ hN t ht;have h2:=h1.size;have h3:=h1.hi;have h4:((recorded l p (jQ l p)).file t).length≤1000000:=by omega
 unfold dN jc;dsimp only;split
 · unfold wP;rw[List.length_take];omega
 · exact h4
end Go.Proofs.YtfbkkgfkhhibfaaGreat
namespace Iv
open Go Go.RowKit
theorem st2 {w:World}{g:Nat}{t:TypeId}{z0 z1:Value}(h:Held w g t #[z0,z1])(u0 u1:Value):Held ((w.setCell ⟨g,0,none⟩ u0).setCell ⟨g,1,none⟩ u1) g t #[u0,u1]∧w.grownBy ((w.setCell ⟨g,0,none⟩ u0).setCell ⟨g,1,none⟩ u1) (some g):=by
 have h1:Held (w.setCell ⟨g,0,none⟩ u0) g t #[u0,z1]:=h.store 0 _;have h2:Held ((w.setCell ⟨g,0,none⟩ u0).setCell ⟨g,1,none⟩ u1) g t #[u0,u1]:=h1.store 1 _;refine⟨h2,?_⟩;have g0:=World.grownBy.refl w (some g);have g1:=ax g0 (ah w g 0 u0);have g2:=ax g1 (ah (w.setCell ⟨g,0,none⟩ u0) g 1 u1);exact g2
theorem st3 {w:World}{g:Nat}{t:TypeId}{z0 z1 z2:Value}(h:Held w g t #[z0,z1,z2])(u0 u1 u2:Value):Held (((w.setCell ⟨g,0,none⟩ u0).setCell ⟨g,1,none⟩ u1).setCell ⟨g,2,none⟩ u2) g t #[u0,u1,u2]∧w.grownBy (((w.setCell ⟨g,0,none⟩ u0).setCell ⟨g,1,none⟩ u1).setCell ⟨g,2,none⟩ u2) (some g):=by
 have h1:Held (w.setCell ⟨g,0,none⟩ u0) g t #[u0,z1,z2]:=h.store 0 _;have h2:Held ((w.setCell ⟨g,0,none⟩ u0).setCell ⟨g,1,none⟩ u1) g t #[u0,u1,z2]:=h1.store 1 _;have h3:Held (((w.setCell ⟨g,0,none⟩ u0).setCell ⟨g,1,none⟩ u1).setCell ⟨g,2,none⟩ u2) g t #[u0,u1,u2]:=h2.store 2 _;refine⟨h3,?_⟩;have g0:=World.grownBy.refl w (some g);have g1:=ax g0 (ah w g 0 u0);have g2:=ax g1 (ah (w.setCell ⟨g,0,none⟩ u0) g 1 u1);have g3:=ax g2 (ah ((w.setCell ⟨g,0,none⟩ u0).setCell ⟨g,1,none⟩ u1) g 2 u2);exact g3
theorem st4 {w:World}{g:Nat}{t:TypeId}{z0 z1 z2 z3:Value}(h:Held w g t #[z0,z1,z2,z3])(u0 u1 u2 u3:Value):Held ((((w.setCell ⟨g,0,none⟩ u0).setCell ⟨g,1,none⟩ u1).setCell ⟨g,2,none⟩ u2).setCell ⟨g,3,none⟩ u3) g t #[u0,u1,u2,u3]∧w.grownBy ((((w.setCell ⟨g,0,none⟩ u0).setCell ⟨g,1,none⟩ u1).setCell ⟨g,2,none⟩ u2).setCell ⟨g,3,none⟩ u3) (some g):=by
 have h1:Held (w.setCell ⟨g,0,none⟩ u0) g t #[u0,z1,z2,z3]:=h.store 0 _;have h2:Held ((w.setCell ⟨g,0,none⟩ u0).setCell ⟨g,1,none⟩ u1) g t #[u0,u1,z2,z3]:=h1.store 1 _;have h3:Held (((w.setCell ⟨g,0,none⟩ u0).setCell ⟨g,1,none⟩ u1).setCell ⟨g,2,none⟩ u2) g t #[u0,u1,u2,z3]:=h2.store 2 _;have h4:Held ((((w.setCell ⟨g,0,none⟩ u0).setCell ⟨g,1,none⟩ u1).setCell ⟨g,2,none⟩ u2).setCell ⟨g,3,none⟩ u3) g t #[u0,u1,u2,u3]:=h3.store 3 _;refine⟨h4,?_⟩;have g0:=World.grownBy.refl w (some g);have g1:=ax g0 (ah w g 0 u0);have g2:=ax g1 (ah (w.setCell ⟨g,0,none⟩ u0) g 1 u1);have g3:=ax g2 (ah ((w.setCell ⟨g,0,none⟩ u0).setCell ⟨g,1,none⟩ u1) g 2 u2);have g4:=ax g3 (ah (((w.setCell ⟨g,0,none⟩ u0).setCell ⟨g,1,none⟩ u1).setCell ⟨g,2,none⟩ u2) g 3 u3);exact g4
end Iv
namespace Iv
open Go
section
variable {P : Program} {ops : Array Oper} {Q : Exit → Act → World → Prop} {md : Region.Mode} {S : World → Prop} {z : Nat}
end
section
variable {P : Program} {ops : Array Oper} {Q : Exit → Act → World → Prop} {md : Region.Mode} {S : World → Prop} {z : Nat}
end
end Iv
namespace Go.Proofs.YtfbkkgfkhhibfaaGreat
open Go Go.RowKit Iv
