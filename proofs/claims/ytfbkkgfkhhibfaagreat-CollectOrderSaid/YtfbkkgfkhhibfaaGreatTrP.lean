/- Words. -/
import Derived.Test.YtfbkkgfkhhibfaaGreatAw15
import Derived.Deep.CutBlock
set_option linter.unusedVariables false
set_option maxRecDepth 100000
set_option maxHeartbeats 8000000
namespace Go.Proofs.YtfbkkgfkhhibfaaGreat
open Go Go.RowKit Iv
theorem PM (t:Nat):madeCells (Value.int .i64 0).cells (t * 1)=((List.replicate t (0:Int)).map iv).toArray:=by
 show madeCells #[.int .i64 0] (t * 1)=_;unfold madeCells;apply Array.ext
 · simp
 · intro i h1 h2;simp[Nat.mod_one,iv]
theorem PN {t:Nat}(w:World)(ht:t≤1000):(Instr.makeSlice 37 (.int .i64 (t:Int)) (.int .i64 (t:Int))).run Tryz.prog w= .ok (.slice (some ⟨w.heap.size,0,none⟩) t t) (w.alloc (.cells ((List.replicate t (0:Int)).map iv).toArray 3)):=by
 obtain⟨i0,hi,hz0,hz1,hz2⟩:=info_parts yJ;have:=run_make (P:=Tryz.prog) w 37 3 i0 (.int .i64 0) Tryz.underlying37 hi hz0 .i64 .i64 (t:Int) (t:Int) (by omega) (Int.le_refl _) (by rw[hz2];omega) (by omega);rw[Int.toNat_natCast,hz1,PM t] at this;exact this
theorem H6 {w w':World}{lo n:Nat}{A:Option Addr}{xs:List Value}{row:Option Nat}(h:Lies w w.heap.size 1 A n xs)(hl:Lo lo A n)(hg:w.grownBy w' row)(hr:∀g,row=some g→g < lo):Lies w' w'.heap.size 1 A n xs:=
 (fC h hl hg (Nat.le_refl _) (fun g e=> .inl (hr g e))).more hg.size
structure TrI (w:World)(wv:Array Value)(bw bT bL gB bX lo:Nat)(ls:List Int)(v:Value)(css:List Value)(rs:List Rec)(W:World):Prop where
 hw:Held W bw 31 wv
 hT:Held W bT 34 #[.slice none 0 0,.slice none 0 0,.slice none 0 0,.slice none 0 0,.slice none 0 0,.slice none 0 0,.slice none 0 0]
 hL:Held W bL 61 #[.slice none 0 0,.int .i64 0]
 hB:Held W gB 3 (ls.map iv).toArray
 hX:Held W bX 61 #[.slice (some ⟨gB,0,none⟩) ls.length ls.length,.int .i64 0]
 own:W.ownsRow lo 54 8 v rs.length css
 rows:RowsAt W lo v.ownBlock css rs
 gr:w.grownBy W none
 o:w.heap.size≤bw∧bw < bT∧bT < bL∧bL < gB∧gB < bX∧bX < lo
 s:lo≤W.heap.size
variable {w : World} {wv : Array Value} {bw bT bL gB bX lo : Nat} {ls : List Int} {v : Value} {css : List Value} {rs : List Rec} {W W' : World}
theorem TrI.keep (h:TrI w wv bw bT bL gB bX lo ls v css rs W)(hg:W.grownBy W' none):TrI w wv bw bT bL gB bX lo ls v css rs W':=
 ⟨h.hw.grown hg (fun e=>nomatch e),h.hT.grown hg (fun e=>nomatch e),h.hL.grown hg (fun e=>nomatch e),h.hB.grown hg (fun e=>nomatch e),h.hX.grown hg (fun e=>nomatch e),ay h.own hg (fun _ _ e=>nomatch e),h.rows.keep hg,af h.gr hg (.inl rfl),h.o,Nat.le_trans h.s hg.size⟩
theorem TrI.next (h:TrI w wv bw bT bL gB bX lo ls v css rs W){v':Value}{Pv:List Value}{rs':List Rec}(hg:W.grownBy W' v.ownBlock)(hown:W'.ownsRow lo 54 8 v' rs'.length Pv)(hrow:RowsAt W' lo v'.ownBlock Pv rs'):TrI w wv bw bT bL gB bX lo ls v' Pv rs' W':=by
 have ho:=h.o;have hne:∀g,g < lo→some g≠v.ownBlock:=fun g hg' e=>by have:=(h.own.lt g e.symm).1;omega
 exact⟨h.hw.grown hg (hne _ (by omega)),h.hT.grown hg (hne _ (by omega)),h.hL.grown hg (hne _ (by omega)),h.hB.grown hg (hne _ (by omega)),h.hX.grown hg (hne _ (by omega)),hown,hrow,
  Ei h.gr hg (fun g e=>by have:=(h.own.lt g e).1;omega),h.o,Nat.le_trans h.s hg.size⟩
theorem TrI.lost (h:TrI w wv bw bT bL gB bX lo ls v css rs W)(t:Nat)(n:Int):TrI w wv bw bT bL gB bX lo (ls.set t n) v css rs (W.setCell ⟨gB,t,none⟩ (.int .i64 n)):=by
 have ho:=h.o;have hg:=ah W gB t (.int .i64 n);have hB:=h.hB.store t (.int .i64 n);refine⟨h.hw.far (by simp;omega) _,h.hT.far (by simp;omega) _,h.hL.far (by simp;omega) _,?_,by rw[List.length_set];exact h.hX.far (by simp;omega) _,ay h.own hg (fun g e1 e2=>by injection e2 with e2;have:=(h.own.lt g e1).1;omega),?_,af h.gr hg (.inr ⟨_,rfl,by omega⟩),h.o,Nat.le_trans h.s hg.size⟩
 · have e:((ls.set t n).map iv).toArray=(ls.map iv).toArray.setIfInBounds t (.int .i64 n):=by
    rw[List.map_set];simp[iv]
   rw[e];exact hB
 · have hr:∀r,r∈rs→True:=fun _ _=>trivial
   exact⟨h.rows.1,fun k r hk=>by
    obtain⟨Ad,nd,cd,Af,nf,cf,q⟩:=h.rows.2 k r hk;exact⟨Ad,nd,cd,Af,nf,cf,q.cells,H6 q.ld q.lod hg (fun g e=>by injection e with e;omega),H6 q.lf q.lof hg (fun g e=>by injection e with e;omega),q.od,q.of_,q.lod,q.lof⟩⟩
theorem au {w:World}{base lo m k:Nat}{v:Value}{css:List Value}{rs:List Rec}(hown:w.ownsRow base 54 8 v m css)(h:RowsAt w lo v.ownBlock css rs)(hm:rs.length=m)(hk:k < m):
 ∃(g c:Nat) (r:Rec) (Ad:Option Addr) (nd cd:Nat) (Af:Option Addr) (nf cf:Nat),v= .slice (some ⟨g,0,none⟩) m c∧m≤c∧rs[k]?=some r∧(∀j u,(recV r Ad nd cd Af nf cf)[j]?=some u→w.cell? ⟨g,k * 8+j,none⟩=some u)∧RowRec w lo v.ownBlock css k r Ad nd cd Af nf cf:=by
 obtain⟨g,c,hv,hmc,hlt⟩:=hown.form (by omega);obtain⟨Ad,nd,cd,Af,nf,cf,q⟩:=h.2 k (rs[k]'(by omega)) (List.getElem?_eq_getElem (by omega));have hc:=hown.cells (g:=g) (by rw[hv];rfl);refine⟨g,c,_,Ad,nd,cd,Af,nf,cf,hv,?_,List.getElem?_eq_getElem (by omega),fun j u hu=>?_,q⟩
 · subst hv;obtain⟨_,_,hv2,hnm,_⟩:=aj hown;injection hv2 with _ _ e3;omega
 · have:=hc (k * 8+j) u (q.cells j u hu);rw[show (⟨g,0,none⟩:Addr).add (k * 8+j)=⟨g,k * 8+j,none⟩ by unfold Addr.add;split <;> simp_all] at this
   exact this
theorem PO {w:World}{base lo B m k:Nat}{v:Value}{css:List Value}{xs:List Blk}(hown:w.ownsRow base 50 3 v m css)(h:BlksB w lo B css xs)(hm:xs.length=m)(hk:k < m):
 ∃(g c:Nat) (x:Blk) (A:Option Addr) (n cc:Nat),v= .slice (some ⟨g,0,none⟩) m c∧m≤c∧xs[k]?=some x∧w.cell? ⟨g,k * 3,none⟩=some (.int .i64 x.thread)∧w.cell? ⟨g,k * 3+1,none⟩=some (.int .i64 x.first)∧w.cell? ⟨g,k * 3+2,none⟩=some (.slice A n cc)∧RecsB w lo B A n x.recs∧n≤cc∧cc≤maxLen∧(A=none→cc=0):=by
 obtain⟨g,c,hv,hmc,hlt⟩:=hown.form (by omega);subst hv;obtain⟨A,n,cc,h1,h2,h3⟩:=h.2 k (xs[k]'(by omega)) (List.getElem?_eq_getElem (by omega));have hc:=hown.cells (g:=g) rfl
 have cell:∀j u,(oL (xs[k]'(by omega)) A n cc)[j]?=some u→w.cell? ⟨g,k * 3+j,none⟩=some u:=fun j u hu=>by
  have:=hc (k * 3+j) u (h1 j u hu);rw[show (⟨g,0,none⟩:Addr).add (k * 3+j)=⟨g,k * 3+j,none⟩ by unfold Addr.add;split <;> simp_all] at this
  exact this
 exact⟨g,c,_,A,n,cc,rfl,by obtain⟨_,_,hv2,hnm,_⟩:=aj hown;injection hv2 with _ _ e3;omega,List.getElem?_eq_getElem (by omega),cell 0 _ rfl,cell 1 _ rfl,cell 2 _ rfl,h2,h3⟩
theorem BP (w:World)(t:TypeId)(cs:Array Value):∀j u,cs.toList[j]?=some u→(w.alloc (.cells cs t)).cell? ((⟨w.heap.size,0,none⟩:Addr).add j)=some u:=fun j u hu=>by
 rw[show (⟨w.heap.size,0,none⟩:Addr).add j=⟨w.heap.size,j,none⟩ by unfold Addr.add;split <;> simp_all,(Held.new w t cs).cell j]
 rwa [Array.getElem?_toList] at hu
structure Sl where
 A:Option Addr
 n:Nat
 c:Nat
def ae5 (CP:World→Nat→Nat→List Sl→Prop)(all:List Rec)(ls:List Int)(w:World)(e:Ending)(w':World):Prop:=
 ∃(u0 u1 u2 u3 u4 u5:Sl) (AE:Option Addr) (cE:Nat) (AB:Option Addr) (cB:Nat),e= .returned (.tuple #[.agg #[.slice u0.A u0.n u0.c,.slice u1.A u1.n u1.c,.slice u2.A u2.n u2.c,.slice u3.A u3.n u3.c,.slice u4.A u4.n u4.c,.slice u5.A u5.n u5.c,.slice AE (dF all).length cE],.agg #[.slice AB ls.length cB,.int .i64 ((all.length:Int) - ((dF all).length:Int))]])∧
  (∃lo B,CP w' lo B [u0,u1,u2,u3,u4,u5]∧B≤w'.heap.size)∧(∃base lo B css,w'.ownsRow base 52 7 (.slice AE (dF all).length cE) (dF all).length css∧EvsB w' lo B css (dF all)∧B≤w'.heap.size)∧
  Lies w' w'.heap.size 1 AB ls.length (ls.map iv)∧w.grownBy w' none
structure TrK (CP:World→Nat→Nat→List Sl→Prop)(w:World)(lo7 B7 lo B gB base:Nat)(us:List Sl)(ls:List Int)(vE:Value)(m:Nat)(cssE:List Value)(E:List Ev)(W:World):Prop where
 gr:w.grownBy W none
 cp:CP W lo7 B7 us
 b7:B7≤W.heap.size
 own:W.ownsRow base 52 7 vE m cssE
 ev:EvsB W lo B cssE E
 bb:B≤W.heap.size
 ints:Held W gB 3 (ls.map iv).toArray
theorem TrK.step {CP:World→Nat→Nat→List Sl→Prop}(H7:∀W W' lo B row us,CP W lo B us→W.grownBy W' row→B≤W.heap.size→Rng lo B row→CP W' lo B us){w:World}{lo7 B7 lo B gB base:Nat}{us:List Sl}{ls:List Int}{vE:Value}{m:Nat}{cssE:List Value}{E:List Ev}{W:World}
 (h:TrK CP w lo7 B7 lo B gB base us ls vE m cssE E W) (b j:Nat) (v:Value) (h0:w.heap.size≤b) (h1:b < lo7) (h2:b < lo) (h3:b≠gB) (h4:b < base):TrK CP w lo7 B7 lo B gB base us ls vE m cssE E (W.setCell ⟨b,j,none⟩ v):=by
 have g:=ah W b j v
 exact⟨af h.gr g (.inr ⟨_,rfl,h0⟩),H7 _ _ _ _ _ _ h.cp g h.b7 (fun x e=> .inl (by injection e with e;omega)),Nat.le_trans h.b7 g.size,ay h.own g (fun x e1 e2=>by injection e2 with e2;have:=(h.own.lt x e1).1;omega),
  h.ev.keep g h.bb (fun x e=> .inl (by injection e with e;omega)),Nat.le_trans h.bb g.size,h.ints.far (by simpa using fun e=>h3 e.symm) _⟩
theorem TrK.drew {CP:World→Nat→Nat→List Sl→Prop}(H7:∀W W' lo B row us,CP W lo B us→W.grownBy W' row→B≤W.heap.size→Rng lo B row→CP W' lo B us){w:World}{lo7 B7 lo B gB base:Nat}{us:List Sl}{ls:List Int}{vE:Value}{m:Nat}{cssE:List Value}{E:List Ev}{W:World}
 (k:TrK CP w lo7 B7 lo B gB base us ls vE m cssE E W):TrK CP w lo7 B7 lo B gB base us ls vE m cssE E W.drew:=
 ⟨aN k.gr,H7 _ _ _ _ _ _ k.cp (aN (World.grownBy.refl _ none)) k.b7 (Rng.none _ _),k.b7,k.own,k.ev.keep (aN (World.grownBy.refl W none)) k.bb (Rng.none _ _),k.bb,k.ints⟩
theorem PQ {CP:World→Nat→Nat→List Sl→Prop}(H7:∀W W' lo B row us,CP W lo B us→W.grownBy W' row→B≤W.heap.size→Rng lo B row→CP W' lo B us){w:World}{lo7 B7 lo B gB base:Nat}{us:List Sl}{ls:List Int}{vE:Value}{m:Nat}{cssE:List Value}{E:List Ev}{wx:World}{bT bL:Nat}{tT tL:TypeId}
 (h:TrK CP w lo7 B7 lo B gB base us ls vE m cssE E wx) (z a0 a1 a2 a3 a4 a5 a6 y0 y1 b0 b1:Value) (dT:Held wx bT tT #[z,z,z,z,z,z,z]) (dL:Held wx bL tL #[y0,y1])
 (hT:w.heap.size≤bT∧bT < lo7∧bT < lo∧bT≠gB∧bT < base) (hL:w.heap.size≤bL∧bL < lo7∧bL < lo∧bL≠gB∧bL < base) (hTL:bT≠bL):
 TrK CP w lo7 B7 lo B gB base us ls vE m cssE E (((((((((wx.setCell ⟨bT,0,none⟩ a0).setCell ⟨bT,1,none⟩ a1).setCell ⟨bT,2,none⟩ a2).setCell ⟨bT,3,none⟩ a3).setCell ⟨bT,4,none⟩ a4).setCell ⟨bT,5,none⟩ a5).setCell ⟨bT,6,none⟩ a6).setCell ⟨bL,0,none⟩ b0).setCell ⟨bL,1,none⟩ b1).drew∧Held (((((((((wx.setCell ⟨bT,0,none⟩ a0).setCell ⟨bT,1,none⟩ a1).setCell ⟨bT,2,none⟩ a2).setCell ⟨bT,3,none⟩ a3).setCell ⟨bT,4,none⟩ a4).setCell ⟨bT,5,none⟩ a5).setCell ⟨bT,6,none⟩ a6).setCell ⟨bL,0,none⟩ b0).setCell ⟨bL,1,none⟩ b1).drew bT tT #[a0,a1,a2,a3,a4,a5,a6]∧Held (((((((((wx.setCell ⟨bT,0,none⟩ a0).setCell ⟨bT,1,none⟩ a1).setCell ⟨bT,2,none⟩ a2).setCell ⟨bT,3,none⟩ a3).setCell ⟨bT,4,none⟩ a4).setCell ⟨bT,5,none⟩ a5).setCell ⟨bT,6,none⟩ a6).setCell ⟨bL,0,none⟩ b0).setCell ⟨bL,1,none⟩ b1).drew bL tL #[b0,b1]:=by
 obtain⟨t1,t2,t3,t4,t5⟩:=hT;obtain⟨l1,l2,l3,l4,l5⟩:=hL;have k0:=h.step H7 bT 0 a0 t1 t2 t3 t4 t5;have k1:=k0.step H7 bT 1 a1 t1 t2 t3 t4 t5;have k2:=k1.step H7 bT 2 a2 t1 t2 t3 t4 t5;have k3:=k2.step H7 bT 3 a3 t1 t2 t3 t4 t5;have k4:=k3.step H7 bT 4 a4 t1 t2 t3 t4 t5;have k5:=k4.step H7 bT 5 a5 t1 t2 t3 t4 t5;have k6:=k5.step H7 bT 6 a6 t1 t2 t3 t4 t5;have k7:=k6.step H7 bL 0 b0 l1 l2 l3 l4 l5;have k8:=k7.step H7 bL 1 b1 l1 l2 l3 l4 l5;have q0:Held (wx.setCell ⟨bT,0,none⟩ a0) bT tT #[a0,z,z,z,z,z,z]:=dT.store 0 _;have q1:Held ((wx.setCell ⟨bT,0,none⟩ a0).setCell ⟨bT,1,none⟩ a1) bT tT #[a0,a1,z,z,z,z,z]:=q0.store 1 _;have q2:Held (((wx.setCell ⟨bT,0,none⟩ a0).setCell ⟨bT,1,none⟩ a1).setCell ⟨bT,2,none⟩ a2) bT tT #[a0,a1,a2,z,z,z,z]:=q1.store 2 _;have q3:Held ((((wx.setCell ⟨bT,0,none⟩ a0).setCell ⟨bT,1,none⟩ a1).setCell ⟨bT,2,none⟩ a2).setCell ⟨bT,3,none⟩ a3) bT tT #[a0,a1,a2,a3,z,z,z]:=q2.store 3 _;have q4:Held (((((wx.setCell ⟨bT,0,none⟩ a0).setCell ⟨bT,1,none⟩ a1).setCell ⟨bT,2,none⟩ a2).setCell ⟨bT,3,none⟩ a3).setCell ⟨bT,4,none⟩ a4) bT tT #[a0,a1,a2,a3,a4,z,z]:=q3.store 4 _;have q5:Held ((((((wx.setCell ⟨bT,0,none⟩ a0).setCell ⟨bT,1,none⟩ a1).setCell ⟨bT,2,none⟩ a2).setCell ⟨bT,3,none⟩ a3).setCell ⟨bT,4,none⟩ a4).setCell ⟨bT,5,none⟩ a5) bT tT #[a0,a1,a2,a3,a4,a5,z]:=q4.store 5 _;have q6:Held (((((((wx.setCell ⟨bT,0,none⟩ a0).setCell ⟨bT,1,none⟩ a1).setCell ⟨bT,2,none⟩ a2).setCell ⟨bT,3,none⟩ a3).setCell ⟨bT,4,none⟩ a4).setCell ⟨bT,5,none⟩ a5).setCell ⟨bT,6,none⟩ a6) bT tT #[a0,a1,a2,a3,a4,a5,a6]:=q5.store 6 _;have f0:Held (wx.setCell ⟨bT,0,none⟩ a0) bL tL #[y0,y1]:=dL.far (by simpa using fun e=>hTL e.symm) _;have f1:Held ((wx.setCell ⟨bT,0,none⟩ a0).setCell ⟨bT,1,none⟩ a1) bL tL #[y0,y1]:=f0.far (by simpa using fun e=>hTL e.symm) _;have f2:Held (((wx.setCell ⟨bT,0,none⟩ a0).setCell ⟨bT,1,none⟩ a1).setCell ⟨bT,2,none⟩ a2) bL tL #[y0,y1]:=f1.far (by simpa using fun e=>hTL e.symm) _;have f3:Held ((((wx.setCell ⟨bT,0,none⟩ a0).setCell ⟨bT,1,none⟩ a1).setCell ⟨bT,2,none⟩ a2).setCell ⟨bT,3,none⟩ a3) bL tL #[y0,y1]:=f2.far (by simpa using fun e=>hTL e.symm) _;have f4:Held (((((wx.setCell ⟨bT,0,none⟩ a0).setCell ⟨bT,1,none⟩ a1).setCell ⟨bT,2,none⟩ a2).setCell ⟨bT,3,none⟩ a3).setCell ⟨bT,4,none⟩ a4) bL tL #[y0,y1]:=f3.far (by simpa using fun e=>hTL e.symm) _;have f5:Held ((((((wx.setCell ⟨bT,0,none⟩ a0).setCell ⟨bT,1,none⟩ a1).setCell ⟨bT,2,none⟩ a2).setCell ⟨bT,3,none⟩ a3).setCell ⟨bT,4,none⟩ a4).setCell ⟨bT,5,none⟩ a5) bL tL #[y0,y1]:=f4.far (by simpa using fun e=>hTL e.symm) _;have f6:Held (((((((wx.setCell ⟨bT,0,none⟩ a0).setCell ⟨bT,1,none⟩ a1).setCell ⟨bT,2,none⟩ a2).setCell ⟨bT,3,none⟩ a3).setCell ⟨bT,4,none⟩ a4).setCell ⟨bT,5,none⟩ a5).setCell ⟨bT,6,none⟩ a6) bL tL #[y0,y1]:=f5.far (by simpa using fun e=>hTL e.symm) _;have p0:Held ((((((((wx.setCell ⟨bT,0,none⟩ a0).setCell ⟨bT,1,none⟩ a1).setCell ⟨bT,2,none⟩ a2).setCell ⟨bT,3,none⟩ a3).setCell ⟨bT,4,none⟩ a4).setCell ⟨bT,5,none⟩ a5).setCell ⟨bT,6,none⟩ a6).setCell ⟨bL,0,none⟩ b0) bL tL #[b0,y1]:=f6.store 0 _;have p1:Held (((((((((wx.setCell ⟨bT,0,none⟩ a0).setCell ⟨bT,1,none⟩ a1).setCell ⟨bT,2,none⟩ a2).setCell ⟨bT,3,none⟩ a3).setCell ⟨bT,4,none⟩ a4).setCell ⟨bT,5,none⟩ a5).setCell ⟨bT,6,none⟩ a6).setCell ⟨bL,0,none⟩ b0).setCell ⟨bL,1,none⟩ b1) bL tL #[b0,b1]:=p0.store 1 _;have q7:Held ((((((((wx.setCell ⟨bT,0,none⟩ a0).setCell ⟨bT,1,none⟩ a1).setCell ⟨bT,2,none⟩ a2).setCell ⟨bT,3,none⟩ a3).setCell ⟨bT,4,none⟩ a4).setCell ⟨bT,5,none⟩ a5).setCell ⟨bT,6,none⟩ a6).setCell ⟨bL,0,none⟩ b0) bT tT #[a0,a1,a2,a3,a4,a5,a6]:=q6.far (by simpa using hTL) _;have q8:Held (((((((((wx.setCell ⟨bT,0,none⟩ a0).setCell ⟨bT,1,none⟩ a1).setCell ⟨bT,2,none⟩ a2).setCell ⟨bT,3,none⟩ a3).setCell ⟨bT,4,none⟩ a4).setCell ⟨bT,5,none⟩ a5).setCell ⟨bT,6,none⟩ a6).setCell ⟨bL,0,none⟩ b0).setCell ⟨bL,1,none⟩ b1) bT tT #[a0,a1,a2,a3,a4,a5,a6]:=q7.far (by simpa using hTL) _;exact⟨k8.drew H7,q8.drew,p1.drew⟩
theorem JK (v0 v1 v2 v3 v5:Value)(A4:Option Addr)(k c4:Nat)(AF:Option Addr)(nF cF B:Nat)(fs:List Bytes)(w:World)(hF:FIn w B AF nF fs)(hB:B≤w.heap.size)(hk:k≤10)(hlen:∀f∈fs,f.length≤1000000)(hnF:nF≤1000)
 (hone:v0.oneCell'=true∧v1.oneCell'=true∧v2.oneCell'=true∧v3.oneCell'=true∧v5.oneCell'=true)
 (CP:World→Nat→Nat→List Sl→Prop) (H7:∀W W' lo B row us,CP W lo B us→W.grownBy W' row→B≤W.heap.size→Rng lo B row→CP W' lo B us)
 (hCW:∀W,w.grownBy W none→Calls Tryz.prog 34 #[.agg #[v0,v1,v2,v3,.slice A4 k c4,v5]] W fun e W'=>∃u0 u1 u2 u3 u4 u5:Sl,e= .returned (.agg #[.slice u0.A u0.n u0.c,.slice u1.A u1.n u1.c,.slice u2.A u2.n u2.c,.slice u3.A u3.n u3.c,.slice u4.A u4.n u4.c,.slice u5.A u5.n u5.c])∧CP W' W.heap.size W'.heap.size [u0,u1,u2,u3,u4,u5]∧W.grownBy W' none):
 Calls Tryz.prog 15 #[.agg #[v0,v1,v2,v3,.slice A4 k c4,v5],.slice AF nF cF] w (ae5 CP (aV fs k) (dH fs k) w):=by
 have HF:=ae hF;have HLEN:=ae hlen;have HCP:=ae H7;have HCW:=ae hCW;have hfl:fs.length=nF:=hF.1;have YW:=ae hfl;obtain⟨p0,p1,p2,p3,p5⟩:=hone;obtain⟨W0,hW0⟩:∃W0,W0=((((w.alloc (.cells #[v0,v1,v2,v3,.slice A4 k c4,v5] 31)).alloc (.cells #[.slice none 0 0,.slice none 0 0,.slice none 0 0,.slice none 0 0,.slice none 0 0,.slice none 0 0,.slice none 0 0] 34)).alloc (.cells #[.slice none 0 0,.int .i64 0] 61)).alloc (.cells (Array.replicate k (iv 0)) 3)).alloc (.cells #[.slice (some ⟨w.heap.size+1+1+1,0,none⟩) k k,.int .i64 0] 61):=⟨_,rfl⟩;have MK:=fun W=>PN (t:=k) W (by omega)
 clear hF hlen H7 hCW hfl;go_enter Tryz.func15,Tryz.ntmps15;go_upto_region 3 with fail;clear MK;rw[←hW0];obtain⟨bw,hbw⟩:∃b,b=w.heap.size:=⟨_,rfl⟩;obtain⟨bT,hbT⟩:∃b,b=w.heap.size+1:=⟨_,rfl⟩;obtain⟨bL,hbL⟩:∃b,b=w.heap.size+1+1:=⟨_,rfl⟩;obtain⟨gB,hgB⟩:∃b,b=w.heap.size+1+1+1:=⟨_,rfl⟩;obtain⟨bX,hbX⟩:∃b,b=w.heap.size+1+1+1+1:=⟨_,rfl⟩;rw[←hbX,←hgB,←hbL,←hbT,←hbw];have hs0:W0.heap.size=w.heap.size+5:=by rw[hW0];simp
 have hg0:w.grownBy W0 none:=by
  rw[hW0];exact af (af (af (af (World.grownBy_alloc w _ none) (World.grownBy_alloc _ _ none) (.inl rfl)) (World.grownBy_alloc _ _ none) (.inl rfl)) (World.grownBy_alloc _ _ none) (.inl rfl)) (World.grownBy_alloc _ _ none) (.inl rfl)
 have YX:(List.replicate k (0:Int)).length=k:=by simp
 have T0:TrI w #[v0,v1,v2,v3,.slice A4 k c4,v5] bw bT bL gB bX W0.heap.size (List.replicate k (0:Int)) (.slice none 0 0) [] [] W0:=by
  refine⟨?_,?_,?_,?_,?_,World.ownsRow_nil _ _ _ _,RowsAt.nil _ _ _,hg0,by omega,Nat.le_refl _⟩
  · rw[hW0,hbw];exact ((((Held.new w _ _).alloc _).alloc _).alloc _).alloc _
  · rw[hW0,hbT];have:=(((Held.new (w.alloc (.cells #[v0,v1,v2,v3,.slice A4 k c4,v5] 31)) 34 #[.slice none 0 0,.slice none 0 0,.slice none 0 0,.slice none 0 0,.slice none 0 0,.slice none 0 0,.slice none 0 0]).alloc (.cells #[.slice none 0 0,.int .i64 0] 61)).alloc (.cells (Array.replicate k (iv 0)) 3)).alloc (.cells #[.slice (some ⟨w.heap.size+1+1+1,0,none⟩) k k,.int .i64 0] 61);rwa [World.size_alloc] at this
  · rw[hW0,hbL];have:=((Held.new ((w.alloc (.cells #[v0,v1,v2,v3,.slice A4 k c4,v5] 31)).alloc (.cells #[.slice none 0 0,.slice none 0 0,.slice none 0 0,.slice none 0 0,.slice none 0 0,.slice none 0 0,.slice none 0 0] 34)) 61 #[.slice none 0 0,.int .i64 0]).alloc (.cells (Array.replicate k (iv 0)) 3)).alloc (.cells #[.slice (some ⟨w.heap.size+1+1+1,0,none⟩) k k,.int .i64 0] 61);rwa [World.size_alloc,World.size_alloc] at this
  · rw[hW0,hgB];have:=(Held.new (((w.alloc (.cells #[v0,v1,v2,v3,.slice A4 k c4,v5] 31)).alloc (.cells #[.slice none 0 0,.slice none 0 0,.slice none 0 0,.slice none 0 0,.slice none 0 0,.slice none 0 0,.slice none 0 0] 34)).alloc (.cells #[.slice none 0 0,.int .i64 0] 61)) 3 (Array.replicate k (iv 0))).alloc (.cells #[.slice (some ⟨w.heap.size+1+1+1,0,none⟩) k k,.int .i64 0] 61);rw[World.size_alloc,World.size_alloc,World.size_alloc] at this;rw[show ((List.replicate k (0:Int)).map iv).toArray=Array.replicate k (iv 0) by simp];exact this
  · rw[hW0,hbX,hgB,YX];have:=Held.new ((((w.alloc (.cells #[v0,v1,v2,v3,.slice A4 k c4,v5] 31)).alloc (.cells #[.slice none 0 0,.slice none 0 0,.slice none 0 0,.slice none 0 0,.slice none 0 0,.slice none 0 0,.slice none 0 0] 34)).alloc (.cells #[.slice none 0 0,.int .i64 0] 61)).alloc (.cells (Array.replicate k (iv 0)) 3)) 61 #[.slice (some ⟨w.heap.size+1+1+1,0,none⟩) k k,.int .i64 0];rwa [World.size_alloc,World.size_alloc,World.size_alloc,World.size_alloc] at this
 have ob:w.heap.size≤bw∧bw < bT∧bT < bL∧bL < gB∧gB < bX∧bX < W0.heap.size∧B≤bw:=by omega
 obtain⟨ob0,ob1,ob2,ob3,ob4,ob5,ob6⟩:=ob;have HT0:=ae T0;have xk:W0.cell? ⟨bw,4,none⟩=some (.slice A4 k c4):=T0.hw.cell 4;clear hW0 hbw hbT hbL hgB hbX hs0 hg0 YX T0;go_upto_block 0 with fail;clear xk;go_cut [7] (fun s7 wx=>∃css:List Value,TrI w #[v0,v1,v2,v3,.slice A4 k c4,v5] bw bT bL gB bX W0.heap.size (dH fs k) s7 css (aV fs k) wx)
 case first=>
  go_wp2_with fail;go_loopw [25,7] (fun s25 s7 wr=>∃(t:Nat) (css:List Value),s25= .int .i64 (t:Int)∧t≤k∧TrI w #[v0,v1,v2,v3,.slice A4 k c4,v5] bw bT bL gB bX W0.heap.size (dH fs t++List.replicate (k - t) 0) s7 css (aV fs t) wr) (fun s25 _ _=>k - (intOf s25).toNat)
  case atStart=>exact ⟨0,[],rfl,Nat.zero_le _,HT0.out⟩
  case round=>
   clear HT0;obtain⟨t,css,rfl,htk,T1⟩:=hrel;have HT1:=ae T1;obtain⟨Av,cv,hv7,_,_,_,_⟩:=aj T1.own;clear T1;by_cases hlt:t < k
   · have i1:(t:Int) < (k:Int):=by omega
     by_cases hnf:t < nF
     · have i2:¬(nF:Int)≤(t:Int):=by omega
       have hlt':=hlt;have T1:=HT1.out
       obtain⟨bf,of_,Ai,ni,ci,eF,hbB,hfc,hfl,hnc,hcm,hno⟩:=(HF.out.grown T1.gr hB (fun _ e=>nomatch e)).2 t (fileAt fs t) (by
        unfold fileAt;rw[List.getElem?_eq_getElem (by rw[YW.out];exact hnf)];rfl)
       have hni:ni≤1000000:=by
        have h1:=hfl.lenB
        have h2:fileAt fs t∈fs:=by
         have:fs[t]?=some (fileAt fs t):=by
          unfold fileAt;rw[List.getElem?_eq_getElem (by rw[YW.out];exact hnf)];rfl
         exact List.mem_of_getElem? this
        have h3:=HLEN.out _ h2;omega
       have HFB:=ae hfl.lenB;have CB:=ae (vz Ai ni ci B (fileAt fs t) t wr hfl (Nat.le_trans hB T1.gr.size) hnc hcm hno (by omega));have ae6:=ae hfc;have i3:(0:Int)≤(t:Int):=by omega
       have i4:(t:Int) < (nF:Int):=by omega
       subst eF;clear T1 hfl hno;subst hv7;go_wp2_with fail;refine CB.out.mono ?_;rintro e w2 ⟨v2,PR,rfl,hown2,hblk2,hg2⟩;obtain⟨L,hL⟩:∃L,L=aJ (t:Int) (fileAt fs t) 0 (-1):=⟨_,rfl⟩;rw[←hL] at hown2 hblk2⊢;obtain⟨A2,c2,hv2,_,_,_,_⟩:=aj hown2
       have hsz:sizeB L≤1000000000:=by
        have h1:=yK (t:Int) 0 (-1) (fileAt fs t);have h2:=HFB.out;rw[hL];omega
       have hLl:L.length≤1000000:=by
        have h1:=Az (t:Int) 0 (-1) (fileAt fs t);have h2:=HFB.out;rw[hL];omega
       have hll:(dH fs t++List.replicate (k - t) (0:Int)).length=k:=by
        rw[List.length_append,iR,List.length_replicate];omega
       have HL:=ae hL;have T2:=HT1.out.keep hg2
       have x0:w2.cell? ⟨bX,0,none⟩=some (.slice (some ⟨gB,0,none⟩) k k):=by
        have:=T2.hX.cell 0;rw[this,hll];rfl
       have x1:w2.cell? ⟨bf,of_+t,none⟩=some (.slice Ai ni ci):=hg2.cell ae6.out (fun e=>nomatch e)
       have x2:w2.cell? ⟨gB,t,none⟩=some (.int .i64 0):=by
        have:=T2.hB.cell t;rw[this,List.getElem?_toArray,List.getElem?_map,List.getElem?_append_right (by rw[iR];exact Nat.le_refl _),iR,Nat.sub_self,List.getElem?_replicate,if_pos (by omega)];rfl
       have x3:w2.frozen? ⟨gB,t,none⟩=false:=T2.hB.free t;have hw:IntKind.i64.wrap ((ni:Int) - (sizeB L:Int))=(ni:Int) - (sizeB L:Int):=IntWalk.i64_in _ (by omega);have HT2:=ae T2;have xN:=ae hown2;have HB2:=ae hblk2;have HG2:=ae hg2;clear hL T2 hown2 hblk2 hg2;subst hv2;go_upto_region 8 with fail;go_region;obtain⟨w3,hw3⟩:∃w3,w3=(w2.setCell ⟨gB,t,none⟩ (.int .i64 ((ni:Int) - (sizeB L:Int)))).drew:=⟨_,rfl⟩;rw[←hw3]
       have hls:(dH fs t++List.replicate (k - t) (0:Int)).set t ((ni:Int) - (sizeB L:Int))=dH fs (t+1)++List.replicate (k - (t+1)) 0:=by
        rw[vH,List.set_append_right _ _ (by rw[iR];exact Nat.le_refl _),iR,Nat.sub_self,show k - t=(k - (t+1))+1 by omega,List.replicate_succ,List.set_cons_zero,List.append_assoc];unfold uj;rw[HFB.out,←HL.out];rfl
       have T3:TrI w #[v0,v1,v2,v3,.slice A4 k c4,v5] bw bT bL gB bX W0.heap.size (dH fs (t+1)++List.replicate (k - (t+1)) 0) (.slice Av (aV fs t).length cv) css (aV fs t) w3:=by
        have h1:=HT2.out.lost t ((ni:Int) - (sizeB L:Int));rw[hls] at h1;rw[hw3];exact h1.keep (aN (World.grownBy.refl _ none))
       have aaZ:w2.grownBy w3 (some gB):=by rw[hw3];exact aN (ah w2 gB t _)
       have hgb:∀g,some gB=some g→g < wr.heap.size:=fun g e=>by injection e with e;have:=HT1.out.hB.lt;omega
       have hs3:w3.heap.size=w2.heap.size:=by rw[hw3];show (w2.setCell _ _).heap.size=_;simp
       have hO3:w3.ownsRow wr.heap.size 50 3 (.slice A2 L.length c2) L.length PR:=ay xN.out aaZ (fun g e1 e2=>by have:=hgb g e2;have:=(xN.out.lt g e1).1;omega);have hB3:BlksB w3 wr.heap.size w2.heap.size PR (L.map (·.1)):=HB2.out.toB.keep aaZ (Nat.le_refl _) (fun g e=> .inl (hgb g e));have ae7:Rng wr.heap.size w2.heap.size (Value.slice Av (aV fs t).length cv).ownBlock:=fun g e=> .inl (HT1.out.own.lt g e).2
       have HT3:=ae T3;have Bi:=ae hO3;have HB3:=ae hB3;have Xi:=ae ae7;have HS3:=ae hs3;have HS2:w2.heap.size≤w3.heap.size:=by omega
       have ae8:=ae HG2.out.size;have Yy:=ae (fun g (e:(Value.slice A2 L.length c2).ownBlock=some g)=>(xN.out.lt g e).2);obtain⟨B1,hB1⟩:∃B1,B1=w2.heap.size:=⟨_,rfl⟩;rw[←hB1] at HB3 Xi HS2 ae8 Yy;obtain⟨lo1,hlo1⟩:∃lo1,lo1=wr.heap.size:=⟨_,rfl⟩;rw[←hlo1] at Bi HB3 Xi ae8;have O1:=ae (show W0.heap.size≤lo1 by rw[hlo1];exact HT1.out.s);clear x0 x1 x2 x3 hw hll hw3 hls T3 aaZ hgb hs3 hO3 hB3 ae7 hB1 hlo1 HT1 HT2 xN HB2 HG2 ae6 CB hfc;go_wp2_with fail;go_loopw [54,7] (fun s54 s7 wr2=>∃(i:Nat) (css:List Value),s54= .int .i64 (i:Int)∧i≤L.length∧TrI w #[v0,v1,v2,v3,.slice A4 k c4,v5] bw bT bL gB bX W0.heap.size (dH fs (t+1)++List.replicate (k - (t+1)) 0) s7 css (aV fs t++(L.take i).flatMap fun p=>p.1.recs) wr2∧wr2.ownsRow lo1 50 3 (.slice A2 L.length c2) L.length PR∧BlksB wr2 lo1 B1 PR (L.map (·.1))∧B1≤wr2.heap.size∧Rng lo1 B1 s7.ownBlock) (fun s54 _ _=>L.length - (intOf s54).toNat)
       case atStart=>exact ⟨0,css,rfl,Nat.zero_le _,by simpa using HT3.out,Bi.out,HB3.out,HS2,Xi.out⟩
       case round=>
        clear HT3 Bi HB3 HS2 Xi;obtain⟨i,css,rfl,hiL,T4,hO4,hB4,hS4,hR4⟩:=hrel;obtain⟨Av4,cv4,hv4,hn4,hm4,_,_⟩:=aj T4.own;have HT4:=ae T4;have HR4:=ae hR4;have Gq:=ae hO4;have HB4:=ae hB4;by_cases ae9:i < L.length
        · obtain⟨g2,cg2,x,Ax,nx,cx,hvx,hmc,hx,a0,a1,a2,hRB,hxn,hxm,hxo⟩:=PO hO4 hB4 (by rw[List.length_map]) ae9;injection hvx with hvA _ hvc
          have hLi:∃kk,L[i]?=some (x,kk):=by
           rw[List.getElem?_map] at hx;obtain⟨p,hp,rfl⟩:=Option.map_eq_some_iff.1 hx;exact⟨p.2,hp⟩
          obtain⟨kk,hLi⟩:=hLi;obtain⟨news,hnl,hn1,hnr⟩:=hRB.src hS4;have j1:(i:Int) < (L.length:Int):=by omega
          have j0:(0:Int)≤(i:Int):=by omega
          obtain⟨j8,Wl,hz0,hz1,hz2⟩:=info_parts xK;have HI:=ae Wl;have HZ0:=ae hz0;have HZ1:=ae hz1;have HZ2:=ae hz2
          have hnx:nx≤64:=by
           have h1:(x,kk)∈aJ (t:Int) (fileAt fs t) 0 (-1):=by rw[←HL.out];exact List.mem_of_getElem? hLi
           obtain⟨b',_,hd⟩:=AA h1;have:=(Lt hd).2;rw[←hRB.1];exact this
          have hrn:(aV fs t++(L.take i).flatMap fun p=>p.1.recs).length≤1000000000:=by
           have h1:=yL fs t HLEN.out;have h2:=yM t (fileAt fs t)
           have h3:((L.take i).flatMap fun p=>p.1.recs).length≤(iT t (fileAt fs t)).length:=by
            unfold iT;rw[←HL.out]
            conv=>rhs;rw[←List.take_append_drop i L]
            rw[List.flatMap_append,List.length_append];omega
           have h4:=HFB.out;rw[List.length_append];omega
          have HNL:=ae hnl;have Yz:=ae hn1;have HNR:=ae hnr;have HXO:=ae hxo;have HLI:=ae hLi;have HRB:=ae hRB;have hsm:W0.heap.size≤wr.heap.size:=T4.s;obtain⟨RN,hRN⟩:∃RN,RN=(aV fs t++(L.take i).flatMap fun p=>p.1.recs).length:=⟨_,rfl⟩;have ako:=ae hRN;have Eu:=T4.own;rw[←hRN] at Eu;rw[←hRN] at hv4 hn4 hrn;rw[hv4] at Eu;have afa:=ae Eu;clear Eu T4 hO4 hB4 hR4 hx hLi Wl hz0 hz1 hz2 hnl hn1 hnr hxo hRB hRN;subst hv4 hvA hvc;go_wp2_with (at_builtin;refine bP _ rfl (.tmp 58) (.tmp 60) _ rfl W0.heap.size 54 j8 _ 8 96 Tryz.underlying48 HI.out HZ0.out HZ1.out HZ2.out rfl (by omega) (.slice Av4 RN cv4) RN css rfl (afa.out.alloc _) B1 Ax nx cx news rfl (HNL.out.alloc hS4 _) HXO.out Yz.out (by unfold maxLen;omega) (by omega) (by simp;omega) ?_;intro v' w5 hown' hg' hat';have JQ:=ae hown';have Jy:=ae hg';have HA5:=ae hat';clear hown' hg' hat');have gx:wr.grownBy (wr.alloc (.cells #[.int .i64 x.thread,.int .i64 x.first,.slice Ax nx cx] 50)) none:=World.grownBy_alloc wr _ none;have gw:wr.grownBy w5 (Value.slice Av4 RN cv4).ownBlock:=af (dO gx _) Jy.out (.inl rfl);have akp:RN+nx=((aV fs t++(L.take i).flatMap fun p=>p.1.recs)++x.recs).length:=by rw[List.length_append,←ako.out,HRB.out.1]
          have hnext:(aV fs t++(L.take i).flatMap fun p=>p.1.recs)++x.recs=aV fs t++(L.take (i+1)).flatMap fun p=>p.1.recs:=by
           rw[List.take_add_one,HLI.out,List.flatMap_append,List.append_assoc];simp
          have T5:=HT4.out.next gw (by rw[←akp];exact JQ.out) ((HNR.out W0.heap.size _ css _ O1.out HR4.out HT4.out.rows).keep gx |>.grow Jy.out HA5.out);rw[hnext] at T5;go_roundw
          case rel=>exact ⟨i+1,_,by go_num,ae9,T5,ay Gq.out gw (fun g e1 e2=>by
           have h1:=(Gq.out.lt g e1).1;rcases HR4.out g e2 with h2 | h2
           · omega
           · have:=Yy.out g e1;omega),HB4.out.keep gw hS4 HR4.out,Nat.le_trans hS4 gw.size,fun g e=>by
           rcases HA5.out with h | ⟨g',h,hge⟩
           · rw[h] at e;exact HR4.out g e
           · rw[h] at e;injection e with e;subst e;have:=gx.size;right;omega⟩
          case measure=>simp [intOf];omega
        · obtain rfl:i=L.length:=by omega
          have T5:=HT4.out;rw[List.take_length] at T5
          have hnext:aV fs t++L.flatMap (fun p=>p.1.recs)=aV fs (t+1):=by
           rw[lG];unfold iT;rw[←HL.out]
          rw[hnext] at T5;have HT5:=ae T5;clear T4 hO4 hB4 hR4 T5;go_wp2_with fail;go_roundw
          case rel=>exact ⟨t+1,_,by go_num,by omega,HT5.out⟩
          case measure=>simp [intOf];omega
     · have i2:(nF:Int)≤(t:Int):=by omega
       subst hv7;go_wp2_with fail;go_meet
       case rel=>
        have T1:=HT1.out;have hfl:fs.length≤t:=by rw[YW.out];omega
        refine⟨css,?_⟩;rw[Lu hfl htk,LC hfl htk];exact T1
   · obtain rfl:t=k:=by omega
     have i1:¬(t:Int) < (t:Int):=by omega
     subst hv7;go_wp2_with fail;go_meet
     case rel=>
      have T1:=HT1.out;rw[Nat.sub_self,List.replicate_zero,List.append_nil] at T1;exact⟨_,T1⟩
 case rest=>
  clear HT0;obtain⟨css,T1⟩:=hcut;have hal:=yL fs k HLEN.out;obtain⟨Av,cv,hv7,_,_,_,_⟩:=aj T1.own;have CS:=ae (Ed wc T1.own T1.rows rfl (by omega));have HT1:=ae T1;have hpos:∀r∈aV fs k,0≤r.seq:=fun r hr=>LD hr
  have afb:=ae hpos;obtain⟨all,hall⟩:∃all,all=aV fs k:=⟨_,rfl⟩;have H8:=ae hall;rw[←hall] at HT1 CS afb hal hv7;clear T1 hpos hall;subst hv7;go_wp2_with fail;refine CS.out.mono ?_;rintro e w6 ⟨rfl,s,aph,hperm,hasc,hown6,YY,Ky⟩;have T6:=HT1.out.next Ky (by rw[hperm.length_eq];exact hown6) YY;have hsl:s.length=all.length:=hperm.length_eq;have HP:=ae hperm;have HA:=ae hasc;have Ue:=ae T6;have HSL:=ae hsl;have hs7:(Value.slice Av all.length cv)= .slice Av s.length cv:=by rw[hsl]
  clear CS HT1 hperm hasc hown6 YY Ky T6;rw[hs7] at Ue⊢;have hal:s.length≤1000000000:=by omega
  clear hsl hs7;go_upto_block 4 with fail;go_cut [13] (fun s13 wx=>∃n:Nat,s13= .int .i64 (n:Int)∧n≤s.length∧wx=w6∧(s.take n).map (·.ev)=dF all)
  case first=>
   go_wp2_with fail;go_loopw [13] (fun s13 wr=>∃n:Nat,s13= .int .i64 (n:Int)∧n≤s.length∧Hid (wr=w6)∧(∀i:Nat,i < n→qY all i=1∧∃r,s[i]?=some r∧r.seq=(i:Int))∧(∀r,s[n]?=some r→(n:Int)≤r.seq)∧(s.take n).map (·.ev)++qL all n=dF all) (fun s13 _=>s.length - (intOf s13).toNat)
   case atStart=>exact ⟨0,rfl,Nat.zero_le _,ae rfl,fun i hi=>by omega,fun r hr=>afb.out r (HP.out.mem_iff.1 (List.mem_of_getElem? hr)),rfl⟩
   case round=>
    obtain⟨n,rfl,hnl,YZ,h1,h2,h3⟩:=hrel;have H1:=ae h1;have H2:=ae h2;have H3:=ae h3
    have STEP:=ae (yN HA.out (n:=n) (fun i r hi hr=>by
     obtain⟨_,r',hr',hs'⟩:=h1 i hi;rw[hr] at hr';injection hr' with hr';rw[hr',hs'];omega) h2)
    have EXIT:=ae (fun (hno:¬LG s n)=>(show∃m:Nat,Value.int .i64 (n:Int)= .int .i64 (m:Int)∧m≤s.length∧wr=w6∧(s.take m).map (·.ev)=dF all from
     ⟨n,rfl,hnl,YZ.out,by
      have hc:qY all n≠1:=fun h=>hno ((yN HA.out (n:=n) (fun i r hi hr=>by
       obtain⟨_,r',hr',hs'⟩:=h1 i hi;rw[hr] at hr';injection hr' with hr';rw[hr',hs'];omega) h2).2 (by rw[H9 HP.out];exact h))
      rw[←h3,Ia hc,List.append_nil]⟩))
    have T6:=Ue.out;rw[←YZ.out] at T6;clear h1 h2 h3;by_cases hlt:n < s.length
    · have z1:(n:Int) < (s.length:Int):=by omega
      have z0:(0:Int)≤(n:Int):=by omega
      have hw1:IntKind.i64.wrap ((n:Int)+1)=(n:Int)+1:=IntWalk.i64_in _ (by omega);obtain⟨g,c,r,Ad,nd,cd,Af,nf,cf,hv,hmc,hr,hcells,_⟩:=au T6.own T6.rows rfl hlt;injection hv with hvA _ hvc;have x0:wr.cell? ⟨g,n * 8,none⟩=some (.int .i64 r.seq):=hcells 0 _ rfl;have HR:=ae hr
      have NEXT:=ae (fun (hok:LG s n) (hrn:r.seq=(n:Int))=>(show (∀i:Nat,i < n+1→qY all i=1∧∃r,s[i]?=some r∧r.seq=(i:Int))∧(∀r,s[n+1]?=some r→((n+1:Nat):Int)≤r.seq)∧(s.take (n+1)).map (·.ev)++qL all (n+1)=dF all from by
       have hc:qY all n=1:=by rw[←H9 HP.out];exact STEP.out.1 hok
       refine⟨fun i hi=>?_,fun q hq=>?_,?_⟩
       · rcases Nat.lt_or_eq_of_le (Nat.le_of_lt_succ hi) with h | h
         · exact H1.out i h
         · rw[h];exact⟨hc,r,HR.out,hrn⟩
       · have h1:=HA.out n (n+1) r q (by omega) HR.out hq;have h2:=hok.2 q hq;omega
       · have h3:=H3.out;rw[LH (fun i hi=>(H1.out i hi).1) hc,NT hc (HP.out.mem_iff.1 (List.mem_of_getElem? HR.out)) hrn] at h3;rw[←h3,List.take_add_one,HR.out,List.map_append,List.append_assoc];rfl))
      clear hcells hr T6;subst hvA hvc;by_cases hrn:r.seq=(n:Int)
      · have b1:(r.seq==(n:Int))=true:=by simp[hrn]
        have Xi:=ae hrn;by_cases hl2:n+1=s.length
        · have b2:((n:Int)+1==(s.length:Int))=true:=by simp;omega
          have NX:=NEXT.out ⟨⟨r,HR.out,Xi.out⟩,fun q hq=>by have:=(List.getElem?_eq_some_iff.1 hq).1;omega⟩ Xi.out;have NX:=ae NX;have HL2:=ae hl2;clear hrn hl2;go_wp2_with fail;go_roundw
          case rel=>exact ⟨n+1,by go_num,by omega,YZ,NX.out⟩
          case measure=>simp [intOf];omega
        · have b2:((n:Int)+1==(s.length:Int))=false:=by simp;omega
          have T6':=Ue.out;rw[←YZ.out] at T6';obtain⟨g',c',q,_,_,_,_,_,_,hv',apj,hq,hcells',_⟩:=au (k:=n+1) T6'.own T6'.rows rfl (by omega);injection hv' with PS _ akq;injection PS with PS;injection PS with PS;have x1:wr.cell? ⟨g,(n+1)* 8,none⟩=some (.int .i64 q.seq):=by rw[PS];exact hcells' 0 _ rfl
          have z2:(n:Int)+1 < (s.length:Int):=by omega
          have z3:(0:Int)≤(n:Int)+1:=by omega
          have z4:((n:Int)+1).toNat=n+1:=by omega
          have HQ:=ae hq;clear T6' hcells' hq PS akq hrn;by_cases hqn:q.seq=(n:Int)
          · have b3:(q.seq !=(n:Int))=false:=by simp[hqn]
            have EX:=ae (EXIT.out fun hok=>hok.2 q HQ.out hqn);clear hqn;go_wp2_with fail;go_meet
            case rel=>exact EX.out
          · have b3:(q.seq !=(n:Int))=true:=by simp[hqn]
            have NX:=ae (NEXT.out ⟨⟨r,HR.out,Xi.out⟩,fun q' hq'=>by
             have:=HQ.out;rw[hq'] at this;injection this with this;rw[this];exact hqn⟩ Xi.out)
            clear hqn;go_wp2_with fail;go_roundw
            case rel=>exact ⟨n+1,by go_num,by omega,YZ,NX.out⟩
            case measure=>simp [intOf];omega
      · have b1:(r.seq==(n:Int))=false:=by simp[hrn]
        have EX:=ae (EXIT.out fun hok=>by
         obtain⟨r',hr',hn'⟩:=hok.1;have:=HR.out;rw[hr'] at this;injection this with this;exact hrn (by rw[←this];exact hn'))
        clear hrn;go_wp2_with fail;go_meet
        case rel=>exact EX.out
    · have z1:¬(n:Int) < (s.length:Int):=by omega
      have EX:=ae (EXIT.out fun hok=>by
       obtain⟨r',hr',_⟩:=hok.1;have:=(List.getElem?_eq_some_iff.1 hr').1;omega)
      clear T6;go_wp2_with fail;go_meet
      case rel=>exact EX.out
  case rest=>
   obtain⟨n,rfl,hnl,rfl,hev⟩:=hcut;have HEV:=ae hev;have T6:=Ue.out;have CW:=ae (HCW.out wc T6.gr);have y0:wc.cell? ⟨bw,0,none⟩=some v0:=T6.hw.cell 0;have y1:wc.cell? ⟨bw,1,none⟩=some v1:=T6.hw.cell 1;have y2:wc.cell? ⟨bw,2,none⟩=some v2:=T6.hw.cell 2;have y3:wc.cell? ⟨bw,3,none⟩=some v3:=T6.hw.cell 3;have y4:wc.cell? ⟨bw,4,none⟩=some (.slice A4 k c4):=T6.hw.cell 4;have y5:wc.cell? ⟨bw,5,none⟩=some v5:=T6.hw.cell 5;clear hev T6;go_wp2_with fail;refine CW.out.mono ?_;rintro e w7 ⟨u0,u1,u2,u3,u4,u5,rfl,hcp,Kz⟩;clear y0 y1 y2 y3 y4 y5 CW;have HC7:=ae hcp;have HG7:=ae Kz;obtain⟨W8,Tm⟩:∃W8,W8=w7.alloc (.cells #[.slice u0.A u0.n u0.c,.slice u1.A u1.n u1.c,.slice u2.A u2.n u2.c,.slice u3.A u3.n u3.c,.slice u4.A u4.n u4.c,.slice u5.A u5.n u5.c,.slice none 0 0] 34):=⟨_,rfl⟩;have hb8:Held W8 w7.heap.size 34 #[.slice u0.A u0.n u0.c,.slice u1.A u1.n u1.c,.slice u2.A u2.n u2.c,.slice u3.A u3.n u3.c,.slice u4.A u4.n u4.c,.slice u5.A u5.n u5.c,.slice none 0 0]:=by rw[Tm];exact Held.new _ _ _
   have hs8:W8.heap.size=w7.heap.size+1:=by rw[Tm];simp
   have Wy:w7.grownBy W8 none:=by rw[Tm];exact World.grownBy_alloc _ _ none
   have HW8:=ae Tm;have HB8:=ae hb8;have HG8:=ae Wy;have hle:w7.heap.size < W8.heap.size:=by omega
   have HS8:=ae hs8;clear hcp Kz Tm hb8 Wy hs8;go_upto_region 20 with fail;rw[show w7.alloc (.cells #[.slice u0.A u0.n u0.c,.slice u1.A u1.n u1.c,.slice u2.A u2.n u2.c,.slice u3.A u3.n u3.c,.slice u4.A u4.n u4.c,.slice u5.A u5.n u5.c,.slice none 0 0] 34)=W8 from HW8.out.symm];have z1:(0:Int)≤(n:Int):=by omega
   have z2:(n:Int)≤(s.length:Int):=by omega
   have z3:(n:Int)≤(cv:Int):=by
    obtain⟨_,_,hv2,hnm,_⟩:=aj Ue.out.own;injection hv2 with _ _ e3;omega
   go_wp2_with fail;go_loopw [105] (fun aa2 wr=>∃(i:Nat) (AE:Option Addr) (cE:Nat) (cssE:List Value),aa2= .int .i64 (i:Int)∧i≤n∧wr.ownsRow W8.heap.size 52 7 (.slice AE i cE) i cssE∧EvsB wr W0.heap.size wc.heap.size cssE ((s.take i).map (·.ev))∧Held wr w7.heap.size 34 #[.slice u0.A u0.n u0.c,.slice u1.A u1.n u1.c,.slice u2.A u2.n u2.c,.slice u3.A u3.n u3.c,.slice u4.A u4.n u4.c,.slice u5.A u5.n u5.c,.slice AE i cE]∧w7.grownBy wr none) (fun aa2 _=>n - (intOf aa2).toNat)
   case atStart=>exact ⟨0,none,0,[],rfl,Nat.zero_le _,World.ownsRow_nil _ _ _ _,EvsB.nil _ _ _,HB8.out,HG8.out⟩
   case round=>
    obtain⟨i,AE,cE,cssE,rfl,hin,hown,hevs,hhb,hgr⟩:=hrel;have HOWN:=ae hown;have Xj:=ae hevs;have HHB:=ae hhb;have VG:=ae hgr;have Ky:=af HG7.out hgr (.inl rfl);have x6:wr.cell? ⟨w7.heap.size,6,none⟩=some (.slice AE i cE):=hhb.cell 6;have hbl:w7.heap.size < wr.heap.size:=hhb.lt;have apo:¬w7.heap.size=wr.heap.size:=by omega
    clear hown hevs hhb hgr;by_cases hlt:i < n
    · have T6:=Ue.out.keep Ky;obtain⟨g,c,r,Ad,nd,cd,Af,nf,cf,hv,hmc,hr,hcells,_⟩:=au T6.own T6.rows rfl (show i < s.length by omega);obtain⟨g',c',r',xq,Dt,zG,xu,Du,cf',hv',_,hr',hcells',hrow⟩:=au Ue.out.own Ue.out.rows rfl (show i < s.length by omega);have hv1:=hv;rw[hv'] at hv1;injection hv1 with h1 _ _;injection h1 with h1;injection h1 with h1;subst h1;have jW:∀j u,(recV r' xq Dt zG xu Du cf')[j]?=some u→wr.cell? ⟨g',i * 8+j,none⟩=some u:=fun j u hu=>Ky.cell (hcells' j u hu) (fun e=>nomatch e)
      injection hv' with hvA _ hvc;have c0:wr.cell? ⟨g',i * 8,none⟩=some (.int .i64 r'.seq):=jW 0 _ rfl;have c1:wr.cell? ⟨g',i * 8+1,none⟩=some (.int .i64 r'.ev.thread):=jW 1 _ rfl;have c2:wr.cell? ⟨g',i * 8+2,none⟩=some (.int .i64 r'.ev.kind):=jW 2 _ rfl;have c3:wr.cell? ⟨g',i * 8+3,none⟩=some (.int .i64 r'.ev.obj):=jW 3 _ rfl;have c4:wr.cell? ⟨g',i * 8+4,none⟩=some (.int .i64 r'.ev.value):=jW 4 _ rfl;have c5:wr.cell? ⟨g',i * 8+5,none⟩=some (.int .i64 r'.ev.site):=jW 5 _ rfl;have c6:wr.cell? ⟨g',i * 8+6,none⟩=some (.slice xq Dt zG):=jW 6 _ rfl;have c7:wr.cell? ⟨g',i * 8+7,none⟩=some (.slice xu Du cf'):=jW 7 _ rfl;have zW:=ae hrow;have HRI:=ae hr';have j0:(0:Int)≤(i:Int):=by omega
      have j1:(i:Int) < (n:Int):=by omega
      obtain⟨j8,Wl,hz0,hz1,hz2⟩:=info_parts Xk;have HI:=ae Wl;have HZ0:=ae hz0;have HZ1:=ae hz1;have HZ2:=ae hz2;have apr:W8.heap.size≤wr.heap.size:=by have:=VG.out.size;have:=HHB.out.lt;have:=HS8.out;omega
      clear T6 hcells hcells' jW hrow hr hr' hv Wl hz0 hz1 hz2 hmc;subst hvA hvc;go_wp2_with (at_builtin;refine bK _ rfl (.tmp 110) (.tmp 113) _ rfl W8.heap.size 52 j8 _ 7 88 Tryz.underlying32 HI.out HZ0.out HZ1.out HZ2.out rfl (by omega) _ (Value.slice AE i cE).ownBlock i cssE rfl (App.own ((HOWN.out.alloc _).alloc _)) ⟨wr.heap.size+1,0,none⟩ 1 1 (evV r'.ev xq Dt zG xu Du cf').toList rfl (by omega) rfl (by have:=BP (wr.alloc (.cells (recV r' xq Dt zG xu Du cf') 54)) 52 (evV r'.ev xq Dt zG xu Du cf');rw[World.size_alloc] at this;exact this) (Xl _ _ _ _ _ _ _) (by unfold maxLen;omega) (by omega) (by simp;omega) ?_;intro v' w5 hown' hg' hat';obtain⟨A5,zH,hv5,hn5,hm5,_,_⟩:=aj hown';have hb5:=((HHB.out.alloc _).alloc _).grown hg' (fun e=>by have:=(HOWN.out.lt _ e.symm).1;omega);have s6:w5.cell? ⟨w7.heap.size,6,none⟩=some (.slice AE i cE):=hb5.cell 6;have sf6:w5.frozen? ⟨w7.heap.size,6,none⟩=false:=hb5.free 6;have Uf:=ae hb5;have JQ:=ae hown';have Jy:=ae hg';clear hb5 hown' hg' hat';subst hv5);have ga:wr.grownBy ((wr.alloc (.cells (recV r' xq Dt zG xu Du cf') 54)).alloc (.cells (evV r'.ev xq Dt zG xu Du cf') 52)) none:=af (World.grownBy_alloc _ _ none) (World.grownBy_alloc _ _ none) (.inl rfl);have g5:wr.grownBy w5 (Value.slice AE i cE).ownBlock:=af (dO ga _) Jy.out (.inl rfl);have gs:=ah w5 w7.heap.size 6 (.slice A5 (i+1) zH);have hBw:wc.heap.size≤wr.heap.size:=Ky.size;have hrg:Rng W0.heap.size wc.heap.size (Value.slice AE i cE).ownBlock:=fun g e=> .inr (by have:=(HOWN.out.lt g e).1;have:=HG7.out.size;omega)
      have hrg2:Rng W0.heap.size wc.heap.size (some w7.heap.size):=fun g e=> .inr (by injection e with e;have:=HG7.out.size;omega)
      have hnx:(s.take (i+1)).map (·.ev)=(s.take i).map (·.ev)++ [r'.ev]:=by rw[List.take_add_one,HRI.out,List.map_append];rfl
      have hE:=(((Xj.out.keep g5 hBw hrg).snoc (r:=r'.ev) (Ad:=xq) (nd:=Dt) (cd:=zG) (Af:=xu) (nf:=Du) (cf:=cf')
       (fC (fC zW.out.ld zW.out.lod Ky (Nat.le_refl _) (Rng.none _ _)) zW.out.lod g5 hBw hrg) (fC (fC zW.out.lf zW.out.lof Ky (Nat.le_refl _) (Rng.none _ _)) zW.out.lof g5 hBw hrg) zW.out.lod zW.out.lof).keep gs (Nat.le_trans hBw g5.size) hrg2)
      rw[←hnx] at hE;have hb6:Held (w5.setCell ⟨w7.heap.size,6,none⟩ (.slice A5 (i+1) zH)) w7.heap.size 34 #[.slice u0.A u0.n u0.c,.slice u1.A u1.n u1.c,.slice u2.A u2.n u2.c,.slice u3.A u3.n u3.c,.slice u4.A u4.n u4.c,.slice u5.A u5.n u5.c,.slice A5 (i+1) zH]:=Uf.out.store 6 (.slice A5 (i+1) zH);have hown6:=ay JQ.out gs (fun g e1 e2=>by injection e2 with e2;have:=(JQ.out.lt g e1).1;omega);have hg9:w7.grownBy (w5.setCell ⟨w7.heap.size,6,none⟩ (.slice A5 (i+1) zH)) none:=af (Ei VG.out g5 (fun g e=>by have:=(HOWN.out.lt g e).1;omega)) gs (.inr ⟨_,rfl,Nat.le_refl _⟩);go_roundw
      case rel=>exact ⟨i+1,by go_num,hlt,A5,zH,_,hown6,by rw[←List.map_take];exact hE,hb6,hg9⟩
      case measure=>simp [intOf];omega
    · obtain rfl:i=n:=by omega
      have T9:=Ue.out.keep Ky;have HT9:=ae T9;have hr1:wr.cell? ⟨bX,1,none⟩=some (.int .i64 0):=T9.hX.cell 1;have hr2:wr.frozen? ⟨bX,1,none⟩=false:=T9.hX.free 1;have hw1:IntKind.i64.wrap ((s.length:Int) - (i:Int))=(s.length:Int) - (i:Int):=IntWalk.i64_in _ (by omega);have hzz:¬(i:Int) < (i:Int):=by omega
      clear T9;go_upto_region 26 with fail;obtain⟨wx,hwx⟩:∃wx,wx=wr.setCell ⟨bX,1,none⟩ (.int .i64 ((s.length:Int) - (i:Int))):=⟨_,rfl⟩;rw[←hwx];have gx:wr.grownBy wx (some bX):=by rw[hwx];exact ah _ _ _ _
      have ob:=HT9.out.o;have dT:Held wx w7.heap.size 34 #[.slice u0.A u0.n u0.c,.slice u1.A u1.n u1.c,.slice u2.A u2.n u2.c,.slice u3.A u3.n u3.c,.slice u4.A u4.n u4.c,.slice u5.A u5.n u5.c,.slice AE i cE]:=HHB.out.grown gx (fun e=>by injection e with e;have:=Ue.out.hX.lt;have:=HG7.out.size;omega)
      have dX:Held wx bX 61 #[.slice (some ⟨gB,0,none⟩) k k,.int .i64 ((s.length:Int) - (i:Int))]:=by
       rw[hwx];have:=HT9.out.hX.store 1 (.int .i64 ((s.length:Int) - (i:Int)));rw[iR] at this;exact this
      have Jz:Held wx bT 34 #[.slice none 0 0,.slice none 0 0,.slice none 0 0,.slice none 0 0,.slice none 0 0,.slice none 0 0,.slice none 0 0]:=HT9.out.hT.grown gx (fun e=>by injection e with e;omega);have dLr:Held wx bL 61 #[.slice none 0 0,.int .i64 0]:=HT9.out.hL.grown gx (fun e=>by injection e with e;omega);have e0:wx.cell? ⟨w7.heap.size,0,none⟩=some (.slice u0.A u0.n u0.c):=dT.cell 0;have e1:wx.cell? ⟨w7.heap.size,1,none⟩=some (.slice u1.A u1.n u1.c):=dT.cell 1;have e2:wx.cell? ⟨w7.heap.size,2,none⟩=some (.slice u2.A u2.n u2.c):=dT.cell 2;have e3:wx.cell? ⟨w7.heap.size,3,none⟩=some (.slice u3.A u3.n u3.c):=dT.cell 3;have e4:wx.cell? ⟨w7.heap.size,4,none⟩=some (.slice u4.A u4.n u4.c):=dT.cell 4;have e5:wx.cell? ⟨w7.heap.size,5,none⟩=some (.slice u5.A u5.n u5.c):=dT.cell 5;have e6:wx.cell? ⟨w7.heap.size,6,none⟩=some (.slice AE i cE):=dT.cell 6;have l0:wx.cell? ⟨bX,0,none⟩=some (.slice (some ⟨gB,0,none⟩) k k):=dX.cell 0;have l1:wx.cell? ⟨bX,1,none⟩=some (.int .i64 ((s.length:Int) - (i:Int))):=dX.cell 1;have t0:wx.cell? ⟨bT,0,none⟩=some (.slice none 0 0):=Jz.cell 0;have tf0:wx.frozen? ⟨bT,0,none⟩=false:=Jz.free 0;have t1:wx.cell? ⟨bT,1,none⟩=some (.slice none 0 0):=Jz.cell 1;have tf1:wx.frozen? ⟨bT,1,none⟩=false:=Jz.free 1;have t2:wx.cell? ⟨bT,2,none⟩=some (.slice none 0 0):=Jz.cell 2;have tf2:wx.frozen? ⟨bT,2,none⟩=false:=Jz.free 2;have t3:wx.cell? ⟨bT,3,none⟩=some (.slice none 0 0):=Jz.cell 3;have tf3:wx.frozen? ⟨bT,3,none⟩=false:=Jz.free 3;have t4:wx.cell? ⟨bT,4,none⟩=some (.slice none 0 0):=Jz.cell 4;have tf4:wx.frozen? ⟨bT,4,none⟩=false:=Jz.free 4;have t5:wx.cell? ⟨bT,5,none⟩=some (.slice none 0 0):=Jz.cell 5;have tf5:wx.frozen? ⟨bT,5,none⟩=false:=Jz.free 5;have t6:wx.cell? ⟨bT,6,none⟩=some (.slice none 0 0):=Jz.cell 6;have tf6:wx.frozen? ⟨bT,6,none⟩=false:=Jz.free 6;have r0:wx.cell? ⟨bL,0,none⟩=some (.slice none 0 0):=dLr.cell 0;have r1:wx.cell? ⟨bL,1,none⟩=some (.int .i64 0):=dLr.cell 1;have rf0:wx.frozen? ⟨bL,0,none⟩=false:=dLr.free 0;have rf1:wx.frozen? ⟨bL,1,none⟩=false:=dLr.free 1;have hTL:¬bT=bL:=by omega
      have hLT:¬bL=bT:=by omega
      have HDT:=ae Jz;have HDL:=ae dLr;have HWX:=ae hwx;have HGX:=ae gx;clear hwx gx ob dT dX Jz dLr hr1 hr2;go_region;have K0:=ae (show TrK CP w wc.heap.size w7.heap.size W0.heap.size wc.heap.size gB W8.heap.size [u0,u1,u2,u3,u4,u5] (dH fs k) (.slice AE i cE) i cssE ((s.take i).map (·.ev)) wr from ⟨HT9.out.gr,HCP.out _ _ _ _ _ _ HC7.out VG.out (Nat.le_refl _) (Rng.none _ _),VG.out.size,HOWN.out,Xj.out,Nat.le_trans HG7.out.size VG.out.size,HT9.out.hB⟩);have apD:W0.heap.size≤wc.heap.size:=Ue.out.s
      have K1:TrK CP w wc.heap.size w7.heap.size W0.heap.size wc.heap.size gB W8.heap.size [u0,u1,u2,u3,u4,u5] (dH fs k) (.slice AE i cE) i cssE ((s.take i).map (·.ev)) wx:=by
       rw[HWX.out];have:=HG7.out.size;exact K0.out.step HCP.out bX 1 _ (by omega) (by omega) (by omega) (by omega) (by omega)
      have s7:=HG7.out.size;have KK:=PQ HCP.out K1 (.slice none 0 0) (Value.slice u0.A u0.n u0.c) (Value.slice u1.A u1.n u1.c) (Value.slice u2.A u2.n u2.c) (Value.slice u3.A u3.n u3.c) (Value.slice u4.A u4.n u4.c) (Value.slice u5.A u5.n u5.c) (Value.slice AE i cE) (.slice none 0 0) (.int .i64 0) (Value.slice (some ⟨gB,0,none⟩) k k) (Value.int .i64 ((s.length:Int) - (i:Int))) HDT.out HDL.out (by omega) (by omega) (by omega);obtain⟨W9,iQ⟩:∃W9,W9=(((((((((wx.setCell ⟨bT,0,none⟩ (Value.slice u0.A u0.n u0.c)).setCell ⟨bT,1,none⟩ (Value.slice u1.A u1.n u1.c)).setCell ⟨bT,2,none⟩ (Value.slice u2.A u2.n u2.c)).setCell ⟨bT,3,none⟩ (Value.slice u3.A u3.n u3.c)).setCell ⟨bT,4,none⟩ (Value.slice u4.A u4.n u4.c)).setCell ⟨bT,5,none⟩ (Value.slice u5.A u5.n u5.c)).setCell ⟨bT,6,none⟩ (Value.slice AE i cE)).setCell ⟨bL,0,none⟩ (Value.slice (some ⟨gB,0,none⟩) k k)).setCell ⟨bL,1,none⟩ (Value.int .i64 ((s.length:Int) - (i:Int)))).drew:=⟨_,rfl⟩;rw[←iQ] at KK⊢;obtain⟨K9,q7,p2⟩:=KK;have d0:W9.cell? ⟨bT,0,none⟩=some (Value.slice u0.A u0.n u0.c):=q7.cell 0;have d1:W9.cell? ⟨bT,1,none⟩=some (Value.slice u1.A u1.n u1.c):=q7.cell 1;have d2:W9.cell? ⟨bT,2,none⟩=some (Value.slice u2.A u2.n u2.c):=q7.cell 2;have d3:W9.cell? ⟨bT,3,none⟩=some (Value.slice u3.A u3.n u3.c):=q7.cell 3;have d4:W9.cell? ⟨bT,4,none⟩=some (Value.slice u4.A u4.n u4.c):=q7.cell 4;have d5:W9.cell? ⟨bT,5,none⟩=some (Value.slice u5.A u5.n u5.c):=q7.cell 5;have d6:W9.cell? ⟨bT,6,none⟩=some (Value.slice AE i cE):=q7.cell 6;have f0:W9.cell? ⟨bL,0,none⟩=some (Value.slice (some ⟨gB,0,none⟩) k k):=p2.cell 0;have f1:W9.cell? ⟨bL,1,none⟩=some (Value.int .i64 ((s.length:Int) - (i:Int))):=p2.cell 1;have HK9:=ae K9;clear iQ q7 p2 K9 K1 e0 e1 e2 e3 e4 e5 e6 l0 l1 t0 t1 t2 t3 t4 t5 t6 tf0 tf1 tf2 tf3 tf4 tf5 tf6 r0 r1 rf0 rf1;go_wp2_with fail;refine bodyPost_ret (v:= .tuple #[.agg #[.slice u0.A u0.n u0.c,.slice u1.A u1.n u1.c,.slice u2.A u2.n u2.c,.slice u3.A u3.n u3.c,.slice u4.A u4.n u4.c,.slice u5.A u5.n u5.c,.slice AE i cE],.agg #[.slice (some ⟨gB,0,none⟩) k k,.int .i64 ((s.length:Int) - (i:Int))]]) (by simp[results,Tryz.results15,go_sem,d0,d1,d2,d3,d4,d5,d6,f0,f1]) rfl ?_;have K9:=HK9.out;have hE:(s.take i).map (·.ev)=dF (aV fs k):=by rw[←H8.out];exact HEV.out
      have hlenE:(dF (aV fs k)).length=i:=by rw[←hE,List.length_map,List.length_take];omega
      have hlenA:(aV fs k).length=s.length:=by rw[←H8.out,HSL.out]
      refine⟨u0,u1,u2,u3,u4,u5,AE,cE,some ⟨gB,0,none⟩,k,by rw[hlenE,hlenA,iR],⟨_,_,K9.cp,K9.b7⟩,⟨_,_,_,cssE,by rw[hlenE];exact K9.own,by rw[←hE];exact K9.ev,K9.bb⟩,⟨by simp,fun _=>⟨⟨gB,0,none⟩,rfl,K9.ints.lt,fun j u hu=>?_⟩⟩,K9.gr⟩;rw[show (⟨gB,0,none⟩:Addr).add j=⟨gB,j,none⟩ by unfold Addr.add;split <;> simp_all,K9.ints.cell j]
      simpa using hu
