/- The walk of the reference's Trace (chapter 15). -/
import Derived.Test.YtlofjhcjjcohfaaTrP
import Derived.Test.YtlofjhcjjcohfaaBlR
import Derived.Test.YtlofjhcjjcohfaaHeldE
namespace Go.Proofs.Ytlofjhcjjcohfaa
open Go Go.RowKit Iv
set_option linter.unusedVariables false

/-- The records of a row, their lists off two rows. -/
def Rows2 (w : World) (lo : Nat) (o o2 : Option Nat) (css : List Value) (rs : List Rec) : Prop :=
  css.length = rs.length * 8 ∧ ∀ k r, rs[k]? = some r → ∃ (Ad : Option Addr) (nd cd : Nat) (Af : Option Addr) (nf cf : Nat), RowRec w lo o css k r Ad nd cd Af nf cf ∧ Off o2 Ad nd ∧ Off o2 Af nf
theorem Rows2.nil (w : World) (lo : Nat) (o o2 : Option Nat) : Rows2 w lo o o2 [] [] := ⟨rfl, fun k r hr => by simp at hr⟩
theorem Rows2.rows {w : World} {lo : Nat} {o o2 : Option Nat} {css : List Value} {rs : List Rec} (h : Rows2 w lo o o2 css rs) : RowsAt w lo o css rs :=
  ⟨h.1, fun k r hr => by
    obtain ⟨Ad, nd, cd, Af, nf, cf, q, _⟩ := h.2 k r hr
    exact ⟨Ad, nd, cd, Af, nf, cf, q⟩⟩
theorem Rows2.grow {w w' : World} {lo : Nat} {o o2 o' : Option Nat} {css : List Value} {rs : List Rec} (h : Rows2 w lo o o2 css rs) (hg : w.grownBy w' o) (hat : At w o o') : Rows2 w' lo o' o2 css rs :=
  ⟨h.1, fun k r hr => by
    obtain ⟨Ad, nd, cd, Af, nf, cf, q, h1, h2⟩ := h.2 k r hr
    exact ⟨Ad, nd, cd, Af, nf, cf, q.grow hg hat, h1, h2⟩⟩
theorem Rows2.grow2 {w w' : World} {lo : Nat} {o o2 o' : Option Nat} {css : List Value} {rs : List Rec} (h : Rows2 w lo o o2 css rs) (hg : w.grownBy w' o2) (hat : At w o2 o') : Rows2 w' lo o o' css rs :=
  ⟨h.1, fun k r hr => by
    obtain ⟨Ad, nd, cd, Af, nf, cf, q, h1, h2⟩ := h.2 k r hr
    exact ⟨Ad, nd, cd, Af, nf, cf, ⟨q.cells, (q.ld.grownOff h1 hg (Nat.le_refl _)).more hg.size, (q.lf.grownOff h2 hg (Nat.le_refl _)).more hg.size, q.od, q.of_, q.lod, q.lof⟩, h1.at_ q.ld (Nat.le_refl _) hat, h2.at_ q.lf (Nat.le_refl _) hat⟩⟩
/-- Something else has grown: none, or a block below lo. -/
theorem Rows2.keep {w w' : World} {lo : Nat} {o o2 row : Option Nat} {css : List Value} {rs : List Rec} (h : Rows2 w lo o o2 css rs) (hg : w.grownBy w' row) (hr : ∀ g, row = some g → g < lo) : Rows2 w' lo o o2 css rs :=
  ⟨h.1, fun k r hk => by
    obtain ⟨Ad, nd, cd, Af, nf, cf, q, h1, h2⟩ := h.2 k r hk
    exact ⟨Ad, nd, cd, Af, nf, cf, ⟨q.cells, lies_low q.ld q.lod hg hr, lies_low q.lf q.lof hg hr, q.od, q.of_, q.lod, q.lof⟩, h1, h2⟩⟩
/-- The cells of a block's records, to be appended to a row, off two rows. -/
theorem RecsB.src2 {w : World} {lo B n : Nat} {A : Option Addr} {rs : List Rec} (h : RecsB w lo B A n rs) (hB : B ≤ w.heap.size) : ∃ news : List Value, Lies w B 8 A n news ∧ (∀ u ∈ news, u.oneCell' = true) ∧
    ∀ (base : Nat) (o o2 : Option Nat) (css : List Value) (rs0 : List Rec), base ≤ lo → Rng lo B o → Rng lo B o2 → Rows2 w base o o2 css rs0 → Rows2 w base o o2 (css ++ news) (rs0 ++ rs) := by
  obtain ⟨news, h1, h2, h3⟩ := h.src hB
  refine ⟨news, h1, h2, fun base o o2 css rs0 hb ho ho2 h0 => ?_⟩
  have r1 := h3 base o css rs0 hb ho h0.rows
  refine ⟨r1.1, fun k r hk => ?_⟩
  by_cases hkl : k < rs0.length
  · rw [List.getElem?_append_left hkl] at hk
    obtain ⟨Ad, nd, cd, Af, nf, cf, q, q1, q2⟩ := h0.2 k r hk
    refine ⟨Ad, nd, cd, Af, nf, cf, ⟨fun j u hu => ?_, q.ld, q.lf, q.od, q.of_, q.lod, q.lof⟩, q1, q2⟩
    have := q.cells j u hu
    rw [List.getElem?_append_left (List.getElem?_eq_some_iff.1 this).1]
    exact this
  · rw [List.getElem?_append_right (by omega)] at hk
    obtain ⟨b, f, Ad, nd, cd, Af, nf, cf, e, q⟩ := h.2 _ r hk
    have off : ∀ {o : Option Nat} {A' : Option Addr} {n' : Nat} {xs : List Value}, Rng lo B o → Lies w B 1 A' n' xs → Lo lo A' n' → Off o A' n' := fun ho hl hlo hn ad e hb' => by
      have h5 := hlo hn ad e
      have h6 := ho _ hb'.symm
      obtain ⟨ad', e', hb2, _⟩ := hl.2 hn
      rw [e] at e'
      injection e' with e'
      subst e'
      omega
    refine ⟨Ad, nd, cd, Af, nf, cf, ⟨fun j u hu => ?_, q.ld.more hB, q.lf.more hB, off ho q.ld q.lod, off ho q.lf q.lof, q.lod.lower hb, q.lof.lower hb⟩, off ho2 q.ld q.lod, off ho2 q.lf q.lof⟩
    have hj8 : j < 8 := by have := (Array.getElem?_eq_some_iff.1 hu).1; simpa [recV] using this
    have hcl := h0.1
    rw [List.getElem?_append_right (by omega)]
    have hnl : k * 8 + j - css.length = (k - rs0.length) * 8 + j := by omega
    rw [hnl]
    have hkr : k - rs0.length < rs.length := (List.getElem?_eq_some_iff.1 hk).1
    have hn := h.1
    obtain ⟨ad, ea, _, hc⟩ := h1.2 (by omega)
    have hlt : (k - rs0.length) * 8 + j < news.length := by have := h1.1; omega
    have hx := hc _ _ (List.getElem?_eq_getElem hlt)
    rw [e] at ea
    injection ea with ea
    subst ea
    rw [show (⟨b, f, none⟩ : Addr).add ((k - rs0.length) * 8 + j) = ⟨b, f + (k - rs0.length) * 8 + j, none⟩ by unfold Addr.add; split <;> simp_all <;> omega] at hx
    rw [q.cells j u hu] at hx
    rw [List.getElem?_eq_getElem hlt]
    exact hx.symm

/-- Rows of two types lie apart. -/
theorem rows_apart {w : World} {b1 b2 e1 e2 s1 s2 n1 n2 : Nat} {v1 v2 : Value} {x1 x2 : List Value} (h1 : w.ownsRow b1 e1 s1 v1 n1 x1) (h2 : w.ownsRow b2 e2 s2 v2 n2 x2) (he : e1 ≠ e2) : ∀ g, v1.ownBlock = some g → v2.ownBlock = some g → False := by
  intro g hg1 hg2
  rcases h1.2 with ⟨rfl, _⟩ | ⟨g1, c1, cur1, rfl, _, hb1, _⟩
  · cases hg1
  · rcases h2.2 with ⟨rfl, _⟩ | ⟨g2, c2, cur2, rfl, _, hb2, _⟩
    · cases hg2
    · simp only [Value.ownBlock, Option.some.injEq] at hg1 hg2
      subst hg1
      subst hg2
      rw [hb1] at hb2
      injection hb2 with hb2
      injection hb2 with _ hb2 _
      exact he hb2

/-- The state of the reference's Trace. -/
structure TrJ (w : World) (wv : Array Value) (bw bT bL bX lo : Nat) (ls : List Int) (vB v : Value) (css : List Value) (rs : List Rec) (W : World) : Prop where
  hw : Held W bw 70 wv
  hT : Held W bT 73 #[.slice none 0 0, .slice none 0 0, .slice none 0 0, .slice none 0 0, .slice none 0 0, .slice none 0 0, .slice none 0 0]
  hL : Held W bL 75 #[.slice none 0 0, .int .i64 0]
  hX : Held W bX 75 #[vB, .int .i64 0]
  ownB : W.ownsRow lo 3 1 vB ls.length (ls.map iv)
  own : W.ownsRow lo 26 8 v rs.length css
  rows : Rows2 W lo v.ownBlock vB.ownBlock css rs
  gr : w.grownBy W none
  o : w.heap.size ≤ bw ∧ bw < bT ∧ bT < bL ∧ bL < bX ∧ bX < lo
  s : lo ≤ W.heap.size
variable {w : World} {wv : Array Value} {bw bT bL bX lo : Nat} {ls : List Int} {vB v : Value} {css : List Value} {rs : List Rec} {W W' : World}
theorem TrJ.keep (h : TrJ w wv bw bT bL bX lo ls vB v css rs W) (hg : W.grownBy W' none) : TrJ w wv bw bT bL bX lo ls vB v css rs W' :=
  ⟨h.hw.grown hg (fun e => nomatch e), h.hT.grown hg (fun e => nomatch e), h.hL.grown hg (fun e => nomatch e), h.hX.grown hg (fun e => nomatch e), own_keep h.ownB hg (fun _ _ e => nomatch e), own_keep h.own hg (fun _ _ e => nomatch e), h.rows.keep hg (fun _ e => nomatch e), grownBy_trans h.gr hg (.inl rfl), h.o, Nat.le_trans h.s hg.size⟩
/-- Records are appended. -/
theorem TrJ.next (h : TrJ w wv bw bT bL bX lo ls vB v css rs W) {v' : Value} {css' : List Value} {rs' : List Rec} (hg : W.grownBy W' v.ownBlock) (hown : W'.ownsRow lo 26 8 v' rs'.length css') (hrow : Rows2 W' lo v'.ownBlock vB.ownBlock css' rs') : TrJ w wv bw bT bL bX lo ls vB v' css' rs' W' := by
  have ho := h.o
  have hne : ∀ g, g < lo → some g ≠ v.ownBlock := fun g hg' e => by have := (h.own.lt g e.symm).1; omega
  exact ⟨h.hw.grown hg (hne _ (by omega)), h.hT.grown hg (hne _ (by omega)), h.hL.grown hg (hne _ (by omega)), h.hX.grown hg (hne _ (by omega)),
    own_keep h.ownB hg (fun g e1 e2 => rows_apart h.ownB h.own (by decide) g e1 e2), hown, hrow, gr_row2 h.gr hg (fun g e => by have := (h.own.lt g e).1; omega), h.o, Nat.le_trans h.s hg.size⟩
/-- What is lost of a file is appended, and laid into the loss. -/
theorem TrJ.lost (h : TrJ w wv bw bT bL bX lo ls vB v css rs W) {vB' : Value} {x : Int} (hg : W.grownBy W' vB.ownBlock) (hat : At W vB.ownBlock vB'.ownBlock) (hown : W'.ownsRow lo 3 1 vB' (ls.length + 1) (ls.map iv ++ [iv x])) : TrJ w wv bw bT bL bX lo (ls ++ [x]) vB' v css rs (W'.setCell ⟨bX, 0, none⟩ vB') := by
  have ho := h.o
  have hne : ∀ g, g < lo → some g ≠ vB.ownBlock := fun g hg' e => by have := (h.ownB.lt g e.symm).1; omega
  have gs := grown_store W' bX 0 vB'
  have hX : Held (W'.setCell ⟨bX, 0, none⟩ vB') bX 75 #[vB', .int .i64 0] := (h.hX.grown hg (hne _ (by omega))).store 0 vB'
  refine ⟨(h.hw.grown hg (hne _ (by omega))).far (by simp; omega) _, (h.hT.grown hg (hne _ (by omega))).far (by simp; omega) _, (h.hL.grown hg (hne _ (by omega))).far (by simp; omega) _, hX, ?_, ?_, ?_, ?_, h.o, Nat.le_trans h.s (Nat.le_trans hg.size gs.size)⟩
  · have := own_keep hown gs (fun g e1 e2 => by injection e2 with e2; have := (hown.lt g e1).1; omega)
    rw [List.length_append, List.map_append]
    exact this
  · have h1 := own_keep h.own hg (fun g e1 e2 => rows_apart h.own h.ownB (by decide) g e1 e2)
    exact own_keep h1 gs (fun g e1 e2 => by injection e2 with e2; have := (h1.lt g e1).1; omega)
  · exact (h.rows.grow2 hg hat).keep gs (fun g e => by injection e with e; omega)
  · exact grownBy_trans (gr_row2 h.gr hg (fun g e => by have := (h.ownB.lt g e).1; omega)) gs (.inr ⟨_, rfl, by omega⟩)

/-- What is returned lies here. -/
structure TrK2 (CP : World → Nat → Nat → List Sl → Prop) (w : World) (lo7 B7 lo B base : Nat) (vB : Value) (us : List Sl) (ls : List Int) (vE : Value) (m : Nat) (cssE : List Value) (E : List Ev) (W : World) : Prop where
  gr : w.grownBy W none
  cp : CP W lo7 B7 us
  b7 : B7 ≤ W.heap.size
  own : W.ownsRow base 24 7 vE m cssE
  ev : EvsB W lo B cssE E
  bb : B ≤ W.heap.size
  ints : W.ownsRow lo 3 1 vB ls.length (ls.map iv)
theorem TrK2.step {CP : World → Nat → Nat → List Sl → Prop} (hCP : ∀ W W' lo B row us, CP W lo B us → W.grownBy W' row → B ≤ W.heap.size → Rng lo B row → CP W' lo B us) {w : World} {lo7 B7 lo B base : Nat} {vB : Value} {us : List Sl} {ls : List Int} {vE : Value} {m : Nat} {cssE : List Value} {E : List Ev} {W : World}
    (h : TrK2 CP w lo7 B7 lo B base vB us ls vE m cssE E W) (b j : Nat) (v : Value) (h0 : w.heap.size ≤ b) (h1 : b < lo7) (h2 : b < lo) (h3 : True) (h4 : b < base) : TrK2 CP w lo7 B7 lo B base vB us ls vE m cssE E (W.setCell ⟨b, j, none⟩ v) := by
  have g := grown_store W b j v
  exact ⟨grownBy_trans h.gr g (.inr ⟨_, rfl, h0⟩), hCP _ _ _ _ _ _ h.cp g h.b7 (fun x e => .inl (by injection e with e; omega)), Nat.le_trans h.b7 g.size, own_keep h.own g (fun x e1 e2 => by injection e2 with e2; have := (h.own.lt x e1).1; omega),
    h.ev.keep g h.bb (fun x e => .inl (by injection e with e; omega)), Nat.le_trans h.bb g.size, own_keep h.ints g (fun x e1 e2 => by injection e2 with e2; have := (h.ints.lt x e1).1; omega)⟩

theorem TrK2.drew {CP : World → Nat → Nat → List Sl → Prop} (hCP : ∀ W W' lo B row us, CP W lo B us → W.grownBy W' row → B ≤ W.heap.size → Rng lo B row → CP W' lo B us) {w : World} {lo7 B7 lo B base : Nat} {vB : Value} {us : List Sl} {ls : List Int} {vE : Value} {m : Nat} {cssE : List Value} {E : List Ev} {W : World}
    (k : TrK2 CP w lo7 B7 lo B base vB us ls vE m cssE E W) : TrK2 CP w lo7 B7 lo B base vB us ls vE m cssE E W.drew :=
  ⟨grown_toDrew k.gr, hCP _ _ _ _ _ _ k.cp (grown_toDrew (World.grownBy.refl _ none)) k.b7 (Rng.none _ _), k.b7, k.own, k.ev.keep (grown_toDrew (World.grownBy.refl W none)) k.bb (Rng.none _ _), k.bb, own_keep k.ints (grown_toDrew (World.grownBy.refl W none)) (fun _ _ e => nomatch e)⟩
theorem tr_stores2 {CP : World → Nat → Nat → List Sl → Prop} (hCP : ∀ W W' lo B row us, CP W lo B us → W.grownBy W' row → B ≤ W.heap.size → Rng lo B row → CP W' lo B us) {w : World} {lo7 B7 lo B base : Nat} {vB : Value} {us : List Sl} {ls : List Int} {vE : Value} {m : Nat} {cssE : List Value} {E : List Ev} {wx : World} {bT bL : Nat} {tT tL : TypeId}
    (h : TrK2 CP w lo7 B7 lo B base vB us ls vE m cssE E wx) (z a0 a1 a2 a3 a4 a5 a6 y0 y1 b0 b1 : Value) (dT : Held wx bT tT #[z, z, z, z, z, z, z]) (dL : Held wx bL tL #[y0, y1])
    (hT : w.heap.size ≤ bT ∧ bT < lo7 ∧ bT < lo ∧ True ∧ bT < base) (hL : w.heap.size ≤ bL ∧ bL < lo7 ∧ bL < lo ∧ True ∧ bL < base) (hTL : bT ≠ bL) :
    TrK2 CP w lo7 B7 lo B base vB us ls vE m cssE E (((((((((wx.setCell ⟨bT, 0, none⟩ a0).setCell ⟨bT, 1, none⟩ a1).setCell ⟨bT, 2, none⟩ a2).setCell ⟨bT, 3, none⟩ a3).setCell ⟨bT, 4, none⟩ a4).setCell ⟨bT, 5, none⟩ a5).setCell ⟨bT, 6, none⟩ a6).setCell ⟨bL, 0, none⟩ b0).setCell ⟨bL, 1, none⟩ b1).drew ∧ Held (((((((((wx.setCell ⟨bT, 0, none⟩ a0).setCell ⟨bT, 1, none⟩ a1).setCell ⟨bT, 2, none⟩ a2).setCell ⟨bT, 3, none⟩ a3).setCell ⟨bT, 4, none⟩ a4).setCell ⟨bT, 5, none⟩ a5).setCell ⟨bT, 6, none⟩ a6).setCell ⟨bL, 0, none⟩ b0).setCell ⟨bL, 1, none⟩ b1).drew bT tT #[a0, a1, a2, a3, a4, a5, a6] ∧ Held (((((((((wx.setCell ⟨bT, 0, none⟩ a0).setCell ⟨bT, 1, none⟩ a1).setCell ⟨bT, 2, none⟩ a2).setCell ⟨bT, 3, none⟩ a3).setCell ⟨bT, 4, none⟩ a4).setCell ⟨bT, 5, none⟩ a5).setCell ⟨bT, 6, none⟩ a6).setCell ⟨bL, 0, none⟩ b0).setCell ⟨bL, 1, none⟩ b1).drew bL tL #[b0, b1] := by
  obtain ⟨t1, t2, t3, t4, t5⟩ := hT
  obtain ⟨l1, l2, l3, l4, l5⟩ := hL
  have k0 := h.step hCP bT 0 a0 t1 t2 t3 t4 t5
  have k1 := k0.step hCP bT 1 a1 t1 t2 t3 t4 t5
  have k2 := k1.step hCP bT 2 a2 t1 t2 t3 t4 t5
  have k3 := k2.step hCP bT 3 a3 t1 t2 t3 t4 t5
  have k4 := k3.step hCP bT 4 a4 t1 t2 t3 t4 t5
  have k5 := k4.step hCP bT 5 a5 t1 t2 t3 t4 t5
  have k6 := k5.step hCP bT 6 a6 t1 t2 t3 t4 t5
  have k7 := k6.step hCP bL 0 b0 l1 l2 l3 l4 l5
  have k8 := k7.step hCP bL 1 b1 l1 l2 l3 l4 l5
  have q0 : Held (wx.setCell ⟨bT, 0, none⟩ a0) bT tT #[a0, z, z, z, z, z, z] := dT.store 0 _
  have q1 : Held ((wx.setCell ⟨bT, 0, none⟩ a0).setCell ⟨bT, 1, none⟩ a1) bT tT #[a0, a1, z, z, z, z, z] := q0.store 1 _
  have q2 : Held (((wx.setCell ⟨bT, 0, none⟩ a0).setCell ⟨bT, 1, none⟩ a1).setCell ⟨bT, 2, none⟩ a2) bT tT #[a0, a1, a2, z, z, z, z] := q1.store 2 _
  have q3 : Held ((((wx.setCell ⟨bT, 0, none⟩ a0).setCell ⟨bT, 1, none⟩ a1).setCell ⟨bT, 2, none⟩ a2).setCell ⟨bT, 3, none⟩ a3) bT tT #[a0, a1, a2, a3, z, z, z] := q2.store 3 _
  have q4 : Held (((((wx.setCell ⟨bT, 0, none⟩ a0).setCell ⟨bT, 1, none⟩ a1).setCell ⟨bT, 2, none⟩ a2).setCell ⟨bT, 3, none⟩ a3).setCell ⟨bT, 4, none⟩ a4) bT tT #[a0, a1, a2, a3, a4, z, z] := q3.store 4 _
  have q5 : Held ((((((wx.setCell ⟨bT, 0, none⟩ a0).setCell ⟨bT, 1, none⟩ a1).setCell ⟨bT, 2, none⟩ a2).setCell ⟨bT, 3, none⟩ a3).setCell ⟨bT, 4, none⟩ a4).setCell ⟨bT, 5, none⟩ a5) bT tT #[a0, a1, a2, a3, a4, a5, z] := q4.store 5 _
  have q6 : Held (((((((wx.setCell ⟨bT, 0, none⟩ a0).setCell ⟨bT, 1, none⟩ a1).setCell ⟨bT, 2, none⟩ a2).setCell ⟨bT, 3, none⟩ a3).setCell ⟨bT, 4, none⟩ a4).setCell ⟨bT, 5, none⟩ a5).setCell ⟨bT, 6, none⟩ a6) bT tT #[a0, a1, a2, a3, a4, a5, a6] := q5.store 6 _
  have f0 : Held (wx.setCell ⟨bT, 0, none⟩ a0) bL tL #[y0, y1] := dL.far (by simpa using fun e => hTL e.symm) _
  have f1 : Held ((wx.setCell ⟨bT, 0, none⟩ a0).setCell ⟨bT, 1, none⟩ a1) bL tL #[y0, y1] := f0.far (by simpa using fun e => hTL e.symm) _
  have f2 : Held (((wx.setCell ⟨bT, 0, none⟩ a0).setCell ⟨bT, 1, none⟩ a1).setCell ⟨bT, 2, none⟩ a2) bL tL #[y0, y1] := f1.far (by simpa using fun e => hTL e.symm) _
  have f3 : Held ((((wx.setCell ⟨bT, 0, none⟩ a0).setCell ⟨bT, 1, none⟩ a1).setCell ⟨bT, 2, none⟩ a2).setCell ⟨bT, 3, none⟩ a3) bL tL #[y0, y1] := f2.far (by simpa using fun e => hTL e.symm) _
  have f4 : Held (((((wx.setCell ⟨bT, 0, none⟩ a0).setCell ⟨bT, 1, none⟩ a1).setCell ⟨bT, 2, none⟩ a2).setCell ⟨bT, 3, none⟩ a3).setCell ⟨bT, 4, none⟩ a4) bL tL #[y0, y1] := f3.far (by simpa using fun e => hTL e.symm) _
  have f5 : Held ((((((wx.setCell ⟨bT, 0, none⟩ a0).setCell ⟨bT, 1, none⟩ a1).setCell ⟨bT, 2, none⟩ a2).setCell ⟨bT, 3, none⟩ a3).setCell ⟨bT, 4, none⟩ a4).setCell ⟨bT, 5, none⟩ a5) bL tL #[y0, y1] := f4.far (by simpa using fun e => hTL e.symm) _
  have f6 : Held (((((((wx.setCell ⟨bT, 0, none⟩ a0).setCell ⟨bT, 1, none⟩ a1).setCell ⟨bT, 2, none⟩ a2).setCell ⟨bT, 3, none⟩ a3).setCell ⟨bT, 4, none⟩ a4).setCell ⟨bT, 5, none⟩ a5).setCell ⟨bT, 6, none⟩ a6) bL tL #[y0, y1] := f5.far (by simpa using fun e => hTL e.symm) _
  have p0 : Held ((((((((wx.setCell ⟨bT, 0, none⟩ a0).setCell ⟨bT, 1, none⟩ a1).setCell ⟨bT, 2, none⟩ a2).setCell ⟨bT, 3, none⟩ a3).setCell ⟨bT, 4, none⟩ a4).setCell ⟨bT, 5, none⟩ a5).setCell ⟨bT, 6, none⟩ a6).setCell ⟨bL, 0, none⟩ b0) bL tL #[b0, y1] := f6.store 0 _
  have p1 : Held (((((((((wx.setCell ⟨bT, 0, none⟩ a0).setCell ⟨bT, 1, none⟩ a1).setCell ⟨bT, 2, none⟩ a2).setCell ⟨bT, 3, none⟩ a3).setCell ⟨bT, 4, none⟩ a4).setCell ⟨bT, 5, none⟩ a5).setCell ⟨bT, 6, none⟩ a6).setCell ⟨bL, 0, none⟩ b0).setCell ⟨bL, 1, none⟩ b1) bL tL #[b0, b1] := p0.store 1 _
  have q7 : Held ((((((((wx.setCell ⟨bT, 0, none⟩ a0).setCell ⟨bT, 1, none⟩ a1).setCell ⟨bT, 2, none⟩ a2).setCell ⟨bT, 3, none⟩ a3).setCell ⟨bT, 4, none⟩ a4).setCell ⟨bT, 5, none⟩ a5).setCell ⟨bT, 6, none⟩ a6).setCell ⟨bL, 0, none⟩ b0) bT tT #[a0, a1, a2, a3, a4, a5, a6] := q6.far (by simpa using hTL) _
  have q8 : Held (((((((((wx.setCell ⟨bT, 0, none⟩ a0).setCell ⟨bT, 1, none⟩ a1).setCell ⟨bT, 2, none⟩ a2).setCell ⟨bT, 3, none⟩ a3).setCell ⟨bT, 4, none⟩ a4).setCell ⟨bT, 5, none⟩ a5).setCell ⟨bT, 6, none⟩ a6).setCell ⟨bL, 0, none⟩ b0).setCell ⟨bL, 1, none⟩ b1) bT tT #[a0, a1, a2, a3, a4, a5, a6] := q7.far (by simpa using hTL) _
  exact ⟨k8.drew hCP, q8.drew, p1.drew⟩

set_option maxRecDepth 100000 in
set_option maxHeartbeats 3200000 in
theorem traceR_any (s0 s1 s2 s3 s4 s5 : Sl) (AF : Option Addr) (nF cF B : Nat) (fs : List Bytes) (w : World) (hF : FIn w B AF nF fs) (hB : B ≤ w.heap.size) (hk : s4.n ≤ 10) (hlen : ∀ f ∈ fs, f.length ≤ 3000) (hnF : nF ≤ 1000) :
    Calls Try.prog 32 #[.agg #[.slice s0.A s0.n s0.c, .slice s1.A s1.n s1.c, .slice s2.A s2.n s2.c, .slice s3.A s3.n s3.c, .slice s4.A s4.n s4.c, .slice s5.A s5.n s5.c], .slice AF nF cF] w (TrOut (fun _ _ _ us => us = [s0, s1, s2, s3, s4, s5]) (recsTo fs s4.n) (lostTo fs s4.n) w) := by
  have HF := Lib.hid hF
  have HLEN := Lib.hid hlen
  have hfl : fs.length = nF := hF.1
  have HFL := Lib.hid hfl
  obtain ⟨k, hkk⟩ : ∃ k, k = s4.n := ⟨_, rfl⟩
  rw [← hkk] at hk ⊢
  obtain ⟨W0, hW0⟩ : ∃ W0, W0 = (((w.alloc (.cells #[.slice s0.A s0.n s0.c, .slice s1.A s1.n s1.c, .slice s2.A s2.n s2.c, .slice s3.A s3.n s3.c, .slice s4.A k s4.c, .slice s5.A s5.n s5.c] 70)).alloc (.cells #[.slice none 0 0, .slice none 0 0, .slice none 0 0, .slice none 0 0, .slice none 0 0, .slice none 0 0, .slice none 0 0] 73)).alloc (.cells #[.slice none 0 0, .int .i64 0] 75)).alloc (.cells #[.slice none 0 0, .int .i64 0] 75) := ⟨_, rfl⟩
  have HKK := Lib.hid hkk
  clear hF hlen hfl hkk
  go_enter Try.func32, Try.ntmps32
  go_upto_region 3 with fail
  rw [← hW0]
  obtain ⟨bw, hbw⟩ : ∃ b, b = w.heap.size := ⟨_, rfl⟩
  obtain ⟨bT, hbT⟩ : ∃ b, b = w.heap.size + 1 := ⟨_, rfl⟩
  obtain ⟨bL, hbL⟩ : ∃ b, b = w.heap.size + 1 + 1 := ⟨_, rfl⟩
  obtain ⟨bX, hbX⟩ : ∃ b, b = w.heap.size + 1 + 1 + 1 := ⟨_, rfl⟩
  rw [← hbX, ← hbL, ← hbT, ← hbw]
  have hs0 : W0.heap.size = w.heap.size + 4 := by rw [hW0]; simp
  have hg0 : w.grownBy W0 none := by
    rw [hW0]
    exact grownBy_trans (grownBy_trans (grownBy_trans (World.grownBy_alloc w _ none) (World.grownBy_alloc _ _ none) (.inl rfl)) (World.grownBy_alloc _ _ none) (.inl rfl)) (World.grownBy_alloc _ _ none) (.inl rfl)
  have T0 : TrJ w #[.slice s0.A s0.n s0.c, .slice s1.A s1.n s1.c, .slice s2.A s2.n s2.c, .slice s3.A s3.n s3.c, .slice s4.A k s4.c, .slice s5.A s5.n s5.c] bw bT bL bX W0.heap.size [] (.slice none 0 0) (.slice none 0 0) [] [] W0 := by
    refine ⟨?_, ?_, ?_, ?_, World.ownsRow_nil _ _ _ _, World.ownsRow_nil _ _ _ _, Rows2.nil _ _ _ _, hg0, by omega, Nat.le_refl _⟩
    · rw [hW0, hbw]; exact (((Held.new w _ _).alloc _).alloc _).alloc _
    · rw [hW0, hbT]
      have := ((Held.new (w.alloc (.cells #[.slice s0.A s0.n s0.c, .slice s1.A s1.n s1.c, .slice s2.A s2.n s2.c, .slice s3.A s3.n s3.c, .slice s4.A k s4.c, .slice s5.A s5.n s5.c] 70)) 73 #[.slice none 0 0, .slice none 0 0, .slice none 0 0, .slice none 0 0, .slice none 0 0, .slice none 0 0, .slice none 0 0]).alloc (.cells #[.slice none 0 0, .int .i64 0] 75)).alloc (.cells #[.slice none 0 0, .int .i64 0] 75)
      rwa [World.size_alloc] at this
    · rw [hW0, hbL]
      have := (Held.new ((w.alloc (.cells #[.slice s0.A s0.n s0.c, .slice s1.A s1.n s1.c, .slice s2.A s2.n s2.c, .slice s3.A s3.n s3.c, .slice s4.A k s4.c, .slice s5.A s5.n s5.c] 70)).alloc (.cells #[.slice none 0 0, .slice none 0 0, .slice none 0 0, .slice none 0 0, .slice none 0 0, .slice none 0 0, .slice none 0 0] 73)) 75 #[.slice none 0 0, .int .i64 0]).alloc (.cells #[.slice none 0 0, .int .i64 0] 75)
      rwa [World.size_alloc, World.size_alloc] at this
    · rw [hW0, hbX]
      have := Held.new (((w.alloc (.cells #[.slice s0.A s0.n s0.c, .slice s1.A s1.n s1.c, .slice s2.A s2.n s2.c, .slice s3.A s3.n s3.c, .slice s4.A k s4.c, .slice s5.A s5.n s5.c] 70)).alloc (.cells #[.slice none 0 0, .slice none 0 0, .slice none 0 0, .slice none 0 0, .slice none 0 0, .slice none 0 0, .slice none 0 0] 73)).alloc (.cells #[.slice none 0 0, .int .i64 0] 75)) 75 #[.slice none 0 0, .int .i64 0]
      rwa [World.size_alloc, World.size_alloc, World.size_alloc] at this
  have ob : w.heap.size ≤ bw ∧ bw < bT ∧ bT < bL ∧ bL < bX ∧ bX < W0.heap.size ∧ B ≤ bw := by omega
  obtain ⟨ob0, ob1, ob2, ob3, ob4, ob5⟩ := ob
  have HT0 := Lib.hid T0
  clear hW0 hbw hbT hbL hbX hs0 hg0 T0
  go_upto_block 0 with fail
  go_cut [6] (fun s6 wx => ∃ (css : List Value) (vB : Value), TrJ w #[.slice s0.A s0.n s0.c, .slice s1.A s1.n s1.c, .slice s2.A s2.n s2.c, .slice s3.A s3.n s3.c, .slice s4.A k s4.c, .slice s5.A s5.n s5.c] bw bT bL bX W0.heap.size (lostTo fs k) vB s6 css (recsTo fs k) wx)
  case first =>
    go_wp2_with fail
    go_loopw [8, 6] (fun s8 s6 wr => ∃ (t : Nat) (css : List Value) (vB : Value), s8 = .int .i64 (t : Int) ∧ t ≤ k ∧ TrJ w #[.slice s0.A s0.n s0.c, .slice s1.A s1.n s1.c, .slice s2.A s2.n s2.c, .slice s3.A s3.n s3.c, .slice s4.A k s4.c, .slice s5.A s5.n s5.c] bw bT bL bX W0.heap.size (lostTo fs t) vB s6 css (recsTo fs t) wr) (fun s8 _ _ => k - (intOf s8).toNat)
    case atStart => exact ⟨0, [], _, rfl, Nat.zero_le _, HT0.out⟩
    case round =>
      clear HT0
      obtain ⟨t, css, vB, rfl, htk, T1⟩ := hrel
      have HT1 := Lib.hid T1
      have x4 : wr.cell? ⟨bw, 4, none⟩ = some (.slice s4.A k s4.c) := T1.hw.cell 4
      obtain ⟨Av, cv, hv6, _, _, _, _⟩ := own_slice T1.own
      clear T1
      by_cases hlt : t < k
      · have i1 : (t : Int) < (k : Int) := by omega
        have i3 : (0 : Int) ≤ (t : Int) := by omega
        subst hv6
        go_upto_if 28 with fail
        go_cut [9] (fun s9 wx => ∃ (Ai : Option Addr) (ni ci : Nat), s9 = .slice Ai ni ci ∧ Lies wr B 1 Ai ni ((fileAt fs t).map bv) ∧ ni ≤ ci ∧ ci ≤ maxLen ∧ (Ai = none → ci = 0) ∧ Hid (wx = wr))
        case first =>
          clear x4
          by_cases hnf : t < nF
          · have i2 : (t : Int) < (nF : Int) := by omega
            obtain ⟨bf, of_, Ai, ni, ci, eF, hbB, hfc, hfl, hnc, hcm, hno⟩ := (HF.out.grown HT1.out.gr hB (fun _ e => nomatch e)).2 t (fileAt fs t) (by
              unfold fileAt
              rw [List.getElem?_eq_getElem (by rw [HFL.out]; exact hnf)]
              rfl)
            have HH := Lib.hid (And.intro hfl (And.intro hnc (And.intro hcm hno)))
            subst eF
            clear hfl hno hnc hcm
            go_wp2_with fail
            go_meet
            case rel => exact ⟨Ai, ni, ci, rfl, HH.out.1, HH.out.2.1, HH.out.2.2.1, HH.out.2.2.2, Lib.hid rfl⟩
          · have i2 : ¬ (t : Int) < (nF : Int) := by omega
            go_wp2_with fail
            go_meet
            case rel => exact ⟨none, 0, 0, rfl, by rw [fileAt_none (by rw [HFL.out]; omega)]; exact Lies.nil, Nat.le_refl _, Nat.zero_le _, fun _ => rfl, Lib.hid rfl⟩
        case rest =>
          clear x4
          obtain ⟨Ai, ni, ci, rfl, hfl, hnc, hcm, hno, HWX⟩ := hcut
          have hni : ni ≤ 3000 := by
            have h1 := hfl.lenB
            by_cases hnf : t < nF
            · have h2 : fileAt fs t ∈ fs := by
                have : fs[t]? = some (fileAt fs t) := by
                  unfold fileAt
                  rw [List.getElem?_eq_getElem (by rw [HFL.out]; exact hnf)]
                  rfl
                exact List.mem_of_getElem? this
              have h3 := HLEN.out _ h2
              omega
            · rw [fileAt_none (by rw [HFL.out]; omega)] at h1
              simp at h1
              omega
          have HFB := Lib.hid hfl.lenB
          have hwxr : wc = wr := HWX.out
          subst hwxr
          have CB := Lib.hid (blocksR_any Ai ni ci B (fileAt fs t) t wc hfl (Nat.le_trans hB HT1.out.gr.size) hnc hcm hno (by omega))
          clear hfl hno HWX
          go_wp2_with fail
          refine CB.out.mono ?_
          rintro e w2 ⟨v2, css2, rfl, hown2, hblk2, hg2⟩
          obtain ⟨L, hL⟩ : ∃ L, L = blocksAll (t : Int) (fileAt fs t) 0 (-1) := ⟨_, rfl⟩
          rw [← hL] at hown2 hblk2 ⊢
          obtain ⟨A2, c2, hv2, _, _, _, _⟩ := own_slice hown2
          have hsz : sizeB L ≤ 1000000000 := by
            have h1 := blocksAll_size (t : Int) 0 (-1) (fileAt fs t)
            have h2 := HFB.out
            rw [hL]
            omega
          have hLl : L.length ≤ 3000 := by
            have h1 := blocksAll_len (t : Int) 0 (-1) (fileAt fs t)
            have h2 := HFB.out
            rw [hL]
            omega
          have HL := Lib.hid hL
          have T2 := HT1.out.keep hg2
          have hlsl := lostTo_len fs t
          obtain ⟨AB, cB, hvB, hnB, hmB, _, _⟩ := own_slice T2.ownB
          rw [hlsl] at hvB hnB
          have x0 : w2.cell? ⟨bX, 0, none⟩ = some vB := T2.hX.cell 0
          have hw : IntKind.i64.wrap ((ni : Int) - (sizeB L : Int)) = (ni : Int) - (sizeB L : Int) := IntWalk.i64_in _ (by omega)
          have hB1 := T2.ownB
          rw [hlsl, hvB] at hB1
          have HB1 := Lib.hid hB1
          have HT2 := Lib.hid T2
          have HO2 := Lib.hid hown2
          have HB2 := Lib.hid hblk2
          have HG2 := Lib.hid hg2
          have hsm : W0.heap.size ≤ w2.heap.size := T2.s
          obtain ⟨j8, hi8, hz0, hz1, hz2⟩ := info_parts info_int
          have HI := Lib.hid hi8
          have HZ0 := Lib.hid hz0
          have HZ1 := Lib.hid hz1
          have HZ2 := Lib.hid hz2
          have HVB := Lib.hid hvB
          rw [hvB] at x0
          clear hL T2 hown2 hblk2 hg2 hlsl hB1 hi8 hz0 hz1 hz2 hvB
          subst hv2
          go_upto_region 11 with (at_builtin; refine wpList_app _ rfl (.tmp 40) (.tmp 45) _ rfl W0.heap.size 3 j8 _ 1 8 Try.underlying22 HI.out HZ0.out HZ1.out HZ2.out rfl (by omega) _ (Value.slice AB t cB).ownBlock t ((lostTo fs t).map iv) rfl (App.own (HB1.out.alloc _)) ⟨w2.heap.size, 0, none⟩ 1 1 [iv ((ni : Int) - (sizeB L : Int))] rfl (by omega) rfl (cells_new w2 3 #[iv ((ni : Int) - (sizeB L : Int))]) (by intro u hu; simp at hu; rw [hu]; rfl) (by unfold maxLen; omega) (by omega) (by simp; omega) ?_; intro v' w5 hown' hg' hat'; obtain ⟨A5, c5', hv5, hn5, hm5, _, _⟩ := own_slice hown'; have hb5 := (HT2.out.hX.alloc (.cells #[iv ((ni : Int) - (sizeB L : Int))] 3)).grown hg' (fun e => by have := (HB1.out.lt _ e.symm).1; omega); have y0 : w5.cell? ⟨bX, 0, none⟩ = some vB := hb5.cell 0; have yf : w5.frozen? ⟨bX, 0, none⟩ = false := hb5.free 0; have HO5 := Lib.hid hown'; have HG5 := Lib.hid hg'; have HA5 := Lib.hid hat'; clear hb5 hown' hg' hat'; subst hv5)
          obtain ⟨w3, hw3⟩ : ∃ w3, w3 = w5.setCell ⟨bX, 0, none⟩ (.slice A5 (t + 1) c5') := ⟨_, rfl⟩
          rw [← hw3]
          have gal : w2.grownBy (w2.alloc (.cells #[iv ((ni : Int) - (sizeB L : Int))] 3)) none := World.grownBy_alloc _ _ none
          have gw5 : w2.grownBy w5 vB.ownBlock := by rw [HVB.out]; exact grownBy_trans (grown_anyRow gal _) HG5.out (.inl rfl)
          have hat5 : At w2 vB.ownBlock (Value.slice A5 (t + 1) c5').ownBlock := by
            rw [HVB.out]
            rcases HA5.out with h | ⟨g, h, hge⟩
            · exact .inl h
            · exact .inr ⟨g, h, by rw [World.size_alloc] at hge; omega⟩
          have hlo : lostOf fs t = (ni : Int) - (sizeB L : Int) := by unfold lostOf; rw [HFB.out, ← HL.out]
          have T3 := HT2.out.lost (x := lostOf fs t) gw5 hat5 (by rw [lostTo_len, hlo]; exact HO5.out)
          rw [← lostTo_succ, ← hw3] at T3
          have hg23 : w5.grownBy w3 (some bX) := by rw [hw3]; exact grown_store w5 bX 0 _
          have hxw : bX < wc.heap.size := HT1.out.hX.lt
          have hrow2 : ∀ g, vB.ownBlock = some g → g < wc.heap.size := fun g e => (HT1.out.ownB.lt g e).2
          have hO3 : w3.ownsRow wc.heap.size 38 3 (.slice A2 L.length c2) L.length css2 := own_keep (own_keep HO2.out gw5 (fun g e1 e2 => by have := hrow2 g e2; have := (HO2.out.lt g e1).1; omega)) hg23 (fun g e1 e2 => by injection e2 with e2; have := (HO2.out.lt g e1).1; omega)
          have hB3 : BlksB w3 wc.heap.size w2.heap.size css2 (L.map (·.1)) := (HB2.out.toB.keep gw5 (Nat.le_refl _) (fun g e => .inl (hrow2 g e))).keep hg23 gw5.size (fun g e => .inl (by injection e with e; omega))
          have hrng : Rng wc.heap.size w2.heap.size (Value.slice Av (recsTo fs t).length cv).ownBlock := fun g e => .inl (HT1.out.own.lt g e).2
          have hrngB : Rng wc.heap.size w2.heap.size (Value.slice A5 (t + 1) c5').ownBlock := fun g e => by
            rcases hat5 with h | ⟨g', h, hge⟩
            · rw [h] at e; exact .inl (hrow2 g e)
            · rw [h] at e; injection e with e; right; omega
          have HT3 := Lib.hid T3
          have HO3 := Lib.hid hO3
          have HB3 := Lib.hid hB3
          have HRN := Lib.hid hrng
          have HRB2 := Lib.hid hrngB
          have HS2 : w2.heap.size ≤ w3.heap.size := Nat.le_trans gw5.size hg23.size
          have HOB := Lib.hid (fun g (e : (Value.slice A2 L.length c2).ownBlock = some g) => (HO2.out.lt g e).2)
          obtain ⟨B1, hB1⟩ : ∃ B1, B1 = w2.heap.size := ⟨_, rfl⟩
          rw [← hB1] at HB3 HRN HS2 HOB HRB2
          obtain ⟨lo1, hlo1⟩ : ∃ lo1, lo1 = wc.heap.size := ⟨_, rfl⟩
          rw [← hlo1] at HO3 HB3 HRN HRB2
          have HLO := Lib.hid (show W0.heap.size ≤ lo1 by rw [hlo1]; exact HT1.out.s)
          clear x0 y0 yf hw hw3 gal gw5 hat5 hlo T3 hg23 hxw hrow2 hO3 hB3 hrng hrngB hB1 hlo1 HT1 HT2 HO2 HB2 HG2 CB HB1 HO5 HG5 HA5 HVB hsm
          go_wp2_with fail
          go_loopw [12, 6] (fun s12 s6 wr2 => ∃ (i : Nat) (css : List Value), s12 = .int .i64 (i : Int) ∧ i ≤ L.length ∧ TrJ w #[.slice s0.A s0.n s0.c, .slice s1.A s1.n s1.c, .slice s2.A s2.n s2.c, .slice s3.A s3.n s3.c, .slice s4.A k s4.c, .slice s5.A s5.n s5.c] bw bT bL bX W0.heap.size (lostTo fs (t + 1)) (.slice A5 (t + 1) c5') s6 css (recsTo fs t ++ (L.take i).flatMap fun p => p.1.recs) wr2 ∧ wr2.ownsRow lo1 38 3 (.slice A2 L.length c2) L.length css2 ∧ BlksB wr2 lo1 B1 css2 (L.map (·.1)) ∧ B1 ≤ wr2.heap.size ∧ Rng lo1 B1 s6.ownBlock) (fun s12 _ _ => L.length - (intOf s12).toNat)
          case atStart => exact ⟨0, css, rfl, Nat.zero_le _, by simpa using HT3.out, HO3.out, HB3.out, HS2, HRN.out⟩
          case round =>
            clear HT3 HO3 HB3 HS2 HRN
            obtain ⟨i, css, rfl, hiL, T4, hO4, hB4, hS4, hR4⟩ := hrel
            obtain ⟨Av4, cv4, hv4, hn4, hm4, _, _⟩ := own_slice T4.own
            have HT4 := Lib.hid T4
            have HR4 := Lib.hid hR4
            have HO4 := Lib.hid hO4
            have HB4 := Lib.hid hB4
            by_cases hltL : i < L.length
            · obtain ⟨g2, cg2, x, Ax, nx, cx, hvx, hmc, hx, a0, a1, a2, hRB, hxn, hxm, hxo⟩ := blksB_get hO4 hB4 (by rw [List.length_map]) hltL
              injection hvx with hvA _ hvc
              have hLi : ∃ kk, L[i]? = some (x, kk) := by
                rw [List.getElem?_map] at hx
                obtain ⟨p, hp, rfl⟩ := Option.map_eq_some_iff.1 hx
                exact ⟨p.2, hp⟩
              obtain ⟨kk, hLi⟩ := hLi
              obtain ⟨news, hnl, hn1, hnr⟩ := hRB.src2 hS4
              have j1 : (i : Int) < (L.length : Int) := by omega
              have j0 : (0 : Int) ≤ (i : Int) := by omega
              obtain ⟨j9, hi8, hz0, hz1, hz2⟩ := info_parts info_rec
              have HI := Lib.hid hi8
              have HZ0 := Lib.hid hz0
              have HZ1 := Lib.hid hz1
              have HZ2 := Lib.hid hz2
              have hnx : nx ≤ 64 := by
                have h1 : (x, kk) ∈ blocksAll (t : Int) (fileAt fs t) 0 (-1) := by rw [← HL.out]; exact List.mem_of_getElem? hLi
                obtain ⟨b', _, hd⟩ := blocksAll_mem h1
                have := (decode_enc hd).2
                rw [← hRB.1]
                exact this
              have hrn : (recsTo fs t ++ (L.take i).flatMap fun p => p.1.recs).length ≤ 10000000 := by
                have h1 := recsTo_len fs t HLEN.out
                have h2 := recsOf_len t (fileAt fs t)
                have h3 : ((L.take i).flatMap fun p => p.1.recs).length ≤ (recsOf t (fileAt fs t)).length := by
                  unfold recsOf
                  rw [← HL.out]
                  conv => rhs; rw [← List.take_append_drop i L]
                  rw [List.flatMap_append, List.length_append]
                  omega
                have h4 := HFB.out
                rw [List.length_append]
                omega
              have HNL := Lib.hid hnl
              have HN1 := Lib.hid hn1
              have HNR := Lib.hid hnr
              have HXO := Lib.hid hxo
              have HLI := Lib.hid hLi
              have HRB := Lib.hid hRB
              have hsm : W0.heap.size ≤ wr.heap.size := T4.s
              obtain ⟨RN, hRN⟩ : ∃ RN, RN = (recsTo fs t ++ (L.take i).flatMap fun p => p.1.recs).length := ⟨_, rfl⟩
              have HRNN := Lib.hid hRN
              have hownRN := T4.own
              rw [← hRN] at hownRN
              rw [← hRN] at hv4 hn4 hrn
              rw [hv4] at hownRN
              have HOWNR := Lib.hid hownRN
              clear hownRN T4 hO4 hB4 hR4 hx hLi hi8 hz0 hz1 hz2 hnl hn1 hnr hxo hRB hRN
              subst hv4 hvA hvc
              go_wp2_with (at_builtin; refine wpList_join _ rfl (.tmp 54) (.tmp 59) _ rfl W0.heap.size 26 j9 _ 8 96 Try.underlying36 HI.out HZ0.out HZ1.out HZ2.out rfl (by omega) (.slice Av4 RN cv4) RN css rfl HOWNR.out B1 Ax nx cx news rfl HNL.out HXO.out HN1.out (by unfold maxLen; omega) (by omega) hsm ?_; intro v' w5 hown' hg' hat'; have HO5 := Lib.hid hown'; have HG5 := Lib.hid hg'; have HA5 := Lib.hid hat'; clear hown' hg' hat')
              have gw := HG5.out
              have hRNn : RN + nx = ((recsTo fs t ++ (L.take i).flatMap fun p => p.1.recs) ++ x.recs).length := by rw [List.length_append, ← HRNN.out, HRB.out.1]
              have hnext : (recsTo fs t ++ (L.take i).flatMap fun p => p.1.recs) ++ x.recs = recsTo fs t ++ (L.take (i + 1)).flatMap fun p => p.1.recs := by
                rw [List.take_add_one, HLI.out, List.flatMap_append, List.append_assoc]
                simp
              have T5 := HT4.out.next gw (by rw [← hRNn]; exact HO5.out) ((HNR.out W0.heap.size _ _ css _ HLO.out HR4.out HRB2.out HT4.out.rows).grow HG5.out HA5.out)
              rw [hnext] at T5
              go_roundw
              case rel => exact ⟨i + 1, _, by go_num, hltL, T5, own_keep HO4.out gw (fun g e1 e2 => by
                have h1 := (HO4.out.lt g e1).1
                rcases HR4.out g e2 with h2 | h2
                · omega
                · have := HOB.out g e1; omega), HB4.out.keep gw hS4 HR4.out, Nat.le_trans hS4 gw.size, fun g e => by
                rcases HA5.out with h | ⟨g', h, hge⟩
                · rw [h] at e; exact HR4.out g e
                · rw [h] at e; injection e with e; subst e
                  right; omega⟩
              case measure => simp [intOf]; omega
            · obtain rfl : i = L.length := by omega
              have T5 := HT4.out
              rw [List.take_length] at T5
              have hnext : recsTo fs t ++ L.flatMap (fun p => p.1.recs) = recsTo fs (t + 1) := by
                rw [recsTo_succ]
                unfold recsOf
                rw [← HL.out]
              rw [hnext] at T5
              have HT5 := Lib.hid T5
              clear T4 hO4 hB4 hR4 T5
              go_wp2_with fail
              go_roundw
              case rel => exact ⟨t + 1, _, _, by go_num, by omega, HT5.out⟩
              case measure => simp [intOf]; omega
      · obtain rfl : t = k := by omega
        have i1 : ¬ (t : Int) < (t : Int) := by omega
        subst hv6
        go_wp2_with fail
        go_meet
        case rel => exact ⟨_, _, HT1.out⟩
  case rest =>
    clear HT0
    obtain ⟨css, vB, T1⟩ := hcut
    have hal := recsTo_len fs k HLEN.out
    obtain ⟨Av, cv, hv6, hnv, _, _, _⟩ := own_slice T1.own
    have HT1 := Lib.hid T1
    obtain ⟨all, hall⟩ : ∃ all, all = recsTo fs k := ⟨_, rfl⟩
    have HALL := Lib.hid hall
    rw [← hall] at HT1 hal hv6 hnv
    have y0 : wc.cell? ⟨bw, 0, none⟩ = some (.slice s0.A s0.n s0.c) := T1.hw.cell 0
    have y1 : wc.cell? ⟨bw, 1, none⟩ = some (.slice s1.A s1.n s1.c) := T1.hw.cell 1
    have y2 : wc.cell? ⟨bw, 2, none⟩ = some (.slice s2.A s2.n s2.c) := T1.hw.cell 2
    have y3 : wc.cell? ⟨bw, 3, none⟩ = some (.slice s3.A s3.n s3.c) := T1.hw.cell 3
    have y4 : wc.cell? ⟨bw, 4, none⟩ = some (.slice s4.A k s4.c) := T1.hw.cell 4
    have y5 : wc.cell? ⟨bw, 5, none⟩ = some (.slice s5.A s5.n s5.c) := T1.hw.cell 5
    have hal2 : all.length ≤ 10000000 := by omega
    have hlw : W0.heap.size ≤ wc.heap.size := T1.s
    clear T1 hall
    subst hv6
    obtain ⟨W8, hW8⟩ : ∃ W8, W8 = wc.alloc (.cells #[.slice s0.A s0.n s0.c, .slice s1.A s1.n s1.c, .slice s2.A s2.n s2.c, .slice s3.A s3.n s3.c, .slice s4.A k s4.c, .slice s5.A s5.n s5.c, .slice none 0 0] 73) := ⟨_, rfl⟩
    have hb8 : Held W8 wc.heap.size 73 #[.slice s0.A s0.n s0.c, .slice s1.A s1.n s1.c, .slice s2.A s2.n s2.c, .slice s3.A s3.n s3.c, .slice s4.A k s4.c, .slice s5.A s5.n s5.c, .slice none 0 0] := by rw [hW8]; exact Held.new _ _ _
    have hs8 : W8.heap.size = wc.heap.size + 1 := by rw [hW8]; simp
    have hg8 : wc.grownBy W8 none := by rw [hW8]; exact World.grownBy_alloc _ _ none
    have HW8 := Lib.hid hW8
    have HB8 := Lib.hid hb8
    have HG8 := Lib.hid hg8
    have hle : wc.heap.size < W8.heap.size := by omega
    have HS8 := Lib.hid hs8
    clear hW8 hb8 hg8 hs8
    go_upto_region 16 with fail
    rw [show wc.alloc (.cells #[.slice s0.A s0.n s0.c, .slice s1.A s1.n s1.c, .slice s2.A s2.n s2.c, .slice s3.A s3.n s3.c, .slice s4.A k s4.c, .slice s5.A s5.n s5.c, .slice none 0 0] 73) = W8 from HW8.out.symm]
    clear y0 y1 y2 y3 y4 y5
    go_wp2_with fail
    go_loopw [14] (fun s14 wr => ∃ (n : Nat) (AE : Option Addr) (cE : Nat) (cssE : List Value), s14 = .int .i64 (n : Int) ∧ (∀ i : Nat, i < n → cnt all i = 1) ∧ (List.range n).map (fun i : Nat => evAt all (i : Int)) ++ trFrom all n = trAll all ∧ wr.ownsRow W8.heap.size 24 7 (.slice AE n cE) n cssE ∧ EvsB wr W0.heap.size wc.heap.size cssE ((List.range n).map fun i : Nat => evAt all (i : Int)) ∧ Held wr wc.heap.size 73 #[.slice s0.A s0.n s0.c, .slice s1.A s1.n s1.c, .slice s2.A s2.n s2.c, .slice s3.A s3.n s3.c, .slice s4.A k s4.c, .slice s5.A s5.n s5.c, .slice AE n cE] ∧ wc.grownBy wr none) (fun s14 _ => all.length + 1 - (intOf s14).toNat)
    case atStart => exact ⟨0, none, 0, [], rfl, fun i hi => by omega, rfl, World.ownsRow_nil _ _ _ _, EvsB.nil _ _ _, HB8.out, HG8.out⟩
    case round =>
      obtain ⟨n, AE, cE, cssE, rfl, hc1, hev, hown, hevs, hbb, hgr⟩ := hrel
      generalize hWn : wr = Wn at hown hevs hbb hgr ⊢
      clear hWn
      have hnl := once_le all n hc1
      have HC1 := Lib.hid hc1
      have HEV := Lib.hid hev
      have HOWN := Lib.hid hown
      have HEVS := Lib.hid hevs
      have HBB := Lib.hid hbb
      have HGR := Lib.hid hgr
      have TN := Lib.hid (HT1.out.keep hgr)
      clear hc1 hev hown hevs hbb hgr
      go_wp2_with fail
      go_loopw [15, 16, 17] (fun s15 s16 s17 wx => ∃ (i f a : Nat), s15 = .int .i64 (f : Int) ∧ s16 = .int .i64 (a : Int) ∧ s17 = .int .i64 (i : Int) ∧ i ≤ all.length ∧ f ≤ i ∧ Hid (f = cnt (all.take i) n) ∧ Hid (0 < f → ∃ r, all[a]? = some r ∧ r.seq = (n : Int)) ∧ Hid (wx = Wn)) (fun _ _ s17 _ => all.length - (intOf s17).toNat)
      case atStart => exact ⟨0, 0, 0, rfl, rfl, rfl, Nat.zero_le _, Nat.le_refl _, Lib.hid rfl, Lib.hid (fun h => by omega), Lib.hid rfl⟩
      case round =>
        obtain ⟨i, f, a, rfl, rfl, rfl, hil, hfi, HF1, HA1, HWX⟩ := hrel
        by_cases hlt : i < all.length
        · have T2 := TN.out
          rw [← HWX.out] at T2
          obtain ⟨g, c, r, _, _, _, _, _, _, hv, hmc, hr, hcells, _⟩ := row_get T2.own T2.rows.rows rfl hlt
          injection hv with hvA _ hvc
          have x0 : wr.cell? ⟨g, i * 8, none⟩ = some (.int .i64 r.seq) := hcells 0 _ rfl
          have j0 : (0 : Int) ≤ (i : Int) := by omega
          have j1 : (i : Int) < (all.length : Int) := by omega
          have HR := Lib.hid hr
          clear T2 hcells hr
          subst hvA hvc
          have hcn : cnt (all.take (i + 1)) n = cnt (all.take i) n + (if r.seq = (n : Int) then 1 else 0) := by
            unfold cnt
            rw [List.take_add_one, HR.out, List.countP_append]
            simp
          have HCN := Lib.hid hcn
          clear hcn
          by_cases hrn : r.seq = (n : Int)
          · have b1 : (r.seq == (n : Int)) = true := by simp [hrn]
            have HRN := Lib.hid hrn
            clear hrn
            go_wp2_with fail
            go_roundw
            case rel => exact ⟨i + 1, f + 1, i, by go_num, rfl, by go_num, by omega, by omega, Lib.hid (by rw [HCN.out, if_pos HRN.out, HF1.out]), Lib.hid (fun _ => ⟨r, HR.out, HRN.out⟩), HWX⟩
            case measure => simp [intOf]; omega
          · have b1 : (r.seq == (n : Int)) = false := by simp [hrn]
            have HRN := Lib.hid hrn
            clear hrn
            go_wp2_with fail
            go_roundw
            case rel => exact ⟨i + 1, f, a, rfl, rfl, by go_num, by omega, by omega, Lib.hid (by rw [HCN.out, if_neg HRN.out, HF1.out]; rfl), HA1, HWX⟩
            case measure => simp [intOf]; omega
        · obtain rfl : i = all.length := by omega
          have hfc : f = cnt all n := by have := HF1.out; rwa [List.take_length] at this
          have HFC := Lib.hid hfc
          have z1 : ¬ (all.length : Int) < (all.length : Int) := by omega
          have hwxn : wr = Wn := HWX.out
          subst hwxn
          clear hfc HF1 HWX
          by_cases hf1 : f = 1
          · have b1 : ((f : Int) != 1) = false := by simp; omega
            obtain ⟨r0, hra, hrn⟩ := HA1.out (by omega)
            have hal1 : a < all.length := (List.getElem?_eq_some_iff.1 hra).1
            obtain ⟨g, c, r, Ad, nd, cd, Af, nf, cf, hv, hmc, hr, hcells, hrow⟩ := row_get HT1.out.own HT1.out.rows.rows rfl hal1
            have hrr : r0 = r := by rw [hra] at hr; exact Option.some.inj hr
            subst hrr
            obtain ⟨r, hr0⟩ : ∃ r, r = r0 := ⟨_, rfl⟩
            subst hr0
            injection hv with hvA _ hvc
            have HCL := Lib.hid (fun j u (hu : (recV r Ad nd cd Af nf cf)[j]? = some u) => HGR.out.cell (hcells j u hu) (fun e => nomatch e))
            have HROW := Lib.hid hrow
            have HCN : Hid (cnt all n = 1) := Lib.hid (by rw [← HFC.out]; exact hf1)
            have HEA : Hid (evAt all n = r.ev) := Lib.hid (evAt_of HCN.out (List.mem_of_getElem? hra) hrn)
            have HC2 : Hid (∀ i : Nat, i < n + 1 → cnt all i = 1) := Lib.hid (fun i hi => by
              rcases Nat.lt_or_eq_of_le (Nat.le_of_lt_succ hi) with h | h
              · exact HC1.out i h
              · rw [h]; exact HCN.out)
            have hn2 : n + 1 ≤ all.length := once_le all (n + 1) HC2.out
            have j0 : (0 : Int) ≤ (a : Int) := by omega
            have j1 : (a : Int) < (all.length : Int) := by omega
            obtain ⟨W9, hW9⟩ : ∃ W9, W9 = (wr.alloc (.cells #[.int .i64 r.ev.thread, .int .i64 r.ev.kind, .int .i64 r.ev.obj, .int .i64 r.ev.value, .int .i64 r.ev.site, .slice Ad nd cd, .slice Af nf cf] 24)).drew := ⟨_, rfl⟩
            have HGA : Hid (wr.grownBy (wr.alloc (.cells #[.int .i64 r.ev.thread, .int .i64 r.ev.kind, .int .i64 r.ev.obj, .int .i64 r.ev.value, .int .i64 r.ev.site, .slice Ad nd cd, .slice Af nf cf] 24)).drew none) := Lib.hid (grown_toDrew (World.grownBy_alloc wr _ none))
            have hbl : wc.heap.size < wr.heap.size := HBB.out.lt
            have HS9 : Hid (∀ W', wr.grownBy W' none → (fun w' => w'.cell? ⟨wc.heap.size, 6, none⟩ = some (.slice AE n cE) ∧ w'.cell? ⟨g, a * 8 + 1, none⟩ = some (.int .i64 r.ev.thread) ∧ w'.cell? ⟨g, a * 8 + 2, none⟩ = some (.int .i64 r.ev.kind) ∧ w'.cell? ⟨g, a * 8 + 3, none⟩ = some (.int .i64 r.ev.obj) ∧ w'.cell? ⟨g, a * 8 + 4, none⟩ = some (.int .i64 r.ev.value) ∧ w'.cell? ⟨g, a * 8 + 5, none⟩ = some (.int .i64 r.ev.site) ∧ w'.cell? ⟨g, a * 8 + 6, none⟩ = some (.slice Ad nd cd) ∧ w'.cell? ⟨g, a * 8 + 7, none⟩ = some (.slice Af nf cf)) W') := Lib.hid (fun W' hg => ⟨(HBB.out.grown hg (fun e => nomatch e)).cell 6, hg.cell (HCL.out 1 _ rfl) (fun e => nomatch e), hg.cell (HCL.out 2 _ rfl) (fun e => nomatch e), hg.cell (HCL.out 3 _ rfl) (fun e => nomatch e), hg.cell (HCL.out 4 _ rfl) (fun e => nomatch e), hg.cell (HCL.out 5 _ rfl) (fun e => nomatch e), hg.cell (HCL.out 6 _ rfl) (fun e => nomatch e), hg.cell (HCL.out 7 _ rfl) (fun e => nomatch e)⟩)
            have HNE : Hid (∀ x, (Value.slice AE n cE).ownBlock = some x → x ≠ wc.heap.size ∧ x ≠ g) := Lib.hid (fun x hx => by
              have h1 := (HOWN.out.lt x hx).1
              have h2 := hrow
              have h3 : g < wc.heap.size := by have := HT1.out.own.lt g (by rw [hvA]; rfl); exact this.2
              omega)
            have HZB : Hid (∀ W', (wr.alloc (.cells #[.int .i64 r.ev.thread, .int .i64 r.ev.kind, .int .i64 r.ev.obj, .int .i64 r.ev.value, .int .i64 r.ev.site, .slice Ad nd cd, .slice Af nf cf] 24)).drew.grownBy W' (Value.slice AE n cE).ownBlock → Held W' wc.heap.size 73 #[.slice s0.A s0.n s0.c, .slice s1.A s1.n s1.c, .slice s2.A s2.n s2.c, .slice s3.A s3.n s3.c, .slice s4.A k s4.c, .slice s5.A s5.n s5.c, .slice AE n cE]) := Lib.hid (fun W' hg => (HBB.out.grown HGA.out (fun e => nomatch e)).grown hg (fun e => (HNE.out _ e.symm).1 rfl))
            have HS10 : Hid (∀ W', (wr.alloc (.cells #[.int .i64 r.ev.thread, .int .i64 r.ev.kind, .int .i64 r.ev.obj, .int .i64 r.ev.value, .int .i64 r.ev.site, .slice Ad nd cd, .slice Af nf cf] 24)).drew.grownBy W' (Value.slice AE n cE).ownBlock → (fun w' => w'.cell? ⟨wc.heap.size, 6, none⟩ = some (.slice AE n cE) ∧ w'.cell? ⟨g, a * 8 + 1, none⟩ = some (.int .i64 r.ev.thread) ∧ w'.cell? ⟨g, a * 8 + 2, none⟩ = some (.int .i64 r.ev.kind) ∧ w'.cell? ⟨g, a * 8 + 3, none⟩ = some (.int .i64 r.ev.obj) ∧ w'.cell? ⟨g, a * 8 + 4, none⟩ = some (.int .i64 r.ev.value) ∧ w'.cell? ⟨g, a * 8 + 5, none⟩ = some (.int .i64 r.ev.site) ∧ w'.cell? ⟨g, a * 8 + 6, none⟩ = some (.slice Ad nd cd) ∧ w'.cell? ⟨g, a * 8 + 7, none⟩ = some (.slice Af nf cf)) W') := Lib.hid (fun W' hg => by
              have k := HS9.out _ HGA.out
              have hh : ∀ {j : Nat} {u : Value}, (wr.alloc (.cells #[.int .i64 r.ev.thread, .int .i64 r.ev.kind, .int .i64 r.ev.obj, .int .i64 r.ev.value, .int .i64 r.ev.site, .slice Ad nd cd, .slice Af nf cf] 24)).drew.cell? ⟨g, j, none⟩ = some u → W'.cell? ⟨g, j, none⟩ = some u := fun h => hg.cell h (fun e => (HNE.out _ e.symm).2 rfl)
              exact ⟨(HZB.out W' hg).cell 6, hh k.2.1, hh k.2.2.1, hh k.2.2.2.1, hh k.2.2.2.2.1, hh k.2.2.2.2.2.1, hh k.2.2.2.2.2.2.1, hh k.2.2.2.2.2.2.2⟩)
            have HZF : Hid (∀ W', (wr.alloc (.cells #[.int .i64 r.ev.thread, .int .i64 r.ev.kind, .int .i64 r.ev.obj, .int .i64 r.ev.value, .int .i64 r.ev.site, .slice Ad nd cd, .slice Af nf cf] 24)).drew.grownBy W' (Value.slice AE n cE).ownBlock → W'.frozen? ⟨wc.heap.size, 6, none⟩ = false) := Lib.hid (fun W' hg => (HZB.out W' hg).free 6)
            have HOBA : Hid ((wr.alloc (.cells #[.int .i64 r.ev.thread, .int .i64 r.ev.kind, .int .i64 r.ev.obj, .int .i64 r.ev.value, .int .i64 r.ev.site, .slice Ad nd cd, .slice Af nf cf] 24)).drew.ownsRow W8.heap.size 24 7 (.slice AE n cE) n cssE) := Lib.hid (own_keep HOWN.out HGA.out (fun _ _ e => nomatch e))
            have HRL : Hid (Lies (wr.alloc (.cells #[.int .i64 r.ev.thread, .int .i64 r.ev.kind, .int .i64 r.ev.obj, .int .i64 r.ev.value, .int .i64 r.ev.site, .slice Ad nd cd, .slice Af nf cf] 24)).drew (wr.alloc (.cells #[.int .i64 r.ev.thread, .int .i64 r.ev.kind, .int .i64 r.ev.obj, .int .i64 r.ev.value, .int .i64 r.ev.site, .slice Ad nd cd, .slice Af nf cf] 24)).drew.heap.size 7 (some ⟨wr.heap.size, 0, none⟩) 1 (#[.int .i64 r.ev.thread, .int .i64 r.ev.kind, .int .i64 r.ev.obj, .int .i64 r.ev.value, .int .i64 r.ev.site, .slice Ad nd cd, .slice Af nf cf] : Array Value).toList) := Lib.hid ⟨rfl, fun _ => ⟨_, rfl, by simp, fun j u hu => cells_new wr 24 #[.int .i64 r.ev.thread, .int .i64 r.ev.kind, .int .i64 r.ev.obj, .int .i64 r.ev.value, .int .i64 r.ev.site, .slice Ad nd cd, .slice Af nf cf] j u hu⟩⟩
            have HO1 : Hid (∀ u ∈ (#[.int .i64 r.ev.thread, .int .i64 r.ev.kind, .int .i64 r.ev.obj, .int .i64 r.ev.value, .int .i64 r.ev.site, .slice Ad nd cd, .slice Af nf cf] : Array Value).toList, u.oneCell' = true) := Lib.hid (evV_one r.ev Ad nd cd Af nf cf)
            have HSZ : Hid (W8.heap.size ≤ wr.heap.size) := Lib.hid (by have := HBB.out.lt; have := HS8.out; omega)
            obtain ⟨j0', hi, hz0, hz1, hz2⟩ := info_parts info_ev
            obtain ⟨j0, hj0⟩ : ∃ j0, j0 = j0' := ⟨_, rfl⟩
            subst hj0
            have HI0 := Lib.hid hi
            have HZ0 := Lib.hid hz0
            have HZ1 := Lib.hid hz1
            have HZ2 := Lib.hid hz2
            have hz : (0 : Nat) < 7 := by omega
            clear hW9 W9 hra hrn hr hcells hrow hi hz0 hz1 hz2 hf1
            subst hvA hvc
            go_upto_region 28 with fail
            refine wp_region_E (z := 10) (S := fun w' => w'.cell? ⟨wc.heap.size, 6, none⟩ = some (.slice AE n cE) ∧ w'.cell? ⟨g, a * 8 + 1, none⟩ = some (.int .i64 r.ev.thread) ∧ w'.cell? ⟨g, a * 8 + 2, none⟩ = some (.int .i64 r.ev.kind) ∧ w'.cell? ⟨g, a * 8 + 3, none⟩ = some (.int .i64 r.ev.obj) ∧ w'.cell? ⟨g, a * 8 + 4, none⟩ = some (.int .i64 r.ev.value) ∧ w'.cell? ⟨g, a * 8 + 5, none⟩ = some (.int .i64 r.ev.site) ∧ w'.cell? ⟨g, a * 8 + 6, none⟩ = some (.slice Ad nd cd) ∧ w'.cell? ⟨g, a * 8 + 7, none⟩ = some (.slice Af nf cf)) (by kernel_rfl) (by exact HS9.out _ (grown_toDrew (World.grownBy.refl wr none))) (fun hHeld => ?_)
            refine wpAnyE_take (i := 0) (oi := ⟨some 90, _, _, _, _, _⟩) (v := ?_) rfl (by kernel_rfl) (by kernel_rfl) (by kernel_rfl) (by kernel_rfl) (fun _ _ _ h => h) (Or.inl ⟨by rfl, ?_⟩) (by assumption) ?_
            rotate_left
            · intro w hSw; (try dsimp only at hSw); go_simp; (try with_reducible rfl)
            try simp only [Act.put, List.setIfInBounds_toArray, List.set_cons_zero, List.set_cons_succ]
            refine wpAnyE_take (i := 1) (oi := ⟨some 91, _, _, _, _, _⟩) (v := ?_) rfl (by kernel_rfl) (by kernel_rfl) (by kernel_rfl) (by kernel_rfl) (fun _ _ _ h => h) (Or.inl ⟨by rfl, ?_⟩) (by assumption) ?_
            rotate_left
            · intro w hSw; (try dsimp only at hSw); go_simp; (try with_reducible rfl)
            try simp only [Act.put, List.setIfInBounds_toArray, List.set_cons_zero, List.set_cons_succ]
            refine wpAnyE_take (i := 2) (oi := ⟨some 92, _, _, _, _, _⟩) (v := ?_) rfl (by kernel_rfl) (by kernel_rfl) (by kernel_rfl) (by kernel_rfl) (fun _ _ _ h => h) (Or.inl ⟨by rfl, ?_⟩) (by assumption) ?_
            rotate_left
            · intro w hSw; (try dsimp only at hSw); go_simp; (try with_reducible rfl)
            try simp only [Act.put, List.setIfInBounds_toArray, List.set_cons_zero, List.set_cons_succ]
            refine wpAnyE_take (i := 3) (oi := ⟨some 93, _, _, _, _, _⟩) (v := ?_) rfl (by kernel_rfl) (by kernel_rfl) (by kernel_rfl) (by kernel_rfl) (fun _ _ _ h => h) (Or.inl ⟨by rfl, ?_⟩) (by assumption) ?_
            rotate_left
            · intro w hSw; (try dsimp only at hSw); go_simp; (try with_reducible rfl)
            try simp only [Act.put, List.setIfInBounds_toArray, List.set_cons_zero, List.set_cons_succ]
            refine wpAnyE_take (i := 4) (oi := ⟨some 94, _, _, _, _, _⟩) (v := ?_) rfl (by kernel_rfl) (by kernel_rfl) (by kernel_rfl) (by kernel_rfl) (fun _ _ _ h => h) (Or.inl ⟨by rfl, ?_⟩) (by assumption) ?_
            rotate_left
            · intro w hSw; (try dsimp only at hSw); go_simp; (try with_reducible rfl)
            try simp only [Act.put, List.setIfInBounds_toArray, List.set_cons_zero, List.set_cons_succ]
            refine wpAnyE_take (i := 5) (oi := ⟨some 95, _, _, _, _, _⟩) (v := ?_) rfl (by kernel_rfl) (by kernel_rfl) (by kernel_rfl) (by kernel_rfl) (fun _ _ _ h => h) (Or.inl ⟨by rfl, ?_⟩) (by assumption) ?_
            rotate_left
            · intro w hSw; (try dsimp only at hSw); go_simp; (try with_reducible rfl)
            try simp only [Act.put, List.setIfInBounds_toArray, List.set_cons_zero, List.set_cons_succ]
            refine wpAnyE_take (i := 6) (oi := ⟨some 96, _, _, _, _, _⟩) (v := ?_) rfl (by kernel_rfl) (by kernel_rfl) (by kernel_rfl) (by kernel_rfl) (fun _ _ _ h => h) (Or.inl ⟨by rfl, ?_⟩) (by assumption) ?_
            rotate_left
            · intro w hSw; (try dsimp only at hSw); go_simp; (try with_reducible rfl)
            try simp only [Act.put, List.setIfInBounds_toArray, List.set_cons_zero, List.set_cons_succ]
            refine wpAnyE_one (i := 7) (o := ⟨some 97, _, _, _, _, _⟩) (by kernel_rfl) rfl (fun K hK => ?_)
            rw [if_pos (by rfl)]
            go_simp
            refine hK.out _ _ (by with_reducible exact HS9.out _ (grown_toDrew (World.grownBy_alloc wr _ none))) (fun hHeld2 => ?_)
            clear hK K hHeld
            have hHeld := hHeld2
            clear hHeld2
            try simp only [Act.put, List.setIfInBounds_toArray, List.set_cons_zero, List.set_cons_succ]
            refine wpAnyE_one (i := 8) (o := ⟨some 98, _, _, _, _, _⟩) (by kernel_rfl) rfl (fun K hK => ?_)
            refine step_join (o := ⟨some 98, _, _, _, _, _⟩) _ (by rfl) (.tmp 91) (.tmp 97) _ (by rfl) W8.heap.size 24 j0 _ 7 88 Try.underlying44 HI0.out HZ0.out HZ1.out HZ2.out (by rfl) hz _ n cssE (by rfl) HOBA.out _ (some ⟨wr.heap.size, 0, none⟩) 1 1 (#[.int .i64 r.ev.thread, .int .i64 r.ev.kind, .int .i64 r.ev.obj, .int .i64 r.ev.value, .int .i64 r.ev.site, .slice Ad nd cd, .slice Af nf cf] : Array Value).toList (by rfl) HRL.out (by intro h; nomatch h) HO1.out (by unfold maxLen; omega) (by omega) (Nat.le_trans HSZ.out HGA.out.size) ?_
            intro v4 w4 hown4 hg4 hat4
            obtain ⟨A4, k4, hv4, _⟩ := own_slice hown4
            subst hv4
            refine hK.out _ _ (by exact HS10.out _ hg4) (fun hHeld2 => ?_)
            clear hK K hHeld
            have hHeld := hHeld2
            clear hHeld2
            try simp only [Act.put, List.setIfInBounds_toArray, List.set_cons_zero, List.set_cons_succ]
            refine wpAnyE_take (i := 9) (oi := ⟨some 99, _, _, _, _, _⟩) (v := ?_) rfl (by kernel_rfl) (by kernel_rfl) (by kernel_rfl) (by kernel_rfl) (fun _ _ _ h => h) (Or.inl ⟨by rfl, ?_⟩) (by assumption) ?_
            rotate_left
            · intro w hSw; (try dsimp only at hSw); go_simp; (try with_reducible rfl)
            try simp only [Act.put, List.setIfInBounds_toArray, List.set_cons_zero, List.set_cons_succ]
            refine wpAnyE_last (o := ⟨none, _, _, _, _, _⟩) (by kernel_rfl) rfl (fun K hK => ?_)
            rw [if_pos (by rfl)]
            have qz := HZF.out _ hg4
            have qc : w4.cell? ⟨wc.heap.size, 6, none⟩ = some (.slice AE n cE) := hHeld.1
            go_simp
            refine hK.out _ _ ?_
            clear hK K
            try simp only [Act.put, List.setIfInBounds_toArray, List.set_cons_zero, List.set_cons_succ]
            refine wpAnyE_done (by kernel_rfl) ?_ _
            have G5 : wr.grownBy w4 (Value.slice AE n cE).ownBlock := grownBy_trans (grown_anyRow HGA.out _) hg4 (.inl rfl)
            have gs := grown_store w4 wc.heap.size 6 (.slice A4 (n + 1) k4)
            have hBw : wc.heap.size ≤ wr.heap.size := HGR.out.size
            have hrg : Rng W0.heap.size wc.heap.size (Value.slice AE n cE).ownBlock := fun x e => .inr (by have := (HOWN.out.lt x e).1; omega)
            have hrg2 : Rng W0.heap.size wc.heap.size (some wc.heap.size) := fun x e => .inr (by injection e with e; omega)
            have hnx : (List.range (n + 1)).map (fun i : Nat => evAt all (i : Int)) = (List.range n).map (fun i : Nat => evAt all (i : Int)) ++ [r.ev] := by
              rw [List.range_succ, List.map_append]
              simp [HEA.out]
            have hE := (((HEVS.out.keep G5 hBw hrg).snoc (r := r.ev) (Ad := Ad) (nd := nd) (cd := cd) (Af := Af) (nf := nf) (cf := cf)
              (lies_keepB (lies_keepB HROW.out.ld HROW.out.lod HGR.out (Nat.le_refl _) (Rng.none _ _)) HROW.out.lod G5 hBw hrg) (lies_keepB (lies_keepB HROW.out.lf HROW.out.lof HGR.out (Nat.le_refl _) (Rng.none _ _)) HROW.out.lof G5 hBw hrg) HROW.out.lod HROW.out.lof).keep gs (Nat.le_trans hBw G5.size) hrg2)
            rw [← hnx] at hE
            have hb6 : Held (w4.setCell ⟨wc.heap.size, 6, none⟩ (.slice A4 (n + 1) k4)) wc.heap.size 73 #[.slice s0.A s0.n s0.c, .slice s1.A s1.n s1.c, .slice s2.A s2.n s2.c, .slice s3.A s3.n s3.c, .slice s4.A k s4.c, .slice s5.A s5.n s5.c, .slice A4 (n + 1) k4] := (HZB.out w4 hg4).store 6 (.slice A4 (n + 1) k4)
            have hown6 := own_keep hown4 gs (fun x e1 e2 => by injection e2 with e2; have := (hown4.lt x e1).1; omega)
            have hg9 : wc.grownBy (w4.setCell ⟨wc.heap.size, 6, none⟩ (.slice A4 (n + 1) k4)) none := grownBy_trans (gr_row2 HGR.out G5 (fun x e => by have := (HOWN.out.lt x e).1; omega)) gs (.inr ⟨_, rfl, Nat.le_refl _⟩)
            have hev2 : (List.range (n + 1)).map (fun i : Nat => evAt all (i : Int)) ++ trFrom all (n + 1) = trAll all := by
              rw [hnx, ← HEV.out, trFrom_one HC1.out HCN.out, HEA.out, List.append_assoc]
              rfl
            have HE := Lib.hid hE
            have HB6 := Lib.hid hb6
            have HO6 := Lib.hid hown6
            have HG9 := Lib.hid hg9
            have HEV2 := Lib.hid hev2
            clear G5 gs hBw hrg hrg2 hnx hE hb6 hown6 hg9 hev2 hg4 hown4 hHeld qz qc
            go_wp2_with fail
            go_roundw
            case rel => exact ⟨n + 1, A4, k4, _, by go_num, HC2.out, HEV2.out, HO6.out, HE.out, HB6.out, HG9.out⟩
            case measure => simp [intOf]; omega
          · have b1 : ((f : Int) != 1) = true := by simp; omega
            have TN' := TN.out
            obtain ⟨AB, cB, hvB, hnB, hmB, _, _⟩ := own_slice TN'.ownB
            rw [lostTo_len] at hvB hnB
            have hr1 : wr.cell? ⟨bX, 1, none⟩ = some (.int .i64 0) := TN'.hX.cell 1
            have hr2 : wr.frozen? ⟨bX, 1, none⟩ = false := TN'.hX.free 1
            have hw1 : IntKind.i64.wrap ((all.length : Int) - (n : Int)) = (all.length : Int) - (n : Int) := IntWalk.i64_in _ (by omega)
            have HSTOP := Lib.hid (trFrom_stop (l := all) (n := n) (by rw [← HFC.out]; exact hf1))
            clear TN' hf1
            go_upto_region 27 with fail
            obtain ⟨wx, hwx⟩ : ∃ wx, wx = wr.setCell ⟨bX, 1, none⟩ (.int .i64 ((all.length : Int) - (n : Int))) := ⟨_, rfl⟩
            rw [← hwx]
            have gx : wr.grownBy wx (some bX) := by rw [hwx]; exact grown_store _ _ _ _
            have hxlt := HT1.out.hX.lt
            have dT : Held wx wc.heap.size 73 #[.slice s0.A s0.n s0.c, .slice s1.A s1.n s1.c, .slice s2.A s2.n s2.c, .slice s3.A s3.n s3.c, .slice s4.A k s4.c, .slice s5.A s5.n s5.c, .slice AE n cE] := HBB.out.grown gx (fun e => by injection e with e; omega)
            have dX : Held wx bX 75 #[.slice AB k cB, .int .i64 ((all.length : Int) - (n : Int))] := by
              rw [hwx]
              have := TN.out.hX.store 1 (.int .i64 ((all.length : Int) - (n : Int)))
              rw [hvB] at this
              exact this
            have dTr : Held wx bT 73 #[.slice none 0 0, .slice none 0 0, .slice none 0 0, .slice none 0 0, .slice none 0 0, .slice none 0 0, .slice none 0 0] := TN.out.hT.grown gx (fun e => by injection e with e; omega)
            have dLr : Held wx bL 75 #[.slice none 0 0, .int .i64 0] := TN.out.hL.grown gx (fun e => by injection e with e; omega)
            have e0 : wx.cell? ⟨wc.heap.size, 0, none⟩ = some (.slice s0.A s0.n s0.c) := dT.cell 0
            have e1 : wx.cell? ⟨wc.heap.size, 1, none⟩ = some (.slice s1.A s1.n s1.c) := dT.cell 1
            have e2 : wx.cell? ⟨wc.heap.size, 2, none⟩ = some (.slice s2.A s2.n s2.c) := dT.cell 2
            have e3 : wx.cell? ⟨wc.heap.size, 3, none⟩ = some (.slice s3.A s3.n s3.c) := dT.cell 3
            have e4 : wx.cell? ⟨wc.heap.size, 4, none⟩ = some (.slice s4.A k s4.c) := dT.cell 4
            have e5 : wx.cell? ⟨wc.heap.size, 5, none⟩ = some (.slice s5.A s5.n s5.c) := dT.cell 5
            have e6 : wx.cell? ⟨wc.heap.size, 6, none⟩ = some (.slice AE n cE) := dT.cell 6
            have l0 : wx.cell? ⟨bX, 0, none⟩ = some (.slice AB k cB) := dX.cell 0
            have l1 : wx.cell? ⟨bX, 1, none⟩ = some (.int .i64 ((all.length : Int) - (n : Int))) := dX.cell 1
            have t0 : wx.cell? ⟨bT, 0, none⟩ = some (.slice none 0 0) := dTr.cell 0
            have tf0 : wx.frozen? ⟨bT, 0, none⟩ = false := dTr.free 0
            have t1 : wx.cell? ⟨bT, 1, none⟩ = some (.slice none 0 0) := dTr.cell 1
            have tf1 : wx.frozen? ⟨bT, 1, none⟩ = false := dTr.free 1
            have t2 : wx.cell? ⟨bT, 2, none⟩ = some (.slice none 0 0) := dTr.cell 2
            have tf2 : wx.frozen? ⟨bT, 2, none⟩ = false := dTr.free 2
            have t3 : wx.cell? ⟨bT, 3, none⟩ = some (.slice none 0 0) := dTr.cell 3
            have tf3 : wx.frozen? ⟨bT, 3, none⟩ = false := dTr.free 3
            have t4 : wx.cell? ⟨bT, 4, none⟩ = some (.slice none 0 0) := dTr.cell 4
            have tf4 : wx.frozen? ⟨bT, 4, none⟩ = false := dTr.free 4
            have t5 : wx.cell? ⟨bT, 5, none⟩ = some (.slice none 0 0) := dTr.cell 5
            have tf5 : wx.frozen? ⟨bT, 5, none⟩ = false := dTr.free 5
            have t6 : wx.cell? ⟨bT, 6, none⟩ = some (.slice none 0 0) := dTr.cell 6
            have tf6 : wx.frozen? ⟨bT, 6, none⟩ = false := dTr.free 6
            have r0 : wx.cell? ⟨bL, 0, none⟩ = some (.slice none 0 0) := dLr.cell 0
            have r1 : wx.cell? ⟨bL, 1, none⟩ = some (.int .i64 0) := dLr.cell 1
            have rf0 : wx.frozen? ⟨bL, 0, none⟩ = false := dLr.free 0
            have rf1 : wx.frozen? ⟨bL, 1, none⟩ = false := dLr.free 1
            have hTL : ¬ bT = bL := by omega
            have hLT : ¬ bL = bT := by omega
            have HDT := Lib.hid dTr
            have HDL := Lib.hid dLr
            have HWX := Lib.hid hwx
            have HVB := Lib.hid hvB
            have hlwr : wc.heap.size ≤ wr.heap.size := HGR.out.size
            clear hwx gx dT dX dTr dLr hr1 hr2 hvB
            go_region
            have hCPT : ∀ W W' lo B row us, (fun (_ : World) (_ _ : Nat) (us : List Sl) => us = [s0, s1, s2, s3, s4, s5]) W lo B us → W.grownBy W' row → B ≤ W.heap.size → Rng lo B row → (fun (_ : World) (_ _ : Nat) (us : List Sl) => us = [s0, s1, s2, s3, s4, s5]) W' lo B us := fun _ _ _ _ _ _ h _ _ _ => h
            have K0 : TrK2 (fun _ _ _ us => us = [s0, s1, s2, s3, s4, s5]) w W0.heap.size wc.heap.size W0.heap.size wc.heap.size W8.heap.size vB [s0, s1, s2, s3, s4, s5] (lostTo fs k) (.slice AE n cE) n cssE ((List.range n).map fun i : Nat => evAt all (i : Int)) wr := ⟨TN.out.gr, rfl, hlwr, HOWN.out, HEVS.out, hlwr, TN.out.ownB⟩
            have K1 : TrK2 (fun _ _ _ us => us = [s0, s1, s2, s3, s4, s5]) w W0.heap.size wc.heap.size W0.heap.size wc.heap.size W8.heap.size vB [s0, s1, s2, s3, s4, s5] (lostTo fs k) (.slice AE n cE) n cssE ((List.range n).map fun i : Nat => evAt all (i : Int)) wx := by
              rw [HWX.out]
              exact K0.step hCPT bX 1 _ (by omega) (by omega) (by omega) trivial (by omega)
            have KK := tr_stores2 hCPT K1 (.slice none 0 0) (.slice s0.A s0.n s0.c) (.slice s1.A s1.n s1.c) (.slice s2.A s2.n s2.c) (.slice s3.A s3.n s3.c) (.slice s4.A k s4.c) (.slice s5.A s5.n s5.c) (.slice AE n cE) (.slice none 0 0) (.int .i64 0) (.slice AB k cB) (.int .i64 ((all.length : Int) - (n : Int))) HDT.out HDL.out ⟨by omega, by omega, by omega, trivial, by omega⟩ ⟨by omega, by omega, by omega, trivial, by omega⟩ (by omega)
            obtain ⟨W9, hW9⟩ : ∃ W9, W9 = (((((((((wx.setCell ⟨bT, 0, none⟩ (.slice s0.A s0.n s0.c)).setCell ⟨bT, 1, none⟩ (.slice s1.A s1.n s1.c)).setCell ⟨bT, 2, none⟩ (.slice s2.A s2.n s2.c)).setCell ⟨bT, 3, none⟩ (.slice s3.A s3.n s3.c)).setCell ⟨bT, 4, none⟩ (.slice s4.A k s4.c)).setCell ⟨bT, 5, none⟩ (.slice s5.A s5.n s5.c)).setCell ⟨bT, 6, none⟩ (.slice AE n cE)).setCell ⟨bL, 0, none⟩ (.slice AB k cB)).setCell ⟨bL, 1, none⟩ (.int .i64 ((all.length : Int) - (n : Int)))).drew := ⟨_, rfl⟩
            rw [← hW9] at KK ⊢
            obtain ⟨K9, q7, p2⟩ := KK
            have d0 : W9.cell? ⟨bT, 0, none⟩ = some (.slice s0.A s0.n s0.c) := q7.cell 0
            have d1 : W9.cell? ⟨bT, 1, none⟩ = some (.slice s1.A s1.n s1.c) := q7.cell 1
            have d2 : W9.cell? ⟨bT, 2, none⟩ = some (.slice s2.A s2.n s2.c) := q7.cell 2
            have d3 : W9.cell? ⟨bT, 3, none⟩ = some (.slice s3.A s3.n s3.c) := q7.cell 3
            have d4 : W9.cell? ⟨bT, 4, none⟩ = some (.slice s4.A k s4.c) := q7.cell 4
            have d5 : W9.cell? ⟨bT, 5, none⟩ = some (.slice s5.A s5.n s5.c) := q7.cell 5
            have d6 : W9.cell? ⟨bT, 6, none⟩ = some (.slice AE n cE) := q7.cell 6
            have f0 : W9.cell? ⟨bL, 0, none⟩ = some (.slice AB k cB) := p2.cell 0
            have f1 : W9.cell? ⟨bL, 1, none⟩ = some (.int .i64 ((all.length : Int) - (n : Int))) := p2.cell 1
            have HK9 := Lib.hid K9
            clear hW9 q7 p2 K9 K1 K0 hCPT e0 e1 e2 e3 e4 e5 e6 l0 l1 t0 t1 t2 t3 t4 t5 t6 tf0 tf1 tf2 tf3 tf4 tf5 tf6 r0 r1 rf0 rf1
            go_wp2_with fail
            refine bodyPost_ret (v := .tuple #[.agg #[.slice s0.A s0.n s0.c, .slice s1.A s1.n s1.c, .slice s2.A s2.n s2.c, .slice s3.A s3.n s3.c, .slice s4.A k s4.c, .slice s5.A s5.n s5.c, .slice AE n cE], .agg #[.slice AB k cB, .int .i64 ((all.length : Int) - (n : Int))]]) (by simp [results, Try.results32, go_sem, d0, d1, d2, d3, d4, d5, d6, f0, f1]) rfl ?_
            have K9 := HK9.out
            have hE : (List.range n).map (fun i : Nat => evAt all (i : Int)) = trAll (recsTo fs k) := by
              have := HEV.out
              rw [HSTOP.out, List.append_nil] at this
              rw [this, HALL.out]
            have hlenE : (trAll (recsTo fs k)).length = n := by rw [← hE]; simp
            have hlenA : (recsTo fs k).length = all.length := by rw [← HALL.out]
            have hints := K9.ints
            rw [HVB.out] at hints
            refine ⟨s0, s1, s2, s3, s4, s5, AE, cE, AB, cB, by rw [hlenE, hlenA, lostTo_len, ← HKK.out], ⟨0, wc.heap.size, K9.cp, K9.b7⟩, ⟨_, _, _, cssE, by rw [hlenE]; exact K9.own, by rw [← hE]; exact K9.ev, K9.bb⟩, ?_, K9.gr⟩
            have := Lies.ofOwn (c := cB) (A := AB) (by rw [lostTo_len] at hints; exact hints)
            rw [lostTo_len]
            exact this
end Go.Proofs.Ytlofjhcjjcohfaa
