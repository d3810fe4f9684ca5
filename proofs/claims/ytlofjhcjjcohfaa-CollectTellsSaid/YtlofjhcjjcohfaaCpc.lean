/- What a copied world is, kept by what stays out of its blocks: the premises of the walks of Trace. -/
import Derived.Test.YtlofjhcjjcohfaaCpw
namespace Go.Proofs.Ytlofjhcjjcohfaa
open Go Go.RowKit Iv
set_option linter.unusedVariables false

/-- A slice in blocks between two marks of the heap. -/
def Cp1 (W : World) (lo B sz : Nat) (u : Sl) (n : Nat) (X : List Value) : Prop := u.n = n ∧ Lies W B sz u.A n X ∧ Lo lo u.A n ∧ (0 < n → ∃ b o, u.A = some ⟨b, o, none⟩)
theorem Cp1.keep {W W' : World} {lo B sz n : Nat} {row : Option Nat} {u : Sl} {X : List Value} (h : Cp1 W lo B sz u n X) (hg : W.grownBy W' row) (hB : B ≤ W.heap.size) (hr : Rng lo B row) : Cp1 W' lo B sz u n X :=
  ⟨h.1, lies_keepB h.2.1 h.2.2.1 hg hB hr, h.2.2.1, h.2.2.2⟩
theorem Cp1.own {W : World} {base e sz n c : Nat} {A : Option Addr} {X : List Value} (h : W.ownsRow base e sz (.slice A n c) n X) : Cp1 W base W.heap.size sz ⟨A, n, c⟩ n X := by
  refine ⟨rfl, Lies.ofOwn h, ?_, ?_⟩
  · exact Lo.ofOwn h (Nat.le_refl _)
  · intro hn
    rcases h.2 with ⟨h0, h1⟩ | ⟨g, cap, cur, h0, _⟩
    · omega
    · injection h0 with h0
      exact ⟨g, 0, h0⟩
def CpW (n0 : Nat) (X0 : List Value) (n1 : Nat) (X1 : List Value) (n2 : Nat) (X2 : List Value) (n3 : Nat) (X3 : List Value) (n4 : Nat) (X4 : List Value) (n5 : Nat) (X5 : List Value) (W : World) (lo B : Nat) (us : List Sl) : Prop := ∃ u0 u1 u2 u3 u4 u5 : Sl, us = [u0, u1, u2, u3, u4, u5] ∧ Cp1 W lo B 5 u0 n0 X0 ∧ Cp1 W lo B 2 u1 n1 X1 ∧ Cp1 W lo B 2 u2 n2 X2 ∧ Cp1 W lo B 1 u3 n3 X3 ∧ Cp1 W lo B 1 u4 n4 X4 ∧ Cp1 W lo B 3 u5 n5 X5
theorem CpW.keep {n0 n1 n2 n3 n4 n5 : Nat} {X0 X1 X2 X3 X4 X5 : List Value} : ∀ W W' lo B row us, CpW n0 X0 n1 X1 n2 X2 n3 X3 n4 X4 n5 X5 W lo B us → W.grownBy W' row → B ≤ W.heap.size → Rng lo B row → CpW n0 X0 n1 X1 n2 X2 n3 X3 n4 X4 n5 X5 W' lo B us := by
  rintro W W' lo B row us ⟨u0, u1, u2, u3, u4, u5, hu, h0, h1, h2, h3, h4, h5⟩ hg hB hr
  exact ⟨u0, u1, u2, u3, u4, u5, hu, h0.keep hg hB hr, h1.keep hg hB hr, h2.keep hg hB hr, h3.keep hg hB hr, h4.keep hg hB hr, h5.keep hg hB hr⟩
theorem CpW.made (w : World) (B : Nat) (A0 : Option Addr) (n0 c0 : Nat) (X0 : List Value) (A1 : Option Addr) (n1 c1 : Nat) (X1 : List Value) (A2 : Option Addr) (n2 c2 : Nat) (X2 : List Value) (A3 : Option Addr) (n3 c3 : Nat) (X3 : List Value) (A4 : Option Addr) (n4 c4 : Nat) (X4 : List Value) (A5 : Option Addr) (n5 c5 : Nat) (X5 : List Value) (h0 : In1 w B 5 48 A0 n0 c0 X0) (h1 : In1 w B 2 24 A1 n1 c1 X1) (h2 : In1 w B 2 24 A2 n2 c2 X2) (h3 : In1 w B 1 16 A3 n3 c3 X3) (h4 : In1 w B 1 16 A4 n4 c4 X4) (h5 : In1 w B 3 24 A5 n5 c5 X5) (hB : B ≤ w.heap.size) : ∀ W, w.grownBy W none → Calls Try.prog 65 #[.agg #[.slice A0 n0 c0, .slice A1 n1 c1, .slice A2 n2 c2, .slice A3 n3 c3, .slice A4 n4 c4, .slice A5 n5 c5]] W fun e W' =>
    ∃ u0 u1 u2 u3 u4 u5 : Sl, e = .returned (.agg #[.slice u0.A u0.n u0.c, .slice u1.A u1.n u1.c, .slice u2.A u2.n u2.c, .slice u3.A u3.n u3.c, .slice u4.A u4.n u4.c, .slice u5.A u5.n u5.c]) ∧ CpW n0 X0 n1 X1 n2 X2 n3 X3 n4 X4 n5 X5 W' W.heap.size W'.heap.size [u0, u1, u2, u3, u4, u5] ∧ W.grownBy W' none := by
  intro W hg
  refine (copyWorld_any W B A0 n0 c0 X0 A1 n1 c1 X1 A2 n2 c2 X2 A3 n3 c3 X3 A4 n4 c4 X4 A5 n5 c5 X5 (h0.grown hg hB) (h1.grown hg hB) (h2.grown hg hB) (h3.grown hg hB) (h4.grown hg hB) (h5.grown hg hB) (Nat.le_trans hB hg.size)).mono ?_
  rintro e W' ⟨D0, k0, D1, k1, D2, k2, D3, k3, D4, k4, D5, k5, rfl, ⟨o0, o1, o2, o3, o4, o5⟩, hg2⟩
  exact ⟨⟨D0, n0, k0⟩, ⟨D1, n1, k1⟩, ⟨D2, n2, k2⟩, ⟨D3, n3, k3⟩, ⟨D4, n4, k4⟩, ⟨D5, n5, k5⟩, rfl, ⟨⟨D0, n0, k0⟩, ⟨D1, n1, k1⟩, ⟨D2, n2, k2⟩, ⟨D3, n3, k3⟩, ⟨D4, n4, k4⟩, ⟨D5, n5, k5⟩, rfl, Cp1.own o0, Cp1.own o1, Cp1.own o2, Cp1.own o3, Cp1.own o4, Cp1.own o5⟩, hg2⟩
end Go.Proofs.Ytlofjhcjjcohfaa
