/- What a record must be that came in. -/
import Derived.Test.YtlofjhcjjcohfaaApp
namespace Go.Proofs.Ytlofjhcjjcohfaa
open Go Go.RowKit Iv
set_option linter.unusedVariables false

/-- What a record must be that came in: its numbers fit; its lists lie in memory. -/
structure RecIn (w : World) (r : Rec) (Ad : Option Addr) (nd cd : Nat) (Af : Option Addr) (nf cf : Nat) : Prop where
  seq : inI64 r.seq
  thread : inI64 r.ev.thread
  kind : inI64 r.ev.kind
  obj : inI64 r.ev.obj
  value : inI64 r.ev.value
  site : inI64 r.ev.site
  deps : allI64 r.ev.deps
  from_ : allI64 r.ev.from_
  ld : Lies w w.heap.size 1 Ad nd (r.ev.deps.map iv)
  lf : Lies w w.heap.size 1 Af nf (r.ev.from_.map iv)
  cd : nd ≤ cd ∧ cd ≤ maxLen ∧ (Ad = none → cd = 0)
  cf : nf ≤ cf ∧ cf ≤ maxLen ∧ (Af = none → cf = 0)

theorem RecIn.ok {w : World} {r : Rec} {Ad : Option Addr} {nd cd : Nat} {Af : Option Addr} {nf cf : Nat} (h : RecIn w r Ad nd cd Af nf cf) (hd : nd ≤ 400) (hf : nf ≤ 400) : RecOk r :=
  ⟨h.seq, h.thread, h.kind, h.obj, h.value, h.site, h.deps, h.from_, by rw [h.ld.lenI]; exact hd, by rw [h.lf.lenI]; exact hf⟩

end Go.Proofs.Ytlofjhcjjcohfaa
