/- Words. -/
import Derived.Test.YtfbkkgfkhhibfaaGreatTrP
import Derived.Test.YtfbkkgfkhhibfaaGreatSww
import Derived.Great.BuildSlice
set_option linter.unusedVariables false
set_option maxRecDepth 100000
set_option maxHeartbeats 8000000
namespace Go.Proofs.YtfbkkgfkhhibfaaGreat
open Go Go.RowKit Iv
theorem eU {P:Program}{ops:Array Oper}{rest:List Oper}{o:Oper}{a:Act}{w:World}{Q:Exit→Act→World→Prop}(hg:o.guard=none)(t e:TypeId)(ho:o.op= .buildSlice t 0 #[])
 (ie:TypeInfo) (hu:P.underlying t=some (.slice e)) (hie:P.info? e=some ie)
 (h:∀w',w'=w.alloc (.cells #[] e)→wpList P ops Q rest (a.put o.dst (.slice (some ⟨w.heap.size,0,none⟩) 0 0)) w'):wpList P ops Q (o :: rest) a w:=by
 refine wpList_plain hg fun K hK=>?_
 unfold Oper.wp execOp
 have hr:(Instr.buildSlice t 0 #[]).run P w= .ok (.slice (some ⟨w.heap.size,0,none⟩) 0 0) (w.alloc (.cells #[] e)):=by
  simp[Instr.buildSlice,run_underlying hu,sizeOf,typeInfo,hie,newRow,Instr.fill];simp[show Array.range 0=#[] from by decide]
 simp[ho,hr,Result.andThen];exact hK _ _ (h _ rfl)
theorem jJ (w:World)(o:Obj):w.grownBy (w.alloc o) none:=bQ (World.grownBy.refl _ none)
theorem Gq:(Tryz.prog.info? 144).map (fun i=>(i.zero.map fun z=>z.cells.size,i.size,i.bytes))=some (some 5,5,48):=by kernel_rfl
theorem zU (w:World)(B:Nat)(A:Option Addr)(n c:Nat)(xs:List Value)(hl:Lies w B 5 A n xs)(hB:B≤w.heap.size)(ho:A=none→c=0)(h1:∀u∈xs,u.oneCell'=true)
 (hn:n≤maxLen) (hby:n * 48≤140737488355328):
 Calls Tryz.prog 55 #[.slice A n c] w fun e w'=>∃A' n' c',e= .returned (.slice A' n' c')∧n'=n∧w'.ownsRow w.heap.size 144 5 (.slice A' n' c') n xs∧w.grownBy w' none:=by
 cases A with
 |
  none=>
  obtain rfl:=ho rfl
  obtain rfl:n=0:=by
   rcases Nat.eq_zero_or_pos n with h0 | h0
   · exact h0
   · obtain⟨ad,h,_⟩:=hl.2 h0
     cases h
  obtain rfl:xs= []:=List.eq_nil_of_length_eq_zero (by simpa using hl.1);clear hl ho h1 hn hby
  have qn:=fun (w:World)=>Lib.run_eql_slice_nil (P:=Tryz.prog) w 25 144 none 0 0 0 0 Tryz.underlying25
  go_enter Tryz.func55,Tryz.ntmps55;go_wp2_with fail;go_ret;exact⟨none,0,0,rfl,rfl,World.ownsRow_nil _ _ _ _,World.grownBy.refl w none⟩
 |
  some ad=>
  obtain⟨i0,hi,hh⟩:∃i0,Tryz.prog.info? 144=some i0∧(i0.zero.map (fun z=>z.cells.size),i0.size,i0.bytes)=(some 5,5,48):=by
   have:=Gq
   cases hx:Tryz.prog.info? 144 with
   | none=>rw [hx] at this;cases this
   | some i0=>rw [hx] at this;exact⟨i0,rfl,by simpa using this⟩
  injection hh with hz0 hh;injection hh with hz1 hz2
  obtain⟨z,hz,hzs⟩:∃z,i0.zero=some z∧z.cells.size=5:=by
   cases hx:i0.zero with
   | none=>rw [hx] at hz0;cases hz0
   | some z=>rw [hx] at hz0;exact⟨z,rfl,by simpa using hz0⟩
  have HI:=ae hi;have HZ0:=ae hz;have Q3:=ae hzs;have HZ1:=ae hz1;have HZ2:=ae hz2;have HL:=ae hl;have H1:=ae h1;have YO:=ae ho;have h0:(0:Nat) < 5:=by omega
  clear hz0 hz1 hz2 hi hz hzs hl h1 ho;have qn:=fun (w:World)=>Lib.run_eql_slice_nil (P:=Tryz.prog) w 25 144 (some ad) n c 0 0 Tryz.underlying25
  go_enter Tryz.func55,Tryz.ntmps55
  go_wp2_with (first
   | (at_builtin;refine bU _ rfl (.tmp 5) (.tmp 6) _ rfl w.heap.size 144 i0 z 5 48 Tryz.underlying25 HI.out HZ0.out HZ1.out HZ2.out Q3.out h0 _ 0 [] rfl HE.out B (some ad) n c xs rfl HL2.out (fun e=>nomatch e) H1.out (by omega) (by omega) wY.out ?_;intro v2 w2 hown2 hg2 lL)
   | (
    refine eU rfl _ 144 rfl i0 Tryz.underlying25 HI.out ?_;intro w1 hw1;have HE:Hid (w1.ownsRow w.heap.size 144 5 (.slice (some ⟨w.heap.size,0,none⟩) 0 0) 0 []):=ae (by rw[hw1];exact World.ownsRow_made w #[] 0 (Nat.le_refl _) (Nat.zero_le _) (by simp));have ou:Hid (w.grownBy w1 none):=ae (by rw[hw1];exact jJ w _);have wY:Hid (w.heap.size≤w1.heap.size):=ae ou.out.size;have HL2:Hid (Lies w1 B 5 (some ad) n xs):=ae (HL.out.grown ou.out hB (fun g e=>nomatch e));clear hw1))
  go_ret;obtain⟨A',c',hv,_⟩:=aj hown2;exact⟨A',0+n,c',by rw[hv];rfl,by omega,by rw[←hv];simpa using hown2,af ou.out hg2 (.inr ⟨_,rfl,Nat.le_refl _⟩)⟩
theorem Gs:(Tryz.prog.info? 147).map (fun i=>(i.zero.map fun z=>z.cells.size,i.size,i.bytes))=some (some 2,2,24):=by kernel_rfl
theorem zV (w:World)(B:Nat)(A:Option Addr)(n c:Nat)(xs:List Value)(hl:Lies w B 2 A n xs)(hB:B≤w.heap.size)(ho:A=none→c=0)(h1:∀u∈xs,u.oneCell'=true)
 (hn:n≤maxLen) (hby:n * 24≤140737488355328):
 Calls Tryz.prog 56 #[.slice A n c] w fun e w'=>∃A' n' c',e= .returned (.slice A' n' c')∧n'=n∧w'.ownsRow w.heap.size 147 2 (.slice A' n' c') n xs∧w.grownBy w' none:=by
 cases A with
 |
  none=>
  obtain rfl:=ho rfl
  obtain rfl:n=0:=by
   rcases Nat.eq_zero_or_pos n with h0 | h0
   · exact h0
   · obtain⟨ad,h,_⟩:=hl.2 h0
     cases h
  obtain rfl:xs= []:=List.eq_nil_of_length_eq_zero (by simpa using hl.1);clear hl ho h1 hn hby
  have qn:=fun (w:World)=>Lib.run_eql_slice_nil (P:=Tryz.prog) w 26 147 none 0 0 0 0 Tryz.underlying26
  go_enter Tryz.func56,Tryz.ntmps56;go_wp2_with fail;go_ret;exact⟨none,0,0,rfl,rfl,World.ownsRow_nil _ _ _ _,World.grownBy.refl w none⟩
 |
  some ad=>
  obtain⟨i0,hi,hh⟩:∃i0,Tryz.prog.info? 147=some i0∧(i0.zero.map (fun z=>z.cells.size),i0.size,i0.bytes)=(some 2,2,24):=by
   have:=Gs
   cases hx:Tryz.prog.info? 147 with
   | none=>rw [hx] at this;cases this
   | some i0=>rw [hx] at this;exact⟨i0,rfl,by simpa using this⟩
  injection hh with hz0 hh;injection hh with hz1 hz2
  obtain⟨z,hz,hzs⟩:∃z,i0.zero=some z∧z.cells.size=2:=by
   cases hx:i0.zero with
   | none=>rw [hx] at hz0;cases hz0
   | some z=>rw [hx] at hz0;exact⟨z,rfl,by simpa using hz0⟩
  have HI:=ae hi;have HZ0:=ae hz;have Q3:=ae hzs;have HZ1:=ae hz1;have HZ2:=ae hz2;have HL:=ae hl;have H1:=ae h1;have YO:=ae ho;have h0:(0:Nat) < 2:=by omega
  clear hz0 hz1 hz2 hi hz hzs hl h1 ho;have qn:=fun (w:World)=>Lib.run_eql_slice_nil (P:=Tryz.prog) w 26 147 (some ad) n c 0 0 Tryz.underlying26
  go_enter Tryz.func56,Tryz.ntmps56
  go_wp2_with (first
   | (at_builtin;refine bU _ rfl (.tmp 5) (.tmp 6) _ rfl w.heap.size 147 i0 z 2 24 Tryz.underlying26 HI.out HZ0.out HZ1.out HZ2.out Q3.out h0 _ 0 [] rfl HE.out B (some ad) n c xs rfl HL2.out (fun e=>nomatch e) H1.out (by omega) (by omega) wY.out ?_;intro v2 w2 hown2 hg2 lL)
   | (
    refine eU rfl _ 147 rfl i0 Tryz.underlying26 HI.out ?_;intro w1 hw1;have HE:Hid (w1.ownsRow w.heap.size 147 2 (.slice (some ⟨w.heap.size,0,none⟩) 0 0) 0 []):=ae (by rw[hw1];exact World.ownsRow_made w #[] 0 (Nat.le_refl _) (Nat.zero_le _) (by simp));have ou:Hid (w.grownBy w1 none):=ae (by rw[hw1];exact jJ w _);have wY:Hid (w.heap.size≤w1.heap.size):=ae ou.out.size;have HL2:Hid (Lies w1 B 2 (some ad) n xs):=ae (HL.out.grown ou.out hB (fun g e=>nomatch e));clear hw1))
  go_ret;obtain⟨A',c',hv,_⟩:=aj hown2;exact⟨A',0+n,c',by rw[hv];rfl,by omega,by rw[←hv];simpa using hown2,af ou.out hg2 (.inr ⟨_,rfl,Nat.le_refl _⟩)⟩
theorem Gt:(Tryz.prog.info? 150).map (fun i=>(i.zero.map fun z=>z.cells.size,i.size,i.bytes))=some (some 2,2,24):=by kernel_rfl
theorem zW (w:World)(B:Nat)(A:Option Addr)(n c:Nat)(xs:List Value)(hl:Lies w B 2 A n xs)(hB:B≤w.heap.size)(ho:A=none→c=0)(h1:∀u∈xs,u.oneCell'=true)
 (hn:n≤maxLen) (hby:n * 24≤140737488355328):
 Calls Tryz.prog 57 #[.slice A n c] w fun e w'=>∃A' n' c',e= .returned (.slice A' n' c')∧n'=n∧w'.ownsRow w.heap.size 150 2 (.slice A' n' c') n xs∧w.grownBy w' none:=by
 cases A with
 |
  none=>
  obtain rfl:=ho rfl
  obtain rfl:n=0:=by
   rcases Nat.eq_zero_or_pos n with h0 | h0
   · exact h0
   · obtain⟨ad,h,_⟩:=hl.2 h0
     cases h
  obtain rfl:xs= []:=List.eq_nil_of_length_eq_zero (by simpa using hl.1);clear hl ho h1 hn hby
  have qn:=fun (w:World)=>Lib.run_eql_slice_nil (P:=Tryz.prog) w 27 150 none 0 0 0 0 Tryz.underlying27
  go_enter Tryz.func57,Tryz.ntmps57;go_wp2_with fail;go_ret;exact⟨none,0,0,rfl,rfl,World.ownsRow_nil _ _ _ _,World.grownBy.refl w none⟩
 |
  some ad=>
  obtain⟨i0,hi,hh⟩:∃i0,Tryz.prog.info? 150=some i0∧(i0.zero.map (fun z=>z.cells.size),i0.size,i0.bytes)=(some 2,2,24):=by
   have:=Gt
   cases hx:Tryz.prog.info? 150 with
   | none=>rw [hx] at this;cases this
   | some i0=>rw [hx] at this;exact⟨i0,rfl,by simpa using this⟩
  injection hh with hz0 hh;injection hh with hz1 hz2
  obtain⟨z,hz,hzs⟩:∃z,i0.zero=some z∧z.cells.size=2:=by
   cases hx:i0.zero with
   | none=>rw [hx] at hz0;cases hz0
   | some z=>rw [hx] at hz0;exact⟨z,rfl,by simpa using hz0⟩
  have HI:=ae hi;have HZ0:=ae hz;have Q3:=ae hzs;have HZ1:=ae hz1;have HZ2:=ae hz2;have HL:=ae hl;have H1:=ae h1;have YO:=ae ho;have h0:(0:Nat) < 2:=by omega
  clear hz0 hz1 hz2 hi hz hzs hl h1 ho;have qn:=fun (w:World)=>Lib.run_eql_slice_nil (P:=Tryz.prog) w 27 150 (some ad) n c 0 0 Tryz.underlying27
  go_enter Tryz.func57,Tryz.ntmps57
  go_wp2_with (first
   | (at_builtin;refine bU _ rfl (.tmp 5) (.tmp 6) _ rfl w.heap.size 150 i0 z 2 24 Tryz.underlying27 HI.out HZ0.out HZ1.out HZ2.out Q3.out h0 _ 0 [] rfl HE.out B (some ad) n c xs rfl HL2.out (fun e=>nomatch e) H1.out (by omega) (by omega) wY.out ?_;intro v2 w2 hown2 hg2 lL)
   | (
    refine eU rfl _ 150 rfl i0 Tryz.underlying27 HI.out ?_;intro w1 hw1;have HE:Hid (w1.ownsRow w.heap.size 150 2 (.slice (some ⟨w.heap.size,0,none⟩) 0 0) 0 []):=ae (by rw[hw1];exact World.ownsRow_made w #[] 0 (Nat.le_refl _) (Nat.zero_le _) (by simp));have ou:Hid (w.grownBy w1 none):=ae (by rw[hw1];exact jJ w _);have wY:Hid (w.heap.size≤w1.heap.size):=ae ou.out.size;have HL2:Hid (Lies w1 B 2 (some ad) n xs):=ae (HL.out.grown ou.out hB (fun g e=>nomatch e));clear hw1))
  go_ret;obtain⟨A',c',hv,_⟩:=aj hown2;exact⟨A',0+n,c',by rw[hv];rfl,by omega,by rw[←hv];simpa using hown2,af ou.out hg2 (.inr ⟨_,rfl,Nat.le_refl _⟩)⟩
theorem JV:(Tryz.prog.info? 9).map (fun i=>(i.zero.map fun z=>z.cells.size,i.size,i.bytes))=some (some 1,1,16):=by kernel_rfl
theorem Dw (w:World)(B:Nat)(A:Option Addr)(n c:Nat)(xs:List Value)(hl:Lies w B 1 A n xs)(hB:B≤w.heap.size)(ho:A=none→c=0)(h1:∀u∈xs,u.oneCell'=true)
 (hn:n≤maxLen) (hby:n * 16≤140737488355328):
 Calls Tryz.prog 58 #[.slice A n c] w fun e w'=>∃A' n' c',e= .returned (.slice A' n' c')∧n'=n∧w'.ownsRow w.heap.size 9 1 (.slice A' n' c') n xs∧w.grownBy w' none:=by
 cases A with
 |
  none=>
  obtain rfl:=ho rfl
  obtain rfl:n=0:=by
   rcases Nat.eq_zero_or_pos n with h0 | h0
   · exact h0
   · obtain⟨ad,h,_⟩:=hl.2 h0
     cases h
  obtain rfl:xs= []:=List.eq_nil_of_length_eq_zero (by simpa using hl.1);clear hl ho h1 hn hby
  have qn:=fun (w:World)=>Lib.run_eql_slice_nil (P:=Tryz.prog) w 28 9 none 0 0 0 0 Tryz.underlying28
  go_enter Tryz.func58,Tryz.ntmps58;go_wp2_with fail;go_ret;exact⟨none,0,0,rfl,rfl,World.ownsRow_nil _ _ _ _,World.grownBy.refl w none⟩
 |
  some ad=>
  obtain⟨i0,hi,hh⟩:∃i0,Tryz.prog.info? 9=some i0∧(i0.zero.map (fun z=>z.cells.size),i0.size,i0.bytes)=(some 1,1,16):=by
   have:=JV
   cases hx:Tryz.prog.info? 9 with
   | none=>rw [hx] at this;cases this
   | some i0=>rw [hx] at this;exact⟨i0,rfl,by simpa using this⟩
  injection hh with hz0 hh;injection hh with hz1 hz2
  obtain⟨z,hz,hzs⟩:∃z,i0.zero=some z∧z.cells.size=1:=by
   cases hx:i0.zero with
   | none=>rw [hx] at hz0;cases hz0
   | some z=>rw [hx] at hz0;exact⟨z,rfl,by simpa using hz0⟩
  have HI:=ae hi;have HZ0:=ae hz;have Q3:=ae hzs;have HZ1:=ae hz1;have HZ2:=ae hz2;have HL:=ae hl;have H1:=ae h1;have YO:=ae ho;have h0:(0:Nat) < 1:=by omega
  clear hz0 hz1 hz2 hi hz hzs hl h1 ho;have qn:=fun (w:World)=>Lib.run_eql_slice_nil (P:=Tryz.prog) w 28 9 (some ad) n c 0 0 Tryz.underlying28
  go_enter Tryz.func58,Tryz.ntmps58
  go_wp2_with (first
   | (at_builtin;refine bU _ rfl (.tmp 5) (.tmp 6) _ rfl w.heap.size 9 i0 z 1 16 Tryz.underlying28 HI.out HZ0.out HZ1.out HZ2.out Q3.out h0 _ 0 [] rfl HE.out B (some ad) n c xs rfl HL2.out (fun e=>nomatch e) H1.out (by omega) (by omega) wY.out ?_;intro v2 w2 hown2 hg2 lL)
   | (
    refine eU rfl _ 9 rfl i0 Tryz.underlying28 HI.out ?_;intro w1 hw1;have HE:Hid (w1.ownsRow w.heap.size 9 1 (.slice (some ⟨w.heap.size,0,none⟩) 0 0) 0 []):=ae (by rw[hw1];exact World.ownsRow_made w #[] 0 (Nat.le_refl _) (Nat.zero_le _) (by simp));have ou:Hid (w.grownBy w1 none):=ae (by rw[hw1];exact jJ w _);have wY:Hid (w.heap.size≤w1.heap.size):=ae ou.out.size;have HL2:Hid (Lies w1 B 1 (some ad) n xs):=ae (HL.out.grown ou.out hB (fun g e=>nomatch e));clear hw1))
  go_ret;obtain⟨A',c',hv,_⟩:=aj hown2;exact⟨A',0+n,c',by rw[hv];rfl,by omega,by rw[←hv];simpa using hown2,af ou.out hg2 (.inr ⟨_,rfl,Nat.le_refl _⟩)⟩
theorem Gu:(Tryz.prog.info? 154).map (fun i=>(i.zero.map fun z=>z.cells.size,i.size,i.bytes))=some (some 3,3,24):=by kernel_rfl
theorem zX (w:World)(B:Nat)(A:Option Addr)(n c:Nat)(xs:List Value)(hl:Lies w B 3 A n xs)(hB:B≤w.heap.size)(ho:A=none→c=0)(h1:∀u∈xs,u.oneCell'=true)
 (hn:n≤maxLen) (hby:n * 24≤140737488355328):
 Calls Tryz.prog 59 #[.slice A n c] w fun e w'=>∃A' n' c',e= .returned (.slice A' n' c')∧n'=n∧w'.ownsRow w.heap.size 154 3 (.slice A' n' c') n xs∧w.grownBy w' none:=by
 cases A with
 |
  none=>
  obtain rfl:=ho rfl
  obtain rfl:n=0:=by
   rcases Nat.eq_zero_or_pos n with h0 | h0
   · exact h0
   · obtain⟨ad,h,_⟩:=hl.2 h0
     cases h
  obtain rfl:xs= []:=List.eq_nil_of_length_eq_zero (by simpa using hl.1);clear hl ho h1 hn hby
  have qn:=fun (w:World)=>Lib.run_eql_slice_nil (P:=Tryz.prog) w 29 154 none 0 0 0 0 Tryz.underlying29
  go_enter Tryz.func59,Tryz.ntmps59;go_wp2_with fail;go_ret;exact⟨none,0,0,rfl,rfl,World.ownsRow_nil _ _ _ _,World.grownBy.refl w none⟩
 |
  some ad=>
  obtain⟨i0,hi,hh⟩:∃i0,Tryz.prog.info? 154=some i0∧(i0.zero.map (fun z=>z.cells.size),i0.size,i0.bytes)=(some 3,3,24):=by
   have:=Gu
   cases hx:Tryz.prog.info? 154 with
   | none=>rw [hx] at this;cases this
   | some i0=>rw [hx] at this;exact⟨i0,rfl,by simpa using this⟩
  injection hh with hz0 hh;injection hh with hz1 hz2
  obtain⟨z,hz,hzs⟩:∃z,i0.zero=some z∧z.cells.size=3:=by
   cases hx:i0.zero with
   | none=>rw [hx] at hz0;cases hz0
   | some z=>rw [hx] at hz0;exact⟨z,rfl,by simpa using hz0⟩
  have HI:=ae hi;have HZ0:=ae hz;have Q3:=ae hzs;have HZ1:=ae hz1;have HZ2:=ae hz2;have HL:=ae hl;have H1:=ae h1;have YO:=ae ho;have h0:(0:Nat) < 3:=by omega
  clear hz0 hz1 hz2 hi hz hzs hl h1 ho;have qn:=fun (w:World)=>Lib.run_eql_slice_nil (P:=Tryz.prog) w 29 154 (some ad) n c 0 0 Tryz.underlying29
  go_enter Tryz.func59,Tryz.ntmps59
  go_wp2_with (first
   | (at_builtin;refine bU _ rfl (.tmp 5) (.tmp 6) _ rfl w.heap.size 154 i0 z 3 24 Tryz.underlying29 HI.out HZ0.out HZ1.out HZ2.out Q3.out h0 _ 0 [] rfl HE.out B (some ad) n c xs rfl HL2.out (fun e=>nomatch e) H1.out (by omega) (by omega) wY.out ?_;intro v2 w2 hown2 hg2 lL)
   | (
    refine eU rfl _ 154 rfl i0 Tryz.underlying29 HI.out ?_;intro w1 hw1;have HE:Hid (w1.ownsRow w.heap.size 154 3 (.slice (some ⟨w.heap.size,0,none⟩) 0 0) 0 []):=ae (by rw[hw1];exact World.ownsRow_made w #[] 0 (Nat.le_refl _) (Nat.zero_le _) (by simp));have ou:Hid (w.grownBy w1 none):=ae (by rw[hw1];exact jJ w _);have wY:Hid (w.heap.size≤w1.heap.size):=ae ou.out.size;have HL2:Hid (Lies w1 B 3 (some ad) n xs):=ae (HL.out.grown ou.out hB (fun g e=>nomatch e));clear hw1))
  go_ret;obtain⟨A',c',hv,_⟩:=aj hown2;exact⟨A',0+n,c',by rw[hv];rfl,by omega,by rw[←hv];simpa using hown2,af ou.out hg2 (.inr ⟨_,rfl,Nat.le_refl _⟩)⟩
theorem EC {w:World}{B n c:Nat}{A:Option Addr}{X:List Value}(h:In1 w B 5 48 A n c X)(hB:B≤w.heap.size):
 Calls Tryz.prog 55 #[.slice A n c] w fun e w'=>∃A' c',e= .returned (.slice A' n c')∧w'.ownsRow w.heap.size 144 5 (.slice A' n c') n X∧w.grownBy w' none:=
 (zU w B A n c X h.lies hB h.none_ h.one h.cap h.bytes_).mono fun e w' ⟨A',n',c',he,hn,ho,hg⟩=>by subst hn;exact⟨A',c',he,ho,hg⟩
theorem ED {w:World}{B n c:Nat}{A:Option Addr}{X:List Value}(h:In1 w B 2 24 A n c X)(hB:B≤w.heap.size):
 Calls Tryz.prog 56 #[.slice A n c] w fun e w'=>∃A' c',e= .returned (.slice A' n c')∧w'.ownsRow w.heap.size 147 2 (.slice A' n c') n X∧w.grownBy w' none:=
 (zV w B A n c X h.lies hB h.none_ h.one h.cap h.bytes_).mono fun e w' ⟨A',n',c',he,hn,ho,hg⟩=>by subst hn;exact⟨A',c',he,ho,hg⟩
theorem EE {w:World}{B n c:Nat}{A:Option Addr}{X:List Value}(h:In1 w B 2 24 A n c X)(hB:B≤w.heap.size):
 Calls Tryz.prog 57 #[.slice A n c] w fun e w'=>∃A' c',e= .returned (.slice A' n c')∧w'.ownsRow w.heap.size 150 2 (.slice A' n c') n X∧w.grownBy w' none:=
 (zW w B A n c X h.lies hB h.none_ h.one h.cap h.bytes_).mono fun e w' ⟨A',n',c',he,hn,ho,hg⟩=>by subst hn;exact⟨A',c',he,ho,hg⟩
theorem vP {w:World}{B n c:Nat}{A:Option Addr}{X:List Value}(h:In1 w B 1 16 A n c X)(hB:B≤w.heap.size):
 Calls Tryz.prog 58 #[.slice A n c] w fun e w'=>∃A' c',e= .returned (.slice A' n c')∧w'.ownsRow w.heap.size 9 1 (.slice A' n c') n X∧w.grownBy w' none:=
 (Dw w B A n c X h.lies hB h.none_ h.one h.cap h.bytes_).mono fun e w' ⟨A',n',c',he,hn,ho,hg⟩=>by subst hn;exact⟨A',c',he,ho,hg⟩
theorem EF {w:World}{B n c:Nat}{A:Option Addr}{X:List Value}(h:In1 w B 3 24 A n c X)(hB:B≤w.heap.size):
 Calls Tryz.prog 59 #[.slice A n c] w fun e w'=>∃A' c',e= .returned (.slice A' n c')∧w'.ownsRow w.heap.size 154 3 (.slice A' n c') n X∧w.grownBy w' none:=
 (zX w B A n c X h.lies hB h.none_ h.one h.cap h.bytes_).mono fun e w' ⟨A',n',c',he,hn,ho,hg⟩=>by subst hn;exact⟨A',c',he,ho,hg⟩
theorem Xy {w:World}{g:Nat}{t:TypeId}{z:Value}(H:Held w g t #[z,z,z,z,z,z])(u0 u1 u2 u3 u4 u5:Value)(b:Nat)(hb:b≤g):
 Held ((((((w.setCell ⟨g,0,none⟩ u0).setCell ⟨g,1,none⟩ u1).setCell ⟨g,2,none⟩ u2).setCell ⟨g,3,none⟩ u3).setCell ⟨g,4,none⟩ u4).setCell ⟨g,5,none⟩ u5) g t #[u0,u1,u2,u3,u4,u5]∧w.grownBy ((((((w.setCell ⟨g,0,none⟩ u0).setCell ⟨g,1,none⟩ u1).setCell ⟨g,2,none⟩ u2).setCell ⟨g,3,none⟩ u3).setCell ⟨g,4,none⟩ u4).setCell ⟨g,5,none⟩ u5) (some g):=by
 have q0:Held (w.setCell ⟨g,0,none⟩ u0) g t #[u0,z,z,z,z,z]:=H.store 0 _;have g0:w.grownBy (w.setCell ⟨g,0,none⟩ u0) (some g):=ah w g 0 u0;have q1:Held ((w.setCell ⟨g,0,none⟩ u0).setCell ⟨g,1,none⟩ u1) g t #[u0,u1,z,z,z,z]:=q0.store 1 _;have g1:w.grownBy ((w.setCell ⟨g,0,none⟩ u0).setCell ⟨g,1,none⟩ u1) (some g):=af g0 (ah _ g 1 u1) (.inl rfl);have q2:Held (((w.setCell ⟨g,0,none⟩ u0).setCell ⟨g,1,none⟩ u1).setCell ⟨g,2,none⟩ u2) g t #[u0,u1,u2,z,z,z]:=q1.store 2 _;have g2:w.grownBy (((w.setCell ⟨g,0,none⟩ u0).setCell ⟨g,1,none⟩ u1).setCell ⟨g,2,none⟩ u2) (some g):=af g1 (ah _ g 2 u2) (.inl rfl);have q3:Held ((((w.setCell ⟨g,0,none⟩ u0).setCell ⟨g,1,none⟩ u1).setCell ⟨g,2,none⟩ u2).setCell ⟨g,3,none⟩ u3) g t #[u0,u1,u2,u3,z,z]:=q2.store 3 _;have g3:w.grownBy ((((w.setCell ⟨g,0,none⟩ u0).setCell ⟨g,1,none⟩ u1).setCell ⟨g,2,none⟩ u2).setCell ⟨g,3,none⟩ u3) (some g):=af g2 (ah _ g 3 u3) (.inl rfl);have q4:Held (((((w.setCell ⟨g,0,none⟩ u0).setCell ⟨g,1,none⟩ u1).setCell ⟨g,2,none⟩ u2).setCell ⟨g,3,none⟩ u3).setCell ⟨g,4,none⟩ u4) g t #[u0,u1,u2,u3,u4,z]:=q3.store 4 _;have g4:w.grownBy (((((w.setCell ⟨g,0,none⟩ u0).setCell ⟨g,1,none⟩ u1).setCell ⟨g,2,none⟩ u2).setCell ⟨g,3,none⟩ u3).setCell ⟨g,4,none⟩ u4) (some g):=af g3 (ah _ g 4 u4) (.inl rfl);have q5:Held ((((((w.setCell ⟨g,0,none⟩ u0).setCell ⟨g,1,none⟩ u1).setCell ⟨g,2,none⟩ u2).setCell ⟨g,3,none⟩ u3).setCell ⟨g,4,none⟩ u4).setCell ⟨g,5,none⟩ u5) g t #[u0,u1,u2,u3,u4,u5]:=q4.store 5 _;have g5:w.grownBy ((((((w.setCell ⟨g,0,none⟩ u0).setCell ⟨g,1,none⟩ u1).setCell ⟨g,2,none⟩ u2).setCell ⟨g,3,none⟩ u3).setCell ⟨g,4,none⟩ u4).setCell ⟨g,5,none⟩ u5) (some g):=af g4 (ah _ g 5 u5) (.inl rfl);exact⟨q5,g5⟩
theorem Au (w:World)(B:Nat)(A0:Option Addr)(n0 c0:Nat)(X0:List Value)(A1:Option Addr)(n1 c1:Nat)(X1:List Value)(A2:Option Addr)(n2 c2:Nat)(X2:List Value)(A3:Option Addr)(n3 c3:Nat)(X3:List Value)(A4:Option Addr)(n4 c4:Nat)(X4:List Value)(A5:Option Addr)(n5 c5:Nat)(X5:List Value)(h0:In1 w B 5 48 A0 n0 c0 X0)(h1:In1 w B 2 24 A1 n1 c1 X1)(h2:In1 w B 2 24 A2 n2 c2 X2)(h3:In1 w B 1 16 A3 n3 c3 X3)(h4:In1 w B 1 16 A4 n4 c4 X4)(h5:In1 w B 3 24 A5 n5 c5 X5)(hB:B≤w.heap.size):
 Calls Tryz.prog 34 #[.agg #[.slice A0 n0 c0,.slice A1 n1 c1,.slice A2 n2 c2,.slice A3 n3 c3,.slice A4 n4 c4,.slice A5 n5 c5]] w fun e w'=>∃D0 k0 D1 k1 D2 k2 D3 k3 D4 k4 D5 k5,e= .returned (.agg #[Value.slice D0 n0 k0,Value.slice D1 n1 k1,Value.slice D2 n2 k2,Value.slice D3 n3 k3,Value.slice D4 n4 k4,Value.slice D5 n5 k5])∧(w'.ownsRow w.heap.size 144 5 (.slice D0 n0 k0) n0 X0∧w'.ownsRow w.heap.size 147 2 (.slice D1 n1 k1) n1 X1∧w'.ownsRow w.heap.size 150 2 (.slice D2 n2 k2) n2 X2∧w'.ownsRow w.heap.size 9 1 (.slice D3 n3 k3) n3 X3∧w'.ownsRow w.heap.size 9 1 (.slice D4 n4 k4) n4 X4∧w'.ownsRow w.heap.size 154 3 (.slice D5 n5 k5) n5 X5)∧w.grownBy w' none:=by
 obtain⟨W,hW⟩:∃W,W=(w.alloc (.cells #[.slice A0 n0 c0,.slice A1 n1 c1,.slice A2 n2 c2,.slice A3 n3 c3,.slice A4 n4 c4,.slice A5 n5 c5] 31)).alloc (.cells #[.slice none 0 0,.slice none 0 0,.slice none 0 0,.slice none 0 0,.slice none 0 0,.slice none 0 0] 31):=⟨_,rfl⟩
 have hg:w.grownBy W none:=by
  rw[hW];exact af (World.grownBy_alloc w _ none) (World.grownBy_alloc _ _ none) (.inl rfl)
 have hb0:Held W w.heap.size 31 #[.slice A0 n0 c0,.slice A1 n1 c1,.slice A2 n2 c2,.slice A3 n3 c3,.slice A4 n4 c4,.slice A5 n5 c5]:=by rw[hW];exact (Held.new w _ _).alloc _
 have hb1:Held W (w.heap.size+1) 31 #[.slice none 0 0,.slice none 0 0,.slice none 0 0,.slice none 0 0,.slice none 0 0,.slice none 0 0]:=by
  rw[hW];have:=Held.new (w.alloc (.cells #[.slice A0 n0 c0,.slice A1 n1 c1,.slice A2 n2 c2,.slice A3 n3 c3,.slice A4 n4 c4,.slice A5 n5 c5] 31)) 31 #[.slice none 0 0,.slice none 0 0,.slice none 0 0,.slice none 0 0,.slice none 0 0,.slice none 0 0];rwa [World.size_alloc] at this
 have HB0:=ae hb0;have HB1:=ae hb1;have wY:Hid (B≤W.heap.size):=ae (Nat.le_trans hB hg.size);have Q9:=ae hg;have hws:w.heap.size+1 < W.heap.size:=hb1.lt;have HI0:=ae (fun (W2:World) (g:W.grownBy W2 none)=>h0.grown (af hg g (.inl rfl)) hB);have HI1:=ae (fun (W2:World) (g:W.grownBy W2 none)=>h1.grown (af hg g (.inl rfl)) hB);have HI2:=ae (fun (W2:World) (g:W.grownBy W2 none)=>h2.grown (af hg g (.inl rfl)) hB);have HI3:=ae (fun (W2:World) (g:W.grownBy W2 none)=>h3.grown (af hg g (.inl rfl)) hB);have HI4:=ae (fun (W2:World) (g:W.grownBy W2 none)=>h4.grown (af hg g (.inl rfl)) hB);have HI5:=ae (fun (W2:World) (g:W.grownBy W2 none)=>h5.grown (af hg g (.inl rfl)) hB)
 have HS:Hid (∀w',W.grownBy w' none→w'.cell? ⟨w.heap.size,0,none⟩=some (.slice A0 n0 c0)∧w'.cell? ⟨w.heap.size,1,none⟩=some (.slice A1 n1 c1)∧w'.cell? ⟨w.heap.size,2,none⟩=some (.slice A2 n2 c2)∧w'.cell? ⟨w.heap.size,3,none⟩=some (.slice A3 n3 c3)∧w'.cell? ⟨w.heap.size,4,none⟩=some (.slice A4 n4 c4)∧w'.cell? ⟨w.heap.size,5,none⟩=some (.slice A5 n5 c5)):=ae (fun w' g=>by
  have H:=HB0.out.grown g (fun e=>nomatch e);exact⟨H.cell 0,H.cell 1,H.cell 2,H.cell 3,H.cell 4,H.cell 5⟩)
 have HW:=ae hW;clear hW hb0 hb1 hg h0 h1 h2 h3 h4 h5;go_enter Tryz.func34,Tryz.ntmps34;go_wp2_with fail;rw[show (w.alloc (.cells #[.slice A0 n0 c0,.slice A1 n1 c1,.slice A2 n2 c2,.slice A3 n3 c3,.slice A4 n4 c4,.slice A5 n5 c5] 31)).alloc (.cells #[.slice none 0 0,.slice none 0 0,.slice none 0 0,.slice none 0 0,.slice none 0 0,.slice none 0 0] 31)=W from HW.out.symm];refine pq (z:=19) (S:=fun w'=>w'.cell? ⟨w.heap.size,0,none⟩=some (.slice A0 n0 c0)∧w'.cell? ⟨w.heap.size,1,none⟩=some (.slice A1 n1 c1)∧w'.cell? ⟨w.heap.size,2,none⟩=some (.slice A2 n2 c2)∧w'.cell? ⟨w.heap.size,3,none⟩=some (.slice A3 n3 c3)∧w'.cell? ⟨w.heap.size,4,none⟩=some (.slice A4 n4 c4)∧w'.cell? ⟨w.heap.size,5,none⟩=some (.slice A5 n5 c5)) (by kernel_rfl) (by exact HS.out _ (aI (World.grownBy.refl W none))) (fun hHeld=>?_);refine aA (i:=0) (oi:=⟨some 3,_,_,_,_,_⟩) (v:=?_) rfl (by kernel_rfl) (by kernel_rfl) (by kernel_rfl) (by kernel_rfl) (fun _ _ _ h=>h) (Or.inl ⟨by rfl,?_⟩) (by assumption) ?_;rotate_left
 · intro w hSw;(try dsimp only at hSw);go_simp;(try with_reducible rfl)
 try simp only[Act.put,List.setIfInBounds_toArray,List.set_cons_zero,List.set_cons_succ]
 refine aA (i:=1) (oi:=⟨some 4,_,_,_,_,_⟩) (v:=?_) rfl (by kernel_rfl) (by kernel_rfl) (by kernel_rfl) (by kernel_rfl) (fun _ _ _ h=>h) (Or.inl ⟨by rfl,?_⟩) (by assumption) ?_;rotate_left
 · intro w hSw;(try dsimp only at hSw);go_simp;(try with_reducible rfl)
 try simp only[Act.put,List.setIfInBounds_toArray,List.set_cons_zero,List.set_cons_succ]
 refine aA (i:=3) (oi:=⟨some 6,_,_,_,_,_⟩) (v:=?_) rfl (by kernel_rfl) (by kernel_rfl) (by kernel_rfl) (by kernel_rfl) (fun _ _ _ h=>h) (Or.inl ⟨by rfl,?_⟩) (by assumption) ?_;rotate_left
 · intro w hSw;(try dsimp only at hSw);go_simp;(try with_reducible rfl)
 try simp only[Act.put,List.setIfInBounds_toArray,List.set_cons_zero,List.set_cons_succ]
 refine aA (i:=4) (oi:=⟨some 7,_,_,_,_,_⟩) (v:=?_) rfl (by kernel_rfl) (by kernel_rfl) (by kernel_rfl) (by kernel_rfl) (fun _ _ _ h=>h) (Or.inl ⟨by rfl,?_⟩) (by assumption) ?_;rotate_left
 · intro w hSw;(try dsimp only at hSw);go_simp;(try with_reducible rfl)
 try simp only[Act.put,List.setIfInBounds_toArray,List.set_cons_zero,List.set_cons_succ]
 refine aA (i:=6) (oi:=⟨some 9,_,_,_,_,_⟩) (v:=?_) rfl (by kernel_rfl) (by kernel_rfl) (by kernel_rfl) (by kernel_rfl) (fun _ _ _ h=>h) (Or.inl ⟨by rfl,?_⟩) (by assumption) ?_;rotate_left
 · intro w hSw;(try dsimp only at hSw);go_simp;(try with_reducible rfl)
 try simp only[Act.put,List.setIfInBounds_toArray,List.set_cons_zero,List.set_cons_succ]
 refine aA (i:=7) (oi:=⟨some 10,_,_,_,_,_⟩) (v:=?_) rfl (by kernel_rfl) (by kernel_rfl) (by kernel_rfl) (by kernel_rfl) (fun _ _ _ h=>h) (Or.inl ⟨by rfl,?_⟩) (by assumption) ?_;rotate_left
 · intro w hSw;(try dsimp only at hSw);go_simp;(try with_reducible rfl)
 try simp only[Act.put,List.setIfInBounds_toArray,List.set_cons_zero,List.set_cons_succ]
 refine aA (i:=9) (oi:=⟨some 12,_,_,_,_,_⟩) (v:=?_) rfl (by kernel_rfl) (by kernel_rfl) (by kernel_rfl) (by kernel_rfl) (fun _ _ _ h=>h) (Or.inl ⟨by rfl,?_⟩) (by assumption) ?_;rotate_left
 · intro w hSw;(try dsimp only at hSw);go_simp;(try with_reducible rfl)
 try simp only[Act.put,List.setIfInBounds_toArray,List.set_cons_zero,List.set_cons_succ]
 refine aA (i:=10) (oi:=⟨some 13,_,_,_,_,_⟩) (v:=?_) rfl (by kernel_rfl) (by kernel_rfl) (by kernel_rfl) (by kernel_rfl) (fun _ _ _ h=>h) (Or.inl ⟨by rfl,?_⟩) (by assumption) ?_;rotate_left
 · intro w hSw;(try dsimp only at hSw);go_simp;(try with_reducible rfl)
 try simp only[Act.put,List.setIfInBounds_toArray,List.set_cons_zero,List.set_cons_succ]
 refine aA (i:=12) (oi:=⟨some 15,_,_,_,_,_⟩) (v:=?_) rfl (by kernel_rfl) (by kernel_rfl) (by kernel_rfl) (by kernel_rfl) (fun _ _ _ h=>h) (Or.inl ⟨by rfl,?_⟩) (by assumption) ?_;rotate_left
 · intro w hSw;(try dsimp only at hSw);go_simp;(try with_reducible rfl)
 try simp only[Act.put,List.setIfInBounds_toArray,List.set_cons_zero,List.set_cons_succ]
 refine aA (i:=13) (oi:=⟨some 16,_,_,_,_,_⟩) (v:=?_) rfl (by kernel_rfl) (by kernel_rfl) (by kernel_rfl) (by kernel_rfl) (fun _ _ _ h=>h) (Or.inl ⟨by rfl,?_⟩) (by assumption) ?_;rotate_left
 · intro w hSw;(try dsimp only at hSw);go_simp;(try with_reducible rfl)
 try simp only[Act.put,List.setIfInBounds_toArray,List.set_cons_zero,List.set_cons_succ]
 refine aA (i:=15) (oi:=⟨some 18,_,_,_,_,_⟩) (v:=?_) rfl (by kernel_rfl) (by kernel_rfl) (by kernel_rfl) (by kernel_rfl) (fun _ _ _ h=>h) (Or.inl ⟨by rfl,?_⟩) (by assumption) ?_;rotate_left
 · intro w hSw;(try dsimp only at hSw);go_simp;(try with_reducible rfl)
 try simp only[Act.put,List.setIfInBounds_toArray,List.set_cons_zero,List.set_cons_succ]
 refine aA (i:=16) (oi:=⟨some 19,_,_,_,_,_⟩) (v:=?_) rfl (by kernel_rfl) (by kernel_rfl) (by kernel_rfl) (by kernel_rfl) (fun _ _ _ h=>h) (Or.inl ⟨by rfl,?_⟩) (by assumption) ?_;rotate_left
 · intro w hSw;(try dsimp only at hSw);go_simp;(try with_reducible rfl)
 try simp only[Act.put,List.setIfInBounds_toArray,List.set_cons_zero,List.set_cons_succ]
 refine dK (i:=2) (o:=⟨some 5,_,_,_,_,_⟩) (by kernel_rfl) rfl (fun K hK=>?_);rw[if_pos (by rfl)];go_simp;refine (EC (HI0.out _ (aI (World.grownBy.refl W none))) wY.out).mono ?_;rintro e w1 ⟨D0,k0,rfl,hown0,hg0⟩;have ou:Hid (W.grownBy w1 none):=ae (af (aI (World.grownBy.refl W none)) hg0 (.inl rfl));have aky:Hid (B≤w1.heap.size):=ae (Nat.le_trans wY.out ou.out.size);have PZ:Hid (w1.ownsRow W.heap.size 144 5 (.slice D0 n0 k0) n0 X0):=ae (cZ hown0 (Nat.le_refl _));clear hown0 hg0;refine hK.out _ _ (by with_reducible exact HS.out _ ou.out) (fun bI=>?_);clear hK K hHeld;have hHeld:=bI;clear bI;try simp only[Act.put,List.setIfInBounds_toArray,List.set_cons_zero,List.set_cons_succ]
 refine dK (i:=5) (o:=⟨some 8,_,_,_,_,_⟩) (by kernel_rfl) rfl (fun K hK=>?_);rw[if_pos (by rfl)];go_simp;refine (ED (HI1.out _ ou.out) aky.out).mono ?_;rintro e w2 ⟨D1,k1,rfl,hown1,hg1⟩;have HG2:Hid (W.grownBy w2 none):=ae (af ou.out hg1 (.inl rfl));have Xz:Hid (B≤w2.heap.size):=ae (Nat.le_trans wY.out HG2.out.size);have FX:Hid (w2.ownsRow W.heap.size 147 2 (.slice D1 n1 k1) n1 X1):=ae (cZ hown1 ou.out.size);replace PZ:=ae (ay PZ.out hg1 (fun g _ e=>nomatch e));clear hown1 hg1;refine hK.out _ _ (by with_reducible exact HS.out _ HG2.out) (fun bI=>?_);clear hK K hHeld;have hHeld:=bI;clear bI;try simp only[Act.put,List.setIfInBounds_toArray,List.set_cons_zero,List.set_cons_succ]
 refine dK (i:=8) (o:=⟨some 11,_,_,_,_,_⟩) (by kernel_rfl) rfl (fun K hK=>?_);rw[if_pos (by rfl)];go_simp;refine (EE (HI2.out _ HG2.out) Xz.out).mono ?_;rintro e w3 ⟨D2,k2,rfl,hown2,hg2⟩;have Zi:Hid (W.grownBy w3 none):=ae (af HG2.out hg2 (.inl rfl));have akz:Hid (B≤w3.heap.size):=ae (Nat.le_trans wY.out Zi.out.size);have xX:Hid (w3.ownsRow W.heap.size 150 2 (.slice D2 n2 k2) n2 X2):=ae (cZ hown2 HG2.out.size);replace PZ:=ae (ay PZ.out hg2 (fun g _ e=>nomatch e));replace FX:=ae (ay FX.out hg2 (fun g _ e=>nomatch e));clear hown2 hg2;refine hK.out _ _ (by with_reducible exact HS.out _ Zi.out) (fun bI=>?_);clear hK K hHeld;have hHeld:=bI;clear bI;try simp only[Act.put,List.setIfInBounds_toArray,List.set_cons_zero,List.set_cons_succ]
 refine dK (i:=11) (o:=⟨some 14,_,_,_,_,_⟩) (by kernel_rfl) rfl (fun K hK=>?_);rw[if_pos (by rfl)];go_simp;refine (vP (HI3.out _ Zi.out) akz.out).mono ?_;rintro e w4 ⟨D3,k3,rfl,hown3,hg3⟩;have NQ:Hid (W.grownBy w4 none):=ae (af Zi.out hg3 (.inl rfl));have akA:Hid (B≤w4.heap.size):=ae (Nat.le_trans wY.out NQ.out.size);have Bz:Hid (w4.ownsRow W.heap.size 9 1 (.slice D3 n3 k3) n3 X3):=ae (cZ hown3 Zi.out.size);replace PZ:=ae (ay PZ.out hg3 (fun g _ e=>nomatch e));replace FX:=ae (ay FX.out hg3 (fun g _ e=>nomatch e));replace xX:=ae (ay xX.out hg3 (fun g _ e=>nomatch e));clear hown3 hg3;refine hK.out _ _ (by with_reducible exact HS.out _ NQ.out) (fun bI=>?_);clear hK K hHeld;have hHeld:=bI;clear bI;try simp only[Act.put,List.setIfInBounds_toArray,List.set_cons_zero,List.set_cons_succ]
 refine dK (i:=14) (o:=⟨some 17,_,_,_,_,_⟩) (by kernel_rfl) rfl (fun K hK=>?_);rw[if_pos (by rfl)];go_simp;refine (vP (HI4.out _ NQ.out) akA.out).mono ?_;rintro e w5 ⟨D4,k4,rfl,hown4,hg4⟩;have JI:Hid (W.grownBy w5 none):=ae (af NQ.out hg4 (.inl rfl));have akB:Hid (B≤w5.heap.size):=ae (Nat.le_trans wY.out JI.out.size);have GH:Hid (w5.ownsRow W.heap.size 9 1 (.slice D4 n4 k4) n4 X4):=ae (cZ hown4 NQ.out.size);replace PZ:=ae (ay PZ.out hg4 (fun g _ e=>nomatch e));replace FX:=ae (ay FX.out hg4 (fun g _ e=>nomatch e));replace xX:=ae (ay xX.out hg4 (fun g _ e=>nomatch e));replace Bz:=ae (ay Bz.out hg4 (fun g _ e=>nomatch e));clear hown4 hg4;refine hK.out _ _ (by with_reducible exact HS.out _ JI.out) (fun bI=>?_);clear hK K hHeld;have hHeld:=bI;clear bI;try simp only[Act.put,List.setIfInBounds_toArray,List.set_cons_zero,List.set_cons_succ]
 refine dK (i:=17) (o:=⟨some 20,_,_,_,_,_⟩) (by kernel_rfl) rfl (fun K hK=>?_);rw[if_pos (by rfl)];go_simp;refine (EF (HI5.out _ JI.out) akB.out).mono ?_;rintro e w6 ⟨D5,k5,rfl,hown5,hg5⟩;have HG6:Hid (W.grownBy w6 none):=ae (af JI.out hg5 (.inl rfl));have apc:Hid (B≤w6.heap.size):=ae (Nat.le_trans wY.out HG6.out.size);have Kq:Hid (w6.ownsRow W.heap.size 154 3 (.slice D5 n5 k5) n5 X5):=ae (cZ hown5 JI.out.size);replace PZ:=ae (ay PZ.out hg5 (fun g _ e=>nomatch e));replace FX:=ae (ay FX.out hg5 (fun g _ e=>nomatch e));replace xX:=ae (ay xX.out hg5 (fun g _ e=>nomatch e));replace Bz:=ae (ay Bz.out hg5 (fun g _ e=>nomatch e));replace GH:=ae (ay GH.out hg5 (fun g _ e=>nomatch e));clear hown5 hg5;refine hK.out _ _ (by with_reducible exact HS.out _ HG6.out) (fun bI=>?_);clear hK K hHeld;have hHeld:=bI;clear bI;try simp only[Act.put,List.setIfInBounds_toArray,List.set_cons_zero,List.set_cons_succ]
 refine aA (i:=18) (oi:=⟨some 21,_,_,_,_,_⟩) (v:=?_) rfl (by kernel_rfl) (by kernel_rfl) (by kernel_rfl) (by kernel_rfl) (fun _ _ _ h=>h) (Or.inl ⟨by rfl,?_⟩) (by assumption) ?_;rotate_left
 · intro w hSw;(try dsimp only at hSw);go_simp;(try with_reducible rfl)
 try simp only[Act.put,List.setIfInBounds_toArray,List.set_cons_zero,List.set_cons_succ]
 refine vM (o:=⟨none,_,_,_,_,_⟩) (by kernel_rfl) rfl (fun K hK=>?_);rw[if_pos (by rfl)];have P5:=ae (HB1.out.grown HG6.out (fun e=>nomatch e));have z0:w6.cell? ⟨w.heap.size+1,0,none⟩=some (.slice none 0 0):=P5.out.cell 0;have z1:w6.cell? ⟨w.heap.size+1,1,none⟩=some (.slice none 0 0):=P5.out.cell 1;have z2:w6.cell? ⟨w.heap.size+1,2,none⟩=some (.slice none 0 0):=P5.out.cell 2;have z3:w6.cell? ⟨w.heap.size+1,3,none⟩=some (.slice none 0 0):=P5.out.cell 3;have z4:w6.cell? ⟨w.heap.size+1,4,none⟩=some (.slice none 0 0):=P5.out.cell 4;have z5:w6.cell? ⟨w.heap.size+1,5,none⟩=some (.slice none 0 0):=P5.out.cell 5;have y0:=P5.out.free 0;have y1:=P5.out.free 1;have y2:=P5.out.free 2;have y3:=P5.out.free 3;have y4:=P5.out.free 4;have y5:=P5.out.free 5;go_simp;refine hK.out _ _ ?_;clear hK K;try simp only[Act.put,List.setIfInBounds_toArray,List.set_cons_zero,List.set_cons_succ]
 refine pg (by kernel_rfl) ?_ _;obtain⟨q6,g6⟩:=Xy P5.out (Value.slice D0 n0 k0) (Value.slice D1 n1 k1) (Value.slice D2 n2 k2) (Value.slice D3 n3 k3) (Value.slice D4 n4 k4) (Value.slice D5 n5 k5) _ (Nat.le_refl _);generalize hwx:((((((w6.setCell ⟨w.heap.size+1,0,none⟩ (Value.slice D0 n0 k0)).setCell ⟨w.heap.size+1,1,none⟩ (Value.slice D1 n1 k1)).setCell ⟨w.heap.size+1,2,none⟩ (Value.slice D2 n2 k2)).setCell ⟨w.heap.size+1,3,none⟩ (Value.slice D3 n3 k3)).setCell ⟨w.heap.size+1,4,none⟩ (Value.slice D4 n4 k4)).setCell ⟨w.heap.size+1,5,none⟩ (Value.slice D5 n5 k5))=wx at q6 g6⊢;have r0:wx.cell? ⟨w.heap.size+1,0,none⟩=some (.slice D0 n0 k0):=q6.cell 0;have r1:wx.cell? ⟨w.heap.size+1,1,none⟩=some (.slice D1 n1 k1):=q6.cell 1;have r2:wx.cell? ⟨w.heap.size+1,2,none⟩=some (.slice D2 n2 k2):=q6.cell 2;have r3:wx.cell? ⟨w.heap.size+1,3,none⟩=some (.slice D3 n3 k3):=q6.cell 3;have r4:wx.cell? ⟨w.heap.size+1,4,none⟩=some (.slice D4 n4 k4):=q6.cell 4;have r5:wx.cell? ⟨w.heap.size+1,5,none⟩=some (.slice D5 n5 k5):=q6.cell 5;go_wp2_with fail;refine bodyPost_ret (v:= .agg #[Value.slice D0 n0 k0,Value.slice D1 n1 k1,Value.slice D2 n2 k2,Value.slice D3 n3 k3,Value.slice D4 n4 k4,Value.slice D5 n5 k5]) (by simp[results,Tryz.results34,go_sem,r0,r1,r2,r3,r4,r5]) rfl ?_
 have hk:∀(e sz n:Nat) (v:Value) (X:List Value),w6.ownsRow W.heap.size e sz v n X→wx.ownsRow w.heap.size e sz v n X:=fun e sz n v X h=>
  cZ (ay h g6 (fun x e1 e2=>by injection e2 with e2;have:=(h.lt x e1).1;omega)) (by omega)
 exact⟨D0,k0,D1,k1,D2,k2,D3,k3,D4,k4,D5,k5,rfl,⟨hk _ _ _ _ _ PZ.out,hk _ _ _ _ _ FX.out,hk _ _ _ _ _ xX.out,hk _ _ _ _ _ Bz.out,hk _ _ _ _ _ GH.out,hk _ _ _ _ _ Kq.out⟩,af (af Q9.out HG6.out (.inl rfl)) g6 (.inr ⟨_,rfl,by omega⟩)⟩
