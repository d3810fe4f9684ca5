/- Words. -/
import Derived.Test.YtfbkkgfkhhibfaaGreatUnR
import Derived.Great.BuildSlice
set_option linter.unusedVariables false
set_option maxRecDepth 100000
set_option maxHeartbeats 8000000
namespace Go.Proofs.YtfbkkgfkhhibfaaGreat
open Go Go.RowKit Iv
theorem ig {P:Program}{ops:Array Oper}{rest:List Oper}{o:Oper}{a:Act}{w:World}{Q:Exit->Act->World->Prop}(hg:o.guard=none)(t e:TypeId)(ho:o.op= .buildSlice t 0 #[])
 (q:TypeInfo) (u:P.underlying t=some (.slice e)) (d:P.info? e=some q)
 (h:∀w',w'=w.alloc (.cells #[] e)->wpList P ops Q rest (a.put o.dst (.slice (some ⟨w.heap.size,0,none⟩) 0 0)) w'):wpList P ops Q (o::rest) a w:=by refine Qx hg λK y=>?_;unfold Oper.wp execOp;have hr:(Instr.buildSlice t 0 #[]).run P w= .ok (.slice (some ⟨w.heap.size,0,none⟩) 0 0) (w.alloc (.cells #[] e)):=(by simp[Instr.buildSlice,jF u,sizeOf,typeInfo,d,newRow,Instr.fill];simp[show Array.range 0=#[] from by decide]);simp[ho,hr,Result.andThen];exact y _ _ (h _ rfl)
theorem lQ (w:World)(o:Obj):w.grownBy (w.alloc o) none:=dA (aW _ none)
theorem Nl:(Tryz.prog.info? 144).map (λi=>(i.zero.map λz=>z.cells.size,i.size,i.bytes))=some (some 5,5,48):=by kernel_rfl
theorem Gg (w:World)(B:Nat)(A:Option Addr)(n c:Nat)(xs:List Value)(D:Lies w B 5 A n xs)(hB:B<=w.heap.size)(ho:A=none->c=0)(h1:∀u∈xs,u.oneCell'=true)
 (hn:n<=maxLen) (J:n*48<=140737488355328):
 Calls Tryz.prog 55 #[.slice A n c] w λe w'=>∃A' L H,e= .returned (.slice A' L H)/\L=n/\w'.ownsRow w.heap.size 144 5 (.slice A' L H) n xs/\w.grownBy w' none:=by
 cases A with
 |
  none=>
  obtain rfl:=ho rfl;obtain rfl:n=0:=by
   rcases oI n with h0|h0;exact h0
   . obtain⟨I,h,_⟩:=D.2 h0
     cases h
  obtain rfl:xs=[]:=lS (by simpa using D.1);clear D ho h1 hn J;have qn:=λ(w:World)=>Lib.run_eql_slice_nil (P:=Tryz.prog) w 25 144 none 0 0 0 0 Tryz.underlying25;go_enter Tryz.func55,Tryz.ntmps55;go_wp2_with fail;go_ret;exact⟨none,0,0,rfl,rfl,dw _ _ _ _,aW w none⟩
 |
  some I=>
  obtain⟨a,hi,M⟩:∃a,Tryz.prog.info? 144=some a/\(a.zero.map (λz=>z.cells.size),a.size,a.bytes)=(some 5,5,48):=by
   have:=Nl
   cases hx:Tryz.prog.info? 144 with
   |none=>rw [hx] at this;cases this
   |some a=>rw [hx] at this;exact⟨a,rfl,by simpa using this⟩
  injection M with d M;injection M with E hz2;obtain⟨z,Y,G⟩:∃z,a.zero=some z/\z.cells.size=5:=by
   cases hx:a.zero with
   |none=>rw [hx] at d;cases d
   |some z=>rw [hx] at d;exact⟨z,rfl,by simpa using d⟩
  have Z:=ae hi;have N:=ae Y;have XH:=ae G;have O:=ae E;have R:=ae hz2;have HL:=ae D;have H1:=ae h1;have Yh:=ae ho;have h0:(0:Nat)<5:=(by omega);clear d E hz2 hi Y G D h1 ho;have qn:=λ(w:World)=>Lib.run_eql_slice_nil (P:=Tryz.prog) w 25 144 (some I) n c 0 0 Tryz.underlying25;go_enter Tryz.func55,Tryz.ntmps55
  go_wp2_with (first
   |(at_builtin;refine dn _ rfl (.tmp 5) (.tmp 6) _ rfl w.heap.size 144 a z 5 48 Tryz.underlying25 Z.o N.o O.o R.o XH.o h0 _ 0 [] rfl HE.o B (some I) n c xs rfl U.o (λe=>nomatch e) H1.o (by omega) (by omega) vZ.o ?_;intro v2 w2 q V mW)
   |(
    refine ig rfl _ 144 rfl a Tryz.underlying25 Z.o ?_;intro w1 y;have HE:Hid (w1.ownsRow w.heap.size 144 5 (.slice (some ⟨w.heap.size,0,none⟩) 0 0) 0 []):=ae (by rw[y];exact zf w #[] 0 (ak _) (ay _) (by simp));have X:Hid (w.grownBy w1 none):=ae (by rw[y];exact lQ w _);have vZ:Hid (w.heap.size<=w1.heap.size):=ae X.o.size;have U:Hid (Lies w1 B 5 (some I) n xs):=ae (HL.o.grown X.o hB nofun);clear y))
  go_ret;obtain⟨A',H,hv,_⟩:=ai q;exact⟨A',0+n,H,by rw[hv];rfl,by omega,by rw[<-hv];simpa using q,af X.o V (.inr ⟨_,rfl,ak _⟩)⟩
theorem Np:(Tryz.prog.info? 147).map (λi=>(i.zero.map λz=>z.cells.size,i.size,i.bytes))=some (some 2,2,24):=by kernel_rfl
theorem Gh (w:World)(B:Nat)(A:Option Addr)(n c:Nat)(xs:List Value)(D:Lies w B 2 A n xs)(hB:B<=w.heap.size)(ho:A=none->c=0)(h1:∀u∈xs,u.oneCell'=true)
 (hn:n<=maxLen) (J:n*24<=140737488355328):
 Calls Tryz.prog 56 #[.slice A n c] w λe w'=>∃A' L H,e= .returned (.slice A' L H)/\L=n/\w'.ownsRow w.heap.size 147 2 (.slice A' L H) n xs/\w.grownBy w' none:=by
 cases A with
 |
  none=>
  obtain rfl:=ho rfl;obtain rfl:n=0:=by
   rcases oI n with h0|h0;exact h0
   . obtain⟨I,h,_⟩:=D.2 h0
     cases h
  obtain rfl:xs=[]:=lS (by simpa using D.1);clear D ho h1 hn J;have qn:=λ(w:World)=>Lib.run_eql_slice_nil (P:=Tryz.prog) w 26 147 none 0 0 0 0 Tryz.underlying26;go_enter Tryz.func56,Tryz.ntmps56;go_wp2_with fail;go_ret;exact⟨none,0,0,rfl,rfl,dw _ _ _ _,aW w none⟩
 |
  some I=>
  obtain⟨a,hi,M⟩:∃a,Tryz.prog.info? 147=some a/\(a.zero.map (λz=>z.cells.size),a.size,a.bytes)=(some 2,2,24):=by
   have:=Np
   cases hx:Tryz.prog.info? 147 with
   |none=>rw [hx] at this;cases this
   |some a=>rw [hx] at this;exact⟨a,rfl,by simpa using this⟩
  injection M with d M;injection M with E hz2;obtain⟨z,Y,G⟩:∃z,a.zero=some z/\z.cells.size=2:=by
   cases hx:a.zero with
   |none=>rw [hx] at d;cases d
   |some z=>rw [hx] at d;exact⟨z,rfl,by simpa using d⟩
  have Z:=ae hi;have N:=ae Y;have XH:=ae G;have O:=ae E;have R:=ae hz2;have HL:=ae D;have H1:=ae h1;have Yh:=ae ho;have h0:(0:Nat)<2:=(by omega);clear d E hz2 hi Y G D h1 ho;have qn:=λ(w:World)=>Lib.run_eql_slice_nil (P:=Tryz.prog) w 26 147 (some I) n c 0 0 Tryz.underlying26;go_enter Tryz.func56,Tryz.ntmps56
  go_wp2_with (first
   |(at_builtin;refine dn _ rfl (.tmp 5) (.tmp 6) _ rfl w.heap.size 147 a z 2 24 Tryz.underlying26 Z.o N.o O.o R.o XH.o h0 _ 0 [] rfl HE.o B (some I) n c xs rfl U.o (λe=>nomatch e) H1.o (by omega) (by omega) vZ.o ?_;intro v2 w2 q V mW)
   |(
    refine ig rfl _ 147 rfl a Tryz.underlying26 Z.o ?_;intro w1 y;have HE:Hid (w1.ownsRow w.heap.size 147 2 (.slice (some ⟨w.heap.size,0,none⟩) 0 0) 0 []):=ae (by rw[y];exact zf w #[] 0 (ak _) (ay _) (by simp));have X:Hid (w.grownBy w1 none):=ae (by rw[y];exact lQ w _);have vZ:Hid (w.heap.size<=w1.heap.size):=ae X.o.size;have U:Hid (Lies w1 B 2 (some I) n xs):=ae (HL.o.grown X.o hB nofun);clear y))
  go_ret;obtain⟨A',H,hv,_⟩:=ai q;exact⟨A',0+n,H,by rw[hv];rfl,by omega,by rw[<-hv];simpa using q,af X.o V (.inr ⟨_,rfl,ak _⟩)⟩
theorem Nq:(Tryz.prog.info? 150).map (λi=>(i.zero.map λz=>z.cells.size,i.size,i.bytes))=some (some 2,2,24):=by kernel_rfl
theorem Gl (w:World)(B:Nat)(A:Option Addr)(n c:Nat)(xs:List Value)(D:Lies w B 2 A n xs)(hB:B<=w.heap.size)(ho:A=none->c=0)(h1:∀u∈xs,u.oneCell'=true)
 (hn:n<=maxLen) (J:n*24<=140737488355328):
 Calls Tryz.prog 57 #[.slice A n c] w λe w'=>∃A' L H,e= .returned (.slice A' L H)/\L=n/\w'.ownsRow w.heap.size 150 2 (.slice A' L H) n xs/\w.grownBy w' none:=by
 cases A with
 |
  none=>
  obtain rfl:=ho rfl;obtain rfl:n=0:=by
   rcases oI n with h0|h0;exact h0
   . obtain⟨I,h,_⟩:=D.2 h0
     cases h
  obtain rfl:xs=[]:=lS (by simpa using D.1);clear D ho h1 hn J;have qn:=λ(w:World)=>Lib.run_eql_slice_nil (P:=Tryz.prog) w 27 150 none 0 0 0 0 Tryz.underlying27;go_enter Tryz.func57,Tryz.ntmps57;go_wp2_with fail;go_ret;exact⟨none,0,0,rfl,rfl,dw _ _ _ _,aW w none⟩
 |
  some I=>
  obtain⟨a,hi,M⟩:∃a,Tryz.prog.info? 150=some a/\(a.zero.map (λz=>z.cells.size),a.size,a.bytes)=(some 2,2,24):=by
   have:=Nq
   cases hx:Tryz.prog.info? 150 with
   |none=>rw [hx] at this;cases this
   |some a=>rw [hx] at this;exact⟨a,rfl,by simpa using this⟩
  injection M with d M;injection M with E hz2;obtain⟨z,Y,G⟩:∃z,a.zero=some z/\z.cells.size=2:=by
   cases hx:a.zero with
   |none=>rw [hx] at d;cases d
   |some z=>rw [hx] at d;exact⟨z,rfl,by simpa using d⟩
  have Z:=ae hi;have N:=ae Y;have XH:=ae G;have O:=ae E;have R:=ae hz2;have HL:=ae D;have H1:=ae h1;have Yh:=ae ho;have h0:(0:Nat)<2:=(by omega);clear d E hz2 hi Y G D h1 ho;have qn:=λ(w:World)=>Lib.run_eql_slice_nil (P:=Tryz.prog) w 27 150 (some I) n c 0 0 Tryz.underlying27;go_enter Tryz.func57,Tryz.ntmps57
  go_wp2_with (first
   |(at_builtin;refine dn _ rfl (.tmp 5) (.tmp 6) _ rfl w.heap.size 150 a z 2 24 Tryz.underlying27 Z.o N.o O.o R.o XH.o h0 _ 0 [] rfl HE.o B (some I) n c xs rfl U.o (λe=>nomatch e) H1.o (by omega) (by omega) vZ.o ?_;intro v2 w2 q V mW)
   |(
    refine ig rfl _ 150 rfl a Tryz.underlying27 Z.o ?_;intro w1 y;have HE:Hid (w1.ownsRow w.heap.size 150 2 (.slice (some ⟨w.heap.size,0,none⟩) 0 0) 0 []):=ae (by rw[y];exact zf w #[] 0 (ak _) (ay _) (by simp));have X:Hid (w.grownBy w1 none):=ae (by rw[y];exact lQ w _);have vZ:Hid (w.heap.size<=w1.heap.size):=ae X.o.size;have U:Hid (Lies w1 B 2 (some I) n xs):=ae (HL.o.grown X.o hB nofun);clear y))
  go_ret;obtain⟨A',H,hv,_⟩:=ai q;exact⟨A',0+n,H,by rw[hv];rfl,by omega,by rw[<-hv];simpa using q,af X.o V (.inr ⟨_,rfl,ak _⟩)⟩
theorem Qy:(Tryz.prog.info? 9).map (λi=>(i.zero.map λz=>z.cells.size,i.size,i.bytes))=some (some 1,1,16):=by kernel_rfl
theorem Ji (w:World)(B:Nat)(A:Option Addr)(n c:Nat)(xs:List Value)(D:Lies w B 1 A n xs)(hB:B<=w.heap.size)(ho:A=none->c=0)(h1:∀u∈xs,u.oneCell'=true)
 (hn:n<=maxLen) (J:n*16<=140737488355328):
 Calls Tryz.prog 58 #[.slice A n c] w λe w'=>∃A' L H,e= .returned (.slice A' L H)/\L=n/\w'.ownsRow w.heap.size 9 1 (.slice A' L H) n xs/\w.grownBy w' none:=by
 cases A with
 |
  none=>
  obtain rfl:=ho rfl;obtain rfl:n=0:=by
   rcases oI n with h0|h0;exact h0
   . obtain⟨I,h,_⟩:=D.2 h0
     cases h
  obtain rfl:xs=[]:=lS (by simpa using D.1);clear D ho h1 hn J;have qn:=λ(w:World)=>Lib.run_eql_slice_nil (P:=Tryz.prog) w 28 9 none 0 0 0 0 Tryz.underlying28;go_enter Tryz.func58,Tryz.ntmps58;go_wp2_with fail;go_ret;exact⟨none,0,0,rfl,rfl,dw _ _ _ _,aW w none⟩
 |
  some I=>
  obtain⟨a,hi,M⟩:∃a,Tryz.prog.info? 9=some a/\(a.zero.map (λz=>z.cells.size),a.size,a.bytes)=(some 1,1,16):=by
   have:=Qy
   cases hx:Tryz.prog.info? 9 with
   |none=>rw [hx] at this;cases this
   |some a=>rw [hx] at this;exact⟨a,rfl,by simpa using this⟩
  injection M with d M;injection M with E hz2;obtain⟨z,Y,G⟩:∃z,a.zero=some z/\z.cells.size=1:=by
   cases hx:a.zero with
   |none=>rw [hx] at d;cases d
   |some z=>rw [hx] at d;exact⟨z,rfl,by simpa using d⟩
  have Z:=ae hi;have N:=ae Y;have XH:=ae G;have O:=ae E;have R:=ae hz2;have HL:=ae D;have H1:=ae h1;have Yh:=ae ho;have h0:(0:Nat)<1:=(by omega);clear d E hz2 hi Y G D h1 ho;have qn:=λ(w:World)=>Lib.run_eql_slice_nil (P:=Tryz.prog) w 28 9 (some I) n c 0 0 Tryz.underlying28;go_enter Tryz.func58,Tryz.ntmps58
  go_wp2_with (first
   |(at_builtin;refine dn _ rfl (.tmp 5) (.tmp 6) _ rfl w.heap.size 9 a z 1 16 Tryz.underlying28 Z.o N.o O.o R.o XH.o h0 _ 0 [] rfl HE.o B (some I) n c xs rfl U.o (λe=>nomatch e) H1.o (by omega) (by omega) vZ.o ?_;intro v2 w2 q V mW)
   |(
    refine ig rfl _ 9 rfl a Tryz.underlying28 Z.o ?_;intro w1 y;have HE:Hid (w1.ownsRow w.heap.size 9 1 (.slice (some ⟨w.heap.size,0,none⟩) 0 0) 0 []):=ae (by rw[y];exact zf w #[] 0 (ak _) (ay _) (by simp));have X:Hid (w.grownBy w1 none):=ae (by rw[y];exact lQ w _);have vZ:Hid (w.heap.size<=w1.heap.size):=ae X.o.size;have U:Hid (Lies w1 B 1 (some I) n xs):=ae (HL.o.grown X.o hB nofun);clear y))
  go_ret;obtain⟨A',H,hv,_⟩:=ai q;exact⟨A',0+n,H,by rw[hv];rfl,by omega,by rw[<-hv];simpa using q,af X.o V (.inr ⟨_,rfl,ak _⟩)⟩
theorem Nr:(Tryz.prog.info? 154).map (λi=>(i.zero.map λz=>z.cells.size,i.size,i.bytes))=some (some 3,3,24):=by kernel_rfl
theorem Gm (w:World)(B:Nat)(A:Option Addr)(n c:Nat)(xs:List Value)(D:Lies w B 3 A n xs)(hB:B<=w.heap.size)(ho:A=none->c=0)(h1:∀u∈xs,u.oneCell'=true)
 (hn:n<=maxLen) (J:n*24<=140737488355328):
 Calls Tryz.prog 59 #[.slice A n c] w λe w'=>∃A' L H,e= .returned (.slice A' L H)/\L=n/\w'.ownsRow w.heap.size 154 3 (.slice A' L H) n xs/\w.grownBy w' none:=by
 cases A with
 |
  none=>
  obtain rfl:=ho rfl;obtain rfl:n=0:=by
   rcases oI n with h0|h0;exact h0
   . obtain⟨I,h,_⟩:=D.2 h0
     cases h
  obtain rfl:xs=[]:=lS (by simpa using D.1);clear D ho h1 hn J;have qn:=λ(w:World)=>Lib.run_eql_slice_nil (P:=Tryz.prog) w 29 154 none 0 0 0 0 Tryz.underlying29;go_enter Tryz.func59,Tryz.ntmps59;go_wp2_with fail;go_ret;exact⟨none,0,0,rfl,rfl,dw _ _ _ _,aW w none⟩
 |
  some I=>
  obtain⟨a,hi,M⟩:∃a,Tryz.prog.info? 154=some a/\(a.zero.map (λz=>z.cells.size),a.size,a.bytes)=(some 3,3,24):=by
   have:=Nr
   cases hx:Tryz.prog.info? 154 with
   |none=>rw [hx] at this;cases this
   |some a=>rw [hx] at this;exact⟨a,rfl,by simpa using this⟩
  injection M with d M;injection M with E hz2;obtain⟨z,Y,G⟩:∃z,a.zero=some z/\z.cells.size=3:=by
   cases hx:a.zero with
   |none=>rw [hx] at d;cases d
   |some z=>rw [hx] at d;exact⟨z,rfl,by simpa using d⟩
  have Z:=ae hi;have N:=ae Y;have XH:=ae G;have O:=ae E;have R:=ae hz2;have HL:=ae D;have H1:=ae h1;have Yh:=ae ho;have h0:(0:Nat)<3:=(by omega);clear d E hz2 hi Y G D h1 ho;have qn:=λ(w:World)=>Lib.run_eql_slice_nil (P:=Tryz.prog) w 29 154 (some I) n c 0 0 Tryz.underlying29;go_enter Tryz.func59,Tryz.ntmps59
  go_wp2_with (first
   |(at_builtin;refine dn _ rfl (.tmp 5) (.tmp 6) _ rfl w.heap.size 154 a z 3 24 Tryz.underlying29 Z.o N.o O.o R.o XH.o h0 _ 0 [] rfl HE.o B (some I) n c xs rfl U.o (λe=>nomatch e) H1.o (by omega) (by omega) vZ.o ?_;intro v2 w2 q V mW)
   |(
    refine ig rfl _ 154 rfl a Tryz.underlying29 Z.o ?_;intro w1 y;have HE:Hid (w1.ownsRow w.heap.size 154 3 (.slice (some ⟨w.heap.size,0,none⟩) 0 0) 0 []):=ae (by rw[y];exact zf w #[] 0 (ak _) (ay _) (by simp));have X:Hid (w.grownBy w1 none):=ae (by rw[y];exact lQ w _);have vZ:Hid (w.heap.size<=w1.heap.size):=ae X.o.size;have U:Hid (Lies w1 B 3 (some I) n xs):=ae (HL.o.grown X.o hB nofun);clear y))
  go_ret;obtain⟨A',H,hv,_⟩:=ai q;exact⟨A',0+n,H,by rw[hv];rfl,by omega,by rw[<-hv];simpa using q,af X.o V (.inr ⟨_,rfl,ak _⟩)⟩
