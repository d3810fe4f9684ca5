/- Words. -/
import Derived.Test.YtfbkkgfkhhibfaaGreatOpenRec
import Derived.Test.YtfbkkgfkhhibfaaGreatPlnR
set_option linter.unusedVariables false
set_option maxRecDepth 100000
set_option maxHeartbeats 8000000
namespace Go.Proofs.YtfbkkgfkhhibfaaGreat
open Go Go.RowKit Go.ChangeShapes Go.WideShapes Go.ChangeAt Iv
section
variable {H : Type} {enc : TypeId × Value -> H} {W : World} {held : Bool}
end
theorem BA:Tryz.prog.cellsOf 57=4:=by kernel_rfl
theorem ug:Tryz.prog.cellsOf 5=1:=by kernel_rfl
theorem Gf:Tryz.prog.cellsOf 22=1:=by kernel_rfl
section
variable {H : Type} {enc : TypeId × Value -> H} {W : World} {held : Bool}
theorem EK {v:Value}{d:DataW H}{p:List MemPlace}{base:Nat}(J:Value.okWide Tryz.prog W .any base 57 v)(h:DataW.Trod enc Tryz.prog W 0 (λ_=>true) held 57 v d p):
 ∃(a b:Int) (A1:Option Addr) (n1 c1:Nat) (xs:Bytes) (A2:Option Addr) (n2 c2:Nat) (ys:Bytes),v= .agg #[.int .u8 a,.int .u8 b,.slice A1 n1 c1,.slice A2 n2 c2]/\(0<=a/\a<=255)/\(0<=b/\b<=255)/\(Lies W W.heap.size 1 A1 n1 (xs.map bv)/\n1<=c1/\c1<=maxLen/\(A1=none->c1=0))/\(Lies W W.heap.size 1 A2 n2 (ys.map bv)/\n2<=c2/\c2<=maxLen/\(A2=none->c2=0)):=by
 obtain⟨cs,rfl,u⟩:=okWide_struct Tryz.underlying57 J;obtain⟨fuel,hf⟩:=h;rw[BA] at u;obtain⟨xs,n,_,_,_,y,hg⟩:=DataW.trod_struct Tryz.underlying57 hf;obtain⟨l⟩:=cs
 match l,u,xs,y with
 |
  [c0,c1,c2,c3],_,[y0,y1,y2,y3],_=>
  have A:=hg 0 _ rfl;have B:=hg 1 _ rfl;have D:=hg 2 _ rfl;have E:=hg 3 _ rfl;simp only[Value.cells,ug,Gf,List.getElem_toArray,List.getElem_cons_zero,Q3,CY,Zm,Kt,List.take_zero,uU,Q4] at A B D E;obtain⟨a0,e0,_,w0⟩:=DataW.trod_int Tryz.underlying5 A;obtain⟨a1,e1,_,w1⟩:=DataW.trod_int Tryz.underlying5 B;obtain⟨A2,n2,L,N,G,l2,u2,O,o2⟩:=qZ Tryz.underlying22 Tryz.underlying5 ug D;obtain⟨A3,n3,U,V,I,l3,u3,v3,o3⟩:=qZ Tryz.underlying22 Tryz.underlying5 ug E;simp only[Cm,vC] at e0 e1 G I;subst e0 e1 G I;exact⟨a0,a1,A2,n2,L,N,A3,n3,U,V,rfl,Ku w0,Ku w1,⟨l2,u2,O,o2⟩,⟨l3,u3,v3,o3⟩⟩
end
