/- Words. -/
import Derived.Test.YtfbkkgfkhhibfaaGreatTrd
import Derived.ProofKit
import Derived.OpenShut
import Derived.ChangeOld
set_option linter.unusedVariables false
set_option maxRecDepth 100000
set_option maxHeartbeats 8000000
namespace Iv
open Go Go.RowKit Go.ChangeShapes Go.WideShapes Go.ChangeAt
open Go.ChangeMaps (open_string shut_string)
section
variable {H : Type} {enc : TypeId × Value -> H} {P : Program} {W : World} {held : Bool}
theorem LV {n:Int}(h:(Lit.int .u8 n).wf=true):0<=n/\n<=255:=by simp[Lit.wf,IntKind.min,IntKind.max,IntKind.signed,IntKind.bits] at h;omega
theorem Hf {k:IntKind}{a:Addr}{len cap:Nat}{zs:List Int}(B:len<=cap)(D:zs.length=cap)
 (hc:∀i,i<zs.length->W.cell? (a.add i)=some (.int k (zs.getD i 0))):Lies W W.heap.size 1 (some a) len ((zs.take len).map (Value.int k)):=by
 refine⟨by simp;omega,λhn=>⟨a,rfl,?_,λj u q=>?_⟩⟩;have:=Hq W _ (hc 0 (by omega));rwa [addBlock] at this
 . simp only[bV,sV,mZ] at q;obtain⟨z,d,rfl⟩:=q;split at d;have y:j<zs.length:=(dF.1 d).1;rw[hc j y];simp[List.getD,d]
   cases d
theorem P8 (zs:List Int)(h:∀n∈zs,(Lit.int .u8 n).wf=true):∃xs:Bytes,zs.map (Value.int .u8)=xs.map bv:=by refine⟨zs.map λn=>UInt8.ofNat n.toNat,?_⟩;rw[xq];refine TG λn hn=>?_;have:=LV (h n hn);show _=bv _;unfold bv;rw[aW (by omega),Int.toNat_of_nonneg this.1]
theorem rf {t e:TypeId}{fuel:Nat}{cs:List Value}{x:DataW H×List MemPlace}(d:P.underlying t=some (.slice e))(he:P.underlying e=some (.int .u8))(hc:P.cellsOf e=1)
 (h:DataW.trod enc P W 0 (λ_=>true) held fuel t cs=some x):
 ∃A n c,∃xs:Bytes,cs=[.slice A n c]/\Lies W W.heap.size 1 A n (xs.map bv)/\n<=c/\c<=maxLen/\(A=none->c=0):=by rcases open_ints d he hc h with ⟨rfl,_⟩|⟨a,len,cap,zs,rfl,_,hl,hm,hz,_,hcell,hw⟩;exact⟨none,0,0,[],rfl,Lies.nil,au _,ay _,λ_=>rfl⟩;obtain⟨xs,hx⟩:=P8 (zs.take len) (λn hn=>hw n (LD hn));refine⟨some a,len,cap,xs,rfl,?_,hl,hm,λe=>by cases e⟩;rw[<-hx];exact Hf hl (by simpa using hz) hcell
end
end Iv
namespace Go.Proofs.YtfbkkgfkhhibfaaGreat
open Go Go.RowKit Go.ChangeShapes Go.WideShapes Go.ChangeAt Iv
section
variable {H : Type} {enc : TypeId × Value -> H} {W : World} {held : Bool}
end
section
variable {H : Type} {enc : TypeId × Value -> H} {W : World} {held : Bool}
end
theorem CV:Tryz.prog.cellsOf 57=4:=by kernel_rfl
theorem vk:Tryz.prog.cellsOf 5=1:=by kernel_rfl
theorem Ha:Tryz.prog.cellsOf 22=1:=by kernel_rfl
section
variable {H : Type} {enc : TypeId × Value -> H} {W : World} {held : Bool}
theorem Ea {v:Value}{d:DataW H}{p:List MemPlace}{base:Nat}(J:Value.okWide Tryz.prog W .any base 57 v)(h:DataW.Trod enc Tryz.prog W 0 (λ_=>true) held 57 v d p):
 ∃(a b:Int) (A1:Option Addr) (n1 c1:Nat) (xs:Bytes) (A2:Option Addr) (n2 c2:Nat) (ys:Bytes),v= .agg #[.int .u8 a,.int .u8 b,.slice A1 n1 c1,.slice A2 n2 c2]/\(0<=a/\a<=255)/\(0<=b/\b<=255)/\(Lies W W.heap.size 1 A1 n1 (xs.map bv)/\n1<=c1/\c1<=maxLen/\(A1=none->c1=0))/\(Lies W W.heap.size 1 A2 n2 (ys.map bv)/\n2<=c2/\c2<=maxLen/\(A2=none->c2=0)):=by
 obtain⟨cs,rfl,q⟩:=okWide_struct Tryz.underlying57 J;obtain⟨fuel,hf⟩:=h;rw[CV] at q;obtain⟨xs,n,_,_,_,u,hg⟩:=DataW.trod_struct Tryz.underlying57 hf;obtain⟨l⟩:=cs
 match l,q,xs,u with
 |
  [c0,c1,c2,c3],_,[y0,y1,y2,y3],_=>
  have y:=hg 0 _ rfl;have B:=hg 1 _ rfl;have D:=hg 2 _ rfl;have E:=hg 3 _ rfl;simp only[Value.cells,vk,Ha,List.getElem_toArray,List.getElem_cons_zero,TU,Eb,aaY,LU,List.take_zero,oZ,Lr] at y B D E;obtain⟨a0,e0,_,w0⟩:=DataW.trod_int Tryz.underlying5 y;obtain⟨a1,e1,_,w1⟩:=DataW.trod_int Tryz.underlying5 B;obtain⟨A2,n2,L,M,G,l2,u2,N,o2⟩:=rf Tryz.underlying22 Tryz.underlying5 vk D;obtain⟨A3,n3,O,R,I,l3,u3,v3,o3⟩:=rf Tryz.underlying22 Tryz.underlying5 vk E;simp only[tX,and_true] at e0 e1 G I;subst e0 e1 G I;exact⟨a0,a1,A2,n2,L,M,A3,n3,O,R,rfl,LV w0,LV w1,⟨l2,u2,N,o2⟩,⟨l3,u3,v3,o3⟩⟩
end
