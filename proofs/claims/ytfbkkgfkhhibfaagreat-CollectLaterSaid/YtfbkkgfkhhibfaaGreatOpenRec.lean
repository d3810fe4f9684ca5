/- Words. -/
import Derived.Test.YtfbkkgfkhhibfaaGreatFits
import Derived.ProofKit
import Derived.OpenShut
import Derived.ChangeOld
set_option linter.unusedVariables false
namespace Iv
open Go Go.RowKit Go.ChangeShapes Go.WideShapes Go.ChangeAt
open Go.ChangeMaps (open_string shut_string)
section
variable {H : Type} {enc : TypeId × Value -> H} {P : Program} {W : World} {held : Bool}
theorem Ku {n:Int}(h:(Lit.int .u8 n).wf=true):0<=n/\n<=255:=by simp[Lit.wf,IntKind.min,IntKind.max,IntKind.signed,IntKind.bits] at h;omega
theorem Gl {k:IntKind}{a:Addr}{len cap:Nat}{zs:List Int}(B:len<=cap)(D:zs.length=cap)
 (hc:∀i,i<zs.length->W.cell? (a.add i)=some (.int k (zs.getD i 0))):Lies W W.heap.size 1 (some a) len ((zs.take len).map (Value.int k)):=by
 refine⟨by simp;omega,λhn=>⟨a,rfl,?_,λj u y=>?_⟩⟩;have:=Gt W _ (hc 0 (by omega));rwa [addBlock] at this
 . simp only[bK,mi,mX] at y;obtain⟨z,d,rfl⟩:=y;split at d;have A:j<zs.length:=(bV.1 d).1;rw[hc j A];simp[List.getD,d]
   cases d
theorem Oy (zs:List Int)(h:∀n∈zs,(Lit.int .u8 n).wf=true):∃xs:Bytes,zs.map (Value.int .u8)=xs.map bv:=by refine⟨zs.map λn=>UInt8.ofNat n.toNat,?_⟩;rw[vz];refine QZ λn hn=>?_;have:=Ku (h n hn);show _=bv _;unfold bv;rw[aO (by omega),Int.toNat_of_nonneg this.1]
theorem qZ {t e:TypeId}{fuel:Nat}{cs:List Value}{x:DataW H×List MemPlace}(d:P.underlying t=some (.slice e))(he:P.underlying e=some (.int .u8))(hc:P.cellsOf e=1)
 (h:DataW.trod enc P W 0 (λ_=>true) held fuel t cs=some x):
 ∃A n c,∃xs:Bytes,cs=[.slice A n c]/\Lies W W.heap.size 1 A n (xs.map bv)/\n<=c/\c<=maxLen/\(A=none->c=0):=by rcases open_ints d he hc h with ⟨rfl,_⟩|⟨a,len,cap,zs,rfl,_,hl,hm,hz,_,hcell,hw⟩;exact⟨none,0,0,[],rfl,Lies.nil,ax _,aG _,λ_=>rfl⟩;obtain⟨xs,hx⟩:=Oy (zs.take len) (λn hn=>hw n (J9 hn));refine⟨some a,len,cap,xs,rfl,?_,hl,hm,λe=>by cases e⟩;rw[<-hx];exact Gl hl (by simpa using hz) hcell
end
end Iv
namespace Go.Proofs.YtfbkkgfkhhibfaaGreat
open Go Go.RowKit Go.ChangeShapes Go.WideShapes Go.ChangeAt Iv
section
variable {H : Type} {enc : TypeId × Value -> H} {W : World} {held : Bool}
end
