/- Words. -/
import Derived.Test.YtfbkkgfkhhibfaaGreatInit
namespace Go.Proofs.YtfbkkgfkhhibfaaGreat
open Go
theorem Py:laidOutB Tryz.prog=true:=by kernel_rfl
theorem Le:mapsRowed Tryz.prog=true:=by kernel_rfl
theorem Lh:(Tryz.prog.stops== [])=true:=by kernel_rfl
theorem Lj:(Tryz.prog.stopKnobs== [])=true:=by kernel_rfl
theorem Lm:Tryz.prog.stopsHeard=true:=by kernel_rfl
theorem Ll:Tryz.prog.plainKeys=true:=by kernel_rfl
theorem Ji (r:List Char):wordsSigns (Char.ofNat 32 :: r)= [] :: wordsSigns r:=rfl
theorem MM (c:Char)(hc:c≠Char.ofNat 32)(x w:List Char)(ws:List (List Char))(hx:wordsSigns x=w :: ws):wordsSigns (c :: x)=(c :: w) :: ws:=by
 rw[wordsSigns]
 · rw[hx]
 · intro h;exact hc h
theorem qR (w:List Char)(h:∀c∈w,c≠Char.ofNat 32)(r:List Char):wordsSigns (w++Char.ofNat 32 :: r)=w :: wordsSigns r:=by
 induction w with
 | nil=>exact Ji r
 | cons c w ih=>exact MM c (h c (by simp)) _ _ _ (ih fun d hd=>h d (by simp[hd]))
def Jj:List Char:= [Char.ofNat 104,Char.ofNat 97,Char.ofNat 114,Char.ofNat 110,Char.ofNat 101,Char.ofNat 115,Char.ofNat 115]
def Fj:List Char:=(mM.drop 8).take 64
def iq:List Char:= [Char.ofNat 99,Char.ofNat 117,Char.ofNat 116]
def uF:List Char:=mM.drop 77
theorem MN:mM=Jj++Char.ofNat 32 ::(Fj++Char.ofNat 32 ::(iq++Char.ofNat 32 :: uF)):=by kernel_rfl
theorem Qz:(Fj.all fun c=>decide (c≠Char.ofNat 32))=true:=by kernel_rfl
theorem qU:behindMainWord (wordsSigns Tryz.prog.initOrder.toList)=iq :: wordsSigns uF:=by
 rw[QA,MN,qR Jj (by decide),qR Fj (fun c hc=>by have:=List.all_eq_true.1 Qz c hc;simpa using this),qR iq (by decide)];generalize wordsSigns uF=R;kernel_rfl
theorem Yh (R:List (List Char))(P:Program)(h:behindMainWord (wordsSigns P.initOrder.toList)=iq :: R):P.make=some .cut:=by
 unfold Program.make;rw[h];dsimp only;rw[if_neg (by decide+kernel)];rw[if_pos (by rw[show (iq=="cut".toList)=true from by decide+kernel];rfl)]
theorem Pz:Tryz.prog.make=some .cut:=Yh _ _ qU
theorem C9 (R:List (List Char)):stripLifts liftWords (iq :: R)=([],iq :: R):=by kernel_rfl
theorem Vr (R:List (List Char))(P:Program)(h:behindMainWord (wordsSigns P.initOrder.toList)=iq :: R):P.liftsFinal=false:=by
 unfold Program.liftsFinal Program.headLifts;rw[h];dsimp only;rw[C9];kernel_rfl
theorem Lr:Tryz.prog.liftsFinal=false:=Vr _ _ qU
theorem Vs (R:List (List Char))(P:Program)(h:behindMainWord (wordsSigns P.initOrder.toList)=iq :: R)(h1:P.laysLater=false)(h2:P.bearsReflect=false)(h3:P.doorFits []=true):P.mayEnter=true:=by
 unfold Program.mayEnter;rw[h];dsimp only;rw[C9,h1,h2,h3];dsimp only
 rw[show (iq=="gc".toList)=false from by decide+kernel,show (iq=="spec".toList)=false from by decide+kernel,show (iq=="carried".toList)=false from by decide+kernel,
  show ((iq :: R).head?==some "cut".toList)=true from by kernel_rfl]
 kernel_rfl
theorem MO:Tryz.prog.laysLater=false:=by kernel_rfl
theorem Fp:Tryz.prog.bearsReflect=false:=by kernel_rfl
theorem QB:Tryz.prog.doorFits []=true:=by kernel_rfl
theorem Lp:Tryz.prog.mayEnter=true:=Vs _ _ qU MO Fp QB
theorem Px (P:Program)(f:FuncId)(fn:Func)(s:ChangeSpec)(c:OpenClaim)(h0:c.wf (OpenSpec.ofChange s)=true)(h1:laidOutB P=true)(h2:mapsRowed P=true)(h3:fn.params.all (P.readableRec ·)=true)(h4:namedTie P c.named s.vars=true)(h5:(c.stops== [])=true)(h6:(P.stops== [])=true)(h7:(c.knobs== [])=true)(h8:(P.stopKnobs== [])=true)(h9:(c.inPlace==P.inPlace f)=true)(h10:(c.unfollowed==P.unfollowed f)=true)(h11:(c.recurses==P.recurses f)=true)(h12:(c.named==P.varsNamed f)=true)(h13:(c.maps==(fn.params.toList++s.plain.varTypes P).any (P.mapsRec ·))=true)(h14:(c.ifaces==(fn.params.toList++s.plain.varTypes P).any (P.ifacesRec ·))=true)(h15:(c.mapsOut==P.mapsAmong fn.resultTypes.toList)=true)(h16:(c.loops==(fn.params.toList++s.plain.varTypes P).any (P.loopsFrom ·))=true)(h17:(c.wideKeys==(fn.params.toList++s.plain.varTypes P++fn.resultTypes.toList).any (P.wideKeysFrom ·))=true)(h18:s.vars.all (P.varReadable ·)=true)(h19:fn.resultTypes.all (fun t=>P.readableRec t && decide (t < P.types.size))=true)(h20:(c.ifacesOut==fn.resultTypes.toList.any (P.ifacesRec ·))=true)(h21:(c.loopsOut==fn.resultTypes.toList.any (P.loopsFrom ·))=true)(h22:(c.plainKeys==P.plainKeys)=true)(h23:c.shortTexts.isNone=true)(h24:P.stopsHeard=true)(h25:P.mayEnter=true)(h26:(c.lifted==P.liftsFinal)=true)(h27:(P.make==some c.make)=true)(h28:(c.kinds==(if c.domain.isEmpty then [] else fn.params.toList.map fun t=>match P.underlying t with | some (.int k)=>some k | _=>none))=true)(h29:(c.pinned==c.pinnedBy)=true)(h30:(c.veiled==(fn.params.toList++s.plain.varTypes P++fn.resultTypes.toList).any (P.veiledRec ·))=true)(h31:c.veiledFits P fn.params.toList (fn.params.toList++s.plain.varTypes P++fn.resultTypes.toList)=true):joinedFacts P f fn s c=true:=by
 unfold joinedFacts;simp only[Bool.and_eq_true];exact⟨⟨⟨⟨⟨⟨⟨⟨⟨⟨⟨⟨⟨⟨⟨⟨⟨⟨⟨⟨⟨⟨⟨⟨⟨⟨⟨⟨⟨⟨⟨h0,h1⟩,h2⟩,h3⟩,h4⟩,h5⟩,h6⟩,h7⟩,h8⟩,h9⟩,h10⟩,h11⟩,h12⟩,h13⟩,h14⟩,h15⟩,h16⟩,h17⟩,h18⟩,h19⟩,h20⟩,h21⟩,h22⟩,h23⟩,h24⟩,h25⟩,h26⟩,h27⟩,h28⟩,h29⟩,h30⟩,h31⟩
