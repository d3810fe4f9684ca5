/- Words. -/
import Derived.Test.YtfbkkgfkhhibfaaGreatInit
namespace Go.Proofs.YtfbkkgfkhhibfaaGreat
open Go
theorem Ws:laidOutB Tryz.prog=true:=by kernel_rfl
theorem Sv:mapsRowed Tryz.prog=true:=by kernel_rfl
theorem Sz:(Tryz.prog.stops==[])=true:=by kernel_rfl
theorem SA:(Tryz.prog.stopKnobs==[])=true:=by kernel_rfl
theorem SE:Tryz.prog.stopsHeard=true:=by kernel_rfl
theorem SB:Tryz.prog.plainKeys=true:=by kernel_rfl
theorem PY (r:List Char):wordsSigns (Char.ofNat 32::r)=[]::wordsSigns r:=rfl
theorem Ud (c:Char)(hc:c≠Char.ofNat 32)(x w:List Char)(ws:List (List Char))(hx:wordsSigns x=w::ws):wordsSigns (c::x)=(c::w)::ws:=by rw[wordsSigns];rw[hx];intro h;exact hc h
theorem xQ (w:List Char)(h:∀c∈w,c≠Char.ofNat 32)(r:List Char):wordsSigns (w++Char.ofNat 32::r)=w::wordsSigns r:=by
 induction w with
 |nil=>exact PY r
 |cons c w ih=>exact Ud c (h c (by simp)) _ _ _ (ih λd a=>h d (by simp[a]))
def PZ:List Char:=[Char.ofNat 104,Char.ofNat 97,Char.ofNat 114,Char.ofNat 110,Char.ofNat 101,Char.ofNat 115,Char.ofNat 115]
def MB:List Char:=(qI.drop 8).take 64
def jE:List Char:=[Char.ofNat 99,Char.ofNat 117,Char.ofNat 116]
def Ar:List Char:=qI.drop 77
theorem Ue:qI=PZ++Char.ofNat 32::(MB++Char.ofNat 32::(jE++Char.ofNat 32::Ar)):=by kernel_rfl
theorem Xy:(MB.all λc=>decide (c≠Char.ofNat 32))=true:=by kernel_rfl
theorem xR:behindMainWord (wordsSigns Tryz.prog.initOrder.toList)=jE::wordsSigns Ar:=by rw[Xz,Ue,xQ PZ (by decide),xQ MB (λc hc=>by have:=List.all_eq_true.1 Xy c hc;simpa using this),xQ jE (by decide)];generalize wordsSigns Ar=R;kernel_rfl
theorem adR (R:List (List Char))(P:Program)(h:behindMainWord (wordsSigns P.initOrder.toList)=jE::R):P.make=some .cut:=by unfold Program.make;rw[h];dsimp only;rw[if_neg (by decide+kernel)];rw[if_pos (by rw[show (jE=="cut".toList)=true from by decide+kernel];rfl)]
theorem Wu:Tryz.prog.make=some .cut:=adR _ _ xR
theorem IZ (R:List (List Char)):stripLifts liftWords (jE::R)=([],jE::R):=by kernel_rfl
theorem abt (R:List (List Char))(P:Program)(h:behindMainWord (wordsSigns P.initOrder.toList)=jE::R):P.liftsFinal=false:=by unfold Program.liftsFinal Program.headLifts;rw[h];dsimp only;rw[IZ];kernel_rfl
theorem SH:Tryz.prog.liftsFinal=false:=abt _ _ xR
theorem abu (R:List (List Char))(P:Program)(h:behindMainWord (wordsSigns P.initOrder.toList)=jE::R)(h1:P.laysLater=false)(h2:P.bearsReflect=false)(h3:P.doorFits []=true):P.mayEnter=true:=by
 unfold Program.mayEnter;rw[h];dsimp only;rw[IZ,h1,h2,h3];dsimp only
 rw[show (jE=="gc".toList)=false from by decide+kernel,show (jE=="spec".toList)=false from by decide+kernel,show (jE=="carried".toList)=false from by decide+kernel,
  show ((jE::R).head?==some "cut".toList)=true from by kernel_rfl]
 kernel_rfl
theorem Uf:Tryz.prog.laysLater=false:=by kernel_rfl
theorem MC:Tryz.prog.bearsReflect=false:=by kernel_rfl
theorem XA:Tryz.prog.doorFits []=true:=by kernel_rfl
theorem SG:Tryz.prog.mayEnter=true:=abu _ _ xR Uf MC XA
theorem Wq (P:Program)(f:FuncId)(fn:Func)(s:ChangeSpec)(c:OpenClaim)(h0:c.wf (OpenSpec.ofChange s)=true)(h1:laidOutB P=true)(h2:mapsRowed P=true)(h3:fn.params.all (P.readableRec ·)=true)(h4:namedTie P c.named s.vars=true)(h5:(c.stops==[])=true)(h6:(P.stops==[])=true)(h7:(c.knobs==[])=true)(h8:(P.stopKnobs==[])=true)(h9:(c.inPlace==P.inPlace f)=true)(a:(c.unfollowed==P.unfollowed f)=true)(d:(c.recurses==P.recurses f)=true)(q:(c.named==P.varsNamed f)=true)(u:(c.maps==(fn.params.toList++s.plain.varTypes P).any (P.mapsRec ·))=true)(y:(c.ifaces==(fn.params.toList++s.plain.varTypes P).any (P.ifacesRec ·))=true)(B:(c.mapsOut==P.mapsAmong fn.resultTypes.toList)=true)(D:(c.loops==(fn.params.toList++s.plain.varTypes P).any (P.loopsFrom ·))=true)(E:(c.wideKeys==(fn.params.toList++s.plain.varTypes P++fn.resultTypes.toList).any (P.wideKeysFrom ·))=true)(G:s.vars.all (P.varReadable ·)=true)(H:fn.resultTypes.all (λt=>P.readableRec t && decide (t<P.types.size))=true)(I:(c.ifacesOut==fn.resultTypes.toList.any (P.ifacesRec ·))=true)(J:(c.loopsOut==fn.resultTypes.toList.any (P.loopsFrom ·))=true)(L:(c.plainKeys==P.plainKeys)=true)(M:c.shortTexts.isNone=true)(N:P.stopsHeard=true)(O:P.mayEnter=true)(R:(c.lifted==P.liftsFinal)=true)(U:(P.make==some c.make)=true)(V:(c.kinds==(if c.domain.isEmpty then [] else fn.params.toList.map λt=>match P.underlying t with|some (.int k)=>some k|_=>none))=true)(X:(c.pinned==c.pinnedBy)=true)(Y:(c.veiled==(fn.params.toList++s.plain.varTypes P++fn.resultTypes.toList).any (P.veiledRec ·))=true)(Z:c.veiledFits P fn.params.toList (fn.params.toList++s.plain.varTypes P++fn.resultTypes.toList)=true):joinedFacts P f fn s c=true:=by unfold joinedFacts;simp only[Bool.and_eq_true];exact⟨⟨⟨⟨⟨⟨⟨⟨⟨⟨⟨⟨⟨⟨⟨⟨⟨⟨⟨⟨⟨⟨⟨⟨⟨⟨⟨⟨⟨⟨⟨h0,h1⟩,h2⟩,h3⟩,h4⟩,h5⟩,h6⟩,h7⟩,h8⟩,h9⟩,a⟩,d⟩,q⟩,u⟩,y⟩,B⟩,D⟩,E⟩,G⟩,H⟩,I⟩,J⟩,L⟩,M⟩,N⟩,O⟩,R⟩,U⟩,V⟩,X⟩,Y⟩,Z⟩
