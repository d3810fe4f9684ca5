/- Words. -/
import Derived.Test.YtfbkkgfkhhibfaaGreatInit
namespace Go.Proofs.YtfbkkgfkhhibfaaGreat
open Go
theorem VW:laidOutB Tryz.prog=true:=by kernel_rfl
theorem Q5:mapsRowed Tryz.prog=true:=by kernel_rfl
theorem Q7:(Tryz.prog.stops==[])=true:=by kernel_rfl
theorem Q8:(Tryz.prog.stopKnobs==[])=true:=by kernel_rfl
theorem Rf:Tryz.prog.stopsHeard=true:=by kernel_rfl
theorem Q9:Tryz.prog.plainKeys=true:=by kernel_rfl
theorem Qk (r:List Char):wordsSigns (Char.ofNat 32::r)=[]::wordsSigns r:=rfl
theorem Ut (c:Char)(hc:c≠Char.ofNat 32)(x w:List Char)(ws:List (List Char))(hx:wordsSigns x=w::ws):wordsSigns (c::x)=(c::w)::ws:=by rw[wordsSigns];rw[hx];intro h;exact hc h
theorem xZ (w:List Char)(h:∀c∈w,c≠Char.ofNat 32)(r:List Char):wordsSigns (w++Char.ofNat 32::r)=w::wordsSigns r:=by
 induction w with
 |nil=>exact Qk r
 |cons c w ih=>exact Ut c (h c (by simp)) _ _ _ (ih λd a=>h d (by simp[a]))
def Ql:List Char:=[Char.ofNat 104,Char.ofNat 97,Char.ofNat 114,Char.ofNat 110,Char.ofNat 101,Char.ofNat 115,Char.ofNat 115]
def MM:List Char:=(qV.drop 8).take 64
def jK:List Char:=[Char.ofNat 99,Char.ofNat 117,Char.ofNat 116]
def AQ:List Char:=qV.drop 77
theorem Uu:qV=Ql++Char.ofNat 32::(MM++Char.ofNat 32::(jK++Char.ofNat 32::AQ)):=by kernel_rfl
theorem XI:(MM.all λc=>decide (c≠Char.ofNat 32))=true:=by kernel_rfl
theorem x8:behindMainWord (wordsSigns Tryz.prog.initOrder.toList)=jK::wordsSigns AQ:=by rw[XJ,Uu,xZ Ql (by decide),xZ MM (λc hc=>by have:=List.all_eq_true.1 XI c hc;simpa using this),xZ jK (by decide)];generalize wordsSigns AQ=R;kernel_rfl
theorem adW (R:List (List Char))(P:Program)(h:behindMainWord (wordsSigns P.initOrder.toList)=jK::R):P.make=some .cut:=by unfold Program.make;rw[h];dsimp only;rw[if_neg (by decide+kernel)];rw[if_pos (by rw[show (jK=="cut".toList)=true from by decide+kernel];rfl)]
theorem VX:Tryz.prog.make=some .cut:=adW _ _ x8
theorem IZ (R:List (List Char)):stripLifts liftWords (jK::R)=([],jK::R):=by kernel_rfl
theorem abG (R:List (List Char))(P:Program)(h:behindMainWord (wordsSigns P.initOrder.toList)=jK::R):P.liftsFinal=false:=by unfold Program.liftsFinal Program.headLifts;rw[h];dsimp only;rw[IZ];kernel_rfl
theorem Ri:Tryz.prog.liftsFinal=false:=abG _ _ x8
theorem abH (R:List (List Char))(P:Program)(h:behindMainWord (wordsSigns P.initOrder.toList)=jK::R)(h1:P.laysLater=false)(h2:P.bearsReflect=false)(h3:P.doorFits []=true):P.mayEnter=true:=by
 unfold Program.mayEnter;rw[h];dsimp only;rw[IZ,h1,h2,h3];dsimp only
 rw[show (jK=="gc".toList)=false from by decide+kernel,show (jK=="spec".toList)=false from by decide+kernel,show (jK=="carried".toList)=false from by decide+kernel,
  show ((jK::R).head?==some "cut".toList)=true from by kernel_rfl]
 kernel_rfl
theorem Uw:Tryz.prog.laysLater=false:=by kernel_rfl
theorem MN:Tryz.prog.bearsReflect=false:=by kernel_rfl
theorem XK:Tryz.prog.doorFits []=true:=by kernel_rfl
theorem Rh:Tryz.prog.mayEnter=true:=abH _ _ x8 Uw MN XK
theorem VV (P:Program)(f:FuncId)(a:Func)(s:ChangeSpec)(c:OpenClaim)(h0:c.wf (OpenSpec.ofChange s)=true)(h1:laidOutB P=true)(h2:mapsRowed P=true)(h3:a.params.all (P.readableRec ·)=true)(h4:namedTie P c.named s.vars=true)(h5:(c.stops==[])=true)(h6:(P.stops==[])=true)(h7:(c.knobs==[])=true)(h8:(P.stopKnobs==[])=true)(h9:(c.inPlace==P.inPlace f)=true)(d:(c.unfollowed==P.unfollowed f)=true)(q:(c.recurses==P.recurses f)=true)(u:(c.named==P.varsNamed f)=true)(y:(c.maps==(a.params.toList++s.plain.varTypes P).any (P.mapsRec ·))=true)(B:(c.ifaces==(a.params.toList++s.plain.varTypes P).any (P.ifacesRec ·))=true)(D:(c.mapsOut==P.mapsAmong a.resultTypes.toList)=true)(E:(c.loops==(a.params.toList++s.plain.varTypes P).any (P.loopsFrom ·))=true)(G:(c.wideKeys==(a.params.toList++s.plain.varTypes P++a.resultTypes.toList).any (P.wideKeysFrom ·))=true)(H:s.vars.all (P.varReadable ·)=true)(I:a.resultTypes.all (λt=>P.readableRec t && decide (t<P.types.size))=true)(J:(c.ifacesOut==a.resultTypes.toList.any (P.ifacesRec ·))=true)(L:(c.loopsOut==a.resultTypes.toList.any (P.loopsFrom ·))=true)(M:(c.plainKeys==P.plainKeys)=true)(N:c.shortTexts.isNone=true)(O:P.stopsHeard=true)(R:P.mayEnter=true)(U:(c.lifted==P.liftsFinal)=true)(V:(P.make==some c.make)=true)(X:(c.kinds==(if c.domain.isEmpty then [] else a.params.toList.map λt=>match P.underlying t with|some (.int k)=>some k|_=>none))=true)(Y:(c.pinned==c.pinnedBy)=true)(Z:(c.veiled==(a.params.toList++s.plain.varTypes P++a.resultTypes.toList).any (P.veiledRec ·))=true)(a6:c.veiledFits P a.params.toList (a.params.toList++s.plain.varTypes P++a.resultTypes.toList)=true):joinedFacts P f a s c=true:=by unfold joinedFacts;simp only[Bool.and_eq_true];exact⟨⟨⟨⟨⟨⟨⟨⟨⟨⟨⟨⟨⟨⟨⟨⟨⟨⟨⟨⟨⟨⟨⟨⟨⟨⟨⟨⟨⟨⟨⟨h0,h1⟩,h2⟩,h3⟩,h4⟩,h5⟩,h6⟩,h7⟩,h8⟩,h9⟩,d⟩,q⟩,u⟩,y⟩,B⟩,D⟩,E⟩,G⟩,H⟩,I⟩,J⟩,L⟩,M⟩,N⟩,O⟩,R⟩,U⟩,V⟩,X⟩,Y⟩,Z⟩,a6⟩
