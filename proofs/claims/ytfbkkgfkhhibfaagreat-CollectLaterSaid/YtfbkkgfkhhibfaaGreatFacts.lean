/- Words. -/
import Derived.Test.YtfbkkgfkhhibfaaGreatInit
namespace Go.Proofs.YtfbkkgfkhhibfaaGreat
open Go
theorem VF:laidOutB Tryz.prog=true:=by kernel_rfl
theorem Rf:mapsRowed Tryz.prog=true:=by kernel_rfl
theorem Rh:(Tryz.prog.stops==[])=true:=by kernel_rfl
theorem Ri:(Tryz.prog.stopKnobs==[])=true:=by kernel_rfl
theorem Rk:Tryz.prog.stopsHeard=true:=by kernel_rfl
theorem Rj:Tryz.prog.plainKeys=true:=by kernel_rfl
theorem OJ (r:List Char):wordsSigns (Char.ofNat 32::r)=[]::wordsSigns r:=rfl
theorem RU (c:Char)(hc:c≠Char.ofNat 32)(x w:List Char)(ws:List (List Char))(hx:wordsSigns x=w::ws):wordsSigns (c::x)=(c::w)::ws:=by rw[wordsSigns];rw[hx];intro h;exact hc h
theorem wU (w:List Char)(h:∀c∈w,c≠Char.ofNat 32)(r:List Char):wordsSigns (w++Char.ofNat 32::r)=w::wordsSigns r:=by
 induction w with
 |nil=>exact OJ r
 |cons c w ih=>exact RU c (h c (by simp)) _ _ _ (ih λd a=>h d (by simp[a]))
def OL:List Char:=[Char.ofNat 104,Char.ofNat 97,Char.ofNat 114,Char.ofNat 110,Char.ofNat 101,Char.ofNat 115,Char.ofNat 115]
def KO:List Char:=(qG.drop 8).take 64
def jw:List Char:=[Char.ofNat 99,Char.ofNat 117,Char.ofNat 116]
def zt:List Char:=qG.drop 77
theorem RV:qG=OL++Char.ofNat 32::(KO++Char.ofNat 32::(jw++Char.ofNat 32::zt)):=by kernel_rfl
theorem VT:(KO.all λc=>decide (c≠Char.ofNat 32))=true:=by kernel_rfl
theorem wV:behindMainWord (wordsSigns Tryz.prog.initOrder.toList)=jw::wordsSigns zt:=by rw[VU,RV,wU OL (by decide),wU KO (λc hc=>by have:=List.all_eq_true.1 VT c hc;simpa using this),wU jw (by decide)];generalize wordsSigns zt=R;kernel_rfl
theorem acs (R:List (List Char))(P:Program)(h:behindMainWord (wordsSigns P.initOrder.toList)=jw::R):P.make=some .cut:=by unfold Program.make;rw[h];dsimp only;rw[if_neg (by decide+kernel)];rw[if_pos (by rw[show (jw=="cut".toList)=true from by decide+kernel];rfl)]
theorem VG:Tryz.prog.make=some .cut:=acs _ _ wV
theorem Ik (R:List (List Char)):stripLifts liftWords (jw::R)=([],jw::R):=by kernel_rfl
theorem ZY (R:List (List Char))(P:Program)(h:behindMainWord (wordsSigns P.initOrder.toList)=jw::R):P.liftsFinal=false:=by unfold Program.liftsFinal Program.headLifts;rw[h];dsimp only;rw[Ik];kernel_rfl
theorem Rn:Tryz.prog.liftsFinal=false:=ZY _ _ wV
theorem ZZ (R:List (List Char))(P:Program)(h:behindMainWord (wordsSigns P.initOrder.toList)=jw::R)(h1:P.laysLater=false)(h2:P.bearsReflect=false)(h3:P.doorFits []=true):P.mayEnter=true:=by
 unfold Program.mayEnter;rw[h];dsimp only;rw[Ik,h1,h2,h3];dsimp only
 rw[show (jw=="gc".toList)=false from by decide+kernel,show (jw=="spec".toList)=false from by decide+kernel,show (jw=="carried".toList)=false from by decide+kernel,
  show ((jw::R).head?==some "cut".toList)=true from by kernel_rfl]
 kernel_rfl
theorem RX:Tryz.prog.laysLater=false:=by kernel_rfl
theorem KP:Tryz.prog.bearsReflect=false:=by kernel_rfl
theorem VV:Tryz.prog.doorFits []=true:=by kernel_rfl
theorem Rl:Tryz.prog.mayEnter=true:=ZZ _ _ wV RX KP VV
theorem VE (P:Program)(f:FuncId)(fn:Func)(s:ChangeSpec)(c:OpenClaim)(h0:c.wf (OpenSpec.ofChange s)=true)(h1:laidOutB P=true)(h2:mapsRowed P=true)(h3:fn.params.all (P.readableRec ·)=true)(h4:namedTie P c.named s.vars=true)(h5:(c.stops==[])=true)(h6:(P.stops==[])=true)(h7:(c.knobs==[])=true)(h8:(P.stopKnobs==[])=true)(h9:(c.inPlace==P.inPlace f)=true)(a:(c.unfollowed==P.unfollowed f)=true)(d:(c.recurses==P.recurses f)=true)(u:(c.named==P.varsNamed f)=true)(y:(c.maps==(fn.params.toList++s.plain.varTypes P).any (P.mapsRec ·))=true)(A:(c.ifaces==(fn.params.toList++s.plain.varTypes P).any (P.ifacesRec ·))=true)(B:(c.mapsOut==P.mapsAmong fn.resultTypes.toList)=true)(D:(c.loops==(fn.params.toList++s.plain.varTypes P).any (P.loopsFrom ·))=true)(E:(c.wideKeys==(fn.params.toList++s.plain.varTypes P++fn.resultTypes.toList).any (P.wideKeysFrom ·))=true)(G:s.vars.all (P.varReadable ·)=true)(H:fn.resultTypes.all (λt=>P.readableRec t && decide (t<P.types.size))=true)(I:(c.ifacesOut==fn.resultTypes.toList.any (P.ifacesRec ·))=true)(J:(c.loopsOut==fn.resultTypes.toList.any (P.loopsFrom ·))=true)(L:(c.plainKeys==P.plainKeys)=true)(N:c.shortTexts.isNone=true)(O:P.stopsHeard=true)(U:P.mayEnter=true)(V:(c.lifted==P.liftsFinal)=true)(X:(P.make==some c.make)=true)(Y:(c.kinds==(if c.domain.isEmpty then [] else fn.params.toList.map λt=>match P.underlying t with|some (.int k)=>some k|_=>none))=true)(Z:(c.pinned==c.pinnedBy)=true)(a6:(c.veiled==(fn.params.toList++s.plain.varTypes P++fn.resultTypes.toList).any (P.veiledRec ·))=true)(a7:c.veiledFits P fn.params.toList (fn.params.toList++s.plain.varTypes P++fn.resultTypes.toList)=true):joinedFacts P f fn s c=true:=by unfold joinedFacts;simp only[Bool.and_eq_true];exact⟨⟨⟨⟨⟨⟨⟨⟨⟨⟨⟨⟨⟨⟨⟨⟨⟨⟨⟨⟨⟨⟨⟨⟨⟨⟨⟨⟨⟨⟨⟨h0,h1⟩,h2⟩,h3⟩,h4⟩,h5⟩,h6⟩,h7⟩,h8⟩,h9⟩,a⟩,d⟩,u⟩,y⟩,A⟩,B⟩,D⟩,E⟩,G⟩,H⟩,I⟩,J⟩,L⟩,N⟩,O⟩,U⟩,V⟩,X⟩,Y⟩,Z⟩,a6⟩,a7⟩
