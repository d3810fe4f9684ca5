/- Words. -/
import Derived.Test.YtfbkkgfkhhibfaaGreatAppR
import Derived.ProofKit
import Derived.OpenShut
import Derived.ChangeOld
set_option linter.unusedVariables false
set_option maxRecDepth 100000
set_option maxHeartbeats 8000000
namespace Iv
open Go Go.RowKit Go.ChangeShapes Go.WideShapes Go.ChangeAt
open Go.ChangeMaps (open_string shut_string)
section
variable {H : Type} {enc : TypeId × Value → H} {P : Program} {W : World} {held : Bool}
theorem E8 {n:Int}(h:(Lit.int .u8 n).wf=true):0≤n∧n≤255:=by
 simp[Lit.wf,IntKind.min,IntKind.max,IntKind.signed,IntKind.bits] at h;omega
theorem Bh {k:IntKind}{a:Addr}{len cap:Nat}{zs:List Int}(hl:len≤cap)(hz:zs.length=cap)
 (hc:∀i,i < zs.length→W.cell? (a.add i)=some (.int k (zs.getD i 0))):Lies W W.heap.size 1 (some a) len ((zs.take len).map (Value.int k)):=by
 refine⟨by simp;omega,fun hn=>⟨a,rfl,?_,fun j u hu=>?_⟩⟩
 · have:=World.block_lt_of_cell? W _ (hc 0 (by omega));rwa [addBlock] at this
 · simp only[List.getElem?_map,List.getElem?_take,Option.map_eq_some_iff] at hu;obtain⟨z,hz2,rfl⟩:=hu;split at hz2
   · have hj:j < zs.length:=(List.getElem?_eq_some_iff.1 hz2).1;rw[hc j hj];simp[List.getD,hz2]
   · cases hz2
theorem Jf (zs:List Int)(h:∀n∈zs,(Lit.int .u8 n).wf=true):∃xs:Bytes,zs.map (Value.int .u8)=xs.map bv:=by
 refine⟨zs.map fun n=>UInt8.ofNat n.toNat,?_⟩;rw[List.map_map];refine List.map_congr_left fun n hn=>?_
 have:=E8 (h n hn);show _=bv _;unfold bv;rw[aN (by omega),Int.toNat_of_nonneg this.1]
theorem nG {t e:TypeId}{fuel:Nat}{cs:List Value}{x:DataW H×List MemPlace}(ht:P.underlying t=some (.slice e))(he:P.underlying e=some (.int .u8))(hc:P.cellsOf e=1)
 (h:DataW.trod enc P W 0 (fun _=>true) held fuel t cs=some x):
 ∃A n c,∃xs:Bytes,cs= [.slice A n c]∧Lies W W.heap.size 1 A n (xs.map bv)∧n≤c∧c≤maxLen∧(A=none→c=0):=by
 rcases open_ints ht he hc h with ⟨rfl,_⟩ | ⟨a,len,cap,zs,rfl,_,hl,hm,hz,_,hcell,hw⟩
 · exact⟨none,0,0,[],rfl,Lies.nil,Nat.le_refl _,Nat.zero_le _,fun _=>rfl⟩
 · obtain⟨xs,hx⟩:=Jf (zs.take len) (fun n hn=>hw n (List.mem_of_mem_take hn));refine⟨some a,len,cap,xs,rfl,?_,hl,hm,fun e=>by cases e⟩;rw[←hx];exact Bh hl (by simpa using hz) hcell
end
end Iv
namespace Go.Proofs.YtfbkkgfkhhibfaaGreat
open Go Go.RowKit Iv
end Go.Proofs.YtfbkkgfkhhibfaaGreat
namespace Go.Proofs.YtfbkkgfkhhibfaaGreat
open Go Go.RowKit Go.ChangeShapes Go.WideShapes Go.ChangeAt Iv
section
variable {H : Type} {enc : TypeId × Value → H} {W : World} {held : Bool}
end
end Go.Proofs.YtfbkkgfkhhibfaaGreat
namespace Go.Proofs.YtfbkkgfkhhibfaaGreat
open Go Go.RowKit Iv
structure RecHere (w:World)(B b o:Nat)(r:Rec)(Ad:Option Addr)(nd cd:Nat)(Af:Option Addr)(nf cf:Nat):Prop where
 cells:∀j u,(recV r Ad nd cd Af nf cf)[j]?=some u→w.cell? ⟨b,o+j,none⟩=some u
 ld:Lies w B 1 Ad nd (r.ev.deps.map iv)
 lf:Lies w B 1 Af nf (r.ev.from_.map iv)
def Recs (w:World)(B:Nat)(A:Option Addr)(n:Nat)(rs:List Rec):Prop:=
 rs.length=n∧∀k r,rs[k]?=some r→∃(b o:Nat) (Ad:Option Addr) (nd cd:Nat) (Af:Option Addr) (nf cf:Nat),A=some ⟨b,o,none⟩∧b < B∧RecHere w B b (o+k * 8) r Ad nd cd Af nf cf
section
variable {w w' : World} {B B' n : Nat} {A : Option Addr} {rs : List Rec}
theorem RecHere.same {b o:Nat}{r:Rec}{Ad:Option Addr}{nd cd:Nat}{Af:Option Addr}{nf cf:Nat}(h:RecHere w B b o r Ad nd cd Af nf cf)(hb:b < B)(hk:∀p:Addr,p.block < B→w'.cell? p=w.cell? p):RecHere w' B b o r Ad nd cd Af nf cf:=
 ⟨fun j u hu=>(hk _ hb).trans (h.cells j u hu),h.ld.same hk,h.lf.same hk⟩
theorem Recs.same (h:Recs w B A n rs)(hk:∀p:Addr,p.block < B→w'.cell? p=w.cell? p):Recs w' B A n rs:=
 ⟨h.1,fun k r hr=>by
  obtain⟨b,o,Ad,nd,cd,Af,nf,cf,e,hb,h2⟩:=h.2 k r hr
  exact⟨b,o,Ad,nd,cd,Af,nf,cf,e,hb,h2.same hb hk⟩⟩
theorem Recs.drew (h:Recs w B A n rs):Recs w.drew B A n rs:=h.same fun _ _=>rfl
theorem Recs.alloc (h:Recs w B A n rs)(hB:B≤w.heap.size)(o:Obj):Recs (w.alloc o) B A n rs:=h.same fun p hp=>World.cell?_alloc_lt w o p (by omega)
theorem Recs.grown (h:Recs w B A n rs){row:Option Nat}(hg:w.grownBy w' row)(hB:B≤w.heap.size)(hr:∀g,row=some g→B≤g):Recs w' B A n rs:=
 h.same fun p hp=>World.cell?_of_block (hg.block p.block (by omega) (fun e=>by have:=hr _ e.symm;omega))
theorem RecHere.grown {b o:Nat}{r:Rec}{Ad:Option Addr}{nd cd:Nat}{Af:Option Addr}{nf cf:Nat}(h:RecHere w B b o r Ad nd cd Af nf cf)(hb:b < B){row:Option Nat}(hg:w.grownBy w' row)(hB:B≤w.heap.size)(hr:∀g,row=some g→B≤g):RecHere w' B b o r Ad nd cd Af nf cf:=
 h.same hb fun p hp=>World.cell?_of_block (hg.block p.block (by omega) (fun e=>by have:=hr _ e.symm;omega))
theorem Recs.at {k:Nat}(h:Recs w B A n rs)(hk:k < n):∃(b o:Nat) (r:Rec) (Ad:Option Addr) (nd cd:Nat) (Af:Option Addr) (nf cf:Nat),A=some ⟨b,o,none⟩∧b < B∧rs[k]?=some r∧RecHere w B b (o+k * 8) r Ad nd cd Af nf cf:=by
 have hl:k < rs.length:=by rw[h.1];exact hk
 obtain⟨b,o,Ad,nd,cd,Af,nf,cf,e,hb,h2⟩:=h.2 k rs[k] (List.getElem?_eq_getElem hl);exact⟨b,o,rs[k],Ad,nd,cd,Af,nf,cf,e,hb,List.getElem?_eq_getElem hl,h2⟩
end
theorem RecHere.all {w:World}{B b o:Nat}{r:Rec}{Ad:Option Addr}{nd cd:Nat}{Af:Option Addr}{nf cf:Nat}(h:RecHere w B b o r Ad nd cd Af nf cf):
 w.cell? ⟨b,o,none⟩=some (.int .i64 r.seq)∧w.cell? ⟨b,o+1,none⟩=some (.int .i64 r.ev.thread)∧w.cell? ⟨b,o+2,none⟩=some (.int .i64 r.ev.kind)∧w.cell? ⟨b,o+3,none⟩=some (.int .i64 r.ev.obj)∧
 w.cell? ⟨b,o+4,none⟩=some (.int .i64 r.ev.value)∧w.cell? ⟨b,o+5,none⟩=some (.int .i64 r.ev.site)∧w.cell? ⟨b,o+6,none⟩=some (.slice Ad nd cd)∧w.cell? ⟨b,o+7,none⟩=some (.slice Af nf cf):=
 ⟨h.cells 0 (.int .i64 r.seq) rfl,h.cells 1 _ rfl,h.cells 2 _ rfl,h.cells 3 _ rfl,h.cells 4 _ rfl,h.cells 5 _ rfl,h.cells 6 _ rfl,h.cells 7 _ rfl⟩
def mV (x:Blk):Bool:=decide (0 < x.recs.length) && decide (0≤x.thread) && decide (x.thread < 4) && decide (0≤x.first) && decide (x.first≤400)
theorem mW (x:Blk):kJ x=(mV x && okRecs x.thread (-1) x.recs):=rfl
theorem uZ (thread seq:Int)(recs:List Rec)(k:Nat)(r:Rec)(hr:recs[k]?=some r):
 okRecs thread seq (recs.drop k)=(decide (r.ev.thread=thread) && decide (seq < r.seq) && decide (r.ev.deps.length≤400) && decide (r.ev.from_.length≤400) && okRecs thread r.seq (recs.drop (k+1))):=by
 obtain⟨hl,rfl⟩:=List.getElem?_eq_some_iff.1 hr;rw[List.drop_eq_getElem_cons hl,okRecs]
theorem ve (x:Blk)(A:Option Addr)(n c B:Nat)(w:World)(h:Recs w B A n x.recs)(hB:B≤w.heap.size)(hn:n≤1000000):
 Calls Tryz.prog 78 #[.agg #[.int .i64 x.thread,.int .i64 x.first,.slice A n c]] w fun e w'=>e= .returned (.bool (kJ x))∧w.grownBy w' none:=by
 obtain⟨thread,first,recs⟩:=x;dsimp only at h⊢;have HL:=ae h.1;by_cases hh:n=0∨thread < 0∨4≤thread∨first < 0∨400 < first
 · have HF:Hid (kJ ⟨thread,first,recs⟩=false):=by
    have:=HL.out;rw[mW]
    have:mV ⟨thread,first,recs⟩=false:=by
     unfold mV;simp only[Bool.and_eq_false_iff,decide_eq_false_iff_not];omega
    rw[this];exact ae rfl
   by_cases a0:n=0
   · have b0:((n:Int)==0)=true:=by rw[beq_iff_eq];omega
     clear hh a0;go_enter Tryz.func78,Tryz.ntmps78;go_wp2_with fail;go_ret;exact⟨dD HF.out.symm,World.grownBy_alloc w _ none⟩
   · have b0:((n:Int)==0)=false:=by rw[beq_eq_false_iff_ne];omega
     have n0:0 < n:=by omega
     clear a0;by_cases a1:thread < 0
     · clear hh;go_enter Tryz.func78,Tryz.ntmps78;go_wp2_with fail;go_ret;exact⟨dD HF.out.symm,World.grownBy_alloc w _ none⟩
     · by_cases a2:(4:Int)≤thread
       · clear hh;go_enter Tryz.func78,Tryz.ntmps78;go_wp2_with fail;go_ret;exact⟨dD HF.out.symm,World.grownBy_alloc w _ none⟩
       · by_cases a3:first < 0
         · clear hh;go_enter Tryz.func78,Tryz.ntmps78;go_wp2_with fail;go_ret;exact⟨dD HF.out.symm,World.grownBy_alloc w _ none⟩
         · have a4:(400:Int) < first:=by omega
           clear hh;go_enter Tryz.func78,Tryz.ntmps78;go_wp2_with fail;go_ret;exact⟨dD HF.out.symm,World.grownBy_alloc w _ none⟩
 · have b0:((n:Int)==0)=false:=by rw[beq_eq_false_iff_ne];omega
   have b1:¬thread < 0:=by omega
   have b2:¬(4:Int)≤thread:=by omega
   have b3:¬first < 0:=by omega
   have b4:¬(400:Int) < first:=by omega
   have HX:Hid (kJ ⟨thread,first,recs⟩=okRecs thread (-1) recs):=by
    have hl:=HL.out;rw[mW]
    have:mV ⟨thread,first,recs⟩=true:=by
     unfold mV;simp only[Bool.and_eq_true,decide_eq_true_eq];omega
    rw[this];exact ae rfl
   clear hh;obtain⟨W,hW⟩:∃W,W=w.alloc (.cells #[.int .i64 thread,.int .i64 first,.slice A n c] 50):=⟨_,rfl⟩;have gZ:w.grownBy W none:=by rw[hW];exact World.grownBy_alloc w _ none
   have hb0:Held W w.heap.size 50 #[.int .i64 thread,.int .i64 first,.slice A n c]:=by rw[hW];exact Held.new _ _ _
   have HW:=ae hW;clear hW;go_enter Tryz.func78,Tryz.ntmps78;go_wp2_with fail;rw[show w.alloc (.cells #[.int .i64 thread,.int .i64 first,.slice A n c] 50)=W from HW.out.symm];go_loopw [3,5,33] (fun sv _ iv wr=>∃(k:Nat) (seq:Int),iv= .int .i64 (k:Int)∧k≤n∧sv= .int .i64 seq∧W.grownBy wr none∧okRecs thread seq (recs.drop k)=okRecs thread (-1) recs) (fun _ _ iv _=>n - (intOf iv).toNat)
   case atStart=>exact ⟨0,-1,rfl,Nat.zero_le _,rfl,World.grownBy.refl W none,rfl⟩
   case round=>
    obtain⟨k,seq,rfl,hk,rfl,hg,ho⟩:=hrel;have HO:=ae ho;clear ho;have hgw:=af gZ hg (.inl rfl);by_cases hlt:k < n
    · obtain⟨b,o,r,Ad,nd,cd,Af,nf,cf,hA,hb,hr,hH⟩:=(h.grown hgw hB (fun _ e=>nomatch e)).at hlt;have k0:wr.cell? ⟨w.heap.size,0,none⟩=some (.int .i64 thread):=(hb0.grown hg (fun e=>nomatch e)).cell 0;have kz:w.heap.size < wr.heap.size:=(hb0.grown hg (fun e=>nomatch e)).lt;obtain⟨c0,c1,c2,c3,c4,c5,c6,c7⟩:=hH.all;subst hA;have HS:=ae (uZ thread seq recs k r hr);have l1:=hH.ld.lenI;have l2:=hH.lf.lenI;have L1:=ae l1;have L2:=ae l2;have ou:=ae (af hgw (World.grownBy_alloc wr (.cells #[.int .i64 r.seq,.int .i64 r.ev.thread,.int .i64 r.ev.kind,.int .i64 r.ev.obj,.int .i64 r.ev.value,.int .i64 r.ev.site,.slice Ad nd cd,.slice Af nf cf] 54) none) (.inl rfl));have HG2:=ae (af hg (World.grownBy_alloc wr (.cells #[.int .i64 r.seq,.int .i64 r.ev.thread,.int .i64 r.ev.kind,.int .i64 r.ev.obj,.int .i64 r.ev.value,.int .i64 r.ev.site,.slice Ad nd cd,.slice Af nf cf] 54) none) (.inl rfl));clear hr hH l1 l2 hg;by_cases h0:r.ev.thread≠thread∨r.seq≤seq∨400 < nd∨400 < nf
      · have HF:Hid (kJ ⟨thread,first,recs⟩=false):=by
         have e1:=L1.out;have e2:=L2.out
         have:okRecs thread seq (recs.drop k)=false:=by
          rw[HS.out]
          have:(decide (r.ev.thread=thread) && decide (seq < r.seq) && decide (r.ev.deps.length≤400) && decide (r.ev.from_.length≤400))=false:=by
           simp only[Bool.and_eq_false_iff,decide_eq_false_iff_not];omega
          rw[this];rfl
         rw[HX.out,←HO.out,this];exact ae rfl
        by_cases a0:r.ev.thread=thread
        · have g0:(r.ev.thread !=thread)=false:=by rw[bne_eq_false_iff_eq];exact a0
          have A0:=ae a0;by_cases a1:r.seq≤seq
          · clear h0 a0;go_wp2_with fail;go_ret;exact⟨dD HF.out.symm,ou.out⟩
          · by_cases a2:(400:Int) < (nd:Int)
            · clear h0 a0;go_wp2_with fail;go_ret;exact⟨dD HF.out.symm,ou.out⟩
            · have a3:(400:Int) < (nf:Int):=by omega
              clear h0 a0;go_wp2_with fail;go_ret;exact⟨dD HF.out.symm,ou.out⟩
        · have g0:(r.ev.thread !=thread)=true:=by rw[bne_iff_ne];exact a0
          clear h0 a0;go_wp2_with fail;go_ret;exact⟨dD HF.out.symm,ou.out⟩
      · have g0:(r.ev.thread !=thread)=false:=by rw[bne_eq_false_iff_eq];omega
        have g1:¬r.seq≤seq:=by omega
        have g2:¬(400:Int) < (nd:Int):=by omega
        have g3:¬(400:Int) < (nf:Int):=by omega
        have HN:Hid (okRecs thread r.seq (recs.drop (k+1))=okRecs thread (-1) recs):=by
         have e1:=L1.out;have e2:=L2.out
         have:(decide (r.ev.thread=thread) && decide (seq < r.seq) && decide (r.ev.deps.length≤400) && decide (r.ev.from_.length≤400))=true:=by
          simp only[Bool.and_eq_true,decide_eq_true_eq];omega
         have e3:=HS.out;rw[this,Bool.true_and,HO.out] at e3;exact ae e3.symm
        clear h0;go_wp2_with fail;go_roundw
        case rel=>exact ⟨k+1,r.seq,by go_num,by omega,rfl,HG2.out,HN.out⟩
        case measure=>simp [intOf];omega
    · have HF:Hid (kJ ⟨thread,first,recs⟩=true):=by
       have e1:=HO.out;rw[List.drop_eq_nil_of_le (by rw[HL.out];omega)] at e1;rw[HX.out,←e1];exact ae rfl
      go_wp2_with fail;go_ret;exact⟨dD HF.out.symm,hgw⟩
theorem P6 (x:Blk)(A:Option Addr)(n c:Nat)(w:World)(hl:x.recs.length=n)(hh:64 < n∨n=0∨x.thread < 0∨4≤x.thread∨x.first < 0∨400 < x.first):
 Calls Tryz.prog 60 #[.agg #[.int .i64 x.thread,.int .i64 x.first,.slice A n c]] w fun e w'=>e= .returned (.int .i64 (fits x))∧w.grownBy w' none:=by
 obtain⟨thread,first,recs⟩:=x;dsimp only at hl hh⊢;by_cases h64:64 < n
 · have HF:Hid (fits ⟨thread,first,recs⟩=2):=ae (by unfold fits;rw[if_pos (by show 64 < recs.length;omega)]);clear hh hl;go_enter Tryz.func60,Tryz.ntmps60;go_wp2_with fail;go_ret;exact⟨bg HF.out.symm,World.grownBy_alloc w _ none⟩
 · have HF:Hid (fits ⟨thread,first,recs⟩=1):=by
    have:mV ⟨thread,first,recs⟩=false:=by
     unfold mV;simp only[Bool.and_eq_false_iff,decide_eq_false_iff_not];omega
    have h2:kJ ⟨thread,first,recs⟩=false:=by rw[mW,this];rfl
    exact ae (by unfold fits;rw[if_neg (by show¬64 < recs.length;omega),h2];rfl)
   clear hl;by_cases a0:n=0
   · have b0:((n:Int)==0)=true:=by rw[beq_iff_eq];omega
     clear hh a0;go_enter Tryz.func60,Tryz.ntmps60;go_wp2_with fail;go_ret;exact⟨bg HF.out.symm,World.grownBy_alloc w _ none⟩
   · have b0:((n:Int)==0)=false:=by rw[beq_eq_false_iff_ne];omega
     have n0:0 < n:=by omega
     clear a0;by_cases a1:thread < 0
     · clear hh;go_enter Tryz.func60,Tryz.ntmps60;go_wp2_with fail;go_ret;exact⟨bg HF.out.symm,World.grownBy_alloc w _ none⟩
     · by_cases a2:(4:Int)≤thread
       · clear hh;go_enter Tryz.func60,Tryz.ntmps60;go_wp2_with fail;go_ret;exact⟨bg HF.out.symm,World.grownBy_alloc w _ none⟩
       · by_cases a3:first < 0
         · clear hh;go_enter Tryz.func60,Tryz.ntmps60;go_wp2_with fail;go_ret;exact⟨bg HF.out.symm,World.grownBy_alloc w _ none⟩
         · have a4:(400:Int) < first:=by omega
           clear hh;go_enter Tryz.func60,Tryz.ntmps60;go_wp2_with fail;go_ret;exact⟨bg HF.out.symm,World.grownBy_alloc w _ none⟩
theorem SV (x:Blk)(A:Option Addr)(n c B:Nat)(w:World)(h:Recs w B A n x.recs)(hB:B≤w.heap.size):
 Calls Tryz.prog 60 #[.agg #[.int .i64 x.thread,.int .i64 x.first,.slice A n c]] w fun e w'=>e= .returned (.int .i64 (fits x))∧w.grownBy w' none:=by
 by_cases hh:64 < n∨n=0∨x.thread < 0∨4≤x.thread∨x.first < 0∨400 < x.first
 · exact P6 x A n c w h.1 hh
 · obtain⟨thread,first,recs⟩:=x;dsimp only at h hh⊢;have HL:=ae h.1;have b0:((n:Int)==0)=false:=by rw[beq_eq_false_iff_ne];omega
   have b1:¬thread < 0:=by omega
   have b2:¬(4:Int)≤thread:=by omega
   have b3:¬first < 0:=by omega
   have b4:¬(400:Int) < first:=by omega
   have b5:¬64 < n:=by omega
   have HX:Hid (fits ⟨thread,first,recs⟩=if okRecs thread (-1) recs then 0 else 1):=by
    have hl:=HL.out
    have:mV ⟨thread,first,recs⟩=true:=by
     unfold mV;simp only[Bool.and_eq_true,decide_eq_true_eq];omega
    have h2:kJ ⟨thread,first,recs⟩=okRecs thread (-1) recs:=by rw[mW,this];rfl
    exact ae (by unfold fits;rw[if_neg (by show¬64 < recs.length;omega),h2])
   clear hh;obtain⟨W,hW⟩:∃W,W=w.alloc (.cells #[.int .i64 thread,.int .i64 first,.slice A n c] 50):=⟨_,rfl⟩;have gZ:w.grownBy W none:=by rw[hW];exact World.grownBy_alloc w _ none
   have hb0:Held W w.heap.size 50 #[.int .i64 thread,.int .i64 first,.slice A n c]:=by rw[hW];exact Held.new _ _ _
   have HW:=ae hW;clear hW;go_enter Tryz.func60,Tryz.ntmps60;go_wp2_with fail;rw[show w.alloc (.cells #[.int .i64 thread,.int .i64 first,.slice A n c] 50)=W from HW.out.symm];go_loopw [3,4] (fun iv _ wr=>∃(k:Nat) (seq:Int),iv= .int .i64 (k:Int)∧k≤n∧((k=0∧seq= -1)∨(∃j p,k=j+1∧recs[j]?=some p∧seq=p.seq∧0≤seq))∧W.grownBy wr none∧okRecs thread seq (recs.drop k)=okRecs thread (-1) recs) (fun iv _ _=>n - (intOf iv).toNat)
   case atStart=>exact ⟨0,-1,rfl,Nat.zero_le _,.inl ⟨rfl,rfl⟩,World.grownBy.refl W none,rfl⟩
   case round=>
    obtain⟨k,seq,rfl,hk,hseq,hg,ho⟩:=hrel;have HO:=ae ho;clear ho;have hgw:=af gZ hg (.inl rfl);have k0:wr.cell? ⟨w.heap.size,0,none⟩=some (.int .i64 thread):=(hb0.grown hg (fun e=>nomatch e)).cell 0;have k2:wr.cell? ⟨w.heap.size,2,none⟩=some (.slice A n c):=(hb0.grown hg (fun e=>nomatch e)).cell 2;have kz:w.heap.size < wr.heap.size:=(hb0.grown hg (fun e=>nomatch e)).lt;by_cases hlt:k < n
    · have hRR:=h.grown hgw hB (fun _ e=>nomatch e);obtain⟨b,o,r,Ad,nd,cd,Af,nf,cf,hA,hb,hr,hH⟩:=hRR.at hlt;obtain⟨c0,c1,c2,c3,c4,c5,c6,c7⟩:=hH.all;have HS:=ae (uZ thread seq recs k r hr);have l1:=hH.ld.lenI;have l2:=hH.lf.lenI;have L1:=ae l1;have L2:=ae l2;obtain⟨W2,hW2⟩:∃W2,W2=wr.alloc (.cells #[.int .i64 r.seq,.int .i64 r.ev.thread,.int .i64 r.ev.kind,.int .i64 r.ev.obj,.int .i64 r.ev.value,.int .i64 r.ev.site,.slice Ad nd cd,.slice Af nf cf] 54):=⟨_,rfl⟩;have lM:wr.grownBy W2 none:=by rw[hW2];exact World.grownBy_alloc wr _ none
      have hg2:=af hg lM (.inl rfl);have afn:=af gZ hg2 (.inl rfl);have hb2:Held W2 wr.heap.size 54 (recV r Ad nd cd Af nf cf):=by rw[hW2];exact Held.new _ _ _
      have HW2:=ae hW2;have HG2:=ae hg2;have Ii:=ae afn;have d0:W2.cell? ⟨wr.heap.size,0,none⟩=some (.int .i64 r.seq):=hb2.cell 0;have d1:W2.cell? ⟨wr.heap.size,1,none⟩=some (.int .i64 r.ev.thread):=hb2.cell 1;have d6:W2.cell? ⟨wr.heap.size,6,none⟩=some (.slice Ad nd cd):=hb2.cell 6;have d7:W2.cell? ⟨wr.heap.size,7,none⟩=some (.slice Af nf cf):=hb2.cell 7;have m0:W2.cell? ⟨w.heap.size,0,none⟩=some (.int .i64 thread):=(hb0.grown hg2 (fun e=>nomatch e)).cell 0;have m2:W2.cell? ⟨w.heap.size,2,none⟩=some (.slice A n c):=(hb0.grown hg2 (fun e=>nomatch e)).cell 2
      have hbad:Hid (r.ev.thread≠thread∨r.seq≤seq∨400 < nd∨400 < nf→fits ⟨thread,first,recs⟩=1):=by
       refine ae fun h0=>?_
       have e1:=L1.out;have e2:=L2.out
       have:okRecs thread seq (recs.drop k)=false:=by
        rw[HS.out]
        have:(decide (r.ev.thread=thread) && decide (seq < r.seq) && decide (r.ev.deps.length≤400) && decide (r.ev.from_.length≤400))=false:=by
         simp only[Bool.and_eq_false_iff,decide_eq_false_iff_not];omega
        rw[this];rfl
       rw[HX.out,←HO.out,this];rfl
      have hgood:Hid (r.ev.thread=thread→seq < r.seq→nd≤400→nf≤400→okRecs thread r.seq (recs.drop (k+1))=okRecs thread (-1) recs):=by
       refine ae fun x1 x2 x3 x4=>?_
       have e1:=L1.out;have e2:=L2.out
       have:(decide (r.ev.thread=thread) && decide (seq < r.seq) && decide (r.ev.deps.length≤400) && decide (r.ev.from_.length≤400))=true:=by
        simp only[Bool.and_eq_true,decide_eq_true_eq];omega
       have e3:=HS.out;rw[this,Bool.true_and,HO.out] at e3;exact e3.symm
      have HR:=ae hr;clear hH l1 l2 hg hW2 hb2 hr lM hg2 afn;subst hA;go_upto_region 9 with fail;rw[show wr.alloc (.cells #[.int .i64 r.seq,.int .i64 r.ev.thread,.int .i64 r.ev.kind,.int .i64 r.ev.obj,.int .i64 r.ev.value,.int .i64 r.ev.site,.slice Ad nd cd,.slice Af nf cf] 54)=W2 from HW2.out.symm];clear c0 c1 c2 c3 c4 c5 c6 c7;by_cases a0:r.ev.thread=thread
      · have g0:(r.ev.thread !=thread)=false:=by rw[bne_eq_false_iff_eq];exact a0
        have A0:=ae a0;clear a0;by_cases a1:r.seq≤seq
        · have HF:=ae (hbad.out (.inr (.inl a1)));rcases hseq with ⟨hk0,hs0⟩ | ⟨j,p,hkj,hp,hsp,hp0⟩
          · have q1:decide (r.seq < 0)=true:=decide_eq_true (by omega);clear hk0 hs0 a1;go_quiet (fail);go_wp2_with fail;go_ret;exact⟨bg HF.out.symm,aH Ii.out _⟩
          · obtain⟨b',o',p',xG,DC,zN,xH,DD,cf',hA',hb',hp',hH'⟩:=hRR.at (k:=j) (by omega);simp only[Option.some.injEq,Addr.mk.injEq,and_true] at hA';obtain⟨rfl,rfl⟩:=hA';have hpp:p'=p:=by rw[hp] at hp';exact Option.some.inj hp'.symm
            subst hpp;have e0:W2.cell? ⟨b,o+j * 8,none⟩=some (.int .i64 p'.seq):=World.grownBy.cell (by rw[HW2.out];exact World.grownBy_alloc wr _ none) hH'.all.1 (by simp);have q2:decide ((0:Int) < (k:Int))=true:=decide_eq_true (by omega);have q2':decide (0 < k)=true:=decide_eq_true (by omega);have q3:decide (r.seq≤p'.seq)=true:=decide_eq_true (by omega);have hwj:IntKind.i64.wrap ((k:Int) - 1)=(j:Int):=by rw[IntWalk.i64_in _ (by omega)];omega
            have j0:(0:Int)≤(j:Int):=by omega
            have j1:(j:Int) < (n:Int):=by omega
            by_cases hneg:r.seq < 0
            · have q1:decide (r.seq < 0)=true:=decide_eq_true hneg;clear hkj hp hsp hp0 a1 hb' hp' hH' hneg hRR;go_quiet (fail);go_wp2_with fail;go_ret;exact⟨bg HF.out.symm,aH Ii.out _⟩
            · have q1:decide (r.seq < 0)=false:=decide_eq_false hneg;clear hkj hp hsp hp0 a1 hb' hp' hH' hneg hRR;go_quiet (fail);go_wp2_with fail;go_ret;exact⟨bg HF.out.symm,aH Ii.out _⟩
        · have q1:decide (r.seq < 0)=false:=decide_eq_false (by rcases hseq with ⟨_,hs0⟩ | ⟨_,_,_,_,hsp,hp0⟩ <;> omega)
          have HA1:Hid (seq < r.seq):=ae (by omega);rcases hseq with ⟨hk0,hs0⟩ | ⟨j,p,hkj,hp,hsp,hp0⟩
          · have q2:decide ((0:Int) < (k:Int))=false:=decide_eq_false (by omega);have q2':decide (0 < k)=false:=decide_eq_false (by omega);have HSQ:Hid (0≤r.seq):=ae (by omega);have HK0:=ae hk0;clear hk0 hs0 a1 hRR;by_cases a2:(400:Int) < (nd:Int)
            · have s2:decide ((400:Int) < (nd:Int))=true:=decide_eq_true a2;have s2':decide (400 < nd)=true:=decide_eq_true (by omega);have HF:=ae (hbad.out (.inr (.inr (.inl (by omega)))));clear a2;go_quiet (fail);go_wp2_with fail;go_ret;exact⟨bg HF.out.symm,aH Ii.out _⟩
            · have s2:decide ((400:Int) < (nd:Int))=false:=decide_eq_false a2;have s2':decide (400 < nd)=false:=decide_eq_false (by omega);by_cases a3:(400:Int) < (nf:Int)
              · have s3:decide ((400:Int) < (nf:Int))=true:=decide_eq_true a3;have s3':decide (400 < nf)=true:=decide_eq_true (by omega);have HF:=ae (hbad.out (.inr (.inr (.inr (by omega)))));clear a2 a3;go_quiet (fail);go_wp2_with fail;go_ret;exact⟨bg HF.out.symm,aH Ii.out _⟩
              · have s3:decide ((400:Int) < (nf:Int))=false:=decide_eq_false a3;have s3':decide (400 < nf)=false:=decide_eq_false (by omega);have HG:=ae (hgood.out A0.out HA1.out (by omega) (by omega));clear a2 a3;go_quiet (fail);go_wp2_with fail;go_roundw
                case rel=>exact ⟨k+1,r.seq,by go_num,by omega,.inr ⟨k,r,rfl,HR.out,rfl,HSQ.out⟩,aH HG2.out _,HG.out⟩
                case measure=>simp [intOf];omega
          · obtain⟨b',o',p',xG,DC,zN,xH,DD,cf',hA',hb',hp',hH'⟩:=hRR.at (k:=j) (by omega);simp only[Option.some.injEq,Addr.mk.injEq,and_true] at hA';obtain⟨rfl,rfl⟩:=hA';have hpp:p'=p:=by rw[hp] at hp';exact Option.some.inj hp'.symm
            subst hpp;have e0:W2.cell? ⟨b,o+j * 8,none⟩=some (.int .i64 p'.seq):=World.grownBy.cell (by rw[HW2.out];exact World.grownBy_alloc wr _ none) hH'.all.1 (by simp);have q2:decide ((0:Int) < (k:Int))=true:=decide_eq_true (by omega);have q2':decide (0 < k)=true:=decide_eq_true (by omega);have q3:decide (r.seq≤p'.seq)=false:=decide_eq_false (by omega);have hwj:IntKind.i64.wrap ((k:Int) - 1)=(j:Int):=by rw[IntWalk.i64_in _ (by omega)];omega
            have j0:(0:Int)≤(j:Int):=by omega
            have j1:(j:Int) < (n:Int):=by omega
            have HSQ:Hid (0≤r.seq):=ae (by omega);clear hkj hp hsp hp0 a1 hb' hp' hH' hRR;by_cases a2:(400:Int) < (nd:Int)
            · have s2:decide ((400:Int) < (nd:Int))=true:=decide_eq_true a2;have s2':decide (400 < nd)=true:=decide_eq_true (by omega);have HF:=ae (hbad.out (.inr (.inr (.inl (by omega)))));clear a2;go_quiet (fail);go_wp2_with fail;go_ret;exact⟨bg HF.out.symm,aH Ii.out _⟩
            · have s2:decide ((400:Int) < (nd:Int))=false:=decide_eq_false a2;have s2':decide (400 < nd)=false:=decide_eq_false (by omega);by_cases a3:(400:Int) < (nf:Int)
              · have s3:decide ((400:Int) < (nf:Int))=true:=decide_eq_true a3;have s3':decide (400 < nf)=true:=decide_eq_true (by omega);have HF:=ae (hbad.out (.inr (.inr (.inr (by omega)))));clear a2 a3;go_quiet (fail);go_wp2_with fail;go_ret;exact⟨bg HF.out.symm,aH Ii.out _⟩
              · have s3:decide ((400:Int) < (nf:Int))=false:=decide_eq_false a3;have s3':decide (400 < nf)=false:=decide_eq_false (by omega);have HG:=ae (hgood.out A0.out HA1.out (by omega) (by omega));clear a2 a3;go_quiet (fail);go_wp2_with fail;go_roundw
                case rel=>exact ⟨k+1,r.seq,by go_num,by omega,.inr ⟨k,r,rfl,HR.out,rfl,HSQ.out⟩,aH HG2.out _,HG.out⟩
                case measure=>simp [intOf];omega
      · have g0:(r.ev.thread !=thread)=true:=by rw[bne_iff_ne];exact a0
        have HF:=ae (hbad.out (.inl a0));clear a0 hseq;go_quiet (fail);go_wp2_with fail;go_ret;exact⟨bg HF.out.symm,aH Ii.out _⟩
    · have HF:Hid (fits ⟨thread,first,recs⟩=0):=by
       have e1:=HO.out;rw[List.drop_eq_nil_of_le (by rw[HL.out];omega)] at e1;rw[HX.out,←e1];exact ae rfl
      clear hseq;go_wp2_with fail;go_ret;exact⟨bg HF.out.symm,hgw⟩
