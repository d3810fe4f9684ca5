/- Words. -/
import Derived.Test.YtfbkkgfkhhibfaaGreatRead
import Derived.Test.YtfbkkgfkhhibfaaGreatFits
set_option linter.unusedVariables false
set_option maxRecDepth 100000
set_option maxHeartbeats 8000000
namespace Go.Proofs.YtfbkkgfkhhibfaaGreat
open Go Go.RowKit Iv
theorem Fa (A A':Option Addr)(n n' c c':Nat)(xs ys:List Int)(w:World)(B:Nat)(h:Lies w B 1 A n (xs.map iv))(h':Lies w B 1 A' n' (ys.map iv))(hn:n≤1000000000000)(hn':n'≤1000000000000):
 Calls Tryz.prog 36 #[.slice A n c,.slice A' n' c'] w fun e w'=>e= .returned (.bool (decide (xs=ys)))∧∃q,w'=w.drewN q:=by
 have hl:xs.length=n:=by simpa using h.1
 have hl':ys.length=n':=by simpa using h'.1
 by_cases hnn:n=n'
 · subst hnn;have HL:=ae hl;have HL':=ae hl';clear hl hl';have hb:((n:Int) !=(n:Int))=false:=by simp
   go_enter Tryz.func36,Tryz.ntmps36;go_wp2;go_loopw [5] (fun i wr=>∃k q:Nat,i= .int .i64 k∧k≤n∧wr=w.drewN q∧xs.take k=ys.take k) (fun i _=>n - (intOf i).toNat)
   case atStart=>exact ⟨0,0,rfl,by omega,rfl,rfl⟩
   case round=>
    obtain⟨k,q,rfl,hk,rfl,heq⟩:=hrel;have HE:=ae heq;clear heq;by_cases hlt:k < n
    · obtain⟨ad,u,rfl,hb1,hx,hc⟩:=h.cellAt hlt;obtain⟨ad',u',rfl,hb2,hx',hc'⟩:=h'.cellAt hlt;simp only[List.getElem?_map,Option.map_eq_some_iff] at hx hx';obtain⟨x,hx,rfl⟩:=hx;obtain⟨y,hy,rfl⟩:=hx';unfold iv at hc hc';have HX:=ae hx;have HY:=ae hy;clear hx hy;by_cases hxy:x=y
      · have hne:(x !=y)=false:=by simp[hxy]
        have Wu:=ae hxy;clear hxy;go_wp2;go_quiet (fail);go_wp2;go_roundw
        case rel=>exact ⟨k+1,q+nq,by go_num,by omega,by simp,by rw[mG HX.out,mG HY.out,HE.out,Wu.out]⟩
        case measure=>simp [intOf];omega
      · have hne:(x !=y)=true:=by
         rw[bne_iff_ne];exact hxy
        have HF:Hid (decide (xs=ys)=false):=by
         rw[decide_eq_false_iff_not];intro e;have h1:=HX.out;rw[e,HY.out] at h1;injection h1 with h1;exact hxy h1.symm
        clear hxy;go_wp2;go_quiet (fail);go_wp2;go_ret;exact⟨dB HF.out.symm,q+nq,by simp⟩
    · have hkn:k=n:=by omega
      have HF:Hid (decide (xs=ys)=true):=by
       rw[decide_eq_true_iff];have:=HE.out;rwa [List.take_of_length_le (by have:=HL.out;omega),List.take_of_length_le (by have:=HL'.out;omega)] at this
      clear hkn;go_wp2;go_ret;exact⟨dB HF.out.symm,q,rfl⟩
 · have hb:((n:Int) !=(n':Int))=true:=by rw[bne_iff_ne];omega
   have HF:Hid (decide (xs=ys)=false):=by
    rw[decide_eq_false_iff_not];intro e;rw[e] at hl;omega
   clear hnn hl hl';go_enter Tryz.func36,Tryz.ntmps36;go_wp2;go_ret;exact⟨dB HF.out.symm,0,rfl⟩
theorem sQ (A A':Option Addr)(n n' c c':Nat)(xs:List Int)(w:World)(B B':Nat)(h:Lies w B 1 A n (xs.map iv))(h':Lies w B' 1 A' n' (xs.map iv))(hn:n≤1000000000000)(hn':n'≤1000000000000):
 Calls Tryz.prog 36 #[.slice A n c,.slice A' n' c'] w fun e w'=>e= .returned (.bool true)∧∃q,w'=w.drewN q:=
 (Fa A A' n n' c c' xs xs w (max B B') (h.more (Nat.le_max_left _ _)) (h'.more (Nat.le_max_right _ _)) hn hn').mono fun e w' ⟨he,hw⟩=>⟨by rw[he];simp,hw⟩
def evV (e:Ev)(Ad:Option Addr)(nd cd:Nat)(Af:Option Addr)(nf cf:Nat):Array Value:=
 #[.int .i64 e.thread,.int .i64 e.kind,.int .i64 e.obj,.int .i64 e.value,.int .i64 e.site,.slice Ad nd cd,.slice Af nf cf]
theorem zM (e:Ev)(Ad:Option Addr)(nd cd:Nat)(Af:Option Addr)(nf cf:Nat)(xq:Option Addr)(Dt zG:Nat)(xu:Option Addr)(Du cf':Nat)(w:World)(B:Nat)
 (h1:Lies w B 1 Ad nd (e.deps.map iv)) (h2:Lies w B 1 Af nf (e.from_.map iv)) (h1':Lies w B 1 xq Dt (e.deps.map iv)) (h2':Lies w B 1 xu Du (e.from_.map iv)) (hd:e.deps.length≤1000000000000) (hf:e.from_.length≤1000000000000):
 Calls Tryz.prog 35 #[.agg (evV e Ad nd cd Af nf cf),.agg (evV e xq Dt zG xu Du cf')] w fun en w'=>en= .returned (.bool true)∧w.grownBy w' none:=by
 have l1:=h1.lenI;have l2:=h2.lenI;have l1':=h1'.lenI;have l2':=h2'.lenI;rw[l1] at hd l1';rw[l2] at hf l2';subst l1' l2';have C1:=ae (fun o o'=>sQ Ad xq nd nd cd zG e.deps ((w.alloc o).alloc o') B B ((h1.allocAny o).allocAny o') ((h1'.allocAny o).allocAny o') hd hd);have C2:=ae (fun o o' q=>sQ Af xu nf nf cf cf' e.from_ (((w.alloc o).alloc o').drewN q) B B (((h2.allocAny o).allocAny o').drewN q) (((h2'.allocAny o).allocAny o').drewN q) hf hf);clear l1 l2 h1 h2 h1' h2' hd hf;have b1:(e.thread==e.thread)=true:=by simp
 have b2:(e.kind==e.kind)=true:=by simp
 have b3:(e.obj==e.obj)=true:=by simp
 have b4:(e.value==e.value)=true:=by simp
 have b5:(e.site==e.site)=true:=by simp
 unfold evV;go_enter Tryz.func35,Tryz.ntmps35;go_wp2_with fail;refine (C1.out _ _).mono ?_;rintro en w1 ⟨rfl,q1,rfl⟩;go_wp2_with fail;refine (C2.out _ _ _).mono ?_;rintro en w2 ⟨rfl,q2,rfl⟩;go_wp2_with fail;go_ret;exact⟨rfl,aH (af (World.grownBy_alloc w _ none) (World.grownBy_alloc _ _ none) (.inl rfl)) (q1+q2)⟩
theorem afw {w w1 w2:World}(h:Below w.heap.size w w1)(hg:w1.grownBy w2 none):Below w.heap.size w w2:=h.grown hg h.size (fun k hk=>by cases hk)
theorem Gm (A:Option Addr)(n c B:Nat)(xs:Bytes)(thread seq:Int)(w:World)(h:Lies w B 1 A n (xs.map bv))(hB:B≤w.heap.size)(hnc:n≤c)(ho:A=none→c=0)(hn:n≤1000000000){r:Rec}{k:Nat}{er:Int}(hg:dI xs thread seq=(r,k,er)):
 Calls Tryz.prog 154 #[.slice A n c,.int .i64 thread,.int .i64 seq] w fun e w'=>∃(Ad:Option Addr) (cd:Nat) (Af:Option Addr) (cf:Nat),
  e= .returned (.tuple #[.agg (recV r Ad r.ev.deps.length cd Af r.ev.from_.length cf),.int .i64 (k:Int),.int .i64 er])∧
  w'.ownsRow w.heap.size 3 1 (.slice Ad r.ev.deps.length cd) r.ev.deps.length (r.ev.deps.map iv)∧w'.ownsRow w.heap.size 3 1 (.slice Af r.ev.from_.length cf) r.ev.from_.length (r.ev.from_.map iv)∧w.grownBy w' none:=by
 refine (Pe A n c B xs thread seq w h hB hnc ho hn).mono ?_;rintro e w' ⟨r',vd,vf,hr,he,hd,hf,hgr⟩;rw[hg] at hr he;subst hr;obtain⟨Ad,cd,hvd,_⟩:=aj hd;obtain⟨Af,cf,WQ,_⟩:=aj hf;subst hvd WQ;exact⟨Ad,cd,Af,cf,he,hd,hf,hgr⟩
theorem Rn {W:World}{g:Nat}{T:TypeId}{r:Rec}{Ad:Option Addr}{nd cd:Nat}{Af:Option Addr}{nf cf:Nat}(h:Held W g T (recV r Ad nd cd Af nf cf)):
 W.cell? ⟨g,0,none⟩=some (.int .i64 r.seq)∧W.cell? ⟨g,1,none⟩=some (.int .i64 r.ev.thread)∧W.cell? ⟨g,2,none⟩=some (.int .i64 r.ev.kind)∧W.cell? ⟨g,3,none⟩=some (.int .i64 r.ev.obj)∧
 W.cell? ⟨g,4,none⟩=some (.int .i64 r.ev.value)∧W.cell? ⟨g,5,none⟩=some (.int .i64 r.ev.site)∧W.cell? ⟨g,6,none⟩=some (.slice Ad nd cd)∧W.cell? ⟨g,7,none⟩=some (.slice Af nf cf):=
 ⟨h.cell 0,h.cell 1,h.cell 2,h.cell 3,h.cell 4,h.cell 5,h.cell 6,h.cell 7⟩
end Go.Proofs.YtfbkkgfkhhibfaaGreat
namespace Iv
open Go Go.RowKit
theorem dO {a b:World}(h:a.grownBy b none)(o:Option Nat):a.grownBy b o:=⟨h.os,h.tape,h.output,h.size,fun k hk _=>h.block k hk (fun e=>nomatch e)⟩
def Off (o:Option Nat)(A:Option Addr)(n:Nat):Prop:=0 < n→∀ad,A=some ad→some ad.block≠o
theorem Off.ofOwn {w:World}{base e sz n c:Nat}{A:Option Addr}{xs:List Value}{o:Option Nat}(h:w.ownsRow base e sz (.slice A n c) n xs)(ho:∀g,o=some g→g < base):Off o A n:=by
 rintro _ ad rfl hb;have:=(h.lt ad.block rfl).1;have:=ho _ hb.symm;omega
theorem Lies.grownOff {w w':World}{B sz n:Nat}{A:Option Addr}{xs:List Value}{row:Option Nat}(h:Lies w B sz A n xs)(ho:Off row A n)(hg:w.grownBy w' row)(hB:B≤w.heap.size):Lies w' B sz A n xs:=by
 refine⟨h.1,fun hn=>?_⟩;obtain⟨ad,e,hb,hc⟩:=h.2 hn;refine⟨ad,e,hb,fun j u hu=>?_⟩;refine Eq.trans (World.cell?_of_block (hg.block (ad.add j).block ?_ ?_)) (hc j u hu)
 · rw[addBlock];omega
 · rw[addBlock];exact ho hn ad e
theorem Off.at_ {w:World}{B sz n:Nat}{A:Option Addr}{xs:List Value}{o o':Option Nat}(ho:Off o A n)(h:Lies w B sz A n xs)(hB:B≤w.heap.size)(hat:At w o o'):Off o' A n:=by
 intro hn ad e hb;rcases hat with rfl | ⟨g,rfl,hge⟩
 · exact ho hn ad e hb
 · obtain⟨ad',e',hb',_⟩:=h.2 hn;rw[e] at e';injection e' with e';subst e';injection hb with hb;omega
def Lo (lo:Nat)(A:Option Addr)(n:Nat):Prop:=0 < n→∀ad,A=some ad→lo≤ad.block
theorem Lo.ofOwn {w:World}{base e sz n c lo:Nat}{A:Option Addr}{xs:List Value}(h:w.ownsRow base e sz (.slice A n c) n xs)(hl:lo≤base):Lo lo A n:=by
 rintro _ ad rfl;have:=(h.lt ad.block rfl).1;omega
theorem Lo.lower {lo lo':Nat}{A:Option Addr}{n:Nat}(h:Lo lo A n)(hl:lo'≤lo):Lo lo' A n:=fun hn ad e=>by have:=h hn ad e;omega
theorem Lo.off {lo:Nat}{A:Option Addr}{n:Nat}{row:Option Nat}(h:Lo lo A n)(hr:∀g,row=some g→g < lo):Off row A n:=fun hn ad e hb=>by
 have h1:=h hn ad e
 have h2:=hr _ hb.symm
 omega
end Iv
namespace Go.Proofs.YtfbkkgfkhhibfaaGreat
open Go Go.RowKit Iv
theorem xK:(Tryz.prog.info? 54).map (fun i=>(i.zero,i.size,i.bytes))=some (some (.agg #[.int .i64 0,.int .i64 0,.int .i64 0,.int .i64 0,.int .i64 0,.int .i64 0,.slice none 0 0,.slice none 0 0]),8,96):=by kernel_rfl
structure RowRec (w:World)(lo:Nat)(o:Option Nat)(css:List Value)(k:Nat)(r:Rec)(Ad:Option Addr)(nd cd:Nat)(Af:Option Addr)(nf cf:Nat):Prop where
 cells:∀j u,(recV r Ad nd cd Af nf cf)[j]?=some u→css[k * 8+j]?=some u
 ld:Lies w w.heap.size 1 Ad nd (r.ev.deps.map iv)
 lf:Lies w w.heap.size 1 Af nf (r.ev.from_.map iv)
 od:Off o Ad nd
 of_:Off o Af nf
 lod:Lo lo Ad nd
 lof:Lo lo Af nf
def RowsAt (w:World)(lo:Nat)(o:Option Nat)(css:List Value)(rs:List Rec):Prop:=
 css.length=rs.length * 8∧∀k r,rs[k]?=some r→∃(Ad:Option Addr) (nd cd:Nat) (Af:Option Addr) (nf cf:Nat),RowRec w lo o css k r Ad nd cd Af nf cf
theorem RowsAt.nil (w:World)(lo:Nat)(o:Option Nat):RowsAt w lo o [] []:=⟨rfl,fun k r hr=>by simp at hr⟩
theorem RowRec.grow {w w':World}{lo:Nat}{o o':Option Nat}{css:List Value}{k:Nat}{r:Rec}{Ad:Option Addr}{nd cd:Nat}{Af:Option Addr}{nf cf:Nat}(h:RowRec w lo o css k r Ad nd cd Af nf cf)(hg:w.grownBy w' o)(hat:At w o o'):RowRec w' lo o' css k r Ad nd cd Af nf cf:=
 ⟨h.cells,(h.ld.grownOff h.od hg (Nat.le_refl _)).more hg.size,(h.lf.grownOff h.of_ hg (Nat.le_refl _)).more hg.size,h.od.at_ h.ld (Nat.le_refl _) hat,h.of_.at_ h.lf (Nat.le_refl _) hat,h.lod,h.lof⟩
theorem RowsAt.grow {w w':World}{lo:Nat}{o o':Option Nat}{css:List Value}{rs:List Rec}(h:RowsAt w lo o css rs)(hg:w.grownBy w' o)(hat:At w o o'):RowsAt w' lo o' css rs:=
 ⟨h.1,fun k r hr=>by
  obtain⟨Ad,nd,cd,Af,nf,cf,q⟩:=h.2 k r hr
  exact⟨Ad,nd,cd,Af,nf,cf,q.grow hg hat⟩⟩
theorem RowsAt.keep {w w':World}{lo:Nat}{o:Option Nat}{css:List Value}{rs:List Rec}(h:RowsAt w lo o css rs)(hg:w.grownBy w' none):RowsAt w' lo o css rs:=
 ⟨h.1,fun k r hr=>by
  obtain⟨Ad,nd,cd,Af,nf,cf,q⟩:=h.2 k r hr
  exact⟨Ad,nd,cd,Af,nf,cf,q.cells,(q.ld.grown hg (Nat.le_refl _) (fun _ e=>nomatch e)).more hg.size,(q.lf.grown hg (Nat.le_refl _) (fun _ e=>nomatch e)).more hg.size,q.od,q.of_,q.lod,q.lof⟩⟩
theorem RowsAt.snoc {w:World}{lo:Nat}{o:Option Nat}{css:List Value}{rs:List Rec}(h:RowsAt w lo o css rs){r:Rec}{Ad:Option Addr}{nd cd:Nat}{Af:Option Addr}{nf cf:Nat}
 (h1:Lies w w.heap.size 1 Ad nd (r.ev.deps.map iv)) (h2:Lies w w.heap.size 1 Af nf (r.ev.from_.map iv)) (h3:Off o Ad nd) (h4:Off o Af nf) (h5:Lo lo Ad nd) (h6:Lo lo Af nf):RowsAt w lo o (css++(recV r Ad nd cd Af nf cf).toList) (rs++ [r]):=by
 refine⟨by rw[List.length_append,h.1,List.length_append];unfold recV;simp[Nat.add_mul],fun k q hq=>?_⟩;by_cases hk:k < rs.length
 · rw[List.getElem?_append_left hk] at hq;obtain⟨xq,Dt,zG,xu,Du,cf',z⟩:=h.2 k q hq;refine⟨xq,Dt,zG,xu,Du,cf',fun j u hu=>?_,z.ld,z.lf,z.od,z.of_,z.lod,z.lof⟩;have:=z.cells j u hu;rw[List.getElem?_append_left (List.getElem?_eq_some_iff.1 this).1];exact this
 · have hkl:k < rs.length+1:=by have:=(List.getElem?_eq_some_iff.1 hq).1;simpa using this
   have hkn:k=rs.length:=by omega
   subst hkn;rw[List.getElem?_append_right (Nat.le_refl _),Nat.sub_self] at hq;simp only[List.getElem?_cons_zero,Option.some.injEq] at hq;subst hq;refine⟨Ad,nd,cd,Af,nf,cf,fun j u hu=>?_,h1,h2,h3,h4,h5,h6⟩;rw[List.getElem?_append_right (by rw[h.1];omega),h.1,Nat.add_sub_cancel_left];simpa using hu
structure RecN (w:World)(lo b o:Nat)(r:Rec)(Ad:Option Addr)(nd cd:Nat)(Af:Option Addr)(nf cf:Nat):Prop where
 lob:lo≤b
 hib:b < w.heap.size
 cells:∀j u,(recV r Ad nd cd Af nf cf)[j]?=some u→w.cell? ⟨b,o+j,none⟩=some u
 ld:Lies w w.heap.size 1 Ad nd (r.ev.deps.map iv)
 lf:Lies w w.heap.size 1 Af nf (r.ev.from_.map iv)
 lod:Lo lo Ad nd
 lof:Lo lo Af nf
def RecsNew (w:World)(lo:Nat)(A:Option Addr)(n:Nat)(rs:List Rec):Prop:=
 rs.length=n∧∀k r,rs[k]?=some r→∃(b o:Nat) (Ad:Option Addr) (nd cd:Nat) (Af:Option Addr) (nf cf:Nat),A=some ⟨b,o,none⟩∧RecN w lo b (o+k * 8) r Ad nd cd Af nf cf
theorem RecsNew.nil (w:World)(lo:Nat)(A:Option Addr):RecsNew w lo A 0 []:=⟨rfl,fun k r hr=>by simp at hr⟩
theorem RecsNew.recs {w:World}{lo n:Nat}{A:Option Addr}{rs:List Rec}(h:RecsNew w lo A n rs):Recs w w.heap.size A n rs:=
 ⟨h.1,fun k r hr=>by
  obtain⟨b,o,Ad,nd,cd,Af,nf,cf,e,q⟩:=h.2 k r hr
  exact⟨b,o,Ad,nd,cd,Af,nf,cf,e,q.hib,q.cells,q.ld,q.lf⟩⟩
theorem RecsNew.lower {w:World}{lo lo' n:Nat}{A:Option Addr}{rs:List Rec}(h:RecsNew w lo A n rs)(hl:lo'≤lo):RecsNew w lo' A n rs:=
 ⟨h.1,fun k r hr=>by
  obtain⟨b,o,Ad,nd,cd,Af,nf,cf,e,q⟩:=h.2 k r hr
  exact⟨b,o,Ad,nd,cd,Af,nf,cf,e,Nat.le_trans hl q.lob,q.hib,q.cells,q.ld,q.lf,q.lod.lower hl,q.lof.lower hl⟩⟩
theorem RecsNew.keep {w w':World}{lo n:Nat}{A:Option Addr}{rs:List Rec}{row:Option Nat}(h:RecsNew w lo A n rs)(hg:w.grownBy w' row)(hr:∀g,row=some g→g < lo):RecsNew w' lo A n rs:=
 ⟨h.1,fun k r hk=>by
  obtain⟨b,o,Ad,nd,cd,Af,nf,cf,e,q⟩:=h.2 k r hk
  refine⟨b,o,Ad,nd,cd,Af,nf,cf,e,q.lob,Nat.lt_of_lt_of_le q.hib hg.size,fun j u hu=>?_,(q.ld.grownOff (q.lod.off hr) hg (Nat.le_refl _)).more hg.size,(q.lf.grownOff (q.lof.off hr) hg (Nat.le_refl _)).more hg.size,q.lod,q.lof⟩
  refine Eq.trans (World.cell?_of_block (hg.block b q.hib (fun e=>?_))) (q.cells j u hu)
  have h1:=hr _ e.symm
  have h2:=q.lob
  omega⟩
theorem RowsAt.recs {w:World}{lo base e c n:Nat}{A:Option Addr}{css:List Value}{rs:List Rec}(h:RowsAt w lo (Value.slice A n c).ownBlock css rs)(ho:w.ownsRow base e 8 (.slice A n c) n css)(hn:n=rs.length)(hlo:lo≤base):RecsNew w lo A n rs:=by
 refine⟨hn.symm,fun k r hr=>?_⟩;have hk:k < n:=by rw[hn];exact (List.getElem?_eq_some_iff.1 hr).1
 obtain⟨g,cap,hv,hbg,hlt⟩:=ho.form (by omega);have hgb:=(ho.lt g (by rw[hv];rfl)).1;injection hv with hA;subst hA;obtain⟨Ad,nd,cd,Af,nf,cf,q⟩:=h.2 k r hr;refine⟨g,0,Ad,nd,cd,Af,nf,cf,rfl,Nat.le_trans hlo hgb,hlt,fun j u hu=>?_,q.ld,q.lf,q.lod,q.lof⟩;have:=ho.cells (g:=g) rfl (k * 8+j) u (q.cells j u hu);rw[Nat.zero_add];have e0:(⟨g,0,none⟩:Addr).add (k * 8+j)=⟨g,k * 8+j,none⟩:=by unfold Addr.add;split <;> simp_all
 rwa [e0] at this
theorem Rq (r:Rec)(Ad:Option Addr)(nd cd:Nat)(Af:Option Addr)(nf cf:Nat):∀u∈(recV r Ad nd cd Af nf cf).toList,u.oneCell'=true:=by
 intro u hu;unfold recV at hu;simp only[List.mem_cons,List.not_mem_nil,or_false] at hu;rcases hu with rfl | rfl | rfl | rfl | rfl | rfl | rfl | rfl <;> rfl
theorem Ro (W:World)(t:TypeId)(r:Rec)(Ad:Option Addr)(nd cd:Nat)(Af:Option Addr)(nf cf:Nat):∀j u,(recV r Ad nd cd Af nf cf).toList[j]?=some u→(W.alloc (.cells (recV r Ad nd cd Af nf cf) t)).cell? ((⟨W.heap.size,0,none⟩:Addr).add j)=some u:=by
 intro j u hu;have e0:(⟨W.heap.size,0,none⟩:Addr).add j=⟨W.heap.size,j,none⟩:=by unfold Addr.add;split <;> simp_all
 rw[e0,(Held.new W t _).cell j];simpa using hu
def BufAt (w:World)(B:Nat)(css:List Value)(rs:List Rec):Prop:=
 css.length=rs.length * 8∧∀k r,rs[k]?=some r→∃(Ad:Option Addr) (nd cd:Nat) (Af:Option Addr) (nf cf:Nat),(∀j u,(recV r Ad nd cd Af nf cf)[j]?=some u→css[k * 8+j]?=some u)∧Lies w B 1 Ad nd (r.ev.deps.map iv)∧Lies w B 1 Af nf (r.ev.from_.map iv)
theorem BufAt.nil (w:World)(B:Nat):BufAt w B [] []:=⟨rfl,fun k r hr=>by simp at hr⟩
theorem BufAt.grow {w w':World}{B:Nat}{css:List Value}{rs:List Rec}{row:Option Nat}(h:BufAt w B css rs)(hg:w.grownBy w' row)(hB:B≤w.heap.size)(hr:∀g,row=some g→B≤g):BufAt w' B css rs:=
 ⟨h.1,fun k r hk=>by
  obtain⟨Ad,nd,cd,Af,nf,cf,q1,q2,q3⟩:=h.2 k r hk
  exact⟨Ad,nd,cd,Af,nf,cf,q1,q2.grown hg hB hr,q3.grown hg hB hr⟩⟩
theorem BufAt.snoc {w:World}{B:Nat}{css:List Value}{rs:List Rec}(h:BufAt w B css rs){r:Rec}{Ad:Option Addr}{nd cd:Nat}{Af:Option Addr}{nf cf:Nat}
 (h1:Lies w B 1 Ad nd (r.ev.deps.map iv)) (h2:Lies w B 1 Af nf (r.ev.from_.map iv)):BufAt w B (css++(recV r Ad nd cd Af nf cf).toList) (rs++ [r]):=by
 refine⟨by rw[List.length_append,h.1,List.length_append];unfold recV;simp[Nat.add_mul],fun k q hq=>?_⟩;by_cases hk:k < rs.length
 · rw[List.getElem?_append_left hk] at hq;obtain⟨xq,Dt,zG,xu,Du,cf',z1,z2,z3⟩:=h.2 k q hq;refine⟨xq,Dt,zG,xu,Du,cf',fun j u hu=>?_,z2,z3⟩;have:=z1 j u hu;rw[List.getElem?_append_left (List.getElem?_eq_some_iff.1 this).1];exact this
 · have hkl:k < rs.length+1:=by have:=(List.getElem?_eq_some_iff.1 hq).1;simpa using this
   have hkn:k=rs.length:=by omega
   subst hkn;rw[List.getElem?_append_right (Nat.le_refl _),Nat.sub_self] at hq;simp only[List.getElem?_cons_zero,Option.some.injEq] at hq;subst hq;refine⟨Ad,nd,cd,Af,nf,cf,fun j u hu=>?_,h1,h2⟩;rw[List.getElem?_append_right (by rw[h.1];omega),h.1,Nat.add_sub_cancel_left];simpa using hu
theorem BufAt.recs {w:World}{base e c n B:Nat}{A:Option Addr}{css:List Value}{rs:List Rec}(h:BufAt w B css rs)(ho:w.ownsRow base e 8 (.slice A n c) n css)(hn:n=rs.length)(hB:B≤w.heap.size):Recs w w.heap.size A n rs:=by
 refine⟨hn.symm,fun k r hr=>?_⟩;have hk:k < n:=by rw[hn];exact (List.getElem?_eq_some_iff.1 hr).1
 obtain⟨g,cap,hv,hbg,hlt⟩:=ho.form (by omega);injection hv with hA;subst hA;obtain⟨Ad,nd,cd,Af,nf,cf,q1,q2,q3⟩:=h.2 k r hr;refine⟨g,0,Ad,nd,cd,Af,nf,cf,rfl,hlt,fun j u hu=>?_,q2.more hB,q3.more hB⟩;have:=ho.cells (g:=g) rfl (k * 8+j) u (q1 j u hu);rw[Nat.zero_add];have e0:(⟨g,0,none⟩:Addr).add (k * 8+j)=⟨g,k * 8+j,none⟩:=by unfold Addr.add;split <;> simp_all
 rwa [e0] at this
def fam (thr:Nat)(f:Nat→Value):Array Value:=((List.range thr).map f).toArray
theorem fE {thr t:Nat}(f:Nat→Value)(ht:t < thr):(fam thr f)[t]?=some (f t):=by simp[fam,ht]
theorem E5 {thr t:Nat}(f:Nat→Value)(v:Value):(fam thr f).setIfInBounds t v=fam thr (upd f t v):=by
 unfold fam;apply Array.ext
 · simp
 · intro i h1 h2;simp only[Array.size_setIfInBounds,List.size_toArray,List.length_map,List.length_range] at h1;rw[Array.getElem_setIfInBounds (by simpa using h1)];by_cases hi:t=i
   · subst hi;simp[upd]
   · have:i≠t:=fun e=>hi e.symm
     simp[hi,upd,this]
theorem Vf {α β:Type}(g:α→β)(f:Nat→α)(t:Nat)(x:α):(fun k=>g (upd f t x k))=upd (fun k=>g (f k)) t (g x):=by
 funext k;unfold upd;split <;> rfl
structure RM (base B thr gB gW gF:Nat)(s:St)(vb vf:Nat→Value)(css:Nat→List Value)(wr:World):Prop where
 hB:Held wr gB 48 (fam thr vb)
 hW:Held wr gW 3 (fam thr fun t=> .int .i64 (s.first t))
 hF:Held wr gF 22 (fam thr vf)
 ob:∀t,t < thr→wr.ownsRow base 54 8 (vb t) (s.buf t).length (css t)
 oc:∀t,t < thr→BufAt wr B (css t) (s.buf t)
 of_:∀t,t < thr→wr.ownsRow base 5 1 (vf t) (s.file t).length ((s.file t).map bv)
 abb:∀t k,t < thr→k < thr→t≠k→Apart (vb t) (vb k)
 aff:∀t k,t < thr→k < thr→t≠k→Apart (vf t) (vf k)
 abf:∀t k,t < thr→k < thr→Apart (vb t) (vf k)
 lt:gB < base∧gW < base∧gF < base
 ge:B≤gB∧B≤gW∧B≤gF
 ne:gB≠gW∧gB≠gF∧gW≠gF
 bs:base≤wr.heap.size
section
variable {base B thr gB gW gF : Nat} {s : St} {vb vf : Nat → Value} {css : Nat → List Value} {wr w1 : World}
theorem RM.keep (h:RM base B thr gB gW gF s vb vf css wr)(hg:wr.grownBy w1 none):RM base B thr gB gW gF s vb vf css w1:=
 ⟨h.hB.grown hg (fun e=>nomatch e),h.hW.grown hg (fun e=>nomatch e),h.hF.grown hg (fun e=>nomatch e),fun t ht=>ay (h.ob t ht) hg (fun _ _ e=>nomatch e),fun t ht=>(h.oc t ht).grow hg (by have:=h.bs;have:=h.lt;have:=h.ge;omega) (fun _ e=>nomatch e),
  fun t ht=>ay (h.of_ t ht) hg (fun _ _ e=>nomatch e),h.abb,h.aff,h.abf,h.lt,h.ge,h.ne,Nat.le_trans h.bs hg.size⟩
theorem gm {e sz n g:Nat}{v:Value}{xs:List Value}(h:wr.ownsRow base e sz v n xs)(hg:g < base):v.ownBlock≠some g:=by
 intro hv;have:=(h.lt g hv).1;omega
theorem RM.setB (h:RM base B thr gB gW gF s vb vf css wr){t:Nat}(ht:t < thr){v:Value}{xs:List Value}{rs:List Rec}(ho:w1.ownsRow base 54 8 v rs.length xs)(hc:BufAt w1 B xs rs)(hg:wr.grownBy w1 (vb t).ownBlock)
 (a1:∀k,k < thr→k≠t→Apart v (vb k)) (a2:∀k,k < thr→Apart v (vf k)):
 RM base B thr gB gW gF ⟨upd s.buf t rs,s.first,s.file⟩ (upd vb t v) vf (upd css t xs) (w1.setCell ⟨gB,t,none⟩ v):=by
 obtain⟨l1,l2,l3⟩:=h.lt;obtain⟨e1,e2,e3⟩:=h.ge;obtain⟨n1,n2,n3⟩:=h.ne;have hbs:=h.bs;have own:=h.ob t ht;have hb1:=h.hB.grown hg (fun e=>gm own l1 e.symm);have hw1:=h.hW.grown hg (fun e=>gm own l2 e.symm);have hf1:=h.hF.grown hg (fun e=>gm own l3 e.symm);have st:=ah w1 gB t v;have bsz:base≤w1.heap.size:=Nat.le_trans hbs hg.size;refine⟨?_,hw1.far (p:=⟨gB,t,none⟩) (fun e=>n1 e.symm) v,hf1.far (p:=⟨gB,t,none⟩) (fun e=>n2 e.symm) v,fun k hk=>?_,fun k hk=>?_,fun k hk=>?_,fun a k ha hk hak=>?_,h.aff,fun a k ha hk=>?_,h.lt,h.ge,h.ne,Nat.le_trans bsz st.size⟩
 · have:=hb1.store t v;rw[E5] at this;exact this
 · by_cases hkt:k=t
   · subst hkt;simp only[cZ];exact ay ho st (fun g hv e=>gm ho l1 (by rw[hv,e]))
   · simp only[bG _ _ hkt];exact ay (ay (h.ob k hk) hg (fun g hv e=>h.abb k t hk ht hkt g hv e)) st (fun g hv e=>gm (h.ob k hk) l1 (by rw[hv,e]))
 · by_cases hkt:k=t
   · subst hkt;simp only[cZ];exact hc.grow st (by omega) (fun g e=>by injection e with e;omega)
   · simp only[bG _ _ hkt];exact ((h.oc k hk).grow hg (by omega) (fun g e=>by have:=(own.lt g e).1;omega)).grow st (by omega) (fun g e=>by injection e with e;omega)
 · exact ay (ay (h.of_ k hk) hg (fun g hv e=>(h.abf t k ht hk).symm g hv e)) st (fun g hv e=>gm (h.of_ k hk) l1 (by rw[hv,e]))
 · by_cases hat':a=t
   · subst hat';simp only[cZ,bG _ _ (fun e=>hak e.symm)];exact a1 k hk (fun e=>hak e.symm)
   · by_cases hkt:k=t
     · subst hkt;simp only[cZ,bG _ _ hat'];exact (a1 a ha hat').symm
     · simp only[bG _ _ hat',bG _ _ hkt];exact h.abb a k ha hk hak
 · by_cases hat':a=t
   · subst hat';simp only[cZ];exact a2 k hk
   · simp only[bG _ _ hat'];exact h.abf a k ha hk
theorem RM.grewB (h:RM base B thr gB gW gF s vb vf css wr){t:Nat}(ht:t < thr){v:Value}{xs:List Value}{rs:List Rec}(ho:w1.ownsRow base 54 8 v rs.length xs)(hc:BufAt w1 B xs rs)(hg:wr.grownBy w1 (vb t).ownBlock)(hat:At wr (vb t).ownBlock v.ownBlock):
 RM base B thr gB gW gF ⟨upd s.buf t rs,s.first,s.file⟩ (upd vb t v) vf (upd css t xs) (w1.setCell ⟨gB,t,none⟩ v):=
 h.setB ht ho hc hg (fun k hk hkt=>(h.abb t k ht hk (fun e=>hkt e.symm)).step (h.ob k hk) hat) (fun k hk=>(h.abf t k ht hk).step (h.of_ k hk) hat)
theorem RM.clearB (h:RM base B thr gB gW gF s vb vf css wr){t:Nat}(ht:t < thr):
 RM base B thr gB gW gF ⟨upd s.buf t [],s.first,s.file⟩ (upd vb t (.slice none 0 0)) vf (upd css t []) (wr.setCell ⟨gB,t,none⟩ (.slice none 0 0)):=
 h.setB ht (World.ownsRow_nil _ _ _ _) (BufAt.nil _ _) (World.grownBy.refl wr _) (fun k _ _=>(Apart.nil _).symm) (fun k _=>(Apart.nil _).symm)
theorem RM.setF (h:RM base B thr gB gW gF s vb vf css wr){t:Nat}(ht:t < thr){v:Value}{ys:Bytes}(ho:w1.ownsRow base 5 1 v ys.length (ys.map bv))(hg:wr.grownBy w1 (vf t).ownBlock)
 (a1:∀k,k < thr→k≠t→Apart v (vf k)) (a2:∀k,k < thr→Apart (vb k) v):
 RM base B thr gB gW gF ⟨s.buf,s.first,upd s.file t ys⟩ vb (upd vf t v) css (w1.setCell ⟨gF,t,none⟩ v):=by
 obtain⟨l1,l2,l3⟩:=h.lt;obtain⟨e1,e2,e3⟩:=h.ge;obtain⟨n1,n2,n3⟩:=h.ne;have hbs:=h.bs;have own:=h.of_ t ht;have hb1:=h.hB.grown hg (fun e=>gm own l1 e.symm);have hw1:=h.hW.grown hg (fun e=>gm own l2 e.symm);have hf1:=h.hF.grown hg (fun e=>gm own l3 e.symm);have st:=ah w1 gF t v;have bsz:base≤w1.heap.size:=Nat.le_trans hbs hg.size;refine⟨hb1.far (p:=⟨gF,t,none⟩) n2 v,hw1.far (p:=⟨gF,t,none⟩) n3 v,?_,fun k hk=>?_,fun k hk=>?_,fun k hk=>?_,h.abb,fun a k ha hk hak=>?_,fun a k ha hk=>?_,h.lt,h.ge,h.ne,Nat.le_trans bsz st.size⟩
 · have:=hf1.store t v;rw[E5] at this;exact this
 · exact ay (ay (h.ob k hk) hg (fun g hv e=>h.abf k t hk ht g hv e)) st (fun g hv e=>gm (h.ob k hk) l3 (by rw[hv,e]))
 · exact ((h.oc k hk).grow hg (by omega) (fun g e=>by have:=(own.lt g e).1;omega)).grow st (by omega) (fun g e=>by injection e with e;omega)
 · by_cases hkt:k=t
   · subst hkt;simp only[cZ];exact ay ho st (fun g hv e=>gm ho l3 (by rw[hv,e]))
   · simp only[bG _ _ hkt];exact ay (ay (h.of_ k hk) hg (fun g hv e=>h.aff k t hk ht hkt g hv e)) st (fun g hv e=>gm (h.of_ k hk) l3 (by rw[hv,e]))
 · by_cases hat':a=t
   · subst hat';simp only[cZ,bG _ _ (fun e=>hak e.symm)];exact a1 k hk (fun e=>hak e.symm)
   · by_cases hkt:k=t
     · subst hkt;simp only[cZ,bG _ _ hat'];exact (a1 a ha hat').symm
     · simp only[bG _ _ hat',bG _ _ hkt];exact h.aff a k ha hk hak
 · by_cases hkt:k=t
   · subst hkt;simp only[cZ];exact a2 a ha
   · simp only[bG _ _ hkt];exact h.abf a k ha hk
theorem RM.setW (h:RM base B thr gB gW gF s vb vf css wr){t:Nat}(x:Int):
 RM base B thr gB gW gF ⟨s.buf,upd s.first t x,s.file⟩ vb vf css (wr.setCell ⟨gW,t,none⟩ (.int .i64 x)):=by
 obtain⟨l1,l2,l3⟩:=h.lt;obtain⟨e1,e2,e3⟩:=h.ge;obtain⟨n1,n2,n3⟩:=h.ne;have hbs:=h.bs;have st:=ah wr gW t (.int .i64 x)
 refine⟨h.hB.far (p:=⟨gW,t,none⟩) n1 _,?_,h.hF.far (p:=⟨gW,t,none⟩) (fun e=>n3 e.symm) _,fun k hk=>ay (h.ob k hk) st (fun g hv e=>gm (h.ob k hk) l2 (by rw[hv,e])),fun k hk=>(h.oc k hk).grow st (by omega) (fun g e=>by injection e with e;omega),
  fun k hk=>ay (h.of_ k hk) st (fun g hv e=>gm (h.of_ k hk) l2 (by rw[hv,e])),h.abb,h.aff,h.abf,h.lt,h.ge,h.ne,Nat.le_trans hbs st.size⟩
 have:=h.hW.store t (.int .i64 x);rw[E5] at this;have e:(fun k=>Value.int .i64 (upd s.first t x k))=upd (fun k=>Value.int .i64 (s.first k)) t (.int .i64 x):=Vf (Value.int .i64) s.first t x;show Held _ gW _ (fam thr fun k=>Value.int .i64 (upd s.first t x k));rw[e];exact this
end
