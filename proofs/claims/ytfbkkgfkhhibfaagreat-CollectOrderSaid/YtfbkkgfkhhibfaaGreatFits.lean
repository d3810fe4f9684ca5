/- Words. -/
import Derived.Test.YtfbkkgfkhhibfaaGreatAppR
set_option linter.unusedVariables false
set_option maxRecDepth 100000
set_option maxHeartbeats 8000000
namespace Go.Proofs.YtfbkkgfkhhibfaaGreat
open Go Go.RowKit Iv
structure RecHere (w:World)(B b o:Nat)(r:Rec)(Ad:Option Addr)(nd cd:Nat)(Af:Option Addr)(nf cf:Nat):Prop where
 cells:∀j u,(recV r Ad nd cd Af nf cf)[j]?=some u→w.cell? ⟨b,o+j,none⟩=some u
 ld:Lies w B 1 Ad nd (r.ev.deps.map iv)
 lf:Lies w B 1 Af nf (r.ev.from_.map iv)
def Recs (w:World)(B:Nat)(A:Option Addr)(n:Nat)(rs:List Rec):Prop:=
 rs.length=n∧∀k r,rs[k]?=some r→∃(b o:Nat) (Ad:Option Addr) (nd cd:Nat) (Af:Option Addr) (nf cf:Nat),A=some ⟨b,o,none⟩∧b < B∧RecHere w B b (o+k * 8) r Ad nd cd Af nf cf
section
variable {w w' : World} {B B' n : Nat} {A : Option Addr} {rs : List Rec}
theorem RecHere.same {b o:Nat}{r:Rec}{Ad:Option Addr}{nd cd:Nat}{Af:Option Addr}{nf cf:Nat}(h:RecHere w B b o r Ad nd cd Af nf cf)(hb:b < B)(hk:∀p:Addr,p.block < B→w'.cell? p=w.cell? p):RecHere w' B b o r Ad nd cd Af nf cf:=
 ⟨fun j u hu=>(hk _ hb).trans (h.cells j u hu),h.ld.same hk,h.lf.same hk⟩
theorem Recs.same (h:Recs w B A n rs)(hk:∀p:Addr,p.block < B→w'.cell? p=w.cell? p):Recs w' B A n rs:=
 ⟨h.1,fun k r hr=>by
  obtain⟨b,o,Ad,nd,cd,Af,nf,cf,e,hb,h2⟩:=h.2 k r hr
  exact⟨b,o,Ad,nd,cd,Af,nf,cf,e,hb,h2.same hb hk⟩⟩
theorem Recs.drew (h:Recs w B A n rs):Recs w.drew B A n rs:=h.same fun _ _=>rfl
theorem Recs.alloc (h:Recs w B A n rs)(hB:B≤w.heap.size)(o:Obj):Recs (w.alloc o) B A n rs:=h.same fun p hp=>World.cell?_alloc_lt w o p (by omega)
theorem Recs.grown (h:Recs w B A n rs){row:Option Nat}(hg:w.grownBy w' row)(hB:B≤w.heap.size)(hr:∀g,row=some g→B≤g):Recs w' B A n rs:=
 h.same fun p hp=>World.cell?_of_block (hg.block p.block (by omega) (fun e=>by have:=hr _ e.symm;omega))
theorem RecHere.grown {b o:Nat}{r:Rec}{Ad:Option Addr}{nd cd:Nat}{Af:Option Addr}{nf cf:Nat}(h:RecHere w B b o r Ad nd cd Af nf cf)(hb:b < B){row:Option Nat}(hg:w.grownBy w' row)(hB:B≤w.heap.size)(hr:∀g,row=some g→B≤g):RecHere w' B b o r Ad nd cd Af nf cf:=
 h.same hb fun p hp=>World.cell?_of_block (hg.block p.block (by omega) (fun e=>by have:=hr _ e.symm;omega))
theorem Recs.at {k:Nat}(h:Recs w B A n rs)(hk:k < n):∃(b o:Nat) (r:Rec) (Ad:Option Addr) (nd cd:Nat) (Af:Option Addr) (nf cf:Nat),A=some ⟨b,o,none⟩∧b < B∧rs[k]?=some r∧RecHere w B b (o+k * 8) r Ad nd cd Af nf cf:=by
 have hl:k < rs.length:=by rw[h.1];exact hk
 obtain⟨b,o,Ad,nd,cd,Af,nf,cf,e,hb,h2⟩:=h.2 k rs[k] (List.getElem?_eq_getElem hl);exact⟨b,o,rs[k],Ad,nd,cd,Af,nf,cf,e,hb,List.getElem?_eq_getElem hl,h2⟩
end
theorem RecHere.all {w:World}{B b o:Nat}{r:Rec}{Ad:Option Addr}{nd cd:Nat}{Af:Option Addr}{nf cf:Nat}(h:RecHere w B b o r Ad nd cd Af nf cf):
 w.cell? ⟨b,o,none⟩=some (.int .i64 r.seq)∧w.cell? ⟨b,o+1,none⟩=some (.int .i64 r.ev.thread)∧w.cell? ⟨b,o+2,none⟩=some (.int .i64 r.ev.kind)∧w.cell? ⟨b,o+3,none⟩=some (.int .i64 r.ev.obj)∧
 w.cell? ⟨b,o+4,none⟩=some (.int .i64 r.ev.value)∧w.cell? ⟨b,o+5,none⟩=some (.int .i64 r.ev.site)∧w.cell? ⟨b,o+6,none⟩=some (.slice Ad nd cd)∧w.cell? ⟨b,o+7,none⟩=some (.slice Af nf cf):=
 ⟨h.cells 0 (.int .i64 r.seq) rfl,h.cells 1 _ rfl,h.cells 2 _ rfl,h.cells 3 _ rfl,h.cells 4 _ rfl,h.cells 5 _ rfl,h.cells 6 _ rfl,h.cells 7 _ rfl⟩
end Go.Proofs.YtfbkkgfkhhibfaaGreat
namespace Iv
structure MadeOk (x:Blk):Prop where
 t0:0≤x.thread
 t4:x.thread < 4
 f0:0≤x.first
 f4:x.first≤400
 len:x.recs.length≤64
 ok:okRecs x.thread (-1) x.recs=true
 fit:∀r∈x.recs,RecFit r
 sh:∀r∈x.recs,r.ev.deps.length≤100∧r.ev.from_.length≤100
theorem MadeOk.recOk {x:Blk}(h:MadeOk x):∀r∈x.recs,RecOk r:=tu h.ok h.fit
theorem Df (l:List Int)(h:l.length≤100):(jd l).length≤1010:=by
 unfold jd;have:=qo l 0;have:=aI (n:=(l.length:Int)) ⟨by omega,by omega⟩;simp only[List.length_append];omega
theorem FI (l:List Rec):∀seq,(∀r∈l,RecOk r∧r.ev.deps.length≤100∧r.ev.from_.length≤100)→(aP seq l).length≤2070 * l.length:=by
 induction l with
 | nil=>intro seq _;simp[aP]
 |
  cons r t ih=>
  intro seq h;obtain⟨h0,h1,h2⟩:=h r (by simp);have h3:=ih r.seq fun q hq=>h q (by simp[hq])
  have:=aI (bY (r.seq - seq));have:=aI h0.kind;have:=aI h0.obj;have:=aI h0.value;have:=aI h0.site;have:=Df _ h1;have:=Df _ h2;simp only[aP,bD,List.length_append,List.length_cons];omega
theorem MadeOk.bytes {x:Blk}(h:MadeOk x):(encode x).1.length≤200000:=by
 unfold encode;split
 · rename_i hf
   have hl:=h.len;obtain⟨z0,z1,z2,z3,z4,z5,z6⟩:=dR hf;have hpl:=FI x.recs (-1) (fun r hr=>⟨h.recOk r hr,h.sh r hr⟩);have hq:=dA (aP (-1) x.recs);have q1:=aI (n:=x.first) ⟨by omega,by omega⟩;have q2:=aI (n:=(x.recs.length:Int)) ⟨by omega,by omega⟩;have q3:=aI (n:=((aP (-1) x.recs).length:Int)) ⟨by omega,by omega⟩;have q4:=aI (n:=((pack (aP (-1) x.recs)).length:Int)) ⟨by omega,by omega⟩;show (ak x).length≤_;unfold ak aT eP;simp only[List.length_append,List.length_cons,jJ];omega
 · simp
structure EvOk (n:Nat)(k:Int)(e:Ev):Prop where
 th0:0≤e.thread
 thn:e.thread < n
 kd1:1≤e.kind
 kd23:e.kind≤23
 obj:inI64 e.obj
 val:inI64 e.value
 s0: -1≤e.site
 s1:e.site≤60
 dp:(e.deps.length:Int)≤k∧∀x∈e.deps,0≤x∧x < k
 fr:(e.from_.length:Int)≤k∧∀x∈e.from_,0≤x∧x < k
theorem EvOk.fit {n:Nat}{k:Nat}{e:Ev}(h:EvOk n k e)(hn:n≤4)(hk:k≤400):RecFit ⟨(k:Int),e⟩∧e.deps.length≤400∧e.from_.length≤400:=by
 have h1:=h.th0;have h2:=h.thn;have h3:=h.kd1;have h4:=h.kd23;have h5:=h.s0;have h6:=h.s1;have l1:=h.dp.1;have l2:=h.fr.1;refine⟨⟨⟨by show (-9223372036854775808:Int)≤(k:Int);omega,by show (k:Int)≤9223372036854775807;omega⟩,⟨by show (-9223372036854775808:Int)≤e.thread;omega,by show e.thread≤9223372036854775807;omega⟩,⟨by show (-9223372036854775808:Int)≤e.kind;omega,by show e.kind≤9223372036854775807;omega⟩,h.obj,h.val,⟨by show (-9223372036854775808:Int)≤e.site;omega,by show e.site≤9223372036854775807;omega⟩,fun x hx=>?_,fun x hx=>?_⟩,by omega,by omega⟩
 · have:=h.dp.2 x hx;exact⟨by omega,by omega⟩
 · have:=h.fr.2 x hx;exact⟨by omega,by omega⟩
end Iv
namespace Go.Proofs.YtfbkkgfkhhibfaaGreat
open Go Go.RowKit Iv
def mP (x:Blk):Bool:=decide (0 < x.recs.length) && decide (0≤x.thread) && decide (x.thread < 4) && decide (0≤x.first) && decide (x.first≤400)
theorem mQ (x:Blk):kJ x=(mP x && okRecs x.thread (-1) x.recs):=rfl
theorem uO (thread seq:Int)(recs:List Rec)(k:Nat)(r:Rec)(hr:recs[k]?=some r):
 okRecs thread seq (recs.drop k)=(decide (r.ev.thread=thread) && decide (seq < r.seq) && decide (r.ev.deps.length≤400) && decide (r.ev.from_.length≤400) && okRecs thread r.seq (recs.drop (k+1))):=by
 obtain⟨hl,rfl⟩:=List.getElem?_eq_some_iff.1 hr;rw[List.drop_eq_getElem_cons hl,okRecs]
theorem uP (x:Blk)(A:Option Addr)(n c B:Nat)(w:World)(h:Recs w B A n x.recs)(hB:B≤w.heap.size)(hn:n≤1000000):
 Calls Tryz.prog 78 #[.agg #[.int .i64 x.thread,.int .i64 x.first,.slice A n c]] w fun e w'=>e= .returned (.bool (kJ x))∧w.grownBy w' none:=by
 obtain⟨thread,first,recs⟩:=x;dsimp only at h⊢;have HL:=ae h.1;by_cases hh:n=0∨thread < 0∨4≤thread∨first < 0∨400 < first
 · have HF:Hid (kJ ⟨thread,first,recs⟩=false):=by
    have:=HL.out;rw[mQ]
    have:mP ⟨thread,first,recs⟩=false:=by
     unfold mP;simp only[Bool.and_eq_false_iff,decide_eq_false_iff_not];omega
    rw[this];exact ae rfl
   by_cases a0:n=0
   · have b0:((n:Int)==0)=true:=by rw[beq_iff_eq];omega
     clear hh a0;go_enter Tryz.func78,Tryz.ntmps78;go_wp2_with fail;go_ret;exact⟨dB HF.out.symm,World.grownBy_alloc w _ none⟩
   · have b0:((n:Int)==0)=false:=by rw[beq_eq_false_iff_ne];omega
     have n0:0 < n:=by omega
     clear a0;by_cases a1:thread < 0
     · clear hh;go_enter Tryz.func78,Tryz.ntmps78;go_wp2_with fail;go_ret;exact⟨dB HF.out.symm,World.grownBy_alloc w _ none⟩
     · by_cases a2:(4:Int)≤thread
       · clear hh;go_enter Tryz.func78,Tryz.ntmps78;go_wp2_with fail;go_ret;exact⟨dB HF.out.symm,World.grownBy_alloc w _ none⟩
       · by_cases a3:first < 0
         · clear hh;go_enter Tryz.func78,Tryz.ntmps78;go_wp2_with fail;go_ret;exact⟨dB HF.out.symm,World.grownBy_alloc w _ none⟩
         · have a4:(400:Int) < first:=by omega
           clear hh;go_enter Tryz.func78,Tryz.ntmps78;go_wp2_with fail;go_ret;exact⟨dB HF.out.symm,World.grownBy_alloc w _ none⟩
 · have b0:((n:Int)==0)=false:=by rw[beq_eq_false_iff_ne];omega
   have b1:¬thread < 0:=by omega
   have b2:¬(4:Int)≤thread:=by omega
   have b3:¬first < 0:=by omega
   have b4:¬(400:Int) < first:=by omega
   have HX:Hid (kJ ⟨thread,first,recs⟩=okRecs thread (-1) recs):=by
    have hl:=HL.out;rw[mQ]
    have:mP ⟨thread,first,recs⟩=true:=by
     unfold mP;simp only[Bool.and_eq_true,decide_eq_true_eq];omega
    rw[this];exact ae rfl
   clear hh;obtain⟨W,hW⟩:∃W,W=w.alloc (.cells #[.int .i64 thread,.int .i64 first,.slice A n c] 50):=⟨_,rfl⟩;have iW:w.grownBy W none:=by rw[hW];exact World.grownBy_alloc w _ none
   have hb0:Held W w.heap.size 50 #[.int .i64 thread,.int .i64 first,.slice A n c]:=by rw[hW];exact Held.new _ _ _
   have HW:=ae hW;clear hW;go_enter Tryz.func78,Tryz.ntmps78;go_wp2_with fail;rw[show w.alloc (.cells #[.int .i64 thread,.int .i64 first,.slice A n c] 50)=W from HW.out.symm];go_loopw [3,5,33] (fun sv _ iv wr=>∃(k:Nat) (seq:Int),iv= .int .i64 (k:Int)∧k≤n∧sv= .int .i64 seq∧W.grownBy wr none∧okRecs thread seq (recs.drop k)=okRecs thread (-1) recs) (fun _ _ iv _=>n - (intOf iv).toNat)
   case atStart=>exact ⟨0,-1,rfl,Nat.zero_le _,rfl,World.grownBy.refl W none,rfl⟩
   case round=>
    obtain⟨k,seq,rfl,hk,rfl,hg,ho⟩:=hrel;have HO:=ae ho;clear ho;have hgw:=af iW hg (.inl rfl);by_cases hlt:k < n
    · obtain⟨b,o,r,Ad,nd,cd,Af,nf,cf,hA,hb,hr,hH⟩:=(h.grown hgw hB (fun _ e=>nomatch e)).at hlt;have k0:wr.cell? ⟨w.heap.size,0,none⟩=some (.int .i64 thread):=(hb0.grown hg (fun e=>nomatch e)).cell 0;have kz:w.heap.size < wr.heap.size:=(hb0.grown hg (fun e=>nomatch e)).lt;obtain⟨c0,c1,c2,c3,c4,c5,c6,c7⟩:=hH.all;subst hA;have HS:=ae (uO thread seq recs k r hr);have l1:=hH.ld.lenI;have l2:=hH.lf.lenI;have L1:=ae l1;have L2:=ae l2;have nZ:=ae (af hgw (World.grownBy_alloc wr (.cells #[.int .i64 r.seq,.int .i64 r.ev.thread,.int .i64 r.ev.kind,.int .i64 r.ev.obj,.int .i64 r.ev.value,.int .i64 r.ev.site,.slice Ad nd cd,.slice Af nf cf] 54) none) (.inl rfl));have HG2:=ae (af hg (World.grownBy_alloc wr (.cells #[.int .i64 r.seq,.int .i64 r.ev.thread,.int .i64 r.ev.kind,.int .i64 r.ev.obj,.int .i64 r.ev.value,.int .i64 r.ev.site,.slice Ad nd cd,.slice Af nf cf] 54) none) (.inl rfl));clear hr hH l1 l2 hg;by_cases h0:r.ev.thread≠thread∨r.seq≤seq∨400 < nd∨400 < nf
      · have HF:Hid (kJ ⟨thread,first,recs⟩=false):=by
         have e1:=L1.out;have e2:=L2.out
         have:okRecs thread seq (recs.drop k)=false:=by
          rw[HS.out]
          have:(decide (r.ev.thread=thread) && decide (seq < r.seq) && decide (r.ev.deps.length≤400) && decide (r.ev.from_.length≤400))=false:=by
           simp only[Bool.and_eq_false_iff,decide_eq_false_iff_not];omega
          rw[this];rfl
         rw[HX.out,←HO.out,this];exact ae rfl
        by_cases a0:r.ev.thread=thread
        · have g0:(r.ev.thread !=thread)=false:=by rw[bne_eq_false_iff_eq];exact a0
          have A0:=ae a0;by_cases a1:r.seq≤seq
          · clear h0 a0;go_wp2_with fail;go_ret;exact⟨dB HF.out.symm,nZ.out⟩
          · by_cases a2:(400:Int) < (nd:Int)
            · clear h0 a0;go_wp2_with fail;go_ret;exact⟨dB HF.out.symm,nZ.out⟩
            · have a3:(400:Int) < (nf:Int):=by omega
              clear h0 a0;go_wp2_with fail;go_ret;exact⟨dB HF.out.symm,nZ.out⟩
        · have g0:(r.ev.thread !=thread)=true:=by rw[bne_iff_ne];exact a0
          clear h0 a0;go_wp2_with fail;go_ret;exact⟨dB HF.out.symm,nZ.out⟩
      · have g0:(r.ev.thread !=thread)=false:=by rw[bne_eq_false_iff_eq];omega
        have g1:¬r.seq≤seq:=by omega
        have g2:¬(400:Int) < (nd:Int):=by omega
        have g3:¬(400:Int) < (nf:Int):=by omega
        have HN:Hid (okRecs thread r.seq (recs.drop (k+1))=okRecs thread (-1) recs):=by
         have e1:=L1.out;have e2:=L2.out
         have:(decide (r.ev.thread=thread) && decide (seq < r.seq) && decide (r.ev.deps.length≤400) && decide (r.ev.from_.length≤400))=true:=by
          simp only[Bool.and_eq_true,decide_eq_true_eq];omega
         have e3:=HS.out;rw[this,Bool.true_and,HO.out] at e3;exact ae e3.symm
        clear h0;go_wp2_with fail;go_roundw
        case rel=>exact ⟨k+1,r.seq,by go_num,by omega,rfl,HG2.out,HN.out⟩
        case measure=>simp [intOf];omega
    · have HF:Hid (kJ ⟨thread,first,recs⟩=true):=by
       have e1:=HO.out;rw[List.drop_eq_nil_of_le (by rw[HL.out];omega)] at e1;rw[HX.out,←e1];exact ae rfl
      go_wp2_with fail;go_ret;exact⟨dB HF.out.symm,hgw⟩
theorem PL (x:Blk)(A:Option Addr)(n c:Nat)(w:World)(hl:x.recs.length=n)(hh:64 < n∨n=0∨x.thread < 0∨4≤x.thread∨x.first < 0∨400 < x.first):
 Calls Tryz.prog 60 #[.agg #[.int .i64 x.thread,.int .i64 x.first,.slice A n c]] w fun e w'=>e= .returned (.int .i64 (fits x))∧w.grownBy w' none:=by
 obtain⟨thread,first,recs⟩:=x;dsimp only at hl hh⊢;by_cases h64:64 < n
 · have HF:Hid (fits ⟨thread,first,recs⟩=2):=ae (by unfold fits;rw[if_pos (by show 64 < recs.length;omega)]);clear hh hl;go_enter Tryz.func60,Tryz.ntmps60;go_wp2_with fail;go_ret;exact⟨bg HF.out.symm,World.grownBy_alloc w _ none⟩
 · have HF:Hid (fits ⟨thread,first,recs⟩=1):=by
    have:mP ⟨thread,first,recs⟩=false:=by
     unfold mP;simp only[Bool.and_eq_false_iff,decide_eq_false_iff_not];omega
    have h2:kJ ⟨thread,first,recs⟩=false:=by rw[mQ,this];rfl
    exact ae (by unfold fits;rw[if_neg (by show¬64 < recs.length;omega),h2];rfl)
   clear hl;by_cases a0:n=0
   · have b0:((n:Int)==0)=true:=by rw[beq_iff_eq];omega
     clear hh a0;go_enter Tryz.func60,Tryz.ntmps60;go_wp2_with fail;go_ret;exact⟨bg HF.out.symm,World.grownBy_alloc w _ none⟩
   · have b0:((n:Int)==0)=false:=by rw[beq_eq_false_iff_ne];omega
     have n0:0 < n:=by omega
     clear a0;by_cases a1:thread < 0
     · clear hh;go_enter Tryz.func60,Tryz.ntmps60;go_wp2_with fail;go_ret;exact⟨bg HF.out.symm,World.grownBy_alloc w _ none⟩
     · by_cases a2:(4:Int)≤thread
       · clear hh;go_enter Tryz.func60,Tryz.ntmps60;go_wp2_with fail;go_ret;exact⟨bg HF.out.symm,World.grownBy_alloc w _ none⟩
       · by_cases a3:first < 0
         · clear hh;go_enter Tryz.func60,Tryz.ntmps60;go_wp2_with fail;go_ret;exact⟨bg HF.out.symm,World.grownBy_alloc w _ none⟩
         · have a4:(400:Int) < first:=by omega
           clear hh;go_enter Tryz.func60,Tryz.ntmps60;go_wp2_with fail;go_ret;exact⟨bg HF.out.symm,World.grownBy_alloc w _ none⟩
theorem Sr (x:Blk)(A:Option Addr)(n c B:Nat)(w:World)(h:Recs w B A n x.recs)(hB:B≤w.heap.size):
 Calls Tryz.prog 60 #[.agg #[.int .i64 x.thread,.int .i64 x.first,.slice A n c]] w fun e w'=>e= .returned (.int .i64 (fits x))∧w.grownBy w' none:=by
 by_cases hh:64 < n∨n=0∨x.thread < 0∨4≤x.thread∨x.first < 0∨400 < x.first
 · exact PL x A n c w h.1 hh
 · obtain⟨thread,first,recs⟩:=x;dsimp only at h hh⊢;have HL:=ae h.1;have b0:((n:Int)==0)=false:=by rw[beq_eq_false_iff_ne];omega
   have b1:¬thread < 0:=by omega
   have b2:¬(4:Int)≤thread:=by omega
   have b3:¬first < 0:=by omega
   have b4:¬(400:Int) < first:=by omega
   have b5:¬64 < n:=by omega
   have HX:Hid (fits ⟨thread,first,recs⟩=if okRecs thread (-1) recs then 0 else 1):=by
    have hl:=HL.out
    have:mP ⟨thread,first,recs⟩=true:=by
     unfold mP;simp only[Bool.and_eq_true,decide_eq_true_eq];omega
    have h2:kJ ⟨thread,first,recs⟩=okRecs thread (-1) recs:=by rw[mQ,this];rfl
    exact ae (by unfold fits;rw[if_neg (by show¬64 < recs.length;omega),h2])
   clear hh;obtain⟨W,hW⟩:∃W,W=w.alloc (.cells #[.int .i64 thread,.int .i64 first,.slice A n c] 50):=⟨_,rfl⟩;have iW:w.grownBy W none:=by rw[hW];exact World.grownBy_alloc w _ none
   have hb0:Held W w.heap.size 50 #[.int .i64 thread,.int .i64 first,.slice A n c]:=by rw[hW];exact Held.new _ _ _
   have HW:=ae hW;clear hW;go_enter Tryz.func60,Tryz.ntmps60;go_wp2_with fail;rw[show w.alloc (.cells #[.int .i64 thread,.int .i64 first,.slice A n c] 50)=W from HW.out.symm];go_loopw [3,4] (fun iv _ wr=>∃(k:Nat) (seq:Int),iv= .int .i64 (k:Int)∧k≤n∧((k=0∧seq= -1)∨(∃j p,k=j+1∧recs[j]?=some p∧seq=p.seq∧0≤seq))∧W.grownBy wr none∧okRecs thread seq (recs.drop k)=okRecs thread (-1) recs) (fun iv _ _=>n - (intOf iv).toNat)
   case atStart=>exact ⟨0,-1,rfl,Nat.zero_le _,.inl ⟨rfl,rfl⟩,World.grownBy.refl W none,rfl⟩
   case round=>
    obtain⟨k,seq,rfl,hk,hseq,hg,ho⟩:=hrel;have HO:=ae ho;clear ho;have hgw:=af iW hg (.inl rfl);have k0:wr.cell? ⟨w.heap.size,0,none⟩=some (.int .i64 thread):=(hb0.grown hg (fun e=>nomatch e)).cell 0;have k2:wr.cell? ⟨w.heap.size,2,none⟩=some (.slice A n c):=(hb0.grown hg (fun e=>nomatch e)).cell 2;have kz:w.heap.size < wr.heap.size:=(hb0.grown hg (fun e=>nomatch e)).lt;by_cases hlt:k < n
    · have hRR:=h.grown hgw hB (fun _ e=>nomatch e);obtain⟨b,o,r,Ad,nd,cd,Af,nf,cf,hA,hb,hr,hH⟩:=hRR.at hlt;obtain⟨c0,c1,c2,c3,c4,c5,c6,c7⟩:=hH.all;have HS:=ae (uO thread seq recs k r hr);have l1:=hH.ld.lenI;have l2:=hH.lf.lenI;have L1:=ae l1;have L2:=ae l2;obtain⟨W2,hW2⟩:∃W2,W2=wr.alloc (.cells #[.int .i64 r.seq,.int .i64 r.ev.thread,.int .i64 r.ev.kind,.int .i64 r.ev.obj,.int .i64 r.ev.value,.int .i64 r.ev.site,.slice Ad nd cd,.slice Af nf cf] 54):=⟨_,rfl⟩;have lK:wr.grownBy W2 none:=by rw[hW2];exact World.grownBy_alloc wr _ none
      have hg2:=af hg lK (.inl rfl);have ae4:=af iW hg2 (.inl rfl);have hb2:Held W2 wr.heap.size 54 (recV r Ad nd cd Af nf cf):=by rw[hW2];exact Held.new _ _ _
      have HW2:=ae hW2;have HG2:=ae hg2;have Hz:=ae ae4;have d0:W2.cell? ⟨wr.heap.size,0,none⟩=some (.int .i64 r.seq):=hb2.cell 0;have d1:W2.cell? ⟨wr.heap.size,1,none⟩=some (.int .i64 r.ev.thread):=hb2.cell 1;have d6:W2.cell? ⟨wr.heap.size,6,none⟩=some (.slice Ad nd cd):=hb2.cell 6;have d7:W2.cell? ⟨wr.heap.size,7,none⟩=some (.slice Af nf cf):=hb2.cell 7;have m0:W2.cell? ⟨w.heap.size,0,none⟩=some (.int .i64 thread):=(hb0.grown hg2 (fun e=>nomatch e)).cell 0;have m2:W2.cell? ⟨w.heap.size,2,none⟩=some (.slice A n c):=(hb0.grown hg2 (fun e=>nomatch e)).cell 2
      have hbad:Hid (r.ev.thread≠thread∨r.seq≤seq∨400 < nd∨400 < nf→fits ⟨thread,first,recs⟩=1):=by
       refine ae fun h0=>?_
       have e1:=L1.out;have e2:=L2.out
       have:okRecs thread seq (recs.drop k)=false:=by
        rw[HS.out]
        have:(decide (r.ev.thread=thread) && decide (seq < r.seq) && decide (r.ev.deps.length≤400) && decide (r.ev.from_.length≤400))=false:=by
         simp only[Bool.and_eq_false_iff,decide_eq_false_iff_not];omega
        rw[this];rfl
       rw[HX.out,←HO.out,this];rfl
      have hgood:Hid (r.ev.thread=thread→seq < r.seq→nd≤400→nf≤400→okRecs thread r.seq (recs.drop (k+1))=okRecs thread (-1) recs):=by
       refine ae fun x1 x2 x3 x4=>?_
       have e1:=L1.out;have e2:=L2.out
       have:(decide (r.ev.thread=thread) && decide (seq < r.seq) && decide (r.ev.deps.length≤400) && decide (r.ev.from_.length≤400))=true:=by
        simp only[Bool.and_eq_true,decide_eq_true_eq];omega
       have e3:=HS.out;rw[this,Bool.true_and,HO.out] at e3;exact e3.symm
      have HR:=ae hr;clear hH l1 l2 hg hW2 hb2 hr lK hg2 ae4;subst hA;go_upto_region 9 with fail;rw[show wr.alloc (.cells #[.int .i64 r.seq,.int .i64 r.ev.thread,.int .i64 r.ev.kind,.int .i64 r.ev.obj,.int .i64 r.ev.value,.int .i64 r.ev.site,.slice Ad nd cd,.slice Af nf cf] 54)=W2 from HW2.out.symm];clear c0 c1 c2 c3 c4 c5 c6 c7;by_cases a0:r.ev.thread=thread
      · have g0:(r.ev.thread !=thread)=false:=by rw[bne_eq_false_iff_eq];exact a0
        have A0:=ae a0;clear a0;by_cases a1:r.seq≤seq
        · have HF:=ae (hbad.out (.inr (.inl a1)));rcases hseq with ⟨hk0,hs0⟩ | ⟨j,p,hkj,hp,hsp,hp0⟩
          · have q1:decide (r.seq < 0)=true:=decide_eq_true (by omega);clear hk0 hs0 a1;go_quiet (fail);go_wp2_with fail;go_ret;exact⟨bg HF.out.symm,aH Hz.out _⟩
          · obtain⟨b',o',p',xq,Dt,zG,xu,Du,cf',hA',hb',hp',hH'⟩:=hRR.at (k:=j) (by omega);simp only[Option.some.injEq,Addr.mk.injEq,and_true] at hA';obtain⟨rfl,rfl⟩:=hA';have hpp:p'=p:=by rw[hp] at hp';exact Option.some.inj hp'.symm
            subst hpp;have e0:W2.cell? ⟨b,o+j * 8,none⟩=some (.int .i64 p'.seq):=World.grownBy.cell (by rw[HW2.out];exact World.grownBy_alloc wr _ none) hH'.all.1 (by simp);have q2:decide ((0:Int) < (k:Int))=true:=decide_eq_true (by omega);have q2':decide (0 < k)=true:=decide_eq_true (by omega);have q3:decide (r.seq≤p'.seq)=true:=decide_eq_true (by omega);have hwj:IntKind.i64.wrap ((k:Int) - 1)=(j:Int):=by rw[IntWalk.i64_in _ (by omega)];omega
            have j0:(0:Int)≤(j:Int):=by omega
            have j1:(j:Int) < (n:Int):=by omega
            by_cases hneg:r.seq < 0
            · have q1:decide (r.seq < 0)=true:=decide_eq_true hneg;clear hkj hp hsp hp0 a1 hb' hp' hH' hneg hRR;go_quiet (fail);go_wp2_with fail;go_ret;exact⟨bg HF.out.symm,aH Hz.out _⟩
            · have q1:decide (r.seq < 0)=false:=decide_eq_false hneg;clear hkj hp hsp hp0 a1 hb' hp' hH' hneg hRR;go_quiet (fail);go_wp2_with fail;go_ret;exact⟨bg HF.out.symm,aH Hz.out _⟩
        · have q1:decide (r.seq < 0)=false:=decide_eq_false (by rcases hseq with ⟨_,hs0⟩ | ⟨_,_,_,_,hsp,hp0⟩ <;> omega)
          have HA1:Hid (seq < r.seq):=ae (by omega);rcases hseq with ⟨hk0,hs0⟩ | ⟨j,p,hkj,hp,hsp,hp0⟩
          · have q2:decide ((0:Int) < (k:Int))=false:=decide_eq_false (by omega);have q2':decide (0 < k)=false:=decide_eq_false (by omega);have HSQ:Hid (0≤r.seq):=ae (by omega);have HK0:=ae hk0;clear hk0 hs0 a1 hRR;by_cases a2:(400:Int) < (nd:Int)
            · have s2:decide ((400:Int) < (nd:Int))=true:=decide_eq_true a2;have s2':decide (400 < nd)=true:=decide_eq_true (by omega);have HF:=ae (hbad.out (.inr (.inr (.inl (by omega)))));clear a2;go_quiet (fail);go_wp2_with fail;go_ret;exact⟨bg HF.out.symm,aH Hz.out _⟩
            · have s2:decide ((400:Int) < (nd:Int))=false:=decide_eq_false a2;have s2':decide (400 < nd)=false:=decide_eq_false (by omega);by_cases a3:(400:Int) < (nf:Int)
              · have s3:decide ((400:Int) < (nf:Int))=true:=decide_eq_true a3;have s3':decide (400 < nf)=true:=decide_eq_true (by omega);have HF:=ae (hbad.out (.inr (.inr (.inr (by omega)))));clear a2 a3;go_quiet (fail);go_wp2_with fail;go_ret;exact⟨bg HF.out.symm,aH Hz.out _⟩
              · have s3:decide ((400:Int) < (nf:Int))=false:=decide_eq_false a3;have s3':decide (400 < nf)=false:=decide_eq_false (by omega);have HG:=ae (hgood.out A0.out HA1.out (by omega) (by omega));clear a2 a3;go_quiet (fail);go_wp2_with fail;go_roundw
                case rel=>exact ⟨k+1,r.seq,by go_num,by omega,.inr ⟨k,r,rfl,HR.out,rfl,HSQ.out⟩,aH HG2.out _,HG.out⟩
                case measure=>simp [intOf];omega
          · obtain⟨b',o',p',xq,Dt,zG,xu,Du,cf',hA',hb',hp',hH'⟩:=hRR.at (k:=j) (by omega);simp only[Option.some.injEq,Addr.mk.injEq,and_true] at hA';obtain⟨rfl,rfl⟩:=hA';have hpp:p'=p:=by rw[hp] at hp';exact Option.some.inj hp'.symm
            subst hpp;have e0:W2.cell? ⟨b,o+j * 8,none⟩=some (.int .i64 p'.seq):=World.grownBy.cell (by rw[HW2.out];exact World.grownBy_alloc wr _ none) hH'.all.1 (by simp);have q2:decide ((0:Int) < (k:Int))=true:=decide_eq_true (by omega);have q2':decide (0 < k)=true:=decide_eq_true (by omega);have q3:decide (r.seq≤p'.seq)=false:=decide_eq_false (by omega);have hwj:IntKind.i64.wrap ((k:Int) - 1)=(j:Int):=by rw[IntWalk.i64_in _ (by omega)];omega
            have j0:(0:Int)≤(j:Int):=by omega
            have j1:(j:Int) < (n:Int):=by omega
            have HSQ:Hid (0≤r.seq):=ae (by omega);clear hkj hp hsp hp0 a1 hb' hp' hH' hRR;by_cases a2:(400:Int) < (nd:Int)
            · have s2:decide ((400:Int) < (nd:Int))=true:=decide_eq_true a2;have s2':decide (400 < nd)=true:=decide_eq_true (by omega);have HF:=ae (hbad.out (.inr (.inr (.inl (by omega)))));clear a2;go_quiet (fail);go_wp2_with fail;go_ret;exact⟨bg HF.out.symm,aH Hz.out _⟩
            · have s2:decide ((400:Int) < (nd:Int))=false:=decide_eq_false a2;have s2':decide (400 < nd)=false:=decide_eq_false (by omega);by_cases a3:(400:Int) < (nf:Int)
              · have s3:decide ((400:Int) < (nf:Int))=true:=decide_eq_true a3;have s3':decide (400 < nf)=true:=decide_eq_true (by omega);have HF:=ae (hbad.out (.inr (.inr (.inr (by omega)))));clear a2 a3;go_quiet (fail);go_wp2_with fail;go_ret;exact⟨bg HF.out.symm,aH Hz.out _⟩
              · have s3:decide ((400:Int) < (nf:Int))=false:=decide_eq_false a3;have s3':decide (400 < nf)=false:=decide_eq_false (by omega);have HG:=ae (hgood.out A0.out HA1.out (by omega) (by omega));clear a2 a3;go_quiet (fail);go_wp2_with fail;go_roundw
                case rel=>exact ⟨k+1,r.seq,by go_num,by omega,.inr ⟨k,r,rfl,HR.out,rfl,HSQ.out⟩,aH HG2.out _,HG.out⟩
                case measure=>simp [intOf];omega
      · have g0:(r.ev.thread !=thread)=true:=by rw[bne_iff_ne];exact a0
        have HF:=ae (hbad.out (.inl a0));clear a0 hseq;go_quiet (fail);go_wp2_with fail;go_ret;exact⟨bg HF.out.symm,aH Hz.out _⟩
    · have HF:Hid (fits ⟨thread,first,recs⟩=0):=by
       have e1:=HO.out;rw[List.drop_eq_nil_of_le (by rw[HL.out];omega)] at e1;rw[HX.out,←e1];exact ae rfl
      clear hseq;go_wp2_with fail;go_ret;exact⟨bg HF.out.symm,hgw⟩
