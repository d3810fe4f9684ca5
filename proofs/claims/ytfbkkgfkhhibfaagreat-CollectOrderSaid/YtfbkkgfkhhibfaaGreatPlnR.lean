/- Words. -/
import Derived.Test.YtfbkkgfkhhibfaaGreatDec
import Derived.Test.YtfbkkgfkhhibfaaGreatEncR
import Derived.Test.YtfbkkgfkhhibfaaGreatSrI
set_option linter.unusedVariables false
set_option maxRecDepth 100000
set_option maxHeartbeats 8000000
namespace Go.Proofs.YtfbkkgfkhhibfaaGreat
open Go Go.RowKit Iv
def RecsOff (w:World)(lo:Nat)(o:Option Nat)(A:Option Addr)(n:Nat)(rs:List Rec):Prop:=
 rs.length=n∧∀k r,rs[k]?=some r→∃(b f:Nat) (Ad:Option Addr) (nd cd:Nat) (Af:Option Addr) (nf cf:Nat),A=some ⟨b,f,none⟩∧some b≠o∧RecN w lo b (f+k * 8) r Ad nd cd Af nf cf∧Off o Ad nd∧Off o Af nf
theorem RecsNew.off {w:World}{lo n:Nat}{A:Option Addr}{rs:List Rec}{o:Option Nat}(h:RecsNew w lo A n rs)(ho:∀g,o=some g→g < lo):RecsOff w lo o A n rs:=
 ⟨h.1,fun k r hr=>by
  obtain⟨b,f,Ad,nd,cd,Af,nf,cf,e,q⟩:=h.2 k r hr
  exact⟨b,f,Ad,nd,cd,Af,nf,cf,e,fun e2=>by have:=ho b e2.symm;have:=q.lob;omega,q,q.lod.off ho,q.lof.off ho⟩⟩
theorem RecsOff.new {w:World}{lo n:Nat}{A:Option Addr}{rs:List Rec}{o:Option Nat}(h:RecsOff w lo o A n rs):RecsNew w lo A n rs:=
 ⟨h.1,fun k r hr=>by
  obtain⟨b,f,Ad,nd,cd,Af,nf,cf,e,_,q,_⟩:=h.2 k r hr
  exact⟨b,f,Ad,nd,cd,Af,nf,cf,e,q⟩⟩
theorem RecsOff.grow {w w':World}{lo n:Nat}{A:Option Addr}{rs:List Rec}{o o':Option Nat}(h:RecsOff w lo o A n rs)(hg:w.grownBy w' o)(hat:At w o o'):RecsOff w' lo o' A n rs:=
 ⟨h.1,fun k r hr=>by
  obtain⟨b,f,Ad,nd,cd,Af,nf,cf,e,hb,q,o1,o2⟩:=h.2 k r hr
  refine⟨b,f,Ad,nd,cd,Af,nf,cf,e,?_,⟨q.lob,Nat.lt_of_lt_of_le q.hib hg.size,fun j u hu=>?_,(q.ld.grownOff o1 hg (Nat.le_refl _)).more hg.size,(q.lf.grownOff o2 hg (Nat.le_refl _)).more hg.size,q.lod,q.lof⟩,o1.at_ q.ld (Nat.le_refl _) hat,o2.at_ q.lf (Nat.le_refl _) hat⟩
  · rcases hat with rfl | ⟨g,rfl,hge⟩
    · exact hb
    · intro e2
      injection e2 with e2
      have:=q.hib
      omega
  · exact Eq.trans (World.cell?_of_block (hg.block b q.hib hb)) (q.cells j u hu)⟩
theorem RecsOff.keep {w w':World}{lo n:Nat}{A:Option Addr}{rs:List Rec}{o row:Option Nat}(h:RecsOff w lo o A n rs)(hg:w.grownBy w' row)(hr:∀g,row=some g→g < lo):RecsOff w' lo o A n rs:=
 ⟨h.1,fun k r hk=>by
  obtain⟨b,f,Ad,nd,cd,Af,nf,cf,e,hb,q,o1,o2⟩:=h.2 k r hk
  have hn:=(h.new.keep hg hr).2 k r hk
  refine⟨b,f,Ad,nd,cd,Af,nf,cf,e,hb,⟨q.lob,Nat.lt_of_lt_of_le q.hib hg.size,fun j u hu=>?_,(q.ld.grownOff (q.lod.off hr) hg (Nat.le_refl _)).more hg.size,(q.lf.grownOff (q.lof.off hr) hg (Nat.le_refl _)).more hg.size,q.lod,q.lof⟩,o1,o2⟩
  refine Eq.trans (World.cell?_of_block (hg.block b q.hib (fun e2=>?_))) (q.cells j u hu)
  have h1:=hr _ e2.symm
  have h2:=q.lob
  omega⟩
theorem RecsOff.lower {w:World}{lo lo' n:Nat}{A:Option Addr}{rs:List Rec}{o:Option Nat}(h:RecsOff w lo o A n rs)(hl:lo'≤lo):RecsOff w lo' o A n rs:=
 ⟨h.1,fun k r hr=>by
  obtain⟨b,f,Ad,nd,cd,Af,nf,cf,e,hb,q,o1,o2⟩:=h.2 k r hr
  exact⟨b,f,Ad,nd,cd,Af,nf,cf,e,hb,⟨Nat.le_trans hl q.lob,q.hib,q.cells,q.ld,q.lf,q.lod.lower hl,q.lof.lower hl⟩,o1,o2⟩⟩
def oL (x:Blk)(A:Option Addr)(n c:Nat):Array Value:=#[.int .i64 x.thread,.int .i64 x.first,.slice A n c]
def BlksAt (w:World)(lo:Nat)(o:Option Nat)(css:List Value)(xs:List Blk):Prop:=
 css.length=xs.length * 3∧∀k x,xs[k]?=some x→∃(A:Option Addr) (n c:Nat),(∀j u,(oL x A n c)[j]?=some u→css[k * 3+j]?=some u)∧RecsOff w lo o A n x.recs∧n≤c∧c≤maxLen∧(A=none→c=0)
theorem BlksAt.nil (w:World)(lo:Nat)(o:Option Nat):BlksAt w lo o [] []:=⟨rfl,fun k x hx=>by simp at hx⟩
theorem BlksAt.grow {w w':World}{lo:Nat}{o o':Option Nat}{css:List Value}{xs:List Blk}(h:BlksAt w lo o css xs)(hg:w.grownBy w' o)(hat:At w o o'):BlksAt w' lo o' css xs:=
 ⟨h.1,fun k x hx=>by
  obtain⟨A,n,c,q1,q2,q3⟩:=h.2 k x hx
  exact⟨A,n,c,q1,q2.grow hg hat,q3⟩⟩
theorem BlksAt.keep {w w':World}{lo:Nat}{o row:Option Nat}{css:List Value}{xs:List Blk}(h:BlksAt w lo o css xs)(hg:w.grownBy w' row)(hr:∀g,row=some g→g < lo):BlksAt w' lo o css xs:=
 ⟨h.1,fun k x hx=>by
  obtain⟨A,n,c,q1,q2,q3⟩:=h.2 k x hx
  exact⟨A,n,c,q1,q2.keep hg hr,q3⟩⟩
theorem BlksAt.snoc {w:World}{lo:Nat}{o:Option Nat}{css:List Value}{xs:List Blk}(h:BlksAt w lo o css xs){x:Blk}{A:Option Addr}{n c:Nat}(hr:RecsOff w lo o A n x.recs)(hnc:n≤c)(hcm:c≤maxLen)(ho:A=none→c=0):BlksAt w lo o (css++(oL x A n c).toList) (xs++ [x]):=by
 refine⟨by rw[List.length_append,h.1,List.length_append];unfold oL;simp[Nat.add_mul],fun k y hy=>?_⟩;by_cases hk:k < xs.length
 · rw[List.getElem?_append_left hk] at hy;obtain⟨A',n',c',z1,z2⟩:=h.2 k y hy;refine⟨A',n',c',fun j u hu=>?_,z2⟩;have:=z1 j u hu;rw[List.getElem?_append_left (List.getElem?_eq_some_iff.1 this).1];exact this
 · have hkl:k < xs.length+1:=by have:=(List.getElem?_eq_some_iff.1 hy).1;simpa using this
   have hkn:k=xs.length:=by omega
   subst hkn;rw[List.getElem?_append_right (Nat.le_refl _),Nat.sub_self] at hy;simp only[List.getElem?_cons_zero,Option.some.injEq] at hy;subst hy;refine⟨A,n,c,fun j u hu=>?_,hr,hnc,hcm,ho⟩;rw[List.getElem?_append_right (by rw[h.1];omega),h.1,Nat.add_sub_cancel_left];simpa using hu
theorem RZ (x:Blk)(A:Option Addr)(n c:Nat):∀u∈(oL x A n c).toList,u.oneCell'=true:=by
 intro u hu;simp only[oL,List.mem_cons,List.not_mem_nil,or_false] at hu;rcases hu with h | h | h <;> rw[h] <;> rfl
theorem Si:(Tryz.prog.info? 50).map (fun i=>(i.zero,i.size,i.bytes))=some (some (.agg #[.int .i64 0,.int .i64 0,.slice none 0 0]),3,40):=by kernel_rfl
theorem Sj (w:World)(x:Blk)(A:Option Addr)(n c:Nat):
 Lies (w.alloc (.cells (oL x A n c) 50)) (w.alloc (.cells (oL x A n c) 50)).heap.size 3 (some ⟨w.heap.size,0,none⟩) 1 (oL x A n c).toList:=by
 obtain⟨A',c',hv,_,_,hl,_⟩:=aj (World.ownsRow_lit (base:=w.heap.size) (e:=50) (size:=3) w (oL x A n c) 1 (Nat.le_refl _) (by unfold maxLen;omega) rfl);injection hv with hA;subst hA;exact hl
def Wv (l:List (Blk×Nat))(w:World)(e:Ending)(w':World):Prop:=
 ∃v css,e= .returned (.tuple #[v,.int .i64 (sizeB l:Int)])∧w'.ownsRow w.heap.size 50 3 v l.length css∧BlksAt w' w.heap.size v.ownBlock css (l.map (·.1))∧w.grownBy w' none
theorem Iq (b:Bytes)(t:UInt8)(first:Int)(n:Nat)(size:Int)(from_ end_:Nat):(∀r∈(nI b t first n size from_ end_).1.recs,RecOk r)∧(nI b t first n size from_ end_).1.recs.length≤n:=by
 cases h:kU b t n size from_ end_ with
 | none=>rw [yU h];exact⟨fun r hr=>by simp[aS] at hr,by simp[aS]⟩
 |
  some l=>
  obtain⟨h1,h2,h3⟩:=yV (first:=first) h;rw[h1];split
  · exact⟨h3,Nat.le_of_eq h2⟩
  · exact⟨fun r hr=>by simp[aS] at hr,by simp[aS]⟩
theorem P5 (b:Bytes):(∀r∈(Iv.decode b).1.recs,RecOk r)∧(Iv.decode b).1.recs.length≤64:=by
 have hz:(∀r∈aS.recs,RecOk r)∧aS.recs.length≤64:=⟨fun r hr=>by simp[aS] at hr,by simp[aS]⟩;unfold Iv.decode gy;split
 · exact hz
 · split
   · exact hz
   · split
     · exact hz
     · split
       · exact hz
       · split
         · exact hz
         · rename_i hb
           split
           · exact hz
           · split
             · exact hz
             · have h1:=zY (by simpa using hb);exact⟨(Iq _ _ _ _ _ _ _).1,Nat.le_trans (Iq _ _ _ _ _ _ _).2 (by omega)⟩
theorem Ei {W0 wr w1:World}{o:Option Nat}(h:W0.grownBy wr none)(hg:wr.grownBy w1 o)(ho:∀g,o=some g→W0.heap.size≤g):W0.grownBy w1 none:=by
 refine af h hg ?_
 cases o with
 | none=>exact .inl rfl
 | some g=>exact .inr ⟨g,rfl,ho g rfl⟩
theorem Xc (w:World)(x:Blk)(A:Option Addr)(n c:Nat):∀j u,(oL x A n c).toList[j]?=some u→(w.alloc (.cells (oL x A n c) 50)).cell? ((⟨w.heap.size,0,none⟩:Addr).add j)=some u:=by
 obtain⟨ad,e,_,hc⟩:=(Sj w x A n c).2 (by omega);injection e with e;subst e;exact hc
def Evs (w:World)(B:Nat)(A:Option Addr)(n:Nat)(l:List Ev):Prop:=
 l.length=n∧∀k e,l[k]?=some e→∃(b o:Nat) (Ad:Option Addr) (cd:Nat) (Af:Option Addr) (cf:Nat),A=some ⟨b,o,none⟩∧b < B∧
  (∀j u,(#[.int .i64 e.thread,.int .i64 e.kind,.int .i64 e.obj,.int .i64 e.value,.int .i64 e.site,.slice Ad e.deps.length cd,.slice Af e.from_.length cf]:Array Value)[j]?=some u→w.cell? ⟨b,o+k * 7+j,none⟩=some u)∧Lies w B 1 Ad e.deps.length (e.deps.map iv)∧Lies w B 1 Af e.from_.length (e.from_.map iv)
theorem Evs.grown {w w':World}{B n:Nat}{A:Option Addr}{l:List Ev}{row:Option Nat}(h:Evs w B A n l)(hg:w.grownBy w' row)(hB:B≤w.heap.size)(hr:∀g,row=some g→B≤g):Evs w' B A n l:=
 ⟨h.1,fun k e he=>by
  obtain⟨b,o,Ad,cd,Af,cf,q1,hb,q2,q3,q4⟩:=h.2 k e he
  have hk:∀j,w'.cell? ⟨b,j,none⟩=w.cell? ⟨b,j,none⟩:=fun j=>World.cell?_of_block (hg.block b (by omega) (fun e=>by have:=hr _ e.symm;omega))
  exact⟨b,o,Ad,cd,Af,cf,q1,hb,fun j u hu=>by rw[hk];exact q2 j u hu,q3.grown hg hB hr,q4.grown hg hB hr⟩⟩
theorem Evs.at {w:World}{B n k:Nat}{A:Option Addr}{l:List Ev}(h:Evs w B A n l)(hk:k < n):
 ∃(b o:Nat) (e:Ev) (Ad:Option Addr) (cd:Nat) (Af:Option Addr) (cf:Nat),A=some ⟨b,o,none⟩∧b < B∧l[k]?=some e∧
  w.cell? ⟨b,o+k * 7,none⟩=some (.int .i64 e.thread)∧w.cell? ⟨b,o+k * 7+1,none⟩=some (.int .i64 e.kind)∧w.cell? ⟨b,o+k * 7+2,none⟩=some (.int .i64 e.obj)∧w.cell? ⟨b,o+k * 7+3,none⟩=some (.int .i64 e.value)∧
  w.cell? ⟨b,o+k * 7+4,none⟩=some (.int .i64 e.site)∧w.cell? ⟨b,o+k * 7+5,none⟩=some (.slice Ad e.deps.length cd)∧w.cell? ⟨b,o+k * 7+6,none⟩=some (.slice Af e.from_.length cf)∧
  Lies w B 1 Ad e.deps.length (e.deps.map iv)∧Lies w B 1 Af e.from_.length (e.from_.map iv):=by
 have hl:k < l.length:=by rw[h.1];exact hk
 obtain⟨b,o,Ad,cd,Af,cf,q1,hb,q2,q3,q4⟩:=h.2 k l[k] (List.getElem?_eq_getElem hl);exact⟨b,o,l[k],Ad,cd,Af,cf,q1,hb,List.getElem?_eq_getElem hl,q2 0 _ rfl,q2 1 _ rfl,q2 2 _ rfl,q2 3 _ rfl,q2 4 _ rfl,q2 5 _ rfl,q2 6 _ rfl,q3,q4⟩
def Fls (w:World)(B:Nat)(A:Option Addr)(n:Nat)(fs:List (Int×Int)):Prop:=
 fs.length=n∧∀k f,fs[k]?=some f→∃b o:Nat,A=some ⟨b,o,none⟩∧b < B∧w.cell? ⟨b,o+k * 2,none⟩=some (.int .i64 f.1)∧w.cell? ⟨b,o+k * 2+1,none⟩=some (.int .i64 f.2)
theorem Fls.grown {w w':World}{B n:Nat}{A:Option Addr}{fs:List (Int×Int)}{row:Option Nat}(h:Fls w B A n fs)(hg:w.grownBy w' row)(hB:B≤w.heap.size)(hr:∀g,row=some g→B≤g):Fls w' B A n fs:=
 ⟨h.1,fun k f hf=>by
  obtain⟨b,o,e,hb,h1,h2⟩:=h.2 k f hf
  have hk:∀j,w'.cell? ⟨b,j,none⟩=w.cell? ⟨b,j,none⟩:=fun j=>World.cell?_of_block (hg.block b (by omega) (fun e=>by have:=hr _ e.symm;omega))
  exact⟨b,o,e,hb,by rw[hk];exact h1,by rw[hk];exact h2⟩⟩
theorem Fls.at {w:World}{B n k:Nat}{A:Option Addr}{fs:List (Int×Int)}(h:Fls w B A n fs)(hk:k < n):
 ∃b o f,A=some ⟨b,o,none⟩∧b < B∧fs[k]?=some f∧w.cell? ⟨b,o+k * 2,none⟩=some (.int .i64 f.1)∧w.cell? ⟨b,o+k * 2+1,none⟩=some (.int .i64 f.2):=by
 have h1:k < fs.length:=by have:=h.1;omega
 obtain⟨b,o,q1,q2,q3,q4⟩:=h.2 k fs[k] (List.getElem?_eq_getElem h1);exact⟨b,o,fs[k],q1,q2,List.getElem?_eq_getElem h1,q3,q4⟩
def BM (p:Pln)(Af:Option Addr)(nf cf:Nat)(Ac:Option Addr)(nc cc:Nat):Array Value:=#[.int .i64 p.cap,.slice Af nf cf,.int .i64 p.stop,.slice Ac nc cc]
theorem yB {α:Type}{f:α→Bool}{xs:List α}{k:Nat}{x:α}(h:xs[k]?=some x):(xs.drop k).all f=(f x &&(xs.drop (k+1)).all f):=by
 obtain⟨hl,rfl⟩:=List.getElem?_eq_some_iff.1 h;rw[List.drop_eq_getElem_cons hl];rfl
theorem Xk:(Tryz.prog.info? 52).map (fun i=>(i.zero,i.size,i.bytes))=some (some (.agg #[.int .i64 0,.int .i64 0,.int .i64 0,.int .i64 0,.int .i64 0,.slice none 0 0,.slice none 0 0]),7,88):=by kernel_rfl
theorem Xl (r:Ev)(Ad:Option Addr)(nd cd:Nat)(Af:Option Addr)(nf cf:Nat):∀u∈(evV r Ad nd cd Af nf cf).toList,u.oneCell'=true:=by
 intro v hv;simp only[evV,List.mem_cons,List.not_mem_nil,or_false] at hv;rcases hv with h | h | h | h | h | h | h <;> rw[h] <;> rfl
def Rng (lo B:Nat)(row:Option Nat):Prop:=∀g,row=some g→g < lo∨B≤g
theorem Rng.none (lo B:Nat):Rng lo B none:=fun g e=>nomatch e
structure RecB (w:World)(lo B b o:Nat)(r:Rec)(Ad:Option Addr)(nd cd:Nat)(Af:Option Addr)(nf cf:Nat):Prop where
 lob:lo≤b
 hib:b < B
 cells:∀j u,(recV r Ad nd cd Af nf cf)[j]?=some u→w.cell? ⟨b,o+j,none⟩=some u
 ld:Lies w B 1 Ad nd (r.ev.deps.map iv)
 lf:Lies w B 1 Af nf (r.ev.from_.map iv)
 lod:Lo lo Ad nd
 lof:Lo lo Af nf
theorem fC {w w':World}{lo B sz n:Nat}{A:Option Addr}{xs:List Value}{row:Option Nat}(h:Lies w B sz A n xs)(hl:Lo lo A n)(hg:w.grownBy w' row)(hB:B≤w.heap.size)(hr:Rng lo B row):Lies w' B sz A n xs:=by
 refine⟨h.1,fun hn=>?_⟩;obtain⟨ad,e,hb,hc⟩:=h.2 hn;refine⟨ad,e,hb,fun j u hu=>?_⟩;refine Eq.trans (World.cell?_of_block (hg.block (ad.add j).block (by rw[addBlock];omega) ?_)) (hc j u hu);rw[addBlock];intro e2;have h1:=hl hn ad e;have h2:=hr _ e2.symm;omega
theorem RecB.keep {w w':World}{lo B b o:Nat}{r:Rec}{Ad:Option Addr}{nd cd:Nat}{Af:Option Addr}{nf cf:Nat}{row:Option Nat}(h:RecB w lo B b o r Ad nd cd Af nf cf)(hg:w.grownBy w' row)(hB:B≤w.heap.size)(hr:Rng lo B row):RecB w' lo B b o r Ad nd cd Af nf cf:=
 ⟨h.lob,h.hib,fun j u hu=>Eq.trans (World.cell?_of_block (hg.block b (by have:=h.hib;omega) (fun e=>by have h1:=hr b e.symm;have h2:=h.lob;have h3:=h.hib;omega))) (h.cells j u hu),fC h.ld h.lod hg hB hr,fC h.lf h.lof hg hB hr,h.lod,h.lof⟩
structure EvB (w:World)(lo B:Nat)(css:List Value)(k:Nat)(r:Ev)(Ad:Option Addr)(nd cd:Nat)(Af:Option Addr)(nf cf:Nat):Prop where
 cells:∀j u,(evV r Ad nd cd Af nf cf)[j]?=some u→css[k * 7+j]?=some u
 ld:Lies w B 1 Ad nd (r.deps.map iv)
 lf:Lies w B 1 Af nf (r.from_.map iv)
 lod:Lo lo Ad nd
 lof:Lo lo Af nf
def EvsB (w:World)(lo B:Nat)(css:List Value)(rs:List Ev):Prop:=
 css.length=rs.length * 7∧∀k r,rs[k]?=some r→∃(Ad:Option Addr) (nd cd:Nat) (Af:Option Addr) (nf cf:Nat),EvB w lo B css k r Ad nd cd Af nf cf
theorem EvsB.nil (w:World)(lo B:Nat):EvsB w lo B [] []:=⟨rfl,fun k r hr=>by simp at hr⟩
theorem EvsB.keep {w w':World}{lo B:Nat}{css:List Value}{rs:List Ev}{row:Option Nat}(h:EvsB w lo B css rs)(hg:w.grownBy w' row)(hB:B≤w.heap.size)(hr:Rng lo B row):EvsB w' lo B css rs:=
 ⟨h.1,fun k r hk=>by
  obtain⟨Ad,nd,cd,Af,nf,cf,q⟩:=h.2 k r hk
  exact⟨Ad,nd,cd,Af,nf,cf,q.cells,fC q.ld q.lod hg hB hr,fC q.lf q.lof hg hB hr,q.lod,q.lof⟩⟩
theorem EvsB.snoc {w:World}{lo B:Nat}{css:List Value}{rs:List Ev}(h:EvsB w lo B css rs){r:Ev}{Ad:Option Addr}{nd cd:Nat}{Af:Option Addr}{nf cf:Nat}
 (h1:Lies w B 1 Ad nd (r.deps.map iv)) (h2:Lies w B 1 Af nf (r.from_.map iv)) (h3:Lo lo Ad nd) (h4:Lo lo Af nf):EvsB w lo B (css++(evV r Ad nd cd Af nf cf).toList) (rs++ [r]):=by
 refine⟨by rw[List.length_append,h.1,List.length_append];unfold evV;simp[Nat.add_mul],fun k q hq=>?_⟩;by_cases hk:k < rs.length
 · rw[List.getElem?_append_left hk] at hq;obtain⟨xq,Dt,zG,xu,Du,cf',z⟩:=h.2 k q hq;refine⟨xq,Dt,zG,xu,Du,cf',fun j u hu=>?_,z.ld,z.lf,z.lod,z.lof⟩;have:=z.cells j u hu;rw[List.getElem?_append_left (List.getElem?_eq_some_iff.1 this).1];exact this
 · have hkl:k < rs.length+1:=by have:=(List.getElem?_eq_some_iff.1 hq).1;simpa using this
   have hkn:k=rs.length:=by omega
   subst hkn;rw[List.getElem?_append_right (Nat.le_refl _),Nat.sub_self] at hq;simp only[List.getElem?_cons_zero,Option.some.injEq] at hq;subst hq;refine⟨Ad,nd,cd,Af,nf,cf,fun j u hu=>?_,h1,h2,h3,h4⟩;rw[List.getElem?_append_right (by rw[h.1];omega),h.1,Nat.add_sub_cancel_left];simpa using hu
def RecsB (w:World)(lo B:Nat)(A:Option Addr)(n:Nat)(rs:List Rec):Prop:=
 rs.length=n∧∀k r,rs[k]?=some r→∃(b o:Nat) (Ad:Option Addr) (nd cd:Nat) (Af:Option Addr) (nf cf:Nat),A=some ⟨b,o,none⟩∧RecB w lo B b (o+k * 8) r Ad nd cd Af nf cf
def BlksB (w:World)(lo B:Nat)(css:List Value)(xs:List Blk):Prop:=
 css.length=xs.length * 3∧∀k x,xs[k]?=some x→∃(A:Option Addr) (n c:Nat),(∀j u,(oL x A n c)[j]?=some u→css[k * 3+j]?=some u)∧RecsB w lo B A n x.recs∧n≤c∧c≤maxLen∧(A=none→c=0)
theorem BlksAt.toB {w:World}{lo:Nat}{o:Option Nat}{css:List Value}{xs:List Blk}(h:BlksAt w lo o css xs):BlksB w lo w.heap.size css xs:=
 ⟨h.1,fun k x hx=>by
  obtain⟨A,n,c,q1,q2,q3⟩:=h.2 k x hx
  refine⟨A,n,c,q1,⟨q2.1,fun i r hr=>?_⟩,q3⟩
  obtain⟨b,f,Ad,nd,cd,Af,nf,cf,e,hb,q,o1,o2⟩:=q2.2 i r hr
  exact⟨b,f,Ad,nd,cd,Af,nf,cf,e,q.lob,q.hib,q.cells,q.ld,q.lf,q.lod,q.lof⟩⟩
theorem RecsB.keep {w w':World}{lo B n:Nat}{A:Option Addr}{rs:List Rec}{row:Option Nat}(h:RecsB w lo B A n rs)(hg:w.grownBy w' row)(hB:B≤w.heap.size)(hr:Rng lo B row):RecsB w' lo B A n rs:=
 ⟨h.1,fun i r hi=>by
  obtain⟨b,f,Ad,nd,cd,Af,nf,cf,e,q⟩:=h.2 i r hi
  exact⟨b,f,Ad,nd,cd,Af,nf,cf,e,q.keep hg hB hr⟩⟩
theorem BlksB.keep {w w':World}{lo B:Nat}{css:List Value}{xs:List Blk}{row:Option Nat}(h:BlksB w lo B css xs)(hg:w.grownBy w' row)(hB:B≤w.heap.size)(hr:Rng lo B row):BlksB w' lo B css xs:=
 ⟨h.1,fun k x hx=>by
  obtain⟨A,n,c,q1,q2,q3⟩:=h.2 k x hx
  exact⟨A,n,c,q1,q2.keep hg hB hr,q3⟩⟩
theorem RecsB.src {w:World}{lo B n:Nat}{A:Option Addr}{rs:List Rec}(h:RecsB w lo B A n rs)(hB:B≤w.heap.size):∃news:List Value,Lies w B 8 A n news∧(∀u∈news,u.oneCell'=true)∧
 ∀(base:Nat) (o:Option Nat) (css:List Value) (VJ:List Rec),base≤lo→Rng lo B o→RowsAt w base o css VJ→RowsAt w base o (css++news) (VJ++rs):=by
 obtain⟨hn,hk⟩:=h
 have key:∀m,m≤n→∃news:List Value,news.length=m * 8∧(∀u∈news,u.oneCell'=true)∧(∀b f,A=some ⟨b,f,none⟩→∀j u,news[j]?=some u→w.cell? ⟨b,f+j,none⟩=some u)∧
  ∀(base:Nat) (o:Option Nat) (css:List Value) (VJ:List Rec),base≤lo→Rng lo B o→RowsAt w base o css VJ→RowsAt w base o (css++news) (VJ++rs.take m):=by
  intro m;induction m with
  | zero=>intro _;exact⟨[],rfl,fun u hu=>by simp at hu,fun b f _ j u hu=>by simp at hu,fun base o css VJ _ _ h0=>by simpa using h0⟩
  |
   succ m ih=>
   intro hm;obtain⟨news,h1,h2,h3,h4⟩:=ih (by omega);have hmr:rs[m]?=some rs[m]:=List.getElem?_eq_getElem (by omega);obtain⟨b,f,Ad,nd,cd,Af,nf,cf,e,q⟩:=hk m rs[m] hmr;refine⟨news++(recV rs[m] Ad nd cd Af nf cf).toList,by rw[List.length_append,h1];simp[recV];omega,fun u hu=>?_,fun b' f' e' j u hu=>?_,fun base o css VJ hb ho h0=>?_⟩
   · rcases List.mem_append.1 hu with h | h
     · exact h2 u h
     · simp only[recV,List.mem_cons,List.not_mem_nil,or_false] at h;rcases h with h | h | h | h | h | h | h | h <;> rw[h] <;> rfl
   · rw[e] at e';injection e' with e';injection e' with e1 e2;subst e1 e2;by_cases hj:j < news.length
     · rw[List.getElem?_append_left hj] at hu;exact h3 _ _ e j u hu
     · rw[List.getElem?_append_right (by omega),h1] at hu;have:=q.cells (j - m * 8) u (by rwa [Array.getElem?_toList] at hu);rw[show f+m * 8+(j - m * 8)=f+j by omega] at this;exact this
   · have:=(h4 base o css VJ hb ho h0).snoc (r:=rs[m]) (Ad:=Ad) (nd:=nd) (cd:=cd) (Af:=Af) (nf:=nf) (cf:=cf) (q.ld.more hB) (q.lf.more hB)
      (fun hn ad e hb'=>by have h5:=q.lod hn ad e;have h6:=ho _ hb'.symm;obtain⟨ad',e',hb2,_⟩:=q.ld.2 hn;rw[e] at e';injection e' with e';subst e';omega)
      (fun hn ad e hb'=>by have h5:=q.lof hn ad e;have h6:=ho _ hb'.symm;obtain⟨ad',e',hb2,_⟩:=q.lf.2 hn;rw[e] at e';injection e' with e';subst e';omega)
      (q.lod.lower hb) (q.lof.lower hb)
     rw[List.append_assoc,List.append_assoc] at this;rw[List.take_add_one,hmr];exact this
 obtain⟨news,h1,h2,h3,h4⟩:=key n (Nat.le_refl _);refine⟨news,⟨h1,fun h0=>?_⟩,h2,fun base o css VJ hb ho h0=>by have:=h4 base o css VJ hb ho h0;rwa [←hn,List.take_length] at this⟩;obtain⟨b,f,Ad,nd,cd,Af,nf,cf,e,q⟩:=hk 0 (rs[0]'(by omega)) (List.getElem?_eq_getElem (by omega));refine⟨⟨b,f,none⟩,e,q.hib,fun j u hu=>?_⟩;rw[show (⟨b,f,none⟩:Addr).add j=⟨b,f+j,none⟩ by unfold Addr.add;split <;> simp_all]
 exact h3 b f e j u hu
def FIn (w:World)(B:Nat)(A:Option Addr)(n:Nat)(fs:List Bytes):Prop:=
 fs.length=n∧∀k f,fs[k]?=some f→∃(b o:Nat) (Ai:Option Addr) (ni ci:Nat),A=some ⟨b,o,none⟩∧b < B∧w.cell? ⟨b,o+k,none⟩=some (.slice Ai ni ci)∧Lies w B 1 Ai ni (f.map bv)∧ni≤ci∧ci≤maxLen∧(Ai=none→ci=0)
theorem FIn.grown {w w':World}{B n:Nat}{A:Option Addr}{fs:List Bytes}{row:Option Nat}(h:FIn w B A n fs)(hg:w.grownBy w' row)(hB:B≤w.heap.size)(hr:∀g,row=some g→B≤g):FIn w' B A n fs:=
 ⟨h.1,fun k f hf=>by
  obtain⟨b,o,Ai,ni,ci,e,hb,hc,hl,q⟩:=h.2 k f hf
  exact⟨b,o,Ai,ni,ci,e,hb,Eq.trans (World.cell?_of_block (hg.block b (by omega) (fun e2=>by have:=hr b e2.symm;omega))) hc,hl.grown hg hB hr,q⟩⟩
theorem Qk (l:List Ev)(Al:Option Addr)(nl cl:Nat)(thr:Int)(p:Pln)(Af:Option Addr)(nf cf:Nat)(Ac:Option Addr)(nc cc:Nat)(w:World)(hcl:p.cuts.length=nc)(h:iE thr p=false∨thr < (nc:Int)):
 Calls Tryz.prog 38 #[.slice Al nl cl,.int .i64 thr,.agg (BM p Af nf cf Ac nc cc)] w fun e w'=>e= .returned (.int .i64 (aY l thr p))∧w.grownBy w' none:=by
 obtain⟨cap,fl,stop,cu⟩:=p;dsimp only at hcl
 have HF:Hid (aY l thr ⟨cap,fl,stop,cu⟩=1):=by
  have:mY thr ⟨cap,fl,stop,cu⟩=false:=by
   unfold mY;rcases h with h | h
   · rw[h];rfl
   · rw[hcl,decide_eq_false (by omega),Bool.and_false]
  exact ae (by unfold aY;rw[this];rfl)
 have hh:thr < 1∨4 < thr∨cap < 1∨64 < cap∨stop < 0∨thr < (nc:Int):=by
  rcases h with h | h
  · unfold iE at h;simp only[Bool.and_eq_false_iff,decide_eq_false_iff_not] at h;omega
  · omega
 unfold BM;dsimp only;clear h hcl;by_cases a1:thr < 1
 · clear hh;go_enter Tryz.func38,Tryz.ntmps38;go_wp2_with fail;go_ret;exact⟨bg HF.out.symm,World.grownBy_alloc w _ none⟩
 · by_cases a2:(4:Int) < thr
   · clear hh;go_enter Tryz.func38,Tryz.ntmps38;go_wp2_with fail;go_ret;exact⟨bg HF.out.symm,World.grownBy_alloc w _ none⟩
   · by_cases a3:cap < 1
     · clear hh;go_enter Tryz.func38,Tryz.ntmps38;go_wp2_with fail;go_ret;exact⟨bg HF.out.symm,World.grownBy_alloc w _ none⟩
     · by_cases a4:(64:Int) < cap
       · clear hh;go_enter Tryz.func38,Tryz.ntmps38;go_wp2_with fail;go_ret;exact⟨bg HF.out.symm,World.grownBy_alloc w _ none⟩
       · by_cases a5:stop < 0
         · clear hh;go_enter Tryz.func38,Tryz.ntmps38;go_wp2_with fail;go_ret;exact⟨bg HF.out.symm,World.grownBy_alloc w _ none⟩
         · have a6:thr < (nc:Int):=by omega
           clear hh;go_enter Tryz.func38,Tryz.ntmps38;go_wp2_with fail;go_ret;exact⟨bg HF.out.symm,World.grownBy_alloc w _ none⟩
theorem Ui (l:List Ev)(Al:Option Addr)(nl cl:Nat)(thr:Int)(p:Pln)(Af:Option Addr)(nf cf:Nat)(Ac:Option Addr)(nc cc B:Nat)(w:World)(hl:Evs w B Al nl l)(hf:Fls w B Af nf p.flushes)(Za:Lies w B 1 Ac nc (p.cuts.map iv))(hB:B≤w.heap.size)(hnf:nf≤1000000)(hnc:nc≤1000000):
 Calls Tryz.prog 38 #[.slice Al nl cl,.int .i64 thr,.agg (BM p Af nf cf Ac nc cc)] w fun e w'=>e= .returned (.int .i64 (aY l thr p))∧w.grownBy w' none:=by
 have hlc:p.cuts.length=nc:=Za.lenI;by_cases hh:iE thr p=false∨thr < (nc:Int)
 · exact Qk l Al nl cl thr p Af nf cf Ac nc cc w hlc hh
 · obtain⟨cap,fl,stop,cu⟩:=p
   have hp:iE thr ⟨cap,fl,stop,cu⟩=true:=by
    cases h:iE thr ⟨cap,fl,stop,cu⟩ with
    | true=>rfl
    | false=>exact absurd (.inl h) hh
   have a6:¬thr < (nc:Int):=fun h=>hh (.inr h)
   dsimp only at hlc hf Za;have HOK:Hid (mY thr ⟨cap,fl,stop,cu⟩=(fl.all (iL thr) && cu.all (fun n=>decide (0≤n)))):=ae (by unfold mY;rw[hp,hlc,decide_eq_true (by omega:(nc:Int)≤thr)];simp);unfold iE at hp;simp only[Bool.and_eq_true,decide_eq_true_eq] at hp;have a1:¬thr < 1:=by omega
   have a2:¬(4:Int) < thr:=by omega
   have a3:¬cap < 1:=by omega
   have a4:¬(64:Int) < cap:=by omega
   have a5:¬stop < 0:=by omega
   have HLC:=ae hlc;have HLF:=ae hf.1;have FO:=ae hl.1;clear hh hlc hp;obtain⟨W,hW⟩:∃W,W=w.alloc (.cells #[.int .i64 cap,.slice Af nf cf,.int .i64 stop,.slice Ac nc cc] 39):=⟨_,rfl⟩;have iW:w.grownBy W none:=by rw[hW];exact World.grownBy_alloc w _ none
   have hb0:Held W w.heap.size 39 #[.int .i64 cap,.slice Af nf cf,.int .i64 stop,.slice Ac nc cc]:=by rw[hW];exact Held.new _ _ _
   have HW:=ae hW;clear hW;unfold BM;dsimp only;go_enter Tryz.func38,Tryz.ntmps38;go_upto_region 3 with fail;rw[show w.alloc (.cells #[.int .i64 cap,.slice Af nf cf,.int .i64 stop,.slice Ac nc cc] 39)=W from HW.out.symm];have k1:W.cell? ⟨w.heap.size,1,none⟩=some (.slice Af nf cf):=hb0.cell 1;have k3:W.cell? ⟨w.heap.size,3,none⟩=some (.slice Ac nc cc):=hb0.cell 3;go_wp2_with fail;go_loopw [7] (fun iv wr=>∃k:Nat,iv= .int .i64 (k:Int)∧k≤nf∧wr=W∧(fl.drop k).all (iL thr)=fl.all (iL thr)) (fun iv _=>nf - (intOf iv).toNat)
   case atStart=>exact ⟨0,rfl,Nat.zero_le _,rfl,rfl⟩
   case round=>
    obtain⟨k,rfl,hk,hwr,ho⟩:=hrel;subst hwr;have HO:=ae ho;clear ho;by_cases hlt:k < nf
    · obtain⟨b,o,f,rfl,hbB,hfk,f0,f1⟩:=(hf.grown iW hB (fun _ e=>nomatch e)).at hlt;have HS:=ae (yB (f:=iL thr) hfk);clear hfk;by_cases hgood:iL thr f=true
      · have hgd:=hgood;unfold iL at hgd;simp only[Bool.and_eq_true,decide_eq_true_eq] at hgd;have g1:¬f.1 < 0:=by omega
        have g2:¬f.2 < 0:=by omega
        have g3:¬thr≤f.2:=by omega
        have HGD:=ae hgood;clear hgood hgd;go_wp2_with fail;go_roundw
        case rel=>exact ⟨k+1,by go_num,by omega,trivial,by have:=HS.out;rw[HO.out,HGD.out,Bool.true_and] at this;exact this.symm⟩
        case measure=>simp [intOf];omega
      · have HF:Hid (aY l thr ⟨cap,fl,stop,cu⟩=1):=ae (by
         have h1:=HS.out;rw[HO.out,Bool.eq_false_iff.2 hgood,Bool.false_and] at h1;have h2:=HOK.out;rw[h1,Bool.false_and] at h2;unfold aY;rw[h2];rfl)
        have hb:f.1 < 0∨f.2 < 0∨thr≤f.2:=by
         unfold iL at hgood;simp only[Bool.and_eq_true,decide_eq_true_eq] at hgood;omega
        have EC:=ae iW;clear hgood;by_cases g1:f.1 < 0
        · clear hb;go_wp2_with fail;go_ret;exact⟨bg HF.out.symm,EC.out⟩
        · by_cases g2:f.2 < 0
          · clear hb;go_wp2_with fail;go_ret;exact⟨bg HF.out.symm,EC.out⟩
          · have g3:thr≤f.2:=by omega
            clear hb;go_wp2_with fail;go_ret;exact⟨bg HF.out.symm,EC.out⟩
    · have hkn:k=nf:=by omega
      have H8:Hid (fl.all (iL thr)=true):=ae (by
       have:=HO.out;rw[List.drop_eq_nil_of_le (by have:=HLF.out;omega)] at this;exact this.symm)
      subst hkn;have hc2:=Za.grown iW hB (fun _ e=>nomatch e);have hl2:=hl.grown iW hB (fun _ e=>nomatch e);have EC:=ae iW;clear iW hf Za hl hb0;obtain⟨W1,hW1⟩:∃W1,W1=wr:=⟨_,rfl⟩;subst hW1;go_wp2_with fail;go_loopw [8] (fun iv wr=>∃j:Nat,iv= .int .i64 (j:Int)∧j≤nc∧wr=W1∧(cu.drop j).all (fun n=>decide (0≤n))=cu.all (fun n=>decide (0≤n))) (fun iv _=>nc - (intOf iv).toNat)
      case atStart=>exact ⟨0,rfl,Nat.zero_le _,rfl,rfl⟩
      case round=>
       obtain⟨j,rfl,hj,hwr,hoj⟩:=hrel;subst hwr;have HOJ:=ae hoj;clear hoj;by_cases hjl:j < nc
       · obtain⟨ad,u,rfl,hb1,hx,hc⟩:=hc2.cellAt hjl;simp only[List.getElem?_map,Option.map_eq_some_iff] at hx;obtain⟨x,hx,rfl⟩:=hx;unfold iv at hc;have HS:=ae (yB (f:=fun n:Int=>decide (0≤n)) hx);clear hx;by_cases hx0:x < 0
         · have HF:Hid (aY l thr ⟨cap,fl,stop,cu⟩=1):=ae (by
            have h1:=HS.out;rw[HOJ.out,decide_eq_false (by omega),Bool.false_and] at h1;have h2:=HOK.out;rw[h1,Bool.and_false] at h2;unfold aY;rw[h2];rfl)
           go_wp2_with fail;go_ret;exact⟨bg HF.out.symm,EC.out⟩
         · have HX:Hid (decide (0≤x)=true):=ae (decide_eq_true (by omega));go_wp2_with fail;go_roundw
           case rel=>exact ⟨j+1,by go_num,by omega,trivial,by have:=HS.out;rw[HOJ.out,HX.out,Bool.true_and] at this;exact this.symm⟩
           case measure=>simp [intOf];omega
       · have HFE:Hid (aY l thr ⟨cap,fl,stop,cu⟩=if 400 < nl then 2 else if l.all (vW thr) then 0 else 1):=ae (by
          have h1:=HOJ.out;rw[List.drop_eq_nil_of_le (by have:=HLC.out;omega)] at h1;have h2:=HOK.out;rw[H8.out,←h1] at h2;unfold aY;rw[h2,FO.out];rfl)
         clear hc2;by_cases aqi:(400:Int) < (nl:Int)
         · have HF:Hid (aY l thr ⟨cap,fl,stop,cu⟩=2):=ae (by rw[HFE.out,if_pos (by omega)]);go_wp2_with fail;go_ret;exact⟨bg HF.out.symm,EC.out⟩
         · have afY:Hid (aY l thr ⟨cap,fl,stop,cu⟩=if l.all (vW thr) then 0 else 1):=ae (by rw[HFE.out,if_neg (by omega)]);obtain⟨W2,hW2⟩:∃W2,W2=wr:=⟨_,rfl⟩;subst hW2;go_wp2_with fail;go_loopw [9] (fun iv wr=>∃m:Nat,iv= .int .i64 (m:Int)∧m≤nl∧wr=W2∧(l.drop m).all (vW thr)=l.all (vW thr)) (fun iv _=>nl - (intOf iv).toNat)
           case atStart=>exact ⟨0,rfl,Nat.zero_le _,rfl,rfl⟩
           case round=>
            obtain⟨m,rfl,hm,hwr,hom⟩:=hrel;subst hwr;have HOM:=ae hom;clear hom;by_cases hml:m < nl
            · obtain⟨b,o,e,Ad,cd,Ae,ce,rfl,hb,hem,e0,e1,e2,e3,e4,e5,e6,_,_⟩:=hl2.at hml;have HS:=ae (yB (f:=vW thr) hem);clear hem e1 e2 e3 e4;by_cases hgood:vW thr e=true
              · have hgd:=hgood;unfold vW at hgd;simp only[Bool.and_eq_true,decide_eq_true_eq] at hgd;have g1:¬e.thread < 0:=by omega
                have g2:¬thr≤e.thread:=by omega
                have g3:¬(400:Int) < (e.deps.length:Int):=by omega
                have g4:¬(400:Int) < (e.from_.length:Int):=by omega
                have HGD:=ae hgood;clear hgood hgd;go_wp2_with fail;go_roundw
                case rel=>exact ⟨m+1,by go_num,by omega,trivial,by have:=HS.out;rw[HOM.out,HGD.out,Bool.true_and] at this;exact this.symm⟩
                case measure=>simp [intOf];omega
              · have HF:Hid (aY l thr ⟨cap,fl,stop,cu⟩=1):=ae (by
                 have h1:=HS.out;rw[HOM.out,Bool.eq_false_iff.2 hgood,Bool.false_and] at h1;rw[afY.out,h1];rfl)
                have hb:e.thread < 0∨thr≤e.thread∨(400:Int) < (e.deps.length:Int)∨(400:Int) < (e.from_.length:Int):=by
                 unfold vW at hgood;simp only[Bool.and_eq_true,decide_eq_true_eq] at hgood;omega
                clear hgood;by_cases g1:e.thread < 0
                · clear hb;go_wp2_with fail;go_ret;exact⟨bg HF.out.symm,EC.out⟩
                · by_cases g2:thr≤e.thread
                  · clear hb;go_wp2_with fail;go_ret;exact⟨bg HF.out.symm,EC.out⟩
                  · by_cases g3:(400:Int) < (e.deps.length:Int)
                    · clear hb;go_wp2_with fail;go_ret;exact⟨bg HF.out.symm,EC.out⟩
                    · have g4:(400:Int) < (e.from_.length:Int):=by omega
                      clear hb;go_wp2_with fail;go_ret;exact⟨bg HF.out.symm,EC.out⟩
            · have HF:Hid (aY l thr ⟨cap,fl,stop,cu⟩=0):=ae (by
               have h1:=HOM.out;rw[List.drop_eq_nil_of_le (by have:=FO.out;omega)] at h1;rw[afY.out,←h1];rfl)
              go_wp2_with fail;go_ret;exact⟨bg HF.out.symm,EC.out⟩
