/- Words. -/
import Derived.Test.YtfbkkgfkhhibfaaGreatRead
import Derived.Test.YtfbkkgfkhhibfaaGreatFits
set_option linter.unusedVariables false
set_option maxRecDepth 100000
set_option maxHeartbeats 8000000
namespace Go.Proofs.YtfbkkgfkhhibfaaGreat
open Go Go.RowKit Iv
theorem ahh {w w1 w2:World}(h:Below w.heap.size w w1)(hg:w1.grownBy w2 none):Below w.heap.size w w2:=h.grown hg h.size (λk hk=>by cases hk)
theorem LU (A:Option Addr)(n c B:Nat)(xs:Bytes)(thread seq:Int)(w:World)(h:Lies w B 1 A n (xs.map bv))(hB:B<=w.heap.size)(hnc:n<=c)(ho:A=none->c=0)(hn:n<=1000000000){r:Rec}{k:Nat}{y:Int}(hg:ed xs thread seq=(r,k,y)):
 Calls Tryz.prog 154 #[.slice A n c,.int .i64 thread,.int .i64 seq] w λe w'=>∃(Ad:Option Addr) (cd:Nat) (Af:Option Addr) (cf:Nat),
  e= .returned (.tuple #[.agg (recV r Ad r.ev.deps.length cd Af r.ev.from_.length cf),.int .i64 (k:Int),.int .i64 y])/\
  w'.ownsRow w.heap.size 3 1 (.slice Ad r.ev.deps.length cd) r.ev.deps.length (r.ev.deps.map iv)/\w'.ownsRow w.heap.size 3 1 (.slice Af r.ev.from_.length cf) r.ev.from_.length (r.ev.from_.map iv)/\w.grownBy w' none:=by refine (UT A n c B xs thread seq w h hB hnc ho hn).mono ?_;rintro e w' ⟨E,G,vf,hr,he,D,hf,a⟩;rw[hg] at hr he;subst hr;obtain⟨Ad,cd,d,_⟩:=ai D;obtain⟨Af,cf,u,_⟩:=ai hf;subst d u;exact⟨Ad,cd,Af,cf,he,D,hf,a⟩
theorem WZ {W:World}{g:Nat}{T:TypeId}{r:Rec}{Ad:Option Addr}{nd cd:Nat}{Af:Option Addr}{nf cf:Nat}(h:Held W g T (recV r Ad nd cd Af nf cf)):
 W.cell? ⟨g,0,none⟩=some (.int .i64 r.seq)/\W.cell? ⟨g,1,none⟩=some (.int .i64 r.ev.thread)/\W.cell? ⟨g,2,none⟩=some (.int .i64 r.ev.kind)/\W.cell? ⟨g,3,none⟩=some (.int .i64 r.ev.obj)/\
 W.cell? ⟨g,4,none⟩=some (.int .i64 r.ev.value)/\W.cell? ⟨g,5,none⟩=some (.int .i64 r.ev.site)/\W.cell? ⟨g,6,none⟩=some (.slice Ad nd cd)/\W.cell? ⟨g,7,none⟩=some (.slice Af nf cf):=
 ⟨h.cell 0,h.cell 1,h.cell 2,h.cell 3,h.cell 4,h.cell 5,h.cell 6,h.cell 7⟩
end Go.Proofs.YtfbkkgfkhhibfaaGreat
namespace Iv
open Go Go.RowKit
theorem fA {a b:World}(h:a.grownBy b none)(o:Option Nat):a.grownBy b o:=⟨h.os,h.tape,h.output,h.size,λk hk _=>h.block k hk nofun⟩
def Off (o:Option Nat)(A:Option Addr)(n:Nat):Prop:=0<n->∀ad,A=some ad->some ad.block≠o
theorem Off.ofOwn {w:World}{base e sz n c:Nat}{A:Option Addr}{xs:List Value}{o:Option Nat}(h:w.ownsRow base e sz (.slice A n c) n xs)(ho:∀g,o=some g->g<base):Off o A n:=by rintro _ a rfl hb;have:=(h.lt a.block rfl).1;have:=ho _ hb.symm;omega
theorem Lies.grownOff {w w':World}{B sz n:Nat}{A:Option Addr}{xs:List Value}{row:Option Nat}(h:Lies w B sz A n xs)(ho:Off row A n)(hg:w.grownBy w' row)(hB:B<=w.heap.size):Lies w' B sz A n xs:=by refine⟨h.1,λhn=>?_⟩;obtain⟨a,e,hb,hc⟩:=h.2 hn;refine⟨a,e,hb,λj u d=>?_⟩;refine qL (lW (hg.block (a.add j).block ?_ ?_)) (hc j u d);rw[addBlock];omega;rw[addBlock];exact ho hn a e
theorem Off.at_ {w:World}{B sz n:Nat}{A:Option Addr}{xs:List Value}{o o':Option Nat}(ho:Off o A n)(h:Lies w B sz A n xs)(hB:B<=w.heap.size)(d:At w o o'):Off o' A n:=by intro hn u e hb;rcases d with rfl|⟨g,rfl,hge⟩;exact ho hn u e hb;obtain⟨y,a,D,_⟩:=h.2 hn;rw[e] at a;injection a with a;subst a;injection hb with hb;omega
def Lo (lo:Nat)(A:Option Addr)(n:Nat):Prop:=0<n->∀ad,A=some ad->lo<=ad.block
theorem Lo.ofOwn {w:World}{base e sz n c lo:Nat}{A:Option Addr}{xs:List Value}(h:w.ownsRow base e sz (.slice A n c) n xs)(d:lo<=base):Lo lo A n:=by rintro _ a rfl;have:=(h.lt a.block rfl).1;omega
theorem Lo.lower {lo a:Nat}{A:Option Addr}{n:Nat}(h:Lo lo A n)(u:a<=lo):Lo a A n:=λhn d e=>by have:=h hn d e;omega
theorem Lo.off {lo:Nat}{A:Option Addr}{n:Nat}{row:Option Nat}(h:Lo lo A n)(hr:∀g,row=some g->g<lo):Off row A n:=λhn a e hb=>by
 have h1:=h hn a e
 have h2:=hr _ hb.symm
 omega
end Iv
namespace Go.Proofs.YtfbkkgfkhhibfaaGreat
open Go Go.RowKit Iv
theorem CO:(Tryz.prog.info? 54).map (λi=>(i.zero,i.size,i.bytes))=some (some (.agg #[.int .i64 0,.int .i64 0,.int .i64 0,.int .i64 0,.int .i64 0,.int .i64 0,.slice none 0 0,.slice none 0 0]),8,96):=by kernel_rfl
structure RowRec (w:World)(lo:Nat)(o:Option Nat)(css:List Value)(k:Nat)(r:Rec)(Ad:Option Addr)(nd cd:Nat)(Af:Option Addr)(nf cf:Nat):Prop where
 cells:∀j u,(recV r Ad nd cd Af nf cf)[j]?=some u->css[k*8+j]?=some u
 ld:Lies w w.heap.size 1 Ad nd (r.ev.deps.map iv)
 lf:Lies w w.heap.size 1 Af nf (r.ev.from_.map iv)
 od:Off o Ad nd
 of_:Off o Af nf
 lod:Lo lo Ad nd
 lof:Lo lo Af nf
def RowsAt (w:World)(lo:Nat)(o:Option Nat)(css:List Value)(rs:List Rec):Prop:=
 css.length=rs.length*8/\∀k r,rs[k]?=some r->∃(Ad:Option Addr) (nd cd:Nat) (Af:Option Addr) (nf cf:Nat),RowRec w lo o css k r Ad nd cd Af nf cf
theorem RowsAt.nil (w:World)(lo:Nat)(o:Option Nat):RowsAt w lo o [] []:=⟨rfl,λk r hr=>by simp at hr⟩
theorem RowRec.grow {w w':World}{lo:Nat}{o o':Option Nat}{css:List Value}{k:Nat}{r:Rec}{Ad:Option Addr}{nd cd:Nat}{Af:Option Addr}{nf cf:Nat}(h:RowRec w lo o css k r Ad nd cd Af nf cf)(hg:w.grownBy w' o)(a:At w o o'):RowRec w' lo o' css k r Ad nd cd Af nf cf:=
 ⟨h.cells,(h.ld.grownOff h.od hg (ax _)).more hg.size,(h.lf.grownOff h.of_ hg (ax _)).more hg.size,h.od.at_ h.ld (ax _) a,h.of_.at_ h.lf (ax _) a,h.lod,h.lof⟩
theorem RowsAt.grow {w w':World}{lo:Nat}{o o':Option Nat}{css:List Value}{rs:List Rec}(h:RowsAt w lo o css rs)(hg:w.grownBy w' o)(a:At w o o'):RowsAt w' lo o' css rs:=
 ⟨h.1,λk r hr=>by
  obtain⟨Ad,nd,cd,Af,nf,cf,q⟩:=h.2 k r hr
  exact⟨Ad,nd,cd,Af,nf,cf,q.grow hg a⟩⟩
theorem RowsAt.keep {w w':World}{lo:Nat}{o:Option Nat}{css:List Value}{rs:List Rec}(h:RowsAt w lo o css rs)(hg:w.grownBy w' none):RowsAt w' lo o css rs:=
 ⟨h.1,λk r hr=>by
  obtain⟨Ad,nd,cd,Af,nf,cf,q⟩:=h.2 k r hr
  exact⟨Ad,nd,cd,Af,nf,cf,q.cells,(q.ld.grown hg (ax _) nofun).more hg.size,(q.lf.grown hg (ax _) nofun).more hg.size,q.od,q.of_,q.lod,q.lof⟩⟩
theorem RowsAt.snoc {w:World}{lo:Nat}{o:Option Nat}{css:List Value}{rs:List Rec}(h:RowsAt w lo o css rs){r:Rec}{Ad:Option Addr}{nd cd:Nat}{Af:Option Addr}{nf cf:Nat}
 (h1:Lies w w.heap.size 1 Ad nd (r.ev.deps.map iv)) (h2:Lies w w.heap.size 1 Af nf (r.ev.from_.map iv)) (h3:Off o Ad nd) (h4:Off o Af nf) (h5:Lo lo Ad nd) (B:Lo lo Af nf):RowsAt w lo o (css++(recV r Ad nd cd Af nf cf).toList) (rs++[r]):=by refine⟨by rw[bG,h.1,bG];unfold recV;simp[iq],λk q a=>?_⟩;by_cases hk:k<rs.length;rw[jI hk] at a;obtain⟨D,E,G,H,I,d,z⟩:=h.2 k q a;refine⟨D,E,G,H,I,d,λj u y=>?_,z.ld,z.lf,z.od,z.of_,z.lod,z.lof⟩;have:=z.cells j u y;rw[jI (bV.1 this).1];exact this;have J:k<rs.length+1:=(by have:=(bV.1 a).1;simpa using this);have A:k=rs.length:=(by omega);subst A;rw[jJ (ax _),rD] at a;simp only[uU,jA] at a;subst a;refine⟨Ad,nd,cd,Af,nf,cf,λj u y=>?_,h1,h2,h3,h4,h5,B⟩;rw[jJ (by rw[h.1];omega),h.1,MB];simpa using y
structure RecN (w:World)(lo b o:Nat)(r:Rec)(Ad:Option Addr)(nd cd:Nat)(Af:Option Addr)(nf cf:Nat):Prop where
 lob:lo<=b
 hib:b<w.heap.size
 cells:∀j u,(recV r Ad nd cd Af nf cf)[j]?=some u->w.cell? ⟨b,o+j,none⟩=some u
 ld:Lies w w.heap.size 1 Ad nd (r.ev.deps.map iv)
 lf:Lies w w.heap.size 1 Af nf (r.ev.from_.map iv)
 lod:Lo lo Ad nd
 lof:Lo lo Af nf
def RecsNew (w:World)(lo:Nat)(A:Option Addr)(n:Nat)(rs:List Rec):Prop:=
 rs.length=n/\∀k r,rs[k]?=some r->∃(b o:Nat) (Ad:Option Addr) (nd cd:Nat) (Af:Option Addr) (nf cf:Nat),A=some ⟨b,o,none⟩/\RecN w lo b (o+k*8) r Ad nd cd Af nf cf
theorem RecsNew.nil (w:World)(lo:Nat)(A:Option Addr):RecsNew w lo A 0 []:=⟨rfl,λk r hr=>by simp at hr⟩
theorem RecsNew.recs {w:World}{lo n:Nat}{A:Option Addr}{rs:List Rec}(h:RecsNew w lo A n rs):Recs w w.heap.size A n rs:=
 ⟨h.1,λk r hr=>by
  obtain⟨b,o,Ad,nd,cd,Af,nf,cf,e,q⟩:=h.2 k r hr
  exact⟨b,o,Ad,nd,cd,Af,nf,cf,e,q.hib,q.cells,q.ld,q.lf⟩⟩
theorem RecsNew.lower {w:World}{lo a n:Nat}{A:Option Addr}{rs:List Rec}(h:RecsNew w lo A n rs)(d:a<=lo):RecsNew w a A n rs:=
 ⟨h.1,λk r hr=>by
  obtain⟨b,o,Ad,nd,cd,Af,nf,cf,e,q⟩:=h.2 k r hr
  exact⟨b,o,Ad,nd,cd,Af,nf,cf,e,aP d q.lob,q.hib,q.cells,q.ld,q.lf,q.lod.lower d,q.lof.lower d⟩⟩
theorem RecsNew.keep {w w':World}{lo n:Nat}{A:Option Addr}{rs:List Rec}{row:Option Nat}(h:RecsNew w lo A n rs)(hg:w.grownBy w' row)(hr:∀g,row=some g->g<lo):RecsNew w' lo A n rs:=
 ⟨h.1,λk r hk=>by
  obtain⟨b,o,Ad,nd,cd,Af,nf,cf,e,q⟩:=h.2 k r hk
  refine⟨b,o,Ad,nd,cd,Af,nf,cf,e,q.lob,lJ q.hib hg.size,λj u a=>?_,(q.ld.grownOff (q.lod.off hr) hg (ax _)).more hg.size,(q.lf.grownOff (q.lof.off hr) hg (ax _)).more hg.size,q.lod,q.lof⟩
  refine qL (lW (hg.block b q.hib (λe=>?_))) (q.cells j u a)
  have h1:=hr _ e.symm
  have h2:=q.lob
  omega⟩
theorem RowsAt.recs {w:World}{lo base e c n:Nat}{A:Option Addr}{css:List Value}{rs:List Rec}(h:RowsAt w lo (Value.slice A n c).ownBlock css rs)(ho:w.ownsRow base e 8 (.slice A n c) n css)(hn:n=rs.length)(a:lo<=base):RecsNew w lo A n rs:=by refine⟨hn.symm,λk r hr=>?_⟩;have hk:k<n:=(by rw[hn];exact (bV.1 hr).1);obtain⟨g,cap,B,D,d⟩:=ho.form (by omega);have y:=(ho.lt g (by rw[B];rfl)).1;injection B with E;subst E;obtain⟨Ad,nd,cd,Af,nf,cf,q⟩:=h.2 k r hr;refine⟨g,0,Ad,nd,cd,Af,nf,cf,rfl,aP a y,d,λj u G=>?_,q.ld,q.lf,q.lod,q.lof⟩;have:=ho.cells (g:=g) rfl (k*8+j) u (q.cells j u G);rw[dJ];have e0:(⟨g,0,none⟩:Addr).add (k*8+j)=⟨g,k*8+j,none⟩:=(by unfold Addr.add;split<;>simp_all);rwa [e0] at this
theorem Xb (r:Rec)(Ad:Option Addr)(nd cd:Nat)(Af:Option Addr)(nf cf:Nat):∀u∈(recV r Ad nd cd Af nf cf).toList,u.oneCell'=true:=by intro u a;unfold recV at a;simp only[dV,jK,or_false] at a;rcases a with rfl|rfl|rfl|rfl|rfl|rfl|rfl|rfl<;>rfl
theorem Xa (W:World)(t:TypeId)(r:Rec)(Ad:Option Addr)(nd cd:Nat)(Af:Option Addr)(nf cf:Nat):∀j u,(recV r Ad nd cd Af nf cf).toList[j]?=some u->(W.alloc (.cells (recV r Ad nd cd Af nf cf) t)).cell? ((⟨W.heap.size,0,none⟩:Addr).add j)=some u:=by intro j u a;have e0:(⟨W.heap.size,0,none⟩:Addr).add j=⟨W.heap.size,j,none⟩:=(by unfold Addr.add;split<;>simp_all);rw[e0,(Held.new W t _).cell j];simpa using a
def BufAt (w:World)(B:Nat)(css:List Value)(rs:List Rec):Prop:=
 css.length=rs.length*8/\∀k r,rs[k]?=some r->∃(Ad:Option Addr) (nd cd:Nat) (Af:Option Addr) (nf cf:Nat),(∀j u,(recV r Ad nd cd Af nf cf)[j]?=some u->css[k*8+j]?=some u)/\Lies w B 1 Ad nd (r.ev.deps.map iv)/\Lies w B 1 Af nf (r.ev.from_.map iv)
theorem BufAt.nil (w:World)(B:Nat):BufAt w B [] []:=⟨rfl,λk r hr=>by simp at hr⟩
theorem BufAt.grow {w w':World}{B:Nat}{css:List Value}{rs:List Rec}{row:Option Nat}(h:BufAt w B css rs)(hg:w.grownBy w' row)(hB:B<=w.heap.size)(hr:∀g,row=some g->B<=g):BufAt w' B css rs:=
 ⟨h.1,λk r hk=>by
  obtain⟨Ad,nd,cd,Af,nf,cf,a,d,u⟩:=h.2 k r hk
  exact⟨Ad,nd,cd,Af,nf,cf,a,d.grown hg hB hr,u.grown hg hB hr⟩⟩
theorem BufAt.snoc {w:World}{B:Nat}{css:List Value}{rs:List Rec}(h:BufAt w B css rs){r:Rec}{Ad:Option Addr}{nd cd:Nat}{Af:Option Addr}{nf cf:Nat}
 (h1:Lies w B 1 Ad nd (r.ev.deps.map iv)) (h2:Lies w B 1 Af nf (r.ev.from_.map iv)):BufAt w B (css++(recV r Ad nd cd Af nf cf).toList) (rs++[r]):=by refine⟨by rw[bG,h.1,bG];unfold recV;simp[iq],λk q a=>?_⟩;by_cases hk:k<rs.length;rw[jI hk] at a;obtain⟨D,E,G,H,I,d,J,L,z3⟩:=h.2 k q a;refine⟨D,E,G,H,I,d,λj u y=>?_,L,z3⟩;have:=J j u y;rw[jI (bV.1 this).1];exact this;have N:k<rs.length+1:=(by have:=(bV.1 a).1;simpa using this);have A:k=rs.length:=(by omega);subst A;rw[jJ (ax _),rD] at a;simp only[uU,jA] at a;subst a;refine⟨Ad,nd,cd,Af,nf,cf,λj u y=>?_,h1,h2⟩;rw[jJ (by rw[h.1];omega),h.1,MB];simpa using y
theorem BufAt.recs {w:World}{base e c n B:Nat}{A:Option Addr}{css:List Value}{rs:List Rec}(h:BufAt w B css rs)(ho:w.ownsRow base e 8 (.slice A n c) n css)(hn:n=rs.length)(hB:B<=w.heap.size):Recs w w.heap.size A n rs:=by refine⟨hn.symm,λk r hr=>?_⟩;have hk:k<n:=(by rw[hn];exact (bV.1 hr).1);obtain⟨g,cap,d,y,a⟩:=ho.form (by omega);injection d with D;subst D;obtain⟨Ad,nd,cd,Af,nf,cf,E,G,H⟩:=h.2 k r hr;refine⟨g,0,Ad,nd,cd,Af,nf,cf,rfl,a,λj u I=>?_,G.more hB,H.more hB⟩;have:=ho.cells (g:=g) rfl (k*8+j) u (E j u I);rw[dJ];have e0:(⟨g,0,none⟩:Addr).add (k*8+j)=⟨g,k*8+j,none⟩:=(by unfold Addr.add;split<;>simp_all);rwa [e0] at this
def fam (thr:Nat)(f:Nat->Value):Array Value:=((List.range thr).map f).toArray
theorem iF {thr t:Nat}(f:Nat->Value)(a:t<thr):(fam thr f)[t]?=some (f t):=by simp[fam,a]
theorem KG {thr t:Nat}(f:Nat->Value)(v:Value):(fam thr f).setIfInBounds t v=fam thr (upd f t v):=by unfold fam;apply Cb;simp;intro i h1 h2;simp only[Zx,uX,gy,List.length_range] at h1;rw[Array.getElem_setIfInBounds (by simpa using h1)];by_cases hi:t=i;subst hi;simp[upd];have:i≠t:=λe=>hi e.symm;simp[hi,upd,this]
theorem ZP {α β:Type}(g:α->β)(f:Nat->α)(t:Nat)(x:α):(λk=>g (upd f t x k))=upd (λk=>g (f k)) t (g x):=by funext k;unfold upd;split<;>rfl
structure RM (base B thr gB gW gF:Nat)(s:St)(vb vf:Nat->Value)(css:Nat->List Value)(wr:World):Prop where
 hB:Held wr gB 48 (fam thr vb)
 hW:Held wr gW 3 (fam thr λt=> .int .i64 (s.first t))
 hF:Held wr gF 22 (fam thr vf)
 ob:∀t,t<thr->wr.ownsRow base 54 8 (vb t) (s.buf t).length (css t)
 oc:∀t,t<thr->BufAt wr B (css t) (s.buf t)
 of_:∀t,t<thr->wr.ownsRow base 5 1 (vf t) (s.file t).length ((s.file t).map bv)
 abb:∀t k,t<thr->k<thr->t≠k->Apart (vb t) (vb k)
 aff:∀t k,t<thr->k<thr->t≠k->Apart (vf t) (vf k)
 abf:∀t k,t<thr->k<thr->Apart (vb t) (vf k)
 lt:gB<base/\gW<base/\gF<base
 ge:B<=gB/\B<=gW/\B<=gF
 ne:gB≠gW/\gB≠gF/\gW≠gF
 bs:base<=wr.heap.size
section
variable {base B thr gB gW gF : Nat} {s : St} {vb vf : Nat -> Value} {css : Nat -> List Value} {wr w1 : World}
theorem RM.keep (h:RM base B thr gB gW gF s vb vf css wr)(hg:wr.grownBy w1 none):RM base B thr gB gW gF s vb vf css w1:=
 ⟨h.hB.grown hg nofun,h.hW.grown hg nofun,h.hF.grown hg nofun,λt a=>ay (h.ob t a) hg nofun,λt a=>(h.oc t a).grow hg (by have:=h.bs;have:=h.lt;have:=h.ge;omega) nofun,
  λt a=>ay (h.of_ t a) hg nofun,h.abb,h.aff,h.abf,h.lt,h.ge,h.ne,aP h.bs hg.size⟩
theorem iY {e sz n g:Nat}{v:Value}{xs:List Value}(h:wr.ownsRow base e sz v n xs)(hg:g<base):v.ownBlock≠some g:=by intro a;have:=(h.lt g a).1;omega
theorem RM.setB (h:RM base B thr gB gW gF s vb vf css wr){t:Nat}(D:t<thr){v:Value}{xs:List Value}{rs:List Rec}(ho:w1.ownsRow base 54 8 v rs.length xs)(hc:BufAt w1 B xs rs)(hg:wr.grownBy w1 (vb t).ownBlock)
 (a1:∀k,k<thr->k≠t->Apart v (vb k)) (a2:∀k,k<thr->Apart v (vf k)):
 RM base B thr gB gW gF ⟨upd s.buf t rs,s.first,s.file⟩ (upd vb t v) vf (upd css t xs) (w1.setCell ⟨gB,t,none⟩ v):=by obtain⟨l1,l2,l3⟩:=h.lt;obtain⟨e1,L,N⟩:=h.ge;obtain⟨n1,n2,n3⟩:=h.ne;have E:=h.bs;have own:=h.ob t D;have G:=h.hB.grown hg (λe=>iY own l1 e.symm);have H:=h.hW.grown hg (λe=>iY own l2 e.symm);have I:=h.hF.grown hg (λe=>iY own l3 e.symm);have st:=ah w1 gB t v;have J:base<=w1.heap.size:=aP E hg.size;refine⟨?_,H.far (p:=⟨gB,t,none⟩) (λe=>n1 e.symm) v,I.far (p:=⟨gB,t,none⟩) (λe=>n2 e.symm) v,λk hk=>?_,λk hk=>?_,λk hk=>?_,λa k ha hk A=>?_,h.aff,λa k ha hk=>?_,h.lt,h.ge,h.ne,aP J st.size⟩;have:=G.store t v;rw[KG] at this;exact this;by_cases u:k=t;subst u;simp only[dQ];exact ay ho st (λg y e=>iY ho l1 (by rw[y,e]));simp only[bY _ _ u];exact ay (ay (h.ob k hk) hg (λg y e=>h.abb k t hk D u g y e)) st (λg y e=>iY (h.ob k hk) l1 (by rw[y,e]));by_cases u:k=t;subst u;simp only[dQ];exact hc.grow st (by omega) (λg e=>by injection e with e;omega);simp only[bY _ _ u];exact ((h.oc k hk).grow hg (by omega) (λg e=>by have:=(own.lt g e).1;omega)).grow st (by omega) (λg e=>by injection e with e;omega);exact ay (ay (h.of_ k hk) hg (λg y e=>(h.abf t k D hk).symm g y e)) st (λg y e=>iY (h.of_ k hk) l1 (by rw[y,e]));by_cases d:a=t;subst d;simp only[dQ,bY _ _ (λe=>A e.symm)];exact a1 k hk (λe=>A e.symm);by_cases u:k=t;subst u;simp only[dQ,bY _ _ d];exact (a1 a ha d).symm;simp only[bY _ _ d,bY _ _ u];exact h.abb a k ha hk A;by_cases d:a=t;subst d;simp only[dQ];exact a2 k hk;simp only[bY _ _ d];exact h.abf a k ha hk
theorem RM.grewB (h:RM base B thr gB gW gF s vb vf css wr){t:Nat}(d:t<thr){v:Value}{xs:List Value}{rs:List Rec}(ho:w1.ownsRow base 54 8 v rs.length xs)(hc:BufAt w1 B xs rs)(hg:wr.grownBy w1 (vb t).ownBlock)(a:At wr (vb t).ownBlock v.ownBlock):
 RM base B thr gB gW gF ⟨upd s.buf t rs,s.first,s.file⟩ (upd vb t v) vf (upd css t xs) (w1.setCell ⟨gB,t,none⟩ v):=
 h.setB d ho hc hg (λk hk u=>(h.abb t k d hk (λe=>u e.symm)).step (h.ob k hk) a) (λk hk=>(h.abf t k d hk).step (h.of_ k hk) a)
theorem RM.clearB (h:RM base B thr gB gW gF s vb vf css wr){t:Nat}(a:t<thr):
 RM base B thr gB gW gF ⟨upd s.buf t [],s.first,s.file⟩ (upd vb t (.slice none 0 0)) vf (upd css t []) (wr.setCell ⟨gB,t,none⟩ (.slice none 0 0)):=
 h.setB a (dU _ _ _ _) (BufAt.nil _ _) (bI wr _) (λk _ _=>(Apart.nil _).symm) (λk _=>(Apart.nil _).symm)
theorem RM.setF (h:RM base B thr gB gW gF s vb vf css wr){t:Nat}(D:t<thr){v:Value}{ys:Bytes}(ho:w1.ownsRow base 5 1 v ys.length (ys.map bv))(hg:wr.grownBy w1 (vf t).ownBlock)
 (a1:∀k,k<thr->k≠t->Apart v (vf k)) (a2:∀k,k<thr->Apart (vb k) v):
 RM base B thr gB gW gF ⟨s.buf,s.first,upd s.file t ys⟩ vb (upd vf t v) css (w1.setCell ⟨gF,t,none⟩ v):=by obtain⟨l1,l2,l3⟩:=h.lt;obtain⟨e1,L,N⟩:=h.ge;obtain⟨n1,n2,n3⟩:=h.ne;have E:=h.bs;have own:=h.of_ t D;have G:=h.hB.grown hg (λe=>iY own l1 e.symm);have H:=h.hW.grown hg (λe=>iY own l2 e.symm);have I:=h.hF.grown hg (λe=>iY own l3 e.symm);have st:=ah w1 gF t v;have J:base<=w1.heap.size:=aP E hg.size;refine⟨G.far (p:=⟨gF,t,none⟩) n2 v,H.far (p:=⟨gF,t,none⟩) n3 v,?_,λk hk=>?_,λk hk=>?_,λk hk=>?_,h.abb,λa k ha hk A=>?_,λa k ha hk=>?_,h.lt,h.ge,h.ne,aP J st.size⟩;have:=I.store t v;rw[KG] at this;exact this;exact ay (ay (h.ob k hk) hg (λg y e=>h.abf k t hk D g y e)) st (λg y e=>iY (h.ob k hk) l3 (by rw[y,e]));exact ((h.oc k hk).grow hg (by omega) (λg e=>by have:=(own.lt g e).1;omega)).grow st (by omega) (λg e=>by injection e with e;omega);by_cases d:k=t;subst d;simp only[dQ];exact ay ho st (λg y e=>iY ho l3 (by rw[y,e]));simp only[bY _ _ d];exact ay (ay (h.of_ k hk) hg (λg y e=>h.aff k t hk D d g y e)) st (λg y e=>iY (h.of_ k hk) l3 (by rw[y,e]));by_cases u:a=t;subst u;simp only[dQ,bY _ _ (λe=>A e.symm)];exact a1 k hk (λe=>A e.symm);by_cases d:k=t;subst d;simp only[dQ,bY _ _ u];exact (a1 a ha u).symm;simp only[bY _ _ u,bY _ _ d];exact h.aff a k ha hk A;by_cases d:k=t;subst d;simp only[dQ];exact a2 a ha;simp only[bY _ _ d];exact h.abf a k ha hk
theorem RM.setW (h:RM base B thr gB gW gF s vb vf css wr){t:Nat}(x:Int):
 RM base B thr gB gW gF ⟨s.buf,upd s.first t x,s.file⟩ vb vf css (wr.setCell ⟨gW,t,none⟩ (.int .i64 x)):=by
 obtain⟨l1,l2,l3⟩:=h.lt;obtain⟨e1,u,y⟩:=h.ge;obtain⟨n1,n2,n3⟩:=h.ne;have a:=h.bs;have st:=ah wr gW t (.int .i64 x)
 refine⟨h.hB.far (p:=⟨gW,t,none⟩) n1 _,?_,h.hF.far (p:=⟨gW,t,none⟩) (λe=>n3 e.symm) _,λk hk=>ay (h.ob k hk) st (λg d e=>iY (h.ob k hk) l2 (by rw[d,e])),λk hk=>(h.oc k hk).grow st (by omega) (λg e=>by injection e with e;omega),
  λk hk=>ay (h.of_ k hk) st (λg d e=>iY (h.of_ k hk) l2 (by rw[d,e])),h.abb,h.aff,h.abf,h.lt,h.ge,h.ne,aP a st.size⟩
 have:=h.hW.store t (.int .i64 x);rw[KG] at this;have e:(λk=>Value.int .i64 (upd s.first t x k))=upd (λk=>Value.int .i64 (s.first k)) t (.int .i64 x):=ZP (Value.int .i64) s.first t x;show Held _ gW _ (fam thr λk=>Value.int .i64 (upd s.first t x k));rw[e];exact this
end
def jP (rs:List Rec):Option (List Rec×Bytes)->Option (List Rec)
 |some (l,[])=>some (rs++l)
 |_=>none
def jQ (thread:Int)(N:Nat)(ps:Bytes):Option (List Rec):=jP [] (dZ thread N (-1) ps)
theorem WW {thread seq:Int}{m k:Nat}{d:Bytes}{r:Rec}(rs:List Rec)(h:ed d thread seq=(r,k,0)):jP rs (dZ thread (m+1) seq d)=jP (rs++[r]) (dZ thread m r.seq (d.drop k)):=by
 rw[dZ,h];simp only[su]
 cases dZ thread m r.seq (d.drop k) with
 |none=>rfl
 |
  some p=>
  obtain⟨l,t⟩:=p
  cases t with
  |nil=>simp [jP]
  |cons a b=>rfl
theorem aaw {thread seq:Int}{m:Nat}{a:Bytes}(rs:List Rec)(h:(ed a thread seq).2.2≠0):jP rs (dZ thread (m+1) seq a)=none:=by rw[dZ,if_neg h];rfl
theorem aax {thread seq:Int}{d:Bytes}(rs:List Rec):jP rs (dZ thread 0 seq d)=if d.length=0 then some rs else none:=by
 cases d with
 |nil=>simp [dZ,jP]
 |cons a b=>simp [dZ,jP]
def SX (w:World)(res:Option (List Rec))(e:Ending)(w':World):Prop:=
 ∃(A:Option Addr) (n c:Nat) (rs:List Rec) (ok:Bool),e= .returned (.tuple #[.slice A n c,.bool ok])/\RecsNew w' w.heap.size A n rs/\w.grownBy w' none/\n<=c/\c<=maxLen/\(A=none->c=0)/\res=(if ok then some rs else none)
theorem sF {w w':World}{res:Option (List Rec)}(hr:res=none)(hg:w.grownBy w' none):SX w res (.returned (.tuple #[.slice none 0 0,.bool false])) w':=
 ⟨none,0,0,[],false,rfl,RecsNew.nil _ _ _,hg,ax _,aG _,λ_=>rfl,hr⟩
theorem AY (A:Option Addr)(n c B:Nat)(xs:Bytes)(L:Int)(N:Nat)(thread:Int)(w:World)(h:Lies w B 1 A n (xs.map bv))(hB:B<=w.heap.size)(hnc:n<=c)(hn:n<=2000000)(hN:N<=1000000)(ht:inI64 thread):
 Calls Tryz.prog 118 #[.slice A n c,.int .i64 L,.int .i64 (N:Int),.int .i64 thread] w
  (SX w (if (unpack xs L).2=0/\((unpack xs L).1.length:Int)=L then jQ thread N (unpack xs L).1 else none)):=by
 have CU:=ae (LP A n c B xs L w h hB hnc (by omega) w.heap.size (ax _));have ao:=PN xs L;rw[h.lenB] at ao;obtain⟨u,Y,hu⟩:∃u Y,unpack xs L=(u,Y):=⟨_,_,rfl⟩;rw[hu] at CU ao|-;dsimp only at ao|-;have HT:=ae ht;clear hu h ht;by_cases he:Y=0
 . subst he;by_cases hlen:(u.length:Int)=L
   . have bm:((u.length:Int) !=L)=false:=(by rw[CJ];exact hlen);have FD:Hid ((if (0:Int)=0/\(u.length:Int)=L then jQ thread N u else none)=jQ thread N u):=ae (if_pos ⟨rfl,hlen⟩);rw[FD.o];obtain⟨i0,hi,aR,b0,b1⟩:=info_parts CO;have HI:=ae hi;have bn:=ae aR;have bo:=ae b0;have bp:=ae b1;have hz:(0:Nat)<8:=(by omega);clear hi aR b0 b1 hlen FD;go_enter Tryz.func118,Tryz.ntmps118;go_wp2_with fail;refine CU.o.mono ?_;rintro e w1 ⟨v1,rfl,a,H,mG⟩;obtain⟨A1,c1,aq,CV,aM,Z,ar⟩:=ai a;subst aq;have bq:=ae Z;have Lc:=ae ar;have br:=ae CV;clear a Z ar;go_wp2_with fail
     go_loopw [10,12,13,32] (λpv lv sv iv wr=>∃(k:Nat) (seq:Int) (y:Bytes) (Ap:Option Addr) (I cp:Nat) (rs:List Rec) (css:List Value) (vv:Value),vv=lv/\iv= .int .i64 (k:Int)/\k<=N/\sv= .int .i64 seq/\pv= .slice Ap I cp/\I<=cp/\(Ap=none->cp=0)/\I<=260000000/\
      Lies wr w1.heap.size 1 Ap I (y.map bv)/\wr.ownsRow w1.heap.size 54 8 vv rs.length css/\RowsAt wr w1.heap.size vv.ownBlock css rs/\rs.length=k/\w1.grownBy wr none/\At w1 none vv.ownBlock/\jP rs (dZ thread (N-k) seq y)=jQ thread N u) (λ_ _ _ iv _=>N-(intOf iv).toNat)
     case atStart=>exact ⟨0,-1,u,A1,u.length,c1,[],[],_,rfl,rfl,aG _,rfl,rfl,br.o,Lc.o,by omega,bq.o,dU _ _ _ _,RowsAt.nil _ _ _,rfl,bI w1 none,.inl rfl,rfl⟩
     case round=>
      obtain⟨k,seq,y,Ap,I,cp,rs,css,vv,rfl,rfl,hk,rfl,rfl,b2,b3,cI,J,d,D,b4,hg,b5,a6⟩:=hrel;have FH:=ae a6;have b6:=ae b3;have bt:=ae J;have av:=ae b4;have b8:=ae J.lenB;have HG:=ae (af H hg (.inl rfl));clear a6 b3 b4;by_cases cJ:k<N
      . obtain⟨r,E,Y,X⟩:∃r E Y,ed y thread seq=(r,E,Y):=⟨_,_,_,rfl⟩;have CR:=ae (LU Ap I cp w1.heap.size y thread seq wr bt.o hg.size b2 b6.o (by omega) X);unfold recV at CR;have b9:=ae X;have ba:Hid (N-k=(N-(k+1))+1):=ae (by omega);by_cases aa:Y=0
        . subst aa;have ho:=zJ HT.o X;have bx:E<=I:=(by rw[<-b8.o];exact ho.2.2.2.2.1);have bB:=ae (show jP (rs++[r]) (dZ thread (N-(k+1)) r.seq (y.drop E))=jQ thread N u from by rw[<-FH.o,ba.o,WW rs b9.o]);obtain⟨A',bc⟩:∃A',(if cp=E then Ap else Ap.map λx=>x.add E)=A':=⟨_,rfl⟩;have hcut:Lies wr w1.heap.size 1 A' (I-E) ((y.drop E).map bv):=by
           have:=J.dropIf bx b2;rw[lY,<-qK,bc] at this;exact this
          have bd:A'=none->cp-E=0:=(by intro e0;rw[<-bc] at e0;split at e0;omega;simp only[Option.map_eq_none_iff] at e0;have:=b6.o e0;omega);obtain⟨Av,cv,bF,cK,cL,_,bf⟩:=ai d;have a7:∀g,vv.ownBlock=some g->g<wr.heap.size:=λg e=>(d.lt g e).2;have ab:w1.heap.size<=wr.heap.size:=hg.size;have WX:=ae hcut;have bN:=ae bd;have a8:=ae d;have FI:=ae D;have aw:=ae a7;have cM:=ae bf;have k1:(0:Int)<=(E:Int):=(by omega);have k2:(E:Int)<=(I:Int):=(by omega);have k3:(E:Int)<=(cp:Int):=(by omega);clear ho X J d D hcut bd a7 bf;subst bF;go_upto_region 8 with fail;go_wp2_with fail;refine CR.o.mono ?_;rintro e w2 ⟨Ad,cd,Af,cf,rfl,O,U,ad⟩;obtain⟨V,al⟩:∃V,V=w2.alloc (.cells #[.int .i64 r.seq,.int .i64 r.ev.thread,.int .i64 r.ev.kind,.int .i64 r.ev.obj,.int .i64 r.ev.value,.int .i64 r.ev.site,.slice Ad r.ev.deps.length cd,.slice Af r.ev.from_.length cf] 54):=⟨_,rfl⟩;have pq:w2.grownBy V none:=(by rw[al];exact aY w2 _ none);have aD:Held V w2.heap.size 54 (recV r Ad r.ev.deps.length cd Af r.ev.from_.length cf):=(by rw[al];exact Held.new _ _ _);have WY:=af ad pq (.inl rfl);have bh:=ae aD;have bO:=ae al;have bR:=ae (ay a8.o WY nofun);have bS:=ae (FI.o.keep WY);have b':=ae (Off.ofOwn O aw.o);have c6:=ae (Lo.ofOwn O ab);have c7:=ae (Lo.ofOwn U ab);have c9:=ae (Off.ofOwn U aw.o);have ca:=ae (((Lies.ofOwn O).grown pq (ax _) nofun).more pq.size);have cb:=ae (((Lies.ofOwn U).grown pq (ax _) nofun).more pq.size);have LV:=ae WY;have cN:wr.heap.size<=w2.heap.size:=ad.size;have cH:w1.heap.size<=V.heap.size:=aP ab WY.size;have cP:=ae aD.lt;clear al aD O U pq WY;go_upto_region 9 with fail;rw[show w2.alloc (.cells #[.int .i64 r.seq,.int .i64 r.ev.thread,.int .i64 r.ev.kind,.int .i64 r.ev.obj,.int .i64 r.ev.value,.int .i64 r.ev.site,.slice Ad r.ev.deps.length cd,.slice Af r.ev.from_.length cf] 54)=V from bO.o.symm];obtain⟨d0,d1,d2,d3,d4,d5,d6,d7⟩:=WZ bh.o;go_wp2_with (at_builtin;refine dM _ rfl (.tmp 44) (.tmp 46) _ rfl w1.heap.size 54 i0 _ 8 96 Tryz.underlying48 HI.o bn.o bo.o bp.o rfl hz _ (Value.slice Av rs.length cv).ownBlock rs.length css rfl (App.own (bR.o.alloc _)) ⟨V.heap.size,0,none⟩ 1 1 (recV r Ad r.ev.deps.length cd Af r.ev.from_.length cf).toList rfl (by omega) rfl (Xa V _ r Ad _ cd Af _ cf) (Xb _ _ _ _ _ _ _) (by unfold maxLen;have:=av.o;omega) (by have:=av.o;omega) (by simp;omega) ?_;intro v4 w4 G an vH;obtain⟨A4,c4,cc,cQ,cR,_,cT⟩:=ai G;have cU:w4.cell? ⟨w2.heap.size,0,none⟩=some (.int .i64 r.seq):=(((bh.o.alloc _).grown an (λe=>by have:=aw.o _ e.symm;omega)).cell 0);subst cc);have aL:wr.grownBy w4 (Value.slice Av rs.length cv).ownBlock:=af (af (fA LV.o _) (aY V _ _) (.inl rfl)) an (.inl rfl);have bj:At wr (Value.slice Av rs.length cv).ownBlock (Value.slice A4 (rs.length+1) c4).ownBlock:=(At.refl wr _).trans vH (by have:=LV.o.size;simp;omega);have bk:=((RowsAt.snoc (cd:=cd) (cf:=cf) (bS.o.keep (aY V (.cells (recV r Ad r.ev.deps.length cd Af r.ev.from_.length cf) 54) none)) ((ca.o.allocAny _).more (aY V _ none).size) ((cb.o.allocAny _).more (aY V _ none).size) b'.o c9.o c6.o c7.o)).grow an vH;have cg:=ae bk;have cj:=ae G;have cm:=ae (WX.o.grown aL ab (λg e=>(a8.o.lt g e).1));have SY:=ae (af hg aL b5);have cn:=ae (b5.trans bj hg.size);clear G bk aL bj an vH;go_roundw
          case rel=>exact ⟨k+1,r.seq,y.drop E,A',I-E,cp-E,rs++[r],_,_,rfl,by go_num,by omega,rfl,rfl,by omega,bN.o,by omega,cm.o,by rw[bG];exact cj.o,cg.o,by rw[bG,av.o];rfl,SY.o,cn.o,bB.o⟩
          case measure=>simp [intOf];omega
        . have cq:=ae (show jQ thread N u=none from by rw[<-FH.o,ba.o,aaw rs (by rw[b9.o];exact aa)]);have cr:(Y !=0)=true:=(by rw[kS];exact aa);clear aa X d D J;go_wp2_with fail;refine CR.o.mono ?_;rintro e w2 ⟨Ad,cd,Af,cf,rfl,O,U,ad⟩;clear O U;go_wp2_with fail;go_ret2;exact sF cq.o (af (af HG.o ad (.inl rfl)) (aY w2 _ none) (.inl rfl))
      . have bl:k=N:=(by omega);have cw:=ae bl;have cx:=ae (show jQ thread N u=if I=0 then some rs else none from by rw[<-FH.o,cw.o,rD,aax,b8.o]);have cy:=ae D;have cz:=ae d;clear bl J D;obtain⟨A5,c5,cA,cC,cD,cF,cG⟩:=ai d;subst cA;clear d cF;go_wp2_with fail;go_ret2;refine⟨A5,rs.length,c5,rs,((I:Int)==0),rfl,(cy.o.recs cz.o rfl (ax _)).lower H.size,HG.o,cC,cD,cG,?_⟩;rw[cx.o];by_cases h0:I=0<;>simp[h0]
   . have bm:((u.length:Int) !=L)=true:=(by rw[kS];exact hlen);have FD:Hid ((if (0:Int)=0/\(u.length:Int)=L then jQ thread N u else none)=none):=ae (if_neg (λhh=>hlen hh.2));rw[FD.o];clear hlen FD;go_enter Tryz.func118,Tryz.ntmps118;go_wp2_with fail;refine CU.o.mono ?_;rintro e w1 ⟨v1,rfl,a,H,mG⟩;obtain⟨A1,c1,aq,CV,aM,Z,ar⟩:=ai a;subst aq;clear a Z;go_wp2_with fail;go_ret2;exact sF rfl H
 . have FD:Hid ((if Y=0/\(u.length:Int)=L then jQ thread N u else none)=none):=ae (if_neg (λhh=>he hh.1));have cr:(Y !=0)=true:=(by rw[kS];exact he);rw[FD.o];clear he FD;go_enter Tryz.func118,Tryz.ntmps118;go_wp2_with fail;refine CU.o.mono ?_;rintro e w1 ⟨v1,rfl,a,H,mG⟩;clear a;go_wp2_with fail;go_ret2;exact sF rfl H
