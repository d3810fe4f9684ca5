/- Words. -/
import Derived.Test.YtfbkkgfkhhibfaaGreatReadR
import Derived.Test.YtfbkkgfkhhibfaaGreatFits
set_option linter.unusedVariables false
set_option maxRecDepth 100000
set_option maxHeartbeats 8000000
namespace Go.Proofs.YtfbkkgfkhhibfaaGreat
open Go Go.RowKit Iv
theorem akZ {w w1 w2:World}(h:Below w.heap.size w w1)(hg:w1.grownBy w2 none):Below w.heap.size w w2:=h.grown hg h.size (λk hk=>by cases hk)
theorem Nz (A:Option Addr)(n c B:Nat)(xs:Bytes)(thread seq:Int)(w:World)(h:Lies w B 1 A n (xs.map bv))(hB:B<=w.heap.size)(hnc:n<=c)(ho:A=none->c=0)(hn:n<=1000000000){r:Rec}{k:Nat}{q:Int}(hg:dO xs thread seq=(r,k,q)):
 Calls Tryz.prog 154 #[.slice A n c,.int .i64 thread,.int .i64 seq] w λe w'=>∃(Ad:Option Addr) (cd:Nat) (Af:Option Addr) (cf:Nat),
  e= .returned (.tuple #[.agg (recV r Ad r.ev.deps.length cd Af r.ev.from_.length cf),.int .i64 (k:Int),.int .i64 q])/\
  w'.ownsRow w.heap.size 3 1 (.slice Ad r.ev.deps.length cd) r.ev.deps.length (r.ev.deps.map iv)/\w'.ownsRow w.heap.size 3 1 (.slice Af r.ev.from_.length cf) r.ev.from_.length (r.ev.from_.map iv)/\w.grownBy w' none:=by refine (VY A n c B xs thread seq w h hB hnc ho hn).mono ?_;rintro e w' ⟨D,E,vf,hr,he,u,hf,a⟩;rw[hg] at hr he;subst hr;obtain⟨Ad,cd,d,_⟩:=ai u;obtain⟨Af,cf,y,_⟩:=ai hf;subst d y;exact⟨Ad,cd,Af,cf,he,u,hf,a⟩
theorem OY (A:Option Addr)(n c B:Nat)(xs:Bytes)(thread seq:Int)(w:World)(h:Lies w B 1 A n (xs.map bv))(hB:B<=w.heap.size)(hnc:n<=c)(ho:A=none->c=0)(hn:n<=1000000000){r:Rec}{k:Nat}{q:Int}(hg:dO xs thread seq=(r,k,q)):
 Calls Tryz.prog 84 #[.slice A n c,.int .i64 thread,.int .i64 seq] w λe w'=>∃(Ad:Option Addr) (cd:Nat) (Af:Option Addr) (cf:Nat),
  e= .returned (.tuple #[.agg (recV r Ad r.ev.deps.length cd Af r.ev.from_.length cf),.int .i64 (k:Int),.int .i64 q])/\
  w'.ownsRow w.heap.size 3 1 (.slice Ad r.ev.deps.length cd) r.ev.deps.length (r.ev.deps.map iv)/\w'.ownsRow w.heap.size 3 1 (.slice Af r.ev.from_.length cf) r.ev.from_.length (r.ev.from_.map iv)/\w.grownBy w' none:=by refine (WY A n c B xs thread seq w h hB hnc ho hn).mono ?_;rintro e w' ⟨D,E,vf,hr,he,u,hf,a⟩;rw[hg] at hr he;subst hr;obtain⟨Ad,cd,d,_⟩:=ai u;obtain⟨Af,cf,y,_⟩:=ai hf;subst d y;exact⟨Ad,cd,Af,cf,he,u,hf,a⟩
theorem QD {W:World}{g:Nat}{T:TypeId}{r:Rec}{Ad:Option Addr}{nd cd:Nat}{Af:Option Addr}{nf cf:Nat}(h:Held W g T (recV r Ad nd cd Af nf cf)):
 W.cell? ⟨g,0,none⟩=some (.int .i64 r.seq)/\W.cell? ⟨g,1,none⟩=some (.int .i64 r.ev.thread)/\W.cell? ⟨g,2,none⟩=some (.int .i64 r.ev.kind)/\W.cell? ⟨g,3,none⟩=some (.int .i64 r.ev.obj)/\
 W.cell? ⟨g,4,none⟩=some (.int .i64 r.ev.value)/\W.cell? ⟨g,5,none⟩=some (.int .i64 r.ev.site)/\W.cell? ⟨g,6,none⟩=some (.slice Ad nd cd)/\W.cell? ⟨g,7,none⟩=some (.slice Af nf cf):=
 ⟨h.cell 0,h.cell 1,h.cell 2,h.cell 3,h.cell 4,h.cell 5,h.cell 6,h.cell 7⟩
end Go.Proofs.YtfbkkgfkhhibfaaGreat
namespace Iv
open Go Go.RowKit
theorem dE {a b:World}(h:a.grownBy b none)(o:Option Nat):a.grownBy b o:=⟨h.os,h.tape,h.output,h.size,λk hk _=>h.block k hk nofun⟩
def Off (o:Option Nat)(A:Option Addr)(n:Nat):Prop:=0<n->∀ad,A=some ad->some ad.block≠o
theorem Off.ofOwn {w:World}{base e sz n c:Nat}{A:Option Addr}{xs:List Value}{o:Option Nat}(h:w.ownsRow base e sz (.slice A n c) n xs)(ho:∀g,o=some g->g<base):Off o A n:=by rintro _ a rfl hb;have:=(h.lt a.block rfl).1;have:=ho _ hb.symm;omega
theorem Lies.grownOff {w w':World}{B sz n:Nat}{A:Option Addr}{xs:List Value}{row:Option Nat}(h:Lies w B sz A n xs)(ho:Off row A n)(hg:w.grownBy w' row)(hB:B<=w.heap.size):Lies w' B sz A n xs:=by refine⟨h.1,λhn=>?_⟩;obtain⟨a,e,hb,hc⟩:=h.2 hn;refine⟨a,e,hb,λj u d=>?_⟩;refine pM (lL (hg.block (a.add j).block ?_ ?_)) (hc j u d);rw[addBlock];omega;rw[addBlock];exact ho hn a e
theorem Off.at_ {w:World}{B sz n:Nat}{A:Option Addr}{xs:List Value}{o o':Option Nat}(ho:Off o A n)(h:Lies w B sz A n xs)(hB:B<=w.heap.size)(d:At w o o'):Off o' A n:=by intro hn q e hb;rcases d with rfl|⟨g,rfl,hge⟩;exact ho hn q e hb;obtain⟨u,a,y,_⟩:=h.2 hn;rw[e] at a;injection a with a;subst a;injection hb with hb;omega
def Lo (lo:Nat)(A:Option Addr)(n:Nat):Prop:=0<n->∀ad,A=some ad->lo<=ad.block
theorem Lo.ofOwn {w:World}{base e sz n c lo:Nat}{A:Option Addr}{xs:List Value}(h:w.ownsRow base e sz (.slice A n c) n xs)(d:lo<=base):Lo lo A n:=by rintro _ a rfl;have:=(h.lt a.block rfl).1;omega
theorem Lo.lower {lo a:Nat}{A:Option Addr}{n:Nat}(h:Lo lo A n)(q:a<=lo):Lo a A n:=λhn d e=>by have:=h hn d e;omega
theorem Lo.off {lo:Nat}{A:Option Addr}{n:Nat}{row:Option Nat}(h:Lo lo A n)(hr:∀g,row=some g->g<lo):Off row A n:=λhn a e hb=>by
 have h1:=h hn a e
 have h2:=hr _ hb.symm
 omega
end Iv
namespace Go.Proofs.YtfbkkgfkhhibfaaGreat
open Go Go.RowKit Iv
theorem sV:(Tryz.prog.info? 54).map (λi=>(i.zero,i.size,i.bytes))=some (some (.agg #[.int .i64 0,.int .i64 0,.int .i64 0,.int .i64 0,.int .i64 0,.int .i64 0,.slice none 0 0,.slice none 0 0]),8,96):=by kernel_rfl
structure RowRec (w:World)(lo:Nat)(o:Option Nat)(css:List Value)(k:Nat)(r:Rec)(Ad:Option Addr)(nd cd:Nat)(Af:Option Addr)(nf cf:Nat):Prop where
 cells:∀j u,(recV r Ad nd cd Af nf cf)[j]?=some u->css[k*8+j]?=some u
 ld:Lies w w.heap.size 1 Ad nd (r.ev.deps.map iv)
 lf:Lies w w.heap.size 1 Af nf (r.ev.from_.map iv)
 od:Off o Ad nd
 of_:Off o Af nf
 lod:Lo lo Ad nd
 lof:Lo lo Af nf
def RowsAt (w:World)(lo:Nat)(o:Option Nat)(css:List Value)(rs:List Rec):Prop:=
 css.length=rs.length*8/\∀k r,rs[k]?=some r->∃(Ad:Option Addr) (nd cd:Nat) (Af:Option Addr) (nf cf:Nat),RowRec w lo o css k r Ad nd cd Af nf cf
theorem RowsAt.nil (w:World)(lo:Nat)(o:Option Nat):RowsAt w lo o [] []:=⟨rfl,λk r hr=>by simp at hr⟩
theorem RowRec.grow {w w':World}{lo:Nat}{o o':Option Nat}{css:List Value}{k:Nat}{r:Rec}{Ad:Option Addr}{nd cd:Nat}{Af:Option Addr}{nf cf:Nat}(h:RowRec w lo o css k r Ad nd cd Af nf cf)(hg:w.grownBy w' o)(a:At w o o'):RowRec w' lo o' css k r Ad nd cd Af nf cf:=
 ⟨h.cells,(h.ld.grownOff h.od hg (ak _)).more hg.size,(h.lf.grownOff h.of_ hg (ak _)).more hg.size,h.od.at_ h.ld (ak _) a,h.of_.at_ h.lf (ak _) a,h.lod,h.lof⟩
theorem RowsAt.grow {w w':World}{lo:Nat}{o o':Option Nat}{css:List Value}{rs:List Rec}(h:RowsAt w lo o css rs)(hg:w.grownBy w' o)(a:At w o o'):RowsAt w' lo o' css rs:=
 ⟨h.1,λk r hr=>by
  obtain⟨Ad,nd,cd,Af,nf,cf,q⟩:=h.2 k r hr
  exact⟨Ad,nd,cd,Af,nf,cf,q.grow hg a⟩⟩
theorem RowsAt.keep {w w':World}{lo:Nat}{o:Option Nat}{css:List Value}{rs:List Rec}(h:RowsAt w lo o css rs)(hg:w.grownBy w' none):RowsAt w' lo o css rs:=
 ⟨h.1,λk r hr=>by
  obtain⟨Ad,nd,cd,Af,nf,cf,q⟩:=h.2 k r hr
  exact⟨Ad,nd,cd,Af,nf,cf,q.cells,(q.ld.grown hg (ak _) nofun).more hg.size,(q.lf.grown hg (ak _) nofun).more hg.size,q.od,q.of_,q.lod,q.lof⟩⟩
theorem RowsAt.snoc {w:World}{lo:Nat}{o:Option Nat}{css:List Value}{rs:List Rec}(h:RowsAt w lo o css rs){r:Rec}{Ad:Option Addr}{nd cd:Nat}{Af:Option Addr}{nf cf:Nat}
 (h1:Lies w w.heap.size 1 Ad nd (r.ev.deps.map iv)) (h2:Lies w w.heap.size 1 Af nf (r.ev.from_.map iv)) (h3:Off o Ad nd) (h4:Off o Af nf) (h5:Lo lo Ad nd) (D:Lo lo Af nf):RowsAt w lo o (css++(recV r Ad nd cd Af nf cf).toList) (rs++[r]):=by refine⟨by rw[aY,h.1,aY];unfold recV;simp[jM],λk q a=>?_⟩;by_cases hk:k<rs.length;rw[jO hk] at a;obtain⟨E,G,H,I,J,d,z⟩:=h.2 k q a;refine⟨E,G,H,I,J,d,λj u y=>?_,z.ld,z.lf,z.od,z.of_,z.lod,z.lof⟩;have:=z.cells j u y;rw[jO (dD.1 this).1];exact this;have L:k<rs.length+1:=(by have:=(dD.1 a).1;simpa using this);have B:k=rs.length:=(by omega);subst B;rw[jP (ak _),qm] at a;simp only[oJ,gV] at a;subst a;refine⟨Ad,nd,cd,Af,nf,cf,λj u y=>?_,h1,h2,h3,h4,h5,D⟩;rw[jP (by rw[h.1];omega),h.1,Jz];simpa using y
structure RecN (w:World)(lo b o:Nat)(r:Rec)(Ad:Option Addr)(nd cd:Nat)(Af:Option Addr)(nf cf:Nat):Prop where
 lob:lo<=b
 hib:b<w.heap.size
 cells:∀j u,(recV r Ad nd cd Af nf cf)[j]?=some u->w.cell? ⟨b,o+j,none⟩=some u
 ld:Lies w w.heap.size 1 Ad nd (r.ev.deps.map iv)
 lf:Lies w w.heap.size 1 Af nf (r.ev.from_.map iv)
 lod:Lo lo Ad nd
 lof:Lo lo Af nf
def RecsNew (w:World)(lo:Nat)(A:Option Addr)(n:Nat)(rs:List Rec):Prop:=
 rs.length=n/\∀k r,rs[k]?=some r->∃(b o:Nat) (Ad:Option Addr) (nd cd:Nat) (Af:Option Addr) (nf cf:Nat),A=some ⟨b,o,none⟩/\RecN w lo b (o+k*8) r Ad nd cd Af nf cf
theorem RecsNew.nil (w:World)(lo:Nat)(A:Option Addr):RecsNew w lo A 0 []:=⟨rfl,λk r hr=>by simp at hr⟩
theorem RecsNew.recs {w:World}{lo n:Nat}{A:Option Addr}{rs:List Rec}(h:RecsNew w lo A n rs):Recs w w.heap.size A n rs:=
 ⟨h.1,λk r hr=>by
  obtain⟨b,o,Ad,nd,cd,Af,nf,cf,e,q⟩:=h.2 k r hr
  exact⟨b,o,Ad,nd,cd,Af,nf,cf,e,q.hib,q.cells,q.ld,q.lf⟩⟩
theorem RecsNew.lower {w:World}{lo a n:Nat}{A:Option Addr}{rs:List Rec}(h:RecsNew w lo A n rs)(d:a<=lo):RecsNew w a A n rs:=
 ⟨h.1,λk r hr=>by
  obtain⟨b,o,Ad,nd,cd,Af,nf,cf,e,q⟩:=h.2 k r hr
  exact⟨b,o,Ad,nd,cd,Af,nf,cf,e,aG d q.lob,q.hib,q.cells,q.ld,q.lf,q.lod.lower d,q.lof.lower d⟩⟩
theorem RecsNew.keep {w w':World}{lo n:Nat}{A:Option Addr}{rs:List Rec}{row:Option Nat}(h:RecsNew w lo A n rs)(hg:w.grownBy w' row)(hr:∀g,row=some g->g<lo):RecsNew w' lo A n rs:=
 ⟨h.1,λk r hk=>by
  obtain⟨b,o,Ad,nd,cd,Af,nf,cf,e,q⟩:=h.2 k r hk
  refine⟨b,o,Ad,nd,cd,Af,nf,cf,e,q.lob,oM q.hib hg.size,λj u a=>?_,(q.ld.grownOff (q.lod.off hr) hg (ak _)).more hg.size,(q.lf.grownOff (q.lof.off hr) hg (ak _)).more hg.size,q.lod,q.lof⟩
  refine pM (lL (hg.block b q.hib (λe=>?_))) (q.cells j u a)
  have h1:=hr _ e.symm
  have h2:=q.lob
  omega⟩
theorem RowsAt.recs {w:World}{lo base e c n:Nat}{A:Option Addr}{css:List Value}{rs:List Rec}(h:RowsAt w lo (Value.slice A n c).ownBlock css rs)(ho:w.ownsRow base e 8 (.slice A n c) n css)(hn:n=rs.length)(a:lo<=base):RecsNew w lo A n rs:=by refine⟨hn.symm,λk r hr=>?_⟩;have hk:k<n:=(by rw[hn];exact (dD.1 hr).1);obtain⟨g,cap,B,D,d⟩:=ho.form (by omega);have y:=(ho.lt g (by rw[B];rfl)).1;injection B with E;subst E;obtain⟨Ad,nd,cd,Af,nf,cf,q⟩:=h.2 k r hr;refine⟨g,0,Ad,nd,cd,Af,nf,cf,rfl,aG a y,d,λj u G=>?_,q.ld,q.lf,q.lod,q.lof⟩;have:=ho.cells (g:=g) rfl (k*8+j) u (q.cells j u G);rw[eX];have e0:(⟨g,0,none⟩:Addr).add (k*8+j)=⟨g,k*8+j,none⟩:=(by unfold Addr.add;split<;>simp_all);rwa [e0] at this
theorem NF (r:Rec)(Ad:Option Addr)(nd cd:Nat)(Af:Option Addr)(nf cf:Nat):∀u∈(recV r Ad nd cd Af nf cf).toList,u.oneCell'=true:=by intro u a;unfold recV at a;simp only[fV,lX,or_false] at a;rcases a with rfl|rfl|rfl|rfl|rfl|rfl|rfl|rfl<;>rfl
theorem ND (W:World)(t:TypeId)(r:Rec)(Ad:Option Addr)(nd cd:Nat)(Af:Option Addr)(nf cf:Nat):∀j u,(recV r Ad nd cd Af nf cf).toList[j]?=some u->(W.alloc (.cells (recV r Ad nd cd Af nf cf) t)).cell? ((⟨W.heap.size,0,none⟩:Addr).add j)=some u:=by intro j u a;have e0:(⟨W.heap.size,0,none⟩:Addr).add j=⟨W.heap.size,j,none⟩:=(by unfold Addr.add;split<;>simp_all);rw[e0,(Held.new W t _).cell j];simpa using a
def BufAt (w:World)(B:Nat)(css:List Value)(rs:List Rec):Prop:=
 css.length=rs.length*8/\∀k r,rs[k]?=some r->∃(Ad:Option Addr) (nd cd:Nat) (Af:Option Addr) (nf cf:Nat),(∀j u,(recV r Ad nd cd Af nf cf)[j]?=some u->css[k*8+j]?=some u)/\Lies w B 1 Ad nd (r.ev.deps.map iv)/\Lies w B 1 Af nf (r.ev.from_.map iv)
theorem BufAt.nil (w:World)(B:Nat):BufAt w B [] []:=⟨rfl,λk r hr=>by simp at hr⟩
theorem BufAt.grow {w w':World}{B:Nat}{css:List Value}{rs:List Rec}{row:Option Nat}(h:BufAt w B css rs)(hg:w.grownBy w' row)(hB:B<=w.heap.size)(hr:∀g,row=some g->B<=g):BufAt w' B css rs:=
 ⟨h.1,λk r hk=>by
  obtain⟨Ad,nd,cd,Af,nf,cf,a,d,q⟩:=h.2 k r hk
  exact⟨Ad,nd,cd,Af,nf,cf,a,d.grown hg hB hr,q.grown hg hB hr⟩⟩
theorem BufAt.snoc {w:World}{B:Nat}{css:List Value}{rs:List Rec}(h:BufAt w B css rs){r:Rec}{Ad:Option Addr}{nd cd:Nat}{Af:Option Addr}{nf cf:Nat}
 (h1:Lies w B 1 Ad nd (r.ev.deps.map iv)) (h2:Lies w B 1 Af nf (r.ev.from_.map iv)):BufAt w B (css++(recV r Ad nd cd Af nf cf).toList) (rs++[r]):=by refine⟨by rw[aY,h.1,aY];unfold recV;simp[jM],λk q a=>?_⟩;by_cases hk:k<rs.length;rw[jO hk] at a;obtain⟨E,G,H,I,J,d,L,M,z3⟩:=h.2 k q a;refine⟨E,G,H,I,J,d,λj u y=>?_,M,z3⟩;have:=L j u y;rw[jO (dD.1 this).1];exact this;have N:k<rs.length+1:=(by have:=(dD.1 a).1;simpa using this);have D:k=rs.length:=(by omega);subst D;rw[jP (ak _),qm] at a;simp only[oJ,gV] at a;subst a;refine⟨Ad,nd,cd,Af,nf,cf,λj u y=>?_,h1,h2⟩;rw[jP (by rw[h.1];omega),h.1,Jz];simpa using y
theorem BufAt.recs {w:World}{base e c n B:Nat}{A:Option Addr}{css:List Value}{rs:List Rec}(h:BufAt w B css rs)(ho:w.ownsRow base e 8 (.slice A n c) n css)(hn:n=rs.length)(hB:B<=w.heap.size):Recs w w.heap.size A n rs:=by refine⟨hn.symm,λk r hr=>?_⟩;have hk:k<n:=(by rw[hn];exact (dD.1 hr).1);obtain⟨g,cap,d,q,a⟩:=ho.form (by omega);injection d with y;subst y;obtain⟨Ad,nd,cd,Af,nf,cf,D,E,G⟩:=h.2 k r hr;refine⟨g,0,Ad,nd,cd,Af,nf,cf,rfl,a,λj u H=>?_,E.more hB,G.more hB⟩;have:=ho.cells (g:=g) rfl (k*8+j) u (D j u H);rw[eX];have e0:(⟨g,0,none⟩:Addr).add (k*8+j)=⟨g,k*8+j,none⟩:=(by unfold Addr.add;split<;>simp_all);rwa [e0] at this
def fam (thr:Nat)(f:Nat->Value):Array Value:=((List.range thr).map f).toArray
theorem gI {thr t:Nat}(f:Nat->Value)(a:t<thr):(fam thr f)[t]?=some (f t):=by simp[fam,a]
theorem Di {thr t:Nat}(f:Nat->Value)(v:Value):(fam thr f).setIfInBounds t v=fam thr (upd f t v):=by unfold fam;apply DD;simp;intro i h1 h2;simp only[aaZ,AP,iG,List.length_range] at h1;rw[Array.getElem_setIfInBounds (by simpa using h1)];by_cases hi:t=i;subst hi;simp[upd];have:i≠t:=λe=>hi e.symm;simp[hi,upd,this]
theorem abl {α β:Type}(g:α->β)(f:Nat->α)(t:Nat)(x:α):(λk=>g (upd f t x k))=upd (λk=>g (f k)) t (g x):=by funext k;unfold upd;split<;>rfl
structure RM (base B thr gB gW gF:Nat)(s:St)(vb vf:Nat->Value)(css:Nat->List Value)(wr:World):Prop where
 hB:Held wr gB 48 (fam thr vb)
 hW:Held wr gW 3 (fam thr λt=> .int .i64 (s.first t))
 hF:Held wr gF 22 (fam thr vf)
 ob:∀t,t<thr->wr.ownsRow base 54 8 (vb t) (s.buf t).length (css t)
 oc:∀t,t<thr->BufAt wr B (css t) (s.buf t)
 of_:∀t,t<thr->wr.ownsRow base 5 1 (vf t) (s.file t).length ((s.file t).map bv)
 abb:∀t k,t<thr->k<thr->t≠k->Apart (vb t) (vb k)
 aff:∀t k,t<thr->k<thr->t≠k->Apart (vf t) (vf k)
 abf:∀t k,t<thr->k<thr->Apart (vb t) (vf k)
 lt:gB<base/\gW<base/\gF<base
 ge:B<=gB/\B<=gW/\B<=gF
 ne:gB≠gW/\gB≠gF/\gW≠gF
 bs:base<=wr.heap.size
section
variable {base B thr gB gW gF : Nat} {s : St} {vb vf : Nat -> Value} {css : Nat -> List Value} {wr w1 : World}
theorem RM.keep (h:RM base B thr gB gW gF s vb vf css wr)(hg:wr.grownBy w1 none):RM base B thr gB gW gF s vb vf css w1:=
 ⟨h.hB.grown hg nofun,h.hW.grown hg nofun,h.hF.grown hg nofun,λt a=>ax (h.ob t a) hg nofun,λt a=>(h.oc t a).grow hg (by have:=h.bs;have:=h.lt;have:=h.ge;omega) nofun,
  λt a=>ax (h.of_ t a) hg nofun,h.abb,h.aff,h.abf,h.lt,h.ge,h.ne,aG h.bs hg.size⟩
theorem jg {e sz n g:Nat}{v:Value}{xs:List Value}(h:wr.ownsRow base e sz v n xs)(hg:g<base):v.ownBlock≠some g:=by intro a;have:=(h.lt g a).1;omega
theorem RM.setB (h:RM base B thr gB gW gF s vb vf css wr){t:Nat}(E:t<thr){v:Value}{xs:List Value}{rs:List Rec}(ho:w1.ownsRow base 54 8 v rs.length xs)(hc:BufAt w1 B xs rs)(hg:wr.grownBy w1 (vb t).ownBlock)
 (a1:∀k,k<thr->k≠t->Apart v (vb k)) (a2:∀k,k<thr->Apart v (vf k)):
 RM base B thr gB gW gF ⟨upd s.buf t rs,s.first,s.file⟩ (upd vb t v) vf (upd css t xs) (w1.setCell ⟨gB,t,none⟩ v):=by obtain⟨l1,l2,l3⟩:=h.lt;obtain⟨e1,M,N⟩:=h.ge;obtain⟨n1,n2,n3⟩:=h.ne;have G:=h.bs;have own:=h.ob t E;have H:=h.hB.grown hg (λe=>jg own l1 e.symm);have I:=h.hW.grown hg (λe=>jg own l2 e.symm);have J:=h.hF.grown hg (λe=>jg own l3 e.symm);have D:=ag w1 gB t v;have L:base<=w1.heap.size:=aG G hg.size;refine⟨?_,I.far (p:=⟨gB,t,none⟩) (λe=>n1 e.symm) v,J.far (p:=⟨gB,t,none⟩) (λe=>n2 e.symm) v,λk hk=>?_,λk hk=>?_,λk hk=>?_,λa k ha hk y=>?_,h.aff,λa k ha hk=>?_,h.lt,h.ge,h.ne,aG L D.size⟩;have:=H.store t v;rw[Di] at this;exact this;by_cases q:k=t;subst q;simp only[bV];exact ax ho D (λg u e=>jg ho l1 (by rw[u,e]));simp only[bu _ _ q];exact ax (ax (h.ob k hk) hg (λg u e=>h.abb k t hk E q g u e)) D (λg u e=>jg (h.ob k hk) l1 (by rw[u,e]));by_cases q:k=t;subst q;simp only[bV];exact hc.grow D (by omega) (λg e=>by injection e with e;omega);simp only[bu _ _ q];exact ((h.oc k hk).grow hg (by omega) (λg e=>by have:=(own.lt g e).1;omega)).grow D (by omega) (λg e=>by injection e with e;omega);exact ax (ax (h.of_ k hk) hg (λg u e=>(h.abf t k E hk).symm g u e)) D (λg u e=>jg (h.of_ k hk) l1 (by rw[u,e]));by_cases d:a=t;subst d;simp only[bV,bu _ _ (λe=>y e.symm)];exact a1 k hk (λe=>y e.symm);by_cases q:k=t;subst q;simp only[bV,bu _ _ d];exact (a1 a ha d).symm;simp only[bu _ _ d,bu _ _ q];exact h.abb a k ha hk y;by_cases d:a=t;subst d;simp only[bV];exact a2 k hk;simp only[bu _ _ d];exact h.abf a k ha hk
theorem RM.grewB (h:RM base B thr gB gW gF s vb vf css wr){t:Nat}(d:t<thr){v:Value}{xs:List Value}{rs:List Rec}(ho:w1.ownsRow base 54 8 v rs.length xs)(hc:BufAt w1 B xs rs)(hg:wr.grownBy w1 (vb t).ownBlock)(a:At wr (vb t).ownBlock v.ownBlock):
 RM base B thr gB gW gF ⟨upd s.buf t rs,s.first,s.file⟩ (upd vb t v) vf (upd css t xs) (w1.setCell ⟨gB,t,none⟩ v):=
 h.setB d ho hc hg (λk hk q=>(h.abb t k d hk (λe=>q e.symm)).step (h.ob k hk) a) (λk hk=>(h.abf t k d hk).step (h.of_ k hk) a)
theorem RM.clearB (h:RM base B thr gB gW gF s vb vf css wr){t:Nat}(a:t<thr):
 RM base B thr gB gW gF ⟨upd s.buf t [],s.first,s.file⟩ (upd vb t (.slice none 0 0)) vf (upd css t []) (wr.setCell ⟨gB,t,none⟩ (.slice none 0 0)):=
 h.setB a (dw _ _ _ _) (BufAt.nil _ _) (aW wr _) (λk _ _=>(Apart.nil _).symm) (λk _=>(Apart.nil _).symm)
theorem RM.setF (h:RM base B thr gB gW gF s vb vf css wr){t:Nat}(E:t<thr){v:Value}{ys:Bytes}(ho:w1.ownsRow base 5 1 v ys.length (ys.map bv))(hg:wr.grownBy w1 (vf t).ownBlock)
 (a1:∀k,k<thr->k≠t->Apart v (vf k)) (a2:∀k,k<thr->Apart (vb k) v):
 RM base B thr gB gW gF ⟨s.buf,s.first,upd s.file t ys⟩ vb (upd vf t v) css (w1.setCell ⟨gF,t,none⟩ v):=by obtain⟨l1,l2,l3⟩:=h.lt;obtain⟨e1,M,N⟩:=h.ge;obtain⟨n1,n2,n3⟩:=h.ne;have G:=h.bs;have own:=h.of_ t E;have H:=h.hB.grown hg (λe=>jg own l1 e.symm);have I:=h.hW.grown hg (λe=>jg own l2 e.symm);have J:=h.hF.grown hg (λe=>jg own l3 e.symm);have D:=ag w1 gF t v;have L:base<=w1.heap.size:=aG G hg.size;refine⟨H.far (p:=⟨gF,t,none⟩) n2 v,I.far (p:=⟨gF,t,none⟩) n3 v,?_,λk hk=>?_,λk hk=>?_,λk hk=>?_,h.abb,λa k ha hk y=>?_,λa k ha hk=>?_,h.lt,h.ge,h.ne,aG L D.size⟩;have:=J.store t v;rw[Di] at this;exact this;exact ax (ax (h.ob k hk) hg (λg u e=>h.abf k t hk E g u e)) D (λg u e=>jg (h.ob k hk) l3 (by rw[u,e]));exact ((h.oc k hk).grow hg (by omega) (λg e=>by have:=(own.lt g e).1;omega)).grow D (by omega) (λg e=>by injection e with e;omega);by_cases d:k=t;subst d;simp only[bV];exact ax ho D (λg u e=>jg ho l3 (by rw[u,e]));simp only[bu _ _ d];exact ax (ax (h.of_ k hk) hg (λg u e=>h.aff k t hk E d g u e)) D (λg u e=>jg (h.of_ k hk) l3 (by rw[u,e]));by_cases q:a=t;subst q;simp only[bV,bu _ _ (λe=>y e.symm)];exact a1 k hk (λe=>y e.symm);by_cases d:k=t;subst d;simp only[bV,bu _ _ q];exact (a1 a ha q).symm;simp only[bu _ _ q,bu _ _ d];exact h.aff a k ha hk y;by_cases d:k=t;subst d;simp only[bV];exact a2 a ha;simp only[bu _ _ d];exact h.abf a k ha hk
theorem RM.setW (h:RM base B thr gB gW gF s vb vf css wr){t:Nat}(x:Int):
 RM base B thr gB gW gF ⟨s.buf,upd s.first t x,s.file⟩ vb vf css (wr.setCell ⟨gW,t,none⟩ (.int .i64 x)):=by
 obtain⟨l1,l2,l3⟩:=h.lt;obtain⟨e1,u,y⟩:=h.ge;obtain⟨n1,n2,n3⟩:=h.ne;have d:=h.bs;have a:=ag wr gW t (.int .i64 x)
 refine⟨h.hB.far (p:=⟨gW,t,none⟩) n1 _,?_,h.hF.far (p:=⟨gW,t,none⟩) (λe=>n3 e.symm) _,λk hk=>ax (h.ob k hk) a (λg q e=>jg (h.ob k hk) l2 (by rw[q,e])),λk hk=>(h.oc k hk).grow a (by omega) (λg e=>by injection e with e;omega),
  λk hk=>ax (h.of_ k hk) a (λg q e=>jg (h.of_ k hk) l2 (by rw[q,e])),h.abb,h.aff,h.abf,h.lt,h.ge,h.ne,aG d a.size⟩
 have:=h.hW.store t (.int .i64 x);rw[Di] at this;have e:(λk=>Value.int .i64 (upd s.first t x k))=upd (λk=>Value.int .i64 (s.first k)) t (.int .i64 x):=abl (Value.int .i64) s.first t x;show Held _ gW _ (fam thr λk=>Value.int .i64 (upd s.first t x k));rw[e];exact this
end
def iF (rs:List Rec):Option (List Rec×Bytes)->Option (List Rec)
 |some (l,[])=>some (rs++l)
 |_=>none
def fA (thread:Int)(N:Nat)(ps:Bytes):Option (List Rec):=iF [] (eP thread N (-1) ps)
theorem Nw {thread seq:Int}{m k:Nat}{d:Bytes}{r:Rec}(rs:List Rec)(h:dO d thread seq=(r,k,0)):iF rs (eP thread (m+1) seq d)=iF (rs++[r]) (eP thread m r.seq (d.drop k)):=by
 rw[eP,h];simp only[qM]
 cases eP thread m r.seq (d.drop k) with
 |none=>rfl
 |
  some p=>
  obtain⟨l,t⟩:=p
  cases t with
  |nil=>simp [iF]
  |cons a b=>rfl
theorem UA {thread seq:Int}{m:Nat}{a:Bytes}(rs:List Rec)(h:(dO a thread seq).2.2≠0):iF rs (eP thread (m+1) seq a)=none:=by rw[eP,if_neg h];rfl
theorem UB {thread seq:Int}{d:Bytes}(rs:List Rec):iF rs (eP thread 0 seq d)=if d.length=0 then some rs else none:=by
 cases d with
 |nil=>simp [eP,iF]
 |cons a b=>simp [eP,iF]
def Jm (w:World)(res:Option (List Rec))(e:Ending)(w':World):Prop:=
 ∃(A:Option Addr) (n c:Nat) (rs:List Rec) (ok:Bool),e= .returned (.tuple #[.slice A n c,.bool ok])/\RecsNew w' w.heap.size A n rs/\w.grownBy w' none/\n<=c/\c<=maxLen/\(A=none->c=0)/\res=(if ok then some rs else none)
theorem oK {w w':World}{res:Option (List Rec)}(hr:res=none)(hg:w.grownBy w' none):Jm w res (.returned (.tuple #[.slice none 0 0,.bool false])) w':=
 ⟨none,0,0,[],false,rfl,RecsNew.nil _ _ _,hg,ak _,ay _,λ_=>rfl,hr⟩
theorem BO (A:Option Addr)(n c B:Nat)(xs:Bytes)(L:Int)(N:Nat)(thread:Int)(w:World)(h:Lies w B 1 A n (xs.map bv))(hB:B<=w.heap.size)(hnc:n<=c)(hn:n<=2000000)(hN:N<=1000000)(ht:inI64 thread):
 Calls Tryz.prog 118 #[.slice A n c,.int .i64 L,.int .i64 (N:Int),.int .i64 thread] w
  (Jm w (if (unpack xs L).2=0/\((unpack xs L).1.length:Int)=L then fA thread N (unpack xs L).1 else none)):=by
 have CU:=ae (Ny A n c B xs L w h hB hnc (by omega) w.heap.size (ak _));have ab:=DN xs L;rw[h.lenB] at ab;obtain⟨q,U,hu⟩:∃q U,unpack xs L=(q,U):=⟨_,_,rfl⟩;rw[hu] at CU ab|-;dsimp only at ab|-;have HT:=ae ht;clear hu h ht;by_cases he:U=0
 . subst he;by_cases hlen:(q.length:Int)=L
   . have b3:((q.length:Int) !=L)=false:=(by rw[rU];exact hlen);have zg:Hid ((if (0:Int)=0/\(q.length:Int)=L then fA thread N q else none)=fA thread N q):=ae (if_pos ⟨rfl,hlen⟩);rw[zg.o];obtain⟨i0,hi,aq,ar,av⟩:=info_parts sV;have HI:=ae hi;have b4:=ae aq;have b5:=ae ar;have b6:=ae av;have hz:(0:Nat)<8:=(by omega);clear hi aq ar av hlen zg;go_enter Tryz.func118,Tryz.ntmps118;go_wp2_with fail;refine CU.o.mono ?_;rintro e w1 ⟨v1,rfl,a,G,lT⟩;obtain⟨A1,c1,ad,Gp,ao,V,al⟩:=ai a;subst ad;have b8:=ae V;have F5:=ae al;have VH:=ae Gp;clear a V al;go_wp2_with fail
     go_loopw [10,12,13,32] (λpv lv sv iv wr=>∃(k:Nat) (seq:Int) (u:Bytes) (Ap:Option Addr) (H cp:Nat) (rs:List Rec) (css:List Value) (vv:Value),vv=lv/\iv= .int .i64 (k:Int)/\k<=N/\sv= .int .i64 seq/\pv= .slice Ap H cp/\H<=cp/\(Ap=none->cp=0)/\H<=260000000/\
      Lies wr w1.heap.size 1 Ap H (u.map bv)/\wr.ownsRow w1.heap.size 54 8 vv rs.length css/\RowsAt wr w1.heap.size vv.ownBlock css rs/\rs.length=k/\w1.grownBy wr none/\At w1 none vv.ownBlock/\iF rs (eP thread (N-k) seq u)=fA thread N q) (λ_ _ _ iv _=>N-(intOf iv).toNat)
     case atStart=>exact ⟨0,-1,q,A1,q.length,c1,[],[],_,rfl,rfl,ay _,rfl,rfl,VH.o,F5.o,by omega,b8.o,dw _ _ _ _,RowsAt.nil _ _ _,rfl,aW w1 none,.inl rfl,rfl⟩
     case round=>
      obtain⟨k,seq,u,Ap,H,cp,rs,css,vv,rfl,rfl,hk,rfl,rfl,UC,aw,b',I,d,y,aD,hg,aL,a6⟩:=hrel;have pJ:=ae a6;have aM:=ae aw;have b9:=ae I;have VI:=ae aD;have aR:=ae I.lenB;have HG:=ae (af G hg (.inl rfl));clear a6 aw aD;by_cases c6:k<N
      . obtain⟨r,D,U,R⟩:∃r D U,dO u thread seq=(r,D,U):=⟨_,_,_,rfl⟩;have CR:=ae (Nz Ap H cp w1.heap.size u thread seq wr b9.o hg.size UC aM.o (by omega) R);unfold recV at CR;have Hq:=ae R;have Yj:Hid (N-k=(N-(k+1))+1):=ae (by omega);by_cases X:U=0
        . subst X;have ho:=sW HT.o R;have ba:D<=H:=(by rw[<-aR.o];exact ho.2.2.2.2.1);have bc:=ae (show iF (rs++[r]) (eP thread (N-(k+1)) r.seq (u.drop D))=fA thread N q from by rw[<-pJ.o,Yj.o,Nw rs Hq.o]);obtain⟨A',b0⟩:∃A',(if cp=D then Ap else Ap.map λx=>x.add D)=A':=⟨_,rfl⟩;have hcut:Lies wr w1.heap.size 1 A' (H-D) ((u.drop D).map bv):=by
           have:=I.dropIf ba UC;rw[iY,<-oL,b0] at this;exact this
          have NC:A'=none->cp-D=0:=(by intro e0;rw[<-b0] at e0;split at e0;omega;simp only[QC] at e0;have:=aM.o e0;omega);obtain⟨Av,cv,bd,c7,c9,_,Yk⟩:=ai d;have a7:∀g,vv.ownBlock=some g->g<wr.heap.size:=λg e=>(d.lt g e).2;have Jn:w1.heap.size<=wr.heap.size:=hg.size;have Jo:=ae hcut;have bf:=ae NC;have a8:=ae d;have lC:=ae y;have DT:=ae a7;have ca:=ae Yk;have k1:(0:Int)<=(D:Int):=(by omega);have k2:(D:Int)<=(H:Int):=(by omega);have k3:(D:Int)<=(cp:Int):=(by omega);clear ho R I d y hcut NC a7 Yk;subst bd;go_upto_region 8 with fail;go_wp2_with fail;refine CR.o.mono ?_;rintro e w2 ⟨Ad,cd,Af,cf,rfl,J,M,Y⟩;obtain⟨O,Z⟩:∃O,O=w2.alloc (.cells #[.int .i64 r.seq,.int .i64 r.ev.thread,.int .i64 r.ev.kind,.int .i64 r.ev.obj,.int .i64 r.ev.value,.int .i64 r.ev.site,.slice Ad r.ev.deps.length cd,.slice Af r.ev.from_.length cf] 54):=⟨_,rfl⟩;have jI:w2.grownBy O none:=(by rw[Z];exact aP w2 _ none);have an:Held O w2.heap.size 54 (recV r Ad r.ev.deps.length cd Af r.ev.from_.length cf):=(by rw[Z];exact Held.new _ _ _);have wY:=af Y jI (.inl rfl);have b1:=ae an;have bh:=ae Z;have Yl:=ae (ax a8.o wY nofun);have bj:=ae (lC.o.keep wY);have bk:=ae (Off.ofOwn J DT.o);have bl:=ae (Lo.ofOwn J Jn);have bm:=ae (Lo.ofOwn M Jn);have Ym:=ae (Off.ofOwn M DT.o);have bn:=ae (((Lies.ofOwn J).grown jI (ak _) nofun).more jI.size);have bo:=ae (((Lies.ofOwn M).grown jI (ak _) nofun).more jI.size);have sZ:=ae wY;have cb:wr.heap.size<=w2.heap.size:=Y.size;have bS:w1.heap.size<=O.heap.size:=aG Jn wY.size;have Qh:=ae an.lt;clear Z an J M jI wY;go_upto_region 9 with fail;rw[show w2.alloc (.cells #[.int .i64 r.seq,.int .i64 r.ev.thread,.int .i64 r.ev.kind,.int .i64 r.ev.obj,.int .i64 r.ev.value,.int .i64 r.ev.site,.slice Ad r.ev.deps.length cd,.slice Af r.ev.from_.length cf] 54)=O from bh.o.symm];obtain⟨d0,d1,d2,d3,d4,d5,d6,d7⟩:=QD b1.o;go_wp2_with (at_builtin;refine bW _ rfl (.tmp 44) (.tmp 46) _ rfl w1.heap.size 54 i0 _ 8 96 Tryz.underlying48 HI.o b4.o b5.o b6.o rfl hz _ (Value.slice Av rs.length cv).ownBlock rs.length css rfl (App.own (Yl.o.alloc _)) ⟨O.heap.size,0,none⟩ 1 1 (recV r Ad r.ev.deps.length cd Af r.ev.from_.length cf).toList rfl (by omega) rfl (ND O _ r Ad _ cd Af _ cf) (NF _ _ _ _ _ _ _) (by unfold maxLen;have:=VI.o;omega) (by have:=VI.o;omega) (by simp;omega) ?_;intro v4 w4 E aa mX;obtain⟨A4,c4,bp,cc,cg,_,cj⟩:=ai E;have cm:w4.cell? ⟨w2.heap.size,0,none⟩=some (.int .i64 r.seq):=(((b1.o.alloc _).grown aa (λe=>by have:=DT.o _ e.symm;omega)).cell 0);subst bp);have Gq:wr.grownBy w4 (Value.slice Av rs.length cv).ownBlock:=af (af (dE sZ.o _) (aP O _ _) (.inl rfl)) aa (.inl rfl);have NG:At wr (Value.slice Av rs.length cv).ownBlock (Value.slice A4 (rs.length+1) c4).ownBlock:=(At.refl wr _).trans mX (by have:=sZ.o.size;simp;omega);have Yn:=((RowsAt.snoc (cd:=cd) (cf:=cf) (bj.o.keep (aP O (.cells (recV r Ad r.ev.deps.length cd Af r.ev.from_.length cf) 54) none)) ((bn.o.allocAny _).more (aP O _ none).size) ((bo.o.allocAny _).more (aP O _ none).size) bk.o Ym.o bl.o bm.o)).grow aa mX;have Yo:=ae Yn;have Yp:=ae E;have bq:=ae (Jo.o.grown Gq Jn (λg e=>(a8.o.lt g e).1));have Gs:=ae (af hg Gq aL);have br:=ae (aL.trans NG hg.size);clear E Yn Gq NG aa mX;go_roundw
          case rel=>exact ⟨k+1,r.seq,u.drop D,A',H-D,cp-D,rs++[r],_,_,rfl,by go_num,by omega,rfl,rfl,by omega,bf.o,by omega,bq.o,by rw[aY];exact Yp.o,Yo.o,by rw[aY,VI.o];rfl,Gs.o,br.o,bc.o⟩
          case measure=>simp [intOf];omega
        . have Yq:=ae (show fA thread N q=none from by rw[<-pJ.o,Yj.o,UA rs (by rw[Hq.o];exact X)]);have bt:(U !=0)=true:=(by rw[eQ];exact X);clear X R d y I;go_wp2_with fail;refine CR.o.mono ?_;rintro e w2 ⟨Ad,cd,Af,cf,rfl,J,M,Y⟩;clear J M;go_wp2_with fail;go_ret2;exact oK Yq.o (af (af HG.o Y (.inl rfl)) (aP w2 _ none) (.inl rfl))
      . have b2:k=N:=(by omega);have bx:=ae b2;have bB:=ae (show fA thread N q=if H=0 then some rs else none from by rw[<-pJ.o,bx.o,qm,UB,aR.o]);have bF:=ae y;have bN:=ae d;clear b2 I y;obtain⟨A5,c5,bO,Yr,Yt,bR,Yu⟩:=ai d;subst bO;clear d bR;go_wp2_with fail;go_ret2;refine⟨A5,rs.length,c5,rs,((H:Int)==0),rfl,(bF.o.recs bN.o rfl (ak _)).lower G.size,HG.o,Yr,Yt,Yu,?_⟩;rw[bB.o];by_cases h0:H=0<;>simp[h0]
   . have b3:((q.length:Int) !=L)=true:=(by rw[eQ];exact hlen);have zg:Hid ((if (0:Int)=0/\(q.length:Int)=L then fA thread N q else none)=none):=ae (if_neg (λhh=>hlen hh.2));rw[zg.o];clear hlen zg;go_enter Tryz.func118,Tryz.ntmps118;go_wp2_with fail;refine CU.o.mono ?_;rintro e w1 ⟨v1,rfl,a,G,lT⟩;obtain⟨A1,c1,ad,Gp,ao,V,al⟩:=ai a;subst ad;clear a V;go_wp2_with fail;go_ret2;exact oK rfl G
 . have zg:Hid ((if U=0/\(q.length:Int)=L then fA thread N q else none)=none):=ae (if_neg (λhh=>he hh.1));have bt:(U !=0)=true:=(by rw[eQ];exact he);rw[zg.o];clear he zg;go_enter Tryz.func118,Tryz.ntmps118;go_wp2_with fail;refine CU.o.mono ?_;rintro e w1 ⟨v1,rfl,a,G,lT⟩;clear a;go_wp2_with fail;go_ret2;exact oK rfl G
theorem Ll (A:Option Addr)(n c:Nat)(X:Bytes)(N:Nat)(thread:Int)(w:World)(h:Lies w w.heap.size 1 A n (X.map bv))(hnc:n<=c)(ho:A=none->c=0)(hn:n<=260000000)(hN:N<=1000000)(ht:inI64 thread):
 Calls Tryz.prog 50 #[.slice A n c,.int .i64 thread,.int .i64 (N:Int)] w (Jm w (fA thread N X)):=by
 have HT:=ae ht;have av:=ae h;have F5:=ae ho;obtain⟨i0,hi,a6,a7,a8⟩:=info_parts sV;have HI:=ae hi;have aw:=ae a6;have aD:=ae a7;have aL:=ae a8;have hz:(0:Nat)<8:=(by omega);clear hi a6 a7 a8 h ht ho;go_enter Tryz.func50,Tryz.ntmps50;go_wp2_with fail
 go_loopw [0,8,9,10] (λpv lv sv iv wr=>∃(k:Nat) (seq:Int) (d:Bytes) (Y:Option Addr) (B cp:Nat) (rs:List Rec) (css:List Value) (vv:Value),vv=lv/\iv= .int .i64 (k:Int)/\k<=N/\sv= .int .i64 seq/\pv= .slice Y B cp/\B<=cp/\(Y=none->cp=0)/\B<=260000000/\
  Lies wr w.heap.size 1 Y B (d.map bv)/\wr.ownsRow w.heap.size 54 8 vv rs.length css/\RowsAt wr w.heap.size vv.ownBlock css rs/\rs.length=k/\w.grownBy wr none/\At w none vv.ownBlock/\iF rs (eP thread (N-k) seq d)=fA thread N X) (λ_ _ _ iv _=>N-(intOf iv).toNat)
 case atStart=>exact ⟨0,-1,X,A,n,c,[],[],_,rfl,rfl,ay _,rfl,rfl,hnc,F5.o,by omega,av.o,dw _ _ _ _,RowsAt.nil _ _ _,rfl,aW w none,.inl rfl,rfl⟩
 case round=>
  obtain⟨k,seq,d,Y,B,cp,rs,css,vv,rfl,rfl,hk,rfl,rfl,UC,aa,bp,D,a,q,ab,hg,ad,R⟩:=hrel;have pJ:=ae R;have al:=ae aa;have aM:=ae D;have VI:=ae ab;have an:=ae D.lenB;have HG:=ae hg;clear R aa ab;by_cases bq:k<N
  . obtain⟨r,u,er,I⟩:∃r u er,dO d thread seq=(r,u,er):=⟨_,_,_,rfl⟩;have CR:=ae (OY Y B cp w.heap.size d thread seq wr aM.o hg.size UC al.o (by omega) I);unfold recV at CR;have Hq:=ae I;have Yj:Hid (N-k=(N-(k+1))+1):=ae (by omega);by_cases J:er=0
    . subst J;have ho:=sW HT.o I;have aR:u<=B:=(by rw[<-an.o];exact ho.2.2.2.2.1);have b0:=ae (show iF (rs++[r]) (eP thread (N-(k+1)) r.seq (d.drop u))=fA thread N X from by rw[<-pJ.o,Yj.o,Nw rs Hq.o]);obtain⟨A',ao⟩:∃A',(if cp=u then Y else Y.map λx=>x.add u)=A':=⟨_,rfl⟩;have hcut:Lies wr w.heap.size 1 A' (B-u) ((d.drop u).map bv):=by
       have:=D.dropIf aR UC;rw[iY,<-oL,ao] at this;exact this
      have NC:A'=none->cp-u=0:=(by intro e0;rw[<-ao] at e0;split at e0;omega;simp only[QC] at e0;have:=al.o e0;omega);obtain⟨Av,cv,b1,br,bt,_,Yk⟩:=ai a;have U:∀g,vv.ownBlock=some g->g<wr.heap.size:=λg e=>(a.lt g e).2;have Jn:w.heap.size<=wr.heap.size:=hg.size;have Jo:=ae hcut;have b2:=ae NC;have V:=ae a;have lC:=ae q;have DT:=ae U;have bx:=ae Yk;have k1:(0:Int)<=(u:Int):=(by omega);have k2:(u:Int)<=(B:Int):=(by omega);have k3:(u:Int)<=(cp:Int):=(by omega);clear ho I D a q hcut NC U Yk;subst b1;go_upto_region 6 with fail;go_wp2_with fail;refine CR.o.mono ?_;rintro e w2 ⟨Ad,cd,Af,cf,rfl,E,G,L⟩;obtain⟨H,M⟩:∃H,H=w2.alloc (.cells #[.int .i64 r.seq,.int .i64 r.ev.thread,.int .i64 r.ev.kind,.int .i64 r.ev.obj,.int .i64 r.ev.value,.int .i64 r.ev.site,.slice Ad r.ev.deps.length cd,.slice Af r.ev.from_.length cf] 54):=⟨_,rfl⟩;have jI:w2.grownBy H none:=(by rw[M];exact aP w2 _ none);have Z:Held H w2.heap.size 54 (recV r Ad r.ev.deps.length cd Af r.ev.from_.length cf):=(by rw[M];exact Held.new _ _ _);have wY:=af L jI (.inl rfl);have aq:=ae Z;have b3:=ae M;have Yl:=ae (ax V.o wY nofun);have b4:=ae (lC.o.keep wY);have b5:=ae (Off.ofOwn E DT.o);have b6:=ae (Lo.ofOwn E Jn);have b8:=ae (Lo.ofOwn G Jn);have Ym:=ae (Off.ofOwn G DT.o);have b9:=ae (((Lies.ofOwn E).grown jI (ak _) nofun).more jI.size);have ba:=ae (((Lies.ofOwn G).grown jI (ak _) nofun).more jI.size);have sZ:=ae wY;have bB:wr.heap.size<=w2.heap.size:=L.size;have bo:w.heap.size<=H.heap.size:=aG Jn wY.size;have Qh:=ae Z.lt;clear M Z E G jI wY;go_upto_region 7 with fail;rw[show w2.alloc (.cells #[.int .i64 r.seq,.int .i64 r.ev.thread,.int .i64 r.ev.kind,.int .i64 r.ev.obj,.int .i64 r.ev.value,.int .i64 r.ev.site,.slice Ad r.ev.deps.length cd,.slice Af r.ev.from_.length cf] 54)=H from b3.o.symm];obtain⟨d0,d1,d2,d3,d4,d5,d6,d7⟩:=QD aq.o;go_wp2_with (at_builtin;refine bW _ rfl (.tmp 31) (.tmp 33) _ rfl w.heap.size 54 i0 _ 8 96 Tryz.underlying48 HI.o aw.o aD.o aL.o rfl hz _ (Value.slice Av rs.length cv).ownBlock rs.length css rfl (App.own (Yl.o.alloc _)) ⟨H.heap.size,0,none⟩ 1 1 (recV r Ad r.ev.deps.length cd Af r.ev.from_.length cf).toList rfl (by omega) rfl (ND H _ r Ad _ cd Af _ cf) (NF _ _ _ _ _ _ _) (by unfold maxLen;have:=VI.o;omega) (by have:=VI.o;omega) (by simp;omega) ?_;intro v4 w4 y O mX;obtain⟨A4,c4,bc,bF,bN,_,bO⟩:=ai y;have bR:w4.cell? ⟨w2.heap.size,0,none⟩=some (.int .i64 r.seq):=(((aq.o.alloc _).grown O (λe=>by have:=DT.o _ e.symm;omega)).cell 0);subst bc);have Gq:wr.grownBy w4 (Value.slice Av rs.length cv).ownBlock:=af (af (dE sZ.o _) (aP H _ _) (.inl rfl)) O (.inl rfl);have NG:At wr (Value.slice Av rs.length cv).ownBlock (Value.slice A4 (rs.length+1) c4).ownBlock:=(At.refl wr _).trans mX (by have:=sZ.o.size;simp;omega);have Yn:=((RowsAt.snoc (cd:=cd) (cf:=cf) (b4.o.keep (aP H (.cells (recV r Ad r.ev.deps.length cd Af r.ev.from_.length cf) 54) none)) ((b9.o.allocAny _).more (aP H _ none).size) ((ba.o.allocAny _).more (aP H _ none).size) b5.o Ym.o b6.o b8.o)).grow O mX;have Yo:=ae Yn;have Yp:=ae y;have bd:=ae (Jo.o.grown Gq Jn (λg e=>(V.o.lt g e).1));have Gs:=ae (af hg Gq ad);have bf:=ae (ad.trans NG hg.size);clear y Yn Gq NG O mX;go_roundw
      case rel=>exact ⟨k+1,r.seq,d.drop u,A',B-u,cp-u,rs++[r],_,_,rfl,by go_num,by omega,rfl,rfl,by omega,b2.o,by omega,bd.o,by rw[aY];exact Yp.o,Yo.o,by rw[aY,VI.o];rfl,Gs.o,bf.o,b0.o⟩
      case measure=>simp [intOf];omega
    . have Yq:=ae (show fA thread N X=none from by rw[<-pJ.o,Yj.o,UA rs (by rw[Hq.o];exact J)]);have bS:(er !=0)=true:=(by rw[eQ];exact J);clear J I a q D;go_wp2_with fail;refine CR.o.mono ?_;rintro e w2 ⟨Ad,cd,Af,cf,rfl,E,G,L⟩;clear E G;go_wp2_with fail;go_ret2;exact oK Yq.o (af (af HG.o L (.inl rfl)) (aP w2 _ none) (.inl rfl))
  . have ar:k=N:=(by omega);have bh:=ae ar;have bj:=ae (show fA thread N X=if B=0 then some rs else none from by rw[<-pJ.o,bh.o,qm,UB,an.o]);have bk:=ae q;have bl:=ae a;clear ar D q;obtain⟨A5,c5,bm,Yr,Yt,bn,Yu⟩:=ai a;subst bm;clear a bn;go_wp2_with fail;go_ret2;refine⟨A5,rs.length,c5,rs,((B:Int)==0),rfl,bk.o.recs bl.o rfl (ak _),HG.o,Yr,Yt,Yu,?_⟩;rw[bj.o];by_cases h0:B=0<;>simp[h0]
