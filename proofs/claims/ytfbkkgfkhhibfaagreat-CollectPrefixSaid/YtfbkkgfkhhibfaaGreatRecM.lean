/- Words. -/
import Derived.Test.YtfbkkgfkhhibfaaGreatReadR
set_option linter.unusedVariables false
set_option maxRecDepth 100000
set_option maxHeartbeats 8000000
namespace Go.Proofs.YtfbkkgfkhhibfaaGreat
open Go Go.RowKit Iv
theorem MF (A A':Option Addr)(n D c Z:Nat)(xs ys:List Int)(w:World)(B:Nat)(h:Lies w B 1 A n (xs.map iv))(R:Lies w B 1 A' D (ys.map iv))(hn:n<=1000000000000)(a6:D<=1000000000000):
 Calls Tryz.prog 36 #[.slice A n c,.slice A' D Z] w λe w'=>e= .returned (.bool (decide (xs=ys)))/\∃q,w'=w.drewN q:=by
 have J:xs.length=n:=(by simpa using h.1);have d:ys.length=D:=(by simpa using R.1);by_cases E:n=D
 . subst E;have HL:=ae J;have L:=ae d;clear J d;have hb:((n:Int) !=(n:Int))=false:=(by simp);go_enter Tryz.func36,Tryz.ntmps36;go_wp2;go_loopw [5] (λi wr=>∃k q:Nat,i= .int .i64 k/\k<=n/\wr=w.drewN q/\xs.take k=ys.take k) (λi _=>n-(intOf i).toNat)
   case atStart=>exact ⟨0,0,rfl,by omega,rfl,rfl⟩
   case round=>
    obtain⟨k,q,rfl,hk,rfl,heq⟩:=hrel;have U:=ae heq;clear heq;by_cases G:k<n
    . obtain⟨ad,u,rfl,a7,hx,hc⟩:=h.cellAt G;obtain⟨a8,u',rfl,aa,H,M⟩:=R.cellAt G;simp only[bV,mZ] at hx H;obtain⟨x,hx,rfl⟩:=hx;obtain⟨y,V,rfl⟩:=H;unfold iv at hc M;have X:=ae hx;have Y:=ae V;clear hx V;by_cases a:x=y
      . have N:(x !=y)=false:=(by simp[a]);have YX:=ae a;clear a;go_wp2;go_quiet (fail);go_wp2;go_roundw
        case rel=>exact ⟨k+1,q+nq,by go_num,by omega,by simp,by rw[lQ X.o,lQ Y.o,U.o,YX.o]⟩
        case measure=>simp [intOf];omega
      . have N:(x !=y)=true:=by
         rw[fB];exact a
        have I:Hid (decide (xs=ys)=false):=(by rw[jy];intro e;have h1:=X.o;rw[e,Y.o] at h1;injection h1 with h1;exact a h1.symm);clear a;go_wp2;go_quiet (fail);go_wp2;go_ret;exact⟨dW I.o.symm,q+nq,by simp⟩
    . have O:k=n:=(by omega);have I:Hid (decide (xs=ys)=true):=by
       rw[BD];have:=U.o;rwa [uK (by have:=HL.o;omega),uK (by have:=L.o;omega)] at this
      clear O;go_wp2;go_ret;exact⟨dW I.o.symm,q,rfl⟩
 . have hb:((n:Int) !=(D:Int))=true:=(by rw[fB];omega);have I:Hid (decide (xs=ys)=false):=by
    rw[jy];intro e;rw[e] at J;omega
   clear E J d;go_enter Tryz.func36,Tryz.ntmps36;go_wp2;go_ret;exact⟨dW I.o.symm,0,rfl⟩
theorem qX (A A':Option Addr)(n a c u:Nat)(xs:List Int)(w:World)(B y:Nat)(h:Lies w B 1 A n (xs.map iv))(D:Lies w y 1 A' a (xs.map iv))(hn:n<=1000000000000)(d:a<=1000000000000):
 Calls Tryz.prog 36 #[.slice A n c,.slice A' a u] w λe w'=>e= .returned (.bool true)/\∃q,w'=w.drewN q:=
 (MF A A' n a c u xs xs w (max B y) (h.more (TP _ _)) (D.more (TQ _ _)) hn d).mono λe w' ⟨he,hw⟩=>⟨by rw[he];simp,hw⟩
def evV (e:Ev)(Ad:Option Addr)(nd cd:Nat)(Af:Option Addr)(nf cf:Nat):Array Value:=
 #[.int .i64 e.thread,.int .i64 e.kind,.int .i64 e.obj,.int .i64 e.value,.int .i64 e.site,.slice Ad nd cd,.slice Af nf cf]
theorem Gp (e:Ev)(Ad:Option Addr)(nd cd:Nat)(Af:Option Addr)(nf cf:Nat)(G:Option Addr)(J L:Nat)(H:Option Addr)(M u:Nat)(w:World)(B:Nat)
 (h1:Lies w B 1 Ad nd (e.deps.map iv)) (h2:Lies w B 1 Af nf (e.from_.map iv)) (a:Lies w B 1 G J (e.deps.map iv)) (d:Lies w B 1 H M (e.from_.map iv)) (E:e.deps.length<=1000000000000) (hf:e.from_.length<=1000000000000):
 Calls Tryz.prog 35 #[.agg (evV e Ad nd cd Af nf cf),.agg (evV e G J L H M u)] w λI w'=>I= .returned (.bool true)/\w.grownBy w' none:=by have l1:=h1.lenI;have l2:=h2.lenI;have y:=a.lenI;have D:=d.lenI;rw[l1] at E y;rw[l2] at hf D;subst y D;have N:=ae (λo o'=>qX Ad G nd nd cd L e.deps ((w.alloc o).alloc o') B B ((h1.allocAny o).allocAny o') ((a.allocAny o).allocAny o') E E);have O:=ae (λo o' q=>qX Af H nf nf cf u e.from_ (((w.alloc o).alloc o').drewN q) B B (((h2.allocAny o).allocAny o').drewN q) (((d.allocAny o).allocAny o').drewN q) hf hf);clear l1 l2 h1 h2 a d E hf;have V:(e.thread==e.thread)=true:=(by simp);have X:(e.kind==e.kind)=true:=(by simp);have Y:(e.obj==e.obj)=true:=(by simp);have Z:(e.value==e.value)=true:=(by simp);have b5:(e.site==e.site)=true:=(by simp);unfold evV;go_enter Tryz.func35,Tryz.ntmps35;go_wp2_with fail;refine (N.o _ _).mono ?_;rintro I w1 ⟨rfl,R,rfl⟩;go_wp2_with fail;refine (O.o _ _ _).mono ?_;rintro I w2 ⟨rfl,U,rfl⟩;go_wp2_with fail;go_ret;exact⟨rfl,aQ (af (aV w _ none) (aV _ _ none) (.inl rfl)) (R+U)⟩
theorem alh {w w1 w2:World}(h:Below w.heap.size w w1)(hg:w1.grownBy w2 none):Below w.heap.size w w2:=h.grown hg h.size (λk hk=>by cases hk)
theorem NL (A:Option Addr)(n c B:Nat)(xs:Bytes)(thread seq:Int)(w:World)(h:Lies w B 1 A n (xs.map bv))(hB:B<=w.heap.size)(hnc:n<=c)(ho:A=none->c=0)(hn:n<=1000000000){r:Rec}{k:Nat}{q:Int}(hg:dI xs thread seq=(r,k,q)):
 Calls Tryz.prog 154 #[.slice A n c,.int .i64 thread,.int .i64 seq] w λe w'=>∃(Ad:Option Addr) (cd:Nat) (Af:Option Addr) (cf:Nat),
  e= .returned (.tuple #[.agg (recV r Ad r.ev.deps.length cd Af r.ev.from_.length cf),.int .i64 (k:Int),.int .i64 q])/\
  w'.ownsRow w.heap.size 3 1 (.slice Ad r.ev.deps.length cd) r.ev.deps.length (r.ev.deps.map iv)/\w'.ownsRow w.heap.size 3 1 (.slice Af r.ev.from_.length cf) r.ev.from_.length (r.ev.from_.map iv)/\w.grownBy w' none:=by refine (Ws A n c B xs thread seq w h hB hnc ho hn).mono ?_;rintro e w' ⟨D,E,vf,hr,he,u,hf,a⟩;rw[hg] at hr he;subst hr;obtain⟨Ad,cd,d,_⟩:=ai u;obtain⟨Af,cf,y,_⟩:=ai hf;subst d y;exact⟨Ad,cd,Af,cf,he,u,hf,a⟩
theorem Po (A:Option Addr)(n c B:Nat)(xs:Bytes)(thread seq:Int)(w:World)(h:Lies w B 1 A n (xs.map bv))(hB:B<=w.heap.size)(hnc:n<=c)(ho:A=none->c=0)(hn:n<=1000000000){r:Rec}{k:Nat}{q:Int}(hg:dI xs thread seq=(r,k,q)):
 Calls Tryz.prog 84 #[.slice A n c,.int .i64 thread,.int .i64 seq] w λe w'=>∃(Ad:Option Addr) (cd:Nat) (Af:Option Addr) (cf:Nat),
  e= .returned (.tuple #[.agg (recV r Ad r.ev.deps.length cd Af r.ev.from_.length cf),.int .i64 (k:Int),.int .i64 q])/\
  w'.ownsRow w.heap.size 3 1 (.slice Ad r.ev.deps.length cd) r.ev.deps.length (r.ev.deps.map iv)/\w'.ownsRow w.heap.size 3 1 (.slice Af r.ev.from_.length cf) r.ev.from_.length (r.ev.from_.map iv)/\w.grownBy w' none:=by refine (Xh A n c B xs thread seq w h hB hnc ho hn).mono ?_;rintro e w' ⟨D,E,vf,hr,he,u,hf,a⟩;rw[hg] at hr he;subst hr;obtain⟨Ad,cd,d,_⟩:=ai u;obtain⟨Af,cf,y,_⟩:=ai hf;subst d y;exact⟨Ad,cd,Af,cf,he,u,hf,a⟩
theorem QS {W:World}{g:Nat}{T:TypeId}{r:Rec}{Ad:Option Addr}{nd cd:Nat}{Af:Option Addr}{nf cf:Nat}(h:Held W g T (recV r Ad nd cd Af nf cf)):
 W.cell? ⟨g,0,none⟩=some (.int .i64 r.seq)/\W.cell? ⟨g,1,none⟩=some (.int .i64 r.ev.thread)/\W.cell? ⟨g,2,none⟩=some (.int .i64 r.ev.kind)/\W.cell? ⟨g,3,none⟩=some (.int .i64 r.ev.obj)/\
 W.cell? ⟨g,4,none⟩=some (.int .i64 r.ev.value)/\W.cell? ⟨g,5,none⟩=some (.int .i64 r.ev.site)/\W.cell? ⟨g,6,none⟩=some (.slice Ad nd cd)/\W.cell? ⟨g,7,none⟩=some (.slice Af nf cf):=
 ⟨h.cell 0,h.cell 1,h.cell 2,h.cell 3,h.cell 4,h.cell 5,h.cell 6,h.cell 7⟩
end Go.Proofs.YtfbkkgfkhhibfaaGreat
namespace Iv
open Go Go.RowKit
theorem dJ {a b:World}(h:a.grownBy b none)(o:Option Nat):a.grownBy b o:=⟨h.os,h.tape,h.output,h.size,λk hk _=>h.block k hk nofun⟩
def Off (o:Option Nat)(A:Option Addr)(n:Nat):Prop:=0<n->∀ad,A=some ad->some ad.block≠o
theorem Off.ofOwn {w:World}{base e sz n c:Nat}{A:Option Addr}{xs:List Value}{o:Option Nat}(h:w.ownsRow base e sz (.slice A n c) n xs)(ho:∀g,o=some g->g<base):Off o A n:=by rintro _ a rfl hb;have:=(h.lt a.block rfl).1;have:=ho _ hb.symm;omega
theorem Lies.grownOff {w w':World}{B sz n:Nat}{A:Option Addr}{xs:List Value}{row:Option Nat}(h:Lies w B sz A n xs)(ho:Off row A n)(hg:w.grownBy w' row)(hB:B<=w.heap.size):Lies w' B sz A n xs:=by refine⟨h.1,λhn=>?_⟩;obtain⟨a,e,hb,hc⟩:=h.2 hn;refine⟨a,e,hb,λj u d=>?_⟩;refine qi (lY (hg.block (a.add j).block ?_ ?_)) (hc j u d);rw[addBlock];omega;rw[addBlock];exact ho hn a e
theorem Off.at_ {w:World}{B sz n:Nat}{A:Option Addr}{xs:List Value}{o o':Option Nat}(ho:Off o A n)(h:Lies w B sz A n xs)(hB:B<=w.heap.size)(d:At w o o'):Off o' A n:=by intro hn q e hb;rcases d with rfl|⟨g,rfl,hge⟩;exact ho hn q e hb;obtain⟨u,a,y,_⟩:=h.2 hn;rw[e] at a;injection a with a;subst a;injection hb with hb;omega
def Lo (lo:Nat)(A:Option Addr)(n:Nat):Prop:=0<n->∀ad,A=some ad->lo<=ad.block
theorem Lo.ofOwn {w:World}{base e sz n c lo:Nat}{A:Option Addr}{xs:List Value}(h:w.ownsRow base e sz (.slice A n c) n xs)(d:lo<=base):Lo lo A n:=by rintro _ a rfl;have:=(h.lt a.block rfl).1;omega
theorem Lo.lower {lo a:Nat}{A:Option Addr}{n:Nat}(h:Lo lo A n)(q:a<=lo):Lo a A n:=λhn d e=>by have:=h hn d e;omega
theorem Lo.off {lo:Nat}{A:Option Addr}{n:Nat}{row:Option Nat}(h:Lo lo A n)(hr:∀g,row=some g->g<lo):Off row A n:=λhn a e hb=>by
 have h1:=h hn a e
 have h2:=hr _ hb.symm
 omega
end Iv
namespace Go.Proofs.YtfbkkgfkhhibfaaGreat
open Go Go.RowKit Iv
theorem tZ:(Tryz.prog.info? 54).map (λi=>(i.zero,i.size,i.bytes))=some (some (.agg #[.int .i64 0,.int .i64 0,.int .i64 0,.int .i64 0,.int .i64 0,.int .i64 0,.slice none 0 0,.slice none 0 0]),8,96):=by kernel_rfl
structure RowRec (w:World)(lo:Nat)(o:Option Nat)(css:List Value)(k:Nat)(r:Rec)(Ad:Option Addr)(nd cd:Nat)(Af:Option Addr)(nf cf:Nat):Prop where
 cells:∀j u,(recV r Ad nd cd Af nf cf)[j]?=some u->css[k*8+j]?=some u
 ld:Lies w w.heap.size 1 Ad nd (r.ev.deps.map iv)
 lf:Lies w w.heap.size 1 Af nf (r.ev.from_.map iv)
 od:Off o Ad nd
 of_:Off o Af nf
 lod:Lo lo Ad nd
 lof:Lo lo Af nf
def RowsAt (w:World)(lo:Nat)(o:Option Nat)(css:List Value)(rs:List Rec):Prop:=
 css.length=rs.length*8/\∀k r,rs[k]?=some r->∃(Ad:Option Addr) (nd cd:Nat) (Af:Option Addr) (nf cf:Nat),RowRec w lo o css k r Ad nd cd Af nf cf
theorem RowsAt.nil (w:World)(lo:Nat)(o:Option Nat):RowsAt w lo o [] []:=⟨rfl,λk r hr=>by simp at hr⟩
theorem RowRec.grow {w w':World}{lo:Nat}{o o':Option Nat}{css:List Value}{k:Nat}{r:Rec}{Ad:Option Addr}{nd cd:Nat}{Af:Option Addr}{nf cf:Nat}(h:RowRec w lo o css k r Ad nd cd Af nf cf)(hg:w.grownBy w' o)(a:At w o o'):RowRec w' lo o' css k r Ad nd cd Af nf cf:=
 ⟨h.cells,(h.ld.grownOff h.od hg (au _)).more hg.size,(h.lf.grownOff h.of_ hg (au _)).more hg.size,h.od.at_ h.ld (au _) a,h.of_.at_ h.lf (au _) a,h.lod,h.lof⟩
theorem RowsAt.grow {w w':World}{lo:Nat}{o o':Option Nat}{css:List Value}{rs:List Rec}(h:RowsAt w lo o css rs)(hg:w.grownBy w' o)(a:At w o o'):RowsAt w' lo o' css rs:=
 ⟨h.1,λk r hr=>by
  obtain⟨Ad,nd,cd,Af,nf,cf,q⟩:=h.2 k r hr
  exact⟨Ad,nd,cd,Af,nf,cf,q.grow hg a⟩⟩
theorem RowsAt.keep {w w':World}{lo:Nat}{o:Option Nat}{css:List Value}{rs:List Rec}(h:RowsAt w lo o css rs)(hg:w.grownBy w' none):RowsAt w' lo o css rs:=
 ⟨h.1,λk r hr=>by
  obtain⟨Ad,nd,cd,Af,nf,cf,q⟩:=h.2 k r hr
  exact⟨Ad,nd,cd,Af,nf,cf,q.cells,(q.ld.grown hg (au _) nofun).more hg.size,(q.lf.grown hg (au _) nofun).more hg.size,q.od,q.of_,q.lod,q.lof⟩⟩
theorem RowsAt.snoc {w:World}{lo:Nat}{o:Option Nat}{css:List Value}{rs:List Rec}(h:RowsAt w lo o css rs){r:Rec}{Ad:Option Addr}{nd cd:Nat}{Af:Option Addr}{nf cf:Nat}
 (h1:Lies w w.heap.size 1 Ad nd (r.ev.deps.map iv)) (h2:Lies w w.heap.size 1 Af nf (r.ev.from_.map iv)) (h3:Off o Ad nd) (h4:Off o Af nf) (h5:Lo lo Ad nd) (D:Lo lo Af nf):RowsAt w lo o (css++(recV r Ad nd cd Af nf cf).toList) (rs++[r]):=by refine⟨by rw[bI,h.1,bI];unfold recV;simp[jW],λk q a=>?_⟩;by_cases hk:k<rs.length;rw[jX hk] at a;obtain⟨E,G,H,I,J,d,z⟩:=h.2 k q a;refine⟨E,G,H,I,J,d,λj u y=>?_,z.ld,z.lf,z.od,z.of_,z.lod,z.lof⟩;have:=z.cells j u y;rw[jX (dF.1 this).1];exact this;have L:k<rs.length+1:=(by have:=(dF.1 a).1;simpa using this);have B:k=rs.length:=(by omega);subst B;rw[jY (au _),qH] at a;simp only[oZ,ig] at a;subst a;refine⟨Ad,nd,cd,Af,nf,cf,λj u y=>?_,h1,h2,h3,h4,h5,D⟩;rw[jY (by rw[h.1];omega),h.1,JC];simpa using y
structure RecN (w:World)(lo b o:Nat)(r:Rec)(Ad:Option Addr)(nd cd:Nat)(Af:Option Addr)(nf cf:Nat):Prop where
 lob:lo<=b
 hib:b<w.heap.size
 cells:∀j u,(recV r Ad nd cd Af nf cf)[j]?=some u->w.cell? ⟨b,o+j,none⟩=some u
 ld:Lies w w.heap.size 1 Ad nd (r.ev.deps.map iv)
 lf:Lies w w.heap.size 1 Af nf (r.ev.from_.map iv)
 lod:Lo lo Ad nd
 lof:Lo lo Af nf
def RecsNew (w:World)(lo:Nat)(A:Option Addr)(n:Nat)(rs:List Rec):Prop:=
 rs.length=n/\∀k r,rs[k]?=some r->∃(b o:Nat) (Ad:Option Addr) (nd cd:Nat) (Af:Option Addr) (nf cf:Nat),A=some ⟨b,o,none⟩/\RecN w lo b (o+k*8) r Ad nd cd Af nf cf
theorem RecsNew.nil (w:World)(lo:Nat)(A:Option Addr):RecsNew w lo A 0 []:=⟨rfl,λk r hr=>by simp at hr⟩
theorem RecsNew.recs {w:World}{lo n:Nat}{A:Option Addr}{rs:List Rec}(h:RecsNew w lo A n rs):Recs w w.heap.size A n rs:=
 ⟨h.1,λk r hr=>by
  obtain⟨b,o,Ad,nd,cd,Af,nf,cf,e,q⟩:=h.2 k r hr
  exact⟨b,o,Ad,nd,cd,Af,nf,cf,e,q.hib,q.cells,q.ld,q.lf⟩⟩
theorem RecsNew.lower {w:World}{lo a n:Nat}{A:Option Addr}{rs:List Rec}(h:RecsNew w lo A n rs)(d:a<=lo):RecsNew w a A n rs:=
 ⟨h.1,λk r hr=>by
  obtain⟨b,o,Ad,nd,cd,Af,nf,cf,e,q⟩:=h.2 k r hr
  exact⟨b,o,Ad,nd,cd,Af,nf,cf,e,aK d q.lob,q.hib,q.cells,q.ld,q.lf,q.lod.lower d,q.lof.lower d⟩⟩
theorem RecsNew.keep {w w':World}{lo n:Nat}{A:Option Addr}{rs:List Rec}{row:Option Nat}(h:RecsNew w lo A n rs)(hg:w.grownBy w' row)(hr:∀g,row=some g->g<lo):RecsNew w' lo A n rs:=
 ⟨h.1,λk r hk=>by
  obtain⟨b,o,Ad,nd,cd,Af,nf,cf,e,q⟩:=h.2 k r hk
  refine⟨b,o,Ad,nd,cd,Af,nf,cf,e,q.lob,pF q.hib hg.size,λj u a=>?_,(q.ld.grownOff (q.lod.off hr) hg (au _)).more hg.size,(q.lf.grownOff (q.lof.off hr) hg (au _)).more hg.size,q.lod,q.lof⟩
  refine qi (lY (hg.block b q.hib (λe=>?_))) (q.cells j u a)
  have h1:=hr _ e.symm
  have h2:=q.lob
  omega⟩
theorem RowsAt.recs {w:World}{lo base e c n:Nat}{A:Option Addr}{css:List Value}{rs:List Rec}(h:RowsAt w lo (Value.slice A n c).ownBlock css rs)(ho:w.ownsRow base e 8 (.slice A n c) n css)(hn:n=rs.length)(a:lo<=base):RecsNew w lo A n rs:=by refine⟨hn.symm,λk r hr=>?_⟩;have hk:k<n:=(by rw[hn];exact (dF.1 hr).1);obtain⟨g,cap,B,D,d⟩:=ho.form (by omega);have y:=(ho.lt g (by rw[B];rfl)).1;injection B with E;subst E;obtain⟨Ad,nd,cd,Af,nf,cf,q⟩:=h.2 k r hr;refine⟨g,0,Ad,nd,cd,Af,nf,cf,rfl,aK a y,d,λj u G=>?_,q.ld,q.lf,q.lod,q.lof⟩;have:=ho.cells (g:=g) rfl (k*8+j) u (q.cells j u G);rw[fG];have e0:(⟨g,0,none⟩:Addr).add (k*8+j)=⟨g,k*8+j,none⟩:=(by unfold Addr.add;split<;>simp_all);rwa [e0] at this
theorem NQ (r:Rec)(Ad:Option Addr)(nd cd:Nat)(Af:Option Addr)(nf cf:Nat):∀u∈(recV r Ad nd cd Af nf cf).toList,u.oneCell'=true:=by intro u a;unfold recV at a;simp only[gJ,mG,or_false] at a;rcases a with rfl|rfl|rfl|rfl|rfl|rfl|rfl|rfl<;>rfl
theorem NP (W:World)(t:TypeId)(r:Rec)(Ad:Option Addr)(nd cd:Nat)(Af:Option Addr)(nf cf:Nat):∀j u,(recV r Ad nd cd Af nf cf).toList[j]?=some u->(W.alloc (.cells (recV r Ad nd cd Af nf cf) t)).cell? ((⟨W.heap.size,0,none⟩:Addr).add j)=some u:=by intro j u a;have e0:(⟨W.heap.size,0,none⟩:Addr).add j=⟨W.heap.size,j,none⟩:=(by unfold Addr.add;split<;>simp_all);rw[e0,(Held.new W t _).cell j];simpa using a
def RecsOff (w:World)(lo:Nat)(o:Option Nat)(A:Option Addr)(n:Nat)(rs:List Rec):Prop:=
 rs.length=n/\∀k r,rs[k]?=some r->∃(b f:Nat) (Ad:Option Addr) (nd cd:Nat) (Af:Option Addr) (nf cf:Nat),A=some ⟨b,f,none⟩/\some b≠o/\RecN w lo b (f+k*8) r Ad nd cd Af nf cf/\Off o Ad nd/\Off o Af nf
theorem RecsNew.off {w:World}{lo n:Nat}{A:Option Addr}{rs:List Rec}{o:Option Nat}(h:RecsNew w lo A n rs)(ho:∀g,o=some g->g<lo):RecsOff w lo o A n rs:=
 ⟨h.1,λk r hr=>by
  obtain⟨b,f,Ad,nd,cd,Af,nf,cf,e,q⟩:=h.2 k r hr
  exact⟨b,f,Ad,nd,cd,Af,nf,cf,e,λa=>by have:=ho b a.symm;have:=q.lob;omega,q,q.lod.off ho,q.lof.off ho⟩⟩
theorem RecsOff.new {w:World}{lo n:Nat}{A:Option Addr}{rs:List Rec}{o:Option Nat}(h:RecsOff w lo o A n rs):RecsNew w lo A n rs:=
 ⟨h.1,λk r hr=>by
  obtain⟨b,f,Ad,nd,cd,Af,nf,cf,e,_,q,_⟩:=h.2 k r hr
  exact⟨b,f,Ad,nd,cd,Af,nf,cf,e,q⟩⟩
theorem RecsOff.grow {w w':World}{lo n:Nat}{A:Option Addr}{rs:List Rec}{o o':Option Nat}(h:RecsOff w lo o A n rs)(hg:w.grownBy w' o)(a:At w o o'):RecsOff w' lo o' A n rs:=
 ⟨h.1,λk r hr=>by
  obtain⟨b,f,Ad,nd,cd,Af,nf,cf,e,hb,q,o1,o2⟩:=h.2 k r hr
  refine⟨b,f,Ad,nd,cd,Af,nf,cf,e,?_,⟨q.lob,pF q.hib hg.size,λj u y=>?_,(q.ld.grownOff o1 hg (au _)).more hg.size,(q.lf.grownOff o2 hg (au _)).more hg.size,q.lod,q.lof⟩,o1.at_ q.ld (au _) a,o2.at_ q.lf (au _) a⟩
  . rcases a with rfl|⟨g,rfl,hge⟩
    . exact hb
    . intro d
      injection d with d
      have:=q.hib
      omega
  . exact qi (lY (hg.block b q.hib hb)) (q.cells j u y)⟩
theorem RecsOff.keep {w w':World}{lo n:Nat}{A:Option Addr}{rs:List Rec}{o row:Option Nat}(h:RecsOff w lo o A n rs)(hg:w.grownBy w' row)(hr:∀g,row=some g->g<lo):RecsOff w' lo o A n rs:=
 ⟨h.1,λk r hk=>by
  obtain⟨b,f,Ad,nd,cd,Af,nf,cf,e,hb,q,o1,o2⟩:=h.2 k r hk
  have hn:=(h.new.keep hg hr).2 k r hk
  refine⟨b,f,Ad,nd,cd,Af,nf,cf,e,hb,⟨q.lob,pF q.hib hg.size,λj u a=>?_,(q.ld.grownOff (q.lod.off hr) hg (au _)).more hg.size,(q.lf.grownOff (q.lof.off hr) hg (au _)).more hg.size,q.lod,q.lof⟩,o1,o2⟩
  refine qi (lY (hg.block b q.hib (λd=>?_))) (q.cells j u a)
  have h1:=hr _ d.symm
  have h2:=q.lob
  omega⟩
theorem RecsOff.lower {w:World}{lo a n:Nat}{A:Option Addr}{rs:List Rec}{o:Option Nat}(h:RecsOff w lo o A n rs)(d:a<=lo):RecsOff w a o A n rs:=
 ⟨h.1,λk r hr=>by
  obtain⟨b,f,Ad,nd,cd,Af,nf,cf,e,hb,q,o1,o2⟩:=h.2 k r hr
  exact⟨b,f,Ad,nd,cd,Af,nf,cf,e,hb,⟨aK d q.lob,q.hib,q.cells,q.ld,q.lf,q.lod.lower d,q.lof.lower d⟩,o1,o2⟩⟩
def qL (x:Blk)(A:Option Addr)(n c:Nat):Array Value:=#[.int .i64 x.thread,.int .i64 x.first,.slice A n c]
def BlksAt (w:World)(lo:Nat)(o:Option Nat)(css:List Value)(xs:List Blk):Prop:=
 css.length=xs.length*3/\∀k x,xs[k]?=some x->∃(A:Option Addr) (n c:Nat),(∀j u,(qL x A n c)[j]?=some u->css[k*3+j]?=some u)/\RecsOff w lo o A n x.recs/\n<=c/\c<=maxLen/\(A=none->c=0)
theorem BlksAt.nil (w:World)(lo:Nat)(o:Option Nat):BlksAt w lo o [] []:=⟨rfl,λk x hx=>by simp at hx⟩
theorem BlksAt.grow {w w':World}{lo:Nat}{o o':Option Nat}{css:List Value}{xs:List Blk}(h:BlksAt w lo o css xs)(hg:w.grownBy w' o)(a:At w o o'):BlksAt w' lo o' css xs:=
 ⟨h.1,λk x hx=>by
  obtain⟨A,n,c,d,q,u⟩:=h.2 k x hx
  exact⟨A,n,c,d,q.grow hg a,u⟩⟩
theorem BlksAt.keep {w w':World}{lo:Nat}{o row:Option Nat}{css:List Value}{xs:List Blk}(h:BlksAt w lo o css xs)(hg:w.grownBy w' row)(hr:∀g,row=some g->g<lo):BlksAt w' lo o css xs:=
 ⟨h.1,λk x hx=>by
  obtain⟨A,n,c,a,d,q⟩:=h.2 k x hx
  exact⟨A,n,c,a,d.keep hg hr,q⟩⟩
theorem BlksAt.snoc {w:World}{lo:Nat}{o:Option Nat}{css:List Value}{xs:List Blk}(h:BlksAt w lo o css xs){x:Blk}{A:Option Addr}{n c:Nat}(hr:RecsOff w lo o A n x.recs)(hnc:n<=c)(d:c<=maxLen)(ho:A=none->c=0):BlksAt w lo o (css++(qL x A n c).toList) (xs++[x]):=by refine⟨by rw[bI,h.1,bI];unfold qL;simp[jW],λk y a=>?_⟩;by_cases hk:k<xs.length;rw[jX hk] at a;obtain⟨A',D,E,G,H⟩:=h.2 k y a;refine⟨A',D,E,λj u q=>?_,H⟩;have:=G j u q;rw[jX (dF.1 this).1];exact this;have I:k<xs.length+1:=(by have:=(dF.1 a).1;simpa using this);have B:k=xs.length:=(by omega);subst B;rw[jY (au _),qH] at a;simp only[oZ,ig] at a;subst a;refine⟨A,n,c,λj u q=>?_,hr,hnc,d,ho⟩;rw[jY (by rw[h.1];omega),h.1,JC];simpa using q
theorem Ou (x:Blk)(A:Option Addr)(n c:Nat):∀u∈(qL x A n c).toList,u.oneCell'=true:=by intro u a;simp only[qL,gJ,mG,or_false] at a;rcases a with h|h|h<;>rw[h]<;>rfl
theorem Ov:(Tryz.prog.info? 50).map (λi=>(i.zero,i.size,i.bytes))=some (some (.agg #[.int .i64 0,.int .i64 0,.slice none 0 0]),3,40):=by kernel_rfl
theorem YY (w:World)(x:Blk)(A:Option Addr)(n c:Nat):
 Lies (w.alloc (.cells (qL x A n c) 50)) (w.alloc (.cells (qL x A n c) 50)).heap.size 3 (some ⟨w.heap.size,0,none⟩) 1 (qL x A n c).toList:=by obtain⟨A',u,a,_,_,d,_⟩:=ai (World.ownsRow_lit (base:=w.heap.size) (e:=50) (size:=3) w (qL x A n c) 1 (au _) (by unfold maxLen;omega) rfl);injection a with q;subst q;exact d
def JK (l:List (Blk×Nat))(w:World)(e:Ending)(w':World):Prop:=
 ∃v css,e= .returned (.tuple #[v,.int .i64 (sizeB l:Int)])/\w'.ownsRow w.heap.size 50 3 v l.length css/\BlksAt w' w.heap.size v.ownBlock css (l.map (·.1))/\w.grownBy w' none
def BufAt (w:World)(B:Nat)(css:List Value)(rs:List Rec):Prop:=
 css.length=rs.length*8/\∀k r,rs[k]?=some r->∃(Ad:Option Addr) (nd cd:Nat) (Af:Option Addr) (nf cf:Nat),(∀j u,(recV r Ad nd cd Af nf cf)[j]?=some u->css[k*8+j]?=some u)/\Lies w B 1 Ad nd (r.ev.deps.map iv)/\Lies w B 1 Af nf (r.ev.from_.map iv)
theorem BufAt.nil (w:World)(B:Nat):BufAt w B [] []:=⟨rfl,λk r hr=>by simp at hr⟩
theorem BufAt.grow {w w':World}{B:Nat}{css:List Value}{rs:List Rec}{row:Option Nat}(h:BufAt w B css rs)(hg:w.grownBy w' row)(hB:B<=w.heap.size)(hr:∀g,row=some g->B<=g):BufAt w' B css rs:=
 ⟨h.1,λk r hk=>by
  obtain⟨Ad,nd,cd,Af,nf,cf,a,d,q⟩:=h.2 k r hk
  exact⟨Ad,nd,cd,Af,nf,cf,a,d.grown hg hB hr,q.grown hg hB hr⟩⟩
theorem BufAt.snoc {w:World}{B:Nat}{css:List Value}{rs:List Rec}(h:BufAt w B css rs){r:Rec}{Ad:Option Addr}{nd cd:Nat}{Af:Option Addr}{nf cf:Nat}
 (h1:Lies w B 1 Ad nd (r.ev.deps.map iv)) (h2:Lies w B 1 Af nf (r.ev.from_.map iv)):BufAt w B (css++(recV r Ad nd cd Af nf cf).toList) (rs++[r]):=by refine⟨by rw[bI,h.1,bI];unfold recV;simp[jW],λk q a=>?_⟩;by_cases hk:k<rs.length;rw[jX hk] at a;obtain⟨E,G,H,I,J,d,L,M,z3⟩:=h.2 k q a;refine⟨E,G,H,I,J,d,λj u y=>?_,M,z3⟩;have:=L j u y;rw[jX (dF.1 this).1];exact this;have N:k<rs.length+1:=(by have:=(dF.1 a).1;simpa using this);have D:k=rs.length:=(by omega);subst D;rw[jY (au _),qH] at a;simp only[oZ,ig] at a;subst a;refine⟨Ad,nd,cd,Af,nf,cf,λj u y=>?_,h1,h2⟩;rw[jY (by rw[h.1];omega),h.1,JC];simpa using y
theorem BufAt.recs {w:World}{base e c n B:Nat}{A:Option Addr}{css:List Value}{rs:List Rec}(h:BufAt w B css rs)(ho:w.ownsRow base e 8 (.slice A n c) n css)(hn:n=rs.length)(hB:B<=w.heap.size):Recs w w.heap.size A n rs:=by refine⟨hn.symm,λk r hr=>?_⟩;have hk:k<n:=(by rw[hn];exact (dF.1 hr).1);obtain⟨g,cap,d,q,a⟩:=ho.form (by omega);injection d with y;subst y;obtain⟨Ad,nd,cd,Af,nf,cf,D,E,G⟩:=h.2 k r hr;refine⟨g,0,Ad,nd,cd,Af,nf,cf,rfl,a,λj u H=>?_,E.more hB,G.more hB⟩;have:=ho.cells (g:=g) rfl (k*8+j) u (D j u H);rw[fG];have e0:(⟨g,0,none⟩:Addr).add (k*8+j)=⟨g,k*8+j,none⟩:=(by unfold Addr.add;split<;>simp_all);rwa [e0] at this
def fam (thr:Nat)(f:Nat->Value):Array Value:=((List.range thr).map f).toArray
theorem iU {thr t:Nat}(f:Nat->Value)(a:t<thr):(fam thr f)[t]?=some (f t):=by simp[fam,a]
theorem MB {thr t:Nat}(f:Nat->Value)(v:Value):(fam thr f).setIfInBounds t v=fam thr (upd f t v):=by unfold fam;apply DL;simp;intro i h1 h2;simp only[aa8,Bf,iM,List.length_range] at h1;rw[Array.getElem_setIfInBounds (by simpa using h1)];by_cases hi:t=i;subst hi;simp[upd];have:i≠t:=λe=>hi e.symm;simp[hi,upd,this]
theorem abv {α β:Type}(g:α->β)(f:Nat->α)(t:Nat)(x:α):(λk=>g (upd f t x k))=upd (λk=>g (f k)) t (g x):=by funext k;unfold upd;split<;>rfl
structure RM (base B thr gB gW gF:Nat)(s:St)(vb vf:Nat->Value)(css:Nat->List Value)(wr:World):Prop where
 hB:Held wr gB 48 (fam thr vb)
 hW:Held wr gW 3 (fam thr λt=> .int .i64 (s.first t))
 hF:Held wr gF 22 (fam thr vf)
 ob:∀t,t<thr->wr.ownsRow base 54 8 (vb t) (s.buf t).length (css t)
 oc:∀t,t<thr->BufAt wr B (css t) (s.buf t)
 of_:∀t,t<thr->wr.ownsRow base 5 1 (vf t) (s.file t).length ((s.file t).map bv)
 abb:∀t k,t<thr->k<thr->t≠k->Apart (vb t) (vb k)
 aff:∀t k,t<thr->k<thr->t≠k->Apart (vf t) (vf k)
 abf:∀t k,t<thr->k<thr->Apart (vb t) (vf k)
 lt:gB<base/\gW<base/\gF<base
 ge:B<=gB/\B<=gW/\B<=gF
 ne:gB≠gW/\gB≠gF/\gW≠gF
 bs:base<=wr.heap.size
section
variable {base B thr gB gW gF : Nat} {s : St} {vb vf : Nat -> Value} {css : Nat -> List Value} {wr w1 : World}
theorem RM.keep (h:RM base B thr gB gW gF s vb vf css wr)(hg:wr.grownBy w1 none):RM base B thr gB gW gF s vb vf css w1:=
 ⟨h.hB.grown hg nofun,h.hW.grown hg nofun,h.hF.grown hg nofun,λt a=>ax (h.ob t a) hg nofun,λt a=>(h.oc t a).grow hg (by have:=h.bs;have:=h.lt;have:=h.ge;omega) nofun,
  λt a=>ax (h.of_ t a) hg nofun,h.abb,h.aff,h.abf,h.lt,h.ge,h.ne,aK h.bs hg.size⟩
theorem jr {e sz n g:Nat}{v:Value}{xs:List Value}(h:wr.ownsRow base e sz v n xs)(hg:g<base):v.ownBlock≠some g:=by intro a;have:=(h.lt g a).1;omega
theorem RM.setB (h:RM base B thr gB gW gF s vb vf css wr){t:Nat}(E:t<thr){v:Value}{xs:List Value}{rs:List Rec}(ho:w1.ownsRow base 54 8 v rs.length xs)(hc:BufAt w1 B xs rs)(hg:wr.grownBy w1 (vb t).ownBlock)
 (a1:∀k,k<thr->k≠t->Apart v (vb k)) (a2:∀k,k<thr->Apart v (vf k)):
 RM base B thr gB gW gF ⟨upd s.buf t rs,s.first,s.file⟩ (upd vb t v) vf (upd css t xs) (w1.setCell ⟨gB,t,none⟩ v):=by obtain⟨l1,l2,l3⟩:=h.lt;obtain⟨e1,M,N⟩:=h.ge;obtain⟨n1,n2,n3⟩:=h.ne;have G:=h.bs;have own:=h.ob t E;have H:=h.hB.grown hg (λe=>jr own l1 e.symm);have I:=h.hW.grown hg (λe=>jr own l2 e.symm);have J:=h.hF.grown hg (λe=>jr own l3 e.symm);have D:=ag w1 gB t v;have L:base<=w1.heap.size:=aK G hg.size;refine⟨?_,I.far (p:=⟨gB,t,none⟩) (λe=>n1 e.symm) v,J.far (p:=⟨gB,t,none⟩) (λe=>n2 e.symm) v,λk hk=>?_,λk hk=>?_,λk hk=>?_,λa k ha hk y=>?_,h.aff,λa k ha hk=>?_,h.lt,h.ge,h.ne,aK L D.size⟩;have:=H.store t v;rw[MB] at this;exact this;by_cases q:k=t;subst q;simp only[fH];exact ax ho D (λg u e=>jr ho l1 (by rw[u,e]));simp only[dK _ _ q];exact ax (ax (h.ob k hk) hg (λg u e=>h.abb k t hk E q g u e)) D (λg u e=>jr (h.ob k hk) l1 (by rw[u,e]));by_cases q:k=t;subst q;simp only[fH];exact hc.grow D (by omega) (λg e=>by injection e with e;omega);simp only[dK _ _ q];exact ((h.oc k hk).grow hg (by omega) (λg e=>by have:=(own.lt g e).1;omega)).grow D (by omega) (λg e=>by injection e with e;omega);exact ax (ax (h.of_ k hk) hg (λg u e=>(h.abf t k E hk).symm g u e)) D (λg u e=>jr (h.of_ k hk) l1 (by rw[u,e]));by_cases d:a=t;subst d;simp only[fH,dK _ _ (λe=>y e.symm)];exact a1 k hk (λe=>y e.symm);by_cases q:k=t;subst q;simp only[fH,dK _ _ d];exact (a1 a ha d).symm;simp only[dK _ _ d,dK _ _ q];exact h.abb a k ha hk y;by_cases d:a=t;subst d;simp only[fH];exact a2 k hk;simp only[dK _ _ d];exact h.abf a k ha hk
theorem RM.grewB (h:RM base B thr gB gW gF s vb vf css wr){t:Nat}(d:t<thr){v:Value}{xs:List Value}{rs:List Rec}(ho:w1.ownsRow base 54 8 v rs.length xs)(hc:BufAt w1 B xs rs)(hg:wr.grownBy w1 (vb t).ownBlock)(a:At wr (vb t).ownBlock v.ownBlock):
 RM base B thr gB gW gF ⟨upd s.buf t rs,s.first,s.file⟩ (upd vb t v) vf (upd css t xs) (w1.setCell ⟨gB,t,none⟩ v):=
 h.setB d ho hc hg (λk hk q=>(h.abb t k d hk (λe=>q e.symm)).step (h.ob k hk) a) (λk hk=>(h.abf t k d hk).step (h.of_ k hk) a)
theorem RM.clearB (h:RM base B thr gB gW gF s vb vf css wr){t:Nat}(a:t<thr):
 RM base B thr gB gW gF ⟨upd s.buf t [],s.first,s.file⟩ (upd vb t (.slice none 0 0)) vf (upd css t []) (wr.setCell ⟨gB,t,none⟩ (.slice none 0 0)):=
 h.setB a (dD _ _ _ _) (BufAt.nil _ _) (bu wr _) (λk _ _=>(Apart.nil _).symm) (λk _=>(Apart.nil _).symm)
theorem RM.setF (h:RM base B thr gB gW gF s vb vf css wr){t:Nat}(E:t<thr){v:Value}{ys:Bytes}(ho:w1.ownsRow base 5 1 v ys.length (ys.map bv))(hg:wr.grownBy w1 (vf t).ownBlock)
 (a1:∀k,k<thr->k≠t->Apart v (vf k)) (a2:∀k,k<thr->Apart (vb k) v):
 RM base B thr gB gW gF ⟨s.buf,s.first,upd s.file t ys⟩ vb (upd vf t v) css (w1.setCell ⟨gF,t,none⟩ v):=by obtain⟨l1,l2,l3⟩:=h.lt;obtain⟨e1,M,N⟩:=h.ge;obtain⟨n1,n2,n3⟩:=h.ne;have G:=h.bs;have own:=h.of_ t E;have H:=h.hB.grown hg (λe=>jr own l1 e.symm);have I:=h.hW.grown hg (λe=>jr own l2 e.symm);have J:=h.hF.grown hg (λe=>jr own l3 e.symm);have D:=ag w1 gF t v;have L:base<=w1.heap.size:=aK G hg.size;refine⟨H.far (p:=⟨gF,t,none⟩) n2 v,I.far (p:=⟨gF,t,none⟩) n3 v,?_,λk hk=>?_,λk hk=>?_,λk hk=>?_,h.abb,λa k ha hk y=>?_,λa k ha hk=>?_,h.lt,h.ge,h.ne,aK L D.size⟩;have:=J.store t v;rw[MB] at this;exact this;exact ax (ax (h.ob k hk) hg (λg u e=>h.abf k t hk E g u e)) D (λg u e=>jr (h.ob k hk) l3 (by rw[u,e]));exact ((h.oc k hk).grow hg (by omega) (λg e=>by have:=(own.lt g e).1;omega)).grow D (by omega) (λg e=>by injection e with e;omega);by_cases d:k=t;subst d;simp only[fH];exact ax ho D (λg u e=>jr ho l3 (by rw[u,e]));simp only[dK _ _ d];exact ax (ax (h.of_ k hk) hg (λg u e=>h.aff k t hk E d g u e)) D (λg u e=>jr (h.of_ k hk) l3 (by rw[u,e]));by_cases q:a=t;subst q;simp only[fH,dK _ _ (λe=>y e.symm)];exact a1 k hk (λe=>y e.symm);by_cases d:k=t;subst d;simp only[fH,dK _ _ q];exact (a1 a ha q).symm;simp only[dK _ _ q,dK _ _ d];exact h.aff a k ha hk y;by_cases d:k=t;subst d;simp only[fH];exact a2 a ha;simp only[dK _ _ d];exact h.abf a k ha hk
theorem RM.setW (h:RM base B thr gB gW gF s vb vf css wr){t:Nat}(x:Int):
 RM base B thr gB gW gF ⟨s.buf,upd s.first t x,s.file⟩ vb vf css (wr.setCell ⟨gW,t,none⟩ (.int .i64 x)):=by
 obtain⟨l1,l2,l3⟩:=h.lt;obtain⟨e1,u,y⟩:=h.ge;obtain⟨n1,n2,n3⟩:=h.ne;have d:=h.bs;have a:=ag wr gW t (.int .i64 x)
 refine⟨h.hB.far (p:=⟨gW,t,none⟩) n1 _,?_,h.hF.far (p:=⟨gW,t,none⟩) (λe=>n3 e.symm) _,λk hk=>ax (h.ob k hk) a (λg q e=>jr (h.ob k hk) l2 (by rw[q,e])),λk hk=>(h.oc k hk).grow a (by omega) (λg e=>by injection e with e;omega),
  λk hk=>ax (h.of_ k hk) a (λg q e=>jr (h.of_ k hk) l2 (by rw[q,e])),h.abb,h.aff,h.abf,h.lt,h.ge,h.ne,aK d a.size⟩
 have:=h.hW.store t (.int .i64 x);rw[MB] at this;have e:(λk=>Value.int .i64 (upd s.first t x k))=upd (λk=>Value.int .i64 (s.first k)) t (.int .i64 x):=abv (Value.int .i64) s.first t x;show Held _ gW _ (fam thr λk=>Value.int .i64 (upd s.first t x k));rw[e];exact this
end
