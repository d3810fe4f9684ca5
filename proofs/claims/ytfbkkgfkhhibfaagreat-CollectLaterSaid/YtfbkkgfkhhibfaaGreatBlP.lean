/- Words. -/
import Derived.Test.YtfbkkgfkhhibfaaGreatDec
import Derived.Test.YtfbkkgfkhhibfaaGreatRwrR
import Derived.Test.YtfbkkgfkhhibfaaGreatLtr
import Derived.RangeFuncNested
import Derived.RangeFuncBound
import Derived.RangeFuncCalls
import Derived.RangeFuncLeaves
import Derived.Shelf.Abstract
import Derived.Shelf.RegionOpen
import Derived.OwnWalkIn
import Derived.TacticsInMore
import Derived.LoopNIn
import Derived.LoopIn
set_option linter.unusedVariables false
set_option maxRecDepth 100000
set_option maxHeartbeats 8000000
namespace Go.Proofs.YtfbkkgfkhhibfaaGreat
open Go Go.RowKit Iv
def RecsOff (w:World)(lo:Nat)(o:Option Nat)(A:Option Addr)(n:Nat)(rs:List Rec):Prop:=
 rs.length=n/\∀k r,rs[k]?=some r->∃(b f:Nat) (Ad:Option Addr) (nd cd:Nat) (Af:Option Addr) (nf cf:Nat),A=some ⟨b,f,none⟩/\some b≠o/\RecN w lo b (f+k*8) r Ad nd cd Af nf cf/\Off o Ad nd/\Off o Af nf
theorem RecsNew.off {w:World}{lo n:Nat}{A:Option Addr}{rs:List Rec}{o:Option Nat}(h:RecsNew w lo A n rs)(ho:∀g,o=some g->g<lo):RecsOff w lo o A n rs:=
 ⟨h.1,λk r hr=>by
  obtain⟨b,f,Ad,nd,cd,Af,nf,cf,e,q⟩:=h.2 k r hr
  exact⟨b,f,Ad,nd,cd,Af,nf,cf,e,λa=>by have:=ho b a.symm;have:=q.lob;omega,q,q.lod.off ho,q.lof.off ho⟩⟩
theorem RecsOff.new {w:World}{lo n:Nat}{A:Option Addr}{rs:List Rec}{o:Option Nat}(h:RecsOff w lo o A n rs):RecsNew w lo A n rs:=
 ⟨h.1,λk r hr=>by
  obtain⟨b,f,Ad,nd,cd,Af,nf,cf,e,_,q,_⟩:=h.2 k r hr
  exact⟨b,f,Ad,nd,cd,Af,nf,cf,e,q⟩⟩
theorem RecsOff.grow {w w':World}{lo n:Nat}{A:Option Addr}{rs:List Rec}{o o':Option Nat}(h:RecsOff w lo o A n rs)(hg:w.grownBy w' o)(a:At w o o'):RecsOff w' lo o' A n rs:=
 ⟨h.1,λk r hr=>by
  obtain⟨b,f,Ad,nd,cd,Af,nf,cf,e,hb,q,o1,o2⟩:=h.2 k r hr
  refine⟨b,f,Ad,nd,cd,Af,nf,cf,e,?_,⟨q.lob,lJ q.hib hg.size,λj u y=>?_,(q.ld.grownOff o1 hg (ax _)).more hg.size,(q.lf.grownOff o2 hg (ax _)).more hg.size,q.lod,q.lof⟩,o1.at_ q.ld (ax _) a,o2.at_ q.lf (ax _) a⟩
  . rcases a with rfl|⟨g,rfl,hge⟩
    . exact hb
    . intro d
      injection d with d
      have:=q.hib
      omega
  . exact qL (lW (hg.block b q.hib hb)) (q.cells j u y)⟩
theorem RecsOff.keep {w w':World}{lo n:Nat}{A:Option Addr}{rs:List Rec}{o row:Option Nat}(h:RecsOff w lo o A n rs)(hg:w.grownBy w' row)(hr:∀g,row=some g->g<lo):RecsOff w' lo o A n rs:=
 ⟨h.1,λk r hk=>by
  obtain⟨b,f,Ad,nd,cd,Af,nf,cf,e,hb,q,o1,o2⟩:=h.2 k r hk
  have hn:=(h.new.keep hg hr).2 k r hk
  refine⟨b,f,Ad,nd,cd,Af,nf,cf,e,hb,⟨q.lob,lJ q.hib hg.size,λj u a=>?_,(q.ld.grownOff (q.lod.off hr) hg (ax _)).more hg.size,(q.lf.grownOff (q.lof.off hr) hg (ax _)).more hg.size,q.lod,q.lof⟩,o1,o2⟩
  refine qL (lW (hg.block b q.hib (λd=>?_))) (q.cells j u a)
  have h1:=hr _ d.symm
  have h2:=q.lob
  omega⟩
theorem RecsOff.lower {w:World}{lo a n:Nat}{A:Option Addr}{rs:List Rec}{o:Option Nat}(h:RecsOff w lo o A n rs)(d:a<=lo):RecsOff w a o A n rs:=
 ⟨h.1,λk r hr=>by
  obtain⟨b,f,Ad,nd,cd,Af,nf,cf,e,hb,q,o1,o2⟩:=h.2 k r hr
  exact⟨b,f,Ad,nd,cd,Af,nf,cf,e,hb,⟨aP d q.lob,q.hib,q.cells,q.ld,q.lf,q.lod.lower d,q.lof.lower d⟩,o1,o2⟩⟩
def sU (x:Blk)(A:Option Addr)(n c:Nat):Array Value:=#[.int .i64 x.thread,.int .i64 x.first,.slice A n c]
def BlksAt (w:World)(lo:Nat)(o:Option Nat)(css:List Value)(xs:List Blk):Prop:=
 css.length=xs.length*3/\∀k x,xs[k]?=some x->∃(A:Option Addr) (n c:Nat),(∀j u,(sU x A n c)[j]?=some u->css[k*3+j]?=some u)/\RecsOff w lo o A n x.recs/\n<=c/\c<=maxLen/\(A=none->c=0)
theorem BlksAt.nil (w:World)(lo:Nat)(o:Option Nat):BlksAt w lo o [] []:=⟨rfl,λk x hx=>by simp at hx⟩
theorem BlksAt.grow {w w':World}{lo:Nat}{o o':Option Nat}{css:List Value}{xs:List Blk}(h:BlksAt w lo o css xs)(hg:w.grownBy w' o)(a:At w o o'):BlksAt w' lo o' css xs:=
 ⟨h.1,λk x hx=>by
  obtain⟨A,n,c,d,u,y⟩:=h.2 k x hx
  exact⟨A,n,c,d,u.grow hg a,y⟩⟩
theorem BlksAt.keep {w w':World}{lo:Nat}{o row:Option Nat}{css:List Value}{xs:List Blk}(h:BlksAt w lo o css xs)(hg:w.grownBy w' row)(hr:∀g,row=some g->g<lo):BlksAt w' lo o css xs:=
 ⟨h.1,λk x hx=>by
  obtain⟨A,n,c,a,d,u⟩:=h.2 k x hx
  exact⟨A,n,c,a,d.keep hg hr,u⟩⟩
theorem BlksAt.snoc {w:World}{lo:Nat}{o:Option Nat}{css:List Value}{xs:List Blk}(h:BlksAt w lo o css xs){x:Blk}{A:Option Addr}{n c:Nat}(hr:RecsOff w lo o A n x.recs)(hnc:n<=c)(d:c<=maxLen)(ho:A=none->c=0):BlksAt w lo o (css++(sU x A n c).toList) (xs++[x]):=by refine⟨by rw[bG,h.1,bG];unfold sU;simp[iq],λk y a=>?_⟩;by_cases hk:k<xs.length;rw[jI hk] at a;obtain⟨A',E,G,H,I⟩:=h.2 k y a;refine⟨A',E,G,λj u B=>?_,I⟩;have:=H j u B;rw[jI (bV.1 this).1];exact this;have J:k<xs.length+1:=(by have:=(bV.1 a).1;simpa using this);have D:k=xs.length:=(by omega);subst D;rw[jJ (ax _),rD] at a;simp only[uU,jA] at a;subst a;refine⟨A,n,c,λj u B=>?_,hr,hnc,d,ho⟩;rw[jJ (by rw[h.1];omega),h.1,MB];simpa using B
theorem XB (x:Blk)(A:Option Addr)(n c:Nat):∀u∈(sU x A n c).toList,u.oneCell'=true:=by intro u a;simp only[sU,dV,jK,or_false] at a;rcases a with h|h|h<;>rw[h]<;>rfl
theorem XC:(Tryz.prog.info? 50).map (λi=>(i.zero,i.size,i.bytes))=some (some (.agg #[.int .i64 0,.int .i64 0,.slice none 0 0]),3,40):=by kernel_rfl
theorem XD (w:World)(x:Blk)(A:Option Addr)(n c:Nat):
 Lies (w.alloc (.cells (sU x A n c) 50)) (w.alloc (.cells (sU x A n c) 50)).heap.size 3 (some ⟨w.heap.size,0,none⟩) 1 (sU x A n c).toList:=by obtain⟨A',y,a,_,_,d,_⟩:=ai (World.ownsRow_lit (base:=w.heap.size) (e:=50) (size:=3) w (sU x A n c) 1 (ax _) (by unfold maxLen;omega) rfl);injection a with u;subst u;exact d
def aaS (l:List (Blk×Nat))(w:World)(e:Ending)(w':World):Prop:=
 ∃v css,e= .returned (.tuple #[v,.int .i64 (sizeB l:Int)])/\w'.ownsRow w.heap.size 50 3 v l.length css/\BlksAt w' w.heap.size v.ownBlock css (l.map (·.1))/\w.grownBy w' none
theorem NY (b:Bytes)(t:UInt8)(first:Int)(n:Nat)(size:Int)(from_ end_:Nat):(∀r∈(rE b t first n size from_ end_).1.recs,RecOk r)/\(rE b t first n size from_ end_).1.recs.length<=n:=by
 cases h:nX b t n size from_ end_ with
 |none=>rw [EF h];exact⟨λr hr=>by simp[aW] at hr,by simp[aW]⟩
 |
  some l=>
  obtain⟨h1,h2,h3⟩:=EG (first:=first) h;rw[h1];split;exact⟨h3,pK h2⟩;exact⟨λr hr=>by simp[aW] at hr,by simp[aW]⟩
theorem Vq (b:Bytes):(∀r∈(Iv.decode b).1.recs,RecOk r)/\(Iv.decode b).1.recs.length<=64:=by have a:(∀r∈aW.recs,RecOk r)/\aW.recs.length<=64:=⟨λr hr=>by simp[aW] at hr,by simp[aW]⟩;unfold Iv.decode jb;split;exact a;split;exact a;split;exact a;split;exact a;split;exact a;rename_i hb;split;exact a;split;exact a;have h1:=FM (by simpa using hb);exact⟨(NY _ _ _ _ _ _ _).1,aP (NY _ _ _ _ _ _ _).2 (by omega)⟩
theorem JC {W0 wr w1:World}{o:Option Nat}(h:W0.grownBy wr none)(hg:wr.grownBy w1 o)(ho:∀g,o=some g->W0.heap.size<=g):W0.grownBy w1 none:=by
 refine af h hg ?_
 cases o with
 |none=>exact .inl rfl
 |some g=>exact .inr ⟨g,rfl,ho g rfl⟩
theorem abu (w:World)(x:Blk)(A:Option Addr)(n c:Nat):∀j u,(sU x A n c).toList[j]?=some u->(w.alloc (.cells (sU x A n c) 50)).cell? ((⟨w.heap.size,0,none⟩:Addr).add j)=some u:=by obtain⟨a,e,_,hc⟩:=(XD w x A n c).2 (by omega);injection e with e;subst e;exact hc
theorem abC:(Tryz.prog.info? 52).map (λi=>(i.zero,i.size,i.bytes))=some (some (.agg #[.int .i64 0,.int .i64 0,.int .i64 0,.int .i64 0,.int .i64 0,.slice none 0 0,.slice none 0 0]),7,88):=by kernel_rfl
theorem abD (r:Ev)(Ad:Option Addr)(nd cd:Nat)(Af:Option Addr)(nf cf:Nat):∀u∈(evV r Ad nd cd Af nf cf).toList,u.oneCell'=true:=by intro v a;simp only[evV,dV,jK,or_false] at a;rcases a with h|h|h|h|h|h|h<;>rw[h]<;>rfl
def Rng (lo B:Nat)(row:Option Nat):Prop:=∀g,row=some g->g<lo\/B<=g
theorem Rng.none (lo B:Nat):Rng lo B none:=λg e=>nomatch e
structure RecB (w:World)(lo B b o:Nat)(r:Rec)(Ad:Option Addr)(nd cd:Nat)(Af:Option Addr)(nf cf:Nat):Prop where
 lob:lo<=b
 hib:b<B
 cells:∀j u,(recV r Ad nd cd Af nf cf)[j]?=some u->w.cell? ⟨b,o+j,none⟩=some u
 ld:Lies w B 1 Ad nd (r.ev.deps.map iv)
 lf:Lies w B 1 Af nf (r.ev.from_.map iv)
 lod:Lo lo Ad nd
 lof:Lo lo Af nf
theorem gX {w w':World}{lo B sz n:Nat}{A:Option Addr}{xs:List Value}{row:Option Nat}(h:Lies w B sz A n xs)(d:Lo lo A n)(hg:w.grownBy w' row)(hB:B<=w.heap.size)(hr:Rng lo B row):Lies w' B sz A n xs:=by refine⟨h.1,λhn=>?_⟩;obtain⟨a,e,hb,hc⟩:=h.2 hn;refine⟨a,e,hb,λj u y=>?_⟩;refine qL (lW (hg.block (a.add j).block (by rw[addBlock];omega) ?_)) (hc j u y);rw[addBlock];intro D;have h1:=d hn a e;have h2:=hr _ D.symm;omega
theorem RecB.keep {w w':World}{lo B b o:Nat}{r:Rec}{Ad:Option Addr}{nd cd:Nat}{Af:Option Addr}{nf cf:Nat}{row:Option Nat}(h:RecB w lo B b o r Ad nd cd Af nf cf)(hg:w.grownBy w' row)(hB:B<=w.heap.size)(hr:Rng lo B row):RecB w' lo B b o r Ad nd cd Af nf cf:=
 ⟨h.lob,h.hib,λj u a=>qL (lW (hg.block b (by have:=h.hib;omega) (λe=>by have h1:=hr b e.symm;have h2:=h.lob;have h3:=h.hib;omega))) (h.cells j u a),gX h.ld h.lod hg hB hr,gX h.lf h.lof hg hB hr,h.lod,h.lof⟩
structure EvB (w:World)(lo B:Nat)(css:List Value)(k:Nat)(r:Ev)(Ad:Option Addr)(nd cd:Nat)(Af:Option Addr)(nf cf:Nat):Prop where
 cells:∀j u,(evV r Ad nd cd Af nf cf)[j]?=some u->css[k*7+j]?=some u
 ld:Lies w B 1 Ad nd (r.deps.map iv)
 lf:Lies w B 1 Af nf (r.from_.map iv)
 lod:Lo lo Ad nd
 lof:Lo lo Af nf
def EvsB (w:World)(lo B:Nat)(css:List Value)(rs:List Ev):Prop:=
 css.length=rs.length*7/\∀k r,rs[k]?=some r->∃(Ad:Option Addr) (nd cd:Nat) (Af:Option Addr) (nf cf:Nat),EvB w lo B css k r Ad nd cd Af nf cf
theorem EvsB.nil (w:World)(lo B:Nat):EvsB w lo B [] []:=⟨rfl,λk r hr=>by simp at hr⟩
theorem EvsB.keep {w w':World}{lo B:Nat}{css:List Value}{rs:List Ev}{row:Option Nat}(h:EvsB w lo B css rs)(hg:w.grownBy w' row)(hB:B<=w.heap.size)(hr:Rng lo B row):EvsB w' lo B css rs:=
 ⟨h.1,λk r hk=>by
  obtain⟨Ad,nd,cd,Af,nf,cf,q⟩:=h.2 k r hk
  exact⟨Ad,nd,cd,Af,nf,cf,q.cells,gX q.ld q.lod hg hB hr,gX q.lf q.lof hg hB hr,q.lod,q.lof⟩⟩
theorem EvsB.snoc {w:World}{lo B:Nat}{css:List Value}{rs:List Ev}(h:EvsB w lo B css rs){r:Ev}{Ad:Option Addr}{nd cd:Nat}{Af:Option Addr}{nf cf:Nat}
 (h1:Lies w B 1 Ad nd (r.deps.map iv)) (h2:Lies w B 1 Af nf (r.from_.map iv)) (h3:Lo lo Ad nd) (h4:Lo lo Af nf):EvsB w lo B (css++(evV r Ad nd cd Af nf cf).toList) (rs++[r]):=by refine⟨by rw[bG,h.1,bG];unfold evV;simp[iq],λk q a=>?_⟩;by_cases hk:k<rs.length;rw[jI hk] at a;obtain⟨D,E,G,H,I,d,z⟩:=h.2 k q a;refine⟨D,E,G,H,I,d,λj u y=>?_,z.ld,z.lf,z.lod,z.lof⟩;have:=z.cells j u y;rw[jI (bV.1 this).1];exact this;have J:k<rs.length+1:=(by have:=(bV.1 a).1;simpa using this);have A:k=rs.length:=(by omega);subst A;rw[jJ (ax _),rD] at a;simp only[uU,jA] at a;subst a;refine⟨Ad,nd,cd,Af,nf,cf,λj u y=>?_,h1,h2,h3,h4⟩;rw[jJ (by rw[h.1];omega),h.1,MB];simpa using y
def RecsB (w:World)(lo B:Nat)(A:Option Addr)(n:Nat)(rs:List Rec):Prop:=
 rs.length=n/\∀k r,rs[k]?=some r->∃(b o:Nat) (Ad:Option Addr) (nd cd:Nat) (Af:Option Addr) (nf cf:Nat),A=some ⟨b,o,none⟩/\RecB w lo B b (o+k*8) r Ad nd cd Af nf cf
def BlksB (w:World)(lo B:Nat)(css:List Value)(xs:List Blk):Prop:=
 css.length=xs.length*3/\∀k x,xs[k]?=some x->∃(A:Option Addr) (n c:Nat),(∀j u,(sU x A n c)[j]?=some u->css[k*3+j]?=some u)/\RecsB w lo B A n x.recs/\n<=c/\c<=maxLen/\(A=none->c=0)
theorem BlksAt.toB {w:World}{lo:Nat}{o:Option Nat}{css:List Value}{xs:List Blk}(h:BlksAt w lo o css xs):BlksB w lo w.heap.size css xs:=
 ⟨h.1,λk x hx=>by
  obtain⟨A,n,c,d,a,u⟩:=h.2 k x hx
  refine⟨A,n,c,d,⟨a.1,λi r hr=>?_⟩,u⟩
  obtain⟨b,f,Ad,nd,cd,Af,nf,cf,e,hb,q,o1,o2⟩:=a.2 i r hr
  exact⟨b,f,Ad,nd,cd,Af,nf,cf,e,q.lob,q.hib,q.cells,q.ld,q.lf,q.lod,q.lof⟩⟩
theorem RecsB.keep {w w':World}{lo B n:Nat}{A:Option Addr}{rs:List Rec}{row:Option Nat}(h:RecsB w lo B A n rs)(hg:w.grownBy w' row)(hB:B<=w.heap.size)(hr:Rng lo B row):RecsB w' lo B A n rs:=
 ⟨h.1,λi r hi=>by
  obtain⟨b,f,Ad,nd,cd,Af,nf,cf,e,q⟩:=h.2 i r hi
  exact⟨b,f,Ad,nd,cd,Af,nf,cf,e,q.keep hg hB hr⟩⟩
theorem BlksB.keep {w w':World}{lo B:Nat}{css:List Value}{xs:List Blk}{row:Option Nat}(h:BlksB w lo B css xs)(hg:w.grownBy w' row)(hB:B<=w.heap.size)(hr:Rng lo B row):BlksB w' lo B css xs:=
 ⟨h.1,λk x hx=>by
  obtain⟨A,n,c,a,d,u⟩:=h.2 k x hx
  exact⟨A,n,c,a,d.keep hg hB hr,u⟩⟩
theorem RecsB.src {w:World}{lo B n:Nat}{A:Option Addr}{rs:List Rec}(h:RecsB w lo B A n rs)(hB:B<=w.heap.size):∃news:List Value,Lies w B 8 A n news/\(∀u∈news,u.oneCell'=true)/\
 ∀(base:Nat) (o:Option Nat) (css:List Value) (a:List Rec),base<=lo->Rng lo B o->RowsAt w base o css a->RowsAt w base o (css++news) (a++rs):=by
 obtain⟨hn,hk⟩:=h
 have key:∀m,m<=n->∃news:List Value,news.length=m*8/\(∀u∈news,u.oneCell'=true)/\(∀b f,A=some ⟨b,f,none⟩->∀j u,news[j]?=some u->w.cell? ⟨b,f+j,none⟩=some u)/\
  ∀(base:Nat) (o:Option Nat) (css:List Value) (a:List Rec),base<=lo->Rng lo B o->RowsAt w base o css a->RowsAt w base o (css++news) (a++rs.take m):=by
  intro m;induction m with
  |zero=>intro _;exact⟨[],rfl,λu y=>by simp at y,λb f _ j u y=>by simp at y,λbase o css a _ _ h0=>by simpa using h0⟩
  |
   succ m ih=>
   intro hm;obtain⟨news,h1,h2,h3,h4⟩:=ih (by omega);have E:rs[m]?=some rs[m]:=aV (by omega);obtain⟨b,f,Ad,nd,cd,Af,nf,cf,e,q⟩:=hk m rs[m] E;refine⟨news++(recV rs[m] Ad nd cd Af nf cf).toList,by rw[bG,h1];simp[recV];omega,λu y=>?_,λN O d j u y=>?_,λbase o css a hb ho h0=>?_⟩;rcases jM.1 y with h|h;exact h2 u h;simp only[recV,dV,jK,or_false] at h;rcases h with h|h|h|h|h|h|h|h<;>rw[h]<;>rfl;rw[e] at d;injection d with d;injection d with e1 e2;subst e1 e2;by_cases J:j<news.length;rw[jI J] at y;exact h3 _ _ e j u y;rw[jJ (by omega),h1] at y;have:=q.cells (j-m*8) u (by rwa [dH] at y);rw[show f+m*8+(j-m*8)=f+j by omega] at this;exact this
   . have:=(h4 base o css a hb ho h0).snoc (r:=rs[m]) (Ad:=Ad) (nd:=nd) (cd:=cd) (Af:=Af) (nf:=nf) (cf:=cf) (q.ld.more hB) (q.lf.more hB)
      (λhn G e D=>by have h5:=q.lod hn G e;have L:=ho _ D.symm;obtain⟨H,d,I,_⟩:=q.ld.2 hn;rw[e] at d;injection d with d;subst d;omega)
      (λhn G e D=>by have h5:=q.lof hn G e;have L:=ho _ D.symm;obtain⟨H,d,I,_⟩:=q.lf.2 hn;rw[e] at d;injection d with d;subst d;omega)
      (q.lod.lower hb) (q.lof.lower hb)
     rw[fU,fU] at this;rw[oP,E];exact this
 obtain⟨news,h1,h2,h3,h4⟩:=key n (ax _);refine⟨news,⟨h1,λh0=>?_⟩,h2,λbase o css a hb ho h0=>by have:=h4 base o css a hb ho h0;rwa [<-hn,oQ] at this⟩;obtain⟨b,f,Ad,nd,cd,Af,nf,cf,e,q⟩:=hk 0 (rs[0]'(by omega)) (aV (by omega));refine⟨⟨b,f,none⟩,e,q.hib,λj u y=>?_⟩;rw[show (⟨b,f,none⟩:Addr).add j=⟨b,f+j,none⟩ by unfold Addr.add;split<;>simp_all];exact h3 b f e j u y
def FIn (w:World)(B:Nat)(A:Option Addr)(n:Nat)(fs:List Bytes):Prop:=
 fs.length=n/\∀k f,fs[k]?=some f->∃(b o:Nat) (Ai:Option Addr) (ni ci:Nat),A=some ⟨b,o,none⟩/\b<B/\w.cell? ⟨b,o+k,none⟩=some (.slice Ai ni ci)/\Lies w B 1 Ai ni (f.map bv)/\ni<=ci/\ci<=maxLen/\(Ai=none->ci=0)
theorem FIn.grown {w w':World}{B n:Nat}{A:Option Addr}{fs:List Bytes}{row:Option Nat}(h:FIn w B A n fs)(hg:w.grownBy w' row)(hB:B<=w.heap.size)(hr:∀g,row=some g->B<=g):FIn w' B A n fs:=
 ⟨h.1,λk f hf=>by
  obtain⟨b,o,a,d,u,e,hb,hc,y,q⟩:=h.2 k f hf
  exact⟨b,o,a,d,u,e,hb,qL (lW (hg.block b (by omega) (λD=>by have:=hr b D.symm;omega))) hc,y.grown hg hB hr,q⟩⟩
theorem adr {w:World}{base lo B n c:Nat}{A:Option Addr}{css:List Value}{E:List Ev}(a:w.ownsRow base 52 7 (.slice A n c) n css)(h:EvsB w lo B css E)(hB:B<=w.heap.size)(hn:E.length=n):Evs w w.heap.size A n E:=by refine⟨hn,λk e he=>?_⟩;have hk:k<n:=(by have:=(bV.1 he).1;omega);obtain⟨Ad,nd,cd,Af,nf,cf,q⟩:=h.2 k e he;obtain⟨g,I,y,D,d⟩:=a.form (by omega);injection y with G _ _;subst G;have hc:=a.cells (g:=g) rfl;have l1:=q.ld.lenI;have l2:=q.lf.lenI;refine⟨g,0,Ad,cd,Af,cf,rfl,d,λj u H=>?_,?_,?_⟩;have:=hc (k*7+j) u (q.cells j u (by unfold evV;rw[<-l1,<-l2];exact H));rw[show (⟨g,0,none⟩:Addr).add (k*7+j)=⟨g,0+k*7+j,none⟩ by unfold Addr.add;split<;>simp_all] at this;exact this;rw[l1];exact q.ld.more hB;rw[l2];exact q.lf.more hB
end Go.Proofs.YtfbkkgfkhhibfaaGreat
namespace Go.Proofs.YtfbkkgfkhhibfaaGreat
open Go Go.RowKit Go.Shelf Iv
attribute [local go_sem] Oper.semAt_some
structure Kept (B gb gt:Nat)(w w':World):Prop where
 size:w.heap.size<=w'.heap.size
 b:w'.heap[gb]?=w.heap[gb]?
 t:w'.heap[gt]?=w.heap[gt]?
 low:∀k,k<B->w'.heap[k]?=w.heap[k]?
theorem Kept.lies {B gb gt sz n:Nat}{w w':World}{A:Option Addr}{xs:List Value}(h:Kept B gb gt w w')(a:Lies w B sz A n xs):Lies w' B sz A n xs:=
 a.same λp d=>lW (h.low p.block d)
def YS (w:World)(g:Nat):Nat:=match w.cell? ⟨g,0,none⟩ with|some (.slice _ n _)=>n|_=>0
theorem xQ {w:World}{g n c:Nat}{A:Option Addr}{t:TypeId}(h:Held w g t #[.slice A n c]):YS w g=n:=by unfold YS;rw[show w.cell? ⟨g,0,none⟩=some (.slice A n c) from h.cell 0]
theorem EC {w:World}{lo n g:Nat}{A:Option Addr}{rs:List Rec}(h:RecsNew w lo A n rs)(hg:g<lo)(v:Value):RecsNew (w.setCell ⟨g,0,none⟩ v) lo A n rs:=
 (((h.off (o:=some g) (λx e=>by cases e;exact hg)).grow (o':=some g) (ah w g 0 v) (.inl rfl)).new)
theorem Yz (n:Nat)(hn:1<=n)(l gb gt:Nat)(A:Option Addr)(y c B:Nat)(xs:Bytes)(th:Int)(w:World)
 (h:Lies w B 1 A y (xs.map bv)) (hB:B<=gb) (ba:gb≠gt) (hnc:y<=c) (bB:c<=maxLen) (ho:A=none->c=0) (c7:y<=1000000)
 (U:Held w gb 22 #[.slice A y c]) (Z:Held w gt 3 #[.int .i64 th])
 (J:List (Blk×Nat)->World->Prop) (hJ:∀p W W',J p W->W.grownBy W' (some gb)->J p W') (h0:J [] w)
 (hY:∀pre x k (W0 W:World) (A':Option Addr) (n' c':Nat),J pre W0->W0.grownBy W (some gb)->RecsNew W W0.heap.size A' n' x.recs->n'<=c'->c'<=maxLen->(A'=none->c'=0)->pre.length<=sizeB pre->sizeB pre+k<=y->
  YieldAt Fence.wide (n-1) Tryz.prog l #[.agg #[.int .i64 x.thread,.int .i64 x.first,.slice A' n' c'],.int .i64 (k:Int)] W λe W'=>e= .returned (.bool true)/\J (pre++[(x,k)]) W'/\Kept B gb gt W W'):
 CallsIn Fence.wide n Tryz.prog 85 #[.func (.yield l) #[] #[],.pointer (some ⟨gb,0,none⟩),.pointer (some ⟨gt,0,none⟩)] w λe w'=>(∃v,e= .returned v)/\J (aN th xs 0 (-1)) w':=by
 have bF:=ae h.lenB;have bc:=ae ba;have HJ:=ae hJ;have HY:=ae hY;have c9:1<=n-1+1:=(by omega);unfold maxLen at bB
 have bd:∃(k:Nat) (rc la:Int) (done:List (Blk×Nat)) (G:Option Addr) (H:Nat),Value.int .i64 0= .int .i64 rc/\Value.int .i64 (-1)= .int .i64 la/\k<=y/\(0<=rc/\rc<=1000)/\inI64 la/\Held w gb 22 #[.slice G (y-k) H]/\Held w gt 3 #[.int .i64 th]/\Lies w B 1 G (y-k) ((xs.drop k).map bv)/\y-k<=H/\H<=maxLen/\(G=none->H=0)/\J done w/\done++aN th (xs.drop k) rc la=aN th xs 0 (-1)/\sizeB done=k/\done.length<=k:=
  ⟨0,0,-1,[],A,c,rfl,rfl,aG _,⟨by omega,by omega⟩,⟨by omega,by omega⟩,U,Z,h,hnc,by unfold maxLen;omega,ho,h0,rfl,rfl,ax _⟩
 have bN:=ae bd;clear h ho hJ hY h0 U Z bd ba;refine callsIn_of_wp Tryz.func85 rfl trivial ?_ rfl;simp only[Tryz.ntmps85,uX,iO,yJ,Nat.reduceAdd,Nat.reduceSub,Yw,Yx,List.push_toArray,Yy,lN,Dy];gi_wp2_with fail;gi_loopw [4,5] (λcv qv wr=>∃(k:Nat) (rc la:Int) (done:List (Blk×Nat)) (G:Option Addr) (H:Nat),cv= .int .i64 rc/\qv= .int .i64 la/\k<=y/\(0<=rc/\rc<=1000)/\inI64 la/\Held wr gb 22 #[.slice G (y-k) H]/\Held wr gt 3 #[.int .i64 th]/\Lies wr B 1 G (y-k) ((xs.drop k).map bv)/\y-k<=H/\H<=maxLen/\(G=none->H=0)/\J done wr/\done++aN th (xs.drop k) rc la=aN th xs 0 (-1)/\sizeB done=k/\done.length<=k) (λ_ _ wr=>YS wr gb)
 case atStart=>exact bN.o
 case round=>
  obtain⟨k,rc,la,done,G,H,rfl,rfl,hk,⟨ca,cc⟩,hla,U,Z,hl,xn,hcm2,ho2,hJd,hall,hsz,hdl⟩:=hrel;obtain⟨d,hd⟩:∃d,d=Iv.decode (xs.drop k):=⟨_,rfl⟩;have CD:=ae (NP G (y-k) H B (xs.drop k) wr hl (by have:=U.lt;omega) xn hcm2 ho2 (by omega));rw[<-hd] at CD;have HD:=ae hd;have HL:=ae hl;have cg:=ae hla;have CZ:=ae ho2;have aw:=ae U;have bf:=ae Z;have b0:=ae hJd;have NF:=ae hall;have N:=ae hsz;have xb:wr.cell? ⟨gb,0,none⟩=some (.slice G (y-k) H):=U.cell 0;unfold maxLen at hcm2;clear hd hl hla ho2 U Z hJd hall hsz;gi_wp2_with fail;refine⟨trivial,?_⟩;refine (callsIn_wide.2 CD.o).mono ?_;rintro e w2 ⟨A2,n2,c2,rfl,YT,b1,Ba,Bc,bh⟩;obtain⟨⟨V,O,rs⟩,sz,er⟩:=d;dsimp only at YT|-;have cj:wr.heap.size<=w2.heap.size:=b1.size;obtain⟨X,aD⟩:∃X,X=w2.alloc (.cells #[.int .i64 V,.int .i64 O,.slice A2 n2 c2] 50):=⟨_,rfl⟩;have pq:w2.grownBy X none:=(by rw[aD];exact aY w2 _ none);have aL:=af b1 pq (.inl rfl);have vU:=ae (YT.keep pq nofun);have LV:=ae aL;have aM:=aw.o.grown aL nofun;have a6:=bf.o.grown aL nofun;have ar:gb<wr.heap.size:=aw.o.lt;have cm:gt<wr.heap.size:=bf.o.lt;have xt:X.cell? ⟨gt,0,none⟩=some (.int .i64 th):=a6.cell 0;have bO:X.cell? ⟨gb,0,none⟩=some (.slice G (y-k) H):=aM.cell 0;have xf:X.frozen? ⟨gb,0,none⟩=false:=aM.free 0;have bj:=ae aM;have bk:=ae a6;have E:=ae aD;rw[aD] at xt bO xf;have av:∀W',X.grownBy W' none->aN th (xs.drop k) rc la=[]->(∃v,Ending.returned (Value.tuple #[])= .returned v)/\J (aN th xs 0 (-1)) W':=(by intro W' bR b9;have I:=af LV.o bR (.inl rfl);rw[<-NF.o,b9,pY];exact⟨⟨_,rfl⟩,HJ.o _ _ _ b0.o (fA I _)⟩);have FH:=ae av;clear xb aD b1 pq aL aM a6 av YT;by_cases he:er=0
  . subst he;by_cases ht:V=th
    . subst ht;by_cases hf:O=rc
      . subst hf;obtain⟨f0,fk,fl,fp⟩:=sS HD.o.symm;obtain⟨z0,z1,z2,z3,z4,z5,z6⟩:=fF f0;have bl:rs.length=n2:=vU.o.1;dsimp only at z0 z1 z4 z5;have cn:(xs.drop k).length=y-k:=(by rw[qp,bF.o]);obtain⟨r0,Vp⟩:∃r0,rs[0]?=some r0:=⟨rs[0],aV z0⟩;obtain⟨m,hm⟩:∃m,n2=m+1:=⟨n2-1,by omega⟩;obtain⟨rl,a7⟩:∃rl,rs[m]?=some rl:=⟨rs[m],aV (by omega)⟩;obtain⟨b,o,_,_,_,_,_,_,rfl,q0⟩:=vU.o.2 0 r0 Vp;obtain⟨b',o',_,_,_,_,_,_,eA,ql⟩:=vU.o.2 m rl a7;injection eA with eA;injection eA with bS eA2;subst bS eA2;have y0:X.cell? ⟨b,o,none⟩=some (.int .i64 r0.seq):=(by have:=q0.cells 0 (.int .i64 r0.seq) rfl;simpa using this);have yl:X.cell? ⟨b,o+m*8,none⟩=some (.int .i64 rl.seq):=(by have:=ql.cells 0 (.int .i64 rl.seq) rfl;simpa using this);rw[E.o] at y0 yl;have i0:(n2==0)=false:=(by simp;omega);have i1:(0:Int)<(n2:Int):=(by omega);have i4:((n2:Int)==0)=false:=(by simp;omega);obtain⟨bm,b2⟩:∃bm,rs=r0::bm:=by
         cases rs with
         |nil=>simp at Vp
         |cons a l=>simp at Vp;exact⟨l,by rw[Vp]⟩
        have bn:Hid (oH V O la (Iv.decode (xs.drop k))=decide (la<r0.seq)):=ae (by rw[<-HD.o];unfold oH;rw[b2];simp);by_cases hq:r0.seq<=la
        . have QX:=ae (show aN V (xs.drop k) O la=[] from gV (by rw[bn.o];exact eX (by omega)));clear b2 fp fk fl f0 Vp a7 hm bl;gi_wp2_with fail;refine iw (vZ rfl _ _ _) rfl ?_;exact FH.o _ (by rw[E.o];exact bI _ none) QX.o
        . have bo:=ae (nD (th:=V) (recs:=O) (last:=la) (b:=xs.drop k) (by rw[bn.o];exact decide_eq_true (by omega)));have bp:Hid (jR (⟨V,O,rs⟩:Blk) la=rl.seq):=ae (by unfold jR;dsimp only;rw[List.getLast?_eq_getElem?,show rs.length-1=m by omega,a7]);have bq:=ae ((Vq (xs.drop k)).1 rl (by rw[<-HD.o];exact iC a7)).seq;have br:sz<=y-k:=(by omega);have bt:=ae (show 0<=O+(n2:Int)/\O+(n2:Int)<=1000 by omega);have cq:0<sz:=fp;have cr:(n2:Int)-1=(m:Int):=(by omega);have aR:k+sz<=y:=(by omega);have cw:IntKind.i64.wrap (O+(n2:Int))=O+(n2:Int):=gQ _ (by omega);have cx:IntKind.i64.wrap (m:Int)=(m:Int):=gQ _ (by omega);have i2:(0:Int)<=(m:Int):=(by omega);have i3:(m:Int)<(n2:Int):=(by omega);have j1:(0:Int)<=(sz:Int):=(by omega);have j2:(sz:Int)<=((y-k:Nat):Int):=(by omega);have j3:(sz:Int)<=(H:Int):=(by omega);clear b2 fk fl f0 Vp a7 hm bl;by_cases bx:sz=H
          . subst bx;obtain⟨D,u⟩:∃D,D=X.setCell ⟨gb,0,none⟩ (Value.slice G 0 0):=⟨_,rfl⟩;have I:wr.grownBy D (some gb):=(by rw[u];exact af (fA LV.o _) (ah X gb 0 _) (.inl rfl));have a8:Held D gb 22 #[Value.slice G 0 0]:=(by rw[u];exact bj.o.store 0 _);have aa:Held D gt 3 #[.int .i64 V]:=(by rw[u];exact bk.o.far (λe=>bc.o e.symm) _);have ab:RecsNew D wr.heap.size (some ⟨b,o,none⟩) n2 rs:=(by rw[u];exact EC vU.o ar _);have b3:=HY.o done ⟨V,O,rs⟩ sz wr D (some ⟨b,o,none⟩) n2 c2 b0.o I ab Ba Bc bh (by rw[N.o];exact hdl) (by rw[N.o];exact aR);obtain⟨fn,tmps,assign,body,hy,Y⟩:=b3;dsimp only at hy;have ad:Lies D B 1 (G) (y-k-sz) (((xs.drop k).map bv).drop (sz*1)):=(by have:=HL.o.dropIf (k:=sz) br xn;rw[if_pos rfl] at this;simpa using this:Lies wr B 1 (G) (y-k-sz) (((xs.drop k).map bv).drop (sz*1))).grown I (by omega) (λg e=>by cases e;exact hB);have al:=ae a8;have b4:=ae aa;have b5:=ae ad;rw[u,E.o] at hy;have an:=ae u;have b6:=ae Y;clear u a8 aa ad ab Y I;gi_wp2_with fail;have Y:=b6.o;rw[an.o,E.o] at Y;refine Y.mono ?_;rintro e W4 ⟨rfl,ao,aq⟩;have YU:Kept B gb gt D W4:=(by rw[an.o,E.o];exact aq);have b8:=ae ao;have L:=ae YU;clear ao aq YU hy Y;gi_wp2_with fail;go_roundw
            case rel=>exact ⟨k+sz,O+(n2:Int),rl.seq,done++[(⟨V,O,rs⟩,sz)],G,0,rfl,rfl,aR,bt.o,bq.o,(L.o.b.trans (by rw[show y-(k+sz)=0 by omega];exact al.o)),L.o.t.trans b4.o,by
             have:=L.o.lies b5.o;rw[lY,<-qK,ED] at this;rw[show y-(k+sz)=y-k-sz by omega];exact this,by omega,by unfold maxLen;omega,λe=>rfl,b8.o,by
             rw[<-NF.o,bo.o,<-HD.o,fU];dsimp only;rw[bp.o,ED,vU.o.1];rfl,by unfold sizeB at N|-;rw[eU,QI,N.o];simp,by rw[bG];simp;omega⟩
            case measure=>rw[xQ (L.o.b.trans al.o),xQ aw.o];omega
          . have c6:¬(H:Int)=(sz:Int):=(by omega);obtain⟨D,u⟩:∃D:World,D=D:=⟨w,rfl⟩;clear u D;obtain⟨D,u⟩:∃D,D=X.setCell ⟨gb,0,none⟩ (Value.slice (G.map λx=>x.add sz) (y-k-sz) (H-sz)):=⟨_,rfl⟩;have I:wr.grownBy D (some gb):=(by rw[u];exact af (fA LV.o _) (ah X gb 0 _) (.inl rfl));have a8:Held D gb 22 #[Value.slice (G.map λx=>x.add sz) (y-k-sz) (H-sz)]:=(by rw[u];exact bj.o.store 0 _);have aa:Held D gt 3 #[.int .i64 V]:=(by rw[u];exact bk.o.far (λe=>bc.o e.symm) _);have ab:RecsNew D wr.heap.size (some ⟨b,o,none⟩) n2 rs:=(by rw[u];exact EC vU.o ar _);have b3:=HY.o done ⟨V,O,rs⟩ sz wr D (some ⟨b,o,none⟩) n2 c2 b0.o I ab Ba Bc bh (by rw[N.o];exact hdl) (by rw[N.o];exact aR);obtain⟨fn,tmps,assign,body,hy,Y⟩:=b3;dsimp only at hy;have ad:Lies D B 1 (G.map λx=>x.add sz) (y-k-sz) (((xs.drop k).map bv).drop (sz*1)):=(by have:=HL.o.dropIf (k:=sz) br xn;rw[if_neg (λe=>bx e.symm)] at this;simpa using this:Lies wr B 1 (G.map λx=>x.add sz) (y-k-sz) (((xs.drop k).map bv).drop (sz*1))).grown I (by omega) (λg e=>by cases e;exact hB);have al:=ae a8;have b4:=ae aa;have b5:=ae ad;rw[u,E.o] at hy;have an:=ae u;have b6:=ae Y;clear u a8 aa ad ab Y I;gi_wp2_with fail;have Y:=b6.o;rw[an.o,E.o] at Y;refine Y.mono ?_;rintro e W4 ⟨rfl,ao,aq⟩;have YU:Kept B gb gt D W4:=(by rw[an.o,E.o];exact aq);have b8:=ae ao;have L:=ae YU;clear ao aq YU hy Y;gi_wp2_with fail;go_roundw
            case rel=>exact ⟨k+sz,O+(n2:Int),rl.seq,done++[(⟨V,O,rs⟩,sz)],G.map λx=>x.add sz,H-sz,rfl,rfl,aR,bt.o,bq.o,(L.o.b.trans (by rw[show y-(k+sz)=y-k-sz by omega];exact al.o)),L.o.t.trans b4.o,by
             have:=L.o.lies b5.o;rw[lY,<-qK,ED] at this;rw[show y-(k+sz)=y-k-sz by omega];exact this,by omega,by unfold maxLen;omega,λe=>by have:=CZ.o (by simpa using e);omega,b8.o,by
             rw[<-NF.o,bo.o,<-HD.o,fU];dsimp only;rw[bp.o,ED,vU.o.1];rfl,by unfold sizeB at N|-;rw[eU,QI,N.o];simp,by rw[bG];simp;omega⟩
            case measure=>rw[xQ (L.o.b.trans al.o),xQ aw.o];omega
      . have cy:(O !=rc)=true:=(by rw[kS];exact hf);have QX:=ae (show aN V (xs.drop k) rc la=[] from gV (by rw[<-HD.o];unfold oH;simp[hf]));clear hf;gi_wp2_with fail;refine iw (vZ rfl _ _ _) rfl ?_;exact FH.o _ (by rw[E.o];exact bI _ none) QX.o
    . have cz:(V !=th)=true:=(by rw[kS];exact ht);have QX:=ae (show aN th (xs.drop k) rc la=[] from gV (by rw[<-HD.o];unfold oH;simp[ht]));clear ht;gi_wp2_with fail;refine iw (vZ rfl _ _ _) rfl ?_;exact FH.o _ (by rw[E.o];exact bI _ none) QX.o
  . have QX:=ae (show aN th (xs.drop k) rc la=[] from gV (by rw[<-HD.o];unfold oH;simp[he]));have cA:(er !=0)=true:=(by rw[kS];exact he);clear he;gi_wp2_with fail;refine iw (vZ rfl _ _ _) rfl ?_;exact FH.o _ (by rw[E.o];exact bI _ none) QX.o
