/- Words. -/
import Derived.Test.YtfbkkgfkhhibfaaGreatRrecR
import Derived.Test.YtfbkkgfkhhibfaaGreatPtr3
import Derived.Test.YtfbkkgfkhhibfaaGreatSww
set_option linter.unusedVariables false
set_option maxRecDepth 100000
set_option maxHeartbeats 8000000
namespace Go.Proofs.YtfbkkgfkhhibfaaGreat
open Go Go.RowKit Iv
def RecsOff (w:World)(lo:Nat)(o:Option Nat)(A:Option Addr)(n:Nat)(rs:List Rec):Prop:=
 rs.length=n/\∀k r,rs[k]?=some r->∃(b f:Nat) (Ad:Option Addr) (nd cd:Nat) (Af:Option Addr) (nf cf:Nat),A=some ⟨b,f,none⟩/\some b≠o/\RecN w lo b (f+k*8) r Ad nd cd Af nf cf/\Off o Ad nd/\Off o Af nf
theorem RecsNew.off {w:World}{lo n:Nat}{A:Option Addr}{rs:List Rec}{o:Option Nat}(h:RecsNew w lo A n rs)(ho:∀g,o=some g->g<lo):RecsOff w lo o A n rs:=
 ⟨h.1,λk r hr=>by
  obtain⟨b,f,Ad,nd,cd,Af,nf,cf,e,q⟩:=h.2 k r hr
  exact⟨b,f,Ad,nd,cd,Af,nf,cf,e,λa=>by have:=ho b a.symm;have:=q.lob;omega,q,q.lod.off ho,q.lof.off ho⟩⟩
theorem RecsOff.new {w:World}{lo n:Nat}{A:Option Addr}{rs:List Rec}{o:Option Nat}(h:RecsOff w lo o A n rs):RecsNew w lo A n rs:=
 ⟨h.1,λk r hr=>by
  obtain⟨b,f,Ad,nd,cd,Af,nf,cf,e,_,q,_⟩:=h.2 k r hr
  exact⟨b,f,Ad,nd,cd,Af,nf,cf,e,q⟩⟩
theorem RecsOff.grow {w w':World}{lo n:Nat}{A:Option Addr}{rs:List Rec}{o o':Option Nat}(h:RecsOff w lo o A n rs)(hg:w.grownBy w' o)(a:At w o o'):RecsOff w' lo o' A n rs:=
 ⟨h.1,λk r hr=>by
  obtain⟨b,f,Ad,nd,cd,Af,nf,cf,e,hb,q,o1,o2⟩:=h.2 k r hr
  refine⟨b,f,Ad,nd,cd,Af,nf,cf,e,?_,⟨q.lob,oM q.hib hg.size,λj u y=>?_,(q.ld.grownOff o1 hg (ak _)).more hg.size,(q.lf.grownOff o2 hg (ak _)).more hg.size,q.lod,q.lof⟩,o1.at_ q.ld (ak _) a,o2.at_ q.lf (ak _) a⟩
  . rcases a with rfl|⟨g,rfl,hge⟩
    . exact hb
    . intro d
      injection d with d
      have:=q.hib
      omega
  . exact pM (lL (hg.block b q.hib hb)) (q.cells j u y)⟩
theorem RecsOff.keep {w w':World}{lo n:Nat}{A:Option Addr}{rs:List Rec}{o row:Option Nat}(h:RecsOff w lo o A n rs)(hg:w.grownBy w' row)(hr:∀g,row=some g->g<lo):RecsOff w' lo o A n rs:=
 ⟨h.1,λk r hk=>by
  obtain⟨b,f,Ad,nd,cd,Af,nf,cf,e,hb,q,o1,o2⟩:=h.2 k r hk
  have hn:=(h.new.keep hg hr).2 k r hk
  refine⟨b,f,Ad,nd,cd,Af,nf,cf,e,hb,⟨q.lob,oM q.hib hg.size,λj u a=>?_,(q.ld.grownOff (q.lod.off hr) hg (ak _)).more hg.size,(q.lf.grownOff (q.lof.off hr) hg (ak _)).more hg.size,q.lod,q.lof⟩,o1,o2⟩
  refine pM (lL (hg.block b q.hib (λd=>?_))) (q.cells j u a)
  have h1:=hr _ d.symm
  have h2:=q.lob
  omega⟩
theorem RecsOff.lower {w:World}{lo a n:Nat}{A:Option Addr}{rs:List Rec}{o:Option Nat}(h:RecsOff w lo o A n rs)(d:a<=lo):RecsOff w a o A n rs:=
 ⟨h.1,λk r hr=>by
  obtain⟨b,f,Ad,nd,cd,Af,nf,cf,e,hb,q,o1,o2⟩:=h.2 k r hr
  exact⟨b,f,Ad,nd,cd,Af,nf,cf,e,hb,⟨aG d q.lob,q.hib,q.cells,q.ld,q.lf,q.lod.lower d,q.lof.lower d⟩,o1,o2⟩⟩
def qy (x:Blk)(A:Option Addr)(n c:Nat):Array Value:=#[.int .i64 x.thread,.int .i64 x.first,.slice A n c]
def BlksAt (w:World)(lo:Nat)(o:Option Nat)(css:List Value)(xs:List Blk):Prop:=
 css.length=xs.length*3/\∀k x,xs[k]?=some x->∃(A:Option Addr) (n c:Nat),(∀j u,(qy x A n c)[j]?=some u->css[k*3+j]?=some u)/\RecsOff w lo o A n x.recs/\n<=c/\c<=maxLen/\(A=none->c=0)
theorem BlksAt.nil (w:World)(lo:Nat)(o:Option Nat):BlksAt w lo o [] []:=⟨rfl,λk x hx=>by simp at hx⟩
theorem BlksAt.grow {w w':World}{lo:Nat}{o o':Option Nat}{css:List Value}{xs:List Blk}(h:BlksAt w lo o css xs)(hg:w.grownBy w' o)(a:At w o o'):BlksAt w' lo o' css xs:=
 ⟨h.1,λk x hx=>by
  obtain⟨A,n,c,d,q,u⟩:=h.2 k x hx
  exact⟨A,n,c,d,q.grow hg a,u⟩⟩
theorem BlksAt.keep {w w':World}{lo:Nat}{o row:Option Nat}{css:List Value}{xs:List Blk}(h:BlksAt w lo o css xs)(hg:w.grownBy w' row)(hr:∀g,row=some g->g<lo):BlksAt w' lo o css xs:=
 ⟨h.1,λk x hx=>by
  obtain⟨A,n,c,a,d,q⟩:=h.2 k x hx
  exact⟨A,n,c,a,d.keep hg hr,q⟩⟩
theorem BlksAt.snoc {w:World}{lo:Nat}{o:Option Nat}{css:List Value}{xs:List Blk}(h:BlksAt w lo o css xs){x:Blk}{A:Option Addr}{n c:Nat}(hr:RecsOff w lo o A n x.recs)(hnc:n<=c)(d:c<=maxLen)(ho:A=none->c=0):BlksAt w lo o (css++(qy x A n c).toList) (xs++[x]):=by refine⟨by rw[aY,h.1,aY];unfold qy;simp[jM],λk y a=>?_⟩;by_cases hk:k<xs.length;rw[jO hk] at a;obtain⟨A',D,E,G,H⟩:=h.2 k y a;refine⟨A',D,E,λj u q=>?_,H⟩;have:=G j u q;rw[jO (dD.1 this).1];exact this;have I:k<xs.length+1:=(by have:=(dD.1 a).1;simpa using this);have B:k=xs.length:=(by omega);subst B;rw[jP (ak _),qm] at a;simp only[oJ,gV] at a;subst a;refine⟨A,n,c,λj u q=>?_,hr,hnc,d,ho⟩;rw[jP (by rw[h.1];omega),h.1,Jz];simpa using q
theorem N8 (x:Blk)(A:Option Addr)(n c:Nat):∀u∈(qy x A n c).toList,u.oneCell'=true:=by intro u a;simp only[qy,fV,lX,or_false] at a;rcases a with h|h|h<;>rw[h]<;>rfl
theorem N9:(Tryz.prog.info? 50).map (λi=>(i.zero,i.size,i.bytes))=some (some (.agg #[.int .i64 0,.int .i64 0,.slice none 0 0]),3,40):=by kernel_rfl
theorem YL (w:World)(x:Blk)(A:Option Addr)(n c:Nat):
 Lies (w.alloc (.cells (qy x A n c) 50)) (w.alloc (.cells (qy x A n c) 50)).heap.size 3 (some ⟨w.heap.size,0,none⟩) 1 (qy x A n c).toList:=by obtain⟨A',u,a,_,_,d,_⟩:=ai (World.ownsRow_lit (base:=w.heap.size) (e:=50) (size:=3) w (qy x A n c) 1 (ak _) (by unfold maxLen;omega) rfl);injection a with q;subst q;exact d
def JH (l:List (Blk×Nat))(w:World)(e:Ending)(w':World):Prop:=
 ∃v css,e= .returned (.tuple #[v,.int .i64 (sizeB l:Int)])/\w'.ownsRow w.heap.size 50 3 v l.length css/\BlksAt w' w.heap.size v.ownBlock css (l.map (·.1))/\w.grownBy w' none
theorem UY:(Tryz.prog.info? 52).map (λi=>(i.zero,i.size,i.bytes))=some (some (.agg #[.int .i64 0,.int .i64 0,.int .i64 0,.int .i64 0,.int .i64 0,.slice none 0 0,.slice none 0 0]),7,88):=by kernel_rfl
theorem UX (r:Ev)(Ad:Option Addr)(nd cd:Nat)(Af:Option Addr)(nf cf:Nat):∀u∈(evV r Ad nd cd Af nf cf).toList,u.oneCell'=true:=by intro v a;simp only[evV,fV,lX,or_false] at a;rcases a with h|h|h|h|h|h|h<;>rw[h]<;>rfl
def Rng (lo B:Nat)(row:Option Nat):Prop:=∀g,row=some g->g<lo\/B<=g
theorem Rng.none (lo B:Nat):Rng lo B none:=λg e=>nomatch e
structure RecB (w:World)(lo B b o:Nat)(r:Rec)(Ad:Option Addr)(nd cd:Nat)(Af:Option Addr)(nf cf:Nat):Prop where
 lob:lo<=b
 hib:b<B
 cells:∀j u,(recV r Ad nd cd Af nf cf)[j]?=some u->w.cell? ⟨b,o+j,none⟩=some u
 ld:Lies w B 1 Ad nd (r.ev.deps.map iv)
 lf:Lies w B 1 Af nf (r.ev.from_.map iv)
 lod:Lo lo Ad nd
 lof:Lo lo Af nf
theorem dZ {w w':World}{lo B sz n:Nat}{A:Option Addr}{xs:List Value}{row:Option Nat}(h:Lies w B sz A n xs)(d:Lo lo A n)(hg:w.grownBy w' row)(hB:B<=w.heap.size)(hr:Rng lo B row):Lies w' B sz A n xs:=by refine⟨h.1,λhn=>?_⟩;obtain⟨a,e,hb,hc⟩:=h.2 hn;refine⟨a,e,hb,λj u q=>?_⟩;refine pM (lL (hg.block (a.add j).block (by rw[addBlock];omega) ?_)) (hc j u q);rw[addBlock];intro y;have h1:=d hn a e;have h2:=hr _ y.symm;omega
theorem RecB.keep {w w':World}{lo B b o:Nat}{r:Rec}{Ad:Option Addr}{nd cd:Nat}{Af:Option Addr}{nf cf:Nat}{row:Option Nat}(h:RecB w lo B b o r Ad nd cd Af nf cf)(hg:w.grownBy w' row)(hB:B<=w.heap.size)(hr:Rng lo B row):RecB w' lo B b o r Ad nd cd Af nf cf:=
 ⟨h.lob,h.hib,λj u a=>pM (lL (hg.block b (by have:=h.hib;omega) (λe=>by have h1:=hr b e.symm;have h2:=h.lob;have h3:=h.hib;omega))) (h.cells j u a),dZ h.ld h.lod hg hB hr,dZ h.lf h.lof hg hB hr,h.lod,h.lof⟩
structure EvB (w:World)(lo B:Nat)(css:List Value)(k:Nat)(r:Ev)(Ad:Option Addr)(nd cd:Nat)(Af:Option Addr)(nf cf:Nat):Prop where
 cells:∀j u,(evV r Ad nd cd Af nf cf)[j]?=some u->css[k*7+j]?=some u
 ld:Lies w B 1 Ad nd (r.deps.map iv)
 lf:Lies w B 1 Af nf (r.from_.map iv)
 lod:Lo lo Ad nd
 lof:Lo lo Af nf
def EvsB (w:World)(lo B:Nat)(css:List Value)(rs:List Ev):Prop:=
 css.length=rs.length*7/\∀k r,rs[k]?=some r->∃(Ad:Option Addr) (nd cd:Nat) (Af:Option Addr) (nf cf:Nat),EvB w lo B css k r Ad nd cd Af nf cf
theorem EvsB.nil (w:World)(lo B:Nat):EvsB w lo B [] []:=⟨rfl,λk r hr=>by simp at hr⟩
theorem EvsB.keep {w w':World}{lo B:Nat}{css:List Value}{rs:List Ev}{row:Option Nat}(h:EvsB w lo B css rs)(hg:w.grownBy w' row)(hB:B<=w.heap.size)(hr:Rng lo B row):EvsB w' lo B css rs:=
 ⟨h.1,λk r hk=>by
  obtain⟨Ad,nd,cd,Af,nf,cf,q⟩:=h.2 k r hk
  exact⟨Ad,nd,cd,Af,nf,cf,q.cells,dZ q.ld q.lod hg hB hr,dZ q.lf q.lof hg hB hr,q.lod,q.lof⟩⟩
theorem EvsB.snoc {w:World}{lo B:Nat}{css:List Value}{rs:List Ev}(h:EvsB w lo B css rs){r:Ev}{Ad:Option Addr}{nd cd:Nat}{Af:Option Addr}{nf cf:Nat}
 (h1:Lies w B 1 Ad nd (r.deps.map iv)) (h2:Lies w B 1 Af nf (r.from_.map iv)) (h3:Lo lo Ad nd) (h4:Lo lo Af nf):EvsB w lo B (css++(evV r Ad nd cd Af nf cf).toList) (rs++[r]):=by refine⟨by rw[aY,h.1,aY];unfold evV;simp[jM],λk q a=>?_⟩;by_cases hk:k<rs.length;rw[jO hk] at a;obtain⟨E,G,H,I,J,d,z⟩:=h.2 k q a;refine⟨E,G,H,I,J,d,λj u y=>?_,z.ld,z.lf,z.lod,z.lof⟩;have:=z.cells j u y;rw[jO (dD.1 this).1];exact this;have L:k<rs.length+1:=(by have:=(dD.1 a).1;simpa using this);have D:k=rs.length:=(by omega);subst D;rw[jP (ak _),qm] at a;simp only[oJ,gV] at a;subst a;refine⟨Ad,nd,cd,Af,nf,cf,λj u y=>?_,h1,h2,h3,h4⟩;rw[jP (by rw[h.1];omega),h.1,Jz];simpa using y
def RecsB (w:World)(lo B:Nat)(A:Option Addr)(n:Nat)(rs:List Rec):Prop:=
 rs.length=n/\∀k r,rs[k]?=some r->∃(b o:Nat) (Ad:Option Addr) (nd cd:Nat) (Af:Option Addr) (nf cf:Nat),A=some ⟨b,o,none⟩/\RecB w lo B b (o+k*8) r Ad nd cd Af nf cf
def BlksB (w:World)(lo B:Nat)(css:List Value)(xs:List Blk):Prop:=
 css.length=xs.length*3/\∀k x,xs[k]?=some x->∃(A:Option Addr) (n c:Nat),(∀j u,(qy x A n c)[j]?=some u->css[k*3+j]?=some u)/\RecsB w lo B A n x.recs/\n<=c/\c<=maxLen/\(A=none->c=0)
theorem BlksAt.toB {w:World}{lo:Nat}{o:Option Nat}{css:List Value}{xs:List Blk}(h:BlksAt w lo o css xs):BlksB w lo w.heap.size css xs:=
 ⟨h.1,λk x hx=>by
  obtain⟨A,n,c,d,a,u⟩:=h.2 k x hx
  refine⟨A,n,c,d,⟨a.1,λi r hr=>?_⟩,u⟩
  obtain⟨b,f,Ad,nd,cd,Af,nf,cf,e,hb,q,o1,o2⟩:=a.2 i r hr
  exact⟨b,f,Ad,nd,cd,Af,nf,cf,e,q.lob,q.hib,q.cells,q.ld,q.lf,q.lod,q.lof⟩⟩
theorem RecsB.keep {w w':World}{lo B n:Nat}{A:Option Addr}{rs:List Rec}{row:Option Nat}(h:RecsB w lo B A n rs)(hg:w.grownBy w' row)(hB:B<=w.heap.size)(hr:Rng lo B row):RecsB w' lo B A n rs:=
 ⟨h.1,λi r hi=>by
  obtain⟨b,f,Ad,nd,cd,Af,nf,cf,e,q⟩:=h.2 i r hi
  exact⟨b,f,Ad,nd,cd,Af,nf,cf,e,q.keep hg hB hr⟩⟩
theorem BlksB.keep {w w':World}{lo B:Nat}{css:List Value}{xs:List Blk}{row:Option Nat}(h:BlksB w lo B css xs)(hg:w.grownBy w' row)(hB:B<=w.heap.size)(hr:Rng lo B row):BlksB w' lo B css xs:=
 ⟨h.1,λk x hx=>by
  obtain⟨A,n,c,a,d,q⟩:=h.2 k x hx
  exact⟨A,n,c,a,d.keep hg hB hr,q⟩⟩
theorem RecsB.src {w:World}{lo B n:Nat}{A:Option Addr}{rs:List Rec}(h:RecsB w lo B A n rs)(hB:B<=w.heap.size):∃news:List Value,Lies w B 8 A n news/\(∀u∈news,u.oneCell'=true)/\
 ∀(base:Nat) (o:Option Nat) (css:List Value) (y:List Rec),base<=lo->Rng lo B o->RowsAt w base o css y->RowsAt w base o (css++news) (y++rs):=by
 obtain⟨hn,hk⟩:=h
 have key:∀m,m<=n->∃news:List Value,news.length=m*8/\(∀u∈news,u.oneCell'=true)/\(∀b f,A=some ⟨b,f,none⟩->∀j u,news[j]?=some u->w.cell? ⟨b,f+j,none⟩=some u)/\
  ∀(base:Nat) (o:Option Nat) (css:List Value) (y:List Rec),base<=lo->Rng lo B o->RowsAt w base o css y->RowsAt w base o (css++news) (y++rs.take m):=by
  intro m;induction m with
  |zero=>intro _;exact⟨[],rfl,λu d=>by simp at d,λb f _ j u d=>by simp at d,λbase o css y _ _ h0=>by simpa using h0⟩
  |
   succ m ih=>
   intro hm;obtain⟨news,h1,h2,h3,h4⟩:=ih (by omega);have E:rs[m]?=some rs[m]:=aX (by omega);obtain⟨b,f,Ad,nd,cd,Af,nf,cf,e,q⟩:=hk m rs[m] E;refine⟨news++(recV rs[m] Ad nd cd Af nf cf).toList,by rw[aY,h1];simp[recV];omega,λu d=>?_,λM N a j u d=>?_,λbase o css y hb ho h0=>?_⟩;rcases ja.1 d with h|h;exact h2 u h;simp only[recV,fV,lX,or_false] at h;rcases h with h|h|h|h|h|h|h|h<;>rw[h]<;>rfl;rw[e] at a;injection a with a;injection a with e1 e2;subst e1 e2;by_cases J:j<news.length;rw[jO J] at d;exact h3 _ _ e j u d;rw[jP (by omega),h1] at d;have:=q.cells (j-m*8) u (by rwa [fQ] at d);rw[show f+m*8+(j-m*8)=f+j by omega] at this;exact this
   . have:=(h4 base o css y hb ho h0).snoc (r:=rs[m]) (Ad:=Ad) (nd:=nd) (cd:=cd) (Af:=Af) (nf:=nf) (cf:=cf) (q.ld.more hB) (q.lf.more hB)
      (λhn G e D=>by have h5:=q.lod hn G e;have L:=ho _ D.symm;obtain⟨H,a,I,_⟩:=q.ld.2 hn;rw[e] at a;injection a with a;subst a;omega)
      (λhn G e D=>by have h5:=q.lof hn G e;have L:=ho _ D.symm;obtain⟨H,a,I,_⟩:=q.lf.2 hn;rw[e] at a;injection a with a;subst a;omega)
      (q.lod.lower hb) (q.lof.lower hb)
     rw[fM,fM] at this;rw[wP,E];exact this
 obtain⟨news,h1,h2,h3,h4⟩:=key n (ak _);refine⟨news,⟨h1,λh0=>?_⟩,h2,λbase o css y hb ho h0=>by have:=h4 base o css y hb ho h0;rwa [<-hn,rX] at this⟩;obtain⟨b,f,Ad,nd,cd,Af,nf,cf,e,q⟩:=hk 0 (rs[0]'(by omega)) (aX (by omega));refine⟨⟨b,f,none⟩,e,q.hib,λj u d=>?_⟩;rw[show (⟨b,f,none⟩:Addr).add j=⟨b,f+j,none⟩ by unfold Addr.add;split<;>simp_all];exact h3 b f e j u d
def FIn (w:World)(B:Nat)(A:Option Addr)(n:Nat)(fs:List Bytes):Prop:=
 fs.length=n/\∀k f,fs[k]?=some f->∃(b o:Nat) (Ai:Option Addr) (ni ci:Nat),A=some ⟨b,o,none⟩/\b<B/\w.cell? ⟨b,o+k,none⟩=some (.slice Ai ni ci)/\Lies w B 1 Ai ni (f.map bv)/\ni<=ci/\ci<=maxLen/\(Ai=none->ci=0)
theorem FIn.grown {w w':World}{B n:Nat}{A:Option Addr}{fs:List Bytes}{row:Option Nat}(h:FIn w B A n fs)(hg:w.grownBy w' row)(hB:B<=w.heap.size)(hr:∀g,row=some g->B<=g):FIn w' B A n fs:=
 ⟨h.1,λk f hf=>by
  obtain⟨b,o,a,d,u,e,hb,hc,y,q⟩:=h.2 k f hf
  exact⟨b,o,a,d,u,e,hb,pM (lL (hg.block b (by omega) (λD=>by have:=hr b D.symm;omega))) hc,y.grown hg hB hr,q⟩⟩
theorem X7 {w:World}{base lo B n c:Nat}{A:Option Addr}{css:List Value}{E:List Ev}(a:w.ownsRow base 52 7 (.slice A n c) n css)(h:EvsB w lo B css E)(hB:B<=w.heap.size)(hn:E.length=n):Evs w w.heap.size A n E:=by refine⟨hn,λk e he=>?_⟩;have hk:k<n:=(by have:=(dD.1 he).1;omega);obtain⟨Ad,nd,cd,Af,nf,cf,q⟩:=h.2 k e he;obtain⟨g,I,y,D,d⟩:=a.form (by omega);injection y with G _ _;subst G;have hc:=a.cells (g:=g) rfl;have l1:=q.ld.lenI;have l2:=q.lf.lenI;refine⟨g,0,Ad,cd,Af,cf,rfl,d,λj u H=>?_,?_,?_⟩;have:=hc (k*7+j) u (q.cells j u (by unfold evV;rw[<-l1,<-l2];exact H));rw[show (⟨g,0,none⟩:Addr).add (k*7+j)=⟨g,0+k*7+j,none⟩ by unfold Addr.add;split<;>simp_all] at this;exact this;rw[l1];exact q.ld.more hB;rw[l2];exact q.lf.more hB
theorem Dq (E:List Ev)(A A':Option Addr)(n c c' B:Nat)(w:World)(h:Evs w B A n E)(R:Evs w B A' n E)(hB:B<=w.heap.size)(hn:n<=1000000000)(U:∀e∈E,e.deps.length<=1000000000000/\e.from_.length<=1000000000000):
 Calls Tryz.prog 17 #[.slice A n c,.slice A' n c'] w λe w'=>e= .returned (.bool true)/\w.grownBy w' none:=by
 have HH:=ae h;have M:=ae R;have HL:=ae U;have q0:((n:Int) !=(n:Int))=false:=(by simp);clear h R U;go_enter Tryz.func17,Tryz.ntmps17;go_wp2_with fail;go_loopw [5] (λiv wr=>∃k:Nat,iv= .int .i64 (k:Int)/\k<=n/\w.grownBy wr none) (λiv _=>n-(intOf iv).toNat)
 case atStart=>exact ⟨0,rfl,ay _,aW w none⟩
 case round=>
  obtain⟨k,rfl,hk,hg⟩:=hrel;by_cases D:k<n
  . obtain⟨b,o,e,Ad,cd,Af,cf,hA,hb,he,c0,c1,c2,c3,c4,c5,c6,G,H⟩:=(HH.o.grown hg hB nofun).at D;obtain⟨d,o',a,V,X,Y,I,N,a6,q,d0,d1,d2,d3,d4,d5,d6,J,L⟩:=(M.o.grown hg hB nofun).at D;have O:a=e:=(by rw[he] at q;exact (Dv q).symm);subst O;have u:=HL.o a (gU he);have Z:=ae (Gf a Ad _ cd Af _ cf V _ X Y _ I wr.drew B G.drew H.drew J.drew L.drew u.1 u.2);unfold evV at Z;have i0:(0:Int)<=(k:Int):=(by omega);have i1:(k:Int)<(n:Int):=(by omega);subst hA N;clear G H J L he q u;go_upto_region 6 with fail
    go_region_held3 (λw'=>w'.cell? ⟨b,o+k*7,none⟩=some (.int .i64 a.thread)/\w'.cell? ⟨b,o+k*7+1,none⟩=some (.int .i64 a.kind)/\w'.cell? ⟨b,o+k*7+2,none⟩=some (.int .i64 a.obj)/\w'.cell? ⟨b,o+k*7+3,none⟩=some (.int .i64 a.value)/\w'.cell? ⟨b,o+k*7+4,none⟩=some (.int .i64 a.site)/\w'.cell? ⟨b,o+k*7+5,none⟩=some (.slice Ad a.deps.length cd)/\w'.cell? ⟨b,o+k*7+6,none⟩=some (.slice Af a.from_.length cf)/\
     w'.cell? ⟨d,o'+k*7,none⟩=some (.int .i64 a.thread)/\w'.cell? ⟨d,o'+k*7+1,none⟩=some (.int .i64 a.kind)/\w'.cell? ⟨d,o'+k*7+2,none⟩=some (.int .i64 a.obj)/\w'.cell? ⟨d,o'+k*7+3,none⟩=some (.int .i64 a.value)/\w'.cell? ⟨d,o'+k*7+4,none⟩=some (.int .i64 a.site)/\w'.cell? ⟨d,o'+k*7+5,none⟩=some (.slice V a.deps.length X)/\w'.cell? ⟨d,o'+k*7+6,none⟩=some (.slice Y a.from_.length I))
     (first|go_keep|(refine⟨?_,?_,?_,?_,?_,?_,?_,?_,?_,?_,?_,?_,?_,?_⟩<;>exact rO (w:=wr) (by assumption) (by assumption) (by simp))|fail)
     (first|(go_at_call 35;((with_reducible refine Z.o.mono ?_);rintro e w2 ⟨rfl,y⟩;replace y:=lg y))|fail)
    go_wp2_with fail;go_roundw
    case rel=>exact ⟨k+1,by go_num,by omega,af hg y (.inl rfl)⟩
    case measure=>simp [intOf];omega
  . go_wp2_with fail;go_ret;exact⟨rfl,hg⟩
theorem Ja (A A':Option Addr)(n c a:Nat)(x:Int)(ls:List Int)(w:World)(B d:Nat)(h:Lies w B 1 A n (ls.map iv))(y:Lies w d 1 A' n (ls.map iv))(hB:B<=w.heap.size)(u:d<=w.heap.size)(hn:n<=1000000):
 Calls Tryz.prog 18 #[.agg #[.slice A n c,.int .i64 x],.agg #[.slice A' n a,.int .i64 x]] w λe w'=>e= .returned (.bool true)/\w.grownBy w' none:=by have H:(x==x)=true:=(by simp);obtain⟨W,hW⟩:∃W,W=(w.alloc (.cells #[.slice A n c,.int .i64 x] 61)).alloc (.cells #[.slice A' n a,.int .i64 x] 61):=⟨_,rfl⟩;have hg:w.grownBy W none:=(by rw[hW];exact af (aP _ _ none) (aP _ _ none) (.inl rfl));have D:=ae (qK A A' n n c a ls W B d (h.grown hg hB nofun) (y.grown hg u nofun) (by omega) (by omega));rw[hW] at D;have E:=ae hW;have G:=ae hg;clear h y hW hg;go_enter Tryz.func18,Tryz.ntmps18;go_wp2_with fail;refine D.o.mono ?_;rintro e w2 ⟨rfl,q,rfl⟩;go_wp2_with fail;go_ret;exact⟨rfl,by rw[<-E.o];exact aH G.o q⟩
theorem Gn (w:World)(B:Nat)(A0 I:Option Addr)(n0 c0 d:Nat)(X0:List Value)(A1 J:Option Addr)(n1 c1 q:Nat)(X1:List Value)(A2 L:Option Addr)(n2 c2 u:Nat)(X2:List Value)(A3 M:Option Addr)(n3 c3 y:Nat)(X3:List Value)(A4 N:Option Addr)(n4 c4 R:Nat)(X4:List Value)(A5 O:Option Addr)(n5 c5 U:Nat)(X5:List Value)(h0:Two w B 5 A0 I n0 X0)(h1:Two w B 2 A1 J n1 X1)(h2:Two w B 2 A2 L n2 X2)(h3:Two w B 1 A3 M n3 X3)(h4:Two w B 1 A4 N n4 X4)(h5:Two w B 3 A5 O n5 X5)(s0:∀k,k<n0->AtCell X0 k)(s1:∀k,k<n1->AtLock X1 k)(s2:∀k,k<n2->AtCond X2 k)(s3:∀k,k<n3->AtStr X3 k)(s4:∀k,k<n4->AtStr X4 k)(s5:∀k,k<n5->AtSite X5 k)(hB:B<=w.heap.size)(m0:n0<=9000000000000000)(m1:n1<=9000000000000000)(m2:n2<=9000000000000000)(m3:n3<=9000000000000000)(m4:n4<=9000000000000000)(m5:n5<=9000000000000000)(E:List Ev)(G H:Option Addr)(nE cE a:Nat)(hE:Evs w B G nE E)(V:Evs w B H nE E)(Z:nE<=1000000000)(hl:∀e∈E,e.deps.length<=1000000000000/\e.from_.length<=1000000000000):
 Calls Tryz.prog 22 #[.agg #[.slice A0 n0 c0,.slice A1 n1 c1,.slice A2 n2 c2,.slice A3 n3 c3,.slice A4 n4 c4,.slice A5 n5 c5,.slice G nE cE],.agg #[.slice I n0 d,.slice J n1 q,.slice L n2 u,.slice M n3 y,.slice N n4 R,.slice O n5 U,.slice H nE a]] w λe w'=>e= .returned (.bool true)/\w.grownBy w' none:=by obtain⟨W,hW⟩:∃W,W=(w.alloc (.cells #[.slice A0 n0 c0,.slice A1 n1 c1,.slice A2 n2 c2,.slice A3 n3 c3,.slice A4 n4 c4,.slice A5 n5 c5,.slice G nE cE] 34)).alloc (.cells #[.slice I n0 d,.slice J n1 q,.slice L n2 u,.slice M n3 y,.slice N n4 R,.slice O n5 U,.slice H nE a] 34):=⟨_,rfl⟩;have hg:w.grownBy W none:=(by rw[hW];exact af (aP w _ none) (aP _ _ none) (.inl rfl));have X:Held W w.heap.size 34 #[.slice A0 n0 c0,.slice A1 n1 c1,.slice A2 n2 c2,.slice A3 n3 c3,.slice A4 n4 c4,.slice A5 n5 c5,.slice G nE cE]:=(by rw[hW];exact (Held.new w _ _).alloc _);have Y:Held W (w.heap.size+1) 34 #[.slice I n0 d,.slice J n1 q,.slice L n2 u,.slice M n3 y,.slice N n4 R,.slice O n5 U,.slice H nE a]:=(by rw[hW];have:=Held.new (w.alloc (.cells #[.slice A0 n0 c0,.slice A1 n1 c1,.slice A2 n2 c2,.slice A3 n3 c3,.slice A4 n4 c4,.slice A5 n5 c5,.slice G nE cE] 34)) 34 #[.slice I n0 d,.slice J n1 q,.slice L n2 u,.slice M n3 y,.slice N n4 R,.slice O n5 U,.slice H nE a];rwa [gY] at this);have a6:=ae X;have a7:=ae Y;have HG:=ae hg;have CW:=ae (Gw W B A0 I n0 c0 d X0 A1 J n1 c1 q X1 A2 L n2 c2 u X2 A3 M n3 c3 y X3 A4 N n4 c4 R X4 A5 O n5 c5 U X5 (h0.grown hg hB) (h1.grown hg hB) (h2.grown hg hB) (h3.grown hg hB) (h4.grown hg hB) (h5.grown hg hB) s0 s1 s2 s3 s4 s5 (aG hB hg.size) m0 m1 m2 m3 m4 m5);have CE:=ae (λ(W2:World) (g:W.grownBy W2 none)=>Dq E G H nE cE a B W2 (hE.grown (af hg g (.inl rfl)) hB nofun) (V.grown (af hg g (.inl rfl)) hB nofun) (aG hB (af hg g (.inl rfl)).size) Z hl);have HW:=ae hW;clear hW X Y hg hE V hl h0 h1 h2 h3 h4 h5 s0 s1 s2 s3 s4 s5;go_enter Tryz.func22,Tryz.ntmps22;go_wp2_with fail;rw[show (w.alloc (.cells #[.slice A0 n0 c0,.slice A1 n1 c1,.slice A2 n2 c2,.slice A3 n3 c3,.slice A4 n4 c4,.slice A5 n5 c5,.slice G nE cE] 34)).alloc (.cells #[.slice I n0 d,.slice J n1 q,.slice L n2 u,.slice M n3 y,.slice N n4 R,.slice O n5 U,.slice H nE a] 34)=W from HW.o.symm];refine CW.o.mono ?_;rintro e w2 ⟨rfl,D⟩;have d0:w2.cell? ⟨w.heap.size,6,none⟩=some (.slice G nE cE):=(a6.o.grown D nofun).cell 6;have d1:w2.cell? ⟨w.heap.size+1,6,none⟩=some (.slice H nE a):=(a7.o.grown D nofun).cell 6;go_wp2_with fail;refine (CE.o _ D).mono ?_;rintro e w3 ⟨rfl,a8⟩;go_wp2_with fail;go_ret;exact⟨rfl,af HG.o (af D a8 (.inl rfl)) (.inl rfl)⟩
