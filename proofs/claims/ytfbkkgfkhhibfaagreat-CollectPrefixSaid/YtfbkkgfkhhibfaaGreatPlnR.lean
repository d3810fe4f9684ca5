/- Words. -/
import Derived.Test.YtfbkkgfkhhibfaaGreatSrI
set_option linter.unusedVariables false
set_option maxRecDepth 100000
set_option maxHeartbeats 8000000
namespace Go.Proofs.YtfbkkgfkhhibfaaGreat
open Go Go.RowKit Iv
def Evs (w:World)(B:Nat)(A:Option Addr)(n:Nat)(l:List Ev):Prop:=
 l.length=n/\∀k e,l[k]?=some e->∃(b o:Nat) (Ad:Option Addr) (cd:Nat) (Af:Option Addr) (cf:Nat),A=some ⟨b,o,none⟩/\b<B/\
  (∀j u,(#[.int .i64 e.thread,.int .i64 e.kind,.int .i64 e.obj,.int .i64 e.value,.int .i64 e.site,.slice Ad e.deps.length cd,.slice Af e.from_.length cf]:Array Value)[j]?=some u->w.cell? ⟨b,o+k*7+j,none⟩=some u)/\Lies w B 1 Ad e.deps.length (e.deps.map iv)/\Lies w B 1 Af e.from_.length (e.from_.map iv)
theorem Evs.grown {w w':World}{B n:Nat}{A:Option Addr}{l:List Ev}{row:Option Nat}(h:Evs w B A n l)(hg:w.grownBy w' row)(hB:B<=w.heap.size)(hr:∀g,row=some g->B<=g):Evs w' B A n l:=
 ⟨h.1,λk e he=>by
  obtain⟨b,o,Ad,cd,Af,cf,a,hb,d,q,y⟩:=h.2 k e he
  have hk:∀j,w'.cell? ⟨b,j,none⟩=w.cell? ⟨b,j,none⟩:=λj=>lY (hg.block b (by omega) (λe=>by have:=hr _ e.symm;omega))
  exact⟨b,o,Ad,cd,Af,cf,a,hb,λj u D=>by rw[hk];exact d j u D,q.grown hg hB hr,y.grown hg hB hr⟩⟩
theorem Evs.at {w:World}{B n k:Nat}{A:Option Addr}{l:List Ev}(h:Evs w B A n l)(hk:k<n):
 ∃(b o:Nat) (e:Ev) (Ad:Option Addr) (cd:Nat) (Af:Option Addr) (cf:Nat),A=some ⟨b,o,none⟩/\b<B/\l[k]?=some e/\
  w.cell? ⟨b,o+k*7,none⟩=some (.int .i64 e.thread)/\w.cell? ⟨b,o+k*7+1,none⟩=some (.int .i64 e.kind)/\w.cell? ⟨b,o+k*7+2,none⟩=some (.int .i64 e.obj)/\w.cell? ⟨b,o+k*7+3,none⟩=some (.int .i64 e.value)/\
  w.cell? ⟨b,o+k*7+4,none⟩=some (.int .i64 e.site)/\w.cell? ⟨b,o+k*7+5,none⟩=some (.slice Ad e.deps.length cd)/\w.cell? ⟨b,o+k*7+6,none⟩=some (.slice Af e.from_.length cf)/\
  Lies w B 1 Ad e.deps.length (e.deps.map iv)/\Lies w B 1 Af e.from_.length (e.from_.map iv):=by have d:k<l.length:=(by rw[h.1];exact hk);obtain⟨b,o,Ad,cd,Af,cf,q,hb,a,u,y⟩:=h.2 k l[k] (bH d);exact⟨b,o,l[k],Ad,cd,Af,cf,q,hb,bH d,a 0 _ rfl,a 1 _ rfl,a 2 _ rfl,a 3 _ rfl,a 4 _ rfl,a 5 _ rfl,a 6 _ rfl,u,y⟩
def Fls (w:World)(B:Nat)(A:Option Addr)(n:Nat)(fs:List (Int×Int)):Prop:=
 fs.length=n/\∀k f,fs[k]?=some f->∃b o:Nat,A=some ⟨b,o,none⟩/\b<B/\w.cell? ⟨b,o+k*2,none⟩=some (.int .i64 f.1)/\w.cell? ⟨b,o+k*2+1,none⟩=some (.int .i64 f.2)
theorem Fls.grown {w w':World}{B n:Nat}{A:Option Addr}{fs:List (Int×Int)}{row:Option Nat}(h:Fls w B A n fs)(hg:w.grownBy w' row)(hB:B<=w.heap.size)(hr:∀g,row=some g->B<=g):Fls w' B A n fs:=
 ⟨h.1,λk f hf=>by
  obtain⟨b,o,e,hb,h1,h2⟩:=h.2 k f hf
  have hk:∀j,w'.cell? ⟨b,j,none⟩=w.cell? ⟨b,j,none⟩:=λj=>lY (hg.block b (by omega) (λe=>by have:=hr _ e.symm;omega))
  exact⟨b,o,e,hb,by rw[hk];exact h1,by rw[hk];exact h2⟩⟩
theorem Fls.at {w:World}{B n k:Nat}{A:Option Addr}{fs:List (Int×Int)}(h:Fls w B A n fs)(hk:k<n):
 ∃b o f,A=some ⟨b,o,none⟩/\b<B/\fs[k]?=some f/\w.cell? ⟨b,o+k*2,none⟩=some (.int .i64 f.1)/\w.cell? ⟨b,o+k*2+1,none⟩=some (.int .i64 f.2):=by have h1:k<fs.length:=(by have:=h.1;omega);obtain⟨b,o,a,d,q,u⟩:=h.2 k fs[k] (bH h1);exact⟨b,o,fs[k],a,d,bH h1,q,u⟩
def yO (p:Pln)(Af:Option Addr)(nf cf:Nat)(Ac:Option Addr)(nc cc:Nat):Array Value:=#[.int .i64 p.cap,.slice Af nf cf,.int .i64 p.stop,.slice Ac nc cc]
theorem EK {α:Type}{f:α->Bool}{xs:List α}{k:Nat}{x:α}(h:xs[k]?=some x):(xs.drop k).all f=(f x &&(xs.drop (k+1)).all f):=by obtain⟨a,rfl⟩:=dF.1 h;rw[nY a];rfl
theorem Vb:(Tryz.prog.info? 52).map (λi=>(i.zero,i.size,i.bytes))=some (some (.agg #[.int .i64 0,.int .i64 0,.int .i64 0,.int .i64 0,.int .i64 0,.slice none 0 0,.slice none 0 0]),7,88):=by kernel_rfl
theorem Va (r:Ev)(Ad:Option Addr)(nd cd:Nat)(Af:Option Addr)(nf cf:Nat):∀u∈(evV r Ad nd cd Af nf cf).toList,u.oneCell'=true:=by intro v a;simp only[evV,gJ,mG,or_false] at a;rcases a with h|h|h|h|h|h|h<;>rw[h]<;>rfl
def Rng (lo B:Nat)(row:Option Nat):Prop:=∀g,row=some g->g<lo\/B<=g
theorem Rng.none (lo B:Nat):Rng lo B none:=λg e=>nomatch e
structure RecB (w:World)(lo B b o:Nat)(r:Rec)(Ad:Option Addr)(nd cd:Nat)(Af:Option Addr)(nf cf:Nat):Prop where
 lob:lo<=b
 hib:b<B
 cells:∀j u,(recV r Ad nd cd Af nf cf)[j]?=some u->w.cell? ⟨b,o+j,none⟩=some u
 ld:Lies w B 1 Ad nd (r.ev.deps.map iv)
 lf:Lies w B 1 Af nf (r.ev.from_.map iv)
 lod:Lo lo Ad nd
 lof:Lo lo Af nf
theorem eX {w w':World}{lo B sz n:Nat}{A:Option Addr}{xs:List Value}{row:Option Nat}(h:Lies w B sz A n xs)(d:Lo lo A n)(hg:w.grownBy w' row)(hB:B<=w.heap.size)(hr:Rng lo B row):Lies w' B sz A n xs:=by refine⟨h.1,λhn=>?_⟩;obtain⟨a,e,hb,hc⟩:=h.2 hn;refine⟨a,e,hb,λj u q=>?_⟩;refine qi (lY (hg.block (a.add j).block (by rw[addBlock];omega) ?_)) (hc j u q);rw[addBlock];intro y;have h1:=d hn a e;have h2:=hr _ y.symm;omega
theorem RecB.keep {w w':World}{lo B b o:Nat}{r:Rec}{Ad:Option Addr}{nd cd:Nat}{Af:Option Addr}{nf cf:Nat}{row:Option Nat}(h:RecB w lo B b o r Ad nd cd Af nf cf)(hg:w.grownBy w' row)(hB:B<=w.heap.size)(hr:Rng lo B row):RecB w' lo B b o r Ad nd cd Af nf cf:=
 ⟨h.lob,h.hib,λj u a=>qi (lY (hg.block b (by have:=h.hib;omega) (λe=>by have h1:=hr b e.symm;have h2:=h.lob;have h3:=h.hib;omega))) (h.cells j u a),eX h.ld h.lod hg hB hr,eX h.lf h.lof hg hB hr,h.lod,h.lof⟩
structure EvB (w:World)(lo B:Nat)(css:List Value)(k:Nat)(r:Ev)(Ad:Option Addr)(nd cd:Nat)(Af:Option Addr)(nf cf:Nat):Prop where
 cells:∀j u,(evV r Ad nd cd Af nf cf)[j]?=some u->css[k*7+j]?=some u
 ld:Lies w B 1 Ad nd (r.deps.map iv)
 lf:Lies w B 1 Af nf (r.from_.map iv)
 lod:Lo lo Ad nd
 lof:Lo lo Af nf
def EvsB (w:World)(lo B:Nat)(css:List Value)(rs:List Ev):Prop:=
 css.length=rs.length*7/\∀k r,rs[k]?=some r->∃(Ad:Option Addr) (nd cd:Nat) (Af:Option Addr) (nf cf:Nat),EvB w lo B css k r Ad nd cd Af nf cf
theorem EvsB.nil (w:World)(lo B:Nat):EvsB w lo B [] []:=⟨rfl,λk r hr=>by simp at hr⟩
theorem EvsB.keep {w w':World}{lo B:Nat}{css:List Value}{rs:List Ev}{row:Option Nat}(h:EvsB w lo B css rs)(hg:w.grownBy w' row)(hB:B<=w.heap.size)(hr:Rng lo B row):EvsB w' lo B css rs:=
 ⟨h.1,λk r hk=>by
  obtain⟨Ad,nd,cd,Af,nf,cf,q⟩:=h.2 k r hk
  exact⟨Ad,nd,cd,Af,nf,cf,q.cells,eX q.ld q.lod hg hB hr,eX q.lf q.lof hg hB hr,q.lod,q.lof⟩⟩
theorem EvsB.snoc {w:World}{lo B:Nat}{css:List Value}{rs:List Ev}(h:EvsB w lo B css rs){r:Ev}{Ad:Option Addr}{nd cd:Nat}{Af:Option Addr}{nf cf:Nat}
 (h1:Lies w B 1 Ad nd (r.deps.map iv)) (h2:Lies w B 1 Af nf (r.from_.map iv)) (h3:Lo lo Ad nd) (h4:Lo lo Af nf):EvsB w lo B (css++(evV r Ad nd cd Af nf cf).toList) (rs++[r]):=by refine⟨by rw[bI,h.1,bI];unfold evV;simp[jW],λk q a=>?_⟩;by_cases hk:k<rs.length;rw[jX hk] at a;obtain⟨E,G,H,I,J,d,z⟩:=h.2 k q a;refine⟨E,G,H,I,J,d,λj u y=>?_,z.ld,z.lf,z.lod,z.lof⟩;have:=z.cells j u y;rw[jX (dF.1 this).1];exact this;have L:k<rs.length+1:=(by have:=(dF.1 a).1;simpa using this);have D:k=rs.length:=(by omega);subst D;rw[jY (au _),qH] at a;simp only[oZ,ig] at a;subst a;refine⟨Ad,nd,cd,Af,nf,cf,λj u y=>?_,h1,h2,h3,h4⟩;rw[jY (by rw[h.1];omega),h.1,JC];simpa using y
def RecsB (w:World)(lo B:Nat)(A:Option Addr)(n:Nat)(rs:List Rec):Prop:=
 rs.length=n/\∀k r,rs[k]?=some r->∃(b o:Nat) (Ad:Option Addr) (nd cd:Nat) (Af:Option Addr) (nf cf:Nat),A=some ⟨b,o,none⟩/\RecB w lo B b (o+k*8) r Ad nd cd Af nf cf
def BlksB (w:World)(lo B:Nat)(css:List Value)(xs:List Blk):Prop:=
 css.length=xs.length*3/\∀k x,xs[k]?=some x->∃(A:Option Addr) (n c:Nat),(∀j u,(qL x A n c)[j]?=some u->css[k*3+j]?=some u)/\RecsB w lo B A n x.recs/\n<=c/\c<=maxLen/\(A=none->c=0)
theorem BlksAt.toB {w:World}{lo:Nat}{o:Option Nat}{css:List Value}{xs:List Blk}(h:BlksAt w lo o css xs):BlksB w lo w.heap.size css xs:=
 ⟨h.1,λk x hx=>by
  obtain⟨A,n,c,d,a,u⟩:=h.2 k x hx
  refine⟨A,n,c,d,⟨a.1,λi r hr=>?_⟩,u⟩
  obtain⟨b,f,Ad,nd,cd,Af,nf,cf,e,hb,q,o1,o2⟩:=a.2 i r hr
  exact⟨b,f,Ad,nd,cd,Af,nf,cf,e,q.lob,q.hib,q.cells,q.ld,q.lf,q.lod,q.lof⟩⟩
theorem RecsB.keep {w w':World}{lo B n:Nat}{A:Option Addr}{rs:List Rec}{row:Option Nat}(h:RecsB w lo B A n rs)(hg:w.grownBy w' row)(hB:B<=w.heap.size)(hr:Rng lo B row):RecsB w' lo B A n rs:=
 ⟨h.1,λi r hi=>by
  obtain⟨b,f,Ad,nd,cd,Af,nf,cf,e,q⟩:=h.2 i r hi
  exact⟨b,f,Ad,nd,cd,Af,nf,cf,e,q.keep hg hB hr⟩⟩
theorem BlksB.keep {w w':World}{lo B:Nat}{css:List Value}{xs:List Blk}{row:Option Nat}(h:BlksB w lo B css xs)(hg:w.grownBy w' row)(hB:B<=w.heap.size)(hr:Rng lo B row):BlksB w' lo B css xs:=
 ⟨h.1,λk x hx=>by
  obtain⟨A,n,c,a,d,q⟩:=h.2 k x hx
  exact⟨A,n,c,a,d.keep hg hB hr,q⟩⟩
theorem RecsB.src {w:World}{lo B n:Nat}{A:Option Addr}{rs:List Rec}(h:RecsB w lo B A n rs)(hB:B<=w.heap.size):∃news:List Value,Lies w B 8 A n news/\(∀u∈news,u.oneCell'=true)/\
 ∀(base:Nat) (o:Option Nat) (css:List Value) (y:List Rec),base<=lo->Rng lo B o->RowsAt w base o css y->RowsAt w base o (css++news) (y++rs):=by
 obtain⟨hn,hk⟩:=h
 have key:∀m,m<=n->∃news:List Value,news.length=m*8/\(∀u∈news,u.oneCell'=true)/\(∀b f,A=some ⟨b,f,none⟩->∀j u,news[j]?=some u->w.cell? ⟨b,f+j,none⟩=some u)/\
  ∀(base:Nat) (o:Option Nat) (css:List Value) (y:List Rec),base<=lo->Rng lo B o->RowsAt w base o css y->RowsAt w base o (css++news) (y++rs.take m):=by
  intro m;induction m with
  |zero=>intro _;exact⟨[],rfl,λu d=>by simp at d,λb f _ j u d=>by simp at d,λbase o css y _ _ h0=>by simpa using h0⟩
  |
   succ m ih=>
   intro hm;obtain⟨news,h1,h2,h3,h4⟩:=ih (by omega);have E:rs[m]?=some rs[m]:=bH (by omega);obtain⟨b,f,Ad,nd,cd,Af,nf,cf,e,q⟩:=hk m rs[m] E;refine⟨news++(recV rs[m] Ad nd cd Af nf cf).toList,by rw[bI,h1];simp[recV];omega,λu d=>?_,λM N a j u d=>?_,λbase o css y hb ho h0=>?_⟩;rcases jh.1 d with h|h;exact h2 u h;simp only[recV,gJ,mG,or_false] at h;rcases h with h|h|h|h|h|h|h|h<;>rw[h]<;>rfl;rw[e] at a;injection a with a;injection a with e1 e2;subst e1 e2;by_cases J:j<news.length;rw[jX J] at d;exact h3 _ _ e j u d;rw[jY (by omega),h1] at d;have:=q.cells (j-m*8) u (by rwa [gz] at d);rw[show f+m*8+(j-m*8)=f+j by omega] at this;exact this
   . have:=(h4 base o css y hb ho h0).snoc (r:=rs[m]) (Ad:=Ad) (nd:=nd) (cd:=cd) (Af:=Af) (nf:=nf) (cf:=cf) (q.ld.more hB) (q.lf.more hB)
      (λhn G e D=>by have h5:=q.lod hn G e;have L:=ho _ D.symm;obtain⟨H,a,I,_⟩:=q.ld.2 hn;rw[e] at a;injection a with a;subst a;omega)
      (λhn G e D=>by have h5:=q.lof hn G e;have L:=ho _ D.symm;obtain⟨H,a,I,_⟩:=q.lf.2 hn;rw[e] at a;injection a with a;subst a;omega)
      (q.lod.lower hb) (q.lof.lower hb)
     rw[gm,gm] at this;rw[wZ,E];exact this
 obtain⟨news,h1,h2,h3,h4⟩:=key n (au _);refine⟨news,⟨h1,λh0=>?_⟩,h2,λbase o css y hb ho h0=>by have:=h4 base o css y hb ho h0;rwa [<-hn,sS] at this⟩;obtain⟨b,f,Ad,nd,cd,Af,nf,cf,e,q⟩:=hk 0 (rs[0]'(by omega)) (bH (by omega));refine⟨⟨b,f,none⟩,e,q.hib,λj u d=>?_⟩;rw[show (⟨b,f,none⟩:Addr).add j=⟨b,f+j,none⟩ by unfold Addr.add;split<;>simp_all];exact h3 b f e j u d
def FIn (w:World)(B:Nat)(A:Option Addr)(n:Nat)(fs:List Bytes):Prop:=
 fs.length=n/\∀k f,fs[k]?=some f->∃(b o:Nat) (Ai:Option Addr) (ni ci:Nat),A=some ⟨b,o,none⟩/\b<B/\w.cell? ⟨b,o+k,none⟩=some (.slice Ai ni ci)/\Lies w B 1 Ai ni (f.map bv)/\ni<=ci/\ci<=maxLen/\(Ai=none->ci=0)
theorem FIn.grown {w w':World}{B n:Nat}{A:Option Addr}{fs:List Bytes}{row:Option Nat}(h:FIn w B A n fs)(hg:w.grownBy w' row)(hB:B<=w.heap.size)(hr:∀g,row=some g->B<=g):FIn w' B A n fs:=
 ⟨h.1,λk f hf=>by
  obtain⟨b,o,a,d,u,e,hb,hc,y,q⟩:=h.2 k f hf
  exact⟨b,o,a,d,u,e,hb,qi (lY (hg.block b (by omega) (λD=>by have:=hr b D.symm;omega))) hc,y.grown hg hB hr,q⟩⟩
theorem Xw (l:List Ev)(y:Option Addr)(B cl:Nat)(thr:Int)(p:Pln)(Af:Option Addr)(nf cf:Nat)(D:Option Addr)(u E:Nat)(w:World)(a:p.cuts.length=u)(h:jZ thr p=false\/thr<(u:Int)):
 Calls Tryz.prog 38 #[.slice y B cl,.int .i64 thr,.agg (yO p Af nf cf D u E)] w λe w'=>e= .returned (.int .i64 (bU l thr p))/\w.grownBy w' none:=by
 obtain⟨cap,fl,stop,cu⟩:=p;dsimp only at a;have d:Hid (bU l thr ⟨cap,fl,stop,cu⟩=1):=(by have:rH thr ⟨cap,fl,stop,cu⟩=false:=(by unfold rH;rcases h with h|h;rw[h];rfl;rw[a,fK (by omega),Bool.and_false]);exact ae (by unfold bU;rw[this];rfl));have q:thr<1\/4<thr\/cap<1\/64<cap\/stop<0\/thr<(u:Int):=(by rcases h with h|h;unfold jZ at h;simp only[Bi,jy] at h;omega;omega);unfold yO;dsimp only;clear h a;by_cases a1:thr<1
 . clear q;go_enter Tryz.func38,Tryz.ntmps38;go_wp2_with fail;go_ret;exact⟨bW d.o.symm,aV w _ none⟩
 . by_cases a2:(4:Int)<thr
   . clear q;go_enter Tryz.func38,Tryz.ntmps38;go_wp2_with fail;go_ret;exact⟨bW d.o.symm,aV w _ none⟩
   . by_cases a3:cap<1
     . clear q;go_enter Tryz.func38,Tryz.ntmps38;go_wp2_with fail;go_ret;exact⟨bW d.o.symm,aV w _ none⟩
     . by_cases a4:(64:Int)<cap
       . clear q;go_enter Tryz.func38,Tryz.ntmps38;go_wp2_with fail;go_ret;exact⟨bW d.o.symm,aV w _ none⟩
       . by_cases a5:stop<0
         . clear q;go_enter Tryz.func38,Tryz.ntmps38;go_wp2_with fail;go_ret;exact⟨bW d.o.symm,aV w _ none⟩
         . have G:thr<(u:Int):=(by omega);clear q;go_enter Tryz.func38,Tryz.ntmps38;go_wp2_with fail;go_ret;exact⟨bW d.o.symm,aV w _ none⟩
theorem aau (l:List Ev)(Al:Option Addr)(I cl:Nat)(thr:Int)(p:Pln)(Af:Option Addr)(nf cf:Nat)(L:Option Addr)(d V B:Nat)(w:World)(hl:Evs w B Al I l)(hf:Fls w B Af nf p.flushes)(H:Lies w B 1 L d (p.cuts.map iv))(hB:B<=w.heap.size)(aR:nf<=1000000)(hnc:d<=1000000):
 Calls Tryz.prog 38 #[.slice Al I cl,.int .i64 thr,.agg (yO p Af nf cf L d V)] w λe w'=>e= .returned (.int .i64 (bU l thr p))/\w.grownBy w' none:=by
 have D:p.cuts.length=d:=H.lenI;by_cases hh:jZ thr p=false\/thr<(d:Int);exact Xw l Al I cl thr p Af nf cf L d V w D hh
 . obtain⟨cap,fl,stop,cu⟩:=p;have hp:jZ thr ⟨cap,fl,stop,cu⟩=true:=by
    cases h:jZ thr ⟨cap,fl,stop,cu⟩ with
    |true=>rfl
    |false=>exact absurd (.inl h) hh
   have a6:¬thr<(d:Int):=λh=>hh (.inr h);dsimp only at D hf H;have M:Hid (rH thr ⟨cap,fl,stop,cu⟩=(fl.all (kD thr) && cu.all (λn=>decide (0<=n)))):=ae (by unfold rH;rw[hp,D,decide_eq_true (by omega:(d:Int)<=thr)];simp);unfold jZ at hp;simp only[dC,iq] at hp;have a1:¬thr<1:=(by omega);have a2:¬(4:Int)<thr:=(by omega);have a3:¬cap<1:=(by omega);have a4:¬(64:Int)<cap:=(by omega);have a5:¬stop<0:=(by omega);have an:=ae D;have ao:=ae hf.1;have Hw:=ae hl.1;clear hh D hp;obtain⟨W,hW⟩:∃W,W=w.alloc (.cells #[.int .i64 cap,.slice Af nf cf,.int .i64 stop,.slice L d V] 39):=⟨_,rfl⟩;have X:w.grownBy W none:=(by rw[hW];exact aV w _ none);have N:Held W w.heap.size 39 #[.int .i64 cap,.slice Af nf cf,.int .i64 stop,.slice L d V]:=(by rw[hW];exact Held.new _ _ _);have HW:=ae hW;clear hW;unfold yO;dsimp only;go_enter Tryz.func38,Tryz.ntmps38;go_upto_region 3 with fail;rw[show w.alloc (.cells #[.int .i64 cap,.slice Af nf cf,.int .i64 stop,.slice L d V] 39)=W from HW.o.symm];have k1:W.cell? ⟨w.heap.size,1,none⟩=some (.slice Af nf cf):=N.cell 1;have k3:W.cell? ⟨w.heap.size,3,none⟩=some (.slice L d V):=N.cell 3;go_wp2_with fail;go_loopw [7] (λiv wr=>∃k:Nat,iv= .int .i64 (k:Int)/\k<=nf/\wr=W/\(fl.drop k).all (kD thr)=fl.all (kD thr)) (λiv _=>nf-(intOf iv).toNat)
   case atStart=>exact ⟨0,rfl,ay _,rfl,rfl⟩
   case round=>
    obtain⟨k,rfl,hk,E,ho⟩:=hrel;subst E;have HO:=ae ho;clear ho;by_cases aq:k<nf
    . obtain⟨b,o,f,rfl,b0,Y,f0,f1⟩:=(hf.grown X hB nofun).at aq;have J:=ae (EK (f:=kD thr) Y);clear Y;by_cases a:kD thr f=true
      . have q:=a;unfold kD at q;simp only[dC,iq] at q;have g1:¬f.1<0:=(by omega);have g2:¬f.2<0:=(by omega);have g3:¬thr<=f.2:=(by omega);have O:=ae a;clear a q;go_wp2_with fail;go_roundw
        case rel=>exact ⟨k+1,by go_num,by omega,trivial,by have:=J.o;rw[HO.o,O.o,xA] at this;exact this.symm⟩
        case measure=>simp [intOf];omega
      . have y:Hid (bU l thr ⟨cap,fl,stop,cu⟩=1):=ae (by
         have h1:=J.o;rw[HO.o,Bool.eq_false_iff.2 a,LZ] at h1;have h2:=M.o;rw[h1,LZ] at h2;unfold bU;rw[h2];rfl)
        have hb:f.1<0\/f.2<0\/thr<=f.2:=(by unfold kD at a;simp only[dC,iq] at a;omega);have G:=ae X;clear a;by_cases g1:f.1<0
        . clear hb;go_wp2_with fail;go_ret;exact⟨bW y.o.symm,G.o⟩
        . by_cases g2:f.2<0
          . clear hb;go_wp2_with fail;go_ret;exact⟨bW y.o.symm,G.o⟩
          . have g3:thr<=f.2:=(by omega);clear hb;go_wp2_with fail;go_ret;exact⟨bW y.o.symm,G.o⟩
    . have ar:k=nf:=(by omega);have yS:Hid (fl.all (kD thr)=true):=ae (by have:=HO.o;rw[jT (by have:=ao.o;omega)] at this;exact this.symm);subst ar;have Z:=H.grown X hB nofun;have av:=hl.grown X hB nofun;have G:=ae X;clear X hf H hl N;obtain⟨W1,aw⟩:∃W1,W1=wr:=⟨_,rfl⟩;subst aw;go_wp2_with fail;go_loopw [8] (λiv wr=>∃j:Nat,iv= .int .i64 (j:Int)/\j<=d/\wr=W1/\(cu.drop j).all (λn=>decide (0<=n))=cu.all (λn=>decide (0<=n))) (λiv _=>d-(intOf iv).toNat)
      case atStart=>exact ⟨0,rfl,ay _,rfl,rfl⟩
      case round=>
       obtain⟨j,rfl,hj,E,a7⟩:=hrel;subst E;have R:=ae a7;clear a7;by_cases aD:j<d
       . obtain⟨ad,u,rfl,b1,hx,hc⟩:=Z.cellAt aD;simp only[bV,mZ] at hx;obtain⟨x,hx,rfl⟩:=hx;unfold iv at hc;have J:=ae (EK (f:=λn:Int=>decide (0<=n)) hx);clear hx;by_cases b2:x<0
         . have y:Hid (bU l thr ⟨cap,fl,stop,cu⟩=1):=ae (by
            have h1:=J.o;rw[R.o,fK (by omega),LZ] at h1;have h2:=M.o;rw[h1,Bool.and_false] at h2;unfold bU;rw[h2];rfl)
           go_wp2_with fail;go_ret;exact⟨bW y.o.symm,G.o⟩
         . have HX:Hid (decide (0<=x)=true):=ae (decide_eq_true (by omega));go_wp2_with fail;go_roundw
           case rel=>exact ⟨j+1,by go_num,by omega,trivial,by have:=J.o;rw[R.o,HX.o,xA] at this;exact this.symm⟩
           case measure=>simp [intOf];omega
       . have a8:Hid (bU l thr ⟨cap,fl,stop,cu⟩=if 400<I then 2 else if l.all (BX thr) then 0 else 1):=ae (by
          have h1:=R.o;rw[jT (by have:=an.o;omega)] at h1;have h2:=M.o;rw[yS.o,<-h1] at h2;unfold bU;rw[h2,Hw.o];rfl)
         clear Z;by_cases b3:(400:Int)<(I:Int)
         . have y:Hid (bU l thr ⟨cap,fl,stop,cu⟩=2):=ae (by rw[a8.o,if_pos (by omega)]);go_wp2_with fail;go_ret;exact⟨bW y.o.symm,G.o⟩
         . have aa:Hid (bU l thr ⟨cap,fl,stop,cu⟩=if l.all (BX thr) then 0 else 1):=ae (by rw[a8.o,if_neg (by omega)]);obtain⟨W2,aL⟩:∃W2,W2=wr:=⟨_,rfl⟩;subst aL;go_wp2_with fail;go_loopw [9] (λiv wr=>∃m:Nat,iv= .int .i64 (m:Int)/\m<=I/\wr=W2/\(l.drop m).all (BX thr)=l.all (BX thr)) (λiv _=>I-(intOf iv).toNat)
           case atStart=>exact ⟨0,rfl,ay _,rfl,rfl⟩
           case round=>
            obtain⟨m,rfl,hm,E,ab⟩:=hrel;subst E;have U:=ae ab;clear ab;by_cases aM:m<I
            . obtain⟨b,o,e,Ad,cd,Ae,ce,rfl,hb,al,e0,e1,e2,e3,e4,e5,e6,_,_⟩:=av.at aM;have J:=ae (EK (f:=BX thr) al);clear al e1 e2 e3 e4;by_cases a:BX thr e=true
              . have q:=a;unfold BX at q;simp only[dC,iq] at q;have g1:¬e.thread<0:=(by omega);have g2:¬thr<=e.thread:=(by omega);have g3:¬(400:Int)<(e.deps.length:Int):=(by omega);have g4:¬(400:Int)<(e.from_.length:Int):=(by omega);have O:=ae a;clear a q;go_wp2_with fail;go_roundw
                case rel=>exact ⟨m+1,by go_num,by omega,trivial,by have:=J.o;rw[U.o,O.o,xA] at this;exact this.symm⟩
                case measure=>simp [intOf];omega
              . have y:Hid (bU l thr ⟨cap,fl,stop,cu⟩=1):=ae (by
                 have h1:=J.o;rw[U.o,Bool.eq_false_iff.2 a,LZ] at h1;rw[aa.o,h1];rfl)
                have hb:e.thread<0\/thr<=e.thread\/(400:Int)<(e.deps.length:Int)\/(400:Int)<(e.from_.length:Int):=(by unfold BX at a;simp only[dC,iq] at a;omega);clear a;by_cases g1:e.thread<0
                . clear hb;go_wp2_with fail;go_ret;exact⟨bW y.o.symm,G.o⟩
                . by_cases g2:thr<=e.thread
                  . clear hb;go_wp2_with fail;go_ret;exact⟨bW y.o.symm,G.o⟩
                  . by_cases g3:(400:Int)<(e.deps.length:Int)
                    . clear hb;go_wp2_with fail;go_ret;exact⟨bW y.o.symm,G.o⟩
                    . have g4:(400:Int)<(e.from_.length:Int):=(by omega);clear hb;go_wp2_with fail;go_ret;exact⟨bW y.o.symm,G.o⟩
            . have y:Hid (bU l thr ⟨cap,fl,stop,cu⟩=0):=ae (by
               have h1:=U.o;rw[jT (by have:=Hw.o;omega)] at h1;rw[aa.o,<-h1];rfl)
              go_wp2_with fail;go_ret;exact⟨bW y.o.symm,G.o⟩
