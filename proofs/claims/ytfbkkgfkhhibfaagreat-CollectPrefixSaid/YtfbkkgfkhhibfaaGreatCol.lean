/- Words. -/
import Derived.Test.YtfbkkgfkhhibfaaGreatTrR
import Derived.Test.YtfbkkgfkhhibfaaGreatFlR
set_option linter.unusedVariables false
set_option maxRecDepth 100000
set_option maxHeartbeats 8000000
namespace Iv
def evsT (l:List Ev)(t:Int):Nat->List Rec
 |0=> []
 |n+1=>evsT l t n++(match l[n]? with|some e=>if e.thread=t then [⟨n,e⟩] else []|none=> [])
theorem vU (l:List Ev)(t:Int)(n:Nat):evsT l t (n+1)=evsT l t n++(match l[n]? with|some e=>if e.thread=t then [⟨n,e⟩] else []|none=> []):=rfl
theorem N7 {l:List Ev}{t:Int} :∀ {n:Nat}{r:Rec},r∈evsT l t n->∃k:Nat,k<n/\r.seq=k/\l[k]?=some r.ev/\r.ev.thread=t:=by
 intro n;induction n with
 |zero=>intro r h;simp[evsT] at h
 |
  succ n ih=>
  intro r h;rw[vU] at h;rcases List.mem_append.1 h with h|h;obtain⟨k,h1,h2⟩:=ih h;exact⟨k,by omega,h2⟩
  . cases he:l[n]? with
    |none=>rw [he] at h;simp at h
    |
     some e=>
     rw[he] at h;dsimp only at h;split at h;rename_i a;simp only[List.mem_singleton] at h;subst h;exact⟨n,by omega,rfl,he,a⟩;simp at h
theorem YM (l:List Ev)(t:Int):∀n,(evsT l t n).Pairwise (λa b=>a.seq<b.seq):=by
 intro n;induction n with
 |zero=>simp [evsT]
 |
  succ n ih=>
  rw[vU,List.pairwise_append];refine⟨ih,?_,λa ha b hb=>?_⟩
  . cases he:l[n]? with
    |none=>simp
    |some e=>dsimp only;split<;>simp
  . obtain⟨k,hk,h2,_⟩:=N7 ha;have d:b.seq=n:=by
     cases he:l[n]? with
     |none=>rw [he] at hb;simp at hb
     |
      some e=>
      rw[he] at hb;dsimp only at hb;split at hb;simp only[List.mem_singleton] at hb;subst hb;rfl;simp at hb
    omega
def Chain (t:Int):Int->Int->List Blk->Prop
 |_,_,[]=>True
 |rc,la,b::bs=>(fits b=0/\b.thread=t/\b.first=rc/\(∀r∈b.recs,RecOk r)/\∀r∈b.recs,la<r.seq)/\Chain t (rc+b.recs.length) (jg b la) bs
def Jt (la:Int):List Blk->Int
 | []=>la
 |b::bs=>Jt (jg b la) bs
def recsB (bs:List Blk):List Rec:=bs.flatMap (·.recs)
def bytesB (bs:List Blk):Bytes:=bs.flatMap az
theorem Rl {b:Blk}{la m:Int}(h:la<m)(hb:∀q∈b.recs,q.seq<m):jg b la<m:=by unfold jg;split;rename_i r hr;exact hb r (List.mem_of_getLast? hr);exact h
theorem Ec {m:Int} :∀ {bs:List Blk}{la:Int},la<m->(∀q∈recsB bs,q.seq<m)->Jt la bs<m
 | [],la,h,_=>h
 |b::bs,la,h,hb=>Ec (bs:=bs) (Rl h (λq a=>hb q (by unfold recsB;rw[List.flatMap_cons];exact List.mem_append_left _ a))) (λq a=>hb q (by unfold recsB;rw[List.flatMap_cons];exact List.mem_append_right _ a))
theorem Chain.snoc {t:Int}{b:Blk}(hf:fits b=0)(a:b.thread=t)(hr:∀r∈b.recs,RecOk r):∀ {bs:List Blk}{rc la:Int},Chain t rc la bs->b.first=rc+(recsB bs).length->(∀r∈b.recs,Jt la bs<r.seq)->Chain t rc la (bs++[b])
 | [],rc,la,_,h1,h2=>⟨⟨hf,a,by simpa [recsB] using h1,hr,h2⟩,trivial⟩
 |x::bs,rc,la,h,h1,h2=>⟨h.1,Chain.snoc hf a hr h.2 (by rw[h1];unfold recsB;rw[List.flatMap_cons,List.length_append];omega) h2⟩
theorem decode_nil:(Iv.decode []).2.2≠0:=by decide+kernel
theorem N8 (th rc la:Int):aI th [] rc la=[]:=by apply dN;unfold lF;simp[decode_nil]
structure FB (l:List Ev)(m n:Nat)(t:Nat)(b:List Rec)(f:Int)(x:Bytes)(bs:List Blk):Prop where
 ch:Chain t 0 (-1) bs
 by_:x=bytesB bs
 rs:recsB bs++b=evsT l t n
 fst:f=(recsB bs).length
 len:∀y∈bs,y.recs.length<=m
def FBs (l:List Ev)(m n thr:Nat)(s:St):Prop:=∀t,t<thr->∃bs,FB l m n t (s.buf t) (s.first t) (s.file t) bs
theorem FBs.none (l:List Ev)(m thr:Nat):FBs l m 0 thr St.none:=λt _=>⟨[],trivial,rfl,rfl,rfl,λy a=>by simp at a⟩
theorem Ed (bs:List Blk)(b:Blk):recsB (bs++[b])=recsB bs++b.recs:=by unfold recsB;simp
theorem N9 (bs:List Blk)(b:Blk):bytesB (bs++[b])=bytesB bs++az b:=by unfold bytesB;simp
theorem FBs.write {l:List Ev}{m c n thr:Nat}{s:St}(h:FBs l m n thr s)(g:Good c n thr s)(hc:c<=64)(hm:c<=m)(hn:n<=400)(E:thr<=4)(t:Nat)(G:t<thr):FBs l m n thr (s.write t):=by
 unfold St.write;split;exact h
 . rename_i h0;intro k hk;by_cases d:k=t
   . subst d;simp only[fH];obtain⟨bs,q⟩:=h k hk;have gt:=g k hk;have hf:=gt.fits (by omega) hc hn (by omega);have he:(encode (Hz s k)).1=az (Hz s k):=by
      unfold encode;have:fits (Hz s k)=0:=hf;rw[if_pos this]
     have u:=YM l k n;rw[<-q.rs,List.pairwise_append] at u;refine⟨bs++[Hz s k],q.ch.snoc hf rfl (zB gt.ok gt.fit) (by rw[Int.zero_add];exact q.fst) (λr hr=>?_),?_,?_,?_,λy a=>?_⟩;refine Ec ?_ (λB D=>u.2.2 B D r hr);exact (jS k _ _ gt.ok r hr).2.2.2;rw[N9,he,q.by_];rw[Ed,List.append_nil];exact q.rs;rw[Ed,List.length_append,q.fst];show _=(((recsB bs).length+(s.buf k).length:Nat):Int);omega;rcases List.mem_append.1 a with a|a;exact q.len y a;simp only[List.mem_singleton] at a;subst a;have:=gt.len;show (s.buf k).length<=m;omega
   simp only[dK _ _ d];exact h k hk
theorem FBs.flush {l:List Ev}{m c n thr:Nat}(hc:c<=64)(hm:c<=m)(hn:n<=400)(a:thr<=4)(fs:List (Int×Int)):∀ {s:St},FBs l m n thr s->Good c n thr s->(∀f∈fs,0<=f.2/\f.2<thr)->FBs l m n thr (s.flush n fs):=by
 induction fs with
 |nil=>intro s h _ _;exact h
 |
  cons f fs ih=>
  intro s h g hf;have h1:=hf f (List.mem_cons_self ..);unfold St.flush;split;exact ih (h.write g hc hm hn a _ (by omega)) (g.write hc hn a _ (by omega)) (λg hg=>hf g (List.mem_cons_of_mem _ hg));exact ih h g (λg hg=>hf g (List.mem_cons_of_mem _ hg))
theorem FBs.push {l:List Ev}{m n thr:Nat}{s:St}(h:FBs l m n thr s){e:Ev}(a:l[n]?=some e)(he:0<=e.thread):FBs l m (n+1) thr (s.push e.thread.toNat ⟨n,e⟩):=by intro t d;obtain⟨bs,q⟩:=h t d;unfold St.push;by_cases hk:t=e.thread.toNat;subst hk;simp only[fH];refine⟨bs,q.ch,q.by_,?_,q.fst,q.len⟩;rw[<-List.append_assoc,q.rs];rw[vU,a];dsimp only;rw[if_pos (by omega)];simp only[dK _ _ hk];refine⟨bs,q.ch,q.by_,?_,q.fst,q.len⟩;rw[q.rs];rw[vU,a];dsimp only;rw[if_neg (by omega),List.append_nil]
theorem FBs.add {l:List Ev}{c n thr:Nat}{s:St}(h:FBs l (c+1) n thr s)(g:Good c n thr s){e:Ev}(d:l[n]?=some e)(hc:c+1<=64)(hn:n+1<=400)(q:thr<=4)(he:0<=e.thread)(y:e.thread<thr)(u:e.deps.length<=400)(hf:e.from_.length<=400)(hr:RecFit ⟨n,e⟩):FBs l (c+1) (n+1) thr (s.add ((c+1:Nat):Int) n e):=by have a:=h.push d he;unfold St.add;split;exact a.write (g.pushed he u hf hr) hc (Nat.le_refl _) hn q _ (by omega);exact a
theorem PlanGood.files {l:List Ev}{thr:Nat}{p:Pln}{c:Nat}(h:PlanGood l thr p c)(hn:∀e∈l,RecFit ⟨0,e⟩):∀n,n<=l.length->FBs l (c+1) n thr (Iv.recorded l p n):=by
 intro n;induction n with
 |zero=>intro _;exact (FBs.none l (c+1) thr).flush (c:=c) (by have:=h.c64;omega) (by omega) (by omega) h.thr4 _ (Good.none c thr) (λf hf=>(h.fl f hf).2)
 |
  succ n ih=>
  intro d;have h1:=ih (by omega);have q:=h.recorded hn n (by omega);have hk:l[n]?=some l[n]:=List.getElem?_eq_getElem d;rw[Ef hk];have hm:l[n]∈l:=List.getElem_mem d;obtain⟨e1,u,y,e4⟩:=h.ev _ hm;have h4:=h.len;have B:=h.c64;have a:RecFit ⟨(n:Int),l[n]⟩:=(hn _ hm).seqOf ⟨by omega,by omega⟩;have a1:=h1.add q hk h.c64 (by omega) h.thr4 e1 u y e4 a;have a2:=q.add (e:=l[n]) h.c64 (by omega) h.thr4 e1 u y e4 a;rw[<-h.cap] at a1 a2;exact a1.flush (c:=c) (by omega) (by omega) (by omega) h.thr4 _ a2 (λf hf=>(h.fl f hf).2)
def InL (l:List Ev)(R:List Rec):Prop:=∀r∈R,∃q:Nat,r.seq=q/\l[q]?=some r.ev
theorem adP {R:List Rec}{l:List Ev}(h:InL l R):∀(f n i:Nat) (e:Ev),(ui R f n)[i]?=some e->l[n+i]?=some e:=by
 intro f;induction f with
 |zero=>intro n i e he;simp[ui] at he
 |
  succ f ih=>
  intro n i e he;unfold ui at he;split at he
  . rename_i hc
    cases i with
    |
     zero=>
     simp only[List.getElem?_cons_zero,Option.some.injEq] at he;have h1:0<R.countP (λr=>decide (r.seq=(n:Int))):=(by unfold yT at hc;omega);obtain⟨r,hr,hs⟩:=List.countP_pos_iff.1 h1;simp only[decide_eq_true_eq] at hs;rw[KP hc hr hs] at he;obtain⟨q,d,a⟩:=h r hr;rw[show n+0=q by omega,<-he];exact a
    |
     succ i=>
     simp only[List.getElem?_cons_succ] at he;have:=ih (n+1) i e he;rwa [show n+1+i=n+(i+1) by omega] at this
  simp at he
theorem MC {R:List Rec}{l:List Ev}(h:InL l R):(dU R).length<=l.length/\dU R=l.take (dU R).length:=by have a:∀(i:Nat) (e:Ev),(dU R)[i]?=some e->l[i]?=some e:=(λi e he=>by have:=adP h _ _ _ _ he;rwa [Nat.zero_add] at this);have hlen:(dU R).length<=l.length:=(by rcases Nat.eq_zero_or_pos (dU R).length with h0|h0;omega;have h1:(dU R).length-1<(dU R).length:=(by omega);have:=a _ _ (List.getElem?_eq_getElem h1);have:=(List.getElem?_eq_some_iff.1 this).1;omega);refine⟨hlen,List.ext_getElem? λi=>?_⟩;by_cases hi:i<(dU R).length;rw[List.getElem?_take_of_lt hi,List.getElem?_eq_getElem hi];exact (a _ _ (List.getElem?_eq_getElem hi)).symm;rw[List.getElem?_eq_none (by omega),List.getElem?_eq_none (by rw[List.length_take];omega)]
theorem Um {t:Int} :∀ {bs:List Blk}{rc la:Int}(m:Nat),Chain t rc la bs->∃j,aI t ((bytesB bs).take m) rc la=(bs.take j).map (λb=>(b,(az b).length)):=by
 intro bs;induction bs with
 |nil=>intro rc la m h;exact⟨0,by simp[bytesB,N8]⟩
 |
  cons b bs ih=>
  intro rc la m h;obtain⟨⟨h1,h2,h3,h4,h5⟩,h6⟩:=h;have a:bytesB (b::bs)=az b++bytesB bs:=(by unfold bytesB;rw[List.flatMap_cons]);rw[a];by_cases hm:m<(az b).length;refine⟨0,?_⟩;rw[List.take_append_of_le_length (by omega)];apply dN;rw[RF h1 h4 hm];rfl
  . obtain⟨j,q⟩:=ih (rc:=rc+b.recs.length) (la:=jg b la) (m-(az b).length) h6;refine⟨j+1,?_⟩;have u:(az b++bytesB bs).take m=az b++(bytesB bs).take (m-(az b).length):=(by rw[List.take_append,List.take_of_length_le (by omega)]);rw[u];have d:=decode_encode h1 h4 ((bytesB bs).take (m-(az b).length))
    rw[oH (by
     rw[d];unfold lF;have h0:=(fE h1).1
     cases hq:b.recs with
     |nil=>rw [hq] at h0;simp at h0
     |
      cons r rs=>
      have:=h5 r (by rw[hq];exact List.mem_cons_self ..);simp[h2,h3,this]),d]
    dsimp only;rw[List.drop_left,q,List.take_succ_cons,List.map_cons]
theorem abx (bs:List Blk):(bs.map (λb=>(b,(az b).length))).flatMap (λp=>p.1.recs)=recsB bs:=by
 unfold recsB;induction bs with
 |nil=>rfl
 |cons b bs ih=>simp only[List.map_cons,List.flatMap_cons,ih]
theorem aby {l:List Ev}{t:Int}{n:Nat} :InL l (evsT l t n):=λr hr=>by
 obtain⟨k,_,h2,h3,_⟩:=N7 hr
 exact⟨k,h2,h3⟩
theorem PlanGood.recsIn {l:List Ev}{thr:Nat}{p:Pln}{c:Nat}(h:PlanGood l thr p c)(hn:∀e∈l,RecFit ⟨0,e⟩)(t:Nat)(d:t<thr):InL l (jc t (filesOf l p t)):=by have u:qG l p<=l.length:=(by unfold qG;omega);obtain⟨bs,q⟩:=h.files hn _ u t d;have a:∀j,InL l (recsB (bs.take j)):=(λj r hr=>by refine aby (t:=t) (n:=qG l p) r ?_;rw[<-q.rs];refine List.mem_append_left _ ?_;unfold recsB at hr|-;obtain⟨b,hb,hr⟩:=List.mem_flatMap.1 hr;exact List.mem_flatMap.2 ⟨b,List.mem_of_mem_take hb,hr⟩);have hcut:∃m,filesOf l p t=(bytesB bs).take m:=(by unfold filesOf kS;dsimp only;rw[q.by_];split;exact⟨_,rfl⟩;exact⟨(bytesB bs).length,by rw[List.take_length]⟩);obtain⟨m,hm⟩:=hcut;obtain⟨j,y⟩:=Um m q.ch;unfold jc;rw[hm,y,abx];exact a j
theorem Un {l:List Ev}{fs:List Bytes} :∀ {k:Nat},(∀t,t<k->InL l (jc t (fileAt fs t)))->InL l (aT fs k):=by intro k;intro h r hr;unfold aT at hr;obtain⟨t,a,hr⟩:=List.mem_flatMap.1 hr;exact h t (List.mem_range.1 a) r hr
def AO (l:List Ev)(p:Pln)(thr:Nat):List Bytes:=(List.range thr).map (filesOf l p)
theorem abz {l:List Ev}{p:Pln}{thr t:Nat}(h:t<thr):fileAt (AO l p thr) t=filesOf l p t:=by unfold fileAt AO;rw[List.getElem?_map,List.getElem?_range h];rfl
theorem PlanGood.pre {l:List Ev}{thr:Nat}{p:Pln}{c:Nat}(h:PlanGood l thr p c)(hn:∀e∈l,RecFit ⟨0,e⟩):(dU (aT (AO l p thr) thr)).length<=l.length/\dU (aT (AO l p thr) thr)=l.take (dU (aT (AO l p thr) thr)).length:=
 MC (Un λt a=>by rw[abz a];exact h.recsIn hn t a)
end Iv
namespace Go.Proofs.YtfbkkgfkhhibfaaGreat
open Go Go.RowKit Iv
theorem Yg {w:World}{base lo B n c:Nat}{A:Option Addr}{css:List Value}{E:List Ev}(a:w.ownsRow base 52 7 (.slice A n c) n css)(h:EvsB w lo B css E)(hB:B<=w.heap.size)(hn:E.length=n):Evs w w.heap.size A n E:=by refine⟨hn,λk e he=>?_⟩;have hk:k<n:=(by have:=(dF.1 he).1;omega);obtain⟨Ad,nd,cd,Af,nf,cf,q⟩:=h.2 k e he;obtain⟨g,I,y,D,d⟩:=a.form (by omega);injection y with G _ _;subst G;have hc:=a.cells (g:=g) rfl;have l1:=q.ld.lenI;have l2:=q.lf.lenI;refine⟨g,0,Ad,cd,Af,cf,rfl,d,λj u H=>?_,?_,?_⟩;have:=hc (k*7+j) u (q.cells j u (by unfold evV;rw[<-l1,<-l2];exact H));rw[show (⟨g,0,none⟩:Addr).add (k*7+j)=⟨g,0+k*7+j,none⟩ by unfold Addr.add;split<;>simp_all] at this;exact this;rw[l1];exact q.ld.more hB;rw[l2];exact q.lf.more hB
theorem Dx (E:List Ev)(A A':Option Addr)(n c c' B:Nat)(w:World)(h:Evs w B A n E)(R:Evs w B A' n E)(hB:B<=w.heap.size)(hn:n<=1000000000)(U:∀e∈E,e.deps.length<=1000000000000/\e.from_.length<=1000000000000):
 Calls Tryz.prog 17 #[.slice A n c,.slice A' n c'] w λe w'=>e= .returned (.bool true)/\w.grownBy w' none:=by
 have HH:=ae h;have M:=ae R;have HL:=ae U;have q0:((n:Int) !=(n:Int))=false:=(by simp);clear h R U;go_enter Tryz.func17,Tryz.ntmps17;go_wp2_with fail;go_loopw [5] (λiv wr=>∃k:Nat,iv= .int .i64 (k:Int)/\k<=n/\w.grownBy wr none) (λiv _=>n-(intOf iv).toNat)
 case atStart=>exact ⟨0,rfl,ay _,bu w none⟩
 case round=>
  obtain⟨k,rfl,hk,hg⟩:=hrel;by_cases D:k<n
  . obtain⟨b,o,e,Ad,cd,Af,cf,hA,hb,he,c0,c1,c2,c3,c4,c5,c6,G,H⟩:=(HH.o.grown hg hB nofun).at D;obtain⟨d,o',a,V,X,Y,I,N,a6,q,d0,d1,d2,d3,d4,d5,d6,J,L⟩:=(M.o.grown hg hB nofun).at D;have O:a=e:=(by rw[he] at q;exact (DC q).symm);subst O;have u:=HL.o a (gZ he);have Z:=ae (Gp a Ad _ cd Af _ cf V _ X Y _ I wr.drew B G.drew H.drew J.drew L.drew u.1 u.2);unfold evV at Z;have i0:(0:Int)<=(k:Int):=(by omega);have i1:(k:Int)<(n:Int):=(by omega);subst hA N;clear G H J L he q u;go_upto_region 6 with fail
    go_region_held3 (λw'=>w'.cell? ⟨b,o+k*7,none⟩=some (.int .i64 a.thread)/\w'.cell? ⟨b,o+k*7+1,none⟩=some (.int .i64 a.kind)/\w'.cell? ⟨b,o+k*7+2,none⟩=some (.int .i64 a.obj)/\w'.cell? ⟨b,o+k*7+3,none⟩=some (.int .i64 a.value)/\w'.cell? ⟨b,o+k*7+4,none⟩=some (.int .i64 a.site)/\w'.cell? ⟨b,o+k*7+5,none⟩=some (.slice Ad a.deps.length cd)/\w'.cell? ⟨b,o+k*7+6,none⟩=some (.slice Af a.from_.length cf)/\
     w'.cell? ⟨d,o'+k*7,none⟩=some (.int .i64 a.thread)/\w'.cell? ⟨d,o'+k*7+1,none⟩=some (.int .i64 a.kind)/\w'.cell? ⟨d,o'+k*7+2,none⟩=some (.int .i64 a.obj)/\w'.cell? ⟨d,o'+k*7+3,none⟩=some (.int .i64 a.value)/\w'.cell? ⟨d,o'+k*7+4,none⟩=some (.int .i64 a.site)/\w'.cell? ⟨d,o'+k*7+5,none⟩=some (.slice V a.deps.length X)/\w'.cell? ⟨d,o'+k*7+6,none⟩=some (.slice Y a.from_.length I))
     (first|go_keep|(refine⟨?_,?_,?_,?_,?_,?_,?_,?_,?_,?_,?_,?_,?_,?_⟩<;>exact sH (w:=wr) (by assumption) (by assumption) (by simp))|fail)
     (first|(go_at_call 35;((with_reducible refine Z.o.mono ?_);rintro e w2 ⟨rfl,y⟩;replace y:=lJ y))|fail)
    go_wp2_with fail;go_roundw
    case rel=>exact ⟨k+1,by go_num,by omega,af hg y (.inl rfl)⟩
    case measure=>simp [intOf];omega
  . go_wp2_with fail;go_ret;exact⟨rfl,hg⟩
theorem Ja (A A':Option Addr)(n c a:Nat)(x:Int)(ls:List Int)(w:World)(B d:Nat)(h:Lies w B 1 A n (ls.map iv))(y:Lies w d 1 A' n (ls.map iv))(hB:B<=w.heap.size)(u:d<=w.heap.size)(hn:n<=1000000):
 Calls Tryz.prog 18 #[.agg #[.slice A n c,.int .i64 x],.agg #[.slice A' n a,.int .i64 x]] w λe w'=>e= .returned (.bool true)/\w.grownBy w' none:=by have H:(x==x)=true:=(by simp);obtain⟨W,hW⟩:∃W,W=(w.alloc (.cells #[.slice A n c,.int .i64 x] 61)).alloc (.cells #[.slice A' n a,.int .i64 x] 61):=⟨_,rfl⟩;have hg:w.grownBy W none:=(by rw[hW];exact af (aV _ _ none) (aV _ _ none) (.inl rfl));have D:=ae (qX A A' n n c a ls W B d (h.grown hg hB nofun) (y.grown hg u nofun) (by omega) (by omega));rw[hW] at D;have E:=ae hW;have G:=ae hg;clear h y hW hg;go_enter Tryz.func18,Tryz.ntmps18;go_wp2_with fail;refine D.o.mono ?_;rintro e w2 ⟨rfl,q,rfl⟩;go_wp2_with fail;go_ret;exact⟨rfl,by rw[<-E.o];exact aQ G.o q⟩
def Cp1 (W:World)(lo B sz:Nat)(u:Sl)(n:Nat)(X:List Value):Prop:=u.n=n/\Lies W B sz u.A n X/\Lo lo u.A n/\(0<n->∃b o,u.A=some ⟨b,o,none⟩)
theorem Cp1.keep {W a:World}{lo B sz n:Nat}{row:Option Nat}{u:Sl}{X:List Value}(h:Cp1 W lo B sz u n X)(hg:W.grownBy a row)(hB:B<=W.heap.size)(hr:Rng lo B row):Cp1 a lo B sz u n X:=
 ⟨h.1,eX h.2.1 h.2.2.1 hg hB hr,h.2.2.1,h.2.2.2⟩
theorem Cp1.own {W:World}{base e sz n c:Nat}{A:Option Addr}{X:List Value}(h:W.ownsRow base e sz (.slice A n c) n X):Cp1 W base W.heap.size sz ⟨A,n,c⟩ n X:=by refine⟨rfl,Lies.ofOwn h,?_,?_⟩;exact Lo.ofOwn h (au _);intro hn;rcases h.2 with ⟨h0,h1⟩|⟨g,cap,cur,h0,_⟩;omega;injection h0 with h0;exact⟨g,0,h0⟩
def CpW (n0:Nat)(X0:List Value)(n1:Nat)(X1:List Value)(n2:Nat)(X2:List Value)(n3:Nat)(X3:List Value)(n4:Nat)(X4:List Value)(n5:Nat)(X5:List Value)(W:World)(lo B:Nat)(us:List Sl):Prop:=∃u0 u1 u2 u3 u4 u5:Sl,us=[u0,u1,u2,u3,u4,u5]/\Cp1 W lo B 5 u0 n0 X0/\Cp1 W lo B 2 u1 n1 X1/\Cp1 W lo B 2 u2 n2 X2/\Cp1 W lo B 1 u3 n3 X3/\Cp1 W lo B 1 u4 n4 X4/\Cp1 W lo B 3 u5 n5 X5
theorem CpW.keep {n0 n1 n2 n3 n4 n5:Nat}{X0 X1 X2 X3 X4 X5:List Value} :∀W a lo B row us,CpW n0 X0 n1 X1 n2 X2 n3 X3 n4 X4 n5 X5 W lo B us->W.grownBy a row->B<=W.heap.size->Rng lo B row->CpW n0 X0 n1 X1 n2 X2 n3 X3 n4 X4 n5 X5 a lo B us:=by rintro W a lo B row us ⟨u0,u1,u2,u3,u4,u5,d,h0,h1,h2,h3,h4,h5⟩ hg hB hr;exact⟨u0,u1,u2,u3,u4,u5,d,h0.keep hg hB hr,h1.keep hg hB hr,h2.keep hg hB hr,h3.keep hg hB hr,h4.keep hg hB hr,h5.keep hg hB hr⟩
theorem CpW.made (w:World)(B:Nat)(A0:Option Addr)(n0 c0:Nat)(X0:List Value)(A1:Option Addr)(n1 c1:Nat)(X1:List Value)(A2:Option Addr)(n2 c2:Nat)(X2:List Value)(A3:Option Addr)(n3 c3:Nat)(X3:List Value)(A4:Option Addr)(n4 c4:Nat)(X4:List Value)(A5:Option Addr)(n5 c5:Nat)(X5:List Value)(h0:In1 w B 5 48 A0 n0 c0 X0)(h1:In1 w B 2 24 A1 n1 c1 X1)(h2:In1 w B 2 24 A2 n2 c2 X2)(h3:In1 w B 1 16 A3 n3 c3 X3)(h4:In1 w B 1 16 A4 n4 c4 X4)(h5:In1 w B 3 24 A5 n5 c5 X5)(hB:B<=w.heap.size):∀W,w.grownBy W none->Calls Tryz.prog 34 #[.agg #[.slice A0 n0 c0,.slice A1 n1 c1,.slice A2 n2 c2,.slice A3 n3 c3,.slice A4 n4 c4,.slice A5 n5 c5]] W λe a=>
 ∃u0 u1 u2 u3 u4 u5:Sl,e= .returned (.agg #[.slice u0.A u0.n u0.c,.slice u1.A u1.n u1.c,.slice u2.A u2.n u2.c,.slice u3.A u3.n u3.c,.slice u4.A u4.n u4.c,.slice u5.A u5.n u5.c])/\CpW n0 X0 n1 X1 n2 X2 n3 X3 n4 X4 n5 X5 a W.heap.size a.heap.size [u0,u1,u2,u3,u4,u5]/\W.grownBy a none:=by intro W hg;refine (GH W B A0 n0 c0 X0 A1 n1 c1 X1 A2 n2 c2 X2 A3 n3 c3 X3 A4 n4 c4 X4 A5 n5 c5 X5 (h0.grown hg hB) (h1.grown hg hB) (h2.grown hg hB) (h3.grown hg hB) (h4.grown hg hB) (h5.grown hg hB) (aK hB hg.size)).mono ?_;rintro e a ⟨q,k0,u,y,D,E,G,H,I,J,L,M,rfl,⟨o0,o1,o2,o3,o4,N⟩,d⟩;exact⟨⟨q,n0,k0⟩,⟨u,n1,y⟩,⟨D,n2,E⟩,⟨G,n3,H⟩,⟨I,n4,J⟩,⟨L,n5,M⟩,rfl,⟨⟨q,n0,k0⟩,⟨u,n1,y⟩,⟨D,n2,E⟩,⟨G,n3,H⟩,⟨I,n4,J⟩,⟨L,n5,M⟩,rfl,Cp1.own o0,Cp1.own o1,Cp1.own o2,Cp1.own o3,Cp1.own o4,Cp1.own N⟩,d⟩
end Go.Proofs.YtfbkkgfkhhibfaaGreat
namespace Iv
theorem Jq {t:Nat}{b:Bytes}{r:Rec}(h:r∈jc t b):r.ev.deps.length<=400/\r.ev.from_.length<=400:=by
 unfold jc at h;obtain⟨p,d,hr⟩:=List.mem_flatMap.1 h;have hg:∀(f:Nat) (b:Bytes) (rc la:Int),p∈dm t f b rc la->fits p.1=0:=by
  intro f;induction f with
  |zero=>intro b rc la h;simp[dm] at h
  |
   succ f ih=>
   intro b rc la h;unfold dm at h;split at h;rename_i a;rcases List.mem_cons.1 h with h|h;rw[h];exact (mJ a).2.2.2;exact ih _ _ _ h;simp at h
 have hf:=hg _ _ _ _ d;have:=jS _ _ _ (fE hf).2.2.2.2.2.2 r hr;exact⟨this.2.1,this.2.2.1⟩
theorem Jr {fs:List Bytes}{k:Nat}{r:Rec}(h:r∈aT fs k):r.ev.deps.length<=400/\r.ev.from_.length<=400:=by unfold aT at h;obtain⟨t,_,hr⟩:=List.mem_flatMap.1 h;exact Jq hr
theorem QZ {l:List Rec}(h:∀r∈l,r.ev.deps.length<=400/\r.ev.from_.length<=400)(n:Int):(wJ l n).deps.length<=400/\(wJ l n).from_.length<=400:=by unfold wJ;split;rename_i r hr;exact h r (List.mem_of_find?_eq_some hr);simp
theorem Q3 {l:List Rec}(h:∀r∈l,r.ev.deps.length<=400/\r.ev.from_.length<=400)(f:Nat):∀n,∀e∈ui l f n,e.deps.length<=400/\e.from_.length<=400:=by
 induction f with
 |zero=>intro n e he;simp[ui] at he
 |
  succ f ih=>
  intro n e he;unfold ui at he;split at he;rcases List.mem_cons.1 he with he|he;rw[he];exact QZ h _;exact ih _ _ he;simp at he
theorem NW (fs:List Bytes)(k:Nat):∀e∈dU (aT fs k),e.deps.length<=400/\e.from_.length<=400:=
 Q3 (λ_ hr=>Jr hr) _ _
end Iv
namespace Go.Proofs.YtfbkkgfkhhibfaaGreat
open Go Go.RowKit Iv
structure Two (w:World)(B sz:Nat)(A A':Option Addr)(n:Nat)(X:List Value):Prop where
 l:Lies w B sz A n X
 l':Lies w B sz A' n X
 a:0<n->∃b o,A=some ⟨b,o,none⟩
 a':0<n->∃b o,A'=some ⟨b,o,none⟩
theorem zu {w W:World}{a b:Array Value}{s t:TypeId}(h:W=(w.alloc (.cells a s)).alloc (.cells b t)):w.grownBy W none/\Held W w.heap.size s a/\Held W (w.heap.size+1) t b:=by subst h;have e:(w.alloc (.cells a s)).heap.size=w.heap.size+1:=(by simp);exact⟨af (aV _ _ none) (aV _ _ none) (.inl rfl),(Held.new w s a).alloc _,by rw[<-e];exact Held.new _ _ _⟩
theorem Evs.more6 {w:World}{B a n:Nat}{A:Option Addr}{l:List Ev}(h:Evs w B A n l)(hB:B<=a):Evs w a A n l:=
 ⟨h.1,λk e he=>by
  obtain⟨b,o,Ad,cd,Af,cf,d,hb,q,u,y⟩:=h.2 k e he
  exact⟨b,o,Ad,cd,Af,cf,d,pF hb hB,q,u.more hB,y.more hB⟩⟩
theorem Xn (fs:List Bytes)(k:Nat)(hk:k<=10)(h:∀f∈fs,f.length<=1000000):(dU (aT fs k)).length<=1000000000:=by have h1:=Xo (aT fs k);have h2:=oM fs k h;omega
theorem aaN (fs:List Bytes)(k:Nat):∀e∈dU (aT fs k),e.deps.length<=1000000000000/\e.from_.length<=1000000000000:=λe he=>by
 have:=NW fs k e he
 omega
structure WRd (w:World)(B:Nat)(A0:Option Addr)(n0:Nat)(X0:List Value)(A1:Option Addr)(n1:Nat)(X1:List Value)(A2:Option Addr)(n2:Nat)(X2:List Value)(A3:Option Addr)(n3:Nat)(X3:List Value)(A4:Option Addr)(n4:Nat)(X4:List Value)(A5:Option Addr)(n5:Nat)(X5:List Value):Prop where
 l0:Lies w B 5 A0 n0 X0
 l1:Lies w B 2 A1 n1 X1
 l2:Lies w B 2 A2 n2 X2
 l3:Lies w B 1 A3 n3 X3
 l4:Lies w B 1 A4 n4 X4
 l5:Lies w B 3 A5 n5 X5
 s0:∀k,k<n0->AtCell X0 k
 s1:∀k,k<n1->AtLock X1 k
 s2:∀k,k<n2->AtCond X2 k
 s3:∀k,k<n3->AtStr X3 k
 s4:∀k,k<n4->AtStr X4 k
 s5:∀k,k<n5->AtSite X5 k
 a0:0<n0->∃b o,A0=some ⟨b,o,none⟩
 a1:0<n1->∃b o,A1=some ⟨b,o,none⟩
 a2:0<n2->∃b o,A2=some ⟨b,o,none⟩
 a3:0<n3->∃b o,A3=some ⟨b,o,none⟩
 a4:0<n4->∃b o,A4=some ⟨b,o,none⟩
 a5:0<n5->∃b o,A5=some ⟨b,o,none⟩
 m0:n0<=9000000000000000
 m1:n1<=9000000000000000
 m2:n2<=9000000000000000
 m3:n3<=9000000000000000
 m4:n4<=9000000000000000
 m5:n5<=9000000000000000
theorem WIn.rd {w:World}{B:Nat}{A0:Option Addr}{n0 c0:Nat}{X0:List Value}{A1:Option Addr}{n1 c1:Nat}{X1:List Value}{A2:Option Addr}{n2 c2:Nat}{X2:List Value}{A3:Option Addr}{n3 c3:Nat}{X3:List Value}{A4:Option Addr}{n4 c4:Nat}{X4:List Value}{A5:Option Addr}{n5 c5:Nat}{X5:List Value}(h:WIn w B A0 n0 c0 X0 A1 n1 c1 X1 A2 n2 c2 X2 A3 n3 c3 X3 A4 n4 c4 X4 A5 n5 c5 X5):WRd w B A0 n0 X0 A1 n1 X1 A2 n2 X2 A3 n3 X3 A4 n4 X4 A5 n5 X5:=
 ⟨h.h0.lies,h.h1.lies,h.h2.lies,h.h3.lies,h.h4.lies,h.h5.lies,h.s0,h.s1,h.s2,h.s3,h.s4,h.s5,h.a0,h.a1,h.a2,h.a3,h.a4,h.a5,(by have:=h.h0.bytes_;omega),(by have:=h.h1.bytes_;omega),(by have:=h.h2.bytes_;omega),(by have:=h.h3.bytes_;omega),(by have:=h.h4.bytes_;omega),(by have:=h.h5.bytes_;omega)⟩
def aog (w:World)(A0:Option Addr)(n0:Nat)(X0:List Value)(A1:Option Addr)(n1:Nat)(X1:List Value)(A2:Option Addr)(n2:Nat)(X2:List Value)(A3:Option Addr)(n3:Nat)(X3:List Value)(A4:Option Addr)(n4:Nat)(X4:List Value)(A5:Option Addr)(n5:Nat)(X5:List Value)(fs:List Bytes)(e:Ending)(w':World):Prop:=∃(D0:Option Addr) (k0:Nat) (D1:Option Addr) (k1:Nat) (D2:Option Addr) (k2:Nat) (D3:Option Addr) (k3:Nat) (D4:Option Addr) (k4:Nat) (D5:Option Addr) (k5:Nat) (AE:Option Addr) (cE:Nat) (AB:Option Addr) (cB:Nat),e= .returned (.tuple #[.agg #[.slice D0 n0 k0,.slice D1 n1 k1,.slice D2 n2 k2,.slice D3 n3 k3,.slice D4 n4 k4,.slice D5 n5 k5,.slice AE (dU (aT fs n4)).length cE],.agg #[.slice AB (dR fs n4).length cB,.int .i64 (((aT fs n4).length:Int)-((dU (aT fs n4)).length:Int))]])/\
 WRd w' w'.heap.size D0 n0 X0 D1 n1 X1 D2 n2 X2 D3 n3 X3 D4 n4 X4 D5 n5 X5/\Evs w' w'.heap.size AE (dU (aT fs n4)).length (dU (aT fs n4))/\Lies w' w'.heap.size 1 AB (dR fs n4).length ((dR fs n4).map iv)/\w.grownBy w' none
theorem QO (w:World)(B:Nat)(A0:Option Addr)(n0 c0:Nat)(X0:List Value)(A1:Option Addr)(n1 c1:Nat)(X1:List Value)(A2:Option Addr)(n2 c2:Nat)(X2:List Value)(A3:Option Addr)(n3 c3:Nat)(X3:List Value)(A4:Option Addr)(n4 c4:Nat)(X4:List Value)(A5:Option Addr)(n5 c5:Nat)(X5:List Value)(hW:WIn w B A0 n0 c0 X0 A1 n1 c1 X1 A2 n2 c2 X2 A3 n3 c3 X3 A4 n4 c4 X4 A5 n5 c5 X5)(hB:B<=w.heap.size)(y:Option Addr)(u X D:Nat)(fs:List Bytes)(hF:FIn w D y u fs)(E:D<=w.heap.size)(hk:n4<=10)(hlen:∀f∈fs,f.length<=1000000)(G:u<=1000):
 Calls Tryz.prog 15 #[.agg #[.slice A0 n0 c0,.slice A1 n1 c1,.slice A2 n2 c2,.slice A3 n3 c3,.slice A4 n4 c4,.slice A5 n5 c5],.slice y u X] w λe w'=>aog w A0 n0 X0 A1 n1 X1 A2 n2 X2 A3 n3 X3 A4 n4 X4 A5 n5 X5 fs e w':=by have H:=CpW.made w B A0 n0 c0 X0 A1 n1 c1 X1 A2 n2 c2 X2 A3 n3 c3 X3 A4 n4 c4 X4 A5 n5 c5 X5 hW.h0 hW.h1 hW.h2 hW.h3 hW.h4 hW.h5 hB;refine (QP _ _ _ _ _ A4 n4 c4 y u X D fs w hF E hk hlen G ⟨rfl,rfl,rfl,rfl,rfl⟩ (CpW n0 X0 n1 X1 n2 X2 n3 X3 n4 X4 n5 X5) CpW.keep H).mono ?_;rintro e w2 ⟨⟨Z,q0,k0⟩,⟨D1,q1,k1⟩,⟨D2,q2,k2⟩,⟨D3,q3,k3⟩,⟨D4,q4,k4⟩,⟨D5,q5,k5⟩,AE,cE,AB,cB,rfl,⟨lo,B1,⟨v0,v1,v2,v3,v4,v5,Y,I,J,L,M,N,O⟩,d⟩,⟨base,a6,B2,css,q,R,U⟩,hls,V⟩;simp only[tX,and_true] at Y;obtain⟨rfl,rfl,rfl,rfl,rfl,rfl⟩:=Y;obtain⟨rfl,rfl,rfl,rfl,rfl,rfl⟩:q0=n0/\q1=n1/\q2=n2/\q3=n3/\q4=n4/\q5=n5:=⟨I.1,J.1,L.1,M.1,N.1,O.1⟩;have a:=hW.rd;exact⟨Z,k0,D1,k1,D2,k2,D3,k3,D4,k4,D5,k5,AE,cE,AB,cB,rfl,⟨I.2.1.more d,J.2.1.more d,L.2.1.more d,M.2.1.more d,N.2.1.more d,O.2.1.more d,a.s0,a.s1,a.s2,a.s3,a.s4,a.s5,I.2.2.2,J.2.2.2,L.2.2.2,M.2.2.2,N.2.2.2,O.2.2.2,a.m0,a.m1,a.m2,a.m3,a.m4,a.m5⟩,Yg q R U rfl,hls,V⟩
def aoi (w:World)(A0:Option Addr)(n0 c0:Nat)(X0:List Value)(A1:Option Addr)(n1 c1:Nat)(X1:List Value)(A2:Option Addr)(n2 c2:Nat)(X2:List Value)(A3:Option Addr)(n3 c3:Nat)(X3:List Value)(A4:Option Addr)(n4 c4:Nat)(X4:List Value)(A5:Option Addr)(n5 c5:Nat)(X5:List Value)(fs:List Bytes)(e:Ending)(w':World):Prop:=∃(AE:Option Addr) (cE:Nat) (AB:Option Addr) (cB:Nat),e= .returned (.tuple #[.agg #[.slice A0 n0 c0,.slice A1 n1 c1,.slice A2 n2 c2,.slice A3 n3 c3,.slice A4 n4 c4,.slice A5 n5 c5,.slice AE (dU (aT fs n4)).length cE],.agg #[.slice AB (dR fs n4).length cB,.int .i64 (((aT fs n4).length:Int)-((dU (aT fs n4)).length:Int))]])/\
 Evs w' w'.heap.size AE (dU (aT fs n4)).length (dU (aT fs n4))/\Lies w' w'.heap.size 1 AB (dR fs n4).length ((dR fs n4).map iv)/\w.grownBy w' none
theorem aeW (w:World)(A0:Option Addr)(n0 c0:Nat)(X0:List Value)(A1:Option Addr)(n1 c1:Nat)(X1:List Value)(A2:Option Addr)(n2 c2:Nat)(X2:List Value)(A3:Option Addr)(n3 c3:Nat)(X3:List Value)(A4:Option Addr)(n4 c4:Nat)(X4:List Value)(A5:Option Addr)(n5 c5:Nat)(X5:List Value)(B:Option Addr)(y O D:Nat)(fs:List Bytes)(hF:FIn w D B y fs)(E:D<=w.heap.size)(hk:n4<=10)(hlen:∀f∈fs,f.length<=1000000)(G:y<=1000):
 Calls Tryz.prog 16 #[.agg #[.slice A0 n0 c0,.slice A1 n1 c1,.slice A2 n2 c2,.slice A3 n3 c3,.slice A4 n4 c4,.slice A5 n5 c5],.slice B y O] w λe w'=>aoi w A0 n0 c0 X0 A1 n1 c1 X1 A2 n2 c2 X2 A3 n3 c3 X3 A4 n4 c4 X4 A5 n5 c5 X5 fs e w':=by refine (QQ ⟨A0,n0,c0⟩ ⟨A1,n1,c1⟩ ⟨A2,n2,c2⟩ ⟨A3,n3,c3⟩ ⟨A4,n4,c4⟩ ⟨A5,n5,c5⟩ B y O D fs w hF E hk hlen G).mono ?_;rintro e Z ⟨u0,u1,u2,u3,u4,u5,H,I,J,L,rfl,⟨U,V,d,R⟩,⟨base',X,Y,DX,a,q,u⟩,M,N⟩;simp only[tX,and_true] at d;obtain⟨rfl,rfl,rfl,rfl,rfl,rfl⟩:=d;exact⟨H,I,J,L,rfl,Yg a q u rfl,M,N⟩
theorem Yr {w:World}{B n m:Nat}{A:Option Addr}{l E:List Ev}(h:Evs w B A n l)(hm:m<=l.length)(hE:l.take m=E):Evs w B A m E:=by subst hE;refine⟨by rw[qE];omega,λk e hk=>?_⟩;have a:k<m:=(by have:=(dF.1 hk).1;rw[qE] at this;omega);rw[Yt a] at hk;exact h.2 k e hk
theorem FilesAt.fin {base thr gF:Nat}{fs:Nat->Bytes}{vf:Nat->Value}{w:World}(h:FilesAt base thr gF fs vf w):FIn w w.heap.size (some ⟨gF,0,none⟩) thr ((List.range thr).map fs):=by
 refine⟨by simp,λk f hk=>?_⟩;rw[bV] at hk
 cases hr:(List.range thr)[k]? with
 |none=>rw [hr] at hk;simp at hk
 |
  some t=>
  obtain⟨a,d⟩:=dF.1 hr;rw[List.length_range] at a;simp only[List.getElem_range] at d;subst d;rw[hr] at hk;simp only[nU,ig] at hk;subst hk;obtain⟨A,c,q,h1,h2,h3,h4⟩:=ai (h.own k a);refine⟨gF,0,A,_,c,rfl,h.h.lt,?_,h3,h1,h2,h4⟩;have:=h.h.cell k;rw[fG,this,iU _ a,q]
theorem VR {l:List Ev}{n:Nat}{p:Pln}(h:bU l n p=0)(B:l.length<=100)(hn:∀e∈l,RecFit ⟨0,e⟩):∀f∈(List.range n).map (filesOf l p),f.length<=1000000:=by intro f hf;obtain⟨t,a,rfl⟩:=jo.1 hf;have a:=tY.1 a;obtain⟨d,c,q,u⟩:=DY h;obtain rfl:n=d:=(by omega);have y:qG l p<=l.length:=(by unfold qG;omega);have h1:=u.recorded hn _ y t a;have h2:=h1.size;have h3:=h1.hi;have h4:((recorded l p (qG l p)).file t).length<=1000000:=(by omega);unfold filesOf kS;dsimp only;split;unfold CY;rw[qE];omega;exact h4
structure FlN (w:World)(m n base gF:Nat)(A:Option Addr)(l:List Ev)(p:Pln)(vf:Nat->Value):Prop where
 n1:1<=n
 n4:n<=4
 len:l.length<=m
 evs:Evs w base A l.length l
 ok:∀(k:Nat) e,l[k]?=some e->EvOk n k e
 pl:PlnG n p
 fa:FilesAt base n gF (filesOf l p) vf w
 bs:base<=w.heap.size
def aok (w:World)(m:Nat)(e:Ending)(w':World):Prop:=∃(A0:Option Addr) (n0 c0:Nat) (X0:List Value) (A1:Option Addr) (n1 c1:Nat) (X1:List Value) (A2:Option Addr) (n2 c2:Nat) (X2:List Value) (A3:Option Addr) (n3 c3:Nat) (X3:List Value) (A4:Option Addr) (n4 c4:Nat) (X4:List Value) (A5:Option Addr) (n5 c5:Nat) (X5:List Value) (A:Option Addr) (c:Nat) (l:List Ev) (p:Pln) (base gF:Nat) (vf:Nat->Value),e= .returned (.tuple #[.agg #[.slice A0 n0 c0,.slice A1 n1 c1,.slice A2 n2 c2,.slice A3 n3 c3,.slice A4 n4 c4,.slice A5 n5 c5,.slice A l.length c],.slice (some ⟨gF,0,none⟩) n4 n4])/\l.length<=c/\FlN w' m n4 base gF A l p vf/\WIn w' base A0 n0 c0 X0 A1 n1 c1 X1 A2 n2 c2 X2 A3 n3 c3 X3 A4 n4 c4 X4 A5 n5 c5 X5/\w.heap.size<=base/\w.grownBy w' none
