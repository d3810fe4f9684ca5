/- Words. -/
import Derived.Test.YtfbkkgfkhhibfaaGreatSrI
set_option linter.unusedVariables false
namespace Iv
theorem zX {l:List Ev}{p:Pln}(hc:p.cuts= [])(t:Nat):dN l p t=(recorded l p (jQ l p)).file t:=by
 unfold dN;rw[hc,List.length_nil,xO]
def evsT (l:List Ev)(t:Int):Nat→List Rec
 | 0=> []
 | n+1=>evsT l t n++(match l[n]? with | some e=>if e.thread=t then [⟨n,e⟩] else [] | none=> [])
theorem lW (l:List Ev)(t:Int)(n:Nat):evsT l t (n+1)=evsT l t n++(match l[n]? with | some e=>if e.thread=t then [⟨n,e⟩] else [] | none=> []):=rfl
theorem Gt {l:List Ev}{t:Int} :∀ {n:Nat} {r:Rec},r∈evsT l t n→∃k:Nat,k < n∧r.seq=k∧l[k]?=some r.ev∧r.ev.thread=t:=by
 intro n;induction n with
 | zero=>intro r h;simp[evsT] at h
 |
  succ n ih=>
  intro r h;rw[lW] at h;rcases List.mem_append.1 h with h | h
  · obtain⟨k,h1,h2⟩:=ih h;exact⟨k,by omega,h2⟩
  · cases he:l[n]? with
    | none=>rw [he] at h;simp at h
    |
     some e=>
     rw[he] at h;dsimp only at h;split at h
     · rename_i ht
       simp only[List.mem_singleton] at h;subst h;exact⟨n,by omega,rfl,he,ht⟩
     · simp at h
theorem RD (l:List Ev)(t:Int):∀n,(evsT l t n).Pairwise (fun a b=>a.seq < b.seq):=by
 intro n;induction n with
 | zero=>simp [evsT]
 |
  succ n ih=>
  rw[lW,List.pairwise_append];refine⟨ih,?_,fun a ha b hb=>?_⟩
  · cases he:l[n]? with
    | none=>simp
    | some e=>dsimp only;split <;> simp
  · obtain⟨k,hk,h2,_⟩:=Gt ha
    have hb2:b.seq=n:=by
     cases he:l[n]? with
     | none=>rw [he] at hb;simp at hb
     |
      some e=>
      rw[he] at hb;dsimp only at hb;split at hb
      · simp only[List.mem_singleton] at hb;subst hb;rfl
      · simp at hb
    omega
def Chain (t:Int):Int→Int→List Blk→Prop
 | _,_,[]=>True
 | rc,la,b :: bs=>(fits b=0∧b.thread=t∧b.first=rc∧(∀r∈b.recs,RecOk r)∧∀r∈b.recs,la < r.seq)∧Chain t (rc+b.recs.length) (iJ b la) bs
def rD (la:Int):List Blk→Int
 | []=>la
 | b :: bs=>rD (iJ b la) bs
def recsB (bs:List Blk):List Rec:=bs.flatMap (·.recs)
def bytesB (bs:List Blk):Bytes:=bs.flatMap ak
theorem JS {b:Blk}{la m:Int}(h:la < m)(hb:∀q∈b.recs,q.seq < m):iJ b la < m:=by
 unfold iJ;split
 · rename_i r hr
   exact hb r (List.mem_of_getLast? hr)
 · exact h
theorem xP {m:Int} :∀ {bs:List Blk} {la:Int},la < m→(∀q∈recsB bs,q.seq < m)→rD la bs < m
 | [],la,h,_=>h
 | b :: bs,la,h,hb=>xP (bs:=bs) (JS h (fun q hq=>hb q (by unfold recsB;rw[List.flatMap_cons];exact List.mem_append_left _ hq))) (fun q hq=>hb q (by unfold recsB;rw[List.flatMap_cons];exact List.mem_append_right _ hq))
theorem Chain.snoc {t:Int}{b:Blk}(hf:fits b=0)(ht:b.thread=t)(hr:∀r∈b.recs,RecOk r):∀ {bs:List Blk} {rc la:Int},Chain t rc la bs→b.first=rc+(recsB bs).length→(∀r∈b.recs,rD la bs < r.seq)→Chain t rc la (bs++ [b])
 | [],rc,la,_,h1,h2=>⟨⟨hf,ht,by simpa [recsB] using h1,hr,h2⟩,trivial⟩
 | x :: bs,rc,la,h,h1,h2=>⟨h.1,Chain.snoc hf ht hr h.2 (by rw[h1];unfold recsB;rw[List.flatMap_cons,List.length_append];omega) h2⟩
theorem decode_nil:(Iv.decode []).2.2≠0:=by decide+kernel
theorem uN (th rc la:Int):aJ th [] rc la= []:=by
 apply eY;unfold lg;simp[decode_nil]
theorem Dn {t:Int}(rest:Bytes):∀ {bs:List Blk} {rc la:Int},Chain t rc la bs→aJ t (bytesB bs++rest) rc la=bs.map (fun b=>(b,(ak b).length))++aJ t rest (rc+(recsB bs).length) (rD la bs):=by
 intro bs;induction bs with
 | nil=>intro rc la h;simp[bytesB,recsB,rD]
 |
  cons b bs ih=>
  intro rc la h;obtain⟨⟨h1,h2,h3,h4,h5⟩,h6⟩:=h;have hd:=decode_encode h1 h4 (bytesB bs++rest);have hbb:bytesB (b :: bs)++rest=ak b++(bytesB bs++rest):=by unfold bytesB;rw[List.flatMap_cons,List.append_assoc]
  have hlen:(recsB (b :: bs)).length=b.recs.length+(recsB bs).length:=by unfold recsB;rw[List.flatMap_cons,List.length_append]
  rw[hbb,kG (by
   rw[hd];unfold lg;have h0:=(dR h1).1
   cases hq:b.recs with
   | nil=>rw [hq] at h0;simp at h0
   |
    cons r rs=>
    have:=h5 r (by rw[hq];exact List.mem_cons_self ..);simp[h2,h3,this]),hd]
  dsimp only;rw[List.drop_left,ih h6,List.map_cons,List.cons_append,hlen];congr 3;omega
theorem Gu {t:Int}{bs:List Blk}(h:Chain t 0 (-1) bs):aJ t (bytesB bs) 0 (-1)=bs.map (fun b=>(b,(ak b).length)):=by
 have:=Dn [] h;rw[List.append_nil,uN,List.append_nil] at this;exact this
theorem OM (bs:List Blk):sizeB (bs.map (fun b=>(b,(ak b).length)))=(bytesB bs).length:=by
 induction bs with
 | nil=>rfl
 |
  cons b bs ih=>
  unfold sizeB bytesB at *
  simp only[List.map_cons,List.sum_cons,List.flatMap_cons,List.length_append,ih]
structure FB (l:List Ev)(m n:Nat)(t:Nat)(b:List Rec)(f:Int)(x:Bytes)(bs:List Blk):Prop where
 ch:Chain t 0 (-1) bs
 by_:x=bytesB bs
 rs:recsB bs++b=evsT l t n
 fst:f=(recsB bs).length
 len:∀y∈bs,y.recs.length≤m
def FBs (l:List Ev)(m n thr:Nat)(s:St):Prop:=∀t,t < thr→∃bs,FB l m n t (s.buf t) (s.first t) (s.file t) bs
theorem FBs.none (l:List Ev)(m thr:Nat):FBs l m 0 thr St.none:=fun t _=>⟨[],trivial,rfl,rfl,rfl,fun y hy=>by simp at hy⟩
theorem xQ (bs:List Blk)(b:Blk):recsB (bs++ [b])=recsB bs++b.recs:=by unfold recsB;simp
theorem Gv (bs:List Blk)(b:Blk):bytesB (bs++ [b])=bytesB bs++ak b:=by unfold bytesB;simp
theorem FBs.write {l:List Ev}{m c n thr:Nat}{s:St}(h:FBs l m n thr s)(g:Good c n thr s)(hc:c≤64)(hm:c≤m)(hn:n≤400)(xR:thr≤4)(t:Nat)(ht:t < thr):FBs l m n thr (s.write t):=by
 unfold St.write;split
 · exact h
 · rename_i h0
   intro k hk;by_cases hkt:k=t
   · subst hkt;simp only[cZ];obtain⟨bs,q⟩:=h k hk;have gt:=g k hk;have hf:=gt.fits (by omega) hc hn (by omega)
     have he:(encode (Bj s k)).1=ak (Bj s k):=by
      unfold encode;have:fits (Bj s k)=0:=hf;rw[if_pos this]
     have hpw:=RD l k n;rw[←q.rs,List.pairwise_append] at hpw;refine⟨bs++ [Bj s k],q.ch.snoc hf rfl (tu gt.ok gt.fit) (by rw[Int.zero_add];exact q.fst) (fun r hr=>?_),?_,?_,?_,fun y hy=>?_⟩
     · refine xP ?_ (fun q' hq=>hpw.2.2 q' hq r hr);exact (jE k _ _ gt.ok r hr).2.2.2
     · rw[Gv,he,q.by_]
     · rw[xQ,List.append_nil];exact q.rs
     · rw[xQ,List.length_append,q.fst];show _=(((recsB bs).length+(s.buf k).length:Nat):Int);omega
     · rcases List.mem_append.1 hy with hy | hy
       · exact q.len y hy
       · simp only[List.mem_singleton] at hy;subst hy;have:=gt.len;show (s.buf k).length≤m;omega
   · simp only[bG _ _ hkt];exact h k hk
theorem FBs.flush {l:List Ev}{m c n thr:Nat}(hc:c≤64)(hm:c≤m)(hn:n≤400)(xR:thr≤4)(fs:List (Int×Int)):∀ {s:St},FBs l m n thr s→Good c n thr s→(∀f∈fs,0≤f.2∧f.2 < thr)→FBs l m n thr (s.flush n fs):=by
 induction fs with
 | nil=>intro s h _ _;exact h
 |
  cons f fs ih=>
  intro s h g hf;have h1:=hf f (List.mem_cons_self ..);unfold St.flush;split
  · exact ih (h.write g hc hm hn xR _ (by omega)) (g.write hc hn xR _ (by omega)) (fun g hg=>hf g (List.mem_cons_of_mem _ hg))
  · exact ih h g (fun g hg=>hf g (List.mem_cons_of_mem _ hg))
theorem FBs.push {l:List Ev}{m n thr:Nat}{s:St}(h:FBs l m n thr s){e:Ev}(hl:l[n]?=some e)(he:0≤e.thread):FBs l m (n+1) thr (s.push e.thread.toNat ⟨n,e⟩):=by
 intro t ht;obtain⟨bs,q⟩:=h t ht;unfold St.push;by_cases hk:t=e.thread.toNat
 · subst hk;simp only[cZ];refine⟨bs,q.ch,q.by_,?_,q.fst,q.len⟩;rw[←List.append_assoc,q.rs];rw[lW,hl];dsimp only;rw[if_pos (by omega)]
 · simp only[bG _ _ hk];refine⟨bs,q.ch,q.by_,?_,q.fst,q.len⟩;rw[q.rs];rw[lW,hl];dsimp only;rw[if_neg (by omega),List.append_nil]
theorem FBs.add {l:List Ev}{c n thr:Nat}{s:St}(h:FBs l (c+1) n thr s)(g:Good c n thr s){e:Ev}(hl:l[n]?=some e)(hc:c+1≤64)(hn:n+1≤400)(xR:thr≤4)(he:0≤e.thread)(ht:e.thread < thr)(hd:e.deps.length≤400)(hf:e.from_.length≤400)(hr:RecFit ⟨n,e⟩):FBs l (c+1) (n+1) thr (s.add ((c+1:Nat):Int) n e):=by
 have hp:=h.push hl he;unfold St.add;split
 · exact hp.write (g.pushed he hd hf hr) hc (Nat.le_refl _) hn xR _ (by omega)
 · exact hp
theorem PlanGood.files {l:List Ev}{thr:Nat}{p:Pln}{c:Nat}(h:PlanGood l thr p c)(hn:∀e∈l,RecFit ⟨0,e⟩):∀n,n≤l.length→FBs l (c+1) n thr (Iv.recorded l p n):=by
 intro n;induction n with
 | zero=>intro _;exact (FBs.none l (c+1) thr).flush (c:=c) (by have:=h.c64;omega) (by omega) (by omega) h.thr4 _ (Good.none c thr) (fun f hf=>(h.fl f hf).2)
 |
  succ n ih=>
  intro hl;have h1:=ih (by omega);have g1:=h.recorded hn n (by omega);have hk:l[n]?=some l[n]:=List.getElem?_eq_getElem hl;rw[rE hk];have hm:l[n]∈l:=List.getElem_mem hl;obtain⟨e1,e2,e3,e4⟩:=h.ev _ hm;have h4:=h.len;have h64:=h.c64;have hfit:RecFit ⟨(n:Int),l[n]⟩:=(hn _ hm).seqOf ⟨by omega,by omega⟩;have a1:=h1.add g1 hk h.c64 (by omega) h.thr4 e1 e2 e3 e4 hfit;have a2:=g1.add (e:=l[n]) h.c64 (by omega) h.thr4 e1 e2 e3 e4 hfit;rw[←h.cap] at a1 a2;exact a1.flush (c:=c) (by omega) (by omega) (by omega) h.thr4 _ a2 (fun f hf=>(h.fl f hf).2)
def X9 (l:List Ev)(R:List Rec):Prop:=∀r∈R,∃q:Nat,r.seq=q∧l[q]?=some r.ev
theorem Ya {R:List Rec}{l:List Ev}(h:X9 l R):∀(f n i:Nat) (e:Ev),(uA R f n)[i]?=some e→l[n+i]?=some e:=by
 intro f;induction f with
 | zero=>intro n i e he;simp[uA] at he
 |
  succ f ih=>
  intro n i e he;unfold uA at he;split at he
  · rename_i hc
    cases i with
    |
     zero=>
     simp only[List.getElem?_cons_zero,Option.some.injEq] at he;have h1:0 < R.countP (fun r=>decide (r.seq=(n:Int))):=by unfold qY at hc;omega
     obtain⟨r,hr,hs⟩:=List.countP_pos_iff.1 h1;simp only[decide_eq_true_eq] at hs;rw[NT hc hr hs] at he;obtain⟨q,hq,hl⟩:=h r hr;rw[show n+0=q by omega,←he];exact hl
    |
     succ i=>
     simp only[List.getElem?_cons_succ] at he;have:=ih (n+1) i e he;rwa [show n+1+i=n+(i+1) by omega] at this
  · simp at he
theorem sN {R:List Rec}{l:List Ev}(h:X9 l R):(dF R).length≤l.length∧dF R=l.take (dF R).length:=by
 have hat:∀(i:Nat) (e:Ev),(dF R)[i]?=some e→l[i]?=some e:=fun i e he=>by
  have:=Ya h _ _ _ _ he;rwa [Nat.zero_add] at this
 have hlen:(dF R).length≤l.length:=by
  rcases Nat.eq_zero_or_pos (dF R).length with h0 | h0
  · omega
  · have h1:(dF R).length - 1 < (dF R).length:=by omega
    have:=hat _ _ (List.getElem?_eq_getElem h1);have:=(List.getElem?_eq_some_iff.1 this).1;omega
 refine⟨hlen,List.ext_getElem? fun i=>?_⟩;by_cases hi:i < (dF R).length
 · rw[List.getElem?_take_of_lt hi,List.getElem?_eq_getElem hi];exact (hat _ _ (List.getElem?_eq_getElem hi)).symm
 · rw[List.getElem?_eq_none (by omega),List.getElem?_eq_none (by rw[List.length_take];omega)]
theorem Vh {R:List Rec}{n:Nat}(h:∀i:Nat,i < n→qY R i=1)(hb:∀r∈R,∃q:Nat,r.seq=q∧q < n):R.length=n:=by
 have key:∀m:Nat,m≤n→R.countP (fun r=>decide (0≤r.seq∧r.seq < (m:Int)))=m:=by
  intro m;induction m with
  | zero=>intro _;rw[List.countP_eq_zero];intro r _;simp;try omega
  |
   succ m ih=>
   intro hm
   rw[sH (fun r=>decide (0≤r.seq∧r.seq < (m:Int))) (fun r=>decide (r.seq=(m:Int))) _ R (fun r=>by
    rw[←Bool.decide_or];apply decide_eq_decide.2;omega) (fun r hr=>by simp at hr;omega),ih (by omega)]
   have:=h m (by omega);unfold qY at this;rw[this]
 rw[←key n (Nat.le_refl _)];symm;rw[List.countP_eq_length];intro r hr;obtain⟨q,h1,h2⟩:=hb r hr;simp only[decide_eq_true_eq];omega
theorem Vj {R:List Rec}{n:Nat}(h:∀i:Nat,i < n→qY R i=1):∀(f k:Nat),n≤k+f→n≤k+(uA R f k).length:=by
 intro f;induction f with
 | zero=>intro k hk;omega
 |
  succ f ih=>
  intro k hk;by_cases hkn:k < n
  · unfold uA;rw[if_pos (h k hkn),List.length_cons];have:=ih (k+1) (by omega);omega
  · omega
theorem IZ {R:List Rec}{l:List Ev}(h:X9 l R)(hc:∀i:Nat,i < l.length→qY R i=1):dF R=l∧R.length=l.length:=by
 have hl:=Vh hc (fun r hr=>by
  obtain⟨q,h1,h2⟩:=h r hr;exact⟨q,h1,(List.getElem?_eq_some_iff.1 h2).1⟩)
 have hp:=sN h
 have h2:l.length≤(dF R).length:=by
  have:=Vj hc (R.length+1) 0 (by omega);unfold dF;omega
 refine⟨?_,hl⟩;rw[hp.2,List.take_of_length_le h2]
theorem MH {t:Int} :∀ {bs:List Blk} {rc la:Int} (m:Nat),Chain t rc la bs→∃j,aJ t ((bytesB bs).take m) rc la=(bs.take j).map (fun b=>(b,(ak b).length)):=by
 intro bs;induction bs with
 | nil=>intro rc la m h;exact⟨0,by simp[bytesB,uN]⟩
 |
  cons b bs ih=>
  intro rc la m h;obtain⟨⟨h1,h2,h3,h4,h5⟩,h6⟩:=h;have hbb:bytesB (b :: bs)=ak b++bytesB bs:=by unfold bytesB;rw[List.flatMap_cons]
  rw[hbb];by_cases hm:m < (ak b).length
  · refine⟨0,?_⟩;rw[List.take_append_of_le_length (by omega)];apply eY;rw[Ko h1 h4 hm];rfl
  · obtain⟨j,hj⟩:=ih (rc:=rc+b.recs.length) (la:=iJ b la) (m - (ak b).length) h6;refine⟨j+1,?_⟩
    have ht:(ak b++bytesB bs).take m=ak b++(bytesB bs).take (m - (ak b).length):=by
     rw[List.take_append,List.take_of_length_le (by omega)]
    rw[ht];have hd:=decode_encode h1 h4 ((bytesB bs).take (m - (ak b).length))
    rw[kG (by
     rw[hd];unfold lg;have h0:=(dR h1).1
     cases hq:b.recs with
     | nil=>rw [hq] at h0;simp at h0
     |
      cons r rs=>
      have:=h5 r (by rw[hq];exact List.mem_cons_self ..);simp[h2,h3,this]),hd]
    dsimp only;rw[List.drop_left,hj,List.take_succ_cons,List.map_cons]
theorem I8 (bs:List Blk):(bs.map (fun b=>(b,(ak b).length))).flatMap (fun p=>p.1.recs)=recsB bs:=by
 unfold recsB;induction bs with
 | nil=>rfl
 | cons b bs ih=>simp only[List.map_cons,List.flatMap_cons,ih]
theorem I9 {l:List Ev}{t:Int}{n:Nat} :X9 l (evsT l t n):=fun r hr=>by
 obtain⟨k,_,h2,h3,_⟩:=Gt hr
 exact⟨k,h2,h3⟩
theorem PlanGood.recsIn {l:List Ev}{thr:Nat}{p:Pln}{c:Nat}(h:PlanGood l thr p c)(hn:∀e∈l,RecFit ⟨0,e⟩)(t:Nat)(ht:t < thr):X9 l (iT t (dN l p t)):=by
 have hN:jQ l p≤l.length:=by unfold jQ;omega
 obtain⟨bs,q⟩:=h.files hn _ hN t ht
 have hsub:∀j,X9 l (recsB (bs.take j)):=fun j r hr=>by
  refine I9 (t:=t) (n:=jQ l p) r ?_;rw[←q.rs];refine List.mem_append_left _ ?_;unfold recsB at hr⊢;obtain⟨b,hb,hr⟩:=List.mem_flatMap.1 hr;exact List.mem_flatMap.2 ⟨b,List.mem_of_mem_take hb,hr⟩
 have hcut:∃m,dN l p t=(bytesB bs).take m:=by
  unfold dN jc;dsimp only;rw[q.by_];split
  · exact⟨_,rfl⟩
  · exact⟨(bytesB bs).length,by rw[List.take_length]⟩
 obtain⟨m,hm⟩:=hcut;obtain⟨j,hj⟩:=MH m q.ch;unfold iT;rw[hm,hj,I8];exact hsub j
theorem zl {l:List Ev}{fs:List Bytes} :∀ {k:Nat},(∀t,t < k→X9 l (iT t (fileAt fs t)))→X9 l (aV fs k):=by
 intro k;intro h r hr;unfold aV at hr;obtain⟨t,ht,hr⟩:=List.mem_flatMap.1 hr;exact h t (List.mem_range.1 ht) r hr
def kX (l:List Ev)(p:Pln)(thr:Nat):List Bytes:=(List.range thr).map (dN l p)
theorem sO {l:List Ev}{p:Pln}{thr t:Nat}(h:t < thr):fileAt (kX l p thr) t=dN l p t:=by
 unfold fileAt kX;rw[List.getElem?_map,List.getElem?_range h];rfl
theorem PlanGood.pre {l:List Ev}{thr:Nat}{p:Pln}{c:Nat}(h:PlanGood l thr p c)(hn:∀e∈l,RecFit ⟨0,e⟩):(dF (aV (kX l p thr) thr)).length≤l.length∧dF (aV (kX l p thr) thr)=l.take (dF (aV (kX l p thr) thr)).length:=
 sN (zl fun t ht=>by rw[sO ht];exact h.recsIn hn t ht)
theorem Qw (s:St)(t k:Nat)(h:s.buf k= []):(s.write t).buf k= []:=by
 unfold St.write;split
 · exact h
 · by_cases hk:k=t
   · subst hk;simp[cZ]
   · simp[bG _ _ hk,h]
theorem Vk (s:St)(t:Nat):(s.write t).buf t= []:=by
 unfold St.write;split
 · rename_i h
   exact List.eq_nil_of_length_eq_zero h
 · simp[cZ]
theorem CV (fs:List (Int×Int)):∀(s:St) (n k:Nat),(s.buf k= []∨((n:Int),(k:Int))∈fs)→(s.flush n fs).buf k= []:=by
 induction fs with
 |
  nil=>
  intro s n k h;rcases h with h | h
  · exact h
  · simp at h
 |
  cons f fs ih=>
  intro s n k h;unfold St.flush;refine ih _ n k ?_;rcases h with h | h
  · left;split
    · exact Qw _ _ _ h
    · exact h
  · rcases List.mem_cons.1 h with h | h
    · left;subst h;rw[if_pos rfl];exact Vk s k
    · exact .inr h
theorem E8 {l:List Ev}{p:Pln}(k:Nat)(h:((l.length:Int),(k:Int))∈p.flushes):(recorded l p l.length).buf k= []:=by
 cases hl:l.length with
 |
  zero=>
  rw[hl] at h;exact CV _ _ _ _ (.inr h)
 |
  succ n=>
  rw[hl] at h;have hk:l[n]?=some l[n]:=List.getElem?_eq_getElem (by omega);rw[rE hk];exact CV _ _ _ _ (.inr h)
theorem Vl (l:List Ev)(t:Int)(i:Nat)(e:Ev)(he:l[i]?=some e):∀n,qY (evsT l t n) i=if i < n∧e.thread=t then 1 else 0:=by
 intro n;induction n with
 | zero=>simp [evsT,qY]
 |
  succ n ih=>
  rw[lW];unfold qY at ih⊢;rw[List.countP_append,ih];by_cases hin:i=n
  · subst hin;rw[he];dsimp only;by_cases ht:e.thread=t
    · simp[ht]
    · simp[ht]
  · have hz:List.countP (fun r=>decide (r.seq=(i:Int))) (match l[n]? with | some e=>if e.thread=t then [⟨n,e⟩] else [] | none=>([]:List Rec))=0:=by
     rw[List.countP_eq_zero];intro r hr
     have:r.seq=n:=by
      cases hq:l[n]? with
      | none=>rw [hq] at hr;simp at hr
      |
       some e'=>
       rw[hq] at hr;dsimp only at hr;split at hr
       · simp only[List.mem_singleton] at hr;subst hr;rfl
       · simp at hr
     simp only[decide_eq_true_eq];omega
    refine (congrArg (fun z=>(if i < n∧e.thread=t then 1 else 0)+z) hz).trans ?_;by_cases ht:e.thread=t
    · simp only[ht,and_true,Nat.add_zero];by_cases h1:i < n
      · rw[if_pos h1,if_pos (by omega)]
      · rw[if_neg h1,if_neg (by omega)]
    · simp[ht]
theorem PlanGood.whole {l:List Ev}{thr:Nat}{p:Pln}{c:Nat}(h:PlanGood l thr p c)(hn:∀e∈l,RecFit ⟨0,e⟩)(hc:p.cuts= [])(hs:p.stop=l.length)(hf:∀t:Nat,t < thr→((l.length:Int),(t:Int))∈p.flushes):
 dF (aV (kX l p thr) thr)=l∧(aV (kX l p thr) thr).length=l.length∧dH (kX l p thr) thr=List.replicate thr 0:=by
 have hN:jQ l p=l.length:=by unfold jQ;rw[hs];omega
 have hfl:∀t,t < thr→iT t (dN l p t)=evsT l t l.length∧sizeB (aJ t (dN l p t) 0 (-1))=(dN l p t).length:=fun t ht=>by
  obtain⟨bs,q⟩:=h.files hn _ (Nat.le_refl _) t ht;have hx:=q.by_;have hr:=q.rs;rw[E8 t (hf t ht),List.append_nil] at hr;rw[zX hc,hN];unfold iT;rw[hx,Gu q.ch,I8,OM];exact⟨hr,rfl⟩
 have hin:X9 l (aV (kX l p thr) thr):=zl fun t ht=>by rw[sO ht,(hfl t ht).1];exact I9
 have hcnt:∀i:Nat,i < l.length→qY (aV (kX l p thr) thr) i=1:=fun i hi=>by
  have he:l[i]?=some l[i]:=List.getElem?_eq_getElem hi;have hev:=h.ev _ (List.getElem_mem hi)
  have key:∀k,k≤thr→qY (aV (kX l p thr) k) i=if l[i].thread < (k:Int) then 1 else 0:=by
   intro k;induction k with
   |
    zero=>
    intro _;rw[if_neg (by omega)];rfl
   |
    succ k ih=>
    intro hk;have hev2:=Vl l k i _ he l.length;rw[lG,sO (show k < thr by omega),(hfl k (by omega)).1];unfold qY at ih hev2⊢;rw[List.countP_append,ih (by omega),hev2];by_cases h1:l[i].thread < (k:Int)
    · rw[if_pos h1,if_neg (by omega),if_pos (by omega)]
    · rw[if_neg h1];by_cases h2:l[i].thread=(k:Int)
      · rw[if_pos ⟨hi,h2⟩,if_pos (by omega)]
      · rw[if_neg (fun c=>h2 c.2),if_neg (by omega)]
  rw[key thr (Nat.le_refl _),if_pos hev.2.1]
 obtain⟨h1,h2⟩:=IZ hin hcnt;refine⟨h1,h2,?_⟩;unfold dH;rw[List.eq_replicate_iff];refine⟨by simp,fun x hx=>?_⟩;obtain⟨t,ht,rfl⟩:=List.mem_map.1 hx;have ht:=List.mem_range.1 ht;unfold uj;rw[sO ht,(hfl t ht).2];omega
