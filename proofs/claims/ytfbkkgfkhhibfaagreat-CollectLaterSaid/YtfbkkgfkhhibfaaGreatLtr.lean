/- Words. -/
import Derived.Test.YtfbkkgfkhhibfaaGreatPl
set_option linter.unusedVariables false
namespace Iv
def tV (l:List Rec)(n:Int):Nat:=l.countP λr=>decide (r.seq=n)
def acg (l:List Rec)(n:Int):Ev:=match l.find? (λr=>decide (r.seq=n)) with|some r=>r.ev|none=>⟨0,0,0,0,0,[],[]⟩
def zn (l:List Rec):Nat->Nat->List Ev
 |0,_=> []
 |f+1,n=>if tV l n=1 then acg l n::zn l f (n+1) else []
def iH (l:List Rec):List Ev:=zn l (l.length+1) 0
theorem KC {α:Type}(p q r:α->Bool)(l:List α)(h:∀x,r x=(p x || q x))(a:∀x,¬(p x=true/\q x=true)):l.countP r=l.countP p+l.countP q:=by
 induction l with
 |nil=>rfl
 |
  cons x t ih=>
  rw[List.countP_cons,List.countP_cons,List.countP_cons,ih,h x];have:=a x
  cases hp:p x<;>cases hq:q x<;>simp_all<;>omega
theorem BN (l:List Rec)(n:Nat)(h:∀i:Nat,i<n->tV l i=1):n<=l.length:=by
 have key:∀m:Nat,m<=n->l.countP (λr=>decide (0<=r.seq/\r.seq<(m:Int)))=m:=by
  intro m;induction m with
  |zero=>intro _;rw[List.countP_eq_zero];intro r _;simp;try omega
  |
   succ m ih=>
   intro hm;rw[KC (λr=>decide (0<=r.seq/\r.seq<(m:Int))) (λr=>decide (r.seq=(m:Int))) _ l (λr=>by rw[<-Bool.decide_or];apply decide_eq_decide.2;omega) (λr hr=>by simp at hr;omega),ih (by omega)];have:=h m (by omega);unfold tV at this;rw[this]
 have:=key n (Nat.le_refl _);rw[<-this];exact List.countP_le_length
theorem VO (l:List Rec)(f:Nat):∀(g n:Nat),(∀i:Nat,i<n->tV l i=1)->l.length<f+n->l.length<g+n->zn l f n=zn l g n:=by
 induction f with
 |zero=>intro g n h h1 _;have:=BN l n h;omega
 |
  succ f ih=>
  intro g n h h1 h2;have hn:=BN l n h;obtain⟨g,rfl⟩:∃a,g=a+1:=⟨g-1,by omega⟩;unfold zn;split
  . rename_i hc;congr 1
    exact ih g (n+1) (λi hi=>by
     rcases Nat.lt_or_eq_of_le (Nat.le_of_lt_succ hi) with c|c;exact h i c
     . rw[c];exact hc) (by omega) (by omega)
  rfl
def wK (l:List Rec)(n:Nat):List Ev:=zn l (l.length+1) n
theorem QP {l:List Rec}{n:Nat}(h:∀i:Nat,i<n->tV l i=1)(hc:tV l n=1):wK l n=acg l n::wK l (n+1):=by
 unfold wK
 conv=>lhs;unfold zn
 rw[if_pos hc];congr 1;have a:∀i:Nat,i<n+1->tV l i=1:=(λi hi=>by rcases Nat.lt_or_eq_of_le (Nat.le_of_lt_succ hi) with c|c;exact h i c;rw[c];exact hc);have:=BN l (n+1) a;exact VO l _ _ _ a (by omega) (by omega)
theorem NH {l:List Rec}{n:Nat}(hc:tV l n≠1):wK l n=[]:=by unfold wK zn;rw[if_neg hc]
def Asc (s:List Rec):Prop:=∀(i j:Nat) (x y:Rec),i<j->s[i]?=some x->s[j]?=some y->x.seq<=y.seq
def QO (s:List Rec)(n:Nat):Prop:=(∃r,s[n]?=some r/\r.seq=(n:Int))/\(∀r,s[n+1]?=some r->r.seq≠(n:Int))
theorem zo {α:Type}(p:α->Bool)(l:List α)(n:Nat):l.countP p=(l.take n).countP p+(l.drop n).countP p:=by rw[<-List.countP_append,List.take_append_drop]
theorem Ep {s:List Rec}(hs:Asc s){n:Nat}(y:∀(i:Nat) (r:Rec),i<n->s[i]?=some r->r.seq<n)(u:∀r,s[n]?=some r->(n:Int)<=r.seq):QO s n ↔ tV s n=1:=by
 have h0:(s.take n).countP (λr=>decide (r.seq=(n:Int)))=0:=(by rw[List.countP_eq_zero];intro r hr;obtain⟨i,hi,rfl⟩:=List.mem_iff_getElem.1 hr;have A:i<n:=(by rw[List.length_take] at hi;omega);have I:=y i _ A (by rw[<-List.getElem?_take_of_lt A];exact List.getElem?_eq_getElem hi);simp only[decide_eq_true_eq];omega);unfold tV;rw[zo _ s n,h0,Nat.zero_add]
 cases hd:s.drop n with
 |
  nil=>
  have B:s.length<=n:=List.drop_eq_nil_iff.1 hd;constructor;rintro⟨⟨r,hr,_⟩,_⟩;have:=(List.getElem?_eq_some_iff.1 hr).1;omega;intro h;simp at h
 |
  cons x t=>
  have hx:s[n]?=some x:=(by have:(s.drop n)[0]?=some x:=(by rw[hd];rfl);rwa [List.getElem?_drop,Nat.add_zero] at this);have D:∀j,t[j]?=s[n+1+j]?:=(λj=>by have:(s.drop n)[j+1]?=t[j]?:=(by rw[hd];rfl);rw[<-this,List.getElem?_drop];congr 1;omega);have J:=u x hx;rw[List.countP_cons];by_cases d:x.seq=(n:Int)
  . rw[if_pos (decide_eq_true d)];constructor
    . rintro⟨_,h2⟩;have:t.countP (λr=>decide (r.seq=(n:Int)))=0:=by
       rw[List.countP_eq_zero];intro r hr;obtain⟨j,E,rfl⟩:=List.mem_iff_getElem.1 hr;have a:s[n+1+j]?=some t[j]:=(by rw[<-D];exact List.getElem?_eq_getElem E);have B:n+1<s.length:=(by have:=(List.getElem?_eq_some_iff.1 a).1;omega);have L:=h2 _ (List.getElem?_eq_getElem B);have N:=hs n (n+1) _ _ (by omega) hx (List.getElem?_eq_getElem B);have O:(s[n+1]).seq<=(t[j]).seq:=(by rcases Nat.eq_zero_or_pos j with c|c;subst c;have h5:s[n+1]?=some t[0]:=a;rw[List.getElem?_eq_getElem B] at h5;injection h5 with h5;rw[h5];exact Int.le_refl _;exact hs (n+1) (n+1+j) _ _ (by omega) (List.getElem?_eq_getElem B) a);simp;omega
      rw[this]
    intro h;refine⟨⟨x,hx,d⟩,λr hr G=>?_⟩;have h1:t[0]?=some r:=(by rw[D];exact hr);have:0<t.countP (λr=>decide (r.seq=(n:Int))):=List.countP_pos_iff.2 ⟨r,List.mem_of_getElem? h1,by simp[G]⟩;omega
  . rw[if_neg (by simp[d])];have U:(n:Int)<x.seq:=(by omega);have:t.countP (λr=>decide (r.seq=(n:Int)))=0:=by
     rw[List.countP_eq_zero];intro r hr;obtain⟨j,E,rfl⟩:=List.mem_iff_getElem.1 hr;have a:s[n+1+j]?=some t[j]:=(by rw[<-D];exact List.getElem?_eq_getElem E);have:=hs n (n+1+j) _ _ (by omega) hx a;simp;omega
    rw[this];constructor;rintro⟨⟨r,hr,H⟩,_⟩;rw[hx] at hr;injection hr with hr;subst hr;exact absurd H d;intro h;simp at h
theorem NG {l s:List Rec}(h:s.Perm l)(n:Int):tV s n=tV l n:=h.countP_eq _
theorem abB {l:List Rec}{n:Int}(h:tV l n=1){r:Rec}(hr:r∈l)(hn:r.seq=n):acg l n=r.ev:=by
 unfold acg;have key:∀l:List Rec,tV l n=1->r∈l->l.find? (λr=>decide (r.seq=n))=some r:=by
  intro l;induction l with
  |nil=>intro _ h;cases h
  |
   cons x t ih=>
   intro h hr;unfold tV at h ih;rw[List.countP_cons] at h;rw[List.find?_cons];by_cases hx:x.seq=n;simp only[hx,decide_true];rcases List.mem_cons.1 hr with rfl|hr;rfl;have:0<t.countP (λr=>decide (r.seq=n)):=List.countP_pos_iff.2 ⟨r,hr,by simp[hn]⟩;rw[if_pos (decide_eq_true hx)] at h;omega;simp only[hx,decide_false];rcases List.mem_cons.1 hr with rfl|hr;exact absurd hn hx;exact ih (by simpa [hx] using h) hr
 rw[key l h hr]
def fileAt (fs:List Bytes)(t:Nat):Bytes:=(fs[t]?).getD []
def gZ (t:Nat)(b:Bytes):List Rec:=(aN t b 0 (-1)).flatMap λp=>p.1.recs
def aZ (fs:List Bytes)(k:Nat):List Rec:=(List.range k).flatMap λt=>gZ t (fileAt fs t)
def Ej (fs:List Bytes)(t:Nat):Int:=((fileAt fs t).length:Int)-(sizeB (aN t (fileAt fs t) 0 (-1)):Int)
def fV (fs:List Bytes)(k:Nat):List Int:=(List.range k).map (Ej fs)
theorem kC (fs:List Bytes)(k:Nat):aZ fs (k+1)=aZ fs k++gZ k (fileAt fs k):=by unfold aZ;rw[List.range_succ,List.flatMap_append];simp
theorem Ar (fs:List Bytes)(k:Nat):fV fs (k+1)=fV fs k++[Ej fs k]:=by unfold fV;rw[List.range_succ,List.map_append];rfl
theorem EU (th:Int):aN th [] 0 (-1)=[]:=by apply gV;unfold oH;have:(Iv.decode []).2.2≠0:=(by decide+kernel);simp[this]
theorem AL {fs:List Bytes}{t:Nat}(h:fs.length<=t):fileAt fs t=[]:=by unfold fileAt;rw[List.getElem?_eq_none h];rfl
theorem Oz {fs:List Bytes}{t:Nat}(h:fs.length<=t):gZ t (fileAt fs t)=[]:=by rw[AL h];unfold gZ;rw[EU];rfl
theorem OA {fs:List Bytes}{t:Nat}(h:fs.length<=t):Ej fs t=0:=by unfold Ej;rw[AL h,EU];rfl
theorem QL {fs:List Bytes}{t k:Nat}(h:fs.length<=t)(hk:t<=k):aZ fs k=aZ fs t:=by
 induction k with
 |zero=>rw [show t=0 by omega]
 |
  succ k ih=>
  by_cases c:t=k+1;rw[c];rw[kC,ih (by omega),Oz (by omega),List.append_nil]
theorem QM {fs:List Bytes}{t k:Nat}(h:fs.length<=t)(hk:t<=k):fV fs k=fV fs t++List.replicate (k-t) 0:=by
 induction k with
 |zero=>rw [show t=0 by omega];simp
 |
  succ k ih=>
  by_cases c:t=k+1;rw[c];simp;rw[Ar,ih (by omega),OA (by omega),List.append_assoc,show k+1-t=(k-t)+1 by omega,List.replicate_succ']
theorem jY (fs:List Bytes)(k:Nat):(fV fs k).length=k:=by unfold fV;simp
theorem RG {t:Nat}{b:Bytes}{r:Rec}(h:r∈gZ t b):0<=r.seq:=by
 have d:∀(rs:List Rec) (th s:Int),-1<=s->okRecs th s rs=true->(∀r∈rs,s<r.seq):=by
  intro rs;induction rs with
  |nil=>intro th s _ _ r hr;cases hr
  |
   cons x l ih=>
   intro th s hs ho r hr;unfold okRecs at ho;simp only[Bool.and_eq_true,decide_eq_true_eq] at ho;rcases List.mem_cons.1 hr with rfl|hr;exact ho.1.1.1.2;have h1:=ho.1.1.1.2;have:=ih th x.seq (by omega) ho.2 r hr;omega
 unfold gZ at h;obtain⟨p,u,hr⟩:=List.mem_flatMap.1 h;have hg:∀(f:Nat) (b:Bytes) (rc la:Int),p∈bZ t f b rc la->fits p.1=0:=by
  intro f;induction f with
  |zero=>intro b rc la h;simp[bZ] at h
  |
   succ f ih=>
   intro b rc la h;unfold bZ at h;split at h;rename_i a;rcases List.mem_cons.1 h with h|h;rw[h];exact (nM a).2.2.2;exact ih _ _ _ h;simp at h
 have hf:=hg _ _ _ _ u;have:=d _ _ _ (by decide) (fF hf).2.2.2.2.2.2 r hr;omega
theorem QN {fs:List Bytes}{k:Nat}{r:Rec}(h:r∈aZ fs k):0<=r.seq:=by unfold aZ at h;obtain⟨t,_,hr⟩:=List.mem_flatMap.1 h;exact RG hr
theorem Ei (th rc la:Int)(b:Bytes):sizeB (aN th b rc la)<=b.length:=by
 have:∀(f:Nat) (b:Bytes) (rc la:Int),sizeB (bZ th f b rc la)<=b.length:=by
  intro f;induction f with
  |zero=>intro b rc la;simp[bZ,sizeB]
  |
   succ f ih=>
   intro b rc la;unfold bZ;split;rename_i hg;obtain⟨_,h1,h2,_⟩:=nM hg;have:=ih (b.drop (Iv.decode b).2.1) (rc+(Iv.decode b).1.recs.length) (jR (Iv.decode b).1 la);rw[List.length_drop] at this;unfold sizeB at this|-;simp only[List.map_cons,List.sum_cons];omega;simp[sizeB]
 exact this _ b rc la
theorem Eo (t:Nat)(b:Bytes):(gZ t b).length<=64*b.length:=by
 have:∀(f:Nat) (b:Bytes) (rc la:Int),((bZ t f b rc la).flatMap λp=>p.1.recs).length<=64*b.length:=by
  intro f;induction f with
  |zero=>intro b rc la;simp[bZ]
  |
   succ f ih=>
   intro b rc la;unfold bZ;split;rename_i hg;obtain⟨_,h1,h2,h3⟩:=nM hg;have:=ih (b.drop (Iv.decode b).2.1) (rc+(Iv.decode b).1.recs.length) (jR (Iv.decode b).1 la);rw[List.length_drop] at this;have h4:=(fF h3).2.1;simp only[List.flatMap_cons,List.length_append];omega;simp
 exact this _ b 0 (-1)
theorem Em (fs:List Bytes)(k:Nat)(h:∀f∈fs,f.length<=1000000):(aZ fs k).length<=64000000*k:=by
 induction k with
 |zero=>simp [aZ]
 |
  succ k ih=>
  rw[kC,List.length_append];have h1:=Eo k (fileAt fs k);have h2:(fileAt fs k).length<=1000000:=by
   unfold fileAt
   cases hk:fs[k]? with
   |none=>simp
   |some f=>exact h f (List.mem_of_getElem? hk)
  omega
theorem FK {l:List Ev}{p q:Pln}(hc:q.cap=p.cap)(hf:q.flushes=p.flushes):∀n,recorded l q n=recorded l p n:=by
 intro n;induction n with
 |zero=>simp only[recorded,hf]
 |succ n ih=>simp only[recorded,hc,hf,ih]
theorem GH (s:St)(t k:Nat):∃y,(s.write t).file k=s.file k++y:=by unfold St.write;split;exact⟨[],by simp⟩;by_cases hk:k=t;subst hk;exact⟨_,by simp only[dQ];rfl⟩;exact⟨[],by simp[bY _ _ hk]⟩
theorem Ux (fs:List (Int×Int)):∀(s:St) (n k:Nat),∃y,(s.flush n fs).file k=s.file k++y:=by
 induction fs with
 |nil=>intro s n k;exact⟨[],by simp[St.flush]⟩
 |
  cons f fs ih=>
  intro s n k;unfold St.flush;obtain⟨y,a⟩:=ih (if f.1=n then s.write f.2.toNat else s) n k;split at a;rename_i hf;rw[if_pos hf];obtain⟨z,d⟩:=GH s f.2.toNat k;exact⟨z++y,by rw[a,d,List.append_assoc]⟩;rename_i hf;rw[if_neg hf];exact⟨y,a⟩
theorem aaK (s:St)(cap:Int)(n:Nat)(e:Ev)(k:Nat):∃y,(s.add cap n e).file k=s.file k++y:=by unfold St.add;split;obtain⟨y,a⟩:=GH (s.push e.thread.toNat ⟨n,e⟩) e.thread.toNat k;exact⟨y,a⟩;exact⟨[],by simp[St.push]⟩
theorem IB (l:List Ev)(p:Pln)(n k:Nat):∃y,(recorded l p (n+1)).file k=(recorded l p n).file k++y:=by
 cases h:l[n]? with
 |none=>exact ⟨[],by simp[recorded,h]⟩
 |
  some e=>
  obtain⟨y,a⟩:=aaK (recorded l p n) p.cap n e k;obtain⟨z,d⟩:=Ux p.flushes ((recorded l p n).add p.cap n e) (n+1) k;exact⟨y++z,by simp only[recorded,h];rw[d,a,List.append_assoc]⟩
theorem uV {l:List Ev}{p:Pln}(hc:p.cuts=[])(t:Nat):filesOf l p t=(recorded l p (jG l p)).file t:=by unfold filesOf;rw[hc,List.length_nil,C9]
def evsT (l:List Ev)(t:Int):Nat->List Rec
 |0=> []
 |n+1=>evsT l t n++(match l[n]? with|some e=>if e.thread=t then [⟨n,e⟩] else []|none=> [])
theorem qf (l:List Ev)(t:Int)(n:Nat):evsT l t (n+1)=evsT l t n++(match l[n]? with|some e=>if e.thread=t then [⟨n,e⟩] else []|none=> []):=rfl
theorem L9 {l:List Ev}{t:Int} :∀ {n:Nat}{r:Rec},r∈evsT l t n->∃k:Nat,k<n/\r.seq=k/\l[k]?=some r.ev/\r.ev.thread=t:=by
 intro n;induction n with
 |zero=>intro r h;simp[evsT] at h
 |
  succ n ih=>
  intro r h;rw[qf] at h;rcases List.mem_append.1 h with h|h;obtain⟨k,h1,h2⟩:=ih h;exact⟨k,by omega,h2⟩
  . cases he:l[n]? with
    |none=>rw [he] at h;simp at h
    |
     some e=>
     rw[he] at h;dsimp only at h;split at h;rename_i a;simp only[List.mem_singleton] at h;subst h;exact⟨n,by omega,rfl,he,a⟩;simp at h
theorem Xl (l:List Ev)(t:Int):∀n,(evsT l t n).Pairwise (λa b=>a.seq<b.seq):=by
 intro n;induction n with
 |zero=>simp [evsT]
 |
  succ n ih=>
  rw[qf,List.pairwise_append];refine⟨ih,?_,λa ha b hb=>?_⟩
  . cases he:l[n]? with
    |none=>simp
    |some e=>dsimp only;split<;>simp
  . obtain⟨k,hk,h2,_⟩:=L9 ha;have d:b.seq=n:=by
     cases he:l[n]? with
     |none=>rw [he] at hb;simp at hb
     |
      some e=>
      rw[he] at hb;dsimp only at hb;split at hb;simp only[List.mem_singleton] at hb;subst hb;rfl;simp at hb
    omega
def Chain (t:Int):Int->Int->List Blk->Prop
 |_,_,[]=>True
 |rc,la,b::bs=>(fits b=0/\b.thread=t/\b.first=rc/\(∀r∈b.recs,RecOk r)/\∀r∈b.recs,la<r.seq)/\Chain t (rc+b.recs.length) (jR b la) bs
def uA (la:Int):List Blk->Int
 | []=>la
 |b::bs=>uA (jR b la) bs
def recsB (bs:List Blk):List Rec:=bs.flatMap (·.recs)
def bytesB (bs:List Blk):Bytes:=bs.flatMap ak
theorem PW {b:Blk}{la m:Int}(h:la<m)(hb:∀q∈b.recs,q.seq<m):jR b la<m:=by unfold jR;split;rename_i r hr;exact hb r (List.mem_of_getLast? hr);exact h
theorem Dc {m:Int} :∀ {bs:List Blk}{la:Int},la<m->(∀q∈recsB bs,q.seq<m)->uA la bs<m
 | [],la,h,_=>h
 |b::bs,la,h,hb=>Dc (bs:=bs) (PW h (λq a=>hb q (by unfold recsB;rw[List.flatMap_cons];exact List.mem_append_left _ a))) (λq a=>hb q (by unfold recsB;rw[List.flatMap_cons];exact List.mem_append_right _ a))
theorem Chain.snoc {t:Int}{b:Blk}(hf:fits b=0)(a:b.thread=t)(hr:∀r∈b.recs,RecOk r):∀ {bs:List Blk}{rc la:Int},Chain t rc la bs->b.first=rc+(recsB bs).length->(∀r∈b.recs,uA la bs<r.seq)->Chain t rc la (bs++[b])
 | [],rc,la,_,h1,h2=>⟨⟨hf,a,by simpa [recsB] using h1,hr,h2⟩,trivial⟩
 |x::bs,rc,la,h,h1,h2=>⟨h.1,Chain.snoc hf a hr h.2 (by rw[h1];unfold recsB;rw[List.flatMap_cons,List.length_append];omega) h2⟩
theorem decode_nil:(Iv.decode []).2.2≠0:=by decide+kernel
theorem zL (th rc la:Int):aN th [] rc la=[]:=by apply gV;unfold oH;simp[decode_nil]
theorem xw {t:Int}(rest:Bytes):∀ {bs:List Blk}{rc la:Int},Chain t rc la bs->aN t (bytesB bs++rest) rc la=bs.map (λb=>(b,(ak b).length))++aN t rest (rc+(recsB bs).length) (uA la bs):=by
 intro bs;induction bs with
 |nil=>intro rc la h;simp[bytesB,recsB,uA]
 |
  cons b bs ih=>
  intro rc la h;obtain⟨⟨h1,h2,h3,h4,h5⟩,h6⟩:=h;have d:=decode_encode h1 h4 (bytesB bs++rest);have a:bytesB (b::bs)++rest=ak b++(bytesB bs++rest):=(by unfold bytesB;rw[List.flatMap_cons,List.append_assoc]);have hlen:(recsB (b::bs)).length=b.recs.length+(recsB bs).length:=by unfold recsB;rw[List.flatMap_cons,List.length_append]
  rw[a,nD (by
   rw[d];unfold oH;have h0:=(fF h1).1
   cases hq:b.recs with
   |nil=>rw [hq] at h0;simp at h0
   |
    cons r rs=>
    have:=h5 r (by rw[hq];exact List.mem_cons_self ..);simp[h2,h3,this]),d]
  dsimp only;rw[List.drop_left,ih h6,List.map_cons,List.cons_append,hlen];congr 3;omega
theorem zM {t:Int}{bs:List Blk}(h:Chain t 0 (-1) bs):aN t (bytesB bs) 0 (-1)=bs.map (λb=>(b,(ak b).length)):=by have:=xw [] h;rw[List.append_nil,zL,List.append_nil] at this;exact this
structure FB (l:List Ev)(m n:Nat)(t:Nat)(b:List Rec)(f:Int)(x:Bytes)(bs:List Blk):Prop where
 ch:Chain t 0 (-1) bs
 by_:x=bytesB bs
 rs:recsB bs++b=evsT l t n
 fst:f=(recsB bs).length
 len:∀y∈bs,y.recs.length<=m
def FBs (l:List Ev)(m n thr:Nat)(s:St):Prop:=∀t,t<thr->∃bs,FB l m n t (s.buf t) (s.first t) (s.file t) bs
theorem FBs.none (l:List Ev)(m thr:Nat):FBs l m 0 thr St.none:=λt _=>⟨[],trivial,rfl,rfl,rfl,λy a=>by simp at a⟩
theorem Df (bs:List Blk)(b:Blk):recsB (bs++[b])=recsB bs++b.recs:=by unfold recsB;simp
theorem Md (bs:List Blk)(b:Blk):bytesB (bs++[b])=bytesB bs++ak b:=by unfold bytesB;simp
theorem FBs.write {l:List Ev}{m c n thr:Nat}{s:St}(h:FBs l m n thr s)(g:Good c n thr s)(hc:c<=64)(hm:c<=m)(hn:n<=400)(D:thr<=4)(t:Nat)(E:t<thr):FBs l m n thr (s.write t):=by
 unfold St.write;split;exact h
 . rename_i h0;intro k hk;by_cases d:k=t
   . subst d;simp only[dQ];obtain⟨bs,q⟩:=h k hk;have gt:=g k hk;have hf:=gt.fits (by omega) hc hn (by omega);have he:(encode (GI s k)).1=ak (GI s k):=by
      unfold encode;have:fits (GI s k)=0:=hf;rw[if_pos this]
     have u:=Xl l k n;rw[<-q.rs,List.pairwise_append] at u;refine⟨bs++[GI s k],q.ch.snoc hf rfl (yH gt.ok gt.fit) (by rw[Int.zero_add];exact q.fst) (λr hr=>?_),?_,?_,?_,λy a=>?_⟩;refine Dc ?_ (λA B=>u.2.2 A B r hr);exact (lu k _ _ gt.ok r hr).2.2.2;rw[Md,he,q.by_];rw[Df,List.append_nil];exact q.rs;rw[Df,List.length_append,q.fst];show _=(((recsB bs).length+(s.buf k).length:Nat):Int);omega;rcases List.mem_append.1 a with a|a;exact q.len y a;simp only[List.mem_singleton] at a;subst a;have:=gt.len;show (s.buf k).length<=m;omega
   simp only[bY _ _ d];exact h k hk
theorem FBs.flush {l:List Ev}{m c n thr:Nat}(hc:c<=64)(hm:c<=m)(hn:n<=400)(a:thr<=4)(fs:List (Int×Int)):∀ {s:St},FBs l m n thr s->Good c n thr s->(∀f∈fs,0<=f.2/\f.2<thr)->FBs l m n thr (s.flush n fs):=by
 induction fs with
 |nil=>intro s h _ _;exact h
 |
  cons f fs ih=>
  intro s h g hf;have h1:=hf f (List.mem_cons_self ..);unfold St.flush;split;exact ih (h.write g hc hm hn a _ (by omega)) (g.write hc hn a _ (by omega)) (λg hg=>hf g (List.mem_cons_of_mem _ hg));exact ih h g (λg hg=>hf g (List.mem_cons_of_mem _ hg))
theorem FBs.push {l:List Ev}{m n thr:Nat}{s:St}(h:FBs l m n thr s){e:Ev}(a:l[n]?=some e)(he:0<=e.thread):FBs l m (n+1) thr (s.push e.thread.toNat ⟨n,e⟩):=by intro t d;obtain⟨bs,q⟩:=h t d;unfold St.push;by_cases hk:t=e.thread.toNat;subst hk;simp only[dQ];refine⟨bs,q.ch,q.by_,?_,q.fst,q.len⟩;rw[<-List.append_assoc,q.rs];rw[qf,a];dsimp only;rw[if_pos (by omega)];simp only[bY _ _ hk];refine⟨bs,q.ch,q.by_,?_,q.fst,q.len⟩;rw[q.rs];rw[qf,a];dsimp only;rw[if_neg (by omega),List.append_nil]
theorem FBs.add {l:List Ev}{c n thr:Nat}{s:St}(h:FBs l (c+1) n thr s)(g:Good c n thr s){e:Ev}(d:l[n]?=some e)(hc:c+1<=64)(hn:n+1<=400)(u:thr<=4)(he:0<=e.thread)(A:e.thread<thr)(y:e.deps.length<=400)(hf:e.from_.length<=400)(hr:RecFit ⟨n,e⟩):FBs l (c+1) (n+1) thr (s.add ((c+1:Nat):Int) n e):=by have a:=h.push d he;unfold St.add;split;exact a.write (g.pushed he y hf hr) hc (Nat.le_refl _) hn u _ (by omega);exact a
theorem PlanGood.files {l:List Ev}{thr:Nat}{p:Pln}{c:Nat}(h:PlanGood l thr p c)(hn:∀e∈l,RecFit ⟨0,e⟩):∀n,n<=l.length->FBs l (c+1) n thr (Iv.recorded l p n):=by
 intro n;induction n with
 |zero=>intro _;exact (FBs.none l (c+1) thr).flush (c:=c) (by have:=h.c64;omega) (by omega) (by omega) h.thr4 _ (Good.none c thr) (λf hf=>(h.fl f hf).2)
 |
  succ n ih=>
  intro d;have h1:=ih (by omega);have u:=h.recorded hn n (by omega);have hk:l[n]?=some l[n]:=List.getElem?_eq_getElem d;rw[Di hk];have hm:l[n]∈l:=List.getElem_mem d;obtain⟨e1,y,A,e4⟩:=h.ev _ hm;have h4:=h.len;have B:=h.c64;have a:RecFit ⟨(n:Int),l[n]⟩:=(hn _ hm).seqOf ⟨by omega,by omega⟩;have a1:=h1.add u hk h.c64 (by omega) h.thr4 e1 y A e4 a;have a2:=u.add (e:=l[n]) h.c64 (by omega) h.thr4 e1 y A e4 a;rw[<-h.cap] at a1 a2;exact a1.flush (c:=c) (by omega) (by omega) (by omega) h.thr4 _ a2 (λf hf=>(h.fl f hf).2)
def InL (l:List Ev)(R:List Rec):Prop:=∀r∈R,∃q:Nat,r.seq=q/\l[q]?=some r.ev
theorem ZQ {R:List Rec}{n:Nat}(h:∀i:Nat,i<n->tV R i=1):∀(f k:Nat),n<=k+f->n<=k+(zn R f k).length:=by
 intro f;induction f with
 |zero=>intro k hk;omega
 |
  succ f ih=>
  intro k hk;by_cases a:k<n;unfold zn;rw[if_pos (h k a),List.length_cons];have:=ih (k+1) (by omega);omega;omega
theorem RH {t:Int} :∀ {bs:List Blk}{rc la:Int}(m:Nat),Chain t rc la bs->∃j,aN t ((bytesB bs).take m) rc la=(bs.take j).map (λb=>(b,(ak b).length)):=by
 intro bs;induction bs with
 |nil=>intro rc la m h;exact⟨0,by simp[bytesB,zL]⟩
 |
  cons b bs ih=>
  intro rc la m h;obtain⟨⟨h1,h2,h3,h4,h5⟩,h6⟩:=h;have a:bytesB (b::bs)=ak b++bytesB bs:=(by unfold bytesB;rw[List.flatMap_cons]);rw[a];by_cases hm:m<(ak b).length;refine⟨0,?_⟩;rw[List.take_append_of_le_length (by omega)];apply gV;rw[P9 h1 h4 hm];rfl
  . obtain⟨j,u⟩:=ih (rc:=rc+b.recs.length) (la:=jR b la) (m-(ak b).length) h6;refine⟨j+1,?_⟩;have y:(ak b++bytesB bs).take m=ak b++(bytesB bs).take (m-(ak b).length):=(by rw[List.take_append,List.take_of_length_le (by omega)]);rw[y];have d:=decode_encode h1 h4 ((bytesB bs).take (m-(ak b).length))
    rw[nD (by
     rw[d];unfold oH;have h0:=(fF h1).1
     cases hq:b.recs with
     |nil=>rw [hq] at h0;simp at h0
     |
      cons r rs=>
      have:=h5 r (by rw[hq];exact List.mem_cons_self ..);simp[h2,h3,this]),d]
    dsimp only;rw[List.drop_left,u,List.take_succ_cons,List.map_cons]
theorem x8 (bs:List Blk):(bs.map (λb=>(b,(ak b).length))).flatMap (λp=>p.1.recs)=recsB bs:=by
 unfold recsB;induction bs with
 |nil=>rfl
 |cons b bs ih=>simp only[List.map_cons,List.flatMap_cons,ih]
theorem ZR {l:List Ev}{t:Int}{n:Nat} :InL l (evsT l t n):=λr hr=>by
 obtain⟨k,_,h2,h3,_⟩:=L9 hr
 exact⟨k,h2,h3⟩
theorem PlanGood.recsIn {l:List Ev}{thr:Nat}{p:Pln}{c:Nat}(h:PlanGood l thr p c)(hn:∀e∈l,RecFit ⟨0,e⟩)(t:Nat)(d:t<thr):InL l (gZ t (filesOf l p t)):=by have u:jG l p<=l.length:=(by unfold jG;omega);obtain⟨bs,q⟩:=h.files hn _ u t d;have a:∀j,InL l (recsB (bs.take j)):=(λj r hr=>by refine ZR (t:=t) (n:=jG l p) r ?_;rw[<-q.rs];refine List.mem_append_left _ ?_;unfold recsB at hr|-;obtain⟨b,hb,hr⟩:=List.mem_flatMap.1 hr;exact List.mem_flatMap.2 ⟨b,List.mem_of_mem_take hb,hr⟩);have hcut:∃m,filesOf l p t=(bytesB bs).take m:=(by unfold filesOf kL;dsimp only;rw[q.by_];split;exact⟨_,rfl⟩;exact⟨(bytesB bs).length,by rw[List.take_length]⟩);obtain⟨m,hm⟩:=hcut;obtain⟨j,y⟩:=RH m q.ch;unfold gZ;rw[hm,y,x8];exact a j
theorem RI {l:List Ev}{fs:List Bytes} :∀ {k:Nat},(∀t,t<k->InL l (gZ t (fileAt fs t)))->InL l (aZ fs k):=by intro k;intro h r hr;unfold aZ at hr;obtain⟨t,a,hr⟩:=List.mem_flatMap.1 hr;exact h t (List.mem_range.1 a) r hr
def pF (l:List Ev)(p:Pln)(thr:Nat):List Bytes:=(List.range thr).map (filesOf l p)
theorem x9 {l:List Ev}{p:Pln}{thr t:Nat}(h:t<thr):fileAt (pF l p thr) t=filesOf l p t:=by unfold fileAt pF;rw[List.getElem?_map,List.getElem?_range h];rfl
theorem ZT (l:List Ev)(t:Int)(i:Nat)(e:Ev)(he:l[i]?=some e):∀n,tV (evsT l t n) i=if i<n/\e.thread=t then 1 else 0:=by
 intro n;induction n with
 |zero=>simp [evsT,tV]
 |
  succ n ih=>
  rw[qf];unfold tV at ih|-;rw[List.countP_append,ih];by_cases d:i=n;subst d;rw[he];dsimp only;by_cases a:e.thread=t;simp[a];simp[a]
  . have u:List.countP (λr=>decide (r.seq=(i:Int))) (match l[n]? with|some e=>if e.thread=t then [⟨n,e⟩] else []|none=>([]:List Rec))=0:=by
     rw[List.countP_eq_zero];intro r hr;have:r.seq=n:=by
      cases hq:l[n]? with
      |none=>rw [hq] at hr;simp at hr
      |
       some e'=>
       rw[hq] at hr;dsimp only at hr;split at hr;simp only[List.mem_singleton] at hr;subst hr;rfl;simp at hr
     simp only[decide_eq_true_eq];omega
    refine (congrArg (λz=>(if i<n/\e.thread=t then 1 else 0)+z) u).trans ?_;by_cases a:e.thread=t;simp only[a,and_true,Nat.add_zero];by_cases h1:i<n;rw[if_pos h1,if_pos (by omega)];rw[if_neg h1,if_neg (by omega)];simp[a]
theorem aac {R:List Rec} :∀(f n i:Nat),i<(zn R f n).length->tV R ((n+i:Nat):Int)=1:=by
 intro f;induction f with
 |zero=>intro n i hi;simp[zn] at hi
 |
  succ f ih=>
  intro n i hi;unfold zn at hi;split at hi
  . rename_i hc
    cases i with
    |zero=>exact hc
    |
     succ i=>
     have:=ih (n+1) i (by simpa using hi);rwa [show n+1+i=n+(i+1) by omega] at this
  simp at hi
theorem Sv {R S:List Rec}(h:∀i:Nat,tV R i=1->tV S i=1):(iH R).length<=(iH S).length:=by have h1:∀i:Nat,i<(iH R).length->tV S i=1:=λi hi=>h i (by have:=aac _ 0 i hi;rwa [Nat.zero_add] at this);have h2:=BN S _ h1;have h3:=ZQ h1 (S.length+1) 0 (by omega);unfold iH at h3|-;omega
theorem Gn (l:List Ev)(p:Pln)(k:Nat)(n:Nat):∀d,∃y,(recorded l p (n+d)).file k=(recorded l p n).file k++y:=by
 intro d;induction d with
 |zero=>exact ⟨[],by simp⟩
 |
  succ d ih=>
  obtain⟨y,a⟩:=ih;obtain⟨z,u⟩:=IB l p (n+d) k;exact⟨y++z,by rw[<-Nat.add_assoc,u,a,List.append_assoc]⟩
theorem OV {l:List Ev}{t:Int}{i n:Nat}{e:Ev}(he:l[i]?=some e){A B:List Rec}(h:A++B=evsT l t n):tV A i<=if e.thread=t then 1 else 0:=by have h1:=ZT l t i e he n;rw[<-h] at h1;unfold tV at h1|-;rw[List.countP_append] at h1;by_cases a:e.thread=t;rw[if_pos a];split at h1<;>omega;rw[if_neg a];rw[if_neg (λc=>a c.2)] at h1;omega
theorem PlanGood.later {l:List Ev}{thr:Nat}{p:Pln}{c:Nat}(h:PlanGood l thr p c)(hn:∀e∈l,RecFit ⟨0,e⟩)(hc:p.cuts=[])(s:Int)(hs:jG l p<=jG l ⟨p.cap,p.flushes,s,p.cuts⟩):
 (iH (aZ (pF l p thr) thr)).length<=(iH (aZ (pF l ⟨p.cap,p.flushes,s,p.cuts⟩ thr) thr)).length:=by
 obtain⟨n,I⟩:∃n,n=jG l p:=⟨_,rfl⟩;obtain⟨m,J⟩:∃m,m=jG l ⟨p.cap,p.flushes,s,p.cuts⟩:=⟨_,rfl⟩;have B:n<=l.length:=(by rw[I];unfold jG;omega);have D:m<=l.length:=(by rw[J];unfold jG;omega);have E:∀t,filesOf l p t=(Iv.recorded l p n).file t:=(λt=>by rw[uV hc,I]);have d:∀t,filesOf l ⟨p.cap,p.flushes,s,p.cuts⟩ t=(Iv.recorded l p m).file t:=(λt=>by rw[uV (p:=⟨p.cap,p.flushes,s,p.cuts⟩) hc,<-J,FK (p:=p) (q:=⟨p.cap,p.flushes,s,p.cuts⟩) rfl rfl]);have hx:∀t,t<thr->(∃y,gZ t (filesOf l ⟨p.cap,p.flushes,s,p.cuts⟩ t)=gZ t (filesOf l p t)++y)/\(∃y,gZ t (filesOf l ⟨p.cap,p.flushes,s,p.cuts⟩ t)++y=evsT l t m):=(λt u=>by obtain⟨bs,q⟩:=h.files hn _ B t u;obtain⟨cs,r⟩:=h.files hn _ D t u;obtain⟨y,a⟩:=Gn l p t n (m-n);rw[show n+(m-n)=m by omega] at a;have h1:gZ t (filesOf l p t)=recsB bs:=(by unfold gZ;rw[E,q.by_,zM q.ch,x8]);have h2:gZ t (filesOf l ⟨p.cap,p.flushes,s,p.cuts⟩ t)=recsB cs:=(by unfold gZ;rw[d,r.by_,zM r.ch,x8]);refine⟨⟨(aN t y (0+(recsB bs).length) (uA (-1) bs)).flatMap (λp=>p.1.recs),?_⟩,⟨_,by rw[h2];exact r.rs⟩⟩;rw[h1];unfold gZ;rw[d,a,q.by_,xw y q.ch,List.flatMap_append,x8]);refine Sv λi hi=>?_;have A:∀k,k<=thr->tV (aZ (pF l p thr) k) i<=tV (aZ (pF l ⟨p.cap,p.flushes,s,p.cuts⟩ thr) k) i:=by
  intro k;induction k with
  |zero=>intro _;exact Nat.le_refl _
  |
   succ k ih=>
   intro hk;obtain⟨y,a⟩:=(hx k (by omega)).1;have:=ih (by omega);rw[kC,kC,x9 (show k<thr by omega),x9 (show k<thr by omega),a];unfold tV at this|-;rw[List.countP_append,List.countP_append,List.countP_append];omega
 have h1:=A thr (Nat.le_refl _);have G:InL l (aZ (pF l p thr) thr):=(RI λt u=>by rw[x9 u];exact h.recsIn hn t u);have H:i<l.length:=(by unfold tV at hi;obtain⟨r,hr,he⟩:=List.countP_pos_iff.1 (show 0<List.countP (λr=>decide (r.seq=(i:Int))) (aZ (pF l p thr) thr) by omega);obtain⟨q,e1,O⟩:=G r hr;simp only[decide_eq_true_eq] at he;obtain rfl:q=i:=(by omega);exact (List.getElem?_eq_some_iff.1 O).1);have he:l[i]?=some l[i]:=List.getElem?_eq_getElem H;have key:∀k,k<=thr->tV (aZ (pF l ⟨p.cap,p.flushes,s,p.cuts⟩ thr) k) i<=if l[i].thread<(k:Int) then 1 else 0:=by
  intro k;induction k with
  |zero=>intro _;exact Nat.zero_le _
  |
   succ k ih=>
   intro hk;obtain⟨y,a⟩:=(hx k (by omega)).2;have h3:=OV he a;have h4:=ih (by omega);rw[kC,x9 (show k<thr by omega)];unfold tV at h3 h4|-;rw[List.countP_append];by_cases L:l[i].thread<(k:Int);rw[if_pos L] at h4;rw[if_neg (by omega)] at h3;rw[if_pos (by omega)];omega;rw[if_neg L] at h4;by_cases N:l[i].thread=(k:Int);rw[if_pos N] at h3;rw[if_pos (by omega)];omega;rw[if_neg N] at h3;rw[if_neg (by omega)];omega
 have h2:=key thr (Nat.le_refl _);split at h2<;>omega
