/- Words. -/
import Derived.Test.YtfbkkgfkhhibfaaGreatPl
set_option linter.unusedVariables false
namespace Iv
def yY (l:List Rec)(n:Int):Nat:=l.countP λr=>decide (r.seq=n)
def vU (l:List Rec)(n:Int):Ev:=match l.find? (λr=>decide (r.seq=n)) with|some r=>r.ev|none=>⟨0,0,0,0,0,[],[]⟩
def yg (l:List Rec):Nat->Nat->List Ev
 |0,_=> []
 |f+1,n=>if yY l n=1 then vU l n::yg l f (n+1) else []
def iq (l:List Rec):List Ev:=yg l (l.length+1) 0
theorem LV {α:Type}(p q r:α->Bool)(l:List α)(h:∀x,r x=(p x || q x))(a:∀x,¬(p x=true/\q x=true)):l.countP r=l.countP p+l.countP q:=by
 induction l with
 |nil=>rfl
 |
  cons x t ih=>
  rw[List.countP_cons,List.countP_cons,List.countP_cons,ih,h x];have:=a x
  cases hp:p x<;>cases hq:q x<;>simp_all<;>omega
theorem ru (l:List Rec)(n:Nat)(h:∀i:Nat,i<n->yY l i=1):n<=l.length:=by
 have key:∀m:Nat,m<=n->l.countP (λr=>decide (0<=r.seq/\r.seq<(m:Int)))=m:=by
  intro m;induction m with
  |zero=>intro _;rw[List.countP_eq_zero];intro r _;simp;try omega
  |
   succ m ih=>
   intro hm;rw[LV (λr=>decide (0<=r.seq/\r.seq<(m:Int))) (λr=>decide (r.seq=(m:Int))) _ l (λr=>by rw[<-Bool.decide_or];apply decide_eq_decide.2;omega) (λr hr=>by simp at hr;omega),ih (by omega)];have:=h m (by omega);unfold yY at this;rw[this]
 have:=key n (Nat.le_refl _);rw[<-this];exact List.countP_le_length
theorem Xr (l:List Rec)(f:Nat):∀(g n:Nat),(∀i:Nat,i<n->yY l i=1)->l.length<f+n->l.length<g+n->yg l f n=yg l g n:=by
 induction f with
 |zero=>intro g n h h1 _;have:=ru l n h;omega
 |
  succ f ih=>
  intro g n h h1 h2;have hn:=ru l n h;obtain⟨g,rfl⟩:∃a,g=a+1:=⟨g-1,by omega⟩;unfold yg;split
  . rename_i hc;congr 1
    exact ih g (n+1) (λi hi=>by
     rcases Nat.lt_or_eq_of_le (Nat.le_of_lt_succ hi) with c|c;exact h i c
     . rw[c];exact hc) (by omega) (by omega)
  rfl
def rq (l:List Rec)(n:Nat):List Ev:=yg l (l.length+1) n
theorem ET {l:List Rec}{n:Nat}(h:∀i:Nat,i<n->yY l i=1)(hc:yY l n=1):rq l n=vU l n::rq l (n+1):=by
 unfold rq
 conv=>lhs;unfold yg
 rw[if_pos hc];congr 1;have a:∀i:Nat,i<n+1->yY l i=1:=(λi hi=>by rcases Nat.lt_or_eq_of_le (Nat.le_of_lt_succ hi) with c|c;exact h i c;rw[c];exact hc);have:=ru l (n+1) a;exact Xr l _ _ _ a (by omega) (by omega)
theorem Bz {l:List Rec}{n:Nat}(hc:yY l n≠1):rq l n=[]:=by unfold rq yg;rw[if_neg hc]
theorem Xe (l:List Rec):(iq l).length<=l.length:=by
 have key:∀f n:Nat,(∀i:Nat,i<n->yY l i=1)->n+(yg l f n).length<=l.length:=by
  intro f;induction f with
  |zero=>intro n h;have:=ru l n h;simp[yg];omega
  |
   succ f ih=>
   intro n h;unfold yg;split
   . rename_i hc
     have:=ih (n+1) (λi hi=>by
      rcases Nat.lt_or_eq_of_le (Nat.le_of_lt_succ hi) with c|c;exact h i c
      . rw[c];exact hc)
     rw[List.length_cons];omega
   have:=ru l n h;simp;omega
 have:=key (l.length+1) 0 (λi hi=>by omega);unfold iq;omega
def Asc (s:List Rec):Prop:=∀(i j:Nat) (x y:Rec),i<j->s[i]?=some x->s[j]?=some y->x.seq<=y.seq
def SY (s:List Rec)(n:Nat):Prop:=(∃r,s[n]?=some r/\r.seq=(n:Int))/\(∀r,s[n+1]?=some r->r.seq≠(n:Int))
theorem Ak {α:Type}(p:α->Bool)(l:List α)(n:Nat):l.countP p=(l.take n).countP p+(l.drop n).countP p:=by rw[<-List.countP_append,List.take_append_drop]
theorem EU {s:List Rec}(hs:Asc s){n:Nat}(u:∀(i:Nat) (r:Rec),i<n->s[i]?=some r->r.seq<n)(q:∀r,s[n]?=some r->(n:Int)<=r.seq):SY s n ↔ yY s n=1:=by
 have h0:(s.take n).countP (λr=>decide (r.seq=(n:Int)))=0:=(by rw[List.countP_eq_zero];intro r hr;obtain⟨i,hi,rfl⟩:=List.mem_iff_getElem.1 hr;have y:i<n:=(by rw[List.length_take] at hi;omega);have I:=u i _ y (by rw[<-List.getElem?_take_of_lt y];exact List.getElem?_eq_getElem hi);simp only[decide_eq_true_eq];omega);unfold yY;rw[Ak _ s n,h0,Nat.zero_add]
 cases hd:s.drop n with
 |
  nil=>
  have B:s.length<=n:=List.drop_eq_nil_iff.1 hd;constructor;rintro⟨⟨r,hr,_⟩,_⟩;have:=(List.getElem?_eq_some_iff.1 hr).1;omega;intro h;simp at h
 |
  cons x t=>
  have hx:s[n]?=some x:=(by have:(s.drop n)[0]?=some x:=(by rw[hd];rfl);rwa [List.getElem?_drop,Nat.add_zero] at this);have D:∀j,t[j]?=s[n+1+j]?:=(λj=>by have:(s.drop n)[j+1]?=t[j]?:=(by rw[hd];rfl);rw[<-this,List.getElem?_drop];congr 1;omega);have J:=q x hx;rw[List.countP_cons];by_cases d:x.seq=(n:Int)
  . rw[if_pos (decide_eq_true d)];constructor
    . rintro⟨_,h2⟩;have:t.countP (λr=>decide (r.seq=(n:Int)))=0:=by
       rw[List.countP_eq_zero];intro r hr;obtain⟨j,E,rfl⟩:=List.mem_iff_getElem.1 hr;have a:s[n+1+j]?=some t[j]:=(by rw[<-D];exact List.getElem?_eq_getElem E);have B:n+1<s.length:=(by have:=(List.getElem?_eq_some_iff.1 a).1;omega);have L:=h2 _ (List.getElem?_eq_getElem B);have M:=hs n (n+1) _ _ (by omega) hx (List.getElem?_eq_getElem B);have N:(s[n+1]).seq<=(t[j]).seq:=(by rcases Nat.eq_zero_or_pos j with c|c;subst c;have h5:s[n+1]?=some t[0]:=a;rw[List.getElem?_eq_getElem B] at h5;injection h5 with h5;rw[h5];exact Int.le_refl _;exact hs (n+1) (n+1+j) _ _ (by omega) (List.getElem?_eq_getElem B) a);simp;omega
      rw[this]
    intro h;refine⟨⟨x,hx,d⟩,λr hr G=>?_⟩;have h1:t[0]?=some r:=(by rw[D];exact hr);have:0<t.countP (λr=>decide (r.seq=(n:Int))):=List.countP_pos_iff.2 ⟨r,List.mem_of_getElem? h1,by simp[G]⟩;omega
  . rw[if_neg (by simp[d])];have O:(n:Int)<x.seq:=(by omega);have:t.countP (λr=>decide (r.seq=(n:Int)))=0:=by
     rw[List.countP_eq_zero];intro r hr;obtain⟨j,E,rfl⟩:=List.mem_iff_getElem.1 hr;have a:s[n+1+j]?=some t[j]:=(by rw[<-D];exact List.getElem?_eq_getElem E);have:=hs n (n+1+j) _ _ (by omega) hx a;simp;omega
    rw[this];constructor;rintro⟨⟨r,hr,H⟩,_⟩;rw[hx] at hr;injection hr with hr;subst hr;exact absurd H d;intro h;simp at h
theorem OO {l s:List Rec}(h:s.Perm l)(n:Int):yY s n=yY l n:=h.countP_eq _
theorem UW {l:List Rec}{n:Int}(h:yY l n=1){r:Rec}(hr:r∈l)(hn:r.seq=n):vU l n=r.ev:=by
 unfold vU;have key:∀l:List Rec,yY l n=1->r∈l->l.find? (λr=>decide (r.seq=n))=some r:=by
  intro l;induction l with
  |nil=>intro _ h;cases h
  |
   cons x t ih=>
   intro h hr;unfold yY at h ih;rw[List.countP_cons] at h;rw[List.find?_cons];by_cases hx:x.seq=n;simp only[hx,decide_true];rcases List.mem_cons.1 hr with rfl|hr;rfl;have:0<t.countP (λr=>decide (r.seq=n)):=List.countP_pos_iff.2 ⟨r,hr,by simp[hn]⟩;rw[if_pos (decide_eq_true hx)] at h;omega;simp only[hx,decide_false];rcases List.mem_cons.1 hr with rfl|hr;exact absurd hn hx;exact ih (by simpa [hx] using h) hr
 rw[key l h hr]
def fileAt (fs:List Bytes)(t:Nat):Bytes:=(fs[t]?).getD []
def jX (t:Nat)(b:Bytes):List Rec:=(aN t b 0 (-1)).flatMap λp=>p.1.recs
def aQ (fs:List Bytes)(k:Nat):List Rec:=(List.range k).flatMap λt=>jX t (fileAt fs t)
def uG (fs:List Bytes)(t:Nat):Int:=((fileAt fs t).length:Int)-(sizeB (aN t (fileAt fs t) 0 (-1)):Int)
def dN (fs:List Bytes)(k:Nat):List Int:=(List.range k).map (uG fs)
theorem pq (fs:List Bytes)(k:Nat):aQ fs (k+1)=aQ fs k++jX k (fileAt fs k):=by unfold aQ;rw[List.range_succ,List.flatMap_append];simp
theorem uH (fs:List Bytes)(k:Nat):dN fs (k+1)=dN fs k++[uG fs k]:=by unfold dN;rw[List.range_succ,List.map_append];rfl
theorem FO (th:Int):aN th [] 0 (-1)=[]:=by apply fB;unfold mP;have:(Iv.decode []).2.2≠0:=(by decide+kernel);simp[this]
theorem pg {fs:List Bytes}{t:Nat}(h:fs.length<=t):fileAt fs t=[]:=by unfold fileAt;rw[List.getElem?_eq_none h];rfl
theorem PN {fs:List Bytes}{t:Nat}(h:fs.length<=t):jX t (fileAt fs t)=[]:=by rw[pg h];unfold jX;rw[FO];rfl
theorem PO {fs:List Bytes}{t:Nat}(h:fs.length<=t):uG fs t=0:=by unfold uG;rw[pg h,FO];rfl
theorem SS {fs:List Bytes}{t k:Nat}(h:fs.length<=t)(hk:t<=k):aQ fs k=aQ fs t:=by
 induction k with
 |zero=>rw [show t=0 by omega]
 |
  succ k ih=>
  by_cases c:t=k+1;rw[c];rw[pq,ih (by omega),PN (by omega),List.append_nil]
theorem SV {fs:List Bytes}{t k:Nat}(h:fs.length<=t)(hk:t<=k):dN fs k=dN fs t++List.replicate (k-t) 0:=by
 induction k with
 |zero=>rw [show t=0 by omega];simp
 |
  succ k ih=>
  by_cases c:t=k+1;rw[c];simp;rw[uH,ih (by omega),PO (by omega),List.append_assoc,show k+1-t=(k-t)+1 by omega,List.replicate_succ']
theorem ed (fs:List Bytes)(k:Nat):(dN fs k).length=k:=by unfold dN;simp
theorem TZ {t:Nat}{b:Bytes}{r:Rec}(h:r∈jX t b):0<=r.seq:=by
 have d:∀(rs:List Rec) (th s:Int),-1<=s->okRecs th s rs=true->(∀r∈rs,s<r.seq):=by
  intro rs;induction rs with
  |nil=>intro th s _ _ r hr;cases hr
  |
   cons x l ih=>
   intro th s hs ho r hr;unfold okRecs at ho;simp only[Bool.and_eq_true,decide_eq_true_eq] at ho;rcases List.mem_cons.1 hr with rfl|hr;exact ho.1.1.1.2;have h1:=ho.1.1.1.2;have:=ih th x.seq (by omega) ho.2 r hr;omega
 unfold jX at h;obtain⟨p,y,hr⟩:=List.mem_flatMap.1 h;have hg:∀(f:Nat) (b:Bytes) (q u:Int),p∈bZ t f b q u->fits p.1=0:=by
  intro f;induction f with
  |zero=>intro b q u h;simp[bZ] at h
  |
   succ f ih=>
   intro b q u h;unfold bZ at h;split at h;rename_i a;rcases List.mem_cons.1 h with h|h;rw[h];exact (lY a).2.2.2;exact ih _ _ _ h;simp at h
 have hf:=hg _ _ _ _ y;have:=d _ _ _ (by decide) (iH hf).2.2.2.2.2.2 r hr;omega
theorem SX {fs:List Bytes}{k:Nat}{r:Rec}(h:r∈aQ fs k):0<=r.seq:=by unfold aQ at h;obtain⟨t,_,hr⟩:=List.mem_flatMap.1 h;exact TZ hr
theorem uD (th a d:Int)(b:Bytes):sizeB (aN th b a d)<=b.length:=by
 have:∀(f:Nat) (b:Bytes) (a d:Int),sizeB (bZ th f b a d)<=b.length:=by
  intro f;induction f with
  |zero=>intro b a d;simp[bZ,sizeB]
  |
   succ f ih=>
   intro b a d;unfold bZ;split;rename_i hg;obtain⟨_,h1,h2,_⟩:=lY hg;have:=ih (b.drop (Iv.decode b).2.1) (a+(Iv.decode b).1.recs.length) (mZ (Iv.decode b).1 d);rw[List.length_drop] at this;unfold sizeB at this|-;simp only[List.map_cons,List.sum_cons];omega;simp[sizeB]
 exact this _ b a d
theorem xI (t:Nat)(b:Bytes):(jX t b).length<=64*b.length:=by
 have:∀(f:Nat) (b:Bytes) (a d:Int),((bZ t f b a d).flatMap λp=>p.1.recs).length<=64*b.length:=by
  intro f;induction f with
  |zero=>intro b a d;simp[bZ]
  |
   succ f ih=>
   intro b a d;unfold bZ;split;rename_i hg;obtain⟨_,h1,h2,h3⟩:=lY hg;have:=ih (b.drop (Iv.decode b).2.1) (a+(Iv.decode b).1.recs.length) (mZ (Iv.decode b).1 d);rw[List.length_drop] at this;have h4:=(iH h3).2.1;simp only[List.flatMap_cons,List.length_append];omega;simp
 exact this _ b 0 (-1)
theorem oh (fs:List Bytes)(k:Nat)(h:∀f∈fs,f.length<=1000000):(aQ fs k).length<=64000000*k:=by
 induction k with
 |zero=>simp [aQ]
 |
  succ k ih=>
  rw[pq,List.length_append];have h1:=xI k (fileAt fs k);have h2:(fileAt fs k).length<=1000000:=by
   unfold fileAt
   cases hk:fs[k]? with
   |none=>simp
   |some f=>exact h f (List.mem_of_getElem? hk)
  omega
theorem Jp {t:Nat}{b:Bytes}{r:Rec}(h:r∈jX t b):r.ev.deps.length<=400/\r.ev.from_.length<=400:=by
 unfold jX at h;obtain⟨p,u,hr⟩:=List.mem_flatMap.1 h;have hg:∀(f:Nat) (b:Bytes) (d q:Int),p∈bZ t f b d q->fits p.1=0:=by
  intro f;induction f with
  |zero=>intro b d q h;simp[bZ] at h
  |
   succ f ih=>
   intro b d q h;unfold bZ at h;split at h;rename_i a;rcases List.mem_cons.1 h with h|h;rw[h];exact (lY a).2.2.2;exact ih _ _ _ h;simp at h
 have hf:=hg _ _ _ _ u;have:=pK _ _ _ (iH hf).2.2.2.2.2.2 r hr;exact⟨this.2.1,this.2.2.1⟩
theorem Jq {fs:List Bytes}{k:Nat}{r:Rec}(h:r∈aQ fs k):r.ev.deps.length<=400/\r.ev.from_.length<=400:=by unfold aQ at h;obtain⟨t,_,hr⟩:=List.mem_flatMap.1 h;exact Jp hr
theorem QJ {l:List Rec}(h:∀r∈l,r.ev.deps.length<=400/\r.ev.from_.length<=400)(n:Int):(vU l n).deps.length<=400/\(vU l n).from_.length<=400:=by unfold vU;split;rename_i r hr;exact h r (List.mem_of_find?_eq_some hr);simp
theorem QK {l:List Rec}(h:∀r∈l,r.ev.deps.length<=400/\r.ev.from_.length<=400)(f:Nat):∀n,∀e∈yg l f n,e.deps.length<=400/\e.from_.length<=400:=by
 induction f with
 |zero=>intro n e he;simp[yg] at he
 |
  succ f ih=>
  intro n e he;unfold yg at he;split at he;rcases List.mem_cons.1 he with he|he;rw[he];exact QJ h _;exact ih _ _ he;simp at he
theorem NL (fs:List Bytes)(k:Nat):∀e∈iq (aQ fs k),e.deps.length<=400/\e.from_.length<=400:=
 QK (λ_ hr=>Jq hr) _ _
