/- Words. -/
import Derived.Test.YtfbkkgfkhhibfaaGreatSym
import Derived.Test.YtfbkkgfkhhibfaaGreatRecM
import Derived.Sort.OwnSorted
set_option linter.unusedVariables false
set_option maxRecDepth 100000
set_option maxHeartbeats 8000000
namespace Iv
open Go.Sort
variable {α : Type} [Inhabited α]
def Qq (lt:α->α->Bool)(s a n:Nat)(d:Array α):Prop:=∀x,s ∣ x->x<a->SortedIn lt x (min (x+s) n) d
def BQ (lt:α->α->Bool)(s a n:Nat)(d:Array α):Prop:=∀x,s ∣ x->a<=x->x<n->SortedIn lt x (min (x+s) n) d
variable {lt : α -> α -> Bool} {d d' : Array α}
theorem vJ {x y:Nat}(h:SortedIn lt x y d)(hk:∀t,x<=t->t<y->d'[t]! =d[t]!):SortedIn lt x y d':=λi j h1 h2 h3=>by
 rw[hk i h1 (by omega),hk j (by omega) h3]
 exact h i j h1 h2 h3
theorem Du {s x a:Nat}(h1:s ∣ x)(h2:s ∣ a)(h:x<a):x+s<=a:=by have:=Nat.le_of_dvd (by omega) (Nat.dvd_sub h2 h1);omega
theorem F9 {s a n:Nat}(hs:s ∣ a)(hn:a+s<=n)(h:Qq lt s a n d)(q:PermIn a (a+s) d d')(hr:SortedIn lt a (a+s) d'):Qq lt s (a+s) n d':=λx h1 h2=>by
 by_cases c:x<a
 . have:=Du h1 hs c
   exact vJ (h x h1 c) λt u y=>q.2.1 t (.inl (by omega))
 . have:x=a:=by
    by_cases c2:a<x;have:=Du hs h1 c2;omega;omega
   subst this;rw[show min (x+s) n=x+s by omega];exact hr
theorem x9 {s a n:Nat}(hs:s ∣ a)(hn:a<=n)(q:n<a+s)(h:Qq lt s a n d)(u:PermIn a n d d')(hr:SortedIn lt a n d'):BQ lt s 0 n d':=λx h1 _ h2=>by
 by_cases c:x<a
 . have:=Du h1 hs c
   exact vJ (h x h1 c) λt y B=>u.2.1 t (.inl (by omega))
 . have:x=a:=by
    by_cases c2:a<x;have:=Du hs h1 c2;omega;omega
   subst this;rw[show min (x+s) n=n by omega];exact hr
theorem Uy {s a e n:Nat}(h:BQ lt s a n d)(q:a<=e)(u:PermIn a e d d'):BQ lt s e n d':=λx h1 h2 h3=>
 vJ (h x h1 (by omega) h3) λt y B=>u.2.1 t (.inr (by omega))
theorem MW {s a:Nat}(h:2*s ∣ a):s ∣ a:=Nat.dvd_trans (Nat.dvd_mul_left s 2) h
theorem VG {s a n:Nat}(h:BQ lt s a n d)(hs:2*s ∣ a)(hn:a+s<=n)(h0:0<s):SortedIn lt a (a+s) d:=by have:=h a (MW hs) (au _) (by omega);rwa [show min (a+s) n=a+s by omega] at this
theorem VH {s a n:Nat}(h:BQ lt s a n d)(hs:2*s ∣ a)(hn:a+s<n):SortedIn lt (a+s) (min (a+s+s) n) d:=
 h (a+s) ((Ui (MW hs)).2 (Uk s)) (by omega) hn
end Iv
namespace Go.Proofs.YtfbkkgfkhhibfaaGreat
open Go Go.Shelf Go.RowKit Go.Lib Go.Sort Iv
variable {P : Program} {α : Type} [Inhabited α]
theorem Uz {k:Nat}(L:SortLays P k)(enc:α->List Value)(cf:α->α->Int)(hO:SWO (ltOf cf))(g:Nat)(cb:Array Value)(blk off cap n:Nat)(D d:Array α)(w0 w:World)
 (eg:∀args w,(callFunc g args).run P w= .ok (.enter g args) w) (G:CmpLays P g cb enc k cf blk off D.size w0)
 (R:RowK enc k w0 blk off D) (hs:d.size=D.size) (S:SWK enc k w0 blk off d w) (hn:n=D.size) (a6:D.size<1000000000):
 Calls P 53 #[.slice (some ⟨blk,off,none⟩) D.size cap,.int .i64 n,.func (.func g) #[] cb] w λe w'=>e= .returned (.tuple #[])/\∃d',d'.size=D.size/\PermIn 0 n d d'/\SortedIn (ltOf cf) 0 n d'/\SWK enc k w0 blk off d' w':=by
 have mixed:=L.mixed;have t0:=L.t0;have a0:=L.a0;have z0:=L.z0;have v0:=L.v0;have t3:=L.t3;have a3:=L.a3;have z3:=L.z3;have v3:=L.v3;have t4:=L.t4;have a4:=L.a4;have z4:=L.z4;have v4:=L.v4;have t36:=L.t36;have a36:=L.a36;have z36:=L.z36;have v36:=L.v36;have t124:=L.t124;have a124:=L.a124;have z124:=L.z124;have v124:=L.v124;have t96:=L.t96;have a96:=L.a96;have z96:=L.z96;have v96:=L.v96;have aE:=L.aE;have zE:=L.zE;have u36:=jL L.t36;have an:∀args w,(callFunc 87 args).run P w= .ok (.enter 87 args) w:=enters_of L.f86 (by kernel_rfl) rfl;have ao:∀args w,(callFunc 88 args).run P w= .ok (.enter 88 args) w:=enters_of L.f87 (by kernel_rfl) rfl;have S0:Aside (SWK enc k w0 blk off d w):=S
 have CI:=ae (λ(a b:Nat) (d':Array α) (W:World) (h1:d'.size=D.size) (h2:SWK enc k w0 blk off d' W) (h3:a<=b) (h4:b<=D.size)=>(GZ L enc cf g cb blk off cap a b D d' w0 W eg G R h1 h2 h3 h4 a6).mono λe w' h=>(show e= .returned (.tuple #[])/\∃J,J.size=D.size/\PermIn a b d' J/\SortedIn (ltOf cf) a b J/\SWK enc k w0 blk off J w' from
  ⟨h.1,_,((insertionSort_holds hO d' a b h3 (by omega)).1.1).trans h1,(insertionSort_holds hO d' a b h3 (by omega)).1,(insertionSort_holds hO d' a b h3 (by omega)).2,h.2⟩))
 have CM:=ae (λ(a m b:Nat) (d':Array α) (W:World) (h1:d'.size=D.size) (h2:SWK enc k w0 blk off d' W)=>JV L enc cf hO g cb blk off cap D w0 eg G R a6 (b-a) a m b d' W (au _) h1 h2);have HN:=ae hn;have a7:n<=D.size:=(by omega);have aq:n<1000000000:=(by omega);clear S G hn;go_enter L.f77,Tryz.ntmps53;go_wp2_with fail;go_loopg [7,8] (n) (λkx s7 s8 wr=>∃(a:Nat) (u:Array α),s7= .int .i64 (a:Int)/\s8= .int .i64 ((a:Int)+20)/\a<=n/\n-a<=kx/\u.size=D.size/\Aside (20 ∣ a)/\Aside (SWK enc k w0 blk off u wr)/\Aside (PermIn 0 n d u)/\Aside (Qq (ltOf cf) 20 a n u))
 case atStart=>exact ⟨0,d,rfl,rfl,ay _,by omega,hs,⟨0,rfl⟩,S0,permIn_refl d 0 n,λx _ h=>by omega⟩
 case round=>
  clear S0;obtain⟨a,u,rfl,rfl,a8,ar,aa,DV,S1,P1,R1⟩:=hrel;by_cases O:a+20<=n
  . have z1:(a:Int)+20<=(n:Int):=(by omega);have q1:IntKind.i64.wrap ((a:Int)+20+20)=(a:Int)+20+20:=(by rw[dQ];omega);have C:=CI.out a (a+20) u wr aa S1.out (by omega) (by omega);rw[show ((a+20:Nat):Int)=(a:Int)+20 by omega] at C;have C:=ae C;go_wp2_with (go_at_call 87;refine C.out.mono ?_;rintro e2 w2 ⟨rfl,d2,U,q,y,M⟩;replace M:Aside _:=M;replace q:=ae q;replace y:=ae y);go_roundg (n-(a+20))
    case measure=>omega
    case rel=>exact ⟨a+20,d2,by go_num,by first|rfl|go_num|(congr 1;omega),O,au _,U,(Ui DV.out).2 (Uk 20),M,permIn_trans _ _ _ _ _ P1.out (permIn_mono u d2 a (a+20) 0 n (ay _) O (by omega) q.out),F9 DV.out O R1.out q.out y.out⟩
  . have z1:¬(a:Int)+20<=(n:Int):=(by omega);have C:=ae (CI.out a n u wr aa S1.out a8 a7);go_wp2_with (go_at_call 87;refine C.out.mono ?_;rintro e2 w2 ⟨rfl,d2,U,q,y,M⟩;replace M:Aside _:=M;replace q:=ae q;replace y:=ae y);have P2:Aside (PermIn 0 n d d2):=permIn_trans _ _ _ _ _ P1.out (permIn_mono u d2 a n 0 n (ay _) (au _) (by omega) q.out);have R2:Aside (BQ (ltOf cf) 20 0 n d2):=x9 DV.out a8 (by omega) R1.out q.out y.out;clear C S1 P1 R1 q y;go_loopg [6] n (λkx s6 wr=>∃(s:Nat) (u:Array α),s6= .int .i64 (s:Int)/\20<=s/\s<=2000000000/\n-s<=kx/\u.size=D.size/\Aside (SWK enc k w0 blk off u wr)/\Aside (PermIn 0 n d u)/\Aside (BQ (ltOf cf) s 0 n u))
    case atStart=>exact ⟨20,d2,rfl,au _,by omega,by omega,U,M,P2,R2⟩
    case round=>
     clear M P2 R2;obtain⟨s,d3,rfl,av,y,aw,ab,S3,P3,R3⟩:=hrel;by_cases al:s<n
     . have z2:(s:Int)<(n:Int):=(by omega);have q1:IntKind.i64.wrap (2 *(s:Int))=2 *(s:Int):=(by rw[dQ];omega);have q2:IntKind.i64.wrap ((s:Int)* 2)=(s:Int)* 2:=(by rw[dQ];omega);go_wp2_with fail;go_loopg [7,8] n (λkx s7 s8 wr=>∃(a:Nat) (u:Array α),s7= .int .i64 (a:Int)/\s8= .int .i64 ((a:Int)+2 *(s:Int))/\a<=n/\n-a<=kx/\u.size=D.size/\Aside (2*s ∣ a)/\Aside (SWK enc k w0 blk off u wr)/\Aside (PermIn 0 n d u)/\Aside (Qq (ltOf cf) (2*s) a n u)/\Aside (BQ (ltOf cf) s a n u))
       case atStart=>exact ⟨0,d3,rfl,by first|rfl|go_num|(congr 1;omega),ay _,by omega,ab,⟨0,rfl⟩,S3,P3,λx _ h=>by omega,R3⟩
       case round=>
        clear S3 P3 R3;obtain⟨a,Z,rfl,rfl,ad,aD,V,B,S4,P4,A4,B4⟩:=hrel;have q3:IntKind.i64.wrap ((a:Int)+(s:Int))=(a:Int)+(s:Int):=(by rw[dQ];omega);by_cases H:a+2*s<=n
        . have z3:(a:Int)+2 *(s:Int)<=(n:Int):=(by omega);have q4:IntKind.i64.wrap ((a:Int)+2 *(s:Int)+2 *(s:Int))=(a:Int)+2 *(s:Int)+2 *(s:Int):=(by rw[dQ];omega);have C:=CM.out a (a+s) (a+2*s) Z wr V S4.out (by omega) (by omega) (by omega) (VG B4.out B.out (by omega) (by omega)) (by have:=VH B4.out B.out (by omega);rwa [show min (a+s+s) n=a+2*s by omega] at this);rw[show ((a+s:Nat):Int)=(a:Int)+(s:Int) by omega,show ((a+2*s:Nat):Int)=(a:Int)+2 *(s:Int) by omega] at C;have C:=ae C;go_wp2_with (go_at_call 88;refine C.out.mono ?_;rintro e2 w5 ⟨rfl,d5,X,I,E,Y⟩;replace Y:Aside _:=Y;replace I:=ae I;replace E:=ae E);go_roundg (n-(a+2*s))
          case measure=>omega
          case rel=>exact ⟨a+2*s,d5,by first|rfl|go_num|(congr 1;omega),by first|rfl|go_num|(congr 1;omega),H,au _,X,(Ui B.out).2 (Uk _),Y,permIn_trans _ _ _ _ _ P4.out (permIn_mono Z d5 a (a+2*s) 0 n (ay _) H (by omega) I.out),F9 B.out H A4.out I.out E.out,Uy B4.out (by omega) I.out⟩
        . have z3:¬(a:Int)+2 *(s:Int)<=(n:Int):=(by omega);by_cases N:a+s<n
          . have z4:(a:Int)+(s:Int)<(n:Int):=(by omega);have C:=CM.out a (a+s) n Z wr V S4.out (by omega) N a7 (VG B4.out B.out (by omega) (by omega)) (by have:=VH B4.out B.out N;rwa [show min (a+s+s) n=n by omega] at this);rw[show ((a+s:Nat):Int)=(a:Int)+(s:Int) by omega] at C;have C:=ae C;go_wp2_with (go_at_call 88;refine C.out.mono ?_;rintro e2 w5 ⟨rfl,d5,X,I,E,Y⟩;replace Y:Aside _:=Y;replace I:=ae I;replace E:=ae E);go_roundg (n-2*s)
            case measure=>omega
            case rel=>exact ⟨2*s,d5,by first|rfl|go_num|(congr 1;omega),by omega,by omega,au _,X,Y,permIn_trans _ _ _ _ _ P4.out (permIn_mono Z d5 a n 0 n (ay _) (au _) (by omega) I.out),x9 B.out ad (by omega) A4.out I.out E.out⟩
          . have z4:¬(a:Int)+(s:Int)<(n:Int):=(by omega);go_wp2_with fail;go_roundg (n-2*s)
            case measure=>omega
            case rel=>exact ⟨2*s,Z,by first|rfl|go_num|(congr 1;omega),by omega,by omega,au _,V,S4,P4,x9 B.out ad (by omega) A4.out (permIn_refl Z a n) (by
             by_cases c:a<n;have:=B4.out a (MW B.out) (au _) c;rwa [show min (a+s) n=n by omega] at this
             . intro i j h1 h2 h3;omega)⟩
     . have z2:¬(s:Int)<(n:Int):=(by omega);go_wp2_with fail;go_end0
       exact⟨rfl,d3,ab,P3.out,by
        by_cases c:0<n;have:=R3.out 0 ⟨0,rfl⟩ (au _) c;rwa [show min (0+s) n=n by omega] at this
        . intro i j h1 h2 h3;omega,S3.out⟩
theorem EP {k:Nat}(L:SortLays P k)(enc:α->List Value)(cf:α->α->Int)(hO:SWO (ltOf cf))(g:Nat)(q:Array Value)(blk off cap:Nat)(d:Array α)(w:World)
 (y:∀args w,(callFunc g args).run P w= .ok (.enter g args) w) (a:CmpLays P g q enc k cf blk off d.size w) (R:RowK enc k w blk off d) (u:d.size<1000000000):
 Calls P 31 #[.slice (some ⟨blk,off,none⟩) d.size cap,.func (.func g) #[] q] w λe w'=>e= .returned (.tuple #[])/\∃d',d'.size=d.size/\PermIn 0 d.size d d'/\SortedIn (ltOf cf) 0 d.size d'/\SWK enc k w blk off d' w':=by have mixed:=L.mixed;have t0:=L.t0;have a0:=L.a0;have z0:=L.z0;have v0:=L.v0;have t3:=L.t3;have a3:=L.a3;have z3:=L.z3;have v3:=L.v3;have t4:=L.t4;have a4:=L.a4;have z4:=L.z4;have v4:=L.v4;have t36:=L.t36;have a36:=L.a36;have z36:=L.z36;have v36:=L.v36;have t124:=L.t124;have a124:=L.a124;have z124:=L.z124;have v124:=L.v124;have t96:=L.t96;have a96:=L.a96;have z96:=L.z96;have v96:=L.v96;have aE:=L.aE;have zE:=L.zE;have u36:=jL L.t36;have B:∀args w,(callFunc 53 args).run P w= .ok (.enter 53 args) w:=enters_of L.f77 (by kernel_rfl) rfl;have C:=ae (Uz L enc cf hO g q blk off cap d.size d d w w y a R rfl (SWK.start R.hH) rfl u);clear a;go_enter L.f62,Tryz.ntmps31;go_wp2_with (go_at_call 53;refine C.out.mono ?_;rintro D E ⟨rfl,H⟩;replace H:=ae H);go_end0;exact⟨rfl,H.out⟩
end Go.Proofs.YtfbkkgfkhhibfaaGreat
namespace Iv
def yT (l:List Rec)(n:Int):Nat:=l.countP λr=>decide (r.seq=n)
def wJ (l:List Rec)(n:Int):Ev:=match l.find? (λr=>decide (r.seq=n)) with|some r=>r.ev|none=>⟨0,0,0,0,0,[],[]⟩
def ui (l:List Rec):Nat->Nat->List Ev
 |0,_=> []
 |f+1,n=>if yT l n=1 then wJ l n::ui l f (n+1) else []
def dU (l:List Rec):List Ev:=ui l (l.length+1) 0
theorem L9 {α:Type}(p q r:α->Bool)(l:List α)(h:∀x,r x=(p x || q x))(a:∀x,¬(p x=true/\q x=true)):l.countP r=l.countP p+l.countP q:=by
 induction l with
 |nil=>rfl
 |
  cons x t ih=>
  rw[List.countP_cons,List.countP_cons,List.countP_cons,ih,h x];have:=a x
  cases hp:p x<;>cases hq:q x<;>simp_all<;>omega
theorem rW (l:List Rec)(n:Nat)(h:∀i:Nat,i<n->yT l i=1):n<=l.length:=by
 have key:∀m:Nat,m<=n->l.countP (λr=>decide (0<=r.seq/\r.seq<(m:Int)))=m:=by
  intro m;induction m with
  |zero=>intro _;rw[List.countP_eq_zero];intro r _;simp;try omega
  |
   succ m ih=>
   intro hm;rw[L9 (λr=>decide (0<=r.seq/\r.seq<(m:Int))) (λr=>decide (r.seq=(m:Int))) _ l (λr=>by rw[<-Bool.decide_or];apply decide_eq_decide.2;omega) (λr hr=>by simp at hr;omega),ih (by omega)];have:=h m (by omega);unfold yT at this;rw[this]
 have:=key n (Nat.le_refl _);rw[<-this];exact List.countP_le_length
theorem XC (l:List Rec)(f:Nat):∀(g n:Nat),(∀i:Nat,i<n->yT l i=1)->l.length<f+n->l.length<g+n->ui l f n=ui l g n:=by
 induction f with
 |zero=>intro g n h h1 _;have:=rW l n h;omega
 |
  succ f ih=>
  intro g n h h1 h2;have hn:=rW l n h;obtain⟨g,rfl⟩:∃a,g=a+1:=⟨g-1,by omega⟩;unfold ui;split
  . rename_i hc;congr 1
    exact ih g (n+1) (λi hi=>by
     rcases Nat.lt_or_eq_of_le (Nat.le_of_lt_succ hi) with c|c;exact h i c
     . rw[c];exact hc) (by omega) (by omega)
  rfl
def rV (l:List Rec)(n:Nat):List Ev:=ui l (l.length+1) n
theorem Fa {l:List Rec}{n:Nat}(h:∀i:Nat,i<n->yT l i=1)(hc:yT l n=1):rV l n=wJ l n::rV l (n+1):=by
 unfold rV
 conv=>lhs;unfold ui
 rw[if_pos hc];congr 1;have a:∀i:Nat,i<n+1->yT l i=1:=(λi hi=>by rcases Nat.lt_or_eq_of_le (Nat.le_of_lt_succ hi) with c|c;exact h i c;rw[c];exact hc);have:=rW l (n+1) a;exact XC l _ _ _ a (by omega) (by omega)
theorem BI {l:List Rec}{n:Nat}(hc:yT l n≠1):rV l n=[]:=by unfold rV ui;rw[if_neg hc]
theorem Xo (l:List Rec):(dU l).length<=l.length:=by
 have key:∀f n:Nat,(∀i:Nat,i<n->yT l i=1)->n+(ui l f n).length<=l.length:=by
  intro f;induction f with
  |zero=>intro n h;have:=rW l n h;simp[ui];omega
  |
   succ f ih=>
   intro n h;unfold ui;split
   . rename_i hc
     have:=ih (n+1) (λi hi=>by
      rcases Nat.lt_or_eq_of_le (Nat.le_of_lt_succ hi) with c|c;exact h i c
      . rw[c];exact hc)
     rw[List.length_cons];omega
   have:=rW l n h;simp;omega
 have:=key (l.length+1) 0 (λi hi=>by omega);unfold dU;omega
def Asc (s:List Rec):Prop:=∀(i j:Nat) (x y:Rec),i<j->s[i]?=some x->s[j]?=some y->x.seq<=y.seq
def Tv (s:List Rec)(n:Nat):Prop:=(∃r,s[n]?=some r/\r.seq=(n:Int))/\(∀r,s[n+1]?=some r->r.seq≠(n:Int))
theorem AA {α:Type}(p:α->Bool)(l:List α)(n:Nat):l.countP p=(l.take n).countP p+(l.drop n).countP p:=by rw[<-List.countP_append,List.take_append_drop]
theorem Fb {s:List Rec}(hs:Asc s){n:Nat}(u:∀(i:Nat) (r:Rec),i<n->s[i]?=some r->r.seq<n)(q:∀r,s[n]?=some r->(n:Int)<=r.seq):Tv s n ↔ yT s n=1:=by
 have h0:(s.take n).countP (λr=>decide (r.seq=(n:Int)))=0:=(by rw[List.countP_eq_zero];intro r hr;obtain⟨i,hi,rfl⟩:=List.mem_iff_getElem.1 hr;have y:i<n:=(by rw[List.length_take] at hi;omega);have I:=u i _ y (by rw[<-List.getElem?_take_of_lt y];exact List.getElem?_eq_getElem hi);simp only[decide_eq_true_eq];omega);unfold yT;rw[AA _ s n,h0,Nat.zero_add]
 cases hd:s.drop n with
 |
  nil=>
  have B:s.length<=n:=List.drop_eq_nil_iff.1 hd;constructor;rintro⟨⟨r,hr,_⟩,_⟩;have:=(List.getElem?_eq_some_iff.1 hr).1;omega;intro h;simp at h
 |
  cons x t=>
  have hx:s[n]?=some x:=(by have:(s.drop n)[0]?=some x:=(by rw[hd];rfl);rwa [List.getElem?_drop,Nat.add_zero] at this);have D:∀j,t[j]?=s[n+1+j]?:=(λj=>by have:(s.drop n)[j+1]?=t[j]?:=(by rw[hd];rfl);rw[<-this,List.getElem?_drop];congr 1;omega);have J:=q x hx;rw[List.countP_cons];by_cases d:x.seq=(n:Int)
  . rw[if_pos (decide_eq_true d)];constructor
    . rintro⟨_,h2⟩;have:t.countP (λr=>decide (r.seq=(n:Int)))=0:=by
       rw[List.countP_eq_zero];intro r hr;obtain⟨j,E,rfl⟩:=List.mem_iff_getElem.1 hr;have a:s[n+1+j]?=some t[j]:=(by rw[<-D];exact List.getElem?_eq_getElem E);have B:n+1<s.length:=(by have:=(List.getElem?_eq_some_iff.1 a).1;omega);have L:=h2 _ (List.getElem?_eq_getElem B);have M:=hs n (n+1) _ _ (by omega) hx (List.getElem?_eq_getElem B);have N:(s[n+1]).seq<=(t[j]).seq:=(by rcases Nat.eq_zero_or_pos j with c|c;subst c;have h5:s[n+1]?=some t[0]:=a;rw[List.getElem?_eq_getElem B] at h5;injection h5 with h5;rw[h5];exact Int.le_refl _;exact hs (n+1) (n+1+j) _ _ (by omega) (List.getElem?_eq_getElem B) a);simp;omega
      rw[this]
    intro h;refine⟨⟨x,hx,d⟩,λr hr G=>?_⟩;have h1:t[0]?=some r:=(by rw[D];exact hr);have:0<t.countP (λr=>decide (r.seq=(n:Int))):=List.countP_pos_iff.2 ⟨r,List.mem_of_getElem? h1,by simp[G]⟩;omega
  . rw[if_neg (by simp[d])];have O:(n:Int)<x.seq:=(by omega);have:t.countP (λr=>decide (r.seq=(n:Int)))=0:=by
     rw[List.countP_eq_zero];intro r hr;obtain⟨j,E,rfl⟩:=List.mem_iff_getElem.1 hr;have a:s[n+1+j]?=some t[j]:=(by rw[<-D];exact List.getElem?_eq_getElem E);have:=hs n (n+1+j) _ _ (by omega) hx a;simp;omega
    rw[this];constructor;rintro⟨⟨r,hr,H⟩,_⟩;rw[hx] at hr;injection hr with hr;subst hr;exact absurd H d;intro h;simp at h
theorem O9 {l s:List Rec}(h:s.Perm l)(n:Int):yT s n=yT l n:=h.countP_eq _
theorem KP {l:List Rec}{n:Int}(h:yT l n=1){r:Rec}(hr:r∈l)(hn:r.seq=n):wJ l n=r.ev:=by
 unfold wJ;have key:∀l:List Rec,yT l n=1->r∈l->l.find? (λr=>decide (r.seq=n))=some r:=by
  intro l;induction l with
  |nil=>intro _ h;cases h
  |
   cons x t ih=>
   intro h hr;unfold yT at h ih;rw[List.countP_cons] at h;rw[List.find?_cons];by_cases hx:x.seq=n;simp only[hx,decide_true];rcases List.mem_cons.1 hr with rfl|hr;rfl;have:0<t.countP (λr=>decide (r.seq=n)):=List.countP_pos_iff.2 ⟨r,hr,by simp[hn]⟩;rw[if_pos (decide_eq_true hx)] at h;omega;simp only[hx,decide_false];rcases List.mem_cons.1 hr with rfl|hr;exact absurd hn hx;exact ih (by simpa [hx] using h) hr
 rw[key l h hr]
def fileAt (fs:List Bytes)(t:Nat):Bytes:=(fs[t]?).getD []
def jc (t:Nat)(b:Bytes):List Rec:=(aI t b 0 (-1)).flatMap λp=>p.1.recs
def aT (fs:List Bytes)(k:Nat):List Rec:=(List.range k).flatMap λt=>jc t (fileAt fs t)
def uU (fs:List Bytes)(t:Nat):Int:=((fileAt fs t).length:Int)-(sizeB (aI t (fileAt fs t) 0 (-1)):Int)
def dR (fs:List Bytes)(k:Nat):List Int:=(List.range k).map (uU fs)
theorem pX (fs:List Bytes)(k:Nat):aT fs (k+1)=aT fs k++jc k (fileAt fs k):=by unfold aT;rw[List.range_succ,List.flatMap_append];simp
theorem uV (fs:List Bytes)(k:Nat):dR fs (k+1)=dR fs k++[uU fs k]:=by unfold dR;rw[List.range_succ,List.map_append];rfl
theorem FX (th:Int):aI th [] 0 (-1)=[]:=by apply dN;unfold lF;have:(Iv.decode []).2.2≠0:=(by decide+kernel);simp[this]
theorem pW {fs:List Bytes}{t:Nat}(h:fs.length<=t):fileAt fs t=[]:=by unfold fileAt;rw[List.getElem?_eq_none h];rfl
theorem P9 {fs:List Bytes}{t:Nat}(h:fs.length<=t):jc t (fileAt fs t)=[]:=by rw[pW h];unfold jc;rw[FX];rfl
theorem Qa {fs:List Bytes}{t:Nat}(h:fs.length<=t):uU fs t=0:=by unfold uU;rw[pW h,FX];rfl
theorem Tq {fs:List Bytes}{t k:Nat}(h:fs.length<=t)(hk:t<=k):aT fs k=aT fs t:=by
 induction k with
 |zero=>rw [show t=0 by omega]
 |
  succ k ih=>
  by_cases c:t=k+1;rw[c];rw[pX,ih (by omega),P9 (by omega),List.append_nil]
theorem Tt {fs:List Bytes}{t k:Nat}(h:fs.length<=t)(hk:t<=k):dR fs k=dR fs t++List.replicate (k-t) 0:=by
 induction k with
 |zero=>rw [show t=0 by omega];simp
 |
  succ k ih=>
  by_cases c:t=k+1;rw[c];simp;rw[uV,ih (by omega),Qa (by omega),List.append_assoc,show k+1-t=(k-t)+1 by omega,List.replicate_succ']
theorem eY (fs:List Bytes)(k:Nat):(dR fs k).length=k:=by unfold dR;simp
theorem Ul {t:Nat}{b:Bytes}{r:Rec}(h:r∈jc t b):0<=r.seq:=by
 have d:∀(rs:List Rec) (th s:Int),-1<=s->okRecs th s rs=true->(∀r∈rs,s<r.seq):=by
  intro rs;induction rs with
  |nil=>intro th s _ _ r hr;cases hr
  |
   cons x l ih=>
   intro th s hs ho r hr;unfold okRecs at ho;simp only[Bool.and_eq_true,decide_eq_true_eq] at ho;rcases List.mem_cons.1 hr with rfl|hr;exact ho.1.1.1.2;have h1:=ho.1.1.1.2;have:=ih th x.seq (by omega) ho.2 r hr;omega
 unfold jc at h;obtain⟨p,q,hr⟩:=List.mem_flatMap.1 h;have hg:∀(f:Nat) (b:Bytes) (rc la:Int),p∈dm t f b rc la->fits p.1=0:=by
  intro f;induction f with
  |zero=>intro b rc la h;simp[dm] at h
  |
   succ f ih=>
   intro b rc la h;unfold dm at h;split at h;rename_i a;rcases List.mem_cons.1 h with h|h;rw[h];exact (mJ a).2.2.2;exact ih _ _ _ h;simp at h
 have hf:=hg _ _ _ _ q;have:=d _ _ _ (by decide) (fE hf).2.2.2.2.2.2 r hr;omega
theorem Tu {fs:List Bytes}{k:Nat}{r:Rec}(h:r∈aT fs k):0<=r.seq:=by unfold aT at h;obtain⟨t,_,hr⟩:=List.mem_flatMap.1 h;exact Ul hr
theorem uS (th rc la:Int)(b:Bytes):sizeB (aI th b rc la)<=b.length:=by
 have:∀(f:Nat) (b:Bytes) (rc la:Int),sizeB (dm th f b rc la)<=b.length:=by
  intro f;induction f with
  |zero=>intro b rc la;simp[dm,sizeB]
  |
   succ f ih=>
   intro b rc la;unfold dm;split;rename_i hg;obtain⟨_,h1,h2,_⟩:=mJ hg;have:=ih (b.drop (Iv.decode b).2.1) (rc+(Iv.decode b).1.recs.length) (jg (Iv.decode b).1 la);rw[List.length_drop] at this;unfold sizeB at this|-;simp only[List.map_cons,List.sum_cons];omega;simp[sizeB]
 exact this _ b rc la
theorem xP (t:Nat)(b:Bytes):(jc t b).length<=64*b.length:=by
 have:∀(f:Nat) (b:Bytes) (rc la:Int),((dm t f b rc la).flatMap λp=>p.1.recs).length<=64*b.length:=by
  intro f;induction f with
  |zero=>intro b rc la;simp[dm]
  |
   succ f ih=>
   intro b rc la;unfold dm;split;rename_i hg;obtain⟨_,h1,h2,h3⟩:=mJ hg;have:=ih (b.drop (Iv.decode b).2.1) (rc+(Iv.decode b).1.recs.length) (jg (Iv.decode b).1 la);rw[List.length_drop] at this;have h4:=(fE h3).2.1;simp only[List.flatMap_cons,List.length_append];omega;simp
 exact this _ b 0 (-1)
theorem oM (fs:List Bytes)(k:Nat)(h:∀f∈fs,f.length<=1000000):(aT fs k).length<=64000000*k:=by
 induction k with
 |zero=>simp [aT]
 |
  succ k ih=>
  rw[pX,List.length_append];have h1:=xP k (fileAt fs k);have h2:(fileAt fs k).length<=1000000:=by
   unfold fileAt
   cases hk:fs[k]? with
   |none=>simp
   |some f=>exact h f (List.mem_of_getElem? hk)
  omega
end Iv
namespace Go.Proofs.YtfbkkgfkhhibfaaGreat
open Go Go.Shelf Go.RowKit Go.Lib Go.Sort Iv
theorem ZR:SortLays Tryz.prog 8 where
 mixed:=by kernel_rfl
 f62:=Tryz.func31
 f77:=Tryz.func53
 f86:=Tryz.func87
 f87:=Tryz.func88
 f88:=Tryz.func120
 f89:=Tryz.func155
 t0:=Tryz.underlying0
 a0:=λw=>by kernel_rfl
 z0:=λw=>by kernel_rfl
 v0:=λw=>by kernel_rfl
 t3:=Tryz.underlying3
 a3:=λw=>by kernel_rfl
 z3:=λw=>by kernel_rfl
 v3:=λw=>by kernel_rfl
 t4:=Tryz.underlying4
 a4:=λw=>by kernel_rfl
 z4:=λw=>by kernel_rfl
 v4:=λw=>by kernel_rfl
 t36:=Tryz.underlying48
 a36:=λw=>by kernel_rfl
 z36:=λw=>by kernel_rfl
 v36:=λw=>by kernel_rfl
 t124:=Tryz.underlying100
 a124:=λw=>by kernel_rfl
 z124:=λw=>by kernel_rfl
 v124:=λw=>by kernel_rfl
 t96:=Tryz.underlying132
 a96:=λw=>by kernel_rfl
 z96:=λw=>by kernel_rfl
 v96:=λw=>by kernel_rfl
 aE:=λw=>by kernel_rfl
 zE:=λw=>by kernel_rfl
structure RC where
 r:Rec
 Ad:Option Addr
 nd:Nat
 cd:Nat
 Af:Option Addr
 nf:Nat
 cf:Nat
instance:Inhabited RC:=⟨⟨⟨0,⟨0,0,0,0,0,[],[]⟩⟩,none,0,0,none,0,0⟩⟩
def lg (x:RC):List Value:=(recV x.r x.Ad x.nd x.cd x.Af x.nf x.cf).toList
def SV (x y:RC):Int:=if x.r.seq<y.r.seq then -1 else if y.r.seq<x.r.seq then 1 else 0
theorem EO (x:RC):(lg x).length=8:=rfl
theorem ZT (x:RC):∀v∈lg x,v.oneCell'=true:=by intro v a;simp only[lg,recV,gJ,mG,or_false] at a;rcases a with h|h|h|h|h|h|h|h<;>rw[h]<;>rfl
theorem ltR (x y:RC):ltOf SV x y=decide (x.r.seq<y.r.seq):=by unfold ltOf SV;apply decide_eq_decide.2;split;omega;split<;>omega
theorem apt:SWO (ltOf SV) where
 irrefl:=λx=>by rw[ltR];simp
 trans:=λx y z h1 h2=>by rw[ltR] at h1 h2|-;simp at h1 h2|-;omega
 ntrans:=λx y z h1 h2=>by rw[ltR] at h1 h2|-;simp at h1 h2|-;omega
theorem ZU (x y:RC)(w:World):Calls Tryz.prog 32 #[.agg (lg x).toArray,.agg (lg y).toArray] w λe w'=>e= .returned (.int .i64 (SV x y))/\∃os,w'=grow w os:=by
 unfold lg recV;go_enter Tryz.func32,Tryz.ntmps32;have e1:(x.r.seq !=x.r.seq)=false:=(by simp);have a:(y.r.seq !=y.r.seq)=false:=(by simp);unfold SV;by_cases h1:x.r.seq<y.r.seq
 . go_wp2;go_ret;exact⟨rfl,_,by rw[alloc_eq_grow,alloc_eq_grow,grow_grow]⟩
 . by_cases h2:y.r.seq<x.r.seq
   . go_wp2;go_ret;exact⟨rfl,_,by rw[alloc_eq_grow,alloc_eq_grow,grow_grow]⟩
   . go_wp2;go_ret;exact⟨rfl,_,by rw[alloc_eq_grow,alloc_eq_grow,grow_grow]⟩
theorem acP (blk off size:Nat)(w:World):CmpLays Tryz.prog 32 #[] lg 8 SV blk off size w:=λm os d hs x y=>
 (ZU x y _).mono λe w' ⟨he,a,hw⟩=>⟨he,0,a,hw⟩
theorem agl {α:Type}{P:Nat->α->Prop}(n:Nat)(h:∀i,i<n->∃r,P i r):∃rs:List α,rs.length=n/\∀k r,rs[k]?=some r->P k r:=by
 induction n with
 |zero=>exact ⟨[],rfl,λk r hr=>by simp at hr⟩
 |
  succ n ih=>
  obtain⟨rs,d,y⟩:=ih λi hi=>h i (by omega);obtain⟨r,hr⟩:=h n (by omega);refine⟨rs++[r],by simp[d],λk q a=>?_⟩;by_cases hk:k<n;rw[jX (by omega)] at a;exact y k q a;have B:k<n+1:=(by have:=(dF.1 a).1;simp[d] at this;omega);have u:k=n:=(by omega);subst u;rw[jY (by omega),d,qH] at a;simp at a;rw[<-a];exact hr
theorem SX {w:World}{g n:Nat}{os:Array Obj}{cur F:Array Value}{e:TypeId}{fr:Nat×Nat}(hb:w.heap[g]?=some (.cells cur e fr)):
 (grow (putRow id (Sort.ahead w n) g 0 F) os).heap[g]?=some (.cells (putCells id 0 F cur) e fr):=by have hg:g<w.heap.size:=(jd.1 hb).1;rw[heap_grow_old _ _ (by simpa using hg)];simp[putRow,mapBlock,Sort.ahead,SY,hb,onCells]
theorem GM {w:World}{g n:Nat}{os:Array Obj}(F:Array Value):w.grownBy (grow (putRow id (Sort.ahead w n) g 0 F) os) (some g):=by refine⟨rfl,rfl,rfl,by simp,λk hk a=>?_⟩;rw[heap_grow_old _ _ (by simpa using hk)];have:g≠k:=λe=>a (by rw[e]);simp[putRow,mapBlock,Sort.ahead,SY,this]
theorem WG (cur F:Array Value)(h:F.size<=cur.size):(putCells id 0 F cur).toList.take F.size=F.toList:=by apply Ky;intro j;by_cases a:j<F.size;rw[Yt a,gz];simp[putCells,a,show j<cur.size by omega];rw[List.getElem?_take_eq_none (by omega),uJ (by simp;omega)]
theorem flat_get (d:Array RC)(k j:Nat)(hk:k<d.size)(q:j<8):(flatK lg 8 d).toList[k*8+j]?=(lg d[k]!)[j]?:=by have h1:k*8+j<d.size*8:=(by omega);have h2:=get_flatK lg 8 d (k*8+j) h1;rw[show (k*8+j)/8=k by omega,show (k*8+j)%8=j by omega] at h2;have hs:k*8+j<(flatK lg 8 d).size:=(by rw[size_flatK];exact h1);have a:j<(lg d[k]!).length:=(by rw[EO];exact q);rw[gz,Ba hs,bH a,<-xN (flatK lg 8 d) (k*8+j) hs,h2,xN (lg d[k]!) j a]
theorem S9 (w:World):Calls Tryz.prog 87 #[.slice none 0 0,.int .i64 0,.int .i64 0,.func (.func 32) #[] #[]] w λe w'=>e= .returned (.tuple #[])/\w'=w:=by
 go_enter Tryz.func87,Tryz.ntmps87;go_wp2;go_loopw [8] (λa wr=>a= .int .i64 1/\Hid (wr=w)) (λ_ _=>0)
 case atStart=>exact ⟨rfl,ae rfl⟩
 case round=>obtain⟨rfl,d⟩:=hrel;go_wp2;go_end0;exact⟨rfl,d.o⟩
theorem GN (w:World):Calls Tryz.prog 53 #[.slice none 0 0,.int .i64 0,.func (.func 32) #[] #[]] w λe w'=>e= .returned (.tuple #[])/\w'=w:=by
 go_enter Tryz.func53,Tryz.ntmps53;go_wp2_with fail;go_loopw [7,8] (λa b wr=>a= .int .i64 0/\b= .int .i64 20/\Hid (wr=w)) (λ_ _ _=>0)
 case atStart=>exact ⟨rfl,rfl,ae rfl⟩
 case round=>
  obtain⟨rfl,rfl,d⟩:=hrel;go_wp2_with fail;refine (S9 _).mono ?_;rintro e w2 ⟨rfl,rfl⟩;go_wp2_with fail;go_loopw [6] (λa wr=>a= .int .i64 20/\Hid (wr=w)) (λ_ _=>0)
  case atStart=>exact ⟨rfl,d⟩
  case round=>clear d;obtain⟨rfl,d⟩:=hrel;go_wp2_with fail;go_end0;exact⟨rfl,d.o⟩
theorem O1 (w:World):Calls Tryz.prog 31 #[.slice none 0 0,.func (.func 32) #[] #[]] w λe w'=>e= .returned (.tuple #[])/\w'=w:=by go_enter Tryz.func31,Tryz.ntmps31;go_wp2_with fail;refine (GN _).mono ?_;rintro e w2 ⟨rfl,rfl⟩;go_wp2_with fail;go_end0;exact⟨rfl,rfl⟩
theorem Kz {base lo n:Nat}{v:Value}{css:List Value}{rs:List Rec}(w:World)(B:w.ownsRow base 54 8 v n css)(O:RowsAt w lo v.ownBlock css rs)(hn:rs.length=n)(ar:n<1000000000):
 Calls Tryz.prog 31 #[v,.func (.func 32) #[] #[]] w λe w'=>e= .returned (.tuple #[])/\
  ∃H DX,H.Perm rs/\Asc H/\w'.ownsRow base 54 8 v n DX/\RowsAt w' lo v.ownBlock DX H/\w.grownBy w' v.ownBlock:=by
 rcases B.2 with ⟨R,h0⟩|⟨g,cap,cur,rfl,hbase,hb,h1,h2,h3,h4⟩;subst R h0;refine (O1 w).mono ?_;rintro e w' ⟨rfl,rfl⟩;obtain rfl:rs=[]:=ZG.1 hn;obtain rfl:css=[]:=(by have:=B.1;simpa using this);exact⟨rfl,[],[],List.Perm.refl _,λi j x y _ hx=>by simp at hx,dD _ _ _ _,RowsAt.nil _ _ _,bu _ _⟩
 . subst hn;obtain⟨M,a8,I⟩:=agl (α:=RC) (P:=λk x=>(rs[k]?=some x.r)/\RowRec w lo (some g) css k x.r x.Ad x.nd x.cd x.Af x.nf x.cf) rs.length (λk hk=>by obtain⟨Ad,nd,cd,Af,nf,cf,q⟩:=O.2 k rs[k] (bH hk);exact⟨⟨rs[k],Ad,nd,cd,Af,nf,cf⟩,bH hk,q⟩);have U:M.map (·.r)=rs:=by
    apply Ky;intro k;rw[bV];by_cases hk:k<rs.length;have V:k<M.length:=(by omega);rw[bH V];exact (I k _ (bH V)).1.symm;rw[uJ (by omega),uJ (by omega)];rfl
   obtain⟨d,hd⟩:∃d:Array RC,d=M.toArray:=⟨_,rfl⟩;have X:d.size=rs.length:=(by rw[hd];simp[a8]);have aa:∀k,k<d.size->M[k]?=some d[k]! :=(λk hk=>by have:k<M.length:=(by omega);rw[bH this,xN d k hk];simp[hd]);have av:css.length=rs.length*8:=B.1;have hF:(flatK lg 8 d).toList=css:=(by apply Ky;intro t;by_cases ht:t<rs.length*8;have h8:t/8*8+t%8=t:=(by omega);have hk:t/8<d.size:=(by omega);have:=flat_get d (t/8) (t%8) hk (by omega);rw[h8] at this;rw[this];have q:=(I (t/8) _ (aa _ hk)).2;have J:t%8<(lg d[t/8]!).length:=(by rw[EO];omega);rw[bH J];have:=q.cells (t%8) (lg d[t/8]!)[t%8] (by have:(lg d[t/8]!)[t%8]?=some (lg d[t/8]!)[t%8]:=bH J;unfold lg at this;rwa [gz] at this);rw[h8] at this;exact this.symm;rw[uJ (by simp;omega),uJ (by omega)]);have hH:HoldsK lg 8 w g 0 d:=(by intro j J;rw[size_flatK] at J;have hs:j<(flatK lg 8 d).size:=(by rw[size_flatK];exact J);refine⟨?_,by simp[World.frozen?,hb]⟩;have hc:=B.cellAt j (by omega);rw[fG,hc,<-hF,gz,Ba hs,xN (flatK lg 8 d) j hs];rfl);have ab:g<w.heap.size:=(jd.1 hb).1;have C:=EP (P:=Tryz.prog) ZR lg SV apt 32 #[] g 0 cap d w (enters_of Tryz.func32 (by kernel_rfl) rfl) (acP g 0 d.size w) ⟨EO,ZT,hH,ab⟩ (by omega);rw[X] at C;refine C.mono ?_;rintro e w' ⟨rfl,D,aq,E,L,nn,os,rfl⟩;have Y:w.grownBy (sortWorldK lg 8 w g 0 nn D os) (some g):=(by unfold sortWorldK putRowK;exact GM _);have G:D.size=rs.length:=(by omega);have Z:D.toList.Perm d.toList:=(by have:=E.2.2;rw[<-X] at this;have e1:D.extract 0 d.size=D:=(by rw[<-E.1];simp);have e2:d.extract 0 d.size=d:=(by simp);rwa [e1,e2] at this);refine⟨rfl,D.toList.map (·.r),(flatK lg 8 D).toList,?_,?_,⟨by simp[G],.inr ⟨g,cap,putCells id 0 (flatK lg 8 D) cur,rfl,hbase,?_,h1,h2,?_,?_⟩⟩,⟨by simp,?_⟩,Y⟩;have:=Z.map (·.r);rw[hd] at this;simp only at this;rwa [U] at this;intro i j x y ad hx hy;rw[bV] at hx hy;obtain⟨a,ha,rfl⟩:=mZ.1 hx;obtain⟨b,a7,rfl⟩:=mZ.1 hy;rw[gz] at ha a7;obtain⟨hi,rfl⟩:=jd.1 ha;obtain⟨J,rfl⟩:=jd.1 a7;have:=L i j (ay _) ad (by omega);rw[ltR,xN D i hi,xN D j J] at this;simp at this;exact this;exact SX hb;simp[putCells,h3];have:rs.length*8=(flatK lg 8 D).size:=(by rw[size_flatK,G]);rw[this];exact WG cur _ (by rw[size_flatK,G,h3];omega)
   . intro k r hr;rw[bV] at hr;obtain⟨a,ha,rfl⟩:=mZ.1 hr;have a6:a∈M:=by
      have:=Z.mem_iff.1 (gZ ha);rw[hd] at this;simpa using this
     obtain⟨i,hi,al⟩:=KA.1 a6;have q:=(I i a (by rw[<-al];exact bH hi)).2;rw[gz] at ha;obtain⟨hk,an⟩:=jd.1 ha;have N:=q.grow Y (.inl rfl);refine⟨a.Ad,a.nd,a.cd,a.Af,a.nf,a.cf,λj u hu=>?_,N.ld,N.lf,N.od,N.of_,N.lod,N.lof⟩;have ao:j<8:=(by have:=(jd.1 hu).1;simpa [recV] using this);rw[flat_get D k j hk ao,xN D k hk,an];unfold lg;rw[gz];exact hu
