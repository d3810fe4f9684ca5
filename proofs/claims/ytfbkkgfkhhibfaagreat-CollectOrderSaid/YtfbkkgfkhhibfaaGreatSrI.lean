/- Words. -/
import Derived.Test.YtfbkkgfkhhibfaaGreatSym
import Derived.Test.YtfbkkgfkhhibfaaGreatRecM
import Derived.Sort.OwnSorted
set_option linter.unusedVariables false
set_option maxRecDepth 100000
set_option maxHeartbeats 8000000
namespace Iv
open Go.Sort
variable {α : Type} [Inhabited α]
def Jo (lt:α→α→Bool)(s a n:Nat)(d:Array α):Prop:=∀x,s ∣ x→x < a→SortedIn lt x (min (x+s) n) d
def vP (lt:α→α→Bool)(s a n:Nat)(d:Array α):Prop:=∀x,s ∣ x→a≤x→x < n→SortedIn lt x (min (x+s) n) d
variable {lt : α → α → Bool} {d d' : Array α}
theorem pJ {x y:Nat}(h:SortedIn lt x y d)(hk:∀t,x≤t→t < y→d'[t]! =d[t]!):SortedIn lt x y d':=fun i j h1 h2 h3=>by
 rw[hk i h1 (by omega),hk j (by omega) h3]
 exact h i j h1 h2 h3
theorem xg {s x a:Nat}(h1:s ∣ x)(h2:s ∣ a)(h:x < a):x+s≤a:=by
 have:=Nat.le_of_dvd (by omega) (Nat.dvd_sub h2 h1);omega
theorem zB {s a n:Nat}(hs:s ∣ a)(hn:a+s≤n)(h:Jo lt s a n d)(hp:PermIn a (a+s) d d')(hr:SortedIn lt a (a+s) d'):Jo lt s (a+s) n d':=fun x h1 h2=>by
 by_cases c:x < a
 · have:=xg h1 hs c
   exact pJ (h x h1 c) fun t t1 t2=>hp.2.1 t (.inl (by omega))
 · have:x=a:=by
    by_cases c2:a < x
    · have:=xg hs h1 c2;omega
    · omega
   subst this;rw[show min (x+s) n=x+s by omega];exact hr
theorem qV {s a n:Nat}(hs:s ∣ a)(hn:a≤n)(hn2:n < a+s)(h:Jo lt s a n d)(hp:PermIn a n d d')(hr:SortedIn lt a n d'):vP lt s 0 n d':=fun x h1 _ h2=>by
 by_cases c:x < a
 · have:=xg h1 hs c
   exact pJ (h x h1 c) fun t t1 t2=>hp.2.1 t (.inl (by omega))
 · have:x=a:=by
    by_cases c2:a < x
    · have:=xg hs h1 c2;omega
    · omega
   subst this;rw[show min (x+s) n=n by omega];exact hr
theorem MR {s a e n:Nat}(h:vP lt s a n d)(hae:a≤e)(hp:PermIn a e d d'):vP lt s e n d':=fun x h1 h2 h3=>
 pJ (h x h1 (by omega) h3) fun t t1 t2=>hp.2.1 t (.inr (by omega))
theorem FH {s a:Nat}(h:2 * s ∣ a):s ∣ a:=Nat.dvd_trans (Nat.dvd_mul_left s 2) h
theorem Oz {s a n:Nat}(h:vP lt s a n d)(hs:2 * s ∣ a)(hn:a+s≤n)(h0:0 < s):SortedIn lt a (a+s) d:=by
 have:=h a (FH hs) (Nat.le_refl _) (by omega);rwa [show min (a+s) n=a+s by omega] at this
theorem OA {s a n:Nat}(h:vP lt s a n d)(hs:2 * s ∣ a)(hn:a+s < n):SortedIn lt (a+s) (min (a+s+s) n) d:=
 h (a+s) ((Nat.dvd_add_right (FH hs)).2 (Nat.dvd_refl s)) (by omega) hn
end Iv
namespace Go.Proofs.YtfbkkgfkhhibfaaGreat
open Go Go.Shelf Go.RowKit Go.Lib Go.Sort Iv
variable {P : Program} {α : Type} [Inhabited α]
theorem MV {k:Nat}(L:SortLays P k)(enc:α→List Value)(cf:α→α→Int)(hO:SWO (ltOf cf))(g:Nat)(cb:Array Value)(blk off cap n:Nat)(d0 d:Array α)(w0 w:World)
 (eg:∀args w,(callFunc g args).run P w= .ok (.enter g args) w) (hcmp:CmpLays P g cb enc k cf blk off d0.size w0)
 (R:RowK enc k w0 blk off d0) (hs:d.size=d0.size) (S:SWK enc k w0 blk off d w) (hn:n=d0.size) (hsz:d0.size < 1000000000):
 Calls P 53 #[.slice (some ⟨blk,off,none⟩) d0.size cap,.int .i64 n,.func (.func g) #[] cb] w fun e w'=>e= .returned (.tuple #[])∧∃d',d'.size=d0.size∧PermIn 0 n d d'∧SortedIn (ltOf cf) 0 n d'∧SWK enc k w0 blk off d' w':=by
 have mixed:=L.mixed;have t0:=L.t0;have a0:=L.a0;have z0:=L.z0;have v0:=L.v0;have t3:=L.t3;have a3:=L.a3;have z3:=L.z3;have v3:=L.v3;have t4:=L.t4;have a4:=L.a4;have z4:=L.z4;have v4:=L.v4;have t36:=L.t36;have a36:=L.a36;have z36:=L.z36;have v36:=L.v36;have t124:=L.t124;have a124:=L.a124;have z124:=L.z124;have v124:=L.v124;have t96:=L.t96;have a96:=L.a96;have z96:=L.z96;have v96:=L.v96;have aE:=L.aE;have zE:=L.zE;have u36:=run_underlying L.t36;have e86:∀args w,(callFunc 87 args).run P w= .ok (.enter 87 args) w:=enters_of L.f86 (by kernel_rfl) rfl;have e87:∀args w,(callFunc 88 args).run P w= .ok (.enter 88 args) w:=enters_of L.f87 (by kernel_rfl) rfl;have S0:Aside (SWK enc k w0 blk off d w):=S
 have CI:=ae (fun (a b:Nat) (d':Array α) (W:World) (h1:d'.size=d0.size) (h2:SWK enc k w0 blk off d' W) (h3:a≤b) (h4:b≤d0.size)=>(AQ L enc cf g cb blk off cap a b d0 d' w0 W eg hcmp R h1 h2 h3 h4 hsz).mono fun e w' h=>(show e= .returned (.tuple #[])∧∃d'',d''.size=d0.size∧PermIn a b d' d''∧SortedIn (ltOf cf) a b d''∧SWK enc k w0 blk off d'' w' from
  ⟨h.1,_,((insertionSort_holds hO d' a b h3 (by omega)).1.1).trans h1,(insertionSort_holds hO d' a b h3 (by omega)).1,(insertionSort_holds hO d' a b h3 (by omega)).2,h.2⟩))
 have CM:=ae (fun (a m b:Nat) (d':Array α) (W:World) (h1:d'.size=d0.size) (h2:SWK enc k w0 blk off d' W)=>DX L enc cf hO g cb blk off cap d0 w0 eg hcmp R hsz (b - a) a m b d' W (Nat.le_refl _) h1 h2);have HN:=ae hn;have hn2:n≤d0.size:=by omega
 have hn3:n < 1000000000:=by omega
 clear S hcmp hn;go_enter L.f77,Tryz.ntmps53;go_wp2_with fail;go_loopg [7,8] (n) (fun kx s7 s8 wr=>∃(a:Nat) (dk:Array α),s7= .int .i64 (a:Int)∧s8= .int .i64 ((a:Int)+20)∧a≤n∧n - a≤kx∧dk.size=d0.size∧Aside (20 ∣ a)∧Aside (SWK enc k w0 blk off dk wr)∧Aside (PermIn 0 n d dk)∧Aside (Jo (ltOf cf) 20 a n dk))
 case atStart=>exact ⟨0,d,rfl,rfl,Nat.zero_le _,by omega,hs,⟨0,rfl⟩,S0,permIn_refl d 0 n,fun x _ h=>by omega⟩
 case round=>
  clear S0;obtain⟨a,dk,rfl,rfl,han,hkx,hdk,DV,S1,P1,R1⟩:=hrel;by_cases hlt:a+20≤n
  · have z1:(a:Int)+20≤(n:Int):=by omega
    have q1:IntKind.i64.wrap ((a:Int)+20+20)=(a:Int)+20+20:=by rw[IntKind.wrap_i64];omega
    have C:=CI.out a (a+20) dk wr hdk S1.out (by omega) (by omega);rw[show ((a+20:Nat):Int)=(a:Int)+20 by omega] at C;have C:=ae C;go_wp2_with (go_at_call 87;refine C.out.mono ?_;rintro e2 w2 ⟨rfl,d2,hd2,hp2,hs2,S2⟩;replace S2:Aside _:=S2;replace hp2:=ae hp2;replace hs2:=ae hs2);go_roundg (n - (a+20))
    case measure=>omega
    case rel=>exact ⟨a+20,d2,by go_num,by first | rfl | go_num | (congr 1;omega),hlt,Nat.le_refl _,hd2,(Nat.dvd_add_right DV.out).2 (Nat.dvd_refl 20),S2,permIn_trans _ _ _ _ _ P1.out (permIn_mono dk d2 a (a+20) 0 n (Nat.zero_le _) hlt (by omega) hp2.out),zB DV.out hlt R1.out hp2.out hs2.out⟩
  · have z1:¬(a:Int)+20≤(n:Int):=by omega
    have C:=ae (CI.out a n dk wr hdk S1.out han hn2);go_wp2_with (go_at_call 87;refine C.out.mono ?_;rintro e2 w2 ⟨rfl,d2,hd2,hp2,hs2,S2⟩;replace S2:Aside _:=S2;replace hp2:=ae hp2;replace hs2:=ae hs2);have P2:Aside (PermIn 0 n d d2):=permIn_trans _ _ _ _ _ P1.out (permIn_mono dk d2 a n 0 n (Nat.zero_le _) (Nat.le_refl _) (by omega) hp2.out);have R2:Aside (vP (ltOf cf) 20 0 n d2):=qV DV.out han (by omega) R1.out hp2.out hs2.out;clear C S1 P1 R1 hp2 hs2;go_loopg [6] n (fun kx s6 wr=>∃(s:Nat) (dk:Array α),s6= .int .i64 (s:Int)∧20≤s∧s≤2000000000∧n - s≤kx∧dk.size=d0.size∧Aside (SWK enc k w0 blk off dk wr)∧Aside (PermIn 0 n d dk)∧Aside (vP (ltOf cf) s 0 n dk))
    case atStart=>exact ⟨20,d2,rfl,Nat.le_refl _,by omega,by omega,hd2,S2,P2,R2⟩
    case round=>
     clear S2 P2 R2;obtain⟨s,d3,rfl,aqN,hs2,aqO,hd3,S3,P3,R3⟩:=hrel;by_cases hlt2:s < n
     · have z2:(s:Int) < (n:Int):=by omega
       have q1:IntKind.i64.wrap (2 *(s:Int))=2 *(s:Int):=by rw[IntKind.wrap_i64];omega
       have q2:IntKind.i64.wrap ((s:Int)* 2)=(s:Int)* 2:=by rw[IntKind.wrap_i64];omega
       go_wp2_with fail;go_loopg [7,8] n (fun kx s7 s8 wr=>∃(a:Nat) (dk:Array α),s7= .int .i64 (a:Int)∧s8= .int .i64 ((a:Int)+2 *(s:Int))∧a≤n∧n - a≤kx∧dk.size=d0.size∧Aside (2 * s ∣ a)∧Aside (SWK enc k w0 blk off dk wr)∧Aside (PermIn 0 n d dk)∧Aside (Jo (ltOf cf) (2 * s) a n dk)∧Aside (vP (ltOf cf) s a n dk))
       case atStart=>exact ⟨0,d3,rfl,by first | rfl | go_num | (congr 1;omega),Nat.zero_le _,by omega,hd3,⟨0,rfl⟩,S3,P3,fun x _ h=>by omega,R3⟩
       case round=>
        clear S3 P3 R3;obtain⟨a,d4,rfl,rfl,agA,aqP,hd4,Yn,S4,P4,A4,B4⟩:=hrel;have q3:IntKind.i64.wrap ((a:Int)+(s:Int))=(a:Int)+(s:Int):=by rw[IntKind.wrap_i64];omega
        by_cases hlt3:a+2 * s≤n
        · have z3:(a:Int)+2 *(s:Int)≤(n:Int):=by omega
          have q4:IntKind.i64.wrap ((a:Int)+2 *(s:Int)+2 *(s:Int))=(a:Int)+2 *(s:Int)+2 *(s:Int):=by rw[IntKind.wrap_i64];omega
          have C:=CM.out a (a+s) (a+2 * s) d4 wr hd4 S4.out (by omega) (by omega) (by omega) (Oz B4.out Yn.out (by omega) (by omega)) (by have:=OA B4.out Yn.out (by omega);rwa [show min (a+s+s) n=a+2 * s by omega] at this);rw[show ((a+s:Nat):Int)=(a:Int)+(s:Int) by omega,show ((a+2 * s:Nat):Int)=(a:Int)+2 *(s:Int) by omega] at C;have C:=ae C;go_wp2_with (go_at_call 88;refine C.out.mono ?_;rintro e2 w5 ⟨rfl,d5,hd5,KQ,hs5,S5⟩;replace S5:Aside _:=S5;replace KQ:=ae KQ;replace hs5:=ae hs5);go_roundg (n - (a+2 * s))
          case measure=>omega
          case rel=>exact ⟨a+2 * s,d5,by first | rfl | go_num | (congr 1;omega),by first | rfl | go_num | (congr 1;omega),hlt3,Nat.le_refl _,hd5,(Nat.dvd_add_right Yn.out).2 (Nat.dvd_refl _),S5,permIn_trans _ _ _ _ _ P4.out (permIn_mono d4 d5 a (a+2 * s) 0 n (Nat.zero_le _) hlt3 (by omega) KQ.out),zB Yn.out hlt3 A4.out KQ.out hs5.out,MR B4.out (by omega) KQ.out⟩
        · have z3:¬(a:Int)+2 *(s:Int)≤(n:Int):=by omega
          by_cases hlt4:a+s < n
          · have z4:(a:Int)+(s:Int) < (n:Int):=by omega
            have C:=CM.out a (a+s) n d4 wr hd4 S4.out (by omega) hlt4 hn2 (Oz B4.out Yn.out (by omega) (by omega)) (by have:=OA B4.out Yn.out hlt4;rwa [show min (a+s+s) n=n by omega] at this);rw[show ((a+s:Nat):Int)=(a:Int)+(s:Int) by omega] at C;have C:=ae C;go_wp2_with (go_at_call 88;refine C.out.mono ?_;rintro e2 w5 ⟨rfl,d5,hd5,KQ,hs5,S5⟩;replace S5:Aside _:=S5;replace KQ:=ae KQ;replace hs5:=ae hs5);go_roundg (n - 2 * s)
            case measure=>omega
            case rel=>exact ⟨2 * s,d5,by first | rfl | go_num | (congr 1;omega),by omega,by omega,Nat.le_refl _,hd5,S5,permIn_trans _ _ _ _ _ P4.out (permIn_mono d4 d5 a n 0 n (Nat.zero_le _) (Nat.le_refl _) (by omega) KQ.out),qV Yn.out agA (by omega) A4.out KQ.out hs5.out⟩
          · have z4:¬(a:Int)+(s:Int) < (n:Int):=by omega
            go_wp2_with fail;go_roundg (n - 2 * s)
            case measure=>omega
            case rel=>exact ⟨2 * s,d4,by first | rfl | go_num | (congr 1;omega),by omega,by omega,Nat.le_refl _,hd4,S4,P4,qV Yn.out agA (by omega) A4.out (permIn_refl d4 a n) (by
             by_cases c:a < n
             · have:=B4.out a (FH Yn.out) (Nat.le_refl _) c;rwa [show min (a+s) n=n by omega] at this
             · intro i j h1 h2 h3;omega)⟩
     · have z2:¬(s:Int) < (n:Int):=by omega
       go_wp2_with fail;go_end0
       exact⟨rfl,d3,hd3,P3.out,by
        by_cases c:0 < n
        · have:=R3.out 0 ⟨0,rfl⟩ (Nat.le_refl _) c;rwa [show min (0+s) n=n by omega] at this
        · intro i j h1 h2 h3;omega,S3.out⟩
theorem yE {k:Nat}(L:SortLays P k)(enc:α→List Value)(cf:α→α→Int)(hO:SWO (ltOf cf))(g:Nat)(cb:Array Value)(blk off cap:Nat)(d:Array α)(w:World)
 (eg:∀args w,(callFunc g args).run P w= .ok (.enter g args) w) (hcmp:CmpLays P g cb enc k cf blk off d.size w) (R:RowK enc k w blk off d) (hsz:d.size < 1000000000):
 Calls P 31 #[.slice (some ⟨blk,off,none⟩) d.size cap,.func (.func g) #[] cb] w fun e w'=>e= .returned (.tuple #[])∧∃d',d'.size=d.size∧PermIn 0 d.size d d'∧SortedIn (ltOf cf) 0 d.size d'∧SWK enc k w blk off d' w':=by
 have mixed:=L.mixed;have t0:=L.t0;have a0:=L.a0;have z0:=L.z0;have v0:=L.v0;have t3:=L.t3;have a3:=L.a3;have z3:=L.z3;have v3:=L.v3;have t4:=L.t4;have a4:=L.a4;have z4:=L.z4;have v4:=L.v4;have t36:=L.t36;have a36:=L.a36;have z36:=L.z36;have v36:=L.v36;have t124:=L.t124;have a124:=L.a124;have z124:=L.z124;have v124:=L.v124;have t96:=L.t96;have a96:=L.a96;have z96:=L.z96;have v96:=L.v96;have aE:=L.aE;have zE:=L.zE;have u36:=run_underlying L.t36;have e77:∀args w,(callFunc 53 args).run P w= .ok (.enter 53 args) w:=enters_of L.f77 (by kernel_rfl) rfl;have C:=ae (MV L enc cf hO g cb blk off cap d.size d d w w eg hcmp R rfl (SWK.start R.hH) rfl hsz);clear hcmp;go_enter L.f62,Tryz.ntmps31;go_wp2_with (go_at_call 53;refine C.out.mono ?_;rintro e2 w5 ⟨rfl,H⟩;replace H:=ae H);go_end0;exact⟨rfl,H.out⟩
end Go.Proofs.YtfbkkgfkhhibfaaGreat
namespace Iv
def qY (l:List Rec)(n:Int):Nat:=l.countP fun r=>decide (r.seq=n)
def XY (l:List Rec)(n:Int):Ev:=match l.find? (fun r=>decide (r.seq=n)) with | some r=>r.ev | none=>⟨0,0,0,0,0,[],[]⟩
def uA (l:List Rec):Nat→Nat→List Ev
 | 0,_=> []
 | f+1,n=>if qY l n=1 then XY l n :: uA l f (n+1) else []
def dF (l:List Rec):List Ev:=uA l (l.length+1) 0
theorem sH {α:Type}(p q r:α→Bool)(l:List α)(h:∀x,r x=(p x || q x))(hd:∀x,¬(p x=true∧q x=true)):l.countP r=l.countP p+l.countP q:=by
 induction l with
 | nil=>rfl
 |
  cons x t ih=>
  rw[List.countP_cons,List.countP_cons,List.countP_cons,ih,h x];have:=hd x
  cases hp:p x <;> cases hq:q x <;> simp_all <;> omega
theorem EW (l:List Rec)(n:Nat)(h:∀i:Nat,i < n→qY l i=1):n≤l.length:=by
 have key:∀m:Nat,m≤n→l.countP (fun r=>decide (0≤r.seq∧r.seq < (m:Int)))=m:=by
  intro m;induction m with
  | zero=>intro _;rw[List.countP_eq_zero];intro r _;simp;try omega
  |
   succ m ih=>
   intro hm
   rw[sH (fun r=>decide (0≤r.seq∧r.seq < (m:Int))) (fun r=>decide (r.seq=(m:Int))) _ l (fun r=>by
    rw[←Bool.decide_or];apply decide_eq_decide.2;omega) (fun r hr=>by simp at hr;omega),ih (by omega)]
   have:=h m (by omega);unfold qY at this;rw[this]
 have:=key n (Nat.le_refl _);rw[←this];exact List.countP_le_length
theorem Qr (l:List Rec)(f:Nat):∀(g n:Nat),(∀i:Nat,i < n→qY l i=1)→l.length < f+n→l.length < g+n→uA l f n=uA l g n:=by
 induction f with
 | zero=>intro g n h h1 _;have:=EW l n h;omega
 |
  succ f ih=>
  intro g n h h1 h2;have hn:=EW l n h;obtain⟨g,rfl⟩:∃g',g=g'+1:=⟨g - 1,by omega⟩;unfold uA;split
  · rename_i hc
    congr 1
    exact ih g (n+1) (fun i hi=>by
     rcases Nat.lt_or_eq_of_le (Nat.le_of_lt_succ hi) with c | c
     · exact h i c
     · rw[c];exact hc) (by omega) (by omega)
  · rfl
def qL (l:List Rec)(n:Nat):List Ev:=uA l (l.length+1) n
theorem LH {l:List Rec}{n:Nat}(h:∀i:Nat,i < n→qY l i=1)(hc:qY l n=1):qL l n=XY l n :: qL l (n+1):=by
 unfold qL
 conv=>lhs;unfold uA
 rw[if_pos hc];congr 1
 have h':∀i:Nat,i < n+1→qY l i=1:=fun i hi=>by
  rcases Nat.lt_or_eq_of_le (Nat.le_of_lt_succ hi) with c | c
  · exact h i c
  · rw[c];exact hc
 have:=EW l (n+1) h';exact Qr l _ _ _ h' (by omega) (by omega)
theorem Ia {l:List Rec}{n:Nat}(hc:qY l n≠1):qL l n= []:=by
 unfold qL uA;rw[if_neg hc]
def Asc (s:List Rec):Prop:=∀(i j:Nat) (x y:Rec),i < j→s[i]?=some x→s[j]?=some y→x.seq≤y.seq
def LG (s:List Rec)(n:Nat):Prop:=(∃r,s[n]?=some r∧r.seq=(n:Int))∧(∀r,s[n+1]?=some r→r.seq≠(n:Int))
theorem uB {α:Type}(p:α→Bool)(l:List α)(n:Nat):l.countP p=(l.take n).countP p+(l.drop n).countP p:=by
 rw[←List.countP_append,List.take_append_drop]
theorem yN {s:List Rec}(hs:Asc s){n:Nat}(hlow:∀(i:Nat) (r:Rec),i < n→s[i]?=some r→r.seq < n)(hhigh:∀r,s[n]?=some r→(n:Int)≤r.seq):LG s n ↔ qY s n=1:=by
 have h0:(s.take n).countP (fun r=>decide (r.seq=(n:Int)))=0:=by
  rw[List.countP_eq_zero];intro r hr;obtain⟨i,hi,rfl⟩:=List.mem_iff_getElem.1 hr;have hil:i < n:=by rw[List.length_take] at hi;omega
  have hlo:=hlow i _ hil (by rw[←List.getElem?_take_of_lt hil];exact List.getElem?_eq_getElem hi);simp only[decide_eq_true_eq];omega
 unfold qY;rw[uB _ s n,h0,Nat.zero_add]
 cases hd:s.drop n with
 |
  nil=>
  have hl:s.length≤n:=List.drop_eq_nil_iff.1 hd;constructor
  · rintro⟨⟨r,hr,_⟩,_⟩;have:=(List.getElem?_eq_some_iff.1 hr).1;omega
  · intro h;simp at h
 |
  cons x t=>
  have hx:s[n]?=some x:=by
   have:(s.drop n)[0]?=some x:=by rw[hd];rfl
   rwa [List.getElem?_drop,Nat.add_zero] at this
  have ht:∀j,t[j]?=s[n+1+j]?:=fun j=>by
   have:(s.drop n)[j+1]?=t[j]?:=by rw[hd];rfl
   rw[←this,List.getElem?_drop];congr 1;omega
  have hxn:=hhigh x hx;rw[List.countP_cons];by_cases hxe:x.seq=(n:Int)
  · rw[if_pos (decide_eq_true hxe)];constructor
    · rintro⟨_,h2⟩
      have:t.countP (fun r=>decide (r.seq=(n:Int)))=0:=by
       rw[List.countP_eq_zero];intro r hr;obtain⟨j,hj,rfl⟩:=List.mem_iff_getElem.1 hr;have hjs:s[n+1+j]?=some t[j]:=by rw[←ht];exact List.getElem?_eq_getElem hj
       have hl:n+1 < s.length:=by have:=(List.getElem?_eq_some_iff.1 hjs).1;omega
       have hne:=h2 _ (List.getElem?_eq_getElem hl);have hge:=hs n (n+1) _ _ (by omega) hx (List.getElem?_eq_getElem hl)
       have aqr:(s[n+1]).seq≤(t[j]).seq:=by
        rcases Nat.eq_zero_or_pos j with c | c
        · subst c;have h5:s[n+1]?=some t[0]:=hjs;rw[List.getElem?_eq_getElem hl] at h5;injection h5 with h5;rw[h5];exact Int.le_refl _
        · exact hs (n+1) (n+1+j) _ _ (by omega) (List.getElem?_eq_getElem hl) hjs
       simp;omega
      rw[this]
    · intro h;refine⟨⟨x,hx,hxe⟩,fun r hr hrn=>?_⟩;have h1:t[0]?=some r:=by rw[ht];exact hr
      have:0 < t.countP (fun r=>decide (r.seq=(n:Int))):=List.countP_pos_iff.2 ⟨r,List.mem_of_getElem? h1,by simp[hrn]⟩;omega
  · rw[if_neg (by simp[hxe])];have hgt:(n:Int) < x.seq:=by omega
    have:t.countP (fun r=>decide (r.seq=(n:Int)))=0:=by
     rw[List.countP_eq_zero];intro r hr;obtain⟨j,hj,rfl⟩:=List.mem_iff_getElem.1 hr;have hjs:s[n+1+j]?=some t[j]:=by rw[←ht];exact List.getElem?_eq_getElem hj
     have:=hs n (n+1+j) _ _ (by omega) hx hjs;simp;omega
    rw[this];constructor
    · rintro⟨⟨r,hr,hre⟩,_⟩;rw[hx] at hr;injection hr with hr;subst hr;exact absurd hre hxe
    · intro h;simp at h
theorem H9 {l s:List Rec}(h:s.Perm l)(n:Int):qY s n=qY l n:=h.countP_eq _
theorem NT {l:List Rec}{n:Int}(h:qY l n=1){r:Rec}(hr:r∈l)(hn:r.seq=n):XY l n=r.ev:=by
 unfold XY
 have key:∀l:List Rec,qY l n=1→r∈l→l.find? (fun r=>decide (r.seq=n))=some r:=by
  intro l;induction l with
  | nil=>intro _ h;cases h
  |
   cons x t ih=>
   intro h hr;unfold qY at h ih;rw[List.countP_cons] at h;rw[List.find?_cons];by_cases hx:x.seq=n
   · simp only[hx,decide_true];rcases List.mem_cons.1 hr with rfl | hr
     · rfl
     · have:0 < t.countP (fun r=>decide (r.seq=n)):=List.countP_pos_iff.2 ⟨r,hr,by simp[hn]⟩;rw[if_pos (decide_eq_true hx)] at h;omega
   · simp only[hx,decide_false];rcases List.mem_cons.1 hr with rfl | hr
     · exact absurd hn hx
     · exact ih (by simpa [hx] using h) hr
 rw[key l h hr]
def fileAt (fs:List Bytes)(t:Nat):Bytes:=(fs[t]?).getD []
def iT (t:Nat)(b:Bytes):List Rec:=(aJ t b 0 (-1)).flatMap fun p=>p.1.recs
def aV (fs:List Bytes)(k:Nat):List Rec:=(List.range k).flatMap fun t=>iT t (fileAt fs t)
def uj (fs:List Bytes)(t:Nat):Int:=((fileAt fs t).length:Int) - (sizeB (aJ t (fileAt fs t) 0 (-1)):Int)
def dH (fs:List Bytes)(k:Nat):List Int:=(List.range k).map (uj fs)
theorem lG (fs:List Bytes)(k:Nat):aV fs (k+1)=aV fs k++iT k (fileAt fs k):=by
 unfold aV;rw[List.range_succ,List.flatMap_append];simp
theorem vH (fs:List Bytes)(k:Nat):dH fs (k+1)=dH fs k++ [uj fs k]:=by
 unfold dH;rw[List.range_succ,List.map_append];rfl
theorem zk (th:Int):aJ th [] 0 (-1)= []:=by
 apply eY;unfold lg;have:(Iv.decode []).2.2≠0:=by decide+kernel
 simp[this]
theorem vM {fs:List Bytes}{t:Nat}(h:fs.length≤t):fileAt fs t= []:=by
 unfold fileAt;rw[List.getElem?_eq_none h];rfl
theorem IX {fs:List Bytes}{t:Nat}(h:fs.length≤t):iT t (fileAt fs t)= []:=by
 rw[vM h];unfold iT;rw[zk];rfl
theorem IY {fs:List Bytes}{t:Nat}(h:fs.length≤t):uj fs t=0:=by
 unfold uj;rw[vM h,zk];rfl
theorem Lu {fs:List Bytes}{t k:Nat}(h:fs.length≤t)(hk:t≤k):aV fs k=aV fs t:=by
 induction k with
 | zero=>rw [show t=0 by omega]
 |
  succ k ih=>
  by_cases c:t=k+1
  · rw[c]
  · rw[lG,ih (by omega),IX (by omega),List.append_nil]
theorem LC {fs:List Bytes}{t k:Nat}(h:fs.length≤t)(hk:t≤k):dH fs k=dH fs t++List.replicate (k - t) 0:=by
 induction k with
 | zero=>rw [show t=0 by omega];simp
 |
  succ k ih=>
  by_cases c:t=k+1
  · rw[c];simp
  · rw[vH,ih (by omega),IY (by omega),List.append_assoc,show k+1 - t=(k - t)+1 by omega,List.replicate_succ']
theorem iR (fs:List Bytes)(k:Nat):(dH fs k).length=k:=by unfold dH;simp
theorem MG {t:Nat}{b:Bytes}{r:Rec}(h:r∈iT t b):0≤r.seq:=by
 have okp:∀(rs:List Rec) (th s:Int),-1≤s→okRecs th s rs=true→(∀r∈rs,s < r.seq):=by
  intro rs;induction rs with
  | nil=>intro th s _ _ r hr;cases hr
  |
   cons x l ih=>
   intro th s hs ho r hr;unfold okRecs at ho;simp only[Bool.and_eq_true,decide_eq_true_eq] at ho;rcases List.mem_cons.1 hr with rfl | hr
   · exact ho.1.1.1.2
   · have h1:=ho.1.1.1.2;have:=ih th x.seq (by omega) ho.2 r hr;omega
 unfold iT at h;obtain⟨p,hp,hr⟩:=List.mem_flatMap.1 h
 have hg:∀(f:Nat) (b:Bytes) (rc la:Int),p∈bI t f b rc la→fits p.1=0:=by
  intro f;induction f with
  | zero=>intro b rc la h;simp[bI] at h
  |
   succ f ih=>
   intro b rc la h;unfold bI at h;split at h
   · rename_i hgood
     rcases List.mem_cons.1 h with h | h
     · rw[h];exact (kP hgood).2.2.2
     · exact ih _ _ _ h
   · simp at h
 have hf:=hg _ _ _ _ hp;have:=okp _ _ _ (by decide) (dR hf).2.2.2.2.2.2 r hr;omega
theorem LD {fs:List Bytes}{k:Nat}{r:Rec}(h:r∈aV fs k):0≤r.seq:=by
 unfold aV at h;obtain⟨t,_,hr⟩:=List.mem_flatMap.1 h;exact MG hr
theorem yK (th rc la:Int)(b:Bytes):sizeB (aJ th b rc la)≤b.length:=by
 have:∀(f:Nat) (b:Bytes) (rc la:Int),sizeB (bI th f b rc la)≤b.length:=by
  intro f;induction f with
  | zero=>intro b rc la;simp[bI,sizeB]
  |
   succ f ih=>
   intro b rc la;unfold bI;split
   · rename_i hg
     obtain⟨_,h1,h2,_⟩:=kP hg;have:=ih (b.drop (Iv.decode b).2.1) (rc+(Iv.decode b).1.recs.length) (iJ (Iv.decode b).1 la);rw[List.length_drop] at this;unfold sizeB at this⊢;simp only[List.map_cons,List.sum_cons];omega
   · simp[sizeB]
 exact this _ b rc la
theorem yM (t:Nat)(b:Bytes):(iT t b).length≤64 * b.length:=by
 have:∀(f:Nat) (b:Bytes) (rc la:Int),((bI t f b rc la).flatMap fun p=>p.1.recs).length≤64 * b.length:=by
  intro f;induction f with
  | zero=>intro b rc la;simp[bI]
  |
   succ f ih=>
   intro b rc la;unfold bI;split
   · rename_i hg
     obtain⟨_,h1,h2,h3⟩:=kP hg;have:=ih (b.drop (Iv.decode b).2.1) (rc+(Iv.decode b).1.recs.length) (iJ (Iv.decode b).1 la);rw[List.length_drop] at this;have h4:=(dR h3).2.1;simp only[List.flatMap_cons,List.length_append];omega
   · simp
 exact this _ b 0 (-1)
theorem yL (fs:List Bytes)(k:Nat)(h:∀f∈fs,f.length≤1000000):(aV fs k).length≤64000000 * k:=by
 induction k with
 | zero=>simp [aV]
 |
  succ k ih=>
  rw[lG,List.length_append];have h1:=yM k (fileAt fs k)
  have h2:(fileAt fs k).length≤1000000:=by
   unfold fileAt
   cases hk:fs[k]? with
   | none=>simp
   | some f=>exact h f (List.mem_of_getElem? hk)
  omega
end Iv
namespace Go.Proofs.YtfbkkgfkhhibfaaGreat
open Go Go.Shelf Go.RowKit Go.Lib Go.Sort Iv
theorem TN:SortLays Tryz.prog 8 where
 mixed:=by kernel_rfl
 f62:=Tryz.func31
 f77:=Tryz.func53
 f86:=Tryz.func87
 f87:=Tryz.func88
 f88:=Tryz.func120
 f89:=Tryz.func155
 t0:=Tryz.underlying0
 a0:=fun w=>by kernel_rfl
 z0:=fun w=>by kernel_rfl
 v0:=fun w=>by kernel_rfl
 t3:=Tryz.underlying3
 a3:=fun w=>by kernel_rfl
 z3:=fun w=>by kernel_rfl
 v3:=fun w=>by kernel_rfl
 t4:=Tryz.underlying4
 a4:=fun w=>by kernel_rfl
 z4:=fun w=>by kernel_rfl
 v4:=fun w=>by kernel_rfl
 t36:=Tryz.underlying48
 a36:=fun w=>by kernel_rfl
 z36:=fun w=>by kernel_rfl
 v36:=fun w=>by kernel_rfl
 t124:=Tryz.underlying100
 a124:=fun w=>by kernel_rfl
 z124:=fun w=>by kernel_rfl
 v124:=fun w=>by kernel_rfl
 t96:=Tryz.underlying132
 a96:=fun w=>by kernel_rfl
 z96:=fun w=>by kernel_rfl
 v96:=fun w=>by kernel_rfl
 aE:=fun w=>by kernel_rfl
 zE:=fun w=>by kernel_rfl
structure RC where
 r:Rec
 Ad:Option Addr
 nd:Nat
 cd:Nat
 Af:Option Addr
 nf:Nat
 cf:Nat
instance:Inhabited RC:=⟨⟨⟨0,⟨0,0,0,0,0,[],[]⟩⟩,none,0,0,none,0,0⟩⟩
def jh (x:RC):List Value:=(recV x.r x.Ad x.nd x.cd x.Af x.nf x.cf).toList
def La (x y:RC):Int:=if x.r.seq < y.r.seq then -1 else if y.r.seq < x.r.seq then 1 else 0
theorem yD (x:RC):(jh x).length=8:=rfl
theorem TP (x:RC):∀v∈jh x,v.oneCell'=true:=by
 intro v hv;simp only[jh,recV,List.mem_cons,List.not_mem_nil,or_false] at hv;rcases hv with h | h | h | h | h | h | h | h <;> rw[h] <;> rfl
theorem ltR (x y:RC):ltOf La x y=decide (x.r.seq < y.r.seq):=by
 unfold ltOf La;apply decide_eq_decide.2;split
 · omega
 · split <;> omega
theorem ajV:SWO (ltOf La) where
 irrefl:=fun x=>by rw[ltR];simp
 trans:=fun x y z h1 h2=>by rw[ltR] at h1 h2⊢;simp at h1 h2⊢;omega
 ntrans:=fun x y z h1 h2=>by rw[ltR] at h1 h2⊢;simp at h1 h2⊢;omega
theorem TQ (x y:RC)(w:World):Calls Tryz.prog 32 #[.agg (jh x).toArray,.agg (jh y).toArray] w fun e w'=>e= .returned (.int .i64 (La x y))∧∃os,w'=grow w os:=by
 unfold jh recV;go_enter Tryz.func32,Tryz.ntmps32;have e1:(x.r.seq !=x.r.seq)=false:=by simp
 have e2:(y.r.seq !=y.r.seq)=false:=by simp
 unfold La;by_cases h1:x.r.seq < y.r.seq
 · go_wp2;go_ret;exact⟨rfl,_,by rw[alloc_eq_grow,alloc_eq_grow,grow_grow]⟩
 · by_cases h2:y.r.seq < x.r.seq
   · go_wp2;go_ret;exact⟨rfl,_,by rw[alloc_eq_grow,alloc_eq_grow,grow_grow]⟩
   · go_wp2;go_ret;exact⟨rfl,_,by rw[alloc_eq_grow,alloc_eq_grow,grow_grow]⟩
theorem WZ (blk off size:Nat)(w:World):CmpLays Tryz.prog 32 #[] jh 8 La blk off size w:=fun m os dk hs x y=>
 (TQ x y _).mono fun e w' ⟨he,os',hw⟩=>⟨he,0,os',hw⟩
theorem aaQ {α:Type}{P:Nat→α→Prop}(n:Nat)(h:∀i,i < n→∃r,P i r):∃rs:List α,rs.length=n∧∀k r,rs[k]?=some r→P k r:=by
 induction n with
 | zero=>exact ⟨[],rfl,fun k r hr=>by simp at hr⟩
 |
  succ n ih=>
  obtain⟨rs,hl,hp⟩:=ih fun i hi=>h i (by omega)
  obtain⟨r,hr⟩:=h n (by omega);refine⟨rs++ [r],by simp[hl],fun k q hq=>?_⟩;by_cases hk:k < n
  · rw[List.getElem?_append_left (by omega)] at hq;exact hp k q hq
  · have hkl:k < n+1:=by have:=(List.getElem?_eq_some_iff.1 hq).1;simp[hl] at this;omega
    have hkn:k=n:=by omega
    subst hkn;rw[List.getElem?_append_right (by omega),hl,Nat.sub_self] at hq;simp at hq;rw[←hq];exact hr
theorem Lc {w:World}{g n:Nat}{os:Array Obj}{cur F:Array Value}{e:TypeId}{fr:Nat×Nat}(hb:w.heap[g]?=some (.cells cur e fr)):
 (grow (putRow id (Sort.ahead w n) g 0 F) os).heap[g]?=some (.cells (putCells id 0 F cur) e fr):=by
 have hg:g < w.heap.size:=(Array.getElem?_eq_some_iff.1 hb).1;rw[heap_grow_old _ _ (by simpa using hg)];simp[putRow,mapBlock,Sort.ahead,Array.getElem?_modify,hb,onCells]
theorem Ar {w:World}{g n:Nat}{os:Array Obj}(F:Array Value):w.grownBy (grow (putRow id (Sort.ahead w n) g 0 F) os) (some g):=by
 refine⟨rfl,rfl,rfl,by simp,fun k hk hne=>?_⟩;rw[heap_grow_old _ _ (by simpa using hk)];have:g≠k:=fun e=>hne (by rw[e])
 simp[putRow,mapBlock,Sort.ahead,Array.getElem?_modify,this]
theorem Pq (cur F:Array Value)(h:F.size≤cur.size):(putCells id 0 F cur).toList.take F.size=F.toList:=by
 apply List.ext_getElem?;intro j;by_cases hj:j < F.size
 · rw[List.getElem?_take_of_lt hj,Array.getElem?_toList];simp[putCells,hj,show j < cur.size by omega]
 · rw[List.getElem?_take_eq_none (by omega),List.getElem?_eq_none (by simp;omega)]
theorem flat_get (d:Array RC)(k j:Nat)(hk:k < d.size)(hj:j < 8):(flatK jh 8 d).toList[k * 8+j]?=(jh d[k]!)[j]?:=by
 have h1:k * 8+j < d.size * 8:=by omega
 have h2:=get_flatK jh 8 d (k * 8+j) h1;rw[show (k * 8+j) / 8=k by omega,show (k * 8+j) % 8=j by omega] at h2;have hs:k * 8+j < (flatK jh 8 d).size:=by rw[size_flatK];exact h1
 have hj':j < (jh d[k]!).length:=by rw[yD];exact hj
 rw[Array.getElem?_toList,Array.getElem?_eq_getElem hs,List.getElem?_eq_getElem hj',←getElem!_pos (flatK jh 8 d) (k * 8+j) hs,h2,getElem!_pos (jh d[k]!) j hj']
theorem Ld (w:World):Calls Tryz.prog 87 #[.slice none 0 0,.int .i64 0,.int .i64 0,.func (.func 32) #[] #[]] w fun e w'=>e= .returned (.tuple #[])∧w'=w:=by
 go_enter Tryz.func87,Tryz.ntmps87;go_wp2;go_loopw [8] (fun a wr=>a= .int .i64 1∧Hid (wr=w)) (fun _ _=>0)
 case atStart=>exact ⟨rfl,ae rfl⟩
 case round=>
  obtain⟨rfl,H1⟩:=hrel;go_wp2;go_end0;exact⟨rfl,H1.out⟩
theorem Au (w:World):Calls Tryz.prog 53 #[.slice none 0 0,.int .i64 0,.func (.func 32) #[] #[]] w fun e w'=>e= .returned (.tuple #[])∧w'=w:=by
 go_enter Tryz.func53,Tryz.ntmps53;go_wp2_with fail;go_loopw [7,8] (fun a b wr=>a= .int .i64 0∧b= .int .i64 20∧Hid (wr=w)) (fun _ _ _=>0)
 case atStart=>exact ⟨rfl,rfl,ae rfl⟩
 case round=>
  obtain⟨rfl,rfl,H1⟩:=hrel;go_wp2_with fail;refine (Ld _).mono ?_;rintro e w2 ⟨rfl,rfl⟩;go_wp2_with fail;go_loopw [6] (fun a wr=>a= .int .i64 20∧Hid (wr=w)) (fun _ _=>0)
  case atStart=>exact ⟨rfl,H1⟩
  case round=>
   clear H1;obtain⟨rfl,H1⟩:=hrel;go_wp2_with fail;go_end0;exact⟨rfl,H1.out⟩
theorem Hw (w:World):Calls Tryz.prog 31 #[.slice none 0 0,.func (.func 32) #[] #[]] w fun e w'=>e= .returned (.tuple #[])∧w'=w:=by
 go_enter Tryz.func31,Tryz.ntmps31;go_wp2_with fail;refine (Au _).mono ?_;rintro e w2 ⟨rfl,rfl⟩;go_wp2_with fail;go_end0;exact⟨rfl,rfl⟩
theorem Ed {base lo n:Nat}{v:Value}{css:List Value}{rs:List Rec}(w:World)(hown:w.ownsRow base 54 8 v n css)(hrow:RowsAt w lo v.ownBlock css rs)(hn:rs.length=n)(hsz:n < 1000000000):
 Calls Tryz.prog 31 #[v,.func (.func 32) #[] #[]] w fun e w'=>e= .returned (.tuple #[])∧
  ∃rs' Pv,rs'.Perm rs∧Asc rs'∧w'.ownsRow base 54 8 v n Pv∧RowsAt w' lo v.ownBlock Pv rs'∧w.grownBy w' v.ownBlock:=by
 rcases hown.2 with ⟨hnil,h0⟩ | ⟨g,cap,cur,rfl,hbase,hb,h1,h2,h3,h4⟩
 · subst hnil h0;refine (Hw w).mono ?_;rintro e w' ⟨rfl,rfl⟩;obtain rfl:rs= []:=List.length_eq_zero_iff.1 hn;obtain rfl:css= []:=by have:=hown.1;simpa using this
   exact⟨rfl,[],[],List.Perm.refl _,fun i j x y _ hx=>by simp at hx,World.ownsRow_nil _ _ _ _,RowsAt.nil _ _ _,World.grownBy.refl _ _⟩
 · subst hn
   obtain⟨ds,hdl,hds⟩:=aaQ (α:=RC) (P:=fun k x=>(rs[k]?=some x.r)∧RowRec w lo (some g) css k x.r x.Ad x.nd x.cd x.Af x.nf x.cf) rs.length (fun k hk=>by
    obtain⟨Ad,nd,cd,Af,nf,cf,q⟩:=hrow.2 k rs[k] (List.getElem?_eq_getElem hk);exact⟨⟨rs[k],Ad,nd,cd,Af,nf,cf⟩,List.getElem?_eq_getElem hk,q⟩)
   have hmap:ds.map (·.r)=rs:=by
    apply List.ext_getElem?;intro k;rw[List.getElem?_map];by_cases hk:k < rs.length
    · have hk2:k < ds.length:=by omega
      rw[List.getElem?_eq_getElem hk2];exact (hds k _ (List.getElem?_eq_getElem hk2)).1.symm
    · rw[List.getElem?_eq_none (by omega),List.getElem?_eq_none (by omega)];rfl
   obtain⟨d,hd⟩:∃d:Array RC,d=ds.toArray:=⟨_,rfl⟩;have aeU:d.size=rs.length:=by rw[hd];simp[hdl]
   have hdk:∀k,k < d.size→ds[k]?=some d[k]! :=fun k hk=>by
    have:k < ds.length:=by omega
    rw[List.getElem?_eq_getElem this,getElem!_pos d k hk];simp[hd]
   have aoJ:css.length=rs.length * 8:=hown.1
   have hF:(flatK jh 8 d).toList=css:=by
    apply List.ext_getElem?;intro t;by_cases ht:t < rs.length * 8
    · have h8:t / 8 * 8+t % 8=t:=by omega
      have hk:t / 8 < d.size:=by omega
      have:=flat_get d (t / 8) (t % 8) hk (by omega);rw[h8] at this;rw[this];have q:=(hds (t / 8) _ (hdk _ hk)).2;have hj:t % 8 < (jh d[t / 8]!).length:=by rw[yD];omega
      rw[List.getElem?_eq_getElem hj]
      have:=q.cells (t % 8) (jh d[t / 8]!)[t % 8] (by
       have:(jh d[t / 8]!)[t % 8]?=some (jh d[t / 8]!)[t % 8]:=List.getElem?_eq_getElem hj;unfold jh at this;rwa [Array.getElem?_toList] at this)
      rw[h8] at this;exact this.symm
    · rw[List.getElem?_eq_none (by simp;omega),List.getElem?_eq_none (by omega)]
   have hH:HoldsK jh 8 w g 0 d:=by
    intro j hj;rw[size_flatK] at hj;have hs:j < (flatK jh 8 d).size:=by rw[size_flatK];exact hj
    refine⟨?_,by simp[World.frozen?,hb]⟩;have hc:=hown.cellAt j (by omega);rw[Nat.zero_add,hc,←hF,Array.getElem?_toList,Array.getElem?_eq_getElem hs,getElem!_pos (flatK jh 8 d) j hs];rfl
   have ajW:g < w.heap.size:=(Array.getElem?_eq_some_iff.1 hb).1;have C:=yE (P:=Tryz.prog) TN jh La ajV 32 #[] g 0 cap d w (enters_of Tryz.func32 (by kernel_rfl) rfl) (WZ g 0 d.size w) ⟨yD,TP,hH,ajW⟩ (by omega);rw[aeU] at C;refine C.mono ?_;rintro e w' ⟨rfl,d',hsz',hperm,hsort,nn,os,rfl⟩;have hgr:w.grownBy (sortWorldK jh 8 w g 0 nn d' os) (some g):=by unfold sortWorldK putRowK;exact Ar _
   have hds':d'.size=rs.length:=by omega
   have hpl:d'.toList.Perm d.toList:=by
    have:=hperm.2.2;rw[←aeU] at this;have e1:d'.extract 0 d.size=d':=by rw[←hperm.1];simp
    have e2:d.extract 0 d.size=d:=by simp
    rwa [e1,e2] at this
   refine⟨rfl,d'.toList.map (·.r),(flatK jh 8 d').toList,?_,?_,⟨by simp[hds'],.inr ⟨g,cap,putCells id 0 (flatK jh 8 d') cur,rfl,hbase,?_,h1,h2,?_,?_⟩⟩,⟨by simp,?_⟩,hgr⟩
   · have:=hpl.map (·.r);rw[hd] at this;simp only at this;rwa [hmap] at this
   · intro i j x y hij hx hy;rw[List.getElem?_map] at hx hy;obtain⟨a,ha,rfl⟩:=Option.map_eq_some_iff.1 hx;obtain⟨b,hb',rfl⟩:=Option.map_eq_some_iff.1 hy;rw[Array.getElem?_toList] at ha hb';obtain⟨hi,rfl⟩:=Array.getElem?_eq_some_iff.1 ha;obtain⟨hj,rfl⟩:=Array.getElem?_eq_some_iff.1 hb';have:=hsort i j (Nat.zero_le _) hij (by omega);rw[ltR,getElem!_pos d' i hi,getElem!_pos d' j hj] at this;simp at this;exact this
   · exact Lc hb
   · simp[putCells,h3]
   · have:rs.length * 8=(flatK jh 8 d').size:=by rw[size_flatK,hds']
     rw[this];exact Pq cur _ (by rw[size_flatK,hds',h3];omega)
   · intro k r hr;rw[List.getElem?_map] at hr;obtain⟨a,ha,rfl⟩:=Option.map_eq_some_iff.1 hr
     have hmem:a∈ds:=by
      have:=hpl.mem_iff.1 (List.mem_of_getElem? ha);rw[hd] at this;simpa using this
     obtain⟨i,hi,hia⟩:=List.mem_iff_getElem.1 hmem;have q:=(hds i a (by rw[←hia];exact List.getElem?_eq_getElem hi)).2;rw[Array.getElem?_toList] at ha;obtain⟨hk,hka⟩:=Array.getElem?_eq_some_iff.1 ha;have q':=q.grow hgr (.inl rfl);refine⟨a.Ad,a.nd,a.cd,a.Af,a.nf,a.cf,fun j u hu=>?_,q'.ld,q'.lf,q'.od,q'.of_,q'.lod,q'.lof⟩;have hj8:j < 8:=by have:=(Array.getElem?_eq_some_iff.1 hu).1;simpa [recV] using this
     rw[flat_get d' k j hk hj8,getElem!_pos d' k hk,hka];unfold jh;rw[Array.getElem?_toList];exact hu
