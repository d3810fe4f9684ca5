/- Words. -/
import Derived.RowKit
namespace Iv
abbrev Bytes:=List UInt8
theorem kM (b:UInt8):b.toNat<256:=UInt8.toNat_lt b
theorem aO {n:Nat}(h:n<256):(UInt8.ofNat n).toNat=n:=by simp[Nat.mod_eq_of_lt h]
theorem Tc {a b:UInt8}(h:a.toNat=b.toNat):a=b:=UInt8.toNat_inj.1 h
theorem Dk (b:UInt8):UInt8.ofNat b.toNat=b:=by simp
def GM (n:Int):Nat:=if n<0 then (-2*n-1).toNat else (2*n).toNat
def Pg (u:Nat):Int:=if u%2=1 then -(u/2:Nat)-1 else (u/2:Nat)
theorem aaP (n:Int):Pg (GM n)=n:=by unfold Pg GM;split<;>split<;>omega
theorem aaQ (u:Nat):GM (Pg u)=u:=by unfold Pg GM;split<;>split<;>omega
theorem Dl {n:Int}(h1: -9223372036854775808<=n)(h2:n<=9223372036854775807):GM n<18446744073709551616:=by unfold GM;split<;>omega
theorem adM {u:Nat}(h:u<18446744073709551616): -9223372036854775808<=Pg u:=by unfold Pg;split<;>omega
theorem adN {u:Nat}(h:u<18446744073709551616):Pg u<=9223372036854775807:=by unfold Pg;split<;>omega
def jD (u:Nat):Bytes:=if u<128 then [UInt8.ofNat u] else UInt8.ofNat (u%128+128)::jD (u/128)
termination_by u
decreasing_by omega
theorem qO {u:Nat}(h:u<128):jD u=[UInt8.ofNat u]:=by rw[jD,if_pos h]
theorem qP {u:Nat}(h:128<=u):jD u=UInt8.ofNat (u%128+128)::jD (u/128):=by rw[jD,if_neg (by omega)]
theorem qi (u:Nat):1<=(jD u).length:=by rw[jD];split<;>simp
theorem Xp (k:Nat):∀u,(jD u).length<=k+1 ↔ u<128^(k+1):=by
 induction k with
 |
  zero=>
  intro u;by_cases h:u<128;simp[qO h,h];have:=qi (u/128);rw[qP (by omega)];simp;constructor;intro h0;rw[h0] at this;simp at this;intro;omega
 |
  succ k ih=>
  intro u;by_cases h:u<128;have h1:(jD u).length=1:=(by simp[qO h]);have h2:(128:Nat)^1<=128^(k+1+1):=Nat.pow_le_pow_right (by omega) (by omega);constructor;intro;omega;intro;omega;rw[qP (by omega)];have:=ih (u/128);have e:(128:Nat)^(k+1+1)=128^(k+1)* 128:=Nat.pow_succ ..;rw[List.length_cons,e,<-Nat.div_lt_iff_lt_mul (by omega:0<128)];omega
theorem PX {u:Nat}(h:u<18446744073709551616):(jD u).length<=10:=by refine (Xp 9 u).2 ?_;have:(128:Nat)^(9+1)=1180591620717411303424:=(by decide);omega
def vM:Bytes->Nat->Nat->Int×Nat×Int
 | [],_,_=>(0,0,9)
 |
  x::t,i,acc=>
  if i=9/\1<x.toNat then (0,0,11)
  else if 128<=x.toNat then vM t (i+1) (acc+x.toNat%128*128^i)
  else if x.toNat=0/\0<i then (0,0,11)
  else (Pg (acc+x.toNat*128^i),i+1,0)
theorem UB (u:Nat):∀(i acc:Nat) (more:Bytes),(u=0->i=0)->acc+u*128^i<18446744073709551616->
 vM (jD u++more) i acc=(Pg (acc+u*128^i),i+(jD u).length,0):=by
 induction u using Nat.strongRecOn with
 |
  _ u ih=>
  intro i acc more h0 d;have hi:9<=i->u<=1/\(u=1->i=9):=(by intro hi;by_cases y:u=0;exact⟨by omega,by omega⟩;by_cases a:i=9;subst a;have:(128:Nat)^9=9223372036854775808:=(by decide);rw[this] at d;exact⟨by omega,λ_=>rfl⟩;have A:(128:Nat)^10<=128^i:=Nat.pow_le_pow_right (by omega) (by omega);have B:(128:Nat)^10=1180591620717411303424:=(by decide);have:1*128^i<=u*128^i:=Nat.mul_le_mul_right _ (by omega);omega);by_cases h:u<128;rw[qO h];simp only[List.cons_append,List.nil_append,vM,List.length_cons,List.length_nil];rw[aO (by omega)];rw[if_neg (by intro ⟨a,h1⟩;have:=hi (by omega);omega),if_neg (by omega),if_neg (by omega)]
  . rw[qP (by omega)];have D:i<9:=by
     rcases Nat.lt_or_ge i 9 with a|a;exact a;have:=hi a;omega
    simp only[List.cons_append,vM,List.length_cons];rw[aO (by omega)];rw[if_neg (by omega),if_pos (by omega)];have e:(u%128+128)%128=u%128:=(by omega);have hdiv:u%128*128^i+u/128*128^(i+1)=u*128^i:=(by rw[Nat.pow_succ,Nat.mul_comm (128^i) 128,<-Nat.mul_assoc,<-Nat.add_mul];congr 1;omega);rw[e,ih (u/128) (by omega) (i+1) (acc+u%128*128^i) more (by omega) (by omega)];have:acc+u%128*128^i+u/128*128^(i+1)=acc+u*128^i:=(by omega);rw[this,show i+1+(jD (u/128)).length=i+((jD (u/128)).length+1) from by omega]
theorem Xq (u:Nat):∀(i acc k:Nat),u*128^i<18446744073709551616->k<(jD u).length->vM ((jD u).take k) i acc=(0,0,9):=by
 induction u using Nat.strongRecOn with
 |
  _ u ih=>
  intro i acc k A hk;by_cases h:u<128;rw[qO h] at hk;simp at hk;subst hk;rfl
  . have a:i<9:=by
     rcases Nat.lt_or_ge i 9 with h9|h9;exact h9;have d:(128:Nat)^9<=128^i:=Nat.pow_le_pow_right (by omega) (by omega);have y:(128:Nat)^9=9223372036854775808:=(by decide);have:128*128^i<=u*128^i:=Nat.mul_le_mul_right _ (by omega);omega
    rw[qP (by omega)] at hk|-
    cases k with
    |zero=>rfl
    |
     succ k=>
     simp only[List.take_succ_cons,vM];rw[aO (by omega),if_neg (by omega),if_pos (by omega)];refine ih (u/128) (by omega) (i+1) _ k ?_ (by simpa using hk);have hdiv:u%128*128^i+u/128*128^(i+1)=u*128^i:=(by rw[Nat.pow_succ,Nat.mul_comm (128^i) 128,<-Nat.mul_assoc,<-Nat.add_mul];congr 1;omega);omega
theorem UC (l:Bytes):∀(i acc k:Nat) (n:Int),acc<128^i->i<=9->vM l i acc=(n,k,0)->
 ∃u,n=Pg (acc+u*128^i)/\(u=0->i=0)/\k=i+(jD u).length/\l.take (k-i)=jD u/\k-i<=l.length/\acc+u*128^i<18446744073709551616:=by
 induction l with
 |nil=>intro i acc k n _ _ h;simp[vM] at h
 |
  cons x t ih=>
  intro i acc k n y hi h;have hx:=kM x;simp only[vM] at h;by_cases c1:i=9/\1<x.toNat;rw[if_pos c1] at h;simp at h
  . rw[if_neg c1] at h;by_cases c2:128<=x.toNat
    . rw[if_pos c2] at h;have D:i<9:=(by omega);have d:acc+x.toNat%128*128^i<128^(i+1):=by
       have h1:x.toNat%128*128^i<=127*128^i:=Nat.mul_le_mul_right _ (by omega);rw[Nat.pow_succ];omega
      obtain⟨u,hn,B,hk,E,I,hb⟩:=ih (i+1) _ k n d (by omega) h;have J:u≠0:=(λe=>by have:=B e;omega);have e1:(x.toNat%128+u*128)%128=x.toNat%128:=(by omega);have G:(x.toNat%128+u*128)/128=u:=(by omega);have a:acc+(x.toNat%128+u*128)* 128^i=acc+x.toNat%128*128^i+u*128^(i+1):=(by rw[Nat.add_mul,Nat.pow_succ,Nat.mul_assoc,Nat.mul_comm 128 (128^i)];omega);have A:jD (x.toNat%128+u*128)=x::jD u:=(by rw[qP (by omega),e1,G];congr 1;refine Tc ?_;rw[aO (by omega)];omega);refine⟨x.toNat%128+u*128,by rw[a];exact hn,by omega,?_,?_,?_,by rw[a];exact hb⟩;rw[A,hk,List.length_cons];omega;rw[A,show k-i=(k-(i+1))+1 from by have:=qi u;omega,List.take_succ_cons,E];rw[List.length_cons];omega
    rw[if_neg c2] at h;by_cases c3:x.toNat=0/\0<i;rw[if_pos c3] at h;simp at h;rw[if_neg c3] at h;simp only[Prod.mk.injEq] at h;obtain⟨hn,hk,_⟩:=h;have A:jD x.toNat=[x]:=(by rw[qO (by omega),Dk]);refine⟨x.toNat,hn.symm,by omega,by rw[A];simp;omega,?_,by simp;omega,?_⟩;rw[A,show k-i=1 from by omega];simp;by_cases H:i=9;subst H;have:(128:Nat)^9=9223372036854775808:=(by decide);rw[this] at y|-;have:x.toNat<=1:=(by omega);omega;have h1:x.toNat*128^i<=127*128^i:=Nat.mul_le_mul_right _ (by omega);have h2:(128:Nat)^(i+1)<=128^9:=Nat.pow_le_pow_right (by omega) (by omega);have:(128:Nat)^9=9223372036854775808:=(by decide);rw[Nat.pow_succ] at h2;omega
def aF (n:Int):Bytes:=jD (GM n)
def qj (l:Bytes):Int×Nat×Int:=vM l 0 0
def inI64 (n:Int):Prop:= -9223372036854775808<=n/\n<=9223372036854775807
theorem Xr (n:Int):1<=(aF n).length:=qi _
theorem aK {n:Int}(h:inI64 n):(aF n).length<=10:=PX (Dl h.1 h.2)
theorem UD {n:Int}(h:inI64 n)(more:Bytes):qj (aF n++more)=(n,(aF n).length,0):=by unfold qj aF;rw[UB _ 0 0 more (λ_=>rfl) (by have:=Dl h.1 h.2;omega)];simp[aaP]
theorem Xt {n:Int}(h:inI64 n){k:Nat}(hk:k<(aF n).length):qj ((aF n).take k)=(0,0,9):=
 Xq _ 0 0 k (by have:=Dl h.1 h.2;omega) hk
theorem uB {l:Bytes}{n:Int}{k:Nat}(h:qj l=(n,k,0)):inI64 n/\k=(aF n).length/\1<=k/\k<=l.length/\l.take k=aF n:=by obtain⟨u,hn,_,hk,d,A,hb⟩:=UC l 0 0 k n (by simp) (by omega) h;have a:n=Pg u:=(by simpa using hn);have y:GM n=u:=(by rw[a,aaQ]);unfold aF;rw[y];have:=qi u;exact⟨by rw[a];exact⟨adM (by omega),adN (by omega)⟩,by omega,by omega,by omega,by simpa using d⟩
theorem Xu (l:Bytes):∀(i acc:Nat),(vM l i acc).2.2=0\/∃e:Int,(e=9\/e=11)/\vM l i acc=(0,0,e):=by
 induction l with
 |nil=>intro i acc;exact .inr ⟨9,.inl rfl,rfl⟩
 |
  cons x t ih=>
  intro i acc;simp only[vM];split;exact .inr ⟨11,.inr rfl,rfl⟩;split;exact ih _ _;split;exact .inr ⟨11,.inr rfl,rfl⟩;exact .inl rfl
theorem Xv (l:Bytes):(qj l).2.2=0\/∃e:Int,(e=9\/e=11)/\qj l=(0,0,e):=Xu l 0 0
def jq (c:Nat):Nat:=if c%2=1 then (c/2) ^^^ 3988292384 else c/2
def iK:Nat->Nat->Nat
 |0,c=>c
 |n+1,c=>iK n (jq c)
def Td (c:Nat)(x:UInt8):Nat:=iK 8 (c ^^^ x.toNat)
def fP (c:Nat)(l:Bytes):Nat:=l.foldl Td c
def Dn (l:Bytes):Nat:=4294967295 ^^^ fP 4294967295 l
theorem sK {a b:Nat}(ha:a<4294967296)(hb:b<4294967296):a ^^^ b<4294967296:=
 Nat.xor_lt_two_pow (n:=32) ha hb
theorem PY {c:Nat}(h:c<4294967296):jq c<4294967296:=by unfold jq;split;exact sK (by omega) (by omega);omega
theorem sN (n:Nat):∀ {c:Nat},c<4294967296->iK n c<4294967296:=by
 induction n with
 |zero=>intro c h;exact h
 |succ n ih=>intro c h;exact ih (PY h)
theorem PZ {c:Nat}(h:c<4294967296)(x:UInt8):Td c x<4294967296:=
 sN 8 (sK h (by have:=kM x;omega))
theorem nJ (l:Bytes):∀ {c:Nat},c<4294967296->fP c l<4294967296:=by
 induction l with
 |nil=>intro c h;exact h
 |cons x t ih=>intro c h;exact ih (PZ h x)
theorem Xw (l:Bytes):Dn l<4294967296:=sK (by omega) (nJ l (by omega))
theorem uY (n:Nat):∀c,iK (n+1) c=jq (iK n c):=by
 induction n with
 |zero=>intro c;rfl
 |succ n ih=>intro c;rw[iK,ih (jq c)];rfl
theorem sO (c:Nat)(l m:Bytes):fP c (l++m)=fP (fP c l) m:=by simp[fP]
def pG (b:Bytes)(i d:Nat):Nat->Nat
 |0=>0
 |m+1=>if i+pG b i d m<b.length/\b[i+pG b i d m]?=b[i+pG b i d m-d]?/\pG b i d m=m then m+1 else pG b i d m
theorem Tf (b:Bytes)(i d m:Nat):pG b i d m<=m:=by
 induction m with
 |zero=>simp [pG]
 |succ m ih=>simp only[pG];split<;>omega
def Stops (b:Bytes)(i d m n:Nat):Prop:=
 n<=m/\(∀k,k<n->i+k<b.length/\b[i+k]?=b[i+k-d]?)/\(n=m\/¬(i+n<b.length/\b[i+n]?=b[i+n-d]?))
theorem vN (b:Bytes)(i d m:Nat):Stops b i d m (pG b i d m):=by
 induction m with
 |zero=>exact ⟨Nat.le_refl _,λk hk=>by simp[pG] at hk,.inl rfl⟩
 |
  succ m ih=>
  obtain⟨h1,h2,h3⟩:=ih;simp only[pG];split;rename_i hc;refine⟨Nat.le_refl _,λk hk=>?_,.inl rfl⟩;by_cases a:k<pG b i d m;exact h2 k a;have u:k=pG b i d m:=(by omega);rw[u];exact⟨hc.1,hc.2.1⟩;rename_i hc;refine⟨by omega,h2,.inr λy=>?_⟩;rcases h3 with h3|h3;exact hc ⟨y.1,y.2,h3⟩;exact h3 y
theorem Stops.unique {b:Bytes}{i d m n a:Nat}(h:Stops b i d m n)(u:Stops b i d m a):n=a:=by rcases Nat.lt_trichotomy n a with hlt|he|hlt;rcases h.2.2 with e|e;have:=u.1;omega;exact absurd (u.2.1 n hlt) e;exact he;rcases u.2.2 with e|e;have:=h.1;omega;exact absurd (h.2.1 a hlt) e
theorem Dp {b:Bytes}{i d m n:Nat}(h:Stops b i d m n):pG b i d m=n:=(vN b i d m).unique h
def kR (b:Bytes)(i:Nat):Nat->Nat×Nat
 |0=>(0,0)
 |k+1=>if (kR b i k).1<pG b i (k+1) 130 then (pG b i (k+1) 130,k+1) else kR b i k
def far (i:Nat):Nat:=min 255 i
def bP (b:Bytes)(i:Nat):Nat×Nat:=kR b i (far i)
theorem IK (b:Bytes)(i k:Nat):(kR b i k).1<=130:=by
 induction k with
 |zero=>simp [kR]
 |
  succ k ih=>
  simp only[kR];split;exact Tf _ _ _ _;exact ih
theorem GN (b:Bytes)(i k:Nat):(kR b i k).1=0\/(1<=(kR b i k).2/\(kR b i k).2<=k/\(kR b i k).1=pG b i (kR b i k).2 130):=by
 induction k with
 |zero=>exact .inl rfl
 |
  succ k ih=>
  simp only[kR];split;exact .inr ⟨by simp,by simp,rfl⟩;rcases ih with h|h;exact .inl h;exact .inr ⟨h.1,by omega,h.2.2⟩
theorem MC (b:Bytes)(i d:Nat)(h:i<=b.length):i+pG b i d 130<=b.length:=by obtain⟨_,h2,_⟩:=vN b i d 130;rcases Nat.eq_zero_or_pos (pG b i d 130) with h0|h0;omega;have:=(h2 (pG b i d 130-1) (by omega)).1;omega
theorem MF (b:Bytes)(i k:Nat)(h:i<=b.length):i+(kR b i k).1<=b.length:=by rcases GN b i k with h0|h0;omega;rw[h0.2.2];exact MC b i _ h
theorem P5 (b:Bytes)(i k j:Nat)(hk:k<=j)(hi:i<=b.length)(h:min 130 (b.length-i)<=(kR b i k).1):kR b i j=kR b i k:=by
 induction j with
 |zero=>obtain rfl:k=0:=(by omega);rfl
 |
  succ j ih=>
  by_cases e:k=j+1;rw[e];have:=ih (by omega);simp only[kR];rw[if_neg (by rw[this];have h1:=Tf b i (j+1) 130;have h2:=MC b i (j+1) hi;omega)];exact this
def lit (b:Bytes)(f e:Nat):Bytes:=if f<e then UInt8.ofNat (e-f-1)::(b.take e).drop f else []
def pk (b:Bytes)(f i:Nat):Bytes:=
 if h:i<b.length then
  if 3<=(bP b i).1 then lit b f i++(UInt8.ofNat ((bP b i).1+125)::UInt8.ofNat (bP b i).2::pk b (i+(bP b i).1) (i+(bP b i).1))
  else if i+1-f=128 then lit b f (i+1)++pk b (i+1) (i+1)
  else pk b f (i+1)
 else lit b f b.length
termination_by b.length-i
decreasing_by all_goals omega
def pack (b:Bytes):Bytes:=pk b 0 0
theorem IL {b:Bytes}{f i:Nat}(h:b.length<=i):pk b f i=lit b f b.length:=by rw[pk,dif_neg (by omega)]
theorem BJ {b:Bytes}{f i:Nat}(h:i<b.length)(h3:3<=(bP b i).1):
 pk b f i=lit b f i++(UInt8.ofNat ((bP b i).1+125)::UInt8.ofNat (bP b i).2::pk b (i+(bP b i).1) (i+(bP b i).1)):=by rw[pk,dif_pos h,if_pos h3]
theorem BK {b:Bytes}{f i:Nat}(h:i<b.length)(h3:(bP b i).1<3)(hf:i+1-f=128):pk b f i=lit b f (i+1)++pk b (i+1) (i+1):=by rw[pk,dif_pos h,if_neg (by omega),if_pos hf]
theorem BL {b:Bytes}{f i:Nat}(h:i<b.length)(h3:(bP b i).1<3)(hf:i+1-f≠128):pk b f i=pk b f (i+1):=by rw[pk,dif_pos h,if_neg (by omega),if_neg hf]
def copyOut (out:Bytes)(d:Nat):Nat->Bytes
 |0=>out
 |n+1=>copyOut (out++[(out[out.length-d]?).getD 0]) d n
theorem zS (d n:Nat):∀out:Bytes,(copyOut out d n).length=out.length+n:=by
 induction n with
 |zero=>intro out;rfl
 |succ n ih=>intro out;rw[copyOut,ih];simp;omega
def unp (most:Int)(l:Bytes)(out:Bytes):Bytes×Int:=
 match h:l with
 | []=>(out,0)
 |
  x::t=>
  if x.toNat<128 then
   if t.length<x.toNat+1 then ([],9)
   else if most<(out.length:Int)+x.toNat+1 then ([],2)
   else unp most (t.drop (x.toNat+1)) (out++t.take (x.toNat+1))
  else match h2:t with
   | []=>([],9)
   |
    d::u=>
    if d.toNat=0\/out.length<d.toNat then ([],11)
    else if most<(out.length:Int)+x.toNat-125 then ([],2)
    else unp most u (copyOut out d.toNat (x.toNat-125))
termination_by l.length
decreasing_by
 . simp;omega
 . simp;omega
def unpack (l:Bytes)(most:Int):Bytes×Int:=unp most l []
section
variable {most : Int} {out : Bytes}
theorem IM:unp most [] out=(out,0):=by rw[unp]
theorem IP {x:UInt8}{t:Bytes}(h:x.toNat<128):unp most (x::t) out=
 if t.length<x.toNat+1 then ([],9) else if most<(out.length:Int)+x.toNat+1 then ([],2) else unp most (t.drop (x.toNat+1)) (out++t.take (x.toNat+1)):=by rw[unp.eq_def];dsimp only;rw[if_pos h]
theorem Ti {x:UInt8}(h:128<=x.toNat):unp most [x] out=([],9):=by rw[unp,if_neg (by omega)]
theorem Dq {x d:UInt8}{u:Bytes}(h:128<=x.toNat):unp most (x::d::u) out=
 if d.toNat=0\/out.length<d.toNat then ([],11) else if most<(out.length:Int)+x.toNat-125 then ([],2) else unp most u (copyOut out d.toNat (x.toNat-125)):=by rw[unp,if_neg (by omega)]
end
theorem yK (b:Bytes){f e:Nat}(h:f<=e):b.take f++(b.take e).drop f=b.take e:=by rw[List.drop_take];have:b.take e=b.take f++(b.drop f).take (e-f):=(by rw[<-List.take_add,Nat.add_sub_cancel' h]);rw[this]
theorem qQ {most:Int}{b pre rest:Bytes}{f e:Nat}(hf:f<=e)(he:e<=b.length)(d:e-f<=128)(hm:(pre.length:Int)+e<=most):
 unp most (lit b f e++rest) (pre++b.take f)=unp most rest (pre++b.take e):=by unfold lit;by_cases a:f<e;rw[if_pos a,List.cons_append];have hn:(UInt8.ofNat (e-f-1)).toNat=e-f-1:=aO (by omega);have u:((b.take e).drop f).length=e-f:=(by simp;omega);rw[IP (by omega),hn,if_neg (by rw[List.length_append,u];omega),if_neg (by rw[List.length_append,List.length_take];omega)];have e1:e-f-1+1=((b.take e).drop f).length:=(by rw[u];omega);rw[e1,List.drop_left,List.take_left,List.append_assoc,yK b hf];rw[if_neg a,show e=f from by omega];rfl
theorem IQ (b pre:Bytes)(i d:Nat)(A:1<=d)(u:d<=i)(n:Nat):i+n<=b.length->(∀k,k<n->b[i+k]?=b[i+k-d]?)->
 copyOut (pre++b.take i) d n=pre++b.take (i+n):=by
 induction n generalizing i with
 |zero=>intro _ _;rfl
 |
  succ n ih=>
  intro hi h;have y:(pre++b.take i).length=pre.length+i:=(by simp;omega);have hx:(pre++b.take i)[(pre++b.take i).length-d]?=b[i-d]?:=(by rw[y,List.getElem?_append_right (by omega),List.getElem?_take,if_pos (by omega)];congr 1;omega);have h0:=h 0 (by omega);simp only[Nat.add_zero] at h0;have a:b[i]?=some b[i]:=List.getElem?_eq_getElem (by omega);rw[copyOut,hx,<-h0,a];have:pre++b.take i++[(some b[i]).getD 0]=pre++b.take (i+1):=(by rw[List.append_assoc,Option.getD_some,List.take_succ_eq_append_getElem (by omega)]);rw[this,ih (i+1) (by omega) (by omega) (λk hk=>by have:=h (k+1) (by omega);rwa [show i+1+k=i+(k+1) from by omega])];congr 2;omega
theorem oL {b:Bytes}{i:Nat}(hi:i<b.length)(h3:3<=(bP b i).1):
 1<=(bP b i).2/\(bP b i).2<=i/\(bP b i).2<=255/\(bP b i).1<=130/\i+(bP b i).1<=b.length/\
  ∀k,k<(bP b i).1->b[i+k]?=b[i+k-(bP b i).2]?:=by unfold bP at h3|-;have a:=IK b i (far i);have he:=MF b i (far i) (by omega);rcases GN b i (far i) with h|⟨h1,h2,hm⟩;omega;have hf:far i<=i/\far i<=255:=(by unfold far;omega);have hs:=vN b i (kR b i (far i)).2 130;refine⟨h1,by omega,by omega,a,he,λk hk=>?_⟩;exact (hs.2.1 k (by omega)).2
theorem adO {most:Int}(b pre rest:Bytes)(hm:(pre.length:Int)+b.length<=most)(n:Nat):∀(f i:Nat),b.length-i=n->f<=i->i<=b.length->i-f<128->
 unp most (pk b f i++rest) (pre++b.take f)=unp most rest (pre++b):=by
 induction n using Nat.strongRecOn with
 |
  _ n ih=>
  intro f i hn hf hi u;rcases Nat.lt_or_ge i b.length with hlt|hge;by_cases h3:3<=(bP b i).1;obtain⟨h1,h2,y,A,a,hk⟩:=oL hlt h3;rw[BJ hlt h3,List.append_assoc,qQ hf (by omega) (by omega) (by omega)];have e1:(UInt8.ofNat ((bP b i).1+125)).toNat=(bP b i).1+125:=aO (by omega);have B:(UInt8.ofNat (bP b i).2).toNat=(bP b i).2:=aO (by omega);have hlen:(pre++b.take i).length=pre.length+i:=(by simp;omega);simp only[List.cons_append];rw[Dq (by omega),e1,B,hlen,if_neg (by omega),if_neg (by omega),Nat.add_sub_cancel,IQ b pre i _ h1 h2 _ a hk];exact ih _ (by omega) _ _ rfl (by omega) (by omega) (by omega);by_cases d:i+1-f=128;rw[BK hlt (by omega) d,List.append_assoc,qQ (by omega) (by omega) (by omega) (by omega)];exact ih _ (by omega) _ _ rfl (by omega) (by omega) (by omega);rw[BL hlt (by omega) d];exact ih _ (by omega) f (i+1) rfl (by omega) (by omega) (by omega);rw[IL hge,qQ (by omega) (by omega) (by omega) (by omega),List.take_length]
theorem MG (b:Bytes):unpack (pack b) b.length=(b,0):=by have:=adO (most:=b.length) b [] [] (by simp) _ 0 0 rfl (by omega) (by omega) (by omega);simp only[List.append_nil,List.nil_append,List.take_zero] at this;rw[unpack,pack,this,IM]
theorem xx (b:Bytes){f e:Nat}(_hf:f<=e)(he:e<=b.length):(lit b f e).length=if f<e then e-f+1 else 0:=by unfold lit;split;simp;omega;rfl
theorem P6 (b:Bytes)(n:Nat):∀(f i:Nat),b.length-i=n->f<=i->i<=b.length->i-f<128->(pk b f i).length<=(b.length-f)+(b.length-f+127)/128:=by
 induction n using Nat.strongRecOn with
 |
  _ n ih=>
  intro f i hn hf hi d;rcases Nat.lt_or_ge i b.length with hlt|hge;by_cases h3:3<=(bP b i).1;obtain⟨h1,h2,y,A,u,B⟩:=oL hlt h3;have:=ih _ (by omega) (i+(bP b i).1) (i+(bP b i).1) rfl (by omega) (by omega) (by omega);rw[BJ hlt h3,List.length_append,xx b hf (by omega),List.length_cons,List.length_cons];split<;>omega;by_cases a:i+1-f=128;have:=ih _ (by omega) (i+1) (i+1) rfl (by omega) (by omega) (by omega);rw[BK hlt (by omega) a,List.length_append,xx b (by omega) (by omega),if_pos (by omega)];omega;rw[BL hlt (by omega) a];exact ih _ (by omega) f (i+1) rfl (by omega) (by omega) (by omega);rw[IL hge,xx b (by omega) (by omega)];split<;>omega
theorem fC (b:Bytes):(pack b).length<=b.length+(b.length+127)/128:=by have:=P6 b _ 0 0 rfl (by omega) (by omega) (by omega);simpa [pack] using this
end Iv
namespace Iv
open Go.RowKit (wrap64)
theorem dR (n:Int):inI64 (wrap64 n):=by unfold inI64 wrap64;omega
theorem GR {n:Int}(h:inI64 n):wrap64 n=n:=by unfold inI64 at h;unfold wrap64;omega
theorem sQ (a b:Int):wrap64 (b+wrap64 (a-b))=wrap64 a:=by unfold wrap64;omega
theorem nK {b d:Int}(h:inI64 d):wrap64 (wrap64 (b+d)-b)=d:=by unfold inI64 at h;unfold wrap64;omega
structure Ev where
 thread:Int
 kind:Int
 obj:Int
 value:Int
 site:Int
 deps:List Int
 from_:List Int
structure Rec where
 seq:Int
 ev:Ev
def allI64 (l:List Int):Prop:=∀n∈l,inI64 n
def bD (last:Int):List Int->Bytes
 | []=> []
 |k::t=>aF (wrap64 (k-last))++bD k t
def kZ (l:List Int):Bytes:=aF l.length++bD 0 l
def bQ (r:Rec)(seq:Int):Bytes:=
 aF (wrap64 (r.seq-seq))++(aF r.ev.kind++(aF r.ev.obj++(aF r.ev.value++(aF r.ev.site++(kZ r.ev.deps++kZ r.ev.from_)))))
structure Rd where
 at_:Nat
 err:Int
def rdNum (b:Bytes)(s:Rd):Int×Rd:=
 if s.err=0 then
  if (qj (b.drop s.at_)).2.2=0 then ((qj (b.drop s.at_)).1,⟨s.at_+(qj (b.drop s.at_)).2.1,0⟩) else (0,⟨s.at_,(qj (b.drop s.at_)).2.2⟩)
 else (0,s)
def bW (b:Bytes):Nat->Int->Rd->List Int×Rd
 |0,_,s=>([],s)
 |
  n+1,last,s=>
  if s.err=0 then
   (wrap64 (last+(rdNum b s).1)::(bW b n (wrap64 (last+(rdNum b s).1)) (rdNum b s).2).1,(bW b n (wrap64 (last+(rdNum b s).1)) (rdNum b s).2).2)
  else ([],s)
def oM (p:Int×Rd):Rd:=if p.2.err=0/\(p.1<0\/400<p.1) then ⟨p.2.at_,11⟩ else p.2
def eu (b:Bytes)(s:Rd):List Int×Rd:=bW b (rdNum b s).1.toNat 0 (oM (rdNum b s))
structure RdAll where
 s0:Int×Rd
 s1:Int×Rd
 s2:Int×Rd
 s3:Int×Rd
 s4:Int×Rd
 l5:List Int×Rd
 l6:List Int×Rd
def qm (b:Bytes):RdAll:=
 let s0:=rdNum b ⟨0,0⟩
 let s1:=rdNum b s0.2
 let s2:=rdNum b s1.2
 let s3:=rdNum b s2.2
 let s4:=rdNum b s3.2
 let l5:=eu b s4.2
 let l6:=eu b l5.2
 ⟨s0,s1,s2,s3,s4,l5,l6⟩
def adP:Ev:=⟨0,0,0,0,0,[],[]⟩
def Tj:Rec:=⟨0,adP⟩
def ed (b:Bytes)(thread seq:Int):Rec×Nat×Int:=
 let a:=qm b
 if a.l6.2.err=0 then (⟨wrap64 (seq+a.s0.1),⟨thread,a.s1.1,a.s2.1,a.s3.1,a.s4.1,a.l5.1,a.l6.1⟩⟩,a.l6.2.at_,0) else (Tj,0,a.l6.2.err)
theorem qo {b:Bytes}{s:Rd}(h:s.err≠0):rdNum b s=(0,s):=by unfold rdNum;rw[if_neg h]
theorem fZ {b rest:Bytes}{s:Rd}{n:Int}(hn:inI64 n)(he:s.err=0)(hb:b.drop s.at_=aF n++rest):
 rdNum b s=(n,⟨s.at_+(aF n).length,0⟩):=by unfold rdNum;rw[if_pos he,hb,UD hn];rfl
theorem gm {b x rest:Bytes}{k:Nat}(h:b.drop k=x++rest):b.drop (k+x.length)=rest:=by rw[<-List.drop_drop,h,List.drop_left]
theorem zT {b:Bytes}{n:Nat}{last:Int}{s:Rd}(h:s.err≠0):bW b n last s=([],s):=by
 cases n with
 |zero=>rfl
 |succ n=>rw [bW,if_neg h]
theorem P7 {b:Bytes}{s:Rd}(h:s.err≠0):eu b s=([],s):=by unfold eu oM;rw[qo h];simp[bW]
theorem MH {b:Bytes}(l:List Int):∀(last:Int) (s:Rd) (rest:Bytes),allI64 l->s.err=0->b.drop s.at_=bD last l++rest->
 bW b l.length last s=(l,⟨s.at_+(bD last l).length,0⟩):=by
 induction l with
 |
  nil=>
  intro last s rest _ he _;have:s=⟨s.at_,0⟩:=(by cases s;simp_all);simp only[List.length_nil,bW,bD,Nat.add_zero];rw[<-this]
 |
  cons k t ih=>
  intro last s rest a he hb;simp only[bD,List.append_assoc] at hb;have h1:=fZ (s:=s) (dR (k-last)) he hb;have hk:inI64 k:=a k (by simp);simp only[List.length_cons,bW];rw[if_pos he,h1];dsimp only;rw[sQ,GR hk];rw[ih k ⟨s.at_+(aF (wrap64 (k-last))).length,0⟩ rest (λn hn=>a n (by simp[hn])) rfl (gm hb)];simp only[bD,List.length_append,Nat.add_assoc]
theorem Dt {b:Bytes}{l:List Int}{s:Rd}{rest:Bytes}(a:allI64 l)(hlen:l.length<=400)(he:s.err=0)(hb:b.drop s.at_=kZ l++rest):
 eu b s=(l,⟨s.at_+(kZ l).length,0⟩):=by unfold kZ at hb|-;rw[List.append_assoc] at hb;have h1:=fZ (s:=s) (n:=(l.length:Int)) ⟨by omega,by omega⟩ he hb;unfold eu oM;rw[h1];dsimp only;rw[if_neg (by omega),Int.toNat_natCast,MH l 0 ⟨s.at_+(aF l.length).length,0⟩ rest a rfl (gm hb)];simp only[List.length_append,Nat.add_assoc]
structure RecOk (r:Rec):Prop where
 seq:inI64 r.seq
 thread:inI64 r.ev.thread
 kind:inI64 r.ev.kind
 obj:inI64 r.ev.obj
 value:inI64 r.ev.value
 site:inI64 r.ev.site
 deps:allI64 r.ev.deps
 from_:allI64 r.ev.from_
 ld:r.ev.deps.length<=400
 lf:r.ev.from_.length<=400
theorem UE {r:Rec}(h:RecOk r)(seq:Int)(more:Bytes):
 (qm (bQ r seq++more)).s0.1=wrap64 (r.seq-seq)/\(qm (bQ r seq++more)).s1.1=r.ev.kind/\(qm (bQ r seq++more)).s2.1=r.ev.obj/\
 (qm (bQ r seq++more)).s3.1=r.ev.value/\(qm (bQ r seq++more)).s4.1=r.ev.site/\(qm (bQ r seq++more)).l5.1=r.ev.deps/\
 (qm (bQ r seq++more)).l6=(r.ev.from_,⟨(bQ r seq).length,0⟩):=by generalize hb:bQ r seq++more=b;have a:b.drop 0=_:=hb.symm;simp only[bQ,List.append_assoc] at a;have h0:=fZ (s:=⟨0,0⟩) (dR _) rfl a;have d:=gm a;have h1:=fZ (s:=⟨_,0⟩) h.kind rfl d;have u:=gm d;have h2:=fZ (s:=⟨_,0⟩) h.obj rfl u;have y:=gm u;have h3:=fZ (s:=⟨_,0⟩) h.value rfl y;have A:=gm y;have h4:=fZ (s:=⟨_,0⟩) h.site rfl A;have B:=gm A;have h5:=Dt (s:=⟨_,0⟩) h.deps h.ld rfl B;have D:=gm B;have E:=Dt (s:=⟨_,0⟩) h.from_ h.lf rfl D;unfold qm;simp only[h0,h1,h2,h3,h4,h5,E];refine⟨trivial,trivial,trivial,trivial,trivial,trivial,?_⟩;congr 2;simp only[bQ,List.length_append];omega
theorem P8 {r:Rec}(h:RecOk r)(seq:Int)(more:Bytes):ed (bQ r seq++more) r.ev.thread seq=(r,(bQ r seq).length,0):=by obtain⟨e0,e1,a,d,e4,u,y⟩:=UE h seq more;unfold ed;simp only[e0,e1,a,d,e4,u,y];simp only[if_true];rw[sQ,GR h.seq]
theorem ja {b:Bytes}{s:Rd}(h:(rdNum b s).2.err=0):s.err=0:=by by_cases h0:s.err=0;exact h0;rw[qo h0] at h;exact h
theorem vP {b:Bytes}{n:Nat}{last:Int}{s:Rd}(h:(bW b n last s).2.err=0):s.err=0:=by by_cases h0:s.err=0;exact h0;rw[zT h0] at h;exact h
theorem GV {b:Bytes}{s:Rd}(h:(eu b s).2.err=0):s.err=0:=by by_cases h0:s.err=0;exact h0;rw[P7 h0] at h;exact h
theorem Du {b:Bytes}{s:Rd}(h:(rdNum b s).2.err=0):inI64 (rdNum b s).1/\(rdNum b s).2=⟨s.at_+(aF (rdNum b s).1).length,0⟩/\
 (b.drop s.at_).take (aF (rdNum b s).1).length=aF (rdNum b s).1/\(aF (rdNum b s).1).length<=(b.drop s.at_).length:=by have h0:=ja h;unfold rdNum at h|-;rw[if_pos h0] at h|-;by_cases h1:(qj (b.drop s.at_)).2.2=0;rw[if_pos h1];have:=uB (l:=b.drop s.at_) (n:=(qj (b.drop s.at_)).1) (k:=(qj (b.drop s.at_)).2.1) (by rw[<-h1]);obtain⟨a1,a2,a3,a4,a5⟩:=this;dsimp only;rw[<-a2];exact⟨a1,rfl,a5,a4⟩;rw[if_neg h1] at h;exact absurd h h1
theorem yL {b x y:Bytes}{k:Nat}(h1:(b.drop k).take x.length=x)(_hx:x.length<=(b.drop k).length)(h2:(b.drop (k+x.length)).take y.length=y):
 (b.drop k).take (x.length+y.length)=x++y:=by rw[List.take_add,h1,List.drop_drop,h2]
def Piece (b:Bytes)(k:Nat)(x:Bytes):Prop:=(b.drop k).take x.length=x/\x.length<=(b.drop k).length
theorem Piece.nil (b:Bytes)(k:Nat):Piece b k []:=⟨rfl,by simp⟩
theorem Piece.cat {b x y:Bytes}{k:Nat}(h:Piece b k x)(a:Piece b (k+x.length) y):Piece b k (x++y):=by
 refine⟨?_,?_⟩;rw[List.length_append];exact yL h.1 h.2 a.1
 . have h1:=h.2;have h2:=a.2;simp only[List.length_drop,List.length_append] at *
   omega
theorem dW {b:Bytes}{s:Rd}(h:(rdNum b s).2.err=0):inI64 (rdNum b s).1/\(rdNum b s).2=⟨s.at_+(aF (rdNum b s).1).length,0⟩/\Piece b s.at_ (aF (rdNum b s).1):=
 let ⟨a,c,d,e⟩:=Du h
 ⟨a,c,d,e⟩
theorem IU {b:Bytes}(n:Nat):∀(last:Int) (s:Rd),(bW b n last s).2.err=0->
 allI64 (bW b n last s).1/\(bW b n last s).1.length=n/\(bW b n last s).2=⟨s.at_+(bD last (bW b n last s).1).length,0⟩/\Piece b s.at_ (bD last (bW b n last s).1):=by
 induction n with
 |
  zero=>
  intro last s h;refine⟨by intro k hk;simp[bW] at hk,rfl,?_,Piece.nil b _⟩
  cases s
  simp only[bW] at h|-;simp_all [bD]
 |
  succ n ih=>
  intro last s h;have h0:=vP h;simp only[bW] at h|-;rw[if_pos h0] at h|-;dsimp only at h|-;have h1:=vP h;obtain⟨u,y,A,a⟩:=ih _ _ h;obtain⟨n1,n2,n3⟩:=dW h1;have d:wrap64 (wrap64 (last+(rdNum b s).1)-last)=(rdNum b s).1:=nK n1;refine⟨?_,by rw[List.length_cons,y],?_,?_⟩;intro k hk;rcases List.mem_cons.1 hk with rfl|hk;exact dR _;exact u k hk;rw[A];simp only[bD,d,List.length_append];rw[n2];dsimp only;congr 1;omega;simp only[bD,d];refine n3.cat ?_;rw[n2] at a|-;exact a
theorem zU {b:Bytes}{s:Rd}(h:(eu b s).2.err=0):allI64 (eu b s).1/\(eu b s).1.length<=400/\
 (eu b s).2=⟨s.at_+(kZ (eu b s).1).length,0⟩/\Piece b s.at_ (kZ (eu b s).1):=by
 unfold eu at h|-;have h1:=vP h;have hc:¬((rdNum b s).2.err=0/\((rdNum b s).1<0\/400<(rdNum b s).1)):=(by intro hc;unfold oM at h1;rw[if_pos hc] at h1;simp at h1);have he:oM (rdNum b s)=(rdNum b s).2:=(by unfold oM;rw[if_neg hc]);rw[he] at h h1|-;obtain⟨n1,n2,n3⟩:=dW h1;obtain⟨u,y,A,a⟩:=IU _ _ _ h;have hn:((rdNum b s).1.toNat:Int)=(rdNum b s).1:=(by omega);generalize B:(bW b (rdNum b s).1.toNat 0 (rdNum b s).2)=l at *
 have d:kZ l.1=aF (rdNum b s).1++bD 0 l.1:=(by unfold kZ;rw[y,hn]);refine⟨u,by omega,?_,?_⟩;rw[A,d,n2,List.length_append];dsimp only;congr 1;omega;rw[d];refine n3.cat ?_;rw[n2] at a;exact a
theorem zJ {b:Bytes}{thread seq:Int}{r:Rec}{k:Nat}(X:inI64 thread)(h:ed b thread seq=(r,k,0)):
 RecOk r/\r.ev.thread=thread/\k=(bQ r seq).length/\1<=k/\k<=b.length/\b.take k=bQ r seq:=by
 unfold ed at h;dsimp only at h;by_cases he:(qm b).l6.2.err=0
 . rw[if_pos he] at h;simp only[Prod.mk.injEq] at h;obtain⟨hr,hk,_⟩:=h;unfold qm at he hr hk;dsimp only at he hr hk;obtain⟨Y,Z,f3,f4⟩:=zU he;have a:=GV he;obtain⟨d1,d2,B,I⟩:=zU a;have d:=GV a;obtain⟨g1,D,J⟩:=dW d;have u:=ja d;obtain⟨v1,E,v3⟩:=dW u;have y:=ja u;obtain⟨o1,o2,o3⟩:=dW y;have A:=ja y;obtain⟨k1,G,L⟩:=dW A;have H:=ja A;obtain⟨N,O,q3⟩:=dW H;generalize rdNum b ⟨0,0⟩=S0 at *
   generalize rdNum b S0.2=S1 at *
   generalize rdNum b S1.2=S2 at *
   generalize rdNum b S2.2=S3 at *
   generalize rdNum b S3.2=S4 at *
   generalize eu b S4.2=L5 at *
   generalize eu b L5.2=L6 at *
   have U:Piece b 0 (bQ r seq):=(by rw[<-hr];unfold bQ;dsimp only;rw[nK N];refine q3.cat ?_;rw[O] at L G;refine L.cat ?_;rw[G] at o3 o2;refine o3.cat ?_;rw[o2] at v3 E;refine v3.cat ?_;rw[E] at J D;refine J.cat ?_;rw[D] at I B;refine I.cat ?_;rw[B] at f4;exact f4);have hlen:k=(bQ r seq).length:=(by rw[<-hk,f3,B,D,E,o2,G,O,<-hr];unfold bQ;dsimp only;rw[nK N];simp only[List.length_append];omega);have V:1<=(bQ r seq).length:=(by unfold bQ;rw[List.length_append];have:=Xr (wrap64 (r.seq-seq));omega);refine⟨?_,by rw[<-hr],hlen,by omega,?_,?_⟩;rw[<-hr];exact⟨dR _,X,k1,o1,v1,g1,d1,Y,d2,Z⟩;have:=U.2;simp at this;omega;rw[hlen];have:=U.1;simpa using this
 rw[if_neg he] at h;simp only[Prod.mk.injEq] at h;exact absurd h.2.2 he
def Cut (b:Bytes)(s:Rd)(rest:Bytes):Prop:=s.err=9\/(s.err=0/\∃j,j<rest.length/\b.drop s.at_=rest.take j)
theorem uC {b rest:Bytes}{s:Rd}{n:Int}(hn:inI64 n)(h:Cut b s (aF n++rest)):Cut b (rdNum b s).2 rest/\((rdNum b s).2.err=0->(rdNum b s).1=n):=by rcases h with h|⟨he,j,hj,hb⟩;rw[qo (by rw[h];decide)];exact⟨.inl h,λh0=>by rw[h] at h0;exact absurd h0 (by decide)⟩;rcases Nat.lt_or_ge j (aF n).length with hlt|hge;have h2:b.drop s.at_=(aF n).take j:=(by rw[hb,List.take_append_of_le_length (by omega)]);have a:=Xt hn hlt;unfold rdNum;rw[if_pos he,h2,a,if_neg (by decide)];exact⟨.inl rfl,λh0=>absurd (show (9:Int)=0 from h0) (by decide)⟩;have h2:b.drop s.at_=aF n++rest.take (j-(aF n).length):=(by rw[hb,List.take_append,List.take_of_length_le hge]);rw[fZ hn he h2];rw[List.length_append] at hj;exact⟨.inr ⟨rfl,_,by omega,gm h2⟩,λ_=>rfl⟩
theorem uZ (l:List Int):∀last,(bD last l).length<=10*l.length:=by
 induction l with
 |nil=>intro last;simp[bD]
 |
  cons k t ih=>
  intro last;have:=ih k;have:=aK (dR (k-last));simp only[bD,List.length_append,List.length_cons];omega
theorem sH (l:List Int)(h:l.length<=400):(kZ l).length<=4010:=by unfold kZ;have:=uZ l 0;have:=aK (n:=(l.length:Int)) ⟨by omega,by omega⟩;simp only[List.length_append];omega
theorem Dv {r:Rec}(h:RecOk r)(seq:Int):(bQ r seq).length<=8070:=by unfold bQ;have:=aK (dR (r.seq-seq));have:=aK h.kind;have:=aK h.obj;have:=aK h.value;have:=aK h.site;have:=sH _ h.ld;have:=sH _ h.lf;simp only[List.length_append];omega
structure Blk where
 thread:Int
 first:Int
 recs:List Rec
def aW:Blk:=⟨0,0,[]⟩
def okRecs (thread:Int):Int->List Rec->Bool
 |_,[]=>true
 |seq,r::t=>decide (r.ev.thread=thread) && decide (seq<r.seq) && decide (r.ev.deps.length<=400) && decide (r.ev.from_.length<=400) && okRecs thread r.seq t
def nI (x:Blk):Bool:=decide (0<x.recs.length) && decide (0<=x.thread) && decide (x.thread<4) && decide (0<=x.first) && decide (x.first<=400) && okRecs x.thread (-1) x.recs
def fits (x:Blk):Int:=if 64<x.recs.length then 2 else if nI x then 0 else 1
def aX:Int->List Rec->Bytes
 |_,[]=> []
 |seq,r::t=>bQ r seq++aX r.seq t
def xA (c:Nat):Bytes:=[UInt8.ofNat (c/16777216),UInt8.ofNat (c/65536),UInt8.ofNat (c/256),UInt8.ofNat c]
def iD (thread first n size packed:Int):Bytes:=84::UInt8.ofNat (thread%256).toNat::(aF first++(aF n++(aF size++aF packed)))
def bg (x:Blk):Bytes:=
 iD x.thread x.first x.recs.length (aX (-1) x.recs).length (pack (aX (-1) x.recs)).length++pack (aX (-1) x.recs)
def ak (x:Blk):Bytes:=bg x++xA (Dn (bg x))
def encode (x:Blk):Bytes×Int:=if fits x=0 then (ak x,0) else ([],fits x)
def dZ (thread:Int):Nat->Int->Bytes->Option (List Rec×Bytes)
 |0,_,b=>some ([],b)
 |
  n+1,seq,b=>
  if (ed b thread seq).2.2=0 then
   match dZ thread n (ed b thread seq).1.seq (b.drop (ed b thread seq).2.1) with
   |some (l,t)=>some ((ed b thread seq).1::l,t)
   |none=>none
  else none
structure Head where
 first:Int×Rd
 n:Int×Rd
 size:Int×Rd
 packed:Int×Rd
def aH (b:Bytes):Head:=
 let a0:=rdNum b ⟨2,0⟩
 let a1:=rdNum b a0.2
 let a2:=rdNum b a1.2
 let a3:=rdNum b a2.2
 ⟨a0,a1,a2,a3⟩
def jS (t:UInt8)(h:Head):Bool:=
 decide (4<=t.toNat) || decide (h.first.1<0) || decide (400<h.first.1) || decide (h.n.1<1) || decide (64<h.n.1) || decide (h.size.1<0) || decide (1048576<h.size.1) || decide (h.packed.1<0) || decide (1048576<h.packed.1)
def rE (b:Bytes)(t:UInt8)(first:Int)(n:Nat)(size:Int)(from_ end_:Nat):Blk×Nat×Int:=
 let p:=unpack ((b.take end_).drop from_) size
 if p.2=0/\(p.1.length:Int)=size then
  match dZ t.toNat n (-1) p.1 with
  |some (l,[])=>if encode ⟨t.toNat,first,l⟩=(b.take (end_+4),0) then (⟨t.toNat,first,l⟩,end_+4,0) else (aW,0,11)
  |_=>(aW,0,11)
 else (aW,0,11)
def jb (tail:Bytes->UInt8->Int->Nat->Int->Nat->Nat->Blk×Nat×Int)(b:Bytes):Blk×Nat×Int:=
 match b with
 | []=>(aW,0,9)
 |
  x::u=>
  if x.toNat≠84 then (aW,0,11)
  else match u with
   | []=>(aW,0,9)
   |
    t::_=>
    if (aH b).packed.2.err≠0 then (aW,0,(aH b).packed.2.err)
    else if jS t (aH b) then (aW,0,11)
    else if b.length<(aH b).packed.2.at_+(aH b).packed.1.toNat+4 then (aW,0,9)
    else if (b.drop ((aH b).packed.2.at_+(aH b).packed.1.toNat)).take 4≠xA (Dn (b.take ((aH b).packed.2.at_+(aH b).packed.1.toNat))) then (aW,0,10)
    else tail b t (aH b).first.1 (aH b).n.1.toNat (aH b).size.1 (aH b).packed.2.at_ ((aH b).packed.2.at_+(aH b).packed.1.toNat)
def decode (b:Bytes):Blk×Nat×Int:=jb rE b
theorem IV (thread:Int)(a:inI64 thread)(n:Nat):∀(seq:Int) (b:Bytes) (l:List Rec) (t:Bytes),dZ thread n seq b=some (l,t)->
 l.length=n/\b=aX seq l++t/\(∀r∈l,RecOk r/\r.ev.thread=thread):=by
 induction n with
 |
  zero=>
  intro seq b l t h;simp only[dZ,Option.some.injEq,Prod.mk.injEq] at h;obtain⟨rfl,rfl⟩:=h;exact⟨rfl,rfl,λr hr=>by simp at hr⟩
 |
  succ n ih=>
  intro seq b l t h;simp only[dZ] at h;by_cases he:(ed b thread seq).2.2=0
  . rw[if_pos he] at h
    cases hg:dZ thread n (ed b thread seq).1.seq (b.drop (ed b thread seq).2.1) with
    |none=>rw [hg] at h;simp at h
    |
     some p=>
     obtain⟨l',D⟩:=p;rw[hg] at h;simp only[Option.some.injEq,Prod.mk.injEq] at h;obtain⟨rfl,rfl⟩:=h;obtain⟨d,u,y⟩:=ih _ _ _ _ hg;have:=zJ (b:=b) (thread:=thread) (seq:=seq) (r:=(ed b thread seq).1) (k:=(ed b thread seq).2.1) a (by rw[<-he]);obtain⟨r1,A,E,_,G,B⟩:=this;refine⟨by simp[d],?_,?_⟩;simp only[aX,List.append_assoc];rw[<-u,<-B,List.take_append_drop];intro r hr;rcases List.mem_cons.1 hr with rfl|hr;exact⟨r1,A⟩;exact y r hr
  rw[if_neg he] at h;simp at h
theorem MI (thread:Int)(l:List Rec):∀(seq:Int) (rest:Bytes),(∀r∈l,RecOk r/\r.ev.thread=thread)->dZ thread l.length seq (aX seq l++rest)=some (l,rest):=by
 induction l with
 |nil=>intro seq rest _;rfl
 |
  cons r t ih=>
  intro seq rest h;have hr:=h r (by simp);have hg:ed (bQ r seq++(aX r.seq t++rest)) thread seq=(r,(bQ r seq).length,0):=(by rw[<-hr.2];exact P8 hr.1 seq _);simp only[List.length_cons,dZ,aX,List.append_assoc];rw[hg];simp only[if_true];rw[List.drop_left,ih r.seq rest λq a=>h q (by simp[a])]
theorem MJ {b rest:Bytes}{t0 A:UInt8}{first n size packed:Int}(h1:inI64 first)(h2:inI64 n)(h3:inI64 size)(h4:inI64 packed)
 (hb:b=t0::A::(aF first++(aF n++(aF size++aF packed)))++rest):
 (aH b).first.1=first/\(aH b).n.1=n/\(aH b).size.1=size/\
  (aH b).packed=(packed,⟨2+((aF first).length+((aF n).length+((aF size).length+(aF packed).length))),0⟩):=by have a:b.drop 2=aF first++(aF n++(aF size++(aF packed++rest))):=(by rw[hb];simp);have a0:=fZ (s:=⟨2,0⟩) h1 rfl a;have d:=gm a;have a1:=fZ (s:=⟨_,0⟩) h2 rfl d;have u:=gm d;have a2:=fZ (s:=⟨_,0⟩) h3 rfl u;have y:=gm u;have a3:=fZ (s:=⟨_,0⟩) h4 rfl y;unfold aH;simp only[a0,a1,a2,a3];refine⟨trivial,trivial,trivial,?_⟩;congr 2;omega
theorem IW {b:Bytes}(h:(aH b).packed.2.err=0):
 inI64 (aH b).first.1/\inI64 (aH b).n.1/\inI64 (aH b).size.1/\inI64 (aH b).packed.1/\
 Piece b 2 (aF (aH b).first.1++(aF (aH b).n.1++(aF (aH b).size.1++aF (aH b).packed.1)))/\
 (aH b).packed.2.at_=2+(aF (aH b).first.1++(aF (aH b).n.1++(aF (aH b).size.1++aF (aH b).packed.1))).length:=by
 unfold aH at h|-;dsimp only at h|-;obtain⟨n3,D,u⟩:=dW h;have h2:=ja h;obtain⟨n2,a,y⟩:=dW h2;have h1:=ja h2;obtain⟨n1,d,A⟩:=dW h1;have h0:=ja h1;obtain⟨n0,B,E⟩:=dW h0;generalize rdNum b ⟨2,0⟩=G at *
 generalize rdNum b G.2=H at *
 generalize rdNum b H.2=I at *
 generalize rdNum b I.2=S3 at *
 refine⟨n0,n1,n2,n3,?_,?_⟩;refine E.cat ?_;rw[B] at A d;refine A.cat ?_;rw[d] at y a;refine y.cat ?_;rw[a] at u;exact u;rw[D,a,d,B];simp only[List.length_append];omega
theorem FM {t:UInt8}{h:Head}(a:jS t h=false):t.toNat<4/\0<=h.first.1/\h.first.1<=400/\1<=h.n.1/\h.n.1<=64/\0<=h.size.1/\h.size.1<=1048576/\0<=h.packed.1/\h.packed.1<=1048576:=by unfold jS at a;simp only[Bool.or_eq_false_iff,decide_eq_false_iff_not] at a;omega
theorem lM (c:Nat):(xA c).length=4:=rfl
theorem GX {x:Blk}{y:Bytes}(h:encode x=(y,0)):fits x=0/\y=ak x:=by unfold encode at h;by_cases hf:fits x=0;rw[if_pos hf] at h;simp only[Prod.mk.injEq] at h;exact⟨hf,h.1.symm⟩;rw[if_neg hf] at h;simp only[Prod.mk.injEq] at h;exact absurd h.2 hf
theorem lu (thread:Int)(l:List Rec):∀seq,okRecs thread seq l=true->∀r∈l,r.ev.thread=thread/\r.ev.deps.length<=400/\r.ev.from_.length<=400/\seq<r.seq:=by
 induction l with
 |nil=>intro seq _ r hr;simp at hr
 |
  cons q t ih=>
  intro seq h r hr;simp only[okRecs,Bool.and_eq_true,decide_eq_true_eq] at h;rcases List.mem_cons.1 hr with rfl|hr;exact⟨h.1.1.1.1,h.1.1.2,h.1.2,h.1.1.1.2⟩;have:=ih _ h.2 r hr;exact⟨this.1,this.2.1,this.2.2.1,by omega⟩
theorem fF {x:Blk}(h:fits x=0):0<x.recs.length/\x.recs.length<=64/\0<=x.thread/\x.thread<4/\0<=x.first/\x.first<=400/\okRecs x.thread (-1) x.recs=true:=by unfold fits at h;by_cases h1:64<x.recs.length;rw[if_pos h1] at h;simp at h;rw[if_neg h1] at h;by_cases h2:nI x=true;unfold nI at h2;simp only[Bool.and_eq_true,decide_eq_true_eq] at h2;obtain⟨⟨⟨⟨⟨a,b⟩,c⟩,d⟩,e⟩,f⟩:=h2;exact⟨a,by omega,b,c,d,e,f⟩;rw[if_neg h2] at h;simp at h
theorem jc (l:List Rec):∀seq,(∀r∈l,RecOk r)->(aX seq l).length<=8070*l.length:=by
 induction l with
 |nil=>intro seq _;simp[aX]
 |
  cons r t ih=>
  intro seq h;have h1:=Dv (h r (by simp)) seq;have h2:=ih r.seq λq a=>h q (by simp[a]);simp only[aX,List.length_append,List.length_cons];omega
theorem decode_encode {x:Blk}(h:fits x=0)(hr:∀r∈x.recs,RecOk r)(more:Bytes):decode (ak x++more)=(x,(ak x).length,0):=by
 obtain⟨h1,h2,h3,h4,h5,h6,X⟩:=fF h;have G:=lu x.thread x.recs (-1) X;have Y:=jc x.recs (-1) hr;have Z:=fC (aX (-1) x.recs);generalize a:aX (-1) x.recs=pay at *
 have hb:ak x++more=84::UInt8.ofNat (x.thread%256).toNat::(aF x.first++(aF x.recs.length++(aF pay.length++aF (pack pay).length)))++
  (pack pay++(xA (Dn (bg x))++more)):=by
  unfold ak bg iD;rw[a];simp only[List.append_assoc,List.cons_append]
 have H:(bg x).length=2+((aF x.first).length+((aF x.recs.length).length+((aF pay.length).length+(aF (pack pay).length).length)))+(pack pay).length:=(by unfold bg iD;rw[a];simp only[List.length_append,List.length_cons];omega);obtain⟨L,N,O,U⟩:=MJ (b:=ak x++more) ⟨by omega,by omega⟩ ⟨by omega,by omega⟩ ⟨by omega,by omega⟩ ⟨by omega,by omega⟩ hb;have V:(UInt8.ofNat (x.thread%256).toNat).toNat=x.thread.toNat:=(by rw[aO (by omega)];omega);have d:(ak x++more).take (bg x).length=bg x:=(by unfold ak;rw[List.append_assoc,List.take_left]);have A:((ak x++more).drop (bg x).length).take 4=xA (Dn (bg x)):=(by unfold ak;rw[List.append_assoc,List.drop_left];exact List.take_left' (lM _));have u:(ak x++more).take ((bg x).length+4)=ak x:=List.take_left' (by unfold ak;rw[List.length_append,lM]);unfold decode;have y:jb rE (ak x++more)=jb rE (84::UInt8.ofNat (x.thread%256).toNat::((aF x.first++(aF x.recs.length++(aF pay.length++aF (pack pay).length)))++(pack pay++(xA (Dn (bg x))++more)))):=(by rw[hb];rfl);rw[y];unfold jb;dsimp only;have I:84::UInt8.ofNat (x.thread%256).toNat::((aF x.first++(aF x.recs.length++(aF pay.length++aF (pack pay).length)))++(pack pay++(xA (Dn (bg x))++more)))=ak x++more:=hb.symm;rw[I];rw[if_neg (by decide)];rw[U];dsimp only;rw[if_neg (by decide)];have B:jS (UInt8.ofNat (x.thread%256).toNat) (aH (ak x++more))=false:=(by unfold jS;rw[L,N,O,U,V];simp only[Bool.or_eq_false_iff,decide_eq_false_iff_not];omega);rw[B];simp only[Bool.false_eq_true,if_false];rw[Int.toNat_natCast];rw[show 2+((aF x.first).length+((aF x.recs.length).length+((aF pay.length).length+(aF (pack pay).length).length)))+(pack pay).length=(bg x).length from H.symm];rw[if_neg (by unfold ak;rw[List.length_append,List.length_append,lM];omega)];rw[d,A,if_neg (by simp)];rw[L,N,O];unfold rE;dsimp only;have D:((ak x++more).take (bg x).length).drop (2+((aF x.first).length+((aF x.recs.length).length+((aF pay.length).length+(aF (pack pay).length).length))))=pack pay:=(by rw[d];unfold bg;rw[a];refine List.drop_left' ?_;unfold iD;simp only[List.length_append,List.length_cons];omega);rw[D,MG];dsimp only;rw[if_pos ⟨rfl,rfl⟩];have J:((UInt8.ofNat (x.thread%256).toNat).toNat:Int)=x.thread:=(by rw[V];omega);rw[J];have hg:=MI x.thread x.recs (-1) [] λr E=>⟨hr r E,(G r E).1⟩;rw[List.append_nil,a] at hg;rw[Int.toNat_natCast,hg];dsimp only;rw[u];have he:encode ⟨x.thread,x.first,x.recs⟩=(ak x,0):=(by unfold encode;rw[if_pos (show fits ⟨x.thread,x.first,x.recs⟩=0 from h)]);rw[if_pos he];have:(bg x).length+4=(ak x).length:=(by unfold ak;rw[List.length_append,lM]);rw[this]
end Iv
namespace Iv
theorem ML {x:Blk}(h:fits x=0)(hr:∀r∈x.recs,RecOk r){k:Nat}(hk:k<(ak x).length)(h2:2<=k):
 (aH ((ak x).take k)).packed.2.err=9\/
  ((
   aH ((ak x).take k)).first.1=x.first/\(aH ((ak x).take k)).n.1=x.recs.length/\(aH ((ak x).take k)).size.1=(aX (-1) x.recs).length/\
   (aH ((ak x).take k)).packed.1=(pack (aX (-1) x.recs)).length/\(aH ((ak x).take k)).packed.2.err=0/\
   (aH ((ak x).take k)).packed.2.at_+(pack (aX (-1) x.recs)).length+4=(ak x).length):=by
 obtain⟨h1,E,h3,h4,h5,U,V⟩:=fF h;have G:=jc x.recs (-1) hr;have H:=fC (aX (-1) x.recs);generalize a:aX (-1) x.recs=pay at *
 have hb:ak x=84::UInt8.ofNat (x.thread%256).toNat::(aF x.first++(aF x.recs.length++(aF pay.length++(aF (pack pay).length++(pack pay++xA (Dn (bg x))))))):=(by unfold ak bg iD;rw[a];simp only[List.append_assoc,List.cons_append]);generalize hc:(ak x).take k=c;have I:c.drop 2=(aF x.first++(aF x.recs.length++(aF pay.length++(aF (pack pay).length++(pack pay++xA (Dn (bg x))))))).take (k-2):=(by rw[<-hc,hb];obtain⟨j,rfl⟩:∃j,k=j+2:=⟨k-2,by omega⟩;simp);rw[hb] at hk;simp only[List.length_cons] at hk;have J:(ak x).length=2+(aF x.first).length+(aF x.recs.length).length+(aF pay.length).length+(aF (pack pay).length).length+(pack pay).length+4:=(by rw[hb];simp only[List.length_cons,List.length_append,lM];omega);have c0:Cut c ⟨2,0⟩ _:= .inr ⟨rfl,k-2,by omega,I⟩;obtain⟨c1,e1⟩:=uC (n:=x.first) ⟨by omega,by omega⟩ c0;obtain⟨c2,L⟩:=uC (n:=(x.recs.length:Int)) ⟨by omega,by omega⟩ c1;obtain⟨c3,N⟩:=uC (n:=(pay.length:Int)) ⟨by omega,by omega⟩ c2;obtain⟨c4,e4⟩:=uC (n:=((pack pay).length:Int)) ⟨by omega,by omega⟩ c3;rcases c4 with h9|⟨h0,_⟩;exact .inl h9;refine .inr ?_;have d:(aH c).packed.2.err=0:=h0;have u:=ja h0;have y:=ja u;have O:=ja y;have A:(aH c).first.1=x.first:=e1 O;have B:(aH c).n.1=x.recs.length:=L y;have D:(aH c).size.1=pay.length:=N u;have f4:(aH c).packed.1=(pack pay).length:=e4 h0;refine⟨A,B,D,f4,d,?_⟩;have:=(IW d).2.2.2.2.2;rw[this,A,B,D,f4,J];simp only[List.length_append];omega
theorem P9 {x:Blk}(h:fits x=0)(hr:∀r∈x.recs,RecOk r){k:Nat}(hk:k<(ak x).length):decode ((ak x).take k)=(aW,0,9):=by
 obtain⟨h1,y,h3,h4,h5,E,G⟩:=fF h;have A:=jc x.recs (-1) hr;have B:=fC (aX (-1) x.recs);have hb:∃u,ak x=84::UInt8.ofNat (x.thread%256).toNat::u:=⟨_,rfl⟩;obtain⟨u,hb⟩:=hb;have hcut:=ML h hr hk;generalize hc:(ak x).take k=c at *
 rw[hb] at hc;unfold decode jb
 match k,hk with
 |0,_=>subst hc;rfl
 |1,_=>subst hc;rfl
 |
  j+2,hk=>
  simp only[List.take_succ_cons] at hc;have hlen:c.length=j+2:=(by rw[hb] at hk;simp only[List.length_cons] at hk;rw[<-hc];simp;omega);have d:=hc;rw[<-hc];dsimp only;rw[d,if_neg (by decide)];rcases hcut (by omega) with h9|⟨f1,f2,f3,f4,f0,fl⟩;rw[h9,if_pos (by decide)]
  . rw[f0,if_neg (by decide)];have D:(UInt8.ofNat (x.thread%256).toNat).toNat=x.thread.toNat:=(by rw[aO (by omega)];omega);have a:jS (UInt8.ofNat (x.thread%256).toNat) (aH c)=false:=by
     unfold jS;rw[f1,f2,f3,f4,D];simp only[Bool.or_eq_false_iff,decide_eq_false_iff_not];omega
    rw[a];simp only[Bool.false_eq_true,if_false];rw[f4,Int.toNat_natCast,if_pos (by omega)]
end Iv
namespace Iv
open Go.RowKit (wrap64)
theorem sS {b:Bytes}{x:Blk}{k:Nat}(h:decode b=(x,k,0)):fits x=0/\b.take k=ak x/\k<=b.length/\0<k:=by have key:fits x=0/\b.take k=ak x/\k<=b.length:=(by unfold decode jb at h;split at h;simp at h;split at h;simp at h;split at h;simp at h;split at h;rename_i he;simp only[Prod.mk.injEq] at h;exact absurd h.2.2 he;split at h;simp at h;split at h;simp at h;rename_i hlen;split at h;simp at h;unfold rE at h;dsimp only at h;split at h;split at h;split at h;rename_i a;simp only[Prod.mk.injEq] at h;obtain⟨h1,h2,_⟩:=h;subst h1 h2;obtain⟨f0,d⟩:=GX a;refine⟨f0,d,by omega⟩;simp at h;simp at h;simp at h);refine⟨key.1,key.2.1,key.2.2,?_⟩;rcases Nat.eq_zero_or_pos k with h0|h0;have h1:=key.2.1;rw[h0,List.take_zero] at h1;unfold ak bg iD at h1;simp at h1;exact h0
def oH (th recs last:Int)(d:Blk×Nat×Int):Bool:=
 decide (d.2.2=0) && decide (d.1.thread=th) && decide (d.1.first=recs) &&(match d.1.recs with | []=>false|r::_=>decide (last<r.seq))
def jR (x:Blk)(e:Int):Int:=match x.recs.getLast? with|some r=>r.seq|none=>e
def bZ (th:Int):Nat->Bytes->Int->Int->List (Blk×Nat)
 |0,_,_,_=> []
 |
  f+1,b,recs,last=>
  if oH th recs last (decode b) then ((decode b).1,(decode b).2.1)::bZ th f (b.drop (decode b).2.1) (recs+(decode b).1.recs.length) (jR (decode b).1 last) else []
theorem nM {th recs last:Int}{b:Bytes}(h:oH th recs last (decode b)=true):(decode b).2.2=0/\(decode b).2.1<=b.length/\0<(decode b).2.1/\fits (decode b).1=0:=by unfold oH at h;simp only[Bool.and_eq_true,decide_eq_true_eq] at h;have he:decode b=((decode b).1,(decode b).2.1,0):=(by rw[<-h.1.1.1]);have:=sS he;exact⟨h.1.1.1,this.2.2.1,this.2.2.2,this.1⟩
theorem FN (th:Int)(f:Nat):∀(g:Nat) (b:Bytes) (recs last:Int),b.length<f->b.length<g->bZ th f b recs last=bZ th g b recs last:=by
 induction f with
 |zero=>intro g b recs last h;omega
 |
  succ f ih=>
  intro g b recs last hf hg;obtain⟨g,rfl⟩:∃d,g=d+1:=⟨g-1,by omega⟩;unfold bZ;split;rename_i a;obtain⟨_,h1,h2,_⟩:=nM a;congr 1;exact ih g _ _ _ (by rw[List.length_drop];omega) (by rw[List.length_drop];omega);rfl
def aN (th:Int)(b:Bytes)(recs last:Int):List (Blk×Nat):=bZ th (b.length+1) b recs last
theorem nD {th recs last:Int}{b:Bytes}(h:oH th recs last (decode b)=true):
 aN th b recs last=((decode b).1,(decode b).2.1)::aN th (b.drop (decode b).2.1) (recs+(decode b).1.recs.length) (jR (decode b).1 last):=by
 obtain⟨_,h1,h2,_⟩:=nM h;unfold aN
 conv=>lhs;unfold bZ
 rw[if_pos h];congr 1;exact FN th _ _ _ _ _ (by rw[List.length_drop];omega) (by omega)
theorem gV {th recs last:Int}{b:Bytes}(h:oH th recs last (decode b)=false):aN th b recs last=[]:=by unfold aN bZ;rw[if_neg (by rw[h];decide)]
def sizeB (l:List (Blk×Nat)):Nat:=(l.map (·.2)).sum
structure RecFit (r:Rec):Prop where
 seq:inI64 r.seq
 thread:inI64 r.ev.thread
 kind:inI64 r.ev.kind
 obj:inI64 r.ev.obj
 value:inI64 r.ev.value
 site:inI64 r.ev.site
 deps:allI64 r.ev.deps
 from_:allI64 r.ev.from_
structure Pln where
 cap:Int
 flushes:List (Int×Int)
 stop:Int
 cuts:List Int
def jT (thr:Int)(f:Int×Int):Bool:=decide (0<=f.1) && decide (0<=f.2) && decide (f.2<thr)
def jL (thr:Int)(p:Pln):Bool:=decide (1<=thr) && decide (thr<=4) && decide (1<=p.cap) && decide (p.cap<=64) && decide (0<=p.stop)
def qR (thr:Int)(p:Pln):Bool:=jL thr p && p.flushes.all (jT thr) && p.cuts.all (λn=>decide (0<=n)) && decide ((p.cuts.length:Int)<=thr)
def Bf (thr:Int)(e:Ev):Bool:=decide (0<=e.thread) && decide (e.thread<thr) && decide (e.deps.length<=400) && decide (e.from_.length<=400)
def bH (l:List Ev)(thr:Int)(p:Pln):Int:=if qR thr p then (if 400<l.length then 2 else if l.all (Bf thr) then 0 else 1) else 1
structure St where
 buf:Nat->List Rec
 first:Nat->Int
 file:Nat->Bytes
def upd {α:Type}(f:Nat->α)(t:Nat)(x:α):Nat->α:=λk=>if k=t then x else f k
theorem dQ {α:Type}(f:Nat->α)(t:Nat)(x:α):upd f t x t=x:=by simp[upd]
theorem bY {α:Type}(f:Nat->α){t k:Nat}(x:α)(h:k≠t):upd f t x k=f k:=by simp[upd,h]
def GI (s:St)(t:Nat):Blk:=⟨t,s.first t,s.buf t⟩
def St.write (s:St)(t:Nat):St:=
 if (s.buf t).length=0 then s else ⟨upd s.buf t [],upd s.first t (s.first t+(s.buf t).length),upd s.file t (s.file t++(encode (GI s t)).1)⟩
def St.push (s:St)(t:Nat)(r:Rec):St:=⟨upd s.buf t (s.buf t++[r]),s.first,s.file⟩
def St.add (s:St)(cap:Int)(seq:Nat)(e:Ev):St:=
 if (((s.buf e.thread.toNat).length+1:Nat):Int)=cap\/e.kind=2 then (s.push e.thread.toNat ⟨seq,e⟩).write e.thread.toNat else s.push e.thread.toNat ⟨seq,e⟩
def St.flush (s:St)(n:Nat):List (Int×Int)->St
 | []=>s
 |f::fs=>St.flush (if f.1=n then s.write f.2.toNat else s) n fs
def St.none:St:=⟨λ_=> [],λ_=>0,λ_=> []⟩
def recorded (l:List Ev)(p:Pln):Nat->St
 |0=>St.none.flush 0 p.flushes
 |
  n+1=>match l[n]? with
  |some e=>((recorded l p n).add p.cap n e).flush (n+1) p.flushes
  |none=>recorded l p n
def BG (b:Bytes)(k:Int):Bytes:=b.take (b.length-k.toNat)
theorem MM {th:Int}(l:List Rec):∀ {seq:Int}{r:Rec},okRecs th seq l=true->(∀q∈l,q.seq<r.seq)->seq<r.seq->r.ev.thread=th->r.ev.deps.length<=400->r.ev.from_.length<=400->okRecs th seq (l++[r])=true:=by
 induction l with
 |
  nil=>
  intro seq r _ _ hs u y hf;simp[okRecs,hs,u,y,hf]
 |
  cons a l ih=>
  intro seq r h d hs u y hf;simp only[okRecs,Bool.and_eq_true,List.cons_append] at h|-;exact⟨h.1,ih h.2 (λq A=>d q (List.mem_cons_of_mem _ A)) (d a (List.mem_cons_self ..)) u y hf⟩
structure GoodT (c n:Nat)(t:Nat)(b:List Rec)(f:Int)(x:Bytes):Prop where
 ok:okRecs t (-1) b=true
 len:b.length<=c
 below:∀r∈b,r.seq<n
 fit:∀r∈b,RecFit r
 lo:0<=f
 hi:f+b.length<=n
 size:(x.length:Int)<=10000*f
theorem yH {thread seq:Int}{rs:List Rec}(h:okRecs thread seq rs=true)(hn:∀r∈rs,RecFit r):∀r∈rs,RecOk r:=by intro r hr;have h1:=lu thread rs seq h r hr;have h2:=hn r hr;exact⟨h2.seq,h2.thread,h2.kind,h2.obj,h2.value,h2.site,h2.deps,h2.from_,h1.2.1,h1.2.2.1⟩
theorem GoodT.fits {c n t:Nat}{b:List Rec}{f:Int}{x:Bytes}(h:GoodT c n t b f x)(hb:0<b.length)(hc:c<=64)(hn:n<=400)(a:t<4):fits ⟨t,f,b⟩=0:=by have h1:=h.ok;have h2:=h.len;have h3:=h.lo;have h4:=h.hi;unfold Iv.fits nI;rw[if_neg (by show¬64<b.length;omega)];have:(decide (0<b.length) && decide (0<=(t:Int)) && decide ((t:Int)<4) && decide (0<=f) && decide (f<=400) && okRecs t (-1) b)=true:=(by rw[h1];simp only[Bool.and_true,Bool.and_eq_true,decide_eq_true_eq];omega);rw[if_pos this]
theorem aaR {x:Blk}(hf:fits x=0)(hr:∀r∈x.recs,RecOk r):(ak x).length<=10000*x.recs.length:=by obtain⟨z0,d,u,z3,z4,y,A⟩:=fF hf;have a:=jc x.recs (-1) hr;have B:=fC (aX (-1) x.recs);have D:=aK (n:=x.first) ⟨by omega,by omega⟩;have E:=aK (n:=(x.recs.length:Int)) ⟨by omega,by omega⟩;have G:=aK (n:=((aX (-1) x.recs).length:Int)) ⟨by omega,by omega⟩;have H:=aK (n:=((pack (aX (-1) x.recs)).length:Int)) ⟨by omega,by omega⟩;unfold ak bg iD;simp only[List.length_append,List.length_cons,lM];omega
theorem GoodT.enc {c n t:Nat}{b:List Rec}{f:Int}{x:Bytes}(h:GoodT c n t b f x)(hb:0<b.length)(hc:c<=64)(hn:n<=400)(a:t<4):
 (encode ⟨t,f,b⟩).2=0/\(encode ⟨t,f,b⟩).1.length<=10000*b.length:=by have hf:=h.fits hb hc hn a;have:encode ⟨t,f,b⟩=(ak ⟨t,f,b⟩,0):=(by unfold encode;rw[if_pos hf]);rw[this];exact⟨rfl,aaR hf (yH h.ok h.fit)⟩
theorem GoodT.wrote {c n t:Nat}{b:List Rec}{f:Int}{x:Bytes}(h:GoodT c n t b f x)(hb:0<b.length)(hc:c<=64)(hn:n<=400)(a:t<4)(d:Nat):GoodT d n t [] (f+b.length) (x++(encode ⟨t,f,b⟩).1):=by have h3:=h.lo;have h4:=h.hi;have h5:=h.size;have u:=(h.enc hb hc hn a).2;refine⟨rfl,by simp,λr hr=>by simp at hr,λr hr=>by simp at hr,by omega,by simp;omega,?_⟩;rw[List.length_append];omega
theorem GoodT.pushed {c n t:Nat}{b:List Rec}{f:Int}{x:Bytes}(h:GoodT c n t b f x){e:Ev}(he:e.thread=t)(d:e.deps.length<=400)(hf:e.from_.length<=400)(hr:RecFit ⟨n,e⟩):GoodT (c+1) (n+1) t (b++[⟨n,e⟩]) f x:=by have h2:=h.len;have h4:=h.hi;refine⟨MM b h.ok (λq u=>h.below q u) (by show (-1:Int)<(n:Int);omega) he d hf,by simp;omega,λr a=>?_,λr a=>?_,h.lo,by simp;omega,h.size⟩;rcases List.mem_append.1 a with h1|h1;have:=h.below r h1;omega;simp only[List.mem_singleton] at h1;subst h1;show (n:Int)<((n+1:Nat):Int);omega;rcases List.mem_append.1 a with h1|h1;exact h.fit r h1;simp only[List.mem_singleton] at h1;subst h1;exact hr
theorem GoodT.later {c n a t:Nat}{b:List Rec}{f:Int}{x:Bytes}(h:GoodT c n t b f x)(hn:n<=a):GoodT c a t b f x:=
 ⟨h.ok,h.len,λr hr=>by have:=h.below r hr;omega,h.fit,h.lo,by have:=h.hi;omega,h.size⟩
theorem GoodT.wider {c a n t:Nat}{b:List Rec}{f:Int}{x:Bytes}(h:GoodT c n t b f x)(hc:b.length<=a):GoodT a n t b f x:=⟨h.ok,hc,h.below,h.fit,h.lo,h.hi,h.size⟩
def Good (c n thr:Nat)(s:St):Prop:=∀t,t<thr->GoodT c n t (s.buf t) (s.first t) (s.file t)
theorem Good.none (c thr:Nat):Good c 0 thr St.none:=λt _=>⟨rfl,by simp[St.none],λr hr=>by simp[St.none] at hr,λr hr=>by simp[St.none] at hr,by simp[St.none],by simp[St.none],by simp[St.none]⟩
theorem Good.write {c n thr:Nat}{s:St}(h:Good c n thr s)(hc:c<=64)(hn:n<=400)(d:thr<=4)(t:Nat)(u:t<thr):Good c n thr (s.write t):=by unfold St.write;split;exact h;rename_i h0;intro k hk;by_cases a:k=t;subst a;simp only[dQ];exact (h k hk).wrote (by omega) hc hn (by omega) c;simp only[bY _ _ a];exact h k hk
theorem Good.flush {c n thr:Nat}(hc:c<=64)(hn:n<=400)(a:thr<=4)(fs:List (Int×Int)):∀ {s:St},Good c n thr s->(∀f∈fs,0<=f.2/\f.2<thr)->Good c n thr (s.flush n fs):=by
 induction fs with
 |nil=>intro s h _;exact h
 |
  cons f fs ih=>
  intro s h hf;have h1:=hf f (List.mem_cons_self ..);unfold St.flush;refine ih ?_ (λg hg=>hf g (List.mem_cons_of_mem _ hg));split;exact h.write hc hn a _ (by omega);exact h
theorem Good.push {c n thr:Nat}{s:St}(h:Good c n thr s){e:Ev}(he:0<=e.thread)(d:e.deps.length<=400)(hf:e.from_.length<=400)(hr:RecFit ⟨n,e⟩):
 ∀t,t<thr->GoodT (c+1) (n+1) t ((s.push e.thread.toNat ⟨n,e⟩).buf t) ((s.push e.thread.toNat ⟨n,e⟩).first t) ((s.push e.thread.toNat ⟨n,e⟩).file t):=by intro t a;unfold St.push;by_cases hk:t=e.thread.toNat;subst hk;simp only[dQ];exact (h _ a).pushed (by omega) d hf hr;simp only[bY _ _ hk];exact ((h t a).later (Nat.le_succ n)).wider (by have:=(h t a).len;omega)
theorem Good.pushed {c n thr:Nat}{s:St}(h:Good c n thr s){e:Ev}(he:0<=e.thread)(a:e.deps.length<=400)(hf:e.from_.length<=400)(hr:RecFit ⟨n,e⟩):Good (c+1) (n+1) thr (s.push e.thread.toNat ⟨n,e⟩):=h.push he a hf hr
theorem Good.add {c n thr:Nat}{s:St}(h:Good c n thr s){e:Ev}(hc:c+1<=64)(hn:n+1<=400)(A:thr<=4)(he:0<=e.thread)(D:e.thread<thr)(B:e.deps.length<=400)(hf:e.from_.length<=400)(hr:RecFit ⟨n,e⟩):Good c (n+1) thr (s.add ((c+1:Nat):Int) n e):=by have y:=h.pushed he B hf hr;have d:e.thread.toNat<thr:=(by omega);unfold St.add;split;have hw:=y.write hc hn A _ d;intro t a;refine (hw t a).wider ?_;unfold St.write;have h0:¬((s.push e.thread.toNat ⟨n,e⟩).buf e.thread.toNat).length=0:=(by unfold St.push;simp[dQ]);rw[if_neg h0];by_cases hk:t=e.thread.toNat;subst hk;simp[dQ];simp only[bY _ _ hk,St.push];exact (h t a).len;rename_i u;intro t a;refine (y t a).wider ?_;by_cases hk:t=e.thread.toNat;subst hk;have h1:=(h _ a).len;unfold St.push;simp only[dQ,List.length_append,List.length_singleton];by_cases h2:(s.buf e.thread.toNat).length=c;exact absurd (.inl (by rw[h2])) u;omega;simp only[bY _ _ hk,St.push];exact (h t a).len
end Iv
namespace Iv
def Dw (l:List Ev)(p:Pln):Nat->St
 |0=>St.none
 |n+1=>recorded l p n
def jG (l:List Ev)(p:Pln):Nat:=min p.stop.toNat l.length
def kL (s:St)(cuts:List Int)(k:Nat):St:=⟨s.buf,s.first,λt=>match (cuts.take k)[t]? with|some x=>BG (s.file t) x|none=>s.file t⟩
def filesOf (l:List Ev)(p:Pln)(t:Nat):Bytes:=(kL (recorded l p (jG l p)) p.cuts p.cuts.length).file t
theorem Di {l:List Ev}{p:Pln}{n:Nat}{e:Ev}(h:l[n]?=some e):recorded l p (n+1)=((Dw l p (n+1)).add p.cap n e).flush (n+1) p.flushes:=by show (match l[n]? with|some e=>((recorded l p n).add p.cap n e).flush (n+1) p.flushes|none=>recorded l p n)=_;rw[h];rfl
theorem C9 (s:St)(cuts:List Int):kL s cuts 0=s:=by
 cases s
 simp[kL]
theorem Xx (s:St)(cuts:List Int)(k:Nat):(kL s cuts k).file k=s.file k:=by unfold kL;simp[List.getElem?_take]
theorem Qa {s:St}{cuts:List Int}{k:Nat}{x:Int}(h:cuts[k]?=some x):kL s cuts (k+1)=⟨(kL s cuts k).buf,(kL s cuts k).first,upd (kL s cuts k).file k (BG (s.file k) x)⟩:=by unfold kL;congr 1;funext t;unfold upd;simp only[List.getElem?_take];by_cases a:t=k;subst a;simp[h];rw[if_neg a];by_cases h1:t<k;rw[if_pos h1,if_pos (by omega)];rw[if_neg h1,if_neg (by omega)]
theorem Qb (s:St)(n:Nat)(f:Int×Int)(fs:List (Int×Int)):s.flush n (f::fs)=(if f.1=n then s.write f.2.toNat else s).flush n fs:=rfl
theorem Qc {fs:List (Int×Int)}{k:Nat}{f:Int×Int}(h:fs[k]?=some f)(s:St)(n:Nat):s.flush n (fs.drop k)=(if f.1=n then s.write f.2.toNat else s).flush n (fs.drop (k+1)):=by obtain⟨a,rfl⟩:=List.getElem?_eq_some_iff.1 h;rw[List.drop_eq_getElem_cons a,Qb]
theorem RecFit.seqOf {e:Ev}{n:Int}(h:RecFit ⟨0,e⟩)(hn:inI64 n):RecFit ⟨n,e⟩:=⟨hn,h.thread,h.kind,h.obj,h.value,h.site,h.deps,h.from_⟩
def recA (l:List Ev)(p:Pln):Nat->St
 |0=>St.none
 |
  n+1=>match l[n]? with
  |some e=>(recorded l p n).add p.cap n e
  |none=>recorded l p n
theorem yM {l:List Ev}{p:Pln}{n:Nat}{e:Ev}(h:l[n]?=some e):recA l p (n+1)=(Dw l p (n+1)).add p.cap n e:=by show (match l[n]? with|some e=>(recorded l p n).add p.cap n e|none=>recorded l p n)=_;rw[h];rfl
theorem Qd {l:List Ev}{p:Pln}{n:Nat}(h:n<=l.length):(recA l p n).flush n p.flushes=recorded l p n:=by
 cases n with
 |zero=>rfl
 |
  succ n=>
  have hk:l[n]?=some l[n]:=List.getElem?_eq_getElem h;rw[Di hk,yM hk]
structure PlanGood (l:List Ev)(thr:Nat)(p:Pln)(c:Nat):Prop where
 cap:p.cap=((c+1:Nat):Int)
 c64:c+1<=64
 thr1:1<=thr
 thr4:thr<=4
 stop:0<=p.stop
 fl:∀f∈p.flushes,0<=f.1/\0<=f.2/\f.2<thr
 cu:∀x∈p.cuts,0<=x
 cul:p.cuts.length<=thr
 len:l.length<=400
 ev:∀e∈l,0<=e.thread/\e.thread<thr/\e.deps.length<=400/\e.from_.length<=400
theorem CG {l:List Ev}{thr:Int}{p:Pln}(h:bH l thr p=0):∃t c,thr=((t:Nat):Int)/\PlanGood l t p c:=by unfold bH at h;split at h;rename_i a;split at h;omega;rename_i h4;split at h;rename_i d;unfold qR jL at a;simp only[Bool.and_eq_true,decide_eq_true_eq,List.all_eq_true] at a d;obtain⟨⟨⟨⟨⟨⟨⟨a1,a2⟩,a3⟩,a4⟩,a5⟩,a6⟩,a7⟩,a8⟩:=a;refine⟨thr.toNat,(p.cap-1).toNat,by omega,by omega,by omega,by omega,by omega,a5,λf hf=>?_,λx hx=>?_,by omega,by omega,λe he=>?_⟩;have:=a6 f hf;unfold jT at this;simp only[Bool.and_eq_true,decide_eq_true_eq] at this;omega;exact a7 x hx;have:=d e he;unfold Bf at this;simp only[Bool.and_eq_true,decide_eq_true_eq] at this;omega;omega;omega
theorem PlanGood.ok {l:List Ev}{thr:Nat}{p:Pln}{c:Nat}(h:PlanGood l thr p c):bH l thr p=0:=by have h1:=h.cap;have h2:=h.c64;have h3:=h.thr1;have h4:=h.thr4;have h5:=h.stop;have a:=h.cul;have d:=h.len;unfold bH;rw[if_pos,if_neg (by omega),if_pos];rw[List.all_eq_true];intro e he;have:=h.ev e he;unfold Bf;simp only[Bool.and_eq_true,decide_eq_true_eq];omega;unfold qR jL;simp only[Bool.and_eq_true,decide_eq_true_eq,List.all_eq_true];refine⟨⟨⟨by omega,λf hf=>?_⟩,λx hx=>h.cu x hx⟩,by omega⟩;have:=h.fl f hf;unfold jT;simp only[Bool.and_eq_true,decide_eq_true_eq];omega
theorem PlanGood.recorded {l:List Ev}{thr:Nat}{p:Pln}{c:Nat}(h:PlanGood l thr p c)(hn:∀e∈l,RecFit ⟨0,e⟩):∀n,n<=l.length->Good c n thr (recorded l p n):=by
 intro n;induction n with
 |zero=>intro _;exact (Good.none c thr).flush (by have:=h.c64;omega) (by omega) h.thr4 _ (λf hf=>(h.fl f hf).2)
 |
  succ n ih=>
  intro a;have h1:=ih (by omega);have hk:l[n]?=some l[n]:=List.getElem?_eq_getElem a;rw[Di hk];have hm:l[n]∈l:=List.getElem_mem a;obtain⟨e1,d,u,e4⟩:=h.ev _ hm;have h4:=h.len;have:=h1.add (e:=l[n]) h.c64 (by omega) h.thr4 e1 d u e4 ((hn _ hm).seqOf ⟨by omega,by omega⟩);rw[<-h.cap] at this;exact this.flush (by have:=h.c64;omega) (by omega) h.thr4 _ (λf hf=>(h.fl f hf).2)
theorem PlanGood.recA {l:List Ev}{thr:Nat}{p:Pln}{c:Nat}(h:PlanGood l thr p c)(hn:∀e∈l,RecFit ⟨0,e⟩)(n:Nat)(a:n<=l.length):Good c n thr (recA l p n):=by
 cases n with
 |zero=>exact Good.none c thr
 |
  succ n=>
  have hk:l[n]?=some l[n]:=List.getElem?_eq_getElem a;rw[yM hk];have hm:l[n]∈l:=List.getElem_mem a;obtain⟨e1,d,u,e4⟩:=h.ev _ hm;have h4:=h.len;have:=(h.recorded hn n (by omega)).add (e:=l[n]) h.c64 (by omega) h.thr4 e1 d u e4 ((hn _ hm).seqOf ⟨by omega,by omega⟩);rw[<-h.cap] at this;exact this
