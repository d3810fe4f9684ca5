/- Words. -/
import Derived.RowKit
namespace Iv
abbrev Bytes:=List UInt8
theorem gJ (b:UInt8):b.toNat<256:=UInt8.toNat_lt b
theorem aT {n:Nat}(h:n<256):(UInt8.ofNat n).toNat=n:=by simp[Nat.mod_eq_of_lt h]
theorem yw {a b:UInt8}(h:a.toNat=b.toNat):a=b:=UInt8.toNat_inj.1 h
theorem D6 (b:UInt8):UInt8.ofNat b.toNat=b:=by simp
def Hy (n:Int):Nat:=if n<0 then (-2*n-1).toNat else (2*n).toNat
def Hz (u:Nat):Int:=if u%2=1 then -(u/2:Nat)-1 else (u/2:Nat)
theorem ab9 (n:Int):Hz (Hy n)=n:=by unfold Hz Hy;split<;>split<;>omega
theorem aca (u:Nat):Hy (Hz u)=u:=by unfold Hz Hy;split<;>split<;>omega
theorem JA {n:Int}(h1: -9223372036854775808<=n)(h2:n<=9223372036854775807):Hy n<18446744073709551616:=by unfold Hy;split<;>omega
theorem afi {u:Nat}(h:u<18446744073709551616): -9223372036854775808<=Hz u:=by unfold Hz;split<;>omega
theorem afj {u:Nat}(h:u<18446744073709551616):Hz u<=9223372036854775807:=by unfold Hz;split<;>omega
def jZ (u:Nat):Bytes:=if u<128 then [UInt8.ofNat u] else UInt8.ofNat (u%128+128)::jZ (u/128)
termination_by u
decreasing_by omega
theorem vk {u:Nat}(h:u<128):jZ u=[UInt8.ofNat u]:=by rw[jZ,if_pos h]
theorem vw {u:Nat}(h:128<=u):jZ u=UInt8.ofNat (u%128+128)::jZ (u/128):=by rw[jZ,if_neg (by omega)]
theorem qp (u:Nat):1<=(jZ u).length:=by rw[jZ];split<;>simp
theorem YD (k:Nat):∀u,(jZ u).length<=k+1 ↔ u<128^(k+1):=by
 induction k with
 |
  zero=>
  intro u;by_cases h:u<128;simp[vk h,h];have:=qp (u/128);rw[vw (by omega)];simp;constructor;intro h0;rw[h0] at this;simp at this;intro;omega
 |
  succ k ih=>
  intro u;by_cases h:u<128;have h1:(jZ u).length=1:=(by simp[vk h]);have h2:(128:Nat)^1<=128^(k+1+1):=Nat.pow_le_pow_right (by omega) (by omega);constructor;intro;omega;intro;omega;rw[vw (by omega)];have:=ih (u/128);have e:(128:Nat)^(k+1+1)=128^(k+1)* 128:=Nat.pow_succ ..;rw[List.length_cons,e,<-Nat.div_lt_iff_lt_mul (by omega:0<128)];omega
theorem QO {u:Nat}(h:u<18446744073709551616):(jZ u).length<=10:=by refine (YD 9 u).2 ?_;have:(128:Nat)^(9+1)=1180591620717411303424:=(by decide);omega
def xm:Bytes->Nat->Nat->Int×Nat×Int
 | [],_,_=>(0,0,9)
 |
  x::t,i,acc=>
  if i=9/\1<x.toNat then (0,0,11)
  else if 128<=x.toNat then xm t (i+1) (acc+x.toNat%128*128^i)
  else if x.toNat=0/\0<i then (0,0,11)
  else (Hz (acc+x.toNat*128^i),i+1,0)
theorem VP (u:Nat):∀(i acc:Nat) (more:Bytes),(u=0->i=0)->acc+u*128^i<18446744073709551616->
 xm (jZ u++more) i acc=(Hz (acc+u*128^i),i+(jZ u).length,0):=by
 induction u using Nat.strongRecOn with
 |
  _ u ih=>
  intro i acc more h0 d;have hi:9<=i->u<=1/\(u=1->i=9):=(by intro hi;by_cases q:u=0;exact⟨by omega,by omega⟩;by_cases a:i=9;subst a;have:(128:Nat)^9=9223372036854775808:=(by decide);rw[this] at d;exact⟨by omega,λ_=>rfl⟩;have y:(128:Nat)^10<=128^i:=Nat.pow_le_pow_right (by omega) (by omega);have B:(128:Nat)^10=1180591620717411303424:=(by decide);have:1*128^i<=u*128^i:=Nat.mul_le_mul_right _ (by omega);omega);by_cases h:u<128;rw[vk h];simp only[List.cons_append,List.nil_append,xm,List.length_cons,List.length_nil];rw[aT (by omega)];rw[if_neg (by intro ⟨a,h1⟩;have:=hi (by omega);omega),if_neg (by omega),if_neg (by omega)]
  . rw[vw (by omega)];have D:i<9:=by
     rcases Nat.lt_or_ge i 9 with a|a;exact a;have:=hi a;omega
    simp only[List.cons_append,xm,List.length_cons];rw[aT (by omega)];rw[if_neg (by omega),if_pos (by omega)];have e:(u%128+128)%128=u%128:=(by omega);have hdiv:u%128*128^i+u/128*128^(i+1)=u*128^i:=(by rw[Nat.pow_succ,Nat.mul_comm (128^i) 128,<-Nat.mul_assoc,<-Nat.add_mul];congr 1;omega);rw[e,ih (u/128) (by omega) (i+1) (acc+u%128*128^i) more (by omega) (by omega)];have:acc+u%128*128^i+u/128*128^(i+1)=acc+u*128^i:=(by omega);rw[this,show i+1+(jZ (u/128)).length=i+((jZ (u/128)).length+1) from by omega]
theorem VQ (l:Bytes):∀(i acc k:Nat) (n:Int),acc<128^i->i<=9->xm l i acc=(n,k,0)->
 ∃u,n=Hz (acc+u*128^i)/\(u=0->i=0)/\k=i+(jZ u).length/\l.take (k-i)=jZ u/\k-i<=l.length/\acc+u*128^i<18446744073709551616:=by
 induction l with
 |nil=>intro i acc k n _ _ h;simp[xm] at h
 |
  cons x t ih=>
  intro i acc k n q hi h;have hx:=gJ x;simp only[xm] at h;by_cases c1:i=9/\1<x.toNat;rw[if_pos c1] at h;simp at h
  . rw[if_neg c1] at h;by_cases c2:128<=x.toNat
    . rw[if_pos c2] at h;have H:i<9:=(by omega);have d:acc+x.toNat%128*128^i<128^(i+1):=by
       have h1:x.toNat%128*128^i<=127*128^i:=Nat.mul_le_mul_right _ (by omega);rw[Nat.pow_succ];omega
      obtain⟨u,hn,B,hk,D,I,hb⟩:=ih (i+1) _ k n d (by omega) h;have J:u≠0:=(λe=>by have:=B e;omega);have e1:(x.toNat%128+u*128)%128=x.toNat%128:=(by omega);have E:(x.toNat%128+u*128)/128=u:=(by omega);have a:acc+(x.toNat%128+u*128)* 128^i=acc+x.toNat%128*128^i+u*128^(i+1):=(by rw[Nat.add_mul,Nat.pow_succ,Nat.mul_assoc,Nat.mul_comm 128 (128^i)];omega);have y:jZ (x.toNat%128+u*128)=x::jZ u:=(by rw[vw (by omega),e1,E];congr 1;refine yw ?_;rw[aT (by omega)];omega);refine⟨x.toNat%128+u*128,by rw[a];exact hn,by omega,?_,?_,?_,by rw[a];exact hb⟩;rw[y,hk,List.length_cons];omega;rw[y,show k-i=(k-(i+1))+1 from by have:=qp u;omega,List.take_succ_cons,D];rw[List.length_cons];omega
    rw[if_neg c2] at h;by_cases c3:x.toNat=0/\0<i;rw[if_pos c3] at h;simp at h;rw[if_neg c3] at h;simp only[Prod.mk.injEq] at h;obtain⟨hn,hk,_⟩:=h;have y:jZ x.toNat=[x]:=(by rw[vk (by omega),D6]);refine⟨x.toNat,hn.symm,by omega,by rw[y];simp;omega,?_,by simp;omega,?_⟩;rw[y,show k-i=1 from by omega];simp;by_cases G:i=9;subst G;have:(128:Nat)^9=9223372036854775808:=(by decide);rw[this] at q|-;have:x.toNat<=1:=(by omega);omega;have h1:x.toNat*128^i<=127*128^i:=Nat.mul_le_mul_right _ (by omega);have h2:(128:Nat)^(i+1)<=128^9:=Nat.pow_le_pow_right (by omega) (by omega);have:(128:Nat)^9=9223372036854775808:=(by decide);rw[Nat.pow_succ] at h2;omega
def bG (n:Int):Bytes:=jZ (Hy n)
def nT (l:Bytes):Int×Nat×Int:=xm l 0 0
def inI64 (n:Int):Prop:= -9223372036854775808<=n/\n<=9223372036854775807
theorem YE (n:Int):1<=(bG n).length:=qp _
theorem aO {n:Int}(h:inI64 n):(bG n).length<=10:=QO (JA h.1 h.2)
theorem VR {n:Int}(h:inI64 n)(more:Bytes):nT (bG n++more)=(n,(bG n).length,0):=by unfold nT bG;rw[VP _ 0 0 more (λ_=>rfl) (by have:=JA h.1 h.2;omega)];simp[ab9]
theorem qw {l:Bytes}{n:Int}{k:Nat}(h:nT l=(n,k,0)):inI64 n/\k=(bG n).length/\1<=k/\k<=l.length/\l.take k=bG n:=by obtain⟨u,hn,_,hk,d,y,hb⟩:=VQ l 0 0 k n (by simp) (by omega) h;have a:n=Hz u:=(by simpa using hn);have q:Hy n=u:=(by rw[a,aca]);unfold bG;rw[q];have:=qp u;exact⟨by rw[a];exact⟨afi (by omega),afj (by omega)⟩,by omega,by omega,by omega,by simpa using d⟩
theorem YF (l:Bytes):∀(i acc:Nat),(xm l i acc).2.2=0\/∃e:Int,(e=9\/e=11)/\xm l i acc=(0,0,e):=by
 induction l with
 |nil=>intro i acc;exact .inr ⟨9,.inl rfl,rfl⟩
 |
  cons x t ih=>
  intro i acc;simp only[xm];split;exact .inr ⟨11,.inr rfl,rfl⟩;split;exact ih _ _;split;exact .inr ⟨11,.inr rfl,rfl⟩;exact .inl rfl
theorem NR (l:Bytes):(nT l).2.2=0\/∃e:Int,(e=9\/e=11)/\nT l=(0,0,e):=YF l 0 0
def jA (c:Nat):Nat:=if c%2=1 then (c/2) ^^^ 3988292384 else c/2
def iT:Nat->Nat->Nat
 |0,c=>c
 |n+1,c=>iT n (jA c)
def UF (c:Nat)(x:UInt8):Nat:=iT 8 (c ^^^ x.toNat)
def gK (c:Nat)(l:Bytes):Nat:=l.foldl UF c
def F6 (l:Bytes):Nat:=4294967295 ^^^ gK 4294967295 l
theorem tV {a b:Nat}(ha:a<4294967296)(hb:b<4294967296):a ^^^ b<4294967296:=
 Nat.xor_lt_two_pow (n:=32) ha hb
theorem QQ {c:Nat}(h:c<4294967296):jA c<4294967296:=by unfold jA;split;exact tV (by omega) (by omega);omega
theorem tX (n:Nat):∀ {c:Nat},c<4294967296->iT n c<4294967296:=by
 induction n with
 |zero=>intro c h;exact h
 |succ n ih=>intro c h;exact ih (QQ h)
theorem QR {c:Nat}(h:c<4294967296)(x:UInt8):UF c x<4294967296:=
 tX 8 (tV h (by have:=gJ x;omega))
theorem nU (l:Bytes):∀ {c:Nat},c<4294967296->gK c l<4294967296:=by
 induction l with
 |nil=>intro c h;exact h
 |cons x t ih=>intro c h;exact ih (QR h x)
theorem QS (l:Bytes):F6 l<4294967296:=tV (by omega) (nU l (by omega))
theorem wH (n:Nat):∀c,iT (n+1) c=jA (iT n c):=by
 induction n with
 |zero=>intro c;rfl
 |succ n ih=>intro c;rw[iT,ih (jA c)];rfl
theorem tY (c:Nat)(l m:Bytes):gK c (l++m)=gK (gK c l) m:=by simp[gK]
def pO (b:Bytes)(i d:Nat):Nat->Nat
 |0=>0
 |m+1=>if i+pO b i d m<b.length/\b[i+pO b i d m]?=b[i+pO b i d m-d]?/\pO b i d m=m then m+1 else pO b i d m
theorem UG (b:Bytes)(i d m:Nat):pO b i d m<=m:=by
 induction m with
 |zero=>simp [pO]
 |succ m ih=>simp only[pO];split<;>omega
def Stops (b:Bytes)(i d m n:Nat):Prop:=
 n<=m/\(∀k,k<n->i+k<b.length/\b[i+k]?=b[i+k-d]?)/\(n=m\/¬(i+n<b.length/\b[i+n]?=b[i+n-d]?))
theorem xn (b:Bytes)(i d m:Nat):Stops b i d m (pO b i d m):=by
 induction m with
 |zero=>exact ⟨Nat.le_refl _,λk hk=>by simp[pO] at hk,.inl rfl⟩
 |
  succ m ih=>
  obtain⟨h1,h2,h3⟩:=ih;simp only[pO];split;rename_i hc;refine⟨Nat.le_refl _,λk hk=>?_,.inl rfl⟩;by_cases a:k<pO b i d m;exact h2 k a;have q:k=pO b i d m:=(by omega);rw[q];exact⟨hc.1,hc.2.1⟩;rename_i hc;refine⟨by omega,h2,.inr λu=>?_⟩;rcases h3 with h3|h3;exact hc ⟨u.1,u.2,h3⟩;exact h3 u
theorem Stops.unique {b:Bytes}{i d m n a:Nat}(h:Stops b i d m n)(q:Stops b i d m a):n=a:=by rcases Nat.lt_trichotomy n a with hlt|he|hlt;rcases h.2.2 with e|e;have:=q.1;omega;exact absurd (q.2.1 n hlt) e;exact he;rcases q.2.2 with e|e;have:=h.1;omega;exact absurd (h.2.1 a hlt) e
theorem D7 {b:Bytes}{i d m n:Nat}(h:Stops b i d m n):pO b i d m=n:=(xn b i d m).unique h
def kT (b:Bytes)(i:Nat):Nat->Nat×Nat
 |0=>(0,0)
 |k+1=>if (kT b i k).1<pO b i (k+1) 130 then (pO b i (k+1) 130,k+1) else kT b i k
def far (i:Nat):Nat:=min 255 i
def bY (b:Bytes)(i:Nat):Nat×Nat:=kT b i (far i)
theorem JB (b:Bytes)(i k:Nat):(kT b i k).1<=130:=by
 induction k with
 |zero=>simp [kT]
 |
  succ k ih=>
  simp only[kT];split;exact UG _ _ _ _;exact ih
theorem H6 (b:Bytes)(i k:Nat):(kT b i k).1=0\/(1<=(kT b i k).2/\(kT b i k).2<=k/\(kT b i k).1=pO b i (kT b i k).2 130):=by
 induction k with
 |zero=>exact .inl rfl
 |
  succ k ih=>
  simp only[kT];split;exact .inr ⟨by simp,by simp,rfl⟩;rcases ih with h|h;exact .inl h;exact .inr ⟨h.1,by omega,h.2.2⟩
theorem NS (b:Bytes)(i d:Nat)(h:i<=b.length):i+pO b i d 130<=b.length:=by obtain⟨_,h2,_⟩:=xn b i d 130;rcases Nat.eq_zero_or_pos (pO b i d 130) with h0|h0;omega;have:=(h2 (pO b i d 130-1) (by omega)).1;omega
theorem NT (b:Bytes)(i k:Nat)(h:i<=b.length):i+(kT b i k).1<=b.length:=by rcases H6 b i k with h0|h0;omega;rw[h0.2.2];exact NS b i _ h
theorem QT (b:Bytes)(i k j:Nat)(hk:k<=j)(hi:i<=b.length)(h:min 130 (b.length-i)<=(kT b i k).1):kT b i j=kT b i k:=by
 induction j with
 |zero=>obtain rfl:k=0:=(by omega);rfl
 |
  succ j ih=>
  by_cases e:k=j+1;rw[e];have:=ih (by omega);simp only[kT];rw[if_neg (by rw[this];have h1:=UG b i (j+1) 130;have h2:=NS b i (j+1) hi;omega)];exact this
def lit (b:Bytes)(f e:Nat):Bytes:=if f<e then UInt8.ofNat (e-f-1)::(b.take e).drop f else []
def pk (b:Bytes)(f i:Nat):Bytes:=
 if h:i<b.length then
  if 3<=(bY b i).1 then lit b f i++(UInt8.ofNat ((bY b i).1+125)::UInt8.ofNat (bY b i).2::pk b (i+(bY b i).1) (i+(bY b i).1))
  else if i+1-f=128 then lit b f (i+1)++pk b (i+1) (i+1)
  else pk b f (i+1)
 else lit b f b.length
termination_by b.length-i
decreasing_by all_goals omega
def pack (b:Bytes):Bytes:=pk b 0 0
theorem JC {b:Bytes}{f i:Nat}(h:b.length<=i):pk b f i=lit b f b.length:=by rw[pk,dif_neg (by omega)]
theorem CO {b:Bytes}{f i:Nat}(h:i<b.length)(h3:3<=(bY b i).1):
 pk b f i=lit b f i++(UInt8.ofNat ((bY b i).1+125)::UInt8.ofNat (bY b i).2::pk b (i+(bY b i).1) (i+(bY b i).1)):=by rw[pk,dif_pos h,if_pos h3]
theorem CV {b:Bytes}{f i:Nat}(h:i<b.length)(h3:(bY b i).1<3)(hf:i+1-f=128):pk b f i=lit b f (i+1)++pk b (i+1) (i+1):=by rw[pk,dif_pos h,if_neg (by omega),if_pos hf]
theorem CX {b:Bytes}{f i:Nat}(h:i<b.length)(h3:(bY b i).1<3)(hf:i+1-f≠128):pk b f i=pk b f (i+1):=by rw[pk,dif_pos h,if_neg (by omega),if_neg hf]
def copyOut (out:Bytes)(d:Nat):Nat->Bytes
 |0=>out
 |n+1=>copyOut (out++[(out[out.length-d]?).getD 0]) d n
theorem tZ (d n:Nat):∀out:Bytes,(copyOut out d n).length=out.length+n:=by
 induction n with
 |zero=>intro out;rfl
 |succ n ih=>intro out;rw[copyOut,ih];simp;omega
def unp (most:Int)(l:Bytes)(out:Bytes):Bytes×Int:=
 match h:l with
 | []=>(out,0)
 |
  x::t=>
  if x.toNat<128 then
   if t.length<x.toNat+1 then ([],9)
   else if most<(out.length:Int)+x.toNat+1 then ([],2)
   else unp most (t.drop (x.toNat+1)) (out++t.take (x.toNat+1))
  else match h2:t with
   | []=>([],9)
   |
    d::u=>
    if d.toNat=0\/out.length<d.toNat then ([],11)
    else if most<(out.length:Int)+x.toNat-125 then ([],2)
    else unp most u (copyOut out d.toNat (x.toNat-125))
termination_by l.length
decreasing_by
 . simp;omega
 . simp;omega
def unpack (l:Bytes)(most:Int):Bytes×Int:=unp most l []
section
variable {most : Int} {out : Bytes}
theorem CY:unp most [] out=(out,0):=by rw[unp]
theorem CZ {x:UInt8}{t:Bytes}(h:x.toNat<128):unp most (x::t) out=
 if t.length<x.toNat+1 then ([],9) else if most<(out.length:Int)+x.toNat+1 then ([],2) else unp most (t.drop (x.toNat+1)) (out++t.take (x.toNat+1)):=by rw[unp.eq_def];dsimp only;rw[if_pos h]
theorem JD {x:UInt8}(h:128<=x.toNat):unp most [x] out=([],9):=by rw[unp,if_neg (by omega)]
theorem yx {x d:UInt8}{u:Bytes}(h:128<=x.toNat):unp most (x::d::u) out=
 if d.toNat=0\/out.length<d.toNat then ([],11) else if most<(out.length:Int)+x.toNat-125 then ([],2) else unp most u (copyOut out d.toNat (x.toNat-125)):=by rw[unp,if_neg (by omega)]
end
theorem YG {most:Int}(n:Nat):∀(l out o:Bytes),l.length=n->unp most l out=(o,0)->o=out\/(o.length:Int)<=most:=by
 induction n using Nat.strongRecOn with
 |
  _ n ih=>
  intro l out o hn h
  match l with
  |
   []=>
   rw[CY] at h;simp only[Prod.mk.injEq,and_true] at h;exact .inl h.symm
  |
   x::t=>
   by_cases hx:x.toNat<128;rw[CZ hx] at h;by_cases h1:t.length<x.toNat+1;rw[if_pos h1] at h;simp at h;rw[if_neg h1] at h;by_cases h2:most<(out.length:Int)+x.toNat+1;rw[if_pos h2] at h;simp at h;rw[if_neg h2] at h;rcases ih _ (by rw[<-hn];simp;omega) _ _ _ rfl h with h3|h3;refine .inr ?_;rw[h3,List.length_append,List.length_take];omega;exact .inr h3
   . match t with
     | []=>rw [JD (by omega)] at h;simp at h
     |
      d::u=>
      rw[yx (by omega)] at h;by_cases h1:d.toNat=0\/out.length<d.toNat;rw[if_pos h1] at h;simp at h;rw[if_neg h1] at h;by_cases h2:most<(out.length:Int)+x.toNat-125;rw[if_pos h2] at h;simp at h;rw[if_neg h2] at h;rcases ih _ (by rw[<-hn];simp;omega) _ _ _ rfl h with h3|h3;refine .inr ?_;rw[h3,tZ];omega;exact .inr h3
theorem NU {l o:Bytes}{most:Int}(h:unpack l most=(o,0)):o.length=0\/(o.length:Int)<=most:=by rcases YG _ l [] o rfl h with h1|h1;exact .inl (by rw[h1];rfl);exact .inr h1
theorem zo (b:Bytes){f e:Nat}(h:f<=e):b.take f++(b.take e).drop f=b.take e:=by rw[List.drop_take];have:b.take e=b.take f++(b.drop f).take (e-f):=(by rw[<-List.take_add,Nat.add_sub_cancel' h]);rw[this]
theorem qQ {most:Int}{b pre rest:Bytes}{f e:Nat}(hf:f<=e)(he:e<=b.length)(d:e-f<=128)(hm:(pre.length:Int)+e<=most):
 unp most (lit b f e++rest) (pre++b.take f)=unp most rest (pre++b.take e):=by unfold lit;by_cases a:f<e;rw[if_pos a,List.cons_append];have hn:(UInt8.ofNat (e-f-1)).toNat=e-f-1:=aT (by omega);have q:((b.take e).drop f).length=e-f:=(by simp;omega);rw[CZ (by omega),hn,if_neg (by rw[List.length_append,q];omega),if_neg (by rw[List.length_append,List.length_take];omega)];have e1:e-f-1+1=((b.take e).drop f).length:=(by rw[q];omega);rw[e1,List.drop_left,List.take_left,List.append_assoc,zo b hf];rw[if_neg a,show e=f from by omega];rfl
theorem JE (b pre:Bytes)(i d:Nat)(y:1<=d)(q:d<=i)(n:Nat):i+n<=b.length->(∀k,k<n->b[i+k]?=b[i+k-d]?)->
 copyOut (pre++b.take i) d n=pre++b.take (i+n):=by
 induction n generalizing i with
 |zero=>intro _ _;rfl
 |
  succ n ih=>
  intro hi h;have u:(pre++b.take i).length=pre.length+i:=(by simp;omega);have hx:(pre++b.take i)[(pre++b.take i).length-d]?=b[i-d]?:=(by rw[u,List.getElem?_append_right (by omega),List.getElem?_take,if_pos (by omega)];congr 1;omega);have h0:=h 0 (by omega);simp only[Nat.add_zero] at h0;have a:b[i]?=some b[i]:=List.getElem?_eq_getElem (by omega);rw[copyOut,hx,<-h0,a];have:pre++b.take i++[(some b[i]).getD 0]=pre++b.take (i+1):=(by rw[List.append_assoc,Option.getD_some,List.take_succ_eq_append_getElem (by omega)]);rw[this,ih (i+1) (by omega) (by omega) (λk hk=>by have:=h (k+1) (by omega);rwa [show i+1+k=i+(k+1) from by omega])];congr 2;omega
theorem oN {b:Bytes}{i:Nat}(hi:i<b.length)(h3:3<=(bY b i).1):
 1<=(bY b i).2/\(bY b i).2<=i/\(bY b i).2<=255/\(bY b i).1<=130/\i+(bY b i).1<=b.length/\
  ∀k,k<(bY b i).1->b[i+k]?=b[i+k-(bY b i).2]?:=by unfold bY at h3|-;have a:=JB b i (far i);have he:=NT b i (far i) (by omega);rcases H6 b i (far i) with h|⟨h1,h2,hm⟩;omega;have hf:far i<=i/\far i<=255:=(by unfold far;omega);have hs:=xn b i (kT b i (far i)).2 130;refine⟨h1,by omega,by omega,a,he,λk hk=>?_⟩;exact (hs.2.1 k (by omega)).2
theorem afk {most:Int}(b pre rest:Bytes)(hm:(pre.length:Int)+b.length<=most)(n:Nat):∀(f i:Nat),b.length-i=n->f<=i->i<=b.length->i-f<128->
 unp most (pk b f i++rest) (pre++b.take f)=unp most rest (pre++b):=by
 induction n using Nat.strongRecOn with
 |
  _ n ih=>
  intro f i hn hf hi q;rcases Nat.lt_or_ge i b.length with hlt|hge;by_cases h3:3<=(bY b i).1;obtain⟨h1,h2,u,y,a,hk⟩:=oN hlt h3;rw[CO hlt h3,List.append_assoc,qQ hf (by omega) (by omega) (by omega)];have e1:(UInt8.ofNat ((bY b i).1+125)).toNat=(bY b i).1+125:=aT (by omega);have B:(UInt8.ofNat (bY b i).2).toNat=(bY b i).2:=aT (by omega);have hlen:(pre++b.take i).length=pre.length+i:=(by simp;omega);simp only[List.cons_append];rw[yx (by omega),e1,B,hlen,if_neg (by omega),if_neg (by omega),Nat.add_sub_cancel,JE b pre i _ h1 h2 _ a hk];exact ih _ (by omega) _ _ rfl (by omega) (by omega) (by omega);by_cases d:i+1-f=128;rw[CV hlt (by omega) d,List.append_assoc,qQ (by omega) (by omega) (by omega) (by omega)];exact ih _ (by omega) _ _ rfl (by omega) (by omega) (by omega);rw[CX hlt (by omega) d];exact ih _ (by omega) f (i+1) rfl (by omega) (by omega) (by omega);rw[JC hge,qQ (by omega) (by omega) (by omega) (by omega),List.take_length]
theorem ad8 (b:Bytes):unpack (pack b) b.length=(b,0):=by have:=afk (most:=b.length) b [] [] (by simp) _ 0 0 rfl (by omega) (by omega) (by omega);simp only[List.append_nil,List.nil_append,List.take_zero] at this;rw[unpack,pack,this,CY]
theorem yz (b:Bytes){f e:Nat}(_hf:f<=e)(he:e<=b.length):(lit b f e).length=if f<e then e-f+1 else 0:=by unfold lit;split;simp;omega;rfl
theorem QU (b:Bytes)(n:Nat):∀(f i:Nat),b.length-i=n->f<=i->i<=b.length->i-f<128->(pk b f i).length<=(b.length-f)+(b.length-f+127)/128:=by
 induction n using Nat.strongRecOn with
 |
  _ n ih=>
  intro f i hn hf hi d;rcases Nat.lt_or_ge i b.length with hlt|hge;by_cases h3:3<=(bY b i).1;obtain⟨h1,h2,u,y,q,B⟩:=oN hlt h3;have:=ih _ (by omega) (i+(bY b i).1) (i+(bY b i).1) rfl (by omega) (by omega) (by omega);rw[CO hlt h3,List.length_append,yz b hf (by omega),List.length_cons,List.length_cons];split<;>omega;by_cases a:i+1-f=128;have:=ih _ (by omega) (i+1) (i+1) rfl (by omega) (by omega) (by omega);rw[CV hlt (by omega) a,List.length_append,yz b (by omega) (by omega),if_pos (by omega)];omega;rw[CX hlt (by omega) a];exact ih _ (by omega) f (i+1) rfl (by omega) (by omega) (by omega);rw[JC hge,yz b (by omega) (by omega)];split<;>omega
theorem iy (b:Bytes):(pack b).length<=b.length+(b.length+127)/128:=by have:=QU b _ 0 0 rfl (by omega) (by omega) (by omega);simpa [pack] using this
end Iv
namespace Iv
open Go.RowKit (wrap64)
theorem gm (n:Int):inI64 (wrap64 n):=by unfold inI64 wrap64;omega
theorem nV {b d:Int}(h:inI64 d):wrap64 (wrap64 (b+d)-b)=d:=by unfold inI64 at h;unfold wrap64;omega
structure Ev where
 thread:Int
 kind:Int
 obj:Int
 value:Int
 site:Int
 deps:List Int
 from_:List Int
structure Rec where
 seq:Int
 ev:Ev
def allI64 (l:List Int):Prop:=∀n∈l,inI64 n
def dF (last:Int):List Int->Bytes
 | []=> []
 |k::t=>bG (wrap64 (k-last))++dF k t
def mY (l:List Int):Bytes:=bG l.length++dF 0 l
def gq (r:Rec)(seq:Int):Bytes:=
 bG (wrap64 (r.seq-seq))++(bG r.ev.kind++(bG r.ev.obj++(bG r.ev.value++(bG r.ev.site++(mY r.ev.deps++mY r.ev.from_)))))
structure Rd where
 at_:Nat
 err:Int
def rdNum (b:Bytes)(s:Rd):Int×Rd:=
 if s.err=0 then
  if (nT (b.drop s.at_)).2.2=0 then ((nT (b.drop s.at_)).1,⟨s.at_+(nT (b.drop s.at_)).2.1,0⟩) else (0,⟨s.at_,(nT (b.drop s.at_)).2.2⟩)
 else (0,s)
def dG (b:Bytes):Nat->Int->Rd->List Int×Rd
 |0,_,s=>([],s)
 |
  n+1,last,s=>
  if s.err=0 then
   (wrap64 (last+(rdNum b s).1)::(dG b n (wrap64 (last+(rdNum b s).1)) (rdNum b s).2).1,(dG b n (wrap64 (last+(rdNum b s).1)) (rdNum b s).2).2)
  else ([],s)
def oO (p:Int×Rd):Rd:=if p.2.err=0/\(p.1<0\/400<p.1) then ⟨p.2.at_,11⟩ else p.2
def dS (b:Bytes)(s:Rd):List Int×Rd:=dG b (rdNum b s).1.toNat 0 (oO (rdNum b s))
structure RdAll where
 s0:Int×Rd
 s1:Int×Rd
 s2:Int×Rd
 s3:Int×Rd
 s4:Int×Rd
 l5:List Int×Rd
 l6:List Int×Rd
def D8 (b:Bytes):RdAll:=
 let s0:=rdNum b ⟨0,0⟩
 let s1:=rdNum b s0.2
 let s2:=rdNum b s1.2
 let s3:=rdNum b s2.2
 let s4:=rdNum b s3.2
 let l5:=dS b s4.2
 let l6:=dS b l5.2
 ⟨s0,s1,s2,s3,s4,l5,l6⟩
def afl:Ev:=⟨0,0,0,0,0,[],[]⟩
def JF:Rec:=⟨0,afl⟩
def dO (b:Bytes)(thread seq:Int):Rec×Nat×Int:=
 let a:=D8 b
 if a.l6.2.err=0 then (⟨wrap64 (seq+a.s0.1),⟨thread,a.s1.1,a.s2.1,a.s3.1,a.s4.1,a.l5.1,a.l6.1⟩⟩,a.l6.2.at_,0) else (JF,0,a.l6.2.err)
theorem qx {b:Bytes}{s:Rd}(h:s.err≠0):rdNum b s=(0,s):=by unfold rdNum;rw[if_neg h]
theorem vz {b rest:Bytes}{s:Rd}{n:Int}(hn:inI64 n)(he:s.err=0)(hb:b.drop s.at_=bG n++rest):
 rdNum b s=(n,⟨s.at_+(bG n).length,0⟩):=by unfold rdNum;rw[if_pos he,hb,VR hn];rfl
theorem zq {b x rest:Bytes}{k:Nat}(h:b.drop k=x++rest):b.drop (k+x.length)=rest:=by rw[<-List.drop_drop,h,List.drop_left]
theorem AZ {b:Bytes}{n:Nat}{last:Int}{s:Rd}(h:s.err≠0):dG b n last s=([],s):=by
 cases n with
 |zero=>rfl
 |succ n=>rw [dG,if_neg h]
theorem QV {b:Bytes}{s:Rd}(h:s.err≠0):dS b s=([],s):=by unfold dS oO;rw[qx h];simp[dG]
structure RecOk (r:Rec):Prop where
 seq:inI64 r.seq
 thread:inI64 r.ev.thread
 kind:inI64 r.ev.kind
 obj:inI64 r.ev.obj
 value:inI64 r.ev.value
 site:inI64 r.ev.site
 deps:allI64 r.ev.deps
 from_:allI64 r.ev.from_
 ld:r.ev.deps.length<=400
 lf:r.ev.from_.length<=400
theorem ug {b:Bytes}{s:Rd}(h:(rdNum b s).2.err=0):s.err=0:=by by_cases h0:s.err=0;exact h0;rw[qx h0] at h;exact h
theorem xq {b:Bytes}{n:Nat}{last:Int}{s:Rd}(h:(dG b n last s).2.err=0):s.err=0:=by by_cases h0:s.err=0;exact h0;rw[AZ h0] at h;exact h
theorem H7 {b:Bytes}{s:Rd}(h:(dS b s).2.err=0):s.err=0:=by by_cases h0:s.err=0;exact h0;rw[QV h0] at h;exact h
theorem D9 {b:Bytes}{s:Rd}(h:(rdNum b s).2.err=0):inI64 (rdNum b s).1/\(rdNum b s).2=⟨s.at_+(bG (rdNum b s).1).length,0⟩/\
 (b.drop s.at_).take (bG (rdNum b s).1).length=bG (rdNum b s).1/\(bG (rdNum b s).1).length<=(b.drop s.at_).length:=by have h0:=ug h;unfold rdNum at h|-;rw[if_pos h0] at h|-;by_cases h1:(nT (b.drop s.at_)).2.2=0;rw[if_pos h1];have:=qw (l:=b.drop s.at_) (n:=(nT (b.drop s.at_)).1) (k:=(nT (b.drop s.at_)).2.1) (by rw[<-h1]);obtain⟨a1,a2,a3,a4,a5⟩:=this;dsimp only;rw[<-a2];exact⟨a1,rfl,a5,a4⟩;rw[if_neg h1] at h;exact absurd h h1
theorem zt {b x y:Bytes}{k:Nat}(h1:(b.drop k).take x.length=x)(_hx:x.length<=(b.drop k).length)(h2:(b.drop (k+x.length)).take y.length=y):
 (b.drop k).take (x.length+y.length)=x++y:=by rw[List.take_add,h1,List.drop_drop,h2]
def Piece (b:Bytes)(k:Nat)(x:Bytes):Prop:=(b.drop k).take x.length=x/\x.length<=(b.drop k).length
theorem Piece.nil (b:Bytes)(k:Nat):Piece b k []:=⟨rfl,by simp⟩
theorem Piece.cat {b x y:Bytes}{k:Nat}(h:Piece b k x)(a:Piece b (k+x.length) y):Piece b k (x++y):=by
 refine⟨?_,?_⟩;rw[List.length_append];exact zt h.1 h.2 a.1
 . have h1:=h.2;have h2:=a.2;simp only[List.length_drop,List.length_append] at *
   omega
theorem jk {b:Bytes}{s:Rd}(h:(rdNum b s).2.err=0):inI64 (rdNum b s).1/\(rdNum b s).2=⟨s.at_+(bG (rdNum b s).1).length,0⟩/\Piece b s.at_ (bG (rdNum b s).1):=
 let ⟨a,c,d,e⟩:=D9 h
 ⟨a,c,d,e⟩
theorem JG {b:Bytes}(n:Nat):∀(last:Int) (s:Rd),(dG b n last s).2.err=0->
 allI64 (dG b n last s).1/\(dG b n last s).1.length=n/\(dG b n last s).2=⟨s.at_+(dF last (dG b n last s).1).length,0⟩/\Piece b s.at_ (dF last (dG b n last s).1):=by
 induction n with
 |
  zero=>
  intro last s h;refine⟨by intro k hk;simp[dG] at hk,rfl,?_,Piece.nil b _⟩
  cases s
  simp only[dG] at h|-;simp_all [dF]
 |
  succ n ih=>
  intro last s h;have h0:=xq h;simp only[dG] at h|-;rw[if_pos h0] at h|-;dsimp only at h|-;have h1:=xq h;obtain⟨q,u,y,a⟩:=ih _ _ h;obtain⟨n1,n2,n3⟩:=jk h1;have d:wrap64 (wrap64 (last+(rdNum b s).1)-last)=(rdNum b s).1:=nV n1;refine⟨?_,by rw[List.length_cons,u],?_,?_⟩;intro k hk;rcases List.mem_cons.1 hk with rfl|hk;exact gm _;exact q k hk;rw[y];simp only[dF,d,List.length_append];rw[n2];dsimp only;congr 1;omega;simp only[dF,d];refine n3.cat ?_;rw[n2] at a|-;exact a
theorem Ba {b:Bytes}{s:Rd}(h:(dS b s).2.err=0):allI64 (dS b s).1/\(dS b s).1.length<=400/\
 (dS b s).2=⟨s.at_+(mY (dS b s).1).length,0⟩/\Piece b s.at_ (mY (dS b s).1):=by
 unfold dS at h|-;have h1:=xq h;have hc:¬((rdNum b s).2.err=0/\((rdNum b s).1<0\/400<(rdNum b s).1)):=(by intro hc;unfold oO at h1;rw[if_pos hc] at h1;simp at h1);have he:oO (rdNum b s)=(rdNum b s).2:=(by unfold oO;rw[if_neg hc]);rw[he] at h h1|-;obtain⟨n1,n2,n3⟩:=jk h1;obtain⟨q,u,y,a⟩:=JG _ _ _ h;have hn:((rdNum b s).1.toNat:Int)=(rdNum b s).1:=(by omega);generalize B:(dG b (rdNum b s).1.toNat 0 (rdNum b s).2)=l at *
 have d:mY l.1=bG (rdNum b s).1++dF 0 l.1:=(by unfold mY;rw[u,hn]);refine⟨q,by omega,?_,?_⟩;rw[y,d,n2,List.length_append];dsimp only;congr 1;omega;rw[d];refine n3.cat ?_;rw[n2] at a;exact a
theorem sW {b:Bytes}{thread seq:Int}{r:Rec}{k:Nat}(U:inI64 thread)(h:dO b thread seq=(r,k,0)):
 RecOk r/\r.ev.thread=thread/\k=(gq r seq).length/\1<=k/\k<=b.length/\b.take k=gq r seq:=by
 unfold dO at h;dsimp only at h;by_cases he:(D8 b).l6.2.err=0
 . rw[if_pos he] at h;simp only[Prod.mk.injEq] at h;obtain⟨hr,hk,_⟩:=h;unfold D8 at he hr hk;dsimp only at he hr hk;obtain⟨V,X,Y,f4⟩:=Ba he;have a:=H7 he;obtain⟨Z,d2,B,I⟩:=Ba a;have d:=H7 a;obtain⟨g1,D,J⟩:=jk d;have q:=ug d;obtain⟨v1,E,v3⟩:=jk q;have u:=ug q;obtain⟨o1,o2,o3⟩:=jk u;have y:=ug u;obtain⟨k1,G,L⟩:=jk y;have H:=ug y;obtain⟨M,N,q3⟩:=jk H;generalize rdNum b ⟨0,0⟩=S0 at *
   generalize rdNum b S0.2=S1 at *
   generalize rdNum b S1.2=S2 at *
   generalize rdNum b S2.2=S3 at *
   generalize rdNum b S3.2=S4 at *
   generalize dS b S4.2=L5 at *
   generalize dS b L5.2=L6 at *
   have O:Piece b 0 (gq r seq):=(by rw[<-hr];unfold gq;dsimp only;rw[nV M];refine q3.cat ?_;rw[N] at L G;refine L.cat ?_;rw[G] at o3 o2;refine o3.cat ?_;rw[o2] at v3 E;refine v3.cat ?_;rw[E] at J D;refine J.cat ?_;rw[D] at I B;refine I.cat ?_;rw[B] at f4;exact f4);have hlen:k=(gq r seq).length:=(by rw[<-hk,Y,B,D,E,o2,G,N,<-hr];unfold gq;dsimp only;rw[nV M];simp only[List.length_append];omega);have R:1<=(gq r seq).length:=(by unfold gq;rw[List.length_append];have:=YE (wrap64 (r.seq-seq));omega);refine⟨?_,by rw[<-hr],hlen,by omega,?_,?_⟩;rw[<-hr];exact⟨gm _,U,k1,o1,v1,g1,Z,V,d2,X⟩;have:=O.2;simp at this;omega;rw[hlen];have:=O.1;simpa using this
 rw[if_neg he] at h;simp only[Prod.mk.injEq] at h;exact absurd h.2.2 he
def Cut (b:Bytes)(s:Rd)(rest:Bytes):Prop:=s.err=9\/(s.err=0/\∃j,j<rest.length/\b.drop s.at_=rest.take j)
theorem wI (l:List Int):∀last,(dF last l).length<=10*l.length:=by
 induction l with
 |nil=>intro last;simp[dF]
 |
  cons k t ih=>
  intro last;have:=ih k;have:=aO (gm (k-last));simp only[dF,List.length_append,List.length_cons];omega
theorem tC (l:List Int)(h:l.length<=400):(mY l).length<=4010:=by unfold mY;have:=wI l 0;have:=aO (n:=(l.length:Int)) ⟨by omega,by omega⟩;simp only[List.length_append];omega
theorem Ea {r:Rec}(h:RecOk r)(seq:Int):(gq r seq).length<=8070:=by unfold gq;have:=aO (gm (r.seq-seq));have:=aO h.kind;have:=aO h.obj;have:=aO h.value;have:=aO h.site;have:=tC _ h.ld;have:=tC _ h.lf;simp only[List.length_append];omega
structure Blk where
 thread:Int
 first:Int
 recs:List Rec
def aC:Blk:=⟨0,0,[]⟩
def okRecs (thread:Int):Int->List Rec->Bool
 |_,[]=>true
 |seq,r::t=>decide (r.ev.thread=thread) && decide (seq<r.seq) && decide (r.ev.deps.length<=400) && decide (r.ev.from_.length<=400) && okRecs thread r.seq t
def nS (x:Blk):Bool:=decide (0<x.recs.length) && decide (0<=x.thread) && decide (x.thread<4) && decide (0<=x.first) && decide (x.first<=400) && okRecs x.thread (-1) x.recs
def fits (x:Blk):Int:=if 64<x.recs.length then 2 else if nS x then 0 else 1
def aZ:Int->List Rec->Bytes
 |_,[]=> []
 |seq,r::t=>gq r seq++aZ r.seq t
def Gt (c:Nat):Bytes:=[UInt8.ofNat (c/16777216),UInt8.ofNat (c/65536),UInt8.ofNat (c/256),UInt8.ofNat c]
def jB (thread first n size packed:Int):Bytes:=84::UInt8.ofNat (thread%256).toNat::(bG first++(bG n++(bG size++bG packed)))
def dY (x:Blk):Bytes:=
 jB x.thread x.first x.recs.length (aZ (-1) x.recs).length (pack (aZ (-1) x.recs)).length++pack (aZ (-1) x.recs)
def dC (x:Blk):Bytes:=dY x++Gt (F6 (dY x))
def encode (x:Blk):Bytes×Int:=if fits x=0 then (dC x,0) else ([],fits x)
def eP (thread:Int):Nat->Int->Bytes->Option (List Rec×Bytes)
 |0,_,b=>some ([],b)
 |
  n+1,seq,b=>
  if (dO b thread seq).2.2=0 then
   match eP thread n (dO b thread seq).1.seq (b.drop (dO b thread seq).2.1) with
   |some (l,t)=>some ((dO b thread seq).1::l,t)
   |none=>none
  else none
structure Head where
 first:Int×Rd
 n:Int×Rd
 size:Int×Rd
 packed:Int×Rd
def bD (b:Bytes):Head:=
 let a0:=rdNum b ⟨2,0⟩
 let a1:=rdNum b a0.2
 let a2:=rdNum b a1.2
 let a3:=rdNum b a2.2
 ⟨a0,a1,a2,a3⟩
def jC (t:UInt8)(h:Head):Bool:=
 decide (4<=t.toNat) || decide (h.first.1<0) || decide (400<h.first.1) || decide (h.n.1<1) || decide (64<h.n.1) || decide (h.size.1<0) || decide (1048576<h.size.1) || decide (h.packed.1<0) || decide (1048576<h.packed.1)
def uh (b:Bytes)(t:UInt8)(first:Int)(n:Nat)(size:Int)(from_ end_:Nat):Blk×Nat×Int:=
 let p:=unpack ((b.take end_).drop from_) size
 if p.2=0/\(p.1.length:Int)=size then
  match eP t.toNat n (-1) p.1 with
  |some (l,[])=>if encode ⟨t.toNat,first,l⟩=(b.take (end_+4),0) then (⟨t.toNat,first,l⟩,end_+4,0) else (aC,0,11)
  |_=>(aC,0,11)
 else (aC,0,11)
def Bc (b:Bytes)(t:UInt8)(first:Int)(n:Nat)(size:Int)(from_ end_:Nat):Blk×Nat×Int:=
 let p:=unpack ((b.take end_).drop from_) size
 if p.2=0 then
  match eP t.toNat n (-1) p.1 with
  |some (l,[])=>if encode ⟨t.toNat,first,l⟩=(b.take (end_+4),0) then (⟨t.toNat,first,l⟩,end_+4,0) else (aC,0,11)
  |_=>(aC,0,11)
 else (aC,0,11)
def iU (tail:Bytes->UInt8->Int->Nat->Int->Nat->Nat->Blk×Nat×Int)(b:Bytes):Blk×Nat×Int:=
 match b with
 | []=>(aC,0,9)
 |
  x::u=>
  if x.toNat≠84 then (aC,0,11)
  else match u with
   | []=>(aC,0,9)
   |
    t::_=>
    if (bD b).packed.2.err≠0 then (aC,0,(bD b).packed.2.err)
    else if jC t (bD b) then (aC,0,11)
    else if b.length<(bD b).packed.2.at_+(bD b).packed.1.toNat+4 then (aC,0,9)
    else if (b.drop ((bD b).packed.2.at_+(bD b).packed.1.toNat)).take 4≠Gt (F6 (b.take ((bD b).packed.2.at_+(bD b).packed.1.toNat))) then (aC,0,10)
    else tail b t (bD b).first.1 (bD b).n.1.toNat (bD b).size.1 (bD b).packed.2.at_ ((bD b).packed.2.at_+(bD b).packed.1.toNat)
def decode (b:Bytes):Blk×Nat×Int:=iU uh b
def dm (b:Bytes):Blk×Nat×Int:=iU Bc b
theorem qR (thread:Int)(a:inI64 thread)(n:Nat):∀(seq:Int) (b:Bytes) (l:List Rec) (t:Bytes),eP thread n seq b=some (l,t)->
 l.length=n/\b=aZ seq l++t/\(∀r∈l,RecOk r/\r.ev.thread=thread):=by
 induction n with
 |
  zero=>
  intro seq b l t h;simp only[eP,Option.some.injEq,Prod.mk.injEq] at h;obtain⟨rfl,rfl⟩:=h;exact⟨rfl,rfl,λr hr=>by simp at hr⟩
 |
  succ n ih=>
  intro seq b l t h;simp only[eP] at h;by_cases he:(dO b thread seq).2.2=0
  . rw[if_pos he] at h
    cases hg:eP thread n (dO b thread seq).1.seq (b.drop (dO b thread seq).2.1) with
    |none=>rw [hg] at h;simp at h
    |
     some p=>
     obtain⟨l',D⟩:=p;rw[hg] at h;simp only[Option.some.injEq,Prod.mk.injEq] at h;obtain⟨rfl,rfl⟩:=h;obtain⟨d,q,u⟩:=ih _ _ _ _ hg;have:=sW (b:=b) (thread:=thread) (seq:=seq) (r:=(dO b thread seq).1) (k:=(dO b thread seq).2.1) a (by rw[<-he]);obtain⟨r1,y,E,_,G,B⟩:=this;refine⟨by simp[d],?_,?_⟩;simp only[aZ,List.append_assoc];rw[<-q,<-B,List.take_append_drop];intro r hr;rcases List.mem_cons.1 hr with rfl|hr;exact⟨r1,y⟩;exact u r hr
  rw[if_neg he] at h;simp at h
theorem NV {b rest:Bytes}{t0 y:UInt8}{first n size packed:Int}(h1:inI64 first)(h2:inI64 n)(h3:inI64 size)(h4:inI64 packed)
 (hb:b=t0::y::(bG first++(bG n++(bG size++bG packed)))++rest):
 (bD b).first.1=first/\(bD b).n.1=n/\(bD b).size.1=size/\
  (bD b).packed=(packed,⟨2+((bG first).length+((bG n).length+((bG size).length+(bG packed).length))),0⟩):=by have a:b.drop 2=bG first++(bG n++(bG size++(bG packed++rest))):=(by rw[hb];simp);have a0:=vz (s:=⟨2,0⟩) h1 rfl a;have d:=zq a;have a1:=vz (s:=⟨_,0⟩) h2 rfl d;have q:=zq d;have a2:=vz (s:=⟨_,0⟩) h3 rfl q;have u:=zq q;have a3:=vz (s:=⟨_,0⟩) h4 rfl u;unfold bD;simp only[a0,a1,a2,a3];refine⟨trivial,trivial,trivial,?_⟩;congr 2;omega
theorem wJ {t:UInt8}{h:Head}(a:jC t h=false):t.toNat<4/\0<=h.first.1/\h.first.1<=400/\1<=h.n.1/\h.n.1<=64/\0<=h.size.1/\h.size.1<=1048576/\0<=h.packed.1/\h.packed.1<=1048576:=by unfold jC at a;simp only[Bool.or_eq_false_iff,decide_eq_false_iff_not] at a;omega
theorem yA (c:Nat):(Gt c).length=4:=rfl
theorem Eb {b:Bytes}{x:Blk}{k:Nat}(hf:inI64 x.first)(hn:x.recs.length<=64)(hs:(aZ (-1) x.recs).length<=4611686018427387904)(hk:b.take k=dC x):
 (bD b).size.1=(aZ (-1) x.recs).length:=by
 have a:=iy (aZ (-1) x.recs)
 have hb:b=84::UInt8.ofNat (x.thread%256).toNat::(bG x.first++(bG x.recs.length++(bG (aZ (-1) x.recs).length++bG (pack (aZ (-1) x.recs)).length)))++
  (pack (aZ (-1) x.recs)++(Gt (F6 (dY x))++b.drop k)):=by
  conv=>lhs;rw[<-List.take_append_drop k b,hk]
  unfold dC dY jB;simp only[List.append_assoc,List.cons_append]
 exact (NV hf ⟨by omega,by omega⟩ ⟨by omega,by omega⟩ ⟨by omega,by omega⟩ hb).2.2.1
theorem zu {x:Blk}{y:Bytes}(h:encode x=(y,0)):fits x=0/\y=dC x:=by unfold encode at h;by_cases hf:fits x=0;rw[if_pos hf] at h;simp only[Prod.mk.injEq] at h;exact⟨hf,h.1.symm⟩;rw[if_neg hf] at h;simp only[Prod.mk.injEq] at h;exact absurd h.2 hf
theorem QW {b:Bytes}{t:UInt8}{first:Int}{n:Nat}{from_ end_:Nat}(hf:inI64 first)(E:(bD b).size.1<=1048576):
 uh b t first n (bD b).size.1 from_ end_=Bc b t first n (bD b).size.1 from_ end_:=by
 unfold uh Bc;dsimp only;generalize G:unpack ((b.take end_).drop from_) (bD b).size.1=p;by_cases h0:p.2=0
 . by_cases B:(p.1.length:Int)=(bD b).size.1;rw[if_pos ⟨h0,B⟩,if_pos h0]
   . rw[if_neg (λh=>B h.2),if_pos h0]
     cases hg:eP t.toNat n (-1) p.1 with
     |none=>rfl
     |
      some q=>
      obtain⟨l,u⟩:=q
      cases u with
      |cons=>rfl
      |
       nil=>
       dsimp only;split
       . rename_i he;obtain⟨a,H⟩:=zu he;have L:=gJ t;obtain⟨M,I,_⟩:=qR t.toNat ⟨by omega,by omega⟩ n _ _ _ _ hg;have D:l.length<=64:=by
          unfold fits at a;by_cases J:64<l.length;rw[if_pos (show 64<(⟨t.toNat,first,l⟩:Blk).recs.length from J)] at a;simp at a;omega
         have d:p.1=aZ (-1) l:=(by simpa using I);have y:(aZ (-1) l).length<=4611686018427387904:=(by have:=NU (l:=(b.take end_).drop from_) (o:=p.1) (most:=(bD b).size.1) (by rw[G,<-h0]);rw[<-d];omega);have:=Eb (b:=b) (x:=⟨t.toNat,first,l⟩) (k:=end_+4) hf D y H;exact absurd (by rw[d];exact this.symm) B
       rfl
 rw[if_neg (λh=>h0 h.1),if_neg h0]
theorem Be (b:Bytes):decode b=dm b:=by
 unfold decode dm iU
 match b with
 | []=>rfl
 |
  x::u=>
  dsimp only;split;rfl
  . match u with
    | []=>rfl
    |
     t::v=>
     dsimp only;split;rfl;split;rfl;rename_i he hb;have a:=wJ (by simpa using hb);split;rfl;split;rfl;exact QW ⟨by omega,by omega⟩ (by omega)
theorem pK (thread:Int)(l:List Rec):∀seq,okRecs thread seq l=true->∀r∈l,r.ev.thread=thread/\r.ev.deps.length<=400/\r.ev.from_.length<=400/\seq<r.seq:=by
 induction l with
 |nil=>intro seq _ r hr;simp at hr
 |
  cons q t ih=>
  intro seq h r hr;simp only[okRecs,Bool.and_eq_true,decide_eq_true_eq] at h;rcases List.mem_cons.1 hr with rfl|hr;exact⟨h.1.1.1.1,h.1.1.2,h.1.2,h.1.1.1.2⟩;have:=ih _ h.2 r hr;exact⟨this.1,this.2.1,this.2.2.1,by omega⟩
theorem iH {x:Blk}(h:fits x=0):0<x.recs.length/\x.recs.length<=64/\0<=x.thread/\x.thread<4/\0<=x.first/\x.first<=400/\okRecs x.thread (-1) x.recs=true:=by unfold fits at h;by_cases h1:64<x.recs.length;rw[if_pos h1] at h;simp at h;rw[if_neg h1] at h;by_cases h2:nS x=true;unfold nS at h2;simp only[Bool.and_eq_true,decide_eq_true_eq] at h2;obtain⟨⟨⟨⟨⟨a,b⟩,c⟩,d⟩,e⟩,f⟩:=h2;exact⟨a,by omega,b,c,d,e,f⟩;rw[if_neg h2] at h;simp at h
theorem lZ (l:List Rec):∀seq,(∀r∈l,RecOk r)->(aZ seq l).length<=8070*l.length:=by
 induction l with
 |nil=>intro seq _;simp[aZ]
 |
  cons r t ih=>
  intro seq h;have h1:=Ea (h r (by simp)) seq;have h2:=ih r.seq λq a=>h q (by simp[a]);simp only[aZ,List.length_append,List.length_cons];omega
end Iv
namespace Iv
end Iv
namespace Iv
open Go.RowKit (wrap64)
theorem oP {b:Bytes}{x:Blk}{k:Nat}(h:decode b=(x,k,0)):fits x=0/\b.take k=dC x/\k<=b.length/\0<k:=by have key:fits x=0/\b.take k=dC x/\k<=b.length:=(by unfold decode iU at h;split at h;simp at h;split at h;simp at h;split at h;simp at h;split at h;rename_i he;simp only[Prod.mk.injEq] at h;exact absurd h.2.2 he;split at h;simp at h;split at h;simp at h;rename_i hlen;split at h;simp at h;unfold uh at h;dsimp only at h;split at h;split at h;split at h;rename_i a;simp only[Prod.mk.injEq] at h;obtain⟨h1,h2,_⟩:=h;subst h1 h2;obtain⟨f0,d⟩:=zu a;refine⟨f0,d,by omega⟩;simp at h;simp at h;simp at h);refine⟨key.1,key.2.1,key.2.2,?_⟩;rcases Nat.eq_zero_or_pos k with h0|h0;have h1:=key.2.1;rw[h0,List.take_zero] at h1;unfold dC dY jB at h1;simp at h1;exact h0
def mP (th recs last:Int)(d:Blk×Nat×Int):Bool:=
 decide (d.2.2=0) && decide (d.1.thread=th) && decide (d.1.first=recs) &&(match d.1.recs with | []=>false|r::_=>decide (last<r.seq))
def mZ (x:Blk)(e:Int):Int:=match x.recs.getLast? with|some r=>r.seq|none=>e
def bZ (th:Int):Nat->Bytes->Int->Int->List (Blk×Nat)
 |0,_,_,_=> []
 |
  f+1,b,recs,last=>
  if mP th recs last (decode b) then ((decode b).1,(decode b).2.1)::bZ th f (b.drop (decode b).2.1) (recs+(decode b).1.recs.length) (mZ (decode b).1 last) else []
theorem lY {th recs last:Int}{b:Bytes}(h:mP th recs last (decode b)=true):(decode b).2.2=0/\(decode b).2.1<=b.length/\0<(decode b).2.1/\fits (decode b).1=0:=by unfold mP at h;simp only[Bool.and_eq_true,decide_eq_true_eq] at h;have he:decode b=((decode b).1,(decode b).2.1,0):=(by rw[<-h.1.1.1]);have:=oP he;exact⟨h.1.1.1,this.2.2.1,this.2.2.2,this.1⟩
theorem Gu (th:Int)(f:Nat):∀(g:Nat) (b:Bytes) (recs last:Int),b.length<f->b.length<g->bZ th f b recs last=bZ th g b recs last:=by
 induction f with
 |zero=>intro g b recs last h;omega
 |
  succ f ih=>
  intro g b recs last hf hg;obtain⟨g,rfl⟩:∃d,g=d+1:=⟨g-1,by omega⟩;unfold bZ;split;rename_i a;obtain⟨_,h1,h2,_⟩:=lY a;congr 1;exact ih g _ _ _ (by rw[List.length_drop];omega) (by rw[List.length_drop];omega);rfl
def aN (th:Int)(b:Bytes)(recs last:Int):List (Blk×Nat):=bZ th (b.length+1) b recs last
theorem ui {th recs last:Int}{b:Bytes}(h:mP th recs last (decode b)=true):
 aN th b recs last=((decode b).1,(decode b).2.1)::aN th (b.drop (decode b).2.1) (recs+(decode b).1.recs.length) (mZ (decode b).1 last):=by
 obtain⟨_,h1,h2,_⟩:=lY h;unfold aN
 conv=>lhs;unfold bZ
 rw[if_pos h];congr 1;exact Gu th _ _ _ _ _ (by rw[List.length_drop];omega) (by omega)
theorem fB {th recs last:Int}{b:Bytes}(h:mP th recs last (decode b)=false):aN th b recs last=[]:=by unfold aN bZ;rw[if_neg (by rw[h];decide)]
def sizeB (l:List (Blk×Nat)):Nat:=(l.map (·.2)).sum
structure RecFit (r:Rec):Prop where
 seq:inI64 r.seq
 thread:inI64 r.ev.thread
 kind:inI64 r.ev.kind
 obj:inI64 r.ev.obj
 value:inI64 r.ev.value
 site:inI64 r.ev.site
 deps:allI64 r.ev.deps
 from_:allI64 r.ev.from_
structure Pln where
 cap:Int
 flushes:List (Int×Int)
 stop:Int
 cuts:List Int
def jT (thr:Int)(f:Int×Int):Bool:=decide (0<=f.1) && decide (0<=f.2) && decide (f.2<thr)
def jQ (thr:Int)(p:Pln):Bool:=decide (1<=thr) && decide (thr<=4) && decide (1<=p.cap) && decide (p.cap<=64) && decide (0<=p.stop)
def qU (thr:Int)(p:Pln):Bool:=jQ thr p && p.flushes.all (jT thr) && p.cuts.all (λn=>decide (0<=n)) && decide ((p.cuts.length:Int)<=thr)
def BP (thr:Int)(e:Ev):Bool:=decide (0<=e.thread) && decide (e.thread<thr) && decide (e.deps.length<=400) && decide (e.from_.length<=400)
def bP (l:List Ev)(thr:Int)(p:Pln):Int:=if qU thr p then (if 400<l.length then 2 else if l.all (BP thr) then 0 else 1) else 1
structure St where
 buf:Nat->List Rec
 first:Nat->Int
 file:Nat->Bytes
def upd {α:Type}(f:Nat->α)(t:Nat)(x:α):Nat->α:=λk=>if k=t then x else f k
theorem bV {α:Type}(f:Nat->α)(t:Nat)(x:α):upd f t x t=x:=by simp[upd]
theorem bu {α:Type}(f:Nat->α){t k:Nat}(x:α)(h:k≠t):upd f t x k=f k:=by simp[upd,h]
def ad9 (s:St)(t:Nat):Blk:=⟨t,s.first t,s.buf t⟩
def St.write (s:St)(t:Nat):St:=
 if (s.buf t).length=0 then s else ⟨upd s.buf t [],upd s.first t (s.first t+(s.buf t).length),upd s.file t (s.file t++(encode (ad9 s t)).1)⟩
def St.push (s:St)(t:Nat)(r:Rec):St:=⟨upd s.buf t (s.buf t++[r]),s.first,s.file⟩
def St.add (s:St)(cap:Int)(seq:Nat)(e:Ev):St:=
 if (((s.buf e.thread.toNat).length+1:Nat):Int)=cap\/e.kind=2 then (s.push e.thread.toNat ⟨seq,e⟩).write e.thread.toNat else s.push e.thread.toNat ⟨seq,e⟩
def St.flush (s:St)(n:Nat):List (Int×Int)->St
 | []=>s
 |f::fs=>St.flush (if f.1=n then s.write f.2.toNat else s) n fs
def St.none:St:=⟨λ_=> [],λ_=>0,λ_=> []⟩
def recorded (l:List Ev)(p:Pln):Nat->St
 |0=>St.none.flush 0 p.flushes
 |
  n+1=>match l[n]? with
  |some e=>((recorded l p n).add p.cap n e).flush (n+1) p.flushes
  |none=>recorded l p n
def Cm (b:Bytes)(k:Int):Bytes:=b.take (b.length-k.toNat)
theorem NW {th:Int}(l:List Rec):∀ {seq:Int}{r:Rec},okRecs th seq l=true->(∀q∈l,q.seq<r.seq)->seq<r.seq->r.ev.thread=th->r.ev.deps.length<=400->r.ev.from_.length<=400->okRecs th seq (l++[r])=true:=by
 induction l with
 |
  nil=>
  intro seq r _ _ hs u y hf;simp[okRecs,hs,u,y,hf]
 |
  cons a l ih=>
  intro seq r h d hs u y hf;simp only[okRecs,Bool.and_eq_true,List.cons_append] at h|-;exact⟨h.1,ih h.2 (λq B=>d q (List.mem_cons_of_mem _ B)) (d a (List.mem_cons_self ..)) u y hf⟩
structure GoodT (c n:Nat)(t:Nat)(b:List Rec)(f:Int)(x:Bytes):Prop where
 ok:okRecs t (-1) b=true
 len:b.length<=c
 below:∀r∈b,r.seq<n
 fit:∀r∈b,RecFit r
 lo:0<=f
 hi:f+b.length<=n
 size:(x.length:Int)<=10000*f
theorem H8 {thread seq:Int}{rs:List Rec}(h:okRecs thread seq rs=true)(hn:∀r∈rs,RecFit r):∀r∈rs,RecOk r:=by intro r hr;have h1:=pK thread rs seq h r hr;have h2:=hn r hr;exact⟨h2.seq,h2.thread,h2.kind,h2.obj,h2.value,h2.site,h2.deps,h2.from_,h1.2.1,h1.2.2.1⟩
theorem GoodT.fits {c n t:Nat}{b:List Rec}{f:Int}{x:Bytes}(h:GoodT c n t b f x)(hb:0<b.length)(hc:c<=64)(hn:n<=400)(a:t<4):fits ⟨t,f,b⟩=0:=by have h1:=h.ok;have h2:=h.len;have h3:=h.lo;have h4:=h.hi;unfold Iv.fits nS;rw[if_neg (by show¬64<b.length;omega)];have:(decide (0<b.length) && decide (0<=(t:Int)) && decide ((t:Int)<4) && decide (0<=f) && decide (f<=400) && okRecs t (-1) b)=true:=(by rw[h1];simp only[Bool.and_true,Bool.and_eq_true,decide_eq_true_eq];omega);rw[if_pos this]
theorem acb {x:Blk}(hf:fits x=0)(hr:∀r∈x.recs,RecOk r):(dC x).length<=10000*x.recs.length:=by obtain⟨z0,d,q,z3,z4,u,y⟩:=iH hf;have a:=lZ x.recs (-1) hr;have B:=iy (aZ (-1) x.recs);have D:=aO (n:=x.first) ⟨by omega,by omega⟩;have E:=aO (n:=(x.recs.length:Int)) ⟨by omega,by omega⟩;have G:=aO (n:=((aZ (-1) x.recs).length:Int)) ⟨by omega,by omega⟩;have H:=aO (n:=((pack (aZ (-1) x.recs)).length:Int)) ⟨by omega,by omega⟩;unfold dC dY jB;simp only[List.length_append,List.length_cons,yA];omega
theorem GoodT.enc {c n t:Nat}{b:List Rec}{f:Int}{x:Bytes}(h:GoodT c n t b f x)(hb:0<b.length)(hc:c<=64)(hn:n<=400)(a:t<4):
 (encode ⟨t,f,b⟩).2=0/\(encode ⟨t,f,b⟩).1.length<=10000*b.length:=by have hf:=h.fits hb hc hn a;have:encode ⟨t,f,b⟩=(dC ⟨t,f,b⟩,0):=(by unfold encode;rw[if_pos hf]);rw[this];exact⟨rfl,acb hf (H8 h.ok h.fit)⟩
theorem GoodT.wrote {c n t:Nat}{b:List Rec}{f:Int}{x:Bytes}(h:GoodT c n t b f x)(hb:0<b.length)(hc:c<=64)(hn:n<=400)(a:t<4)(d:Nat):GoodT d n t [] (f+b.length) (x++(encode ⟨t,f,b⟩).1):=by have h3:=h.lo;have h4:=h.hi;have h5:=h.size;have q:=(h.enc hb hc hn a).2;refine⟨rfl,by simp,λr hr=>by simp at hr,λr hr=>by simp at hr,by omega,by simp;omega,?_⟩;rw[List.length_append];omega
theorem GoodT.pushed {c n t:Nat}{b:List Rec}{f:Int}{x:Bytes}(h:GoodT c n t b f x){e:Ev}(he:e.thread=t)(d:e.deps.length<=400)(hf:e.from_.length<=400)(hr:RecFit ⟨n,e⟩):GoodT (c+1) (n+1) t (b++[⟨n,e⟩]) f x:=by have h2:=h.len;have h4:=h.hi;refine⟨NW b h.ok (λq u=>h.below q u) (by show (-1:Int)<(n:Int);omega) he d hf,by simp;omega,λr a=>?_,λr a=>?_,h.lo,by simp;omega,h.size⟩;rcases List.mem_append.1 a with h1|h1;have:=h.below r h1;omega;simp only[List.mem_singleton] at h1;subst h1;show (n:Int)<((n+1:Nat):Int);omega;rcases List.mem_append.1 a with h1|h1;exact h.fit r h1;simp only[List.mem_singleton] at h1;subst h1;exact hr
theorem GoodT.later {c n a t:Nat}{b:List Rec}{f:Int}{x:Bytes}(h:GoodT c n t b f x)(hn:n<=a):GoodT c a t b f x:=
 ⟨h.ok,h.len,λr hr=>by have:=h.below r hr;omega,h.fit,h.lo,by have:=h.hi;omega,h.size⟩
theorem GoodT.wider {c a n t:Nat}{b:List Rec}{f:Int}{x:Bytes}(h:GoodT c n t b f x)(hc:b.length<=a):GoodT a n t b f x:=⟨h.ok,hc,h.below,h.fit,h.lo,h.hi,h.size⟩
def Good (c n thr:Nat)(s:St):Prop:=∀t,t<thr->GoodT c n t (s.buf t) (s.first t) (s.file t)
theorem Good.none (c thr:Nat):Good c 0 thr St.none:=λt _=>⟨rfl,by simp[St.none],λr hr=>by simp[St.none] at hr,λr hr=>by simp[St.none] at hr,by simp[St.none],by simp[St.none],by simp[St.none]⟩
theorem Good.write {c n thr:Nat}{s:St}(h:Good c n thr s)(hc:c<=64)(hn:n<=400)(d:thr<=4)(t:Nat)(q:t<thr):Good c n thr (s.write t):=by unfold St.write;split;exact h;rename_i h0;intro k hk;by_cases a:k=t;subst a;simp only[bV];exact (h k hk).wrote (by omega) hc hn (by omega) c;simp only[bu _ _ a];exact h k hk
theorem Good.flush {c n thr:Nat}(hc:c<=64)(hn:n<=400)(a:thr<=4)(fs:List (Int×Int)):∀ {s:St},Good c n thr s->(∀f∈fs,0<=f.2/\f.2<thr)->Good c n thr (s.flush n fs):=by
 induction fs with
 |nil=>intro s h _;exact h
 |
  cons f fs ih=>
  intro s h hf;have h1:=hf f (List.mem_cons_self ..);unfold St.flush;refine ih ?_ (λg hg=>hf g (List.mem_cons_of_mem _ hg));split;exact h.write hc hn a _ (by omega);exact h
theorem Good.push {c n thr:Nat}{s:St}(h:Good c n thr s){e:Ev}(he:0<=e.thread)(d:e.deps.length<=400)(hf:e.from_.length<=400)(hr:RecFit ⟨n,e⟩):
 ∀t,t<thr->GoodT (c+1) (n+1) t ((s.push e.thread.toNat ⟨n,e⟩).buf t) ((s.push e.thread.toNat ⟨n,e⟩).first t) ((s.push e.thread.toNat ⟨n,e⟩).file t):=by intro t a;unfold St.push;by_cases hk:t=e.thread.toNat;subst hk;simp only[bV];exact (h _ a).pushed (by omega) d hf hr;simp only[bu _ _ hk];exact ((h t a).later (Nat.le_succ n)).wider (by have:=(h t a).len;omega)
theorem Good.pushed {c n thr:Nat}{s:St}(h:Good c n thr s){e:Ev}(he:0<=e.thread)(a:e.deps.length<=400)(hf:e.from_.length<=400)(hr:RecFit ⟨n,e⟩):Good (c+1) (n+1) thr (s.push e.thread.toNat ⟨n,e⟩):=h.push he a hf hr
theorem Good.add {c n thr:Nat}{s:St}(h:Good c n thr s){e:Ev}(hc:c+1<=64)(hn:n+1<=400)(y:thr<=4)(he:0<=e.thread)(D:e.thread<thr)(B:e.deps.length<=400)(hf:e.from_.length<=400)(hr:RecFit ⟨n,e⟩):Good c (n+1) thr (s.add ((c+1:Nat):Int) n e):=by have u:=h.pushed he B hf hr;have d:e.thread.toNat<thr:=(by omega);unfold St.add;split;have hw:=u.write hc hn y _ d;intro t a;refine (hw t a).wider ?_;unfold St.write;have h0:¬((s.push e.thread.toNat ⟨n,e⟩).buf e.thread.toNat).length=0:=(by unfold St.push;simp[bV]);rw[if_neg h0];by_cases hk:t=e.thread.toNat;subst hk;simp[bV];simp only[bu _ _ hk,St.push];exact (h t a).len;rename_i q;intro t a;refine (u t a).wider ?_;by_cases hk:t=e.thread.toNat;subst hk;have h1:=(h _ a).len;unfold St.push;simp only[bV,List.length_append,List.length_singleton];by_cases h2:(s.buf e.thread.toNat).length=c;exact absurd (.inl (by rw[h2])) q;omega;simp only[bu _ _ hk,St.push];exact (h t a).len
end Iv
namespace Iv
def Ec (l:List Ev)(p:Pln):Nat->St
 |0=>St.none
 |n+1=>recorded l p n
def wu (l:List Ev)(p:Pln):Nat:=min p.stop.toNat l.length
def kV (s:St)(cuts:List Int)(k:Nat):St:=⟨s.buf,s.first,λt=>match (cuts.take k)[t]? with|some x=>Cm (s.file t) x|none=>s.file t⟩
def filesOf (l:List Ev)(p:Pln)(t:Nat):Bytes:=(kV (recorded l p (wu l p)) p.cuts p.cuts.length).file t
theorem NY {l:List Ev}{p:Pln}{n:Nat}{e:Ev}(h:l[n]?=some e):recorded l p (n+1)=((Ec l p (n+1)).add p.cap n e).flush (n+1) p.flushes:=by show (match l[n]? with|some e=>((recorded l p n).add p.cap n e).flush (n+1) p.flushes|none=>recorded l p n)=_;rw[h];rfl
theorem QX (s:St)(cuts:List Int):kV s cuts 0=s:=by
 cases s
 simp[kV]
theorem YI (s:St)(cuts:List Int)(k:Nat):(kV s cuts k).file k=s.file k:=by unfold kV;simp[List.getElem?_take]
theorem QY {s:St}{cuts:List Int}{k:Nat}{x:Int}(h:cuts[k]?=some x):kV s cuts (k+1)=⟨(kV s cuts k).buf,(kV s cuts k).first,upd (kV s cuts k).file k (Cm (s.file k) x)⟩:=by unfold kV;congr 1;funext t;unfold upd;simp only[List.getElem?_take];by_cases a:t=k;subst a;simp[h];rw[if_neg a];by_cases h1:t<k;rw[if_pos h1,if_pos (by omega)];rw[if_neg h1,if_neg (by omega)]
theorem QZ (s:St)(n:Nat)(f:Int×Int)(fs:List (Int×Int)):s.flush n (f::fs)=(if f.1=n then s.write f.2.toNat else s).flush n fs:=rfl
theorem Q3 {fs:List (Int×Int)}{k:Nat}{f:Int×Int}(h:fs[k]?=some f)(s:St)(n:Nat):s.flush n (fs.drop k)=(if f.1=n then s.write f.2.toNat else s).flush n (fs.drop (k+1)):=by obtain⟨a,rfl⟩:=List.getElem?_eq_some_iff.1 h;rw[List.drop_eq_getElem_cons a,QZ]
theorem RecFit.seqOf {e:Ev}{n:Int}(h:RecFit ⟨0,e⟩)(hn:inI64 n):RecFit ⟨n,e⟩:=⟨hn,h.thread,h.kind,h.obj,h.value,h.site,h.deps,h.from_⟩
def recA (l:List Ev)(p:Pln):Nat->St
 |0=>St.none
 |
  n+1=>match l[n]? with
  |some e=>(recorded l p n).add p.cap n e
  |none=>recorded l p n
theorem zA {l:List Ev}{p:Pln}{n:Nat}{e:Ev}(h:l[n]?=some e):recA l p (n+1)=(Ec l p (n+1)).add p.cap n e:=by show (match l[n]? with|some e=>(recorded l p n).add p.cap n e|none=>recorded l p n)=_;rw[h];rfl
theorem Q4 {l:List Ev}{p:Pln}{n:Nat}(h:n<=l.length):(recA l p n).flush n p.flushes=recorded l p n:=by
 cases n with
 |zero=>rfl
 |
  succ n=>
  have hk:l[n]?=some l[n]:=List.getElem?_eq_getElem h;rw[NY hk,zA hk]
structure PlanGood (l:List Ev)(thr:Nat)(p:Pln)(c:Nat):Prop where
 cap:p.cap=((c+1:Nat):Int)
 c64:c+1<=64
 thr1:1<=thr
 thr4:thr<=4
 stop:0<=p.stop
 fl:∀f∈p.flushes,0<=f.1/\0<=f.2/\f.2<thr
 cu:∀x∈p.cuts,0<=x
 cul:p.cuts.length<=thr
 len:l.length<=400
 ev:∀e∈l,0<=e.thread/\e.thread<thr/\e.deps.length<=400/\e.from_.length<=400
theorem Ns {l:List Ev}{thr:Int}{p:Pln}(h:bP l thr p=0):∃t c,thr=((t:Nat):Int)/\PlanGood l t p c:=by unfold bP at h;split at h;rename_i a;split at h;omega;rename_i h4;split at h;rename_i d;unfold qU jQ at a;simp only[Bool.and_eq_true,decide_eq_true_eq,List.all_eq_true] at a d;obtain⟨⟨⟨⟨⟨⟨⟨a1,a2⟩,a3⟩,a4⟩,a5⟩,a6⟩,a7⟩,a8⟩:=a;refine⟨thr.toNat,(p.cap-1).toNat,by omega,by omega,by omega,by omega,by omega,a5,λf hf=>?_,λx hx=>?_,by omega,by omega,λe he=>?_⟩;have:=a6 f hf;unfold jT at this;simp only[Bool.and_eq_true,decide_eq_true_eq] at this;omega;exact a7 x hx;have:=d e he;unfold BP at this;simp only[Bool.and_eq_true,decide_eq_true_eq] at this;omega;omega;omega
theorem PlanGood.ok {l:List Ev}{thr:Nat}{p:Pln}{c:Nat}(h:PlanGood l thr p c):bP l thr p=0:=by have h1:=h.cap;have h2:=h.c64;have h3:=h.thr1;have h4:=h.thr4;have h5:=h.stop;have a:=h.cul;have d:=h.len;unfold bP;rw[if_pos,if_neg (by omega),if_pos];rw[List.all_eq_true];intro e he;have:=h.ev e he;unfold BP;simp only[Bool.and_eq_true,decide_eq_true_eq];omega;unfold qU jQ;simp only[Bool.and_eq_true,decide_eq_true_eq,List.all_eq_true];refine⟨⟨⟨by omega,λf hf=>?_⟩,λx hx=>h.cu x hx⟩,by omega⟩;have:=h.fl f hf;unfold jT;simp only[Bool.and_eq_true,decide_eq_true_eq];omega
theorem PlanGood.recorded {l:List Ev}{thr:Nat}{p:Pln}{c:Nat}(h:PlanGood l thr p c)(hn:∀e∈l,RecFit ⟨0,e⟩):∀n,n<=l.length->Good c n thr (recorded l p n):=by
 intro n;induction n with
 |zero=>intro _;exact (Good.none c thr).flush (by have:=h.c64;omega) (by omega) h.thr4 _ (λf hf=>(h.fl f hf).2)
 |
  succ n ih=>
  intro a;have h1:=ih (by omega);have hk:l[n]?=some l[n]:=List.getElem?_eq_getElem a;rw[NY hk];have hm:l[n]∈l:=List.getElem_mem a;obtain⟨e1,d,q,e4⟩:=h.ev _ hm;have h4:=h.len;have:=h1.add (e:=l[n]) h.c64 (by omega) h.thr4 e1 d q e4 ((hn _ hm).seqOf ⟨by omega,by omega⟩);rw[<-h.cap] at this;exact this.flush (by have:=h.c64;omega) (by omega) h.thr4 _ (λf hf=>(h.fl f hf).2)
theorem PlanGood.recA {l:List Ev}{thr:Nat}{p:Pln}{c:Nat}(h:PlanGood l thr p c)(hn:∀e∈l,RecFit ⟨0,e⟩)(n:Nat)(a:n<=l.length):Good c n thr (recA l p n):=by
 cases n with
 |zero=>exact Good.none c thr
 |
  succ n=>
  have hk:l[n]?=some l[n]:=List.getElem?_eq_getElem a;rw[zA hk];have hm:l[n]∈l:=List.getElem_mem a;obtain⟨e1,d,q,e4⟩:=h.ev _ hm;have h4:=h.len;have:=(h.recorded hn n (by omega)).add (e:=l[n]) h.c64 (by omega) h.thr4 e1 d q e4 ((hn _ hm).seqOf ⟨by omega,by omega⟩);rw[<-h.cap] at this;exact this
