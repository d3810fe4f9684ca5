/- Words. -/
import Derived.RowKit
namespace Iv
abbrev Bytes:=List UInt8
theorem jf (b:UInt8):b.toNat < 256:=UInt8.toNat_lt b
theorem aK {n:Nat}(h:n < 256):(UInt8.ofNat n).toNat=n:=by
 simp[Nat.mod_eq_of_lt h]
theorem Nz {a b:UInt8}(h:a.toNat=b.toNat):a=b:=UInt8.toNat_inj.1 h
theorem xU (b:UInt8):UInt8.ofNat b.toNat=b:=by simp
def Bq (n:Int):Nat:=if n < 0 then (-2 * n - 1).toNat else (2 * n).toNat
def Jw (u:Nat):Int:=if u % 2=1 then -(u / 2:Nat) - 1 else (u / 2:Nat)
theorem Wi (n:Int):Jw (Bq n)=n:=by
 unfold Jw Bq;split <;> split <;> omega
theorem Wj (u:Nat):Bq (Jw u)=u:=by
 unfold Jw Bq;split <;> split <;> omega
theorem xW {n:Int}(h1: -9223372036854775808≤n)(h2:n≤9223372036854775807):Bq n < 18446744073709551616:=by
 unfold Bq;split <;> omega
theorem ZF {u:Nat}(h:u < 18446744073709551616): -9223372036854775808≤Jw u:=by
 unfold Jw;split <;> omega
theorem ZG {u:Nat}(h:u < 18446744073709551616):Jw u≤9223372036854775807:=by
 unfold Jw;split <;> omega
def iy (u:Nat):Bytes:=if u < 128 then [UInt8.ofNat u] else UInt8.ofNat (u % 128+128) :: iy (u / 128)
termination_by u
decreasing_by omega
theorem mV {u:Nat}(h:u < 128):iy u= [UInt8.ofNat u]:=by rw[iy,if_pos h]
theorem mW {u:Nat}(h:128≤u):iy u=UInt8.ofNat (u % 128+128) :: iy (u / 128):=by rw[iy,if_neg (by omega)]
theorem lX (u:Nat):1≤(iy u).length:=by
 rw[iy];split <;> simp
theorem RG (k:Nat):∀u,(iy u).length≤k+1 ↔ u < 128 ^ (k+1):=by
 induction k with
 |
  zero=>
  intro u;by_cases h:u < 128
  · simp[mV h,h]
  · have:=lX (u / 128);rw[mW (by omega)];simp;constructor
    · intro h0;rw[h0] at this;simp at this
    · intro;omega
 |
  succ k ih=>
  intro u;by_cases h:u < 128
  · have h1:(iy u).length=1:=by simp[mV h]
    have h2:(128:Nat) ^ 1≤128 ^ (k+1+1):=Nat.pow_le_pow_right (by omega) (by omega);constructor
    · intro;omega
    · intro;omega
  · rw[mW (by omega)];have:=ih (u / 128);have e:(128:Nat) ^ (k+1+1)=128 ^ (k+1)* 128:=Nat.pow_succ ..;rw[List.length_cons,e,←Nat.div_lt_iff_lt_mul (by omega:0 < 128)];omega
theorem JU {u:Nat}(h:u < 18446744073709551616):(iy u).length≤10:=by
 refine (RG 9 u).2 ?_;have:(128:Nat) ^ (9+1)=1180591620717411303424:=by decide
 omega
def qB:Bytes→Nat→Nat→Int×Nat×Int
 | [],_,_=>(0,0,9)
 |
  x :: t,i,acc=>
  if i=9∧1 < x.toNat then (0,0,11)
  else if 128≤x.toNat then qB t (i+1) (acc+x.toNat % 128 * 128 ^ i)
  else if x.toNat=0∧0 < i then (0,0,11)
  else (Jw (acc+x.toNat * 128 ^ i),i+1,0)
theorem OU (u:Nat):∀(i acc:Nat) (more:Bytes),(u=0→i=0)→acc+u * 128 ^ i < 18446744073709551616→
 qB (iy u++more) i acc=(Jw (acc+u * 128 ^ i),i+(iy u).length,0):=by
 induction u using Nat.strongRecOn with
 |
  _ u ih=>
  intro i acc more h0 hu
  have hi:9≤i→u≤1∧(u=1→i=9):=by
   intro hi;by_cases hu0:u=0
   · exact⟨by omega,by omega⟩
   · by_cases h9:i=9
     · subst h9;have:(128:Nat) ^ 9=9223372036854775808:=by decide
       rw[this] at hu;exact⟨by omega,fun _=>rfl⟩
     · have h10:(128:Nat) ^ 10≤128 ^ i:=Nat.pow_le_pow_right (by omega) (by omega);have e10:(128:Nat) ^ 10=1180591620717411303424:=by decide
       have:1 * 128 ^ i≤u * 128 ^ i:=Nat.mul_le_mul_right _ (by omega);omega
  by_cases h:u < 128
  · rw[mV h];simp only[List.cons_append,List.nil_append,qB,List.length_cons,List.length_nil];rw[aK (by omega)];rw[if_neg (by intro ⟨h9,h1⟩;have:=hi (by omega);omega),if_neg (by omega),if_neg (by omega)]
  · rw[mW (by omega)]
    have hi9:i < 9:=by
     rcases Nat.lt_or_ge i 9 with h9 | h9
     · exact h9
     · have:=hi h9;omega
    simp only[List.cons_append,qB,List.length_cons];rw[aK (by omega)];rw[if_neg (by omega),if_pos (by omega)];have e:(u % 128+128) % 128=u % 128:=by omega
    have hdiv:u % 128 * 128 ^ i+u / 128 * 128 ^ (i+1)=u * 128 ^ i:=by
     rw[Nat.pow_succ,Nat.mul_comm (128 ^ i) 128,←Nat.mul_assoc,←Nat.add_mul];congr 1;omega
    rw[e,ih (u / 128) (by omega) (i+1) (acc+u % 128 * 128 ^ i) more (by omega) (by omega)];have:acc+u % 128 * 128 ^ i+u / 128 * 128 ^ (i+1)=acc+u * 128 ^ i:=by omega
    rw[this,show i+1+(iy (u / 128)).length=i+((iy (u / 128)).length+1) from by omega]
theorem RH (u:Nat):∀(i acc k:Nat),u * 128 ^ i < 18446744073709551616→k < (iy u).length→qB ((iy u).take k) i acc=(0,0,9):=by
 induction u using Nat.strongRecOn with
 |
  _ u ih=>
  intro i acc k hu hk;by_cases h:u < 128
  · rw[mV h] at hk;simp at hk;subst hk;rfl
  · have hi9:i < 9:=by
     rcases Nat.lt_or_ge i 9 with h9 | h9
     · exact h9
     · have h10:(128:Nat) ^ 9≤128 ^ i:=Nat.pow_le_pow_right (by omega) (by omega);have e10:(128:Nat) ^ 9=9223372036854775808:=by decide
       have:128 * 128 ^ i≤u * 128 ^ i:=Nat.mul_le_mul_right _ (by omega);omega
    rw[mW (by omega)] at hk⊢
    cases k with
    | zero=>rfl
    |
     succ k=>
     simp only[List.take_succ_cons,qB];rw[aK (by omega),if_neg (by omega),if_pos (by omega)];refine ih (u / 128) (by omega) (i+1) _ k ?_ (by simpa using hk)
     have hdiv:u % 128 * 128 ^ i+u / 128 * 128 ^ (i+1)=u * 128 ^ i:=by
      rw[Nat.pow_succ,Nat.mul_comm (128 ^ i) 128,←Nat.mul_assoc,←Nat.add_mul];congr 1;omega
     omega
theorem OV (l:Bytes):∀(i acc k:Nat) (n:Int),acc < 128 ^ i→i≤9→qB l i acc=(n,k,0)→
 ∃u,n=Jw (acc+u * 128 ^ i)∧(u=0→i=0)∧k=i+(iy u).length∧l.take (k - i)=iy u∧k - i≤l.length∧acc+u * 128 ^ i < 18446744073709551616:=by
 induction l with
 | nil=>intro i acc k n _ _ h;simp[qB] at h
 |
  cons x t ih=>
  intro i acc k n hacc hi h;have hx:=jf x;simp only[qB] at h;by_cases c1:i=9∧1 < x.toNat
  · rw[if_pos c1] at h;simp at h
  · rw[if_neg c1] at h;by_cases c2:128≤x.toNat
    · rw[if_pos c2] at h;have Wl:i < 9:=by omega
      have hacc':acc+x.toNat % 128 * 128 ^ i < 128 ^ (i+1):=by
       have h1:x.toNat % 128 * 128 ^ i≤127 * 128 ^ i:=Nat.mul_le_mul_right _ (by omega);rw[Nat.pow_succ];omega
      obtain⟨u,hn,hu0,hk,ht,hl,hb⟩:=ih (i+1) _ k n hacc' (by omega) h;have hu:u≠0:=fun e=>by have:=hu0 e;omega
      have e1:(x.toNat % 128+u * 128) % 128=x.toNat % 128:=by omega
      have e2:(x.toNat % 128+u * 128) / 128=u:=by omega
      have hsum:acc+(x.toNat % 128+u * 128)* 128 ^ i=acc+x.toNat % 128 * 128 ^ i+u * 128 ^ (i+1):=by
       rw[Nat.add_mul,Nat.pow_succ,Nat.mul_assoc,Nat.mul_comm 128 (128 ^ i)];omega
      have hv:iy (x.toNat % 128+u * 128)=x :: iy u:=by
       rw[mW (by omega),e1,e2];congr 1;refine Nz ?_;rw[aK (by omega)];omega
      refine⟨x.toNat % 128+u * 128,by rw[hsum];exact hn,by omega,?_,?_,?_,by rw[hsum];exact hb⟩
      · rw[hv,hk,List.length_cons];omega
      · rw[hv,show k - i=(k - (i+1))+1 from by have:=lX u;omega,List.take_succ_cons,ht]
      · rw[List.length_cons];omega
    · rw[if_neg c2] at h;by_cases c3:x.toNat=0∧0 < i
      · rw[if_pos c3] at h;simp at h
      · rw[if_neg c3] at h;simp only[Prod.mk.injEq] at h;obtain⟨hn,hk,_⟩:=h;have hv:iy x.toNat= [x]:=by rw[mV (by omega),xU]
        refine⟨x.toNat,hn.symm,by omega,by rw[hv];simp;omega,?_,by simp;omega,?_⟩
        · rw[hv,show k - i=1 from by omega];simp
        · by_cases h9:i=9
          · subst h9;have:(128:Nat) ^ 9=9223372036854775808:=by decide
            rw[this] at hacc⊢;have:x.toNat≤1:=by omega
            omega
          · have h1:x.toNat * 128 ^ i≤127 * 128 ^ i:=Nat.mul_le_mul_right _ (by omega);have h2:(128:Nat) ^ (i+1)≤128 ^ 9:=Nat.pow_le_pow_right (by omega) (by omega);have:(128:Nat) ^ 9=9223372036854775808:=by decide
            rw[Nat.pow_succ] at h2;omega
def aF (n:Int):Bytes:=iy (Bq n)
def lY (l:Bytes):Int×Nat×Int:=qB l 0 0
def inI64 (n:Int):Prop:= -9223372036854775808≤n∧n≤9223372036854775807
theorem RI (n:Int):1≤(aF n).length:=lX _
theorem aI {n:Int}(h:inI64 n):(aF n).length≤10:=JU (xW h.1 h.2)
theorem OW {n:Int}(h:inI64 n)(more:Bytes):lY (aF n++more)=(n,(aF n).length,0):=by
 unfold lY aF;rw[OU _ 0 0 more (fun _=>rfl) (by have:=xW h.1 h.2;omega)];simp[Wi]
theorem RJ {n:Int}(h:inI64 n){k:Nat}(hk:k < (aF n).length):lY ((aF n).take k)=(0,0,9):=
 RH _ 0 0 k (by have:=xW h.1 h.2;omega) hk
theorem pU {l:Bytes}{n:Int}{k:Nat}(h:lY l=(n,k,0)):inI64 n∧k=(aF n).length∧1≤k∧k≤l.length∧l.take k=aF n:=by
 obtain⟨u,hn,_,hk,ht,hl,hb⟩:=OV l 0 0 k n (by simp) (by omega) h;have hn':n=Jw u:=by simpa using hn
 have hz:Bq n=u:=by rw[hn',Wj]
 unfold aF;rw[hz];have:=lX u;exact⟨by rw[hn'];exact⟨ZF (by omega),ZG (by omega)⟩,by omega,by omega,by omega,by simpa using ht⟩
theorem RQ (l:Bytes):∀(i acc:Nat),(qB l i acc).2.2=0∨∃e:Int,(e=9∨e=11)∧qB l i acc=(0,0,e):=by
 induction l with
 | nil=>intro i acc;exact .inr ⟨9,.inl rfl,rfl⟩
 |
  cons x t ih=>
  intro i acc;simp only[qB];split
  · exact .inr ⟨11,.inr rfl,rfl⟩
  · split
    · exact ih _ _
    · split
      · exact .inr ⟨11,.inr rfl,rfl⟩
      · exact .inl rfl
theorem RS (l:Bytes):(lY l).2.2=0∨∃e:Int,(e=9∨e=11)∧lY l=(0,0,e):=RQ l 0 0
def gZ (c:Nat):Nat:=if c % 2=1 then (c / 2) ^^^ 3988292384 else c / 2
def fJ:Nat→Nat→Nat
 | 0,c=>c
 | n+1,c=>fJ n (gZ c)
def NC (c:Nat)(x:UInt8):Nat:=fJ 8 (c ^^^ x.toNat)
def ed (c:Nat)(l:Bytes):Nat:=l.foldl NC c
def wS (l:Bytes):Nat:=4294967295 ^^^ ed 4294967295 l
theorem oH {a b:Nat}(ha:a < 4294967296)(hb:b < 4294967296):a ^^^ b < 4294967296:=
 Nat.xor_lt_two_pow (n:=32) ha hb
theorem JV {c:Nat}(h:c < 4294967296):gZ c < 4294967296:=by
 unfold gZ;split
 · exact oH (by omega) (by omega)
 · omega
theorem oI (n:Nat):∀ {c:Nat},c < 4294967296→fJ n c < 4294967296:=by
 induction n with
 | zero=>intro c h;exact h
 | succ n ih=>intro c h;exact ih (JV h)
theorem JW {c:Nat}(h:c < 4294967296)(x:UInt8):NC c x < 4294967296:=
 oI 8 (oH h (by have:=jf x;omega))
theorem kL (l:Bytes):∀ {c:Nat},c < 4294967296→ed c l < 4294967296:=by
 induction l with
 | nil=>intro c h;exact h
 | cons x t ih=>intro c h;exact ih (JW h x)
theorem RU (l:Bytes):wS l < 4294967296:=oH (by omega) (kL l (by omega))
theorem qm (n:Nat):∀c,fJ (n+1) c=gZ (fJ n c):=by
 induction n with
 | zero=>intro c;rfl
 | succ n ih=>intro c;rw[fJ,ih (gZ c)];rfl
theorem oJ (c:Nat)(l m:Bytes):ed c (l++m)=ed (ed c l) m:=by simp[ed]
def lL (b:Bytes)(i d:Nat):Nat→Nat
 | 0=>0
 | m+1=>if i+lL b i d m < b.length∧b[i+lL b i d m]?=b[i+lL b i d m - d]?∧lL b i d m=m then m+1 else lL b i d m
theorem ND (b:Bytes)(i d m:Nat):lL b i d m≤m:=by
 induction m with
 | zero=>simp [lL]
 | succ m ih=>simp only[lL];split <;> omega
def Stops (b:Bytes)(i d m n:Nat):Prop:=
 n≤m∧(∀k,k < n→i+k < b.length∧b[i+k]?=b[i+k - d]?)∧(n=m∨¬(i+n < b.length∧b[i+n]?=b[i+n - d]?))
theorem qC (b:Bytes)(i d m:Nat):Stops b i d m (lL b i d m):=by
 induction m with
 | zero=>exact ⟨Nat.le_refl _,fun k hk=>by simp[lL] at hk,.inl rfl⟩
 |
  succ m ih=>
  obtain⟨h1,h2,h3⟩:=ih;simp only[lL];split
  · rename_i hc
    refine⟨Nat.le_refl _,fun k hk=>?_,.inl rfl⟩;by_cases hkm:k < lL b i d m
    · exact h2 k hkm
    · have hk2:k=lL b i d m:=by omega
      rw[hk2];exact⟨hc.1,hc.2.1⟩
  · rename_i hc
    refine⟨by omega,h2,.inr fun hh=>?_⟩;rcases h3 with h3 | h3
    · exact hc ⟨hh.1,hh.2,h3⟩
    · exact h3 hh
theorem Stops.unique {b:Bytes}{i d m n n':Nat}(h:Stops b i d m n)(h':Stops b i d m n'):n=n':=by
 rcases Nat.lt_trichotomy n n' with hlt | he | hlt
 · rcases h.2.2 with e | e
   · have:=h'.1;omega
   · exact absurd (h'.2.1 n hlt) e
 · exact he
 · rcases h'.2.2 with e | e
   · have:=h.1;omega
   · exact absurd (h.2.1 n' hlt) e
theorem xX {b:Bytes}{i d m n:Nat}(h:Stops b i d m n):lL b i d m=n:=(qC b i d m).unique h
def jk (b:Bytes)(i:Nat):Nat→Nat×Nat
 | 0=>(0,0)
 | k+1=>if (jk b i k).1 < lL b i (k+1) 130 then (lL b i (k+1) 130,k+1) else jk b i k
def far (i:Nat):Nat:=min 255 i
def bu (b:Bytes)(i:Nat):Nat×Nat:=jk b i (far i)
theorem Dv (b:Bytes)(i k:Nat):(jk b i k).1≤130:=by
 induction k with
 | zero=>simp [jk]
 |
  succ k ih=>
  simp only[jk];split
  · exact ND _ _ _ _
  · exact ih
theorem Bv (b:Bytes)(i k:Nat):(jk b i k).1=0∨(1≤(jk b i k).2∧(jk b i k).2≤k∧(jk b i k).1=lL b i (jk b i k).2 130):=by
 induction k with
 | zero=>exact .inl rfl
 |
  succ k ih=>
  simp only[jk];split
  · exact .inr ⟨by simp,by simp,rfl⟩
  · rcases ih with h | h
    · exact .inl h
    · exact .inr ⟨h.1,by omega,h.2.2⟩
theorem Gx (b:Bytes)(i d:Nat)(h:i≤b.length):i+lL b i d 130≤b.length:=by
 obtain⟨_,h2,_⟩:=qC b i d 130;rcases Nat.eq_zero_or_pos (lL b i d 130) with h0 | h0
 · omega
 · have:=(h2 (lL b i d 130 - 1) (by omega)).1;omega
theorem Gy (b:Bytes)(i k:Nat)(h:i≤b.length):i+(jk b i k).1≤b.length:=by
 rcases Bv b i k with h0 | h0
 · omega
 · rw[h0.2.2];exact Gx b i _ h
theorem JX (b:Bytes)(i k j:Nat)(hk:k≤j)(hi:i≤b.length)(h:min 130 (b.length - i)≤(jk b i k).1):jk b i j=jk b i k:=by
 induction j with
 | zero=>
  obtain rfl:k=0:=by omega
  rfl
 |
  succ j ih=>
  by_cases e:k=j+1
  · rw[e]
  · have:=ih (by omega);simp only[jk]
    rw[if_neg (by
     rw[this];have h1:=ND b i (j+1) 130;have h2:=Gx b i (j+1) hi;omega)]
    exact this
def lit (b:Bytes)(f e:Nat):Bytes:=if f < e then UInt8.ofNat (e - f - 1) ::(b.take e).drop f else []
def pk (b:Bytes)(f i:Nat):Bytes:=
 if h:i < b.length then
  if 3≤(bu b i).1 then lit b f i++(UInt8.ofNat ((bu b i).1+125) :: UInt8.ofNat (bu b i).2 :: pk b (i+(bu b i).1) (i+(bu b i).1))
  else if i+1 - f=128 then lit b f (i+1)++pk b (i+1) (i+1)
  else pk b f (i+1)
 else lit b f b.length
termination_by b.length - i
decreasing_by all_goals omega
def pack (b:Bytes):Bytes:=pk b 0 0
theorem Dw {b:Bytes}{f i:Nat}(h:b.length≤i):pk b f i=lit b f b.length:=by rw[pk,dif_neg (by omega)]
theorem wU {b:Bytes}{f i:Nat}(h:i < b.length)(h3:3≤(bu b i).1):
 pk b f i=lit b f i++(UInt8.ofNat ((bu b i).1+125) :: UInt8.ofNat (bu b i).2 :: pk b (i+(bu b i).1) (i+(bu b i).1)):=by
 rw[pk,dif_pos h,if_pos h3]
theorem wV {b:Bytes}{f i:Nat}(h:i < b.length)(h3:(bu b i).1 < 3)(hf:i+1 - f=128):pk b f i=lit b f (i+1)++pk b (i+1) (i+1):=by
 rw[pk,dif_pos h,if_neg (by omega),if_pos hf]
theorem wW {b:Bytes}{f i:Nat}(h:i < b.length)(h3:(bu b i).1 < 3)(hf:i+1 - f≠128):pk b f i=pk b f (i+1):=by
 rw[pk,dif_pos h,if_neg (by omega),if_neg hf]
def copyOut (out:Bytes)(d:Nat):Nat→Bytes
 | 0=>out
 | n+1=>copyOut (out++ [(out[out.length - d]?).getD 0]) d n
theorem uQ (d n:Nat):∀out:Bytes,(copyOut out d n).length=out.length+n:=by
 induction n with
 | zero=>intro out;rfl
 | succ n ih=>intro out;rw[copyOut,ih];simp;omega
def unp (most:Int)(l:Bytes)(out:Bytes):Bytes×Int:=
 match h:l with
 | []=>(out,0)
 |
  x :: t=>
  if x.toNat < 128 then
   if t.length < x.toNat+1 then ([],9)
   else if most < (out.length:Int)+x.toNat+1 then ([],2)
   else unp most (t.drop (x.toNat+1)) (out++t.take (x.toNat+1))
  else match h2:t with
   | []=>([],9)
   |
    d :: u=>
    if d.toNat=0∨out.length < d.toNat then ([],11)
    else if most < (out.length:Int)+x.toNat - 125 then ([],2)
    else unp most u (copyOut out d.toNat (x.toNat - 125))
termination_by l.length
decreasing_by
 · simp;omega
 · simp;omega
def unpack (l:Bytes)(most:Int):Bytes×Int:=unp most l []
section
variable {most : Int} {out : Bytes}
theorem Dx:unp most [] out=(out,0):=by rw[unp]
theorem Dy {x:UInt8}{t:Bytes}(h:x.toNat < 128):unp most (x :: t) out=
 if t.length < x.toNat+1 then ([],9) else if most < (out.length:Int)+x.toNat+1 then ([],2) else unp most (t.drop (x.toNat+1)) (out++t.take (x.toNat+1)):=by
 rw[unp.eq_def];dsimp only;rw[if_pos h]
theorem NF {x:UInt8}(h:128≤x.toNat):unp most [x] out=([],9):=by rw[unp,if_neg (by omega)]
theorem xY {x d:UInt8}{u:Bytes}(h:128≤x.toNat):unp most (x :: d :: u) out=
 if d.toNat=0∨out.length < d.toNat then ([],11) else if most < (out.length:Int)+x.toNat - 125 then ([],2) else unp most u (copyOut out d.toNat (x.toNat - 125)):=by
 rw[unp,if_neg (by omega)]
end
theorem tJ (b:Bytes){f e:Nat}(h:f≤e):b.take f++(b.take e).drop f=b.take e:=by
 rw[List.drop_take]
 have:b.take e=b.take f++(b.drop f).take (e - f):=by
  rw[←List.take_add,Nat.add_sub_cancel' h]
 rw[this]
theorem mX {most:Int}{b pre rest:Bytes}{f e:Nat}(hf:f≤e)(he:e≤b.length)(h128:e - f≤128)(hm:(pre.length:Int)+e≤most):
 unp most (lit b f e++rest) (pre++b.take f)=unp most rest (pre++b.take e):=by
 unfold lit;by_cases hlt:f < e
 · rw[if_pos hlt,List.cons_append];have hn:(UInt8.ofNat (e - f - 1)).toNat=e - f - 1:=aK (by omega);have hl:((b.take e).drop f).length=e - f:=by simp;omega
   rw[Dy (by omega),hn,if_neg (by rw[List.length_append,hl];omega),if_neg (by
    rw[List.length_append,List.length_take];omega)]
   have e1:e - f - 1+1=((b.take e).drop f).length:=by rw[hl];omega
   rw[e1,List.drop_left,List.take_left,List.append_assoc,tJ b hf]
 · rw[if_neg hlt,show e=f from by omega];rfl
theorem Dz (b pre:Bytes)(i d:Nat)(hd:1≤d)(hdi:d≤i)(n:Nat):i+n≤b.length→(∀k,k < n→b[i+k]?=b[i+k - d]?)→
 copyOut (pre++b.take i) d n=pre++b.take (i+n):=by
 induction n generalizing i with
 | zero=>intro _ _;rfl
 |
  succ n ih=>
  intro hi h;have hl:(pre++b.take i).length=pre.length+i:=by simp;omega
  have hx:(pre++b.take i)[(pre++b.take i).length - d]?=b[i - d]?:=by
   rw[hl,List.getElem?_append_right (by omega),List.getElem?_take,if_pos (by omega)];congr 1;omega
  have h0:=h 0 (by omega);simp only[Nat.add_zero] at h0;have hbi:b[i]?=some b[i]:=List.getElem?_eq_getElem (by omega);rw[copyOut,hx,←h0,hbi]
  have:pre++b.take i++ [(some b[i]).getD 0]=pre++b.take (i+1):=by
   rw[List.append_assoc,Option.getD_some,List.take_succ_eq_append_getElem (by omega)]
  rw[this,ih (i+1) (by omega) (by omega) (fun k hk=>by have:=h (k+1) (by omega);rwa [show i+1+k=i+(k+1) from by omega])];congr 2;omega
theorem lh {b:Bytes}{i:Nat}(hi:i < b.length)(h3:3≤(bu b i).1):
 1≤(bu b i).2∧(bu b i).2≤i∧(bu b i).2≤255∧(bu b i).1≤130∧i+(bu b i).1≤b.length∧
  ∀k,k < (bu b i).1→b[i+k]?=b[i+k - (bu b i).2]?:=by
 unfold bu at h3⊢;have hl:=Dv b i (far i);have he:=Gy b i (far i) (by omega);rcases Bv b i (far i) with h | ⟨h1,h2,hm⟩
 · omega
 · have hf:far i≤i∧far i≤255:=by unfold far;omega
   have hs:=qC b i (jk b i (far i)).2 130;refine⟨h1,by omega,by omega,hl,he,fun k hk=>?_⟩;exact (hs.2.1 k (by omega)).2
theorem ZH {most:Int}(b pre rest:Bytes)(hm:(pre.length:Int)+b.length≤most)(n:Nat):∀(f i:Nat),b.length - i=n→f≤i→i≤b.length→i - f < 128→
 unp most (pk b f i++rest) (pre++b.take f)=unp most rest (pre++b):=by
 induction n using Nat.strongRecOn with
 |
  _ n ih=>
  intro f i hn hf hi h128;rcases Nat.lt_or_ge i b.length with hlt | hge
  · by_cases h3:3≤(bu b i).1
    · obtain⟨h1,h2,aiY,aiZ,hend,hk⟩:=lh hlt h3;rw[wU hlt h3,List.append_assoc,mX hf (by omega) (by omega) (by omega)];have e1:(UInt8.ofNat ((bu b i).1+125)).toNat=(bu b i).1+125:=aK (by omega);have e2:(UInt8.ofNat (bu b i).2).toNat=(bu b i).2:=aK (by omega);have hlen:(pre++b.take i).length=pre.length+i:=by simp;omega
      simp only[List.cons_append];rw[xY (by omega),e1,e2,hlen,if_neg (by omega),if_neg (by omega),Nat.add_sub_cancel,Dz b pre i _ h1 h2 _ hend hk];exact ih _ (by omega) _ _ rfl (by omega) (by omega) (by omega)
    · by_cases hf8:i+1 - f=128
      · rw[wV hlt (by omega) hf8,List.append_assoc,mX (by omega) (by omega) (by omega) (by omega)];exact ih _ (by omega) _ _ rfl (by omega) (by omega) (by omega)
      · rw[wW hlt (by omega) hf8];exact ih _ (by omega) f (i+1) rfl (by omega) (by omega) (by omega)
  · rw[Dw hge,mX (by omega) (by omega) (by omega) (by omega),List.take_length]
theorem Gz (b:Bytes):unpack (pack b) b.length=(b,0):=by
 have:=ZH (most:=b.length) b [] [] (by simp) _ 0 0 rfl (by omega) (by omega) (by omega);simp only[List.append_nil,List.nil_append,List.take_zero] at this;rw[unpack,pack,this,Dx]
theorem rG (b:Bytes){f e:Nat}(_hf:f≤e)(he:e≤b.length):(lit b f e).length=if f < e then e - f+1 else 0:=by
 unfold lit;split
 · simp;omega
 · rfl
theorem JY (b:Bytes)(n:Nat):∀(f i:Nat),b.length - i=n→f≤i→i≤b.length→i - f < 128→(pk b f i).length≤(b.length - f)+(b.length - f+127) / 128:=by
 induction n using Nat.strongRecOn with
 |
  _ n ih=>
  intro f i hn hf hi h128;rcases Nat.lt_or_ge i b.length with hlt | hge
  · by_cases h3:3≤(bu b i).1
    · obtain⟨h1,h2,aiY,aiZ,hend,hkk⟩:=lh hlt h3;have:=ih _ (by omega) (i+(bu b i).1) (i+(bu b i).1) rfl (by omega) (by omega) (by omega);rw[wU hlt h3,List.length_append,rG b hf (by omega),List.length_cons,List.length_cons];split <;> omega
    · by_cases hf8:i+1 - f=128
      · have:=ih _ (by omega) (i+1) (i+1) rfl (by omega) (by omega) (by omega);rw[wV hlt (by omega) hf8,List.length_append,rG b (by omega) (by omega),if_pos (by omega)];omega
      · rw[wW hlt (by omega) hf8];exact ih _ (by omega) f (i+1) rfl (by omega) (by omega) (by omega)
  · rw[Dw hge,rG b (by omega) (by omega)];split <;> omega
theorem dA (b:Bytes):(pack b).length≤b.length+(b.length+127) / 128:=by
 have:=JY b _ 0 0 rfl (by omega) (by omega) (by omega);simpa [pack] using this
end Iv
namespace Iv
open Go.RowKit (wrap64)
theorem bY (n:Int):inI64 (wrap64 n):=by
 unfold inI64 wrap64;omega
theorem tK {n:Int}(h:inI64 n):wrap64 n=n:=by
 unfold inI64 at h;unfold wrap64;omega
theorem kM (a b:Int):wrap64 (b+wrap64 (a - b))=wrap64 a:=by
 unfold wrap64;omega
theorem kN {b d:Int}(h:inI64 d):wrap64 (wrap64 (b+d) - b)=d:=by
 unfold inI64 at h;unfold wrap64;omega
structure Ev where
 thread:Int
 kind:Int
 obj:Int
 value:Int
 site:Int
 deps:List Int
 from_:List Int
structure Rec where
 seq:Int
 ev:Ev
def allI64 (l:List Int):Prop:=∀n∈l,inI64 n
def aX (last:Int):List Int→Bytes
 | []=> []
 | k :: t=>aF (wrap64 (k - last))++aX k t
def jd (l:List Int):Bytes:=aF l.length++aX 0 l
def bD (r:Rec)(seq:Int):Bytes:=
 aF (wrap64 (r.seq - seq))++(aF r.ev.kind++(aF r.ev.obj++(aF r.ev.value++(aF r.ev.site++(jd r.ev.deps++jd r.ev.from_)))))
structure Rd where
 at_:Nat
 err:Int
def rdNum (b:Bytes)(s:Rd):Int×Rd:=
 if s.err=0 then
  if (lY (b.drop s.at_)).2.2=0 then ((lY (b.drop s.at_)).1,⟨s.at_+(lY (b.drop s.at_)).2.1,0⟩) else (0,⟨s.at_,(lY (b.drop s.at_)).2.2⟩)
 else (0,s)
def bC (b:Bytes):Nat→Int→Rd→List Int×Rd
 | 0,_,s=>([],s)
 |
  n+1,last,s=>
  if s.err=0 then
   (wrap64 (last+(rdNum b s).1) ::(bC b n (wrap64 (last+(rdNum b s).1)) (rdNum b s).2).1,(bC b n (wrap64 (last+(rdNum b s).1)) (rdNum b s).2).2)
  else ([],s)
def jU (p:Int×Rd):Rd:=if p.2.err=0∧(p.1 < 0∨400 < p.1) then ⟨p.2.at_,11⟩ else p.2
def dw (b:Bytes)(s:Rd):List Int×Rd:=bC b (rdNum b s).1.toNat 0 (jU (rdNum b s))
structure RdAll where
 s0:Int×Rd
 s1:Int×Rd
 s2:Int×Rd
 s3:Int×Rd
 s4:Int×Rd
 l5:List Int×Rd
 l6:List Int×Rd
def lZ (b:Bytes):RdAll:=
 let s0:=rdNum b ⟨0,0⟩
 let s1:=rdNum b s0.2
 let s2:=rdNum b s1.2
 let s3:=rdNum b s2.2
 let s4:=rdNum b s3.2
 let l5:=dw b s4.2
 let l6:=dw b l5.2
 ⟨s0,s1,s2,s3,s4,l5,l6⟩
def ZI:Ev:=⟨0,0,0,0,0,[],[]⟩
def NG:Rec:=⟨0,ZI⟩
def dI (b:Bytes)(thread seq:Int):Rec×Nat×Int:=
 let a:=lZ b
 if a.l6.2.err=0 then (⟨wrap64 (seq+a.s0.1),⟨thread,a.s1.1,a.s2.1,a.s3.1,a.s4.1,a.l5.1,a.l6.1⟩⟩,a.l6.2.at_,0) else (NG,0,a.l6.2.err)
theorem mf {b:Bytes}{s:Rd}(h:s.err≠0):rdNum b s=(0,s):=by unfold rdNum;rw[if_neg h]
theorem eG {b rest:Bytes}{s:Rd}{n:Int}(hn:inI64 n)(he:s.err=0)(hb:b.drop s.at_=aF n++rest):
 rdNum b s=(n,⟨s.at_+(aF n).length,0⟩):=by
 unfold rdNum;rw[if_pos he,hb,OW hn];rfl
theorem eH {b x rest:Bytes}{k:Nat}(h:b.drop k=x++rest):b.drop (k+x.length)=rest:=by
 rw[←List.drop_drop,h,List.drop_left]
theorem lq {b:Bytes}{n:Nat}{last:Int}{s:Rd}(h:s.err≠0):bC b n last s=([],s):=by
 cases n with
 | zero=>rfl
 | succ n=>rw [bC,if_neg h]
theorem JZ {b:Bytes}{s:Rd}(h:s.err≠0):dw b s=([],s):=by
 unfold dw jU;rw[mf h];simp[bC]
theorem GH {b:Bytes}(l:List Int):∀(last:Int) (s:Rd) (rest:Bytes),allI64 l→s.err=0→b.drop s.at_=aX last l++rest→
 bC b l.length last s=(l,⟨s.at_+(aX last l).length,0⟩):=by
 induction l with
 |
  nil=>
  intro last s rest _ he _;have:s=⟨s.at_,0⟩:=by cases s;simp_all
  simp only[List.length_nil,bC,aX,Nat.add_zero];rw[←this]
 |
  cons k t ih=>
  intro last s rest hl he hb;simp only[aX,List.append_assoc] at hb;have h1:=eG (s:=s) (bY (k - last)) he hb;have hk:inI64 k:=hl k (by simp);simp only[List.length_cons,bC];rw[if_pos he,h1];dsimp only;rw[kM,tK hk];rw[ih k ⟨s.at_+(aF (wrap64 (k - last))).length,0⟩ rest (fun n hn=>hl n (by simp[hn])) rfl (eH hb)];simp only[aX,List.length_append,Nat.add_assoc]
theorem xZ {b:Bytes}{l:List Int}{s:Rd}{rest:Bytes}(hl:allI64 l)(hlen:l.length≤400)(he:s.err=0)(hb:b.drop s.at_=jd l++rest):
 dw b s=(l,⟨s.at_+(jd l).length,0⟩):=by
 unfold jd at hb⊢;rw[List.append_assoc] at hb;have h1:=eG (s:=s) (n:=(l.length:Int)) ⟨by omega,by omega⟩ he hb;unfold dw jU;rw[h1];dsimp only;rw[if_neg (by omega),Int.toNat_natCast,GH l 0 ⟨s.at_+(aF l.length).length,0⟩ rest hl rfl (eH hb)];simp only[List.length_append,Nat.add_assoc]
structure RecOk (r:Rec):Prop where
 seq:inI64 r.seq
 thread:inI64 r.ev.thread
 kind:inI64 r.ev.kind
 obj:inI64 r.ev.obj
 value:inI64 r.ev.value
 site:inI64 r.ev.site
 deps:allI64 r.ev.deps
 from_:allI64 r.ev.from_
 ld:r.ev.deps.length≤400
 lf:r.ev.from_.length≤400
theorem OX {r:Rec}(h:RecOk r)(seq:Int)(more:Bytes):
 (lZ (bD r seq++more)).s0.1=wrap64 (r.seq - seq)∧(lZ (bD r seq++more)).s1.1=r.ev.kind∧(lZ (bD r seq++more)).s2.1=r.ev.obj∧
 (lZ (bD r seq++more)).s3.1=r.ev.value∧(lZ (bD r seq++more)).s4.1=r.ev.site∧(lZ (bD r seq++more)).l5.1=r.ev.deps∧
 (lZ (bD r seq++more)).l6=(r.ev.from_,⟨(bD r seq).length,0⟩):=by
 generalize hb:bD r seq++more=b;have hb0:b.drop 0=_:=hb.symm;simp only[bD,List.append_assoc] at hb0;have h0:=eG (s:=⟨0,0⟩) (bY _) rfl hb0;have hb1:=eH hb0;have h1:=eG (s:=⟨_,0⟩) h.kind rfl hb1;have hb2:=eH hb1;have h2:=eG (s:=⟨_,0⟩) h.obj rfl hb2;have hb3:=eH hb2;have h3:=eG (s:=⟨_,0⟩) h.value rfl hb3;have hb4:=eH hb3;have h4:=eG (s:=⟨_,0⟩) h.site rfl hb4;have hb5:=eH hb4;have h5:=xZ (s:=⟨_,0⟩) h.deps h.ld rfl hb5;have hb6:=eH hb5;have h6:=xZ (s:=⟨_,0⟩) h.from_ h.lf rfl hb6;unfold lZ;simp only[h0,h1,h2,h3,h4,h5,h6];refine⟨trivial,trivial,trivial,trivial,trivial,trivial,?_⟩;congr 2;simp only[bD,List.length_append];omega
theorem J9 {r:Rec}(h:RecOk r)(seq:Int)(more:Bytes):dI (bD r seq++more) r.ev.thread seq=(r,(bD r seq).length,0):=by
 obtain⟨e0,e1,e2,e3,e4,e5,e6⟩:=OX h seq more;unfold dI;simp only[e0,e1,e2,e3,e4,e5,e6];simp only[if_true];rw[kM,tK h.seq]
theorem gu {b:Bytes}{s:Rd}(h:(rdNum b s).2.err=0):s.err=0:=by
 by_cases h0:s.err=0
 · exact h0
 · rw[mf h0] at h;exact h
theorem qE {b:Bytes}{n:Nat}{last:Int}{s:Rd}(h:(bC b n last s).2.err=0):s.err=0:=by
 by_cases h0:s.err=0
 · exact h0
 · rw[lq h0] at h;exact h
theorem Bz {b:Bytes}{s:Rd}(h:(dw b s).2.err=0):s.err=0:=by
 by_cases h0:s.err=0
 · exact h0
 · rw[JZ h0] at h;exact h
theorem x8 {b:Bytes}{s:Rd}(h:(rdNum b s).2.err=0):inI64 (rdNum b s).1∧(rdNum b s).2=⟨s.at_+(aF (rdNum b s).1).length,0⟩∧
 (b.drop s.at_).take (aF (rdNum b s).1).length=aF (rdNum b s).1∧(aF (rdNum b s).1).length≤(b.drop s.at_).length:=by
 have h0:=gu h;unfold rdNum at h⊢;rw[if_pos h0] at h⊢;by_cases h1:(lY (b.drop s.at_)).2.2=0
 · rw[if_pos h1];have:=pU (l:=b.drop s.at_) (n:=(lY (b.drop s.at_)).1) (k:=(lY (b.drop s.at_)).2.1) (by rw[←h1]);obtain⟨a1,a2,a3,a4,a5⟩:=this;dsimp only;rw[←a2];exact⟨a1,rfl,a5,a4⟩
 · rw[if_neg h1] at h;exact absurd h h1
theorem tN {b x y:Bytes}{k:Nat}(h1:(b.drop k).take x.length=x)(_hx:x.length≤(b.drop k).length)(h2:(b.drop (k+x.length)).take y.length=y):
 (b.drop k).take (x.length+y.length)=x++y:=by
 rw[List.take_add,h1,List.drop_drop,h2]
def Piece (b:Bytes)(k:Nat)(x:Bytes):Prop:=(b.drop k).take x.length=x∧x.length≤(b.drop k).length
theorem Piece.nil (b:Bytes)(k:Nat):Piece b k []:=⟨rfl,by simp⟩
theorem Piece.cat {b x y:Bytes}{k:Nat}(h:Piece b k x)(h':Piece b (k+x.length) y):Piece b k (x++y):=by
 refine⟨?_,?_⟩
 · rw[List.length_append];exact tN h.1 h.2 h'.1
 · have h1:=h.2;have h2:=h'.2;simp only[List.length_drop,List.length_append] at *
   omega
theorem dC {b:Bytes}{s:Rd}(h:(rdNum b s).2.err=0):inI64 (rdNum b s).1∧(rdNum b s).2=⟨s.at_+(aF (rdNum b s).1).length,0⟩∧Piece b s.at_ (aF (rdNum b s).1):=
 let ⟨a,c,d,e⟩:=x8 h
 ⟨a,c,d,e⟩
theorem DC {b:Bytes}(n:Nat):∀(last:Int) (s:Rd),(bC b n last s).2.err=0→
 allI64 (bC b n last s).1∧(bC b n last s).1.length=n∧(bC b n last s).2=⟨s.at_+(aX last (bC b n last s).1).length,0⟩∧Piece b s.at_ (aX last (bC b n last s).1):=by
 induction n with
 |
  zero=>
  intro last s h;refine⟨by intro k hk;simp[bC] at hk,rfl,?_,Piece.nil b _⟩
  cases s
  simp only[bC] at h⊢;simp_all [aX]
 |
  succ n ih=>
  intro last s h;have h0:=qE h;simp only[bC] at h⊢;rw[if_pos h0] at h⊢;dsimp only at h⊢;have h1:=qE h;obtain⟨i1,i2,i3,i4⟩:=ih _ _ h;obtain⟨n1,n2,n3⟩:=dC h1;have hd:wrap64 (wrap64 (last+(rdNum b s).1) - last)=(rdNum b s).1:=kN n1;refine⟨?_,by rw[List.length_cons,i2],?_,?_⟩
  · intro k hk;rcases List.mem_cons.1 hk with rfl | hk
    · exact bY _
    · exact i1 k hk
  · rw[i3];simp only[aX,hd,List.length_append];rw[n2];dsimp only;congr 1;omega
  · simp only[aX,hd];refine n3.cat ?_;rw[n2] at i4⊢;exact i4
theorem uS {b:Bytes}{s:Rd}(h:(dw b s).2.err=0):allI64 (dw b s).1∧(dw b s).1.length≤400∧
 (dw b s).2=⟨s.at_+(jd (dw b s).1).length,0⟩∧Piece b s.at_ (jd (dw b s).1):=by
 unfold dw at h⊢;have h1:=qE h
 have hc:¬((rdNum b s).2.err=0∧((rdNum b s).1 < 0∨400 < (rdNum b s).1)):=by
  intro hc;unfold jU at h1;rw[if_pos hc] at h1;simp at h1
 have he:jU (rdNum b s)=(rdNum b s).2:=by unfold jU;rw[if_neg hc]
 rw[he] at h h1⊢;obtain⟨n1,n2,n3⟩:=dC h1;obtain⟨i1,i2,i3,i4⟩:=DC _ _ _ h;have hn:((rdNum b s).1.toNat:Int)=(rdNum b s).1:=by omega
 generalize hl:(bC b (rdNum b s).1.toNat 0 (rdNum b s).2)=l at *
 have hp:jd l.1=aF (rdNum b s).1++aX 0 l.1:=by unfold jd;rw[i2,hn]
 refine⟨i1,by omega,?_,?_⟩
 · rw[i3,hp,n2,List.length_append];dsimp only;congr 1;omega
 · rw[hp];refine n3.cat ?_;rw[n2] at i4;exact i4
theorem uK {b:Bytes}{thread seq:Int}{r:Rec}{k:Nat}(ht:inI64 thread)(h:dI b thread seq=(r,k,0)):
 RecOk r∧r.ev.thread=thread∧k=(bD r seq).length∧1≤k∧k≤b.length∧b.take k=bD r seq:=by
 unfold dI at h;dsimp only at h;by_cases he:(lZ b).l6.2.err=0
 · rw[if_pos he] at h;simp only[Prod.mk.injEq] at h;obtain⟨hr,hk,_⟩:=h;unfold lZ at he hr hk;dsimp only at he hr hk;obtain⟨f1,f2,f3,f4⟩:=uS he;have he5:=Bz he;obtain⟨d1,d2,d3,d4⟩:=uS he5;have he4:=Bz he5;obtain⟨g1,g2,g3⟩:=dC he4;have he3:=gu he4;obtain⟨v1,v2,v3⟩:=dC he3;have he2:=gu he3;obtain⟨o1,o2,o3⟩:=dC he2;have he1:=gu he2;obtain⟨k1,k2,k3⟩:=dC he1;have he0:=gu he1;obtain⟨q1,q2,q3⟩:=dC he0;generalize rdNum b ⟨0,0⟩=S0 at *
   generalize rdNum b S0.2=S1 at *
   generalize rdNum b S1.2=S2 at *
   generalize rdNum b S2.2=S3 at *
   generalize rdNum b S3.2=S4 at *
   generalize dw b S4.2=L5 at *
   generalize dw b L5.2=L6 at *
   have hp:Piece b 0 (bD r seq):=by
    rw[←hr];unfold bD;dsimp only;rw[kN q1];refine q3.cat ?_;rw[q2] at k3 k2;refine k3.cat ?_;rw[k2] at o3 o2;refine o3.cat ?_;rw[o2] at v3 v2;refine v3.cat ?_;rw[v2] at g3 g2;refine g3.cat ?_;rw[g2] at d4 d3;refine d4.cat ?_;rw[d3] at f4;exact f4
   have hlen:k=(bD r seq).length:=by
    rw[←hk,f3,d3,g2,v2,o2,k2,q2,←hr];unfold bD;dsimp only;rw[kN q1];simp only[List.length_append];omega
   have hpos:1≤(bD r seq).length:=by
    unfold bD;rw[List.length_append];have:=RI (wrap64 (r.seq - seq));omega
   refine⟨?_,by rw[←hr],hlen,by omega,?_,?_⟩
   · rw[←hr];exact⟨bY _,ht,k1,o1,v1,g1,d1,f1,d2,f2⟩
   · have:=hp.2;simp at this;omega
   · rw[hlen];have:=hp.1;simpa using this
 · rw[if_neg he] at h;simp only[Prod.mk.injEq] at h;exact absurd h.2.2 he
def Cut (b:Bytes)(s:Rd)(rest:Bytes):Prop:=s.err=9∨(s.err=0∧∃j,j < rest.length∧b.drop s.at_=rest.take j)
theorem jY {b rest:Bytes}{s:Rd}{n:Int}(hn:inI64 n)(h:Cut b s (aF n++rest)):Cut b (rdNum b s).2 rest∧((rdNum b s).2.err=0→(rdNum b s).1=n):=by
 rcases h with h | ⟨he,j,hj,hb⟩
 · rw[mf (by rw[h];decide)];exact⟨.inl h,fun h0=>by rw[h] at h0;exact absurd h0 (by decide)⟩
 · rcases Nat.lt_or_ge j (aF n).length with hlt | hge
   · have h2:b.drop s.at_=(aF n).take j:=by rw[hb,List.take_append_of_le_length (by omega)]
     have hz:=RJ hn hlt;unfold rdNum;rw[if_pos he,h2,hz,if_neg (by decide)];exact⟨.inl rfl,fun h0=>absurd (show (9:Int)=0 from h0) (by decide)⟩
   · have h2:b.drop s.at_=aF n++rest.take (j - (aF n).length):=by rw[hb,List.take_append,List.take_of_length_le hge]
     rw[eG hn he h2];rw[List.length_append] at hj;exact⟨.inr ⟨rfl,_,by omega,eH h2⟩,fun _=>rfl⟩
theorem GI {b rest:Bytes}(l:List Int):∀(last:Int) (s:Rd),allI64 l→Cut b s (aX last l++rest)→Cut b (bC b l.length last s).2 rest:=by
 induction l with
 | nil=>intro last s _ h;exact h
 |
  cons k t ih=>
  intro last s hl h;simp only[aX,List.append_assoc] at h;obtain⟨h1,h2⟩:=jY (bY _) h;simp only[List.length_cons,bC];split
  · dsimp only;have h1':=h1;rcases h1' with h9 | ⟨h0,_⟩
    · rw[lq (by rw[h9];decide)];exact .inl h9
    · rw[h2 h0,kM,tK (hl k (by simp))];exact ih _ _ (fun n hn=>hl n (by simp[hn])) h1
  · rename_i he
    rcases h with h | ⟨h,_⟩
    · exact .inl h
    · exact absurd h he
theorem ZJ {b rest:Bytes}{l:List Int}{s:Rd}(hl:allI64 l)(hlen:l.length≤400)(h:Cut b s (jd l++rest)):Cut b (dw b s).2 rest:=by
 unfold jd at h;rw[List.append_assoc] at h;obtain⟨h1,h2⟩:=jY (n:=(l.length:Int)) ⟨by omega,by omega⟩ h;unfold dw jU;rcases h1 with h9 | ⟨h0,h1⟩
 · rw[if_neg (by rw[h9];intro hh;exact absurd hh.1 (by decide)),lq (by rw[h9];decide)];exact .inl h9
 · have hc:=h2 h0;rw[if_neg (by rw[hc];omega),hc,Int.toNat_natCast];exact GI l _ _ hl (.inr ⟨h0,h1⟩)
theorem qo (l:List Int):∀last,(aX last l).length≤10 * l.length:=by
 induction l with
 | nil=>intro last;simp[aX]
 |
  cons k t ih=>
  intro last;have:=ih k;have:=aI (bY (k - last));simp only[aX,List.length_append,List.length_cons];omega
theorem ou (l:List Int)(h:l.length≤400):(jd l).length≤4010:=by
 unfold jd;have:=qo l 0;have:=aI (n:=(l.length:Int)) ⟨by omega,by omega⟩;simp only[List.length_append];omega
theorem x9 {r:Rec}(h:RecOk r)(seq:Int):(bD r seq).length≤8070:=by
 unfold bD;have:=aI (bY (r.seq - seq));have:=aI h.kind;have:=aI h.obj;have:=aI h.value;have:=aI h.site;have:=ou _ h.ld;have:=ou _ h.lf;simp only[List.length_append];omega
structure Blk where
 thread:Int
 first:Int
 recs:List Rec
def aS:Blk:=⟨0,0,[]⟩
def okRecs (thread:Int):Int→List Rec→Bool
 | _,[]=>true
 | seq,r :: t=>decide (r.ev.thread=thread) && decide (seq < r.seq) && decide (r.ev.deps.length≤400) && decide (r.ev.from_.length≤400) && okRecs thread r.seq t
def kJ (x:Blk):Bool:=decide (0 < x.recs.length) && decide (0≤x.thread) && decide (x.thread < 4) && decide (0≤x.first) && decide (x.first≤400) && okRecs x.thread (-1) x.recs
def fits (x:Blk):Int:=if 64 < x.recs.length then 2 else if kJ x then 0 else 1
def aP:Int→List Rec→Bytes
 | _,[]=> []
 | seq,r :: t=>bD r seq++aP r.seq t
def qF (c:Nat):Bytes:= [UInt8.ofNat (c / 16777216),UInt8.ofNat (c / 65536),UInt8.ofNat (c / 256),UInt8.ofNat c]
def eP (thread first n size packed:Int):Bytes:=84 :: UInt8.ofNat (thread % 256).toNat ::(aF first++(aF n++(aF size++aF packed)))
def aT (x:Blk):Bytes:=
 eP x.thread x.first x.recs.length (aP (-1) x.recs).length (pack (aP (-1) x.recs)).length++pack (aP (-1) x.recs)
def ak (x:Blk):Bytes:=aT x++qF (wS (aT x))
def encode (x:Blk):Bytes×Int:=if fits x=0 then (ak x,0) else ([],fits x)
def dG (thread:Int):Nat→Int→Bytes→Option (List Rec×Bytes)
 | 0,_,b=>some ([],b)
 |
  n+1,seq,b=>
  if (dI b thread seq).2.2=0 then
   match dG thread n (dI b thread seq).1.seq (b.drop (dI b thread seq).2.1) with
   | some (l,t)=>some ((dI b thread seq).1 :: l,t)
   | none=>none
  else none
structure Head where
 first:Int×Rd
 n:Int×Rd
 size:Int×Rd
 packed:Int×Rd
def aG (b:Bytes):Head:=
 let a0:=rdNum b ⟨2,0⟩
 let a1:=rdNum b a0.2
 let a2:=rdNum b a1.2
 let a3:=rdNum b a2.2
 ⟨a0,a1,a2,a3⟩
def iK (t:UInt8)(h:Head):Bool:=
 decide (4≤t.toNat) || decide (h.first.1 < 0) || decide (400 < h.first.1) || decide (h.n.1 < 1) || decide (64 < h.n.1) || decide (h.size.1 < 0) || decide (1048576 < h.size.1) || decide (h.packed.1 < 0) || decide (1048576 < h.packed.1)
def nI (b:Bytes)(t:UInt8)(first:Int)(n:Nat)(size:Int)(from_ end_:Nat):Blk×Nat×Int:=
 let p:=unpack ((b.take end_).drop from_) size
 if p.2=0∧(p.1.length:Int)=size then
  match dG t.toNat n (-1) p.1 with
  | some (l,[])=>if encode ⟨t.toNat,first,l⟩=(b.take (end_+4),0) then (⟨t.toNat,first,l⟩,end_+4,0) else (aS,0,11)
  | _=>(aS,0,11)
 else (aS,0,11)
def gy (tail:Bytes→UInt8→Int→Nat→Int→Nat→Nat→Blk×Nat×Int)(b:Bytes):Blk×Nat×Int:=
 match b with
 | []=>(aS,0,9)
 |
  x :: u=>
  if x.toNat≠84 then (aS,0,11)
  else match u with
   | []=>(aS,0,9)
   |
    t :: _=>
    if (aG b).packed.2.err≠0 then (aS,0,(aG b).packed.2.err)
    else if iK t (aG b) then (aS,0,11)
    else if b.length < (aG b).packed.2.at_+(aG b).packed.1.toNat+4 then (aS,0,9)
    else if (b.drop ((aG b).packed.2.at_+(aG b).packed.1.toNat)).take 4≠qF (wS (b.take ((aG b).packed.2.at_+(aG b).packed.1.toNat))) then (aS,0,10)
    else tail b t (aG b).first.1 (aG b).n.1.toNat (aG b).size.1 (aG b).packed.2.at_ ((aG b).packed.2.at_+(aG b).packed.1.toNat)
def decode (b:Bytes):Blk×Nat×Int:=gy nI b
theorem DD (thread:Int)(ht:inI64 thread)(n:Nat):∀(seq:Int) (b:Bytes) (l:List Rec) (t:Bytes),dG thread n seq b=some (l,t)→
 l.length=n∧b=aP seq l++t∧(∀r∈l,RecOk r∧r.ev.thread=thread):=by
 induction n with
 |
  zero=>
  intro seq b l t h;simp only[dG,Option.some.injEq,Prod.mk.injEq] at h;obtain⟨rfl,rfl⟩:=h;exact⟨rfl,rfl,fun r hr=>by simp at hr⟩
 |
  succ n ih=>
  intro seq b l t h;simp only[dG] at h;by_cases he:(dI b thread seq).2.2=0
  · rw[if_pos he] at h
    cases hg:dG thread n (dI b thread seq).1.seq (b.drop (dI b thread seq).2.1) with
    | none=>rw [hg] at h;simp at h
    |
     some p=>
     obtain⟨l',t'⟩:=p;rw[hg] at h;simp only[Option.some.injEq,Prod.mk.injEq] at h;obtain⟨rfl,rfl⟩:=h;obtain⟨i1,i2,i3⟩:=ih _ _ _ _ hg;have:=uK (b:=b) (thread:=thread) (seq:=seq) (r:=(dI b thread seq).1) (k:=(dI b thread seq).2.1) ht (by rw[←he]);obtain⟨r1,r2,r3,_,r5,r6⟩:=this;refine⟨by simp[i1],?_,?_⟩
     · simp only[aP,List.append_assoc];rw[←i2,←r6,List.take_append_drop]
     · intro r hr;rcases List.mem_cons.1 hr with rfl | hr
       · exact⟨r1,r2⟩
       · exact i3 r hr
  · rw[if_neg he] at h;simp at h
theorem GK (thread:Int)(l:List Rec):∀(seq:Int) (rest:Bytes),(∀r∈l,RecOk r∧r.ev.thread=thread)→dG thread l.length seq (aP seq l++rest)=some (l,rest):=by
 induction l with
 | nil=>intro seq rest _;rfl
 |
  cons r t ih=>
  intro seq rest h;have hr:=h r (by simp);have hg:dI (bD r seq++(aP r.seq t++rest)) thread seq=(r,(bD r seq).length,0):=by rw[←hr.2];exact J9 hr.1 seq _
  simp only[List.length_cons,dG,aP,List.append_assoc];rw[hg];simp only[if_true];rw[List.drop_left,ih r.seq rest fun q hq=>h q (by simp[hq])]
theorem uT {b rest:Bytes}{t0 t1:UInt8}{first n size packed:Int}(h1:inI64 first)(h2:inI64 n)(h3:inI64 size)(h4:inI64 packed)
 (hb:b=t0 :: t1 ::(aF first++(aF n++(aF size++aF packed)))++rest):
 (aG b).first.1=first∧(aG b).n.1=n∧(aG b).size.1=size∧
  (aG b).packed=(packed,⟨2+((aF first).length+((aF n).length+((aF size).length+(aF packed).length))),0⟩):=by
 have hb0:b.drop 2=aF first++(aF n++(aF size++(aF packed++rest))):=by rw[hb];simp
 have a0:=eG (s:=⟨2,0⟩) h1 rfl hb0;have hb1:=eH hb0;have a1:=eG (s:=⟨_,0⟩) h2 rfl hb1;have hb2:=eH hb1;have a2:=eG (s:=⟨_,0⟩) h3 rfl hb2;have hb3:=eH hb2;have a3:=eG (s:=⟨_,0⟩) h4 rfl hb3;unfold aG;simp only[a0,a1,a2,a3];refine⟨trivial,trivial,trivial,?_⟩;congr 2;omega
theorem DF {b:Bytes}(h:(aG b).packed.2.err=0):
 inI64 (aG b).first.1∧inI64 (aG b).n.1∧inI64 (aG b).size.1∧inI64 (aG b).packed.1∧
 Piece b 2 (aF (aG b).first.1++(aF (aG b).n.1++(aF (aG b).size.1++aF (aG b).packed.1)))∧
 (aG b).packed.2.at_=2+(aF (aG b).first.1++(aF (aG b).n.1++(aF (aG b).size.1++aF (aG b).packed.1))).length:=by
 unfold aG at h⊢;dsimp only at h⊢;obtain⟨n3,p3,q3⟩:=dC h;have h2:=gu h;obtain⟨n2,p2,q2⟩:=dC h2;have h1:=gu h2;obtain⟨n1,p1,q1⟩:=dC h1;have h0:=gu h1;obtain⟨n0,p0,q0⟩:=dC h0;generalize rdNum b ⟨2,0⟩=S0 at *
 generalize rdNum b S0.2=S1 at *
 generalize rdNum b S1.2=S2 at *
 generalize rdNum b S2.2=S3 at *
 refine⟨n0,n1,n2,n3,?_,?_⟩
 · refine q0.cat ?_;rw[p0] at q1 p1;refine q1.cat ?_;rw[p1] at q2 p2;refine q2.cat ?_;rw[p2] at q3;exact q3
 · rw[p3,p2,p1,p0];simp only[List.length_append];omega
theorem zY {t:UInt8}{h:Head}(hh:iK t h=false):t.toNat < 4∧0≤h.first.1∧h.first.1≤400∧1≤h.n.1∧h.n.1≤64∧0≤h.size.1∧h.size.1≤1048576∧0≤h.packed.1∧h.packed.1≤1048576:=by
 unfold iK at hh;simp only[Bool.or_eq_false_iff,decide_eq_false_iff_not] at hh;omega
theorem jJ (c:Nat):(qF c).length=4:=rfl
theorem RV {b:Bytes}{x:Blk}{k:Nat}(hf:inI64 x.first)(hn:x.recs.length≤64)(hs:(aP (-1) x.recs).length≤4611686018427387904)(hk:b.take k=ak x):
 (aG b).size.1=(aP (-1) x.recs).length:=by
 have hp:=dA (aP (-1) x.recs)
 have hb:b=84 :: UInt8.ofNat (x.thread % 256).toNat ::(aF x.first++(aF x.recs.length++(aF (aP (-1) x.recs).length++aF (pack (aP (-1) x.recs)).length)))++
  (pack (aP (-1) x.recs)++(qF (wS (aT x))++b.drop k)):=by
  conv=>lhs;rw[←List.take_append_drop k b,hk]
  unfold ak aT eP;simp only[List.append_assoc,List.cons_append]
 exact (uT hf ⟨by omega,by omega⟩ ⟨by omega,by omega⟩ ⟨by omega,by omega⟩ hb).2.2.1
theorem BA {x:Blk}{y:Bytes}(h:encode x=(y,0)):fits x=0∧y=ak x:=by
 unfold encode at h;by_cases hf:fits x=0
 · rw[if_pos hf] at h;simp only[Prod.mk.injEq] at h;exact⟨hf,h.1.symm⟩
 · rw[if_neg hf] at h;simp only[Prod.mk.injEq] at h;exact absurd h.2 hf
theorem jE (thread:Int)(l:List Rec):∀seq,okRecs thread seq l=true→∀r∈l,r.ev.thread=thread∧r.ev.deps.length≤400∧r.ev.from_.length≤400∧seq < r.seq:=by
 induction l with
 | nil=>intro seq _ r hr;simp at hr
 |
  cons q t ih=>
  intro seq h r hr;simp only[okRecs,Bool.and_eq_true,decide_eq_true_eq] at h;rcases List.mem_cons.1 hr with rfl | hr
  · exact⟨h.1.1.1.1,h.1.1.2,h.1.2,h.1.1.1.2⟩
  · have:=ih _ h.2 r hr;exact⟨this.1,this.2.1,this.2.2.1,by omega⟩
theorem dR {x:Blk}(h:fits x=0):0 < x.recs.length∧x.recs.length≤64∧0≤x.thread∧x.thread < 4∧0≤x.first∧x.first≤400∧okRecs x.thread (-1) x.recs=true:=by
 unfold fits at h;by_cases h1:64 < x.recs.length
 · rw[if_pos h1] at h;simp at h
 · rw[if_neg h1] at h;by_cases h2:kJ x=true
   · unfold kJ at h2;simp only[Bool.and_eq_true,decide_eq_true_eq] at h2;obtain⟨⟨⟨⟨⟨a,b⟩,c⟩,d⟩,e⟩,f⟩:=h2;exact⟨a,by omega,b,c,d,e,f⟩
   · rw[if_neg h2] at h;simp at h
theorem gz (l:List Rec):∀seq,(∀r∈l,RecOk r)→(aP seq l).length≤8070 * l.length:=by
 induction l with
 | nil=>intro seq _;simp[aP]
 |
  cons r t ih=>
  intro seq h;have h1:=x9 (h r (by simp)) seq;have h2:=ih r.seq fun q hq=>h q (by simp[hq])
  simp only[aP,List.length_append,List.length_cons];omega
theorem decode_encode {x:Blk}(h:fits x=0)(hr:∀r∈x.recs,RecOk r)(more:Bytes):decode (ak x++more)=(x,(ak x).length,0):=by
 obtain⟨h1,h2,h3,h4,h5,h6,h7⟩:=dR h;have hth:=jE x.thread x.recs (-1) h7;have hpl:=gz x.recs (-1) hr;have hpb:=dA (aP (-1) x.recs);generalize hpay:aP (-1) x.recs=pay at *
 have hb:ak x++more=84 :: UInt8.ofNat (x.thread % 256).toNat ::(aF x.first++(aF x.recs.length++(aF pay.length++aF (pack pay).length)))++
  (pack pay++(qF (wS (aT x))++more)):=by
  unfold ak aT eP;rw[hpay];simp only[List.append_assoc,List.cons_append]
 have hlb:(aT x).length=2+((aF x.first).length+((aF x.recs.length).length+((aF pay.length).length+(aF (pack pay).length).length)))+(pack pay).length:=by
  unfold aT eP;rw[hpay];simp only[List.length_append,List.length_cons];omega
 obtain⟨g1,g2,g3,g4⟩:=uT (b:=ak x++more) ⟨by omega,by omega⟩ ⟨by omega,by omega⟩ ⟨by omega,by omega⟩ ⟨by omega,by omega⟩ hb;have ht:(UInt8.ofNat (x.thread % 256).toNat).toNat=x.thread.toNat:=by rw[aK (by omega)];omega
 have hbody:(ak x++more).take (aT x).length=aT x:=by
  unfold ak;rw[List.append_assoc,List.take_left]
 have hsum:((ak x++more).drop (aT x).length).take 4=qF (wS (aT x)):=by
  unfold ak;rw[List.append_assoc,List.drop_left];exact List.take_left' (jJ _)
 have hwhole:(ak x++more).take ((aT x).length+4)=ak x:=List.take_left' (by unfold ak;rw[List.length_append,jJ]);unfold decode
 have hcases:gy nI (ak x++more)=gy nI (84 :: UInt8.ofNat (x.thread % 256).toNat ::((aF x.first++(aF x.recs.length++(aF pay.length++aF (pack pay).length)))++(pack pay++(qF (wS (aT x))++more)))):=by
  rw[hb];rfl
 rw[hcases];unfold gy;dsimp only;have hb':84 :: UInt8.ofNat (x.thread % 256).toNat ::((aF x.first++(aF x.recs.length++(aF pay.length++aF (pack pay).length)))++(pack pay++(qF (wS (aT x))++more)))=ak x++more:=hb.symm;rw[hb'];rw[if_neg (by decide)];rw[g4];dsimp only;rw[if_neg (by decide)]
 have hbad:iK (UInt8.ofNat (x.thread % 256).toNat) (aG (ak x++more))=false:=by
  unfold iK;rw[g1,g2,g3,g4,ht];simp only[Bool.or_eq_false_iff,decide_eq_false_iff_not];omega
 rw[hbad];simp only[Bool.false_eq_true,if_false];rw[Int.toNat_natCast];rw[show 2+((aF x.first).length+((aF x.recs.length).length+((aF pay.length).length+(aF (pack pay).length).length)))+(pack pay).length=(aT x).length from hlb.symm];rw[if_neg (by unfold ak;rw[List.length_append,List.length_append,jJ];omega)];rw[hbody,hsum,if_neg (by simp)];rw[g1,g2,g3];unfold nI;dsimp only
 have hmid:((ak x++more).take (aT x).length).drop (2+((aF x.first).length+((aF x.recs.length).length+((aF pay.length).length+(aF (pack pay).length).length))))=pack pay:=by
  rw[hbody];unfold aT;rw[hpay];refine List.drop_left' ?_;unfold eP;simp only[List.length_append,List.length_cons];omega
 rw[hmid,Gz];dsimp only;rw[if_pos ⟨rfl,rfl⟩];have ht2:((UInt8.ofNat (x.thread % 256).toNat).toNat:Int)=x.thread:=by rw[ht];omega
 rw[ht2];have hg:=GK x.thread x.recs (-1) [] fun r hr'=>⟨hr r hr',(hth r hr').1⟩
 rw[List.append_nil,hpay] at hg;rw[Int.toNat_natCast,hg];dsimp only;rw[hwhole]
 have he:encode ⟨x.thread,x.first,x.recs⟩=(ak x,0):=by
  unfold encode;rw[if_pos (show fits ⟨x.thread,x.first,x.recs⟩=0 from h)]
 rw[if_pos he];have:(aT x).length+4=(ak x).length:=by unfold ak;rw[List.length_append,jJ]
 rw[this]
end Iv
namespace Iv
theorem GM {x:Blk}(h:fits x=0)(hr:∀r∈x.recs,RecOk r){k:Nat}(hk:k < (ak x).length)(h2:2≤k):
 (aG ((ak x).take k)).packed.2.err=9∨
  ((
   aG ((ak x).take k)).first.1=x.first∧(aG ((ak x).take k)).n.1=x.recs.length∧(aG ((ak x).take k)).size.1=(aP (-1) x.recs).length∧
   (aG ((ak x).take k)).packed.1=(pack (aP (-1) x.recs)).length∧(aG ((ak x).take k)).packed.2.err=0∧
   (aG ((ak x).take k)).packed.2.at_+(pack (aP (-1) x.recs)).length+4=(ak x).length):=by
 obtain⟨h1,h64,h3,h4,h5,h6,h7⟩:=dR h;have hpl:=gz x.recs (-1) hr;have hpb:=dA (aP (-1) x.recs);generalize hpay:aP (-1) x.recs=pay at *
 have hb:ak x=84 :: UInt8.ofNat (x.thread % 256).toNat ::(aF x.first++(aF x.recs.length++(aF pay.length++(aF (pack pay).length++(pack pay++qF (wS (aT x))))))):=by
  unfold ak aT eP;rw[hpay];simp only[List.append_assoc,List.cons_append]
 generalize hc:(ak x).take k=c
 have hd:c.drop 2=(aF x.first++(aF x.recs.length++(aF pay.length++(aF (pack pay).length++(pack pay++qF (wS (aT x))))))).take (k - 2):=by
  rw[←hc,hb];obtain⟨j,rfl⟩:∃j,k=j+2:=⟨k - 2,by omega⟩;simp
 rw[hb] at hk;simp only[List.length_cons] at hk
 have hl:(ak x).length=2+(aF x.first).length+(aF x.recs.length).length+(aF pay.length).length+(aF (pack pay).length).length+(pack pay).length+4:=by
  rw[hb];simp only[List.length_cons,List.length_append,jJ];omega
 have c0:Cut c ⟨2,0⟩ _:= .inr ⟨rfl,k - 2,by omega,hd⟩;obtain⟨c1,e1⟩:=jY (n:=x.first) ⟨by omega,by omega⟩ c0;obtain⟨c2,e2⟩:=jY (n:=(x.recs.length:Int)) ⟨by omega,by omega⟩ c1;obtain⟨c3,e3⟩:=jY (n:=(pay.length:Int)) ⟨by omega,by omega⟩ c2;obtain⟨c4,e4⟩:=jY (n:=((pack pay).length:Int)) ⟨by omega,by omega⟩ c3;rcases c4 with h9 | ⟨h0,_⟩
 · exact .inl h9
 · refine .inr ?_;have hh:(aG c).packed.2.err=0:=h0;have i3:=gu h0;have i2:=gu i3;have i1:=gu i2;have f1:(aG c).first.1=x.first:=e1 i1;have f2:(aG c).n.1=x.recs.length:=e2 i2;have f3:(aG c).size.1=pay.length:=e3 i3;have f4:(aG c).packed.1=(pack pay).length:=e4 h0;refine⟨f1,f2,f3,f4,hh,?_⟩;have:=(DF hh).2.2.2.2.2;rw[this,f1,f2,f3,f4,hl];simp only[List.length_append];omega
theorem Ko {x:Blk}(h:fits x=0)(hr:∀r∈x.recs,RecOk r){k:Nat}(hk:k < (ak x).length):decode ((ak x).take k)=(aS,0,9):=by
 obtain⟨h1,h64,h3,h4,h5,h6,h7⟩:=dR h;have hpl:=gz x.recs (-1) hr;have hpb:=dA (aP (-1) x.recs);have hb:∃u,ak x=84 :: UInt8.ofNat (x.thread % 256).toNat :: u:=⟨_,rfl⟩;obtain⟨u,hb⟩:=hb;have hcut:=GM h hr hk;generalize hc:(ak x).take k=c at *
 rw[hb] at hc;unfold decode gy
 match k,hk with
 | 0,_=>subst hc;rfl
 | 1,_=>subst hc;rfl
 |
  j+2,hk=>
  simp only[List.take_succ_cons] at hc
  have hlen:c.length=j+2:=by
   rw[hb] at hk;simp only[List.length_cons] at hk;rw[←hc];simp;omega
  have hcc:=hc;rw[←hc];dsimp only;rw[hcc,if_neg (by decide)];rcases hcut (by omega) with h9 | ⟨f1,f2,f3,f4,f0,fl⟩
  · rw[h9,if_pos (by decide)]
  · rw[f0,if_neg (by decide)];have ht:(UInt8.ofNat (x.thread % 256).toNat).toNat=x.thread.toNat:=by rw[aK (by omega)];omega
    have hbad:iK (UInt8.ofNat (x.thread % 256).toNat) (aG c)=false:=by
     unfold iK;rw[f1,f2,f3,f4,ht];simp only[Bool.or_eq_false_iff,decide_eq_false_iff_not];omega
    rw[hbad];simp only[Bool.false_eq_true,if_false];rw[f4,Int.toNat_natCast,if_pos (by omega)]
end Iv
namespace Iv
open Go.RowKit (wrap64)
theorem oK {b:Bytes}{x:Blk}{k:Nat}(h:decode b=(x,k,0)):fits x=0∧b.take k=ak x∧k≤b.length∧0 < k:=by
 have key:fits x=0∧b.take k=ak x∧k≤b.length:=by
  unfold decode gy at h;split at h
  · simp at h
  · split at h
    · simp at h
    · split at h
      · simp at h
      · split at h
        · rename_i he
          simp only[Prod.mk.injEq] at h;exact absurd h.2.2 he
        · split at h
          · simp at h
          · split at h
            · simp at h
            · rename_i hlen
              split at h
              · simp at h
              · unfold nI at h;dsimp only at h;split at h
                · split at h
                  · split at h
                    · rename_i henc
                      simp only[Prod.mk.injEq] at h;obtain⟨h1,h2,_⟩:=h;subst h1 h2;obtain⟨f0,hy⟩:=BA henc;refine⟨f0,hy,by omega⟩
                    · simp at h
                  · simp at h
                · simp at h
 refine⟨key.1,key.2.1,key.2.2,?_⟩;rcases Nat.eq_zero_or_pos k with h0 | h0
 · have h1:=key.2.1;rw[h0,List.take_zero] at h1;unfold ak aT eP at h1;simp at h1
 · exact h0
def lg (th recs last:Int)(d:Blk×Nat×Int):Bool:=
 decide (d.2.2=0) && decide (d.1.thread=th) && decide (d.1.first=recs) &&(match d.1.recs with | []=>false | r :: _=>decide (last < r.seq))
def iJ (x:Blk)(e:Int):Int:=match x.recs.getLast? with | some r=>r.seq | none=>e
def bI (th:Int):Nat→Bytes→Int→Int→List (Blk×Nat)
 | 0,_,_,_=> []
 |
  f+1,b,recs,last=>
  if lg th recs last (decode b) then ((decode b).1,(decode b).2.1) :: bI th f (b.drop (decode b).2.1) (recs+(decode b).1.recs.length) (iJ (decode b).1 last) else []
theorem kP {th recs last:Int}{b:Bytes}(h:lg th recs last (decode b)=true):(decode b).2.2=0∧(decode b).2.1≤b.length∧0 < (decode b).2.1∧fits (decode b).1=0:=by
 unfold lg at h;simp only[Bool.and_eq_true,decide_eq_true_eq] at h
 have he:decode b=((decode b).1,(decode b).2.1,0):=by
  rw[←h.1.1.1]
 have:=oK he;exact⟨h.1.1.1,this.2.2.1,this.2.2.2,this.1⟩
theorem zZ (th:Int)(f:Nat):∀(g:Nat) (b:Bytes) (recs last:Int),b.length < f→b.length < g→bI th f b recs last=bI th g b recs last:=by
 induction f with
 | zero=>intro g b recs last h;omega
 |
  succ f ih=>
  intro g b recs last hf hg;obtain⟨g,rfl⟩:∃g',g=g'+1:=⟨g - 1,by omega⟩;unfold bI;split
  · rename_i hgood
    obtain⟨_,h1,h2,_⟩:=kP hgood;congr 1;exact ih g _ _ _ (by rw[List.length_drop];omega) (by rw[List.length_drop];omega)
  · rfl
def aJ (th:Int)(b:Bytes)(recs last:Int):List (Blk×Nat):=bI th (b.length+1) b recs last
theorem kG {th recs last:Int}{b:Bytes}(h:lg th recs last (decode b)=true):
 aJ th b recs last=((decode b).1,(decode b).2.1) :: aJ th (b.drop (decode b).2.1) (recs+(decode b).1.recs.length) (iJ (decode b).1 last):=by
 obtain⟨_,h1,h2,_⟩:=kP h;unfold aJ
 conv=>lhs;unfold bI
 rw[if_pos h];congr 1;exact zZ th _ _ _ _ _ (by rw[List.length_drop];omega) (by omega)
theorem eY {th recs last:Int}{b:Bytes}(h:lg th recs last (decode b)=false):aJ th b recs last= []:=by
 unfold aJ bI;rw[if_neg (by rw[h];decide)]
def sizeB (l:List (Blk×Nat)):Nat:=(l.map (·.2)).sum
structure RecFit (r:Rec):Prop where
 seq:inI64 r.seq
 thread:inI64 r.ev.thread
 kind:inI64 r.ev.kind
 obj:inI64 r.ev.obj
 value:inI64 r.ev.value
 site:inI64 r.ev.site
 deps:allI64 r.ev.deps
 from_:allI64 r.ev.from_
structure Pln where
 cap:Int
 flushes:List (Int×Int)
 stop:Int
 cuts:List Int
def iL (thr:Int)(f:Int×Int):Bool:=decide (0≤f.1) && decide (0≤f.2) && decide (f.2 < thr)
def iE (thr:Int)(p:Pln):Bool:=decide (1≤thr) && decide (thr≤4) && decide (1≤p.cap) && decide (p.cap≤64) && decide (0≤p.stop)
def mY (thr:Int)(p:Pln):Bool:=iE thr p && p.flushes.all (iL thr) && p.cuts.all (fun n=>decide (0≤n)) && decide ((p.cuts.length:Int)≤thr)
def vW (thr:Int)(e:Ev):Bool:=decide (0≤e.thread) && decide (e.thread < thr) && decide (e.deps.length≤400) && decide (e.from_.length≤400)
def aY (l:List Ev)(thr:Int)(p:Pln):Int:=if mY thr p then (if 400 < l.length then 2 else if l.all (vW thr) then 0 else 1) else 1
structure St where
 buf:Nat→List Rec
 first:Nat→Int
 file:Nat→Bytes
def upd {α:Type}(f:Nat→α)(t:Nat)(x:α):Nat→α:=fun k=>if k=t then x else f k
theorem cZ {α:Type}(f:Nat→α)(t:Nat)(x:α):upd f t x t=x:=by simp[upd]
theorem bG {α:Type}(f:Nat→α){t k:Nat}(x:α)(h:k≠t):upd f t x k=f k:=by simp[upd,h]
def Bj (s:St)(t:Nat):Blk:=⟨t,s.first t,s.buf t⟩
def St.write (s:St)(t:Nat):St:=
 if (s.buf t).length=0 then s else ⟨upd s.buf t [],upd s.first t (s.first t+(s.buf t).length),upd s.file t (s.file t++(encode (Bj s t)).1)⟩
def St.push (s:St)(t:Nat)(r:Rec):St:=⟨upd s.buf t (s.buf t++ [r]),s.first,s.file⟩
def St.add (s:St)(cap:Int)(seq:Nat)(e:Ev):St:=
 if (((s.buf e.thread.toNat).length+1:Nat):Int)=cap∨e.kind=2 then (s.push e.thread.toNat ⟨seq,e⟩).write e.thread.toNat else s.push e.thread.toNat ⟨seq,e⟩
def St.flush (s:St)(n:Nat):List (Int×Int)→St
 | []=>s
 | f :: fs=>St.flush (if f.1=n then s.write f.2.toNat else s) n fs
def St.none:St:=⟨fun _=> [],fun _=>0,fun _=> []⟩
def recorded (l:List Ev)(p:Pln):Nat→St
 | 0=>St.none.flush 0 p.flushes
 |
  n+1=>match l[n]? with
  | some e=>((recorded l p n).add p.cap n e).flush (n+1) p.flushes
  | none=>recorded l p n
def wP (b:Bytes)(k:Int):Bytes:=b.take (b.length - k.toNat)
theorem GN {th:Int}(l:List Rec):∀ {seq:Int} {r:Rec},okRecs th seq l=true→(∀q∈l,q.seq < r.seq)→seq < r.seq→r.ev.thread=th→r.ev.deps.length≤400→r.ev.from_.length≤400→okRecs th seq (l++ [r])=true:=by
 induction l with
 |
  nil=>
  intro seq r _ _ hs ht hd hf;simp[okRecs,hs,ht,hd,hf]
 |
  cons a l ih=>
  intro seq r h hall hs ht hd hf;simp only[okRecs,Bool.and_eq_true,List.cons_append] at h⊢;exact⟨h.1,ih h.2 (fun q hq=>hall q (List.mem_cons_of_mem _ hq)) (hall a (List.mem_cons_self ..)) ht hd hf⟩
structure GoodT (c n:Nat)(t:Nat)(b:List Rec)(f:Int)(x:Bytes):Prop where
 ok:okRecs t (-1) b=true
 len:b.length≤c
 below:∀r∈b,r.seq < n
 fit:∀r∈b,RecFit r
 lo:0≤f
 hi:f+b.length≤n
 size:(x.length:Int)≤10000 * f
theorem tu {thread seq:Int}{rs:List Rec}(h:okRecs thread seq rs=true)(hn:∀r∈rs,RecFit r):∀r∈rs,RecOk r:=by
 intro r hr;have h1:=jE thread rs seq h r hr;have h2:=hn r hr;exact⟨h2.seq,h2.thread,h2.kind,h2.obj,h2.value,h2.site,h2.deps,h2.from_,h1.2.1,h1.2.2.1⟩
theorem GoodT.fits {c n t:Nat}{b:List Rec}{f:Int}{x:Bytes}(h:GoodT c n t b f x)(hb:0 < b.length)(hc:c≤64)(hn:n≤400)(ht:t < 4):fits ⟨t,f,b⟩=0:=by
 have h1:=h.ok;have h2:=h.len;have h3:=h.lo;have h4:=h.hi;unfold Iv.fits kJ;rw[if_neg (by show¬64 < b.length;omega)]
 have:(decide (0 < b.length) && decide (0≤(t:Int)) && decide ((t:Int) < 4) && decide (0≤f) && decide (f≤400) && okRecs t (-1) b)=true:=by
  rw[h1];simp only[Bool.and_true,Bool.and_eq_true,decide_eq_true_eq];omega
 rw[if_pos this]
theorem Wn {x:Blk}(hf:fits x=0)(hr:∀r∈x.recs,RecOk r):(ak x).length≤10000 * x.recs.length:=by
 obtain⟨z0,z1,z2,z3,z4,z5,z6⟩:=dR hf;have hpl:=gz x.recs (-1) hr;have hq:=dA (aP (-1) x.recs);have q1:=aI (n:=x.first) ⟨by omega,by omega⟩;have q2:=aI (n:=(x.recs.length:Int)) ⟨by omega,by omega⟩;have q3:=aI (n:=((aP (-1) x.recs).length:Int)) ⟨by omega,by omega⟩;have q4:=aI (n:=((pack (aP (-1) x.recs)).length:Int)) ⟨by omega,by omega⟩;unfold ak aT eP;simp only[List.length_append,List.length_cons,jJ];omega
theorem GoodT.enc {c n t:Nat}{b:List Rec}{f:Int}{x:Bytes}(h:GoodT c n t b f x)(hb:0 < b.length)(hc:c≤64)(hn:n≤400)(ht:t < 4):
 (encode ⟨t,f,b⟩).2=0∧(encode ⟨t,f,b⟩).1.length≤10000 * b.length:=by
 have hf:=h.fits hb hc hn ht;have:encode ⟨t,f,b⟩=(ak ⟨t,f,b⟩,0):=by unfold encode;rw[if_pos hf]
 rw[this];exact⟨rfl,Wn hf (tu h.ok h.fit)⟩
theorem GoodT.wrote {c n t:Nat}{b:List Rec}{f:Int}{x:Bytes}(h:GoodT c n t b f x)(hb:0 < b.length)(hc:c≤64)(hn:n≤400)(ht:t < 4)(c':Nat):GoodT c' n t [] (f+b.length) (x++(encode ⟨t,f,b⟩).1):=by
 have h3:=h.lo;have h4:=h.hi;have h5:=h.size;have h6:=(h.enc hb hc hn ht).2;refine⟨rfl,by simp,fun r hr=>by simp at hr,fun r hr=>by simp at hr,by omega,by simp;omega,?_⟩;rw[List.length_append];omega
theorem GoodT.pushed {c n t:Nat}{b:List Rec}{f:Int}{x:Bytes}(h:GoodT c n t b f x){e:Ev}(he:e.thread=t)(hd:e.deps.length≤400)(hf:e.from_.length≤400)(hr:RecFit ⟨n,e⟩):GoodT (c+1) (n+1) t (b++ [⟨n,e⟩]) f x:=by
 have h2:=h.len;have h4:=h.hi;refine⟨GN b h.ok (fun q hq=>h.below q hq) (by show (-1:Int) < (n:Int);omega) he hd hf,by simp;omega,fun r hr'=>?_,fun r hr'=>?_,h.lo,by simp;omega,h.size⟩
 · rcases List.mem_append.1 hr' with h1 | h1
   · have:=h.below r h1;omega
   · simp only[List.mem_singleton] at h1;subst h1;show (n:Int) < ((n+1:Nat):Int);omega
 · rcases List.mem_append.1 hr' with h1 | h1
   · exact h.fit r h1
   · simp only[List.mem_singleton] at h1;subst h1;exact hr
theorem GoodT.later {c n n' t:Nat}{b:List Rec}{f:Int}{x:Bytes}(h:GoodT c n t b f x)(hn:n≤n'):GoodT c n' t b f x:=
 ⟨h.ok,h.len,fun r hr=>by have:=h.below r hr;omega,h.fit,h.lo,by have:=h.hi;omega,h.size⟩
theorem GoodT.wider {c c' n t:Nat}{b:List Rec}{f:Int}{x:Bytes}(h:GoodT c n t b f x)(hc:b.length≤c'):GoodT c' n t b f x:=⟨h.ok,hc,h.below,h.fit,h.lo,h.hi,h.size⟩
def Good (c n thr:Nat)(s:St):Prop:=∀t,t < thr→GoodT c n t (s.buf t) (s.first t) (s.file t)
theorem Good.none (c thr:Nat):Good c 0 thr St.none:=fun t _=>⟨rfl,by simp[St.none],fun r hr=>by simp[St.none] at hr,fun r hr=>by simp[St.none] at hr,by simp[St.none],by simp[St.none],by simp[St.none]⟩
theorem Good.write {c n thr:Nat}{s:St}(h:Good c n thr s)(hc:c≤64)(hn:n≤400)(xR:thr≤4)(t:Nat)(ht:t < thr):Good c n thr (s.write t):=by
 unfold St.write;split
 · exact h
 · rename_i h0
   intro k hk;by_cases hkt:k=t
   · subst hkt;simp only[cZ];exact (h k hk).wrote (by omega) hc hn (by omega) c
   · simp only[bG _ _ hkt];exact h k hk
theorem Good.flush {c n thr:Nat}(hc:c≤64)(hn:n≤400)(xR:thr≤4)(fs:List (Int×Int)):∀ {s:St},Good c n thr s→(∀f∈fs,0≤f.2∧f.2 < thr)→Good c n thr (s.flush n fs):=by
 induction fs with
 | nil=>intro s h _;exact h
 |
  cons f fs ih=>
  intro s h hf;have h1:=hf f (List.mem_cons_self ..);unfold St.flush;refine ih ?_ (fun g hg=>hf g (List.mem_cons_of_mem _ hg));split
  · exact h.write hc hn xR _ (by omega)
  · exact h
theorem Good.push {c n thr:Nat}{s:St}(h:Good c n thr s){e:Ev}(he:0≤e.thread)(hd:e.deps.length≤400)(hf:e.from_.length≤400)(hr:RecFit ⟨n,e⟩):
 ∀t,t < thr→GoodT (c+1) (n+1) t ((s.push e.thread.toNat ⟨n,e⟩).buf t) ((s.push e.thread.toNat ⟨n,e⟩).first t) ((s.push e.thread.toNat ⟨n,e⟩).file t):=by
 intro t htt;unfold St.push;by_cases hk:t=e.thread.toNat
 · subst hk;simp only[cZ];exact (h _ htt).pushed (by omega) hd hf hr
 · simp only[bG _ _ hk];exact ((h t htt).later (Nat.le_succ n)).wider (by have:=(h t htt).len;omega)
theorem Good.pushed {c n thr:Nat}{s:St}(h:Good c n thr s){e:Ev}(he:0≤e.thread)(hd:e.deps.length≤400)(hf:e.from_.length≤400)(hr:RecFit ⟨n,e⟩):Good (c+1) (n+1) thr (s.push e.thread.toNat ⟨n,e⟩):=h.push he hd hf hr
theorem Good.add {c n thr:Nat}{s:St}(h:Good c n thr s){e:Ev}(hc:c+1≤64)(hn:n+1≤400)(xR:thr≤4)(he:0≤e.thread)(ht:e.thread < thr)(hd:e.deps.length≤400)(hf:e.from_.length≤400)(hr:RecFit ⟨n,e⟩):Good c (n+1) thr (s.add ((c+1:Nat):Int) n e):=by
 have hp:=h.pushed he hd hf hr;have htn:e.thread.toNat < thr:=by omega
 unfold St.add;split
 · have hw:=hp.write hc hn xR _ htn;intro t htt;refine (hw t htt).wider ?_;unfold St.write;have h0:¬((s.push e.thread.toNat ⟨n,e⟩).buf e.thread.toNat).length=0:=by unfold St.push;simp[cZ]
   rw[if_neg h0];by_cases hk:t=e.thread.toNat
   · subst hk;simp[cZ]
   · simp only[bG _ _ hk,St.push];exact (h t htt).len
 · rename_i hne
   intro t htt;refine (hp t htt).wider ?_;by_cases hk:t=e.thread.toNat
   · subst hk;have h1:=(h _ htt).len;unfold St.push;simp only[cZ,List.length_append,List.length_singleton];by_cases h2:(s.buf e.thread.toNat).length=c
     · exact absurd (.inl (by rw[h2])) hne
     · omega
   · simp only[bG _ _ hk,St.push];exact (h t htt).len
end Iv
namespace Iv
def vY (l:List Ev)(p:Pln):Nat→St
 | 0=>St.none
 | n+1=>recorded l p n
def jQ (l:List Ev)(p:Pln):Nat:=min p.stop.toNat l.length
def jc (s:St)(cuts:List Int)(k:Nat):St:=⟨s.buf,s.first,fun t=>match (cuts.take k)[t]? with | some x=>wP (s.file t) x | none=>s.file t⟩
def dN (l:List Ev)(p:Pln)(t:Nat):Bytes:=(jc (recorded l p (jQ l p)) p.cuts p.cuts.length).file t
theorem rE {l:List Ev}{p:Pln}{n:Nat}{e:Ev}(h:l[n]?=some e):recorded l p (n+1)=((vY l p (n+1)).add p.cap n e).flush (n+1) p.flushes:=by
 show (match l[n]? with | some e=>((recorded l p n).add p.cap n e).flush (n+1) p.flushes | none=>recorded l p n)=_;rw[h];rfl
theorem xO (s:St)(cuts:List Int):jc s cuts 0=s:=by
 cases s
 simp[jc]
theorem RX (s:St)(cuts:List Int)(k:Nat):(jc s cuts k).file k=s.file k:=by
 unfold jc;simp[List.getElem?_take]
theorem Kq {s:St}{cuts:List Int}{k:Nat}{x:Int}(h:cuts[k]?=some x):jc s cuts (k+1)=⟨(jc s cuts k).buf,(jc s cuts k).first,upd (jc s cuts k).file k (wP (s.file k) x)⟩:=by
 unfold jc;congr 1;funext t;unfold upd;simp only[List.getElem?_take];by_cases ht:t=k
 · subst ht;simp[h]
 · rw[if_neg ht];by_cases h1:t < k
   · rw[if_pos h1,if_pos (by omega)]
   · rw[if_neg h1,if_neg (by omega)]
theorem Kr (s:St)(n:Nat)(f:Int×Int)(fs:List (Int×Int)):s.flush n (f :: fs)=(if f.1=n then s.write f.2.toNat else s).flush n fs:=rfl
theorem Kt {fs:List (Int×Int)}{k:Nat}{f:Int×Int}(h:fs[k]?=some f)(s:St)(n:Nat):s.flush n (fs.drop k)=(if f.1=n then s.write f.2.toNat else s).flush n (fs.drop (k+1)):=by
 obtain⟨hl,rfl⟩:=List.getElem?_eq_some_iff.1 h;rw[List.drop_eq_getElem_cons hl,Kr]
theorem RecFit.seqOf {e:Ev}{n:Int}(h:RecFit ⟨0,e⟩)(hn:inI64 n):RecFit ⟨n,e⟩:=⟨hn,h.thread,h.kind,h.obj,h.value,h.site,h.deps,h.from_⟩
def recA (l:List Ev)(p:Pln):Nat→St
 | 0=>St.none
 |
  n+1=>match l[n]? with
  | some e=>(recorded l p n).add p.cap n e
  | none=>recorded l p n
theorem tV {l:List Ev}{p:Pln}{n:Nat}{e:Ev}(h:l[n]?=some e):recA l p (n+1)=(vY l p (n+1)).add p.cap n e:=by
 show (match l[n]? with | some e=>(recorded l p n).add p.cap n e | none=>recorded l p n)=_;rw[h];rfl
theorem Ku {l:List Ev}{p:Pln}{n:Nat}(h:n≤l.length):(recA l p n).flush n p.flushes=recorded l p n:=by
 cases n with
 | zero=>rfl
 |
  succ n=>
  have hk:l[n]?=some l[n]:=List.getElem?_eq_getElem h;rw[rE hk,tV hk]
structure PlanGood (l:List Ev)(thr:Nat)(p:Pln)(c:Nat):Prop where
 cap:p.cap=((c+1:Nat):Int)
 c64:c+1≤64
 thr1:1≤thr
 thr4:thr≤4
 stop:0≤p.stop
 fl:∀f∈p.flushes,0≤f.1∧0≤f.2∧f.2 < thr
 cu:∀x∈p.cuts,0≤x
 cul:p.cuts.length≤thr
 len:l.length≤400
 ev:∀e∈l,0≤e.thread∧e.thread < thr∧e.deps.length≤400∧e.from_.length≤400
theorem xJ {l:List Ev}{thr:Int}{p:Pln}(h:aY l thr p=0):∃t c,thr=((t:Nat):Int)∧PlanGood l t p c:=by
 unfold aY at h;split at h
 · rename_i hp
   split at h
   · omega
   · rename_i h4
     split at h
     · rename_i hl
       unfold mY iE at hp;simp only[Bool.and_eq_true,decide_eq_true_eq,List.all_eq_true] at hp hl;obtain⟨⟨⟨⟨⟨⟨⟨a1,a2⟩,a3⟩,a4⟩,a5⟩,a6⟩,a7⟩,a8⟩:=hp;refine⟨thr.toNat,(p.cap - 1).toNat,by omega,by omega,by omega,by omega,by omega,a5,fun f hf=>?_,fun x hx=>?_,by omega,by omega,fun e he=>?_⟩
       · have:=a6 f hf;unfold iL at this;simp only[Bool.and_eq_true,decide_eq_true_eq] at this;omega
       · exact a7 x hx
       · have:=hl e he;unfold vW at this;simp only[Bool.and_eq_true,decide_eq_true_eq] at this;omega
     · omega
 · omega
theorem PlanGood.ok {l:List Ev}{thr:Nat}{p:Pln}{c:Nat}(h:PlanGood l thr p c):aY l thr p=0:=by
 have h1:=h.cap;have h2:=h.c64;have h3:=h.thr1;have h4:=h.thr4;have h5:=h.stop;have h6:=h.cul;have h7:=h.len;unfold aY;rw[if_pos,if_neg (by omega),if_pos]
 · rw[List.all_eq_true];intro e he;have:=h.ev e he;unfold vW;simp only[Bool.and_eq_true,decide_eq_true_eq];omega
 · unfold mY iE;simp only[Bool.and_eq_true,decide_eq_true_eq,List.all_eq_true];refine⟨⟨⟨by omega,fun f hf=>?_⟩,fun x hx=>h.cu x hx⟩,by omega⟩;have:=h.fl f hf;unfold iL;simp only[Bool.and_eq_true,decide_eq_true_eq];omega
theorem PlanGood.recorded {l:List Ev}{thr:Nat}{p:Pln}{c:Nat}(h:PlanGood l thr p c)(hn:∀e∈l,RecFit ⟨0,e⟩):∀n,n≤l.length→Good c n thr (recorded l p n):=by
 intro n;induction n with
 | zero=>intro _;exact (Good.none c thr).flush (by have:=h.c64;omega) (by omega) h.thr4 _ (fun f hf=>(h.fl f hf).2)
 |
  succ n ih=>
  intro hl;have h1:=ih (by omega);have hk:l[n]?=some l[n]:=List.getElem?_eq_getElem hl;rw[rE hk];have hm:l[n]∈l:=List.getElem_mem hl;obtain⟨e1,e2,e3,e4⟩:=h.ev _ hm;have h4:=h.len;have:=h1.add (e:=l[n]) h.c64 (by omega) h.thr4 e1 e2 e3 e4 ((hn _ hm).seqOf ⟨by omega,by omega⟩);rw[←h.cap] at this;exact this.flush (by have:=h.c64;omega) (by omega) h.thr4 _ (fun f hf=>(h.fl f hf).2)
theorem PlanGood.recA {l:List Ev}{thr:Nat}{p:Pln}{c:Nat}(h:PlanGood l thr p c)(hn:∀e∈l,RecFit ⟨0,e⟩)(n:Nat)(hl:n≤l.length):Good c n thr (recA l p n):=by
 cases n with
 | zero=>exact Good.none c thr
 |
  succ n=>
  have hk:l[n]?=some l[n]:=List.getElem?_eq_getElem hl;rw[tV hk];have hm:l[n]∈l:=List.getElem_mem hl;obtain⟨e1,e2,e3,e4⟩:=h.ev _ hm;have h4:=h.len;have:=(h.recorded hn n (by omega)).add (e:=l[n]) h.c64 (by omega) h.thr4 e1 e2 e3 e4 ((hn _ hm).seqOf ⟨by omega,by omega⟩);rw[←h.cap] at this;exact this
theorem PlanGood.before {l:List Ev}{thr:Nat}{p:Pln}{c:Nat}(h:PlanGood l thr p c)(hn:∀e∈l,RecFit ⟨0,e⟩)(n:Nat)(hl:n≤l.length+1):Good c (n - 1) thr (vY l p n):=by
 cases n with
 | zero=>exact Good.none c thr
 | succ n=>exact h.recorded hn n (by omega)
