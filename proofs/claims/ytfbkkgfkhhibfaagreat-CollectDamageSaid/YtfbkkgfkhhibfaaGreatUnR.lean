/- Words. -/
import Derived.Test.YtfbkkgfkhhibfaaGreatFct
import Derived.Test.YtfbkkgfkhhibfaaGreatProg
import Derived.Test.YtfbkkgfkhhibfaaGreatPl
import Derived.WalkLawsBesides
import Derived.WalkSpells
import Derived.Deep.QuietTactic
import Derived.BigQuiet
import Derived.Deep.DeepFit
import Derived.Laws.StructEq
import Derived.Deep.DeepCutAuto
set_option linter.unusedVariables false
set_option maxRecDepth 100000
set_option maxHeartbeats 8000000
namespace Iv
open Go Go.RowKit
def bv (b:UInt8):Value:= .int .u8 (b.toNat:Int)
def iv (n:Int):Value:= .int .i64 n
theorem lF {α:Type}{xs:List α}{k:Nat}{x:α}(h:xs[k]?=some x):xs.take (k+1)=xs.take k++[x]:=by obtain⟨a,rfl⟩:=dD.1 h;exact List.take_succ_eq_append_getElem a
theorem dP {a b:Bool}(h:a=b):Ending.returned (.bool a)= .returned (.bool b):=by rw[h]
theorem bQ {k:IntKind}{a b:Int}(h:a=b):Ending.returned (.int k a)= .returned (.int k b):=by rw[h]
theorem mG (l:Bytes):∀u∈l.map bv,u.oneCell'=true:=by intro u a;obtain⟨b,_,rfl⟩:=iK.1 a;rfl
theorem Lies.byte {w:World}{B n k:Nat}{A:Option Addr}{xs:Bytes}(h:Lies w B 1 A n (xs.map bv))(hk:k<n):
 ∃a x,A=some a/\a.block<B/\xs[k]?=some x/\w.cell? (a.add k)=some (.int .u8 (x.toNat:Int)):=by obtain⟨a,u,rfl,hb,hx,hc⟩:=h.cellAt hk;simp only[bM,mO] at hx;obtain⟨x,hx,rfl⟩:=hx;exact⟨a,x,rfl,hb,hx,hc⟩
theorem Lies.int {w:World}{B n k:Nat}{A:Option Addr}{xs:List Int}(h:Lies w B 1 A n (xs.map iv))(hk:k<n):
 ∃a x,A=some a/\a.block<B/\xs[k]?=some x/\w.cell? (a.add k)=some (.int .i64 x):=by obtain⟨a,u,rfl,hb,hx,hc⟩:=h.cellAt hk;simp only[bM,mO] at hx;obtain⟨x,hx,rfl⟩:=hx;exact⟨a,x,rfl,hb,hx,hc⟩
theorem Lies.lenB {w:World}{B n:Nat}{A:Option Addr}{xs:Bytes}(h:Lies w B 1 A n (xs.map bv)):xs.length=n:=by simpa using h.1
theorem Lies.lenI {w:World}{B n:Nat}{A:Option Addr}{xs:List Int}(h:Lies w B 1 A n (xs.map iv)):xs.length=n:=by simpa using h.1
end Iv
namespace Go.Proofs.YtfbkkgfkhhibfaaGreat
open Go
theorem jU:(Tryz.prog.info? 5).map (λi=>(i.zero,i.size,i.bytes))=some (some (.int .u8 0),1,1):=by kernel_rfl
theorem uF:(Tryz.prog.info? 3).map (λi=>(i.zero,i.size,i.bytes))=some (some (.int .i64 0),1,8):=by kernel_rfl
end Go.Proofs.YtfbkkgfkhhibfaaGreat
namespace Iv
open Go Go.RowKit
theorem ax {w w':World}{base e sz n:Nat}{row:Option Nat}{v:Value}{xs:List Value}(h:w.ownsRow base e sz v n xs)(hg:w.grownBy w' row)(a:∀g,v.ownBlock=some g->row≠some g):w'.ownsRow base e sz v n xs:=by refine⟨h.1,?_⟩;rcases h.2 with h2|⟨b,cap,cur,rfl,hb,hh,h3⟩;exact .inl h2;refine .inr ⟨b,cap,cur,rfl,hb,?_,h3⟩;exact (hg.block b (iW.1 hh).1 (λe=>a b rfl e.symm)).trans hh
section
variable {P : Program} (w : World)
theorem qA {ops:Array Oper}{o:Oper}{a:Act}{K:Act->World->Prop}{Q:Exit->Act->World->Prop}{E:Prop}(hg:o.guard=none)(s x:Operand)(t:TypeId)
 (I:o.op=Op.call { callee:=Callee.builtin Builtin.append,args:=#[s,x],argTypes:=#[t,t] })
 (base:Nat) (e:TypeId) (i:TypeInfo) (z:Value) (size bytes:Nat) (R:P.underlying t=some (.slice e)) (hi:P.info? e=some i) (U:i.zero=some z)
 (y:i.size=size) (J:i.bytes=bytes) (L:z.cells.size=size) (M:0<size)
 (v:Value) (n:Nat) (xs:List Value) (hs:a.eval s=v) (G:w.ownsRow base e size v n xs)
 (B:Nat) (A:Option Addr) (m c:Nat) (news:List Value) (hx:a.eval x= .slice A m c) (hr:Lies w B size A m news) (ho:A=none->c=0) (h1:∀u∈news,u.oneCell'=true)
 (O:n+m<=maxLen) (q:(n+m)* bytes<=140737488355328) (D:base<=w.heap.size)
 (V:∀v' w',w'.ownsRow base e size v' (n+m) (xs++news)->w.grownBy w' v.ownBlock->At w v.ownBlock v'.ownBlock->K (a.put o.dst v') w'):
 if Region.wanted o (yielded ops a.tmps)=true then Oper.wp P o a w K Q else E:=by have hw:Region.wanted o (yielded ops a.tmps)=true:=(by simp[Region.wanted,hg]);rw[if_pos hw];obtain⟨v',w',H,r1,X,Y⟩:=Py (P:=P) w base t o.type e i z size bytes R hi U y J L M v n xs G B A m c news hr ho h1 O q D;unfold Oper.wp;simp[execOp,I,resolve,invoke,builtin,hs,hx,H,Result.andThen];exact V _ _ r1 X Y
end
section
variable {P : Program} (w : World)
end
theorem Ip (w:World)(u u2:Value)(e:TypeId):∀j a,[u,u2][j]?=some a->(w.alloc (.cells #[u,u2] e)).cell? ((⟨w.heap.size,0,none⟩:Addr).add j)=some a:=by intro j a h;have q:j<2:=(dD.1 h).1;rcases (show j=0\/j=1 by omega) with rfl|rfl;simp at h;subst h;simp[Addr.add];simp at h;subst h;simp[Addr.add]
theorem ajK {u u2:Value}(h:u.oneCell'=true)(h2:u2.oneCell'=true):∀x∈ [u,u2],x.oneCell'=true:=by intro x hx;simp at hx;rcases hx with rfl|rfl;exact h;exact h2
def Gz (p:Bytes):Bytes:=if 0<p.length then UInt8.ofNat (p.length-1)::p else []
theorem OC {b:Bytes}{f e:Nat}(hf:f<=e)(he:e<=b.length):Gz ((b.take e).drop f)=lit b f e:=by unfold Gz lit;have a:((b.take e).drop f).length=e-f:=(by simp;omega);rw[a];by_cases h:f<e;rw[if_pos (by omega),if_pos h];rw[if_neg (by omega),if_neg h]
theorem V5 {b:Bytes}{f i:Nat}{x:UInt8}(hf:f<=i)(hx:b[i]?=some x):(b.take (i+1)).drop f=(b.take i).drop f++[x]:=by have a:i<b.length:=(dD.1 hx).1;rw[lF hx,List.drop_append_of_le_length (by simp;omega)]
def Apart (v p:Value):Prop:=∀g,v.ownBlock=some g->p.ownBlock≠some g
theorem Apart.nil (v:Value):Apart v (.slice none 0 0):=λg _ h=>nomatch h
theorem Apart.symm {v p:Value}(h:Apart v p):Apart p v:=λg h1 h2=>h g h2 h1
theorem Apart.step {w:World}{base e sz n:Nat}{xs:List Value}{v p v':Value}(h:Apart v p)(q:w.ownsRow base e sz p n xs)(a:At w v.ownBlock v'.ownBlock):Apart v' p:=by intro g h1 h2;have u:=(q.lt g h2).2;rcases a with h3|⟨g',h3,h4⟩;exact h g (h3▸h1) h2;rw[h1] at h3;injection h3 with h3;omega
theorem xE {w w':World}{base e sz n:Nat}{xs:List Value}{v p:Value}(h:Apart v p)(a:w.ownsRow base e sz p n xs)(hg:w.grownBy w' v.ownBlock):w'.ownsRow base e sz p n xs:=
 ax a hg λg h1 h2=>h g h2 h1
structure PkInv (ts ti te:TypeId)(w:World)(gb go gf base:Nat)(A:Option Addr)(n c f:Nat)(ys:Bytes)(v:Value)(wr:World):Prop where
 hb:Held wr gb ts #[.slice A n c]
 ho:Held wr go ts #[v]
 hf:Held wr gf ti #[.int .i64 (f:Int)]
 own:wr.ownsRow base te 1 v ys.length (ys.map bv)
 grown:w.grownBy wr none
 lo:w.heap.size<=gb/\w.heap.size<=go/\w.heap.size<=gf
 hi:gb<base/\go<base/\gf<base
 ne:gb≠go/\gb≠gf/\go≠gf
section
variable {ts ti te : TypeId} {w wr w1 : World} {gb go gf base n c f : Nat} {A : Option Addr} {ys zs : Bytes} {v v1 : Value}
theorem PkInv.drewN (h:PkInv ts ti te w gb go gf base A n c f ys v wr)(q:Nat):PkInv ts ti te w gb go gf base A n c f ys v (wr.drewN q):=
 ⟨h.hb.drewN q,h.ho.drewN q,h.hf.drewN q,ax h.own (aH (aW wr none) q) nofun,aH h.grown q,h.lo,h.hi,h.ne⟩
theorem PkInv.drew (h:PkInv ts ti te w gb go gf base A n c f ys v wr):PkInv ts ti te w gb go gf base A n c f ys v wr.drew:=
 ⟨h.hb.drew,h.ho.drew,h.hf.drew,ax h.own (aA (aW wr none)) nofun,aA h.grown,h.lo,h.hi,h.ne⟩
theorem PkInv.push (h:PkInv ts ti te w gb go gf base A n c f ys v wr)(q:w1.ownsRow base te 1 v1 zs.length (zs.map bv))(hg:wr.grownBy w1 v.ownBlock):
 PkInv ts ti te w gb go gf base A n c f zs v1 (w1.setCell ⟨go,0,none⟩ v1):=by have D:∀g,v.ownBlock=some g->base<=g:=λg e=>(h.own.lt g e).1;have u:∀g,v1.ownBlock=some g->base<=g:=λg e=>(q.lt g e).1;have a:∀b,b<base->some b≠v.ownBlock:=(λb hb e=>by have:=D b e.symm;omega);obtain⟨l1,l2,l3⟩:=h.lo;obtain⟨E,G,H⟩:=h.hi;obtain⟨n1,n2,n3⟩:=h.ne;refine⟨(h.hb.grown hg (a _ E)).far (λe=>n1 e) v1,?_,(h.hf.grown hg (a _ H)).far (λe=>n3 e.symm) v1,?_,?_,h.lo,h.hi,h.ne⟩;have:=(h.ho.grown hg (a _ G)).store 0 v1;simpa using this;exact ax q (ag w1 go 0 v1) (λg e B=>by have:=u g e;injection B with B;omega);refine⟨hg.os.trans h.grown.os,hg.tape.trans h.grown.tape,hg.output.trans h.grown.output,?_,λk hk y=>?_⟩;have:=hg.size;have:=h.grown.size;simp[World.setCell];omega;refine ((ag w1 go 0 v1).block k ?_ (λe=>by injection e with e;omega)).trans ((hg.block k (oM hk h.grown.size) (a k (by omega))).trans (h.grown.block k hk y));have:=hg.size;have:=h.grown.size;omega
theorem PkInv.seen (h:PkInv ts ti te w gb go gf base A n c f ys v wr)(hg:wr.grownBy w1 v.ownBlock):
 w1.cell? ⟨gb,0,none⟩=some (.slice A n c)/\w1.cell? ⟨go,0,none⟩=some v/\w1.cell? ⟨gf,0,none⟩=some (.int .i64 (f:Int))/\w1.frozen? ⟨go,0,none⟩=false/\w1.frozen? ⟨gf,0,none⟩=false:=by have q:∀g,v.ownBlock=some g->base<=g:=λg e=>(h.own.lt g e).1;have a:∀b,b<base->some b≠v.ownBlock:=(λb hb e=>by have:=q b e.symm;omega);obtain⟨u,y,B⟩:=h.hi;have a1:=h.hb.grown hg (a _ u);have a2:=h.ho.grown hg (a _ y);have a3:=h.hf.grown hg (a _ B);exact⟨a1.cell 0,a2.cell 0,a3.cell 0,a2.free 0,a3.free 0⟩
theorem PkInv.cells (h:PkInv ts ti te w gb go gf base A n c f ys v wr):
 wr.cell? ⟨gb,0,none⟩=some (.slice A n c)/\wr.cell? ⟨go,0,none⟩=some v/\wr.cell? ⟨gf,0,none⟩=some (.int .i64 (f:Int))/\wr.frozen? ⟨go,0,none⟩=false/\wr.frozen? ⟨gf,0,none⟩=false:=
 h.seen (aW wr _)
theorem PkInv.first (h:PkInv ts ti te w gb go gf base A n c f ys v wr)(e:Nat):PkInv ts ti te w gb go gf base A n c e ys v (wr.setCell ⟨gf,0,none⟩ (.int .i64 (e:Int))):=by obtain⟨l1,l2,l3⟩:=h.lo;obtain⟨q,u,y⟩:=h.hi;obtain⟨n1,n2,n3⟩:=h.ne;refine⟨h.hb.far (λe=>n2 e) _,h.ho.far (λe=>n3 e) _,?_,ax h.own (ag wr gf 0 _) (λg e a=>by have:=(h.own.lt g e).1;injection a with a;omega),?_,h.lo,h.hi,h.ne⟩;have:=h.hf.store 0 (.int .i64 (e:Int));simpa using this;exact af h.grown (ag wr gf 0 _) (.inr ⟨gf,rfl,l3⟩)
end
structure UnAt (te:TypeId)(w:World)(base:Nat)(most:Int)(xs:Bytes)(k:Nat)(ys:Bytes)(v:Value)(wr:World):Prop where
 own:wr.ownsRow base te 1 v ys.length (ys.map bv)
 grown:w.grownBy wr none
 at_:At w none v.ownBlock
 len:ys.length<=130*k
 room:ys=[]\/(ys.length:Int)<=most
 eq:unp most (xs.drop k) ys=unpack xs most
theorem drop_cons {xs:Bytes}{k:Nat}{x:UInt8}(hx:xs[k]?=some x):xs.drop k=x::xs.drop (k+1):=by obtain⟨q,a⟩:=dD.1 hx;rw[nM q,a]
section
variable {te : TypeId} {w wr w1 : World} {base k : Nat} {most : Int} {xs ys zs : Bytes} {v v1 : Value}
theorem UnAt.start (te:TypeId)(w:World)(base:Nat)(most:Int)(xs:Bytes):UnAt te w base most xs 0 [] (.slice none 0 0) w:=
 ⟨dw _ _ _ _,aW w none,.inl rfl,ay _,.inl rfl,rfl⟩
theorem UnAt.done (h:UnAt te w base most xs k ys v wr)(hk:xs.length<=k):unpack xs most=(ys,0):=by have:=h.eq;rw[jK hk,CY] at this;exact this.symm
theorem UnAt.lit {x:UInt8}(h:UnAt te w base most xs k ys v wr)(hx:xs[k]?=some x)(a:x.toNat<128):
 unpack xs most=if xs.length-(k+1)<x.toNat+1 then ([],9) else if most<(ys.length:Int)+x.toNat+1 then ([],2) else unp most (xs.drop (k+x.toNat+2)) (ys++(xs.drop (k+1)).take (x.toNat+1)):=by rw[<-h.eq,drop_cons hx,CZ a,pG,zV];rw[show k+1+(x.toNat+1)=k+x.toNat+2 from by omega]
theorem UnAt.litNext {x:UInt8}(h:UnAt te w base most xs k ys v wr)(hx:xs[k]?=some x)(y:x.toNat<128)(h1:k+x.toNat+2<=xs.length)(h2:(ys.length:Int)+x.toNat+1<=most)
 (a:w1.ownsRow base te 1 v1 (ys.length+(x.toNat+1)) (ys.map bv++((xs.drop (k+1)).take (x.toNat+1)).map bv)) (hg:wr.grownBy w1 v.ownBlock) (q:At wr v.ownBlock v1.ownBlock):
 UnAt te w base most xs (k+x.toNat+2) (ys++(xs.drop (k+1)).take (x.toNat+1)) v1 w1:=by have u:(ys++(xs.drop (k+1)).take (x.toNat+1)).length=ys.length+(x.toNat+1):=(by simp;omega);refine⟨?_,af h.grown hg h.at_,h.at_.trans q h.grown.size,?_,.inr ?_,?_⟩;rw[u,fF];exact a;rw[u];have:=h.len;omega;rw[u];omega;have:=h.lit hx y;rw[if_neg (by omega),if_neg (by omega)] at this;exact this.symm
theorem UnAt.one {x:UInt8}(h:UnAt te w base most xs k ys v wr)(hx:xs[k]?=some x)(a:128<=x.toNat)(q:xs.length<=k+1):unpack xs most=([],9):=by rw[<-h.eq,drop_cons hx,jK q,JD a]
theorem UnAt.copy {x d:UInt8}(h:UnAt te w base most xs k ys v wr)(hx:xs[k]?=some x)(a:128<=x.toNat)(q:xs[k+1]?=some d):
 unpack xs most=if d.toNat=0\/ys.length<d.toNat then ([],11) else if most<(ys.length:Int)+x.toNat-125 then ([],2) else unp most (xs.drop (k+2)) (copyOut ys d.toNat (x.toNat-125)):=by rw[<-h.eq,drop_cons hx,drop_cons q,yx a]
theorem UnAt.copyNext {x d:UInt8}(h:UnAt te w base most xs k ys v wr)(hx:xs[k]?=some x)(B:128<=x.toNat)(D:xs[k+1]?=some d)(h0:¬(d.toNat=0\/ys.length<d.toNat))(h2:(ys.length:Int)+x.toNat-125<=most)
 (u:zs=copyOut ys d.toNat (x.toNat-125)) (a:w1.ownsRow base te 1 v1 zs.length (zs.map bv)) (hg:w.grownBy w1 none) (q:At w none v1.ownBlock):
 UnAt te w base most xs (k+2) zs v1 w1:=by have y:zs.length=ys.length+(x.toNat-125):=(by rw[u,tZ]);have E:=gJ x;refine⟨a,hg,q,?_,.inr ?_,?_⟩;rw[y];have:=h.len;omega;rw[y];omega;have:=h.copy hx B D;rw[if_neg h0,if_neg (by omega)] at this;rw[u];exact this.symm
end
theorem adS {most:Int}(n:Nat):∀(l out:Bytes),l.length=n->(unp most l out).1.length<=out.length+130*n:=by
 induction n using Nat.strongRecOn with
 |
  _ n ih=>
  intro l out hn
  match l with
  | []=>rw [CY];simp
  |
   x::t=>
   simp only[iR] at hn;have a:=gJ x;by_cases q:x.toNat<128;rw[CZ q];split;simp;split;simp;rename_i h1 _;have:=ih (t.drop (x.toNat+1)).length (by simp;omega) (t.drop (x.toNat+1)) (out++t.take (x.toNat+1)) rfl;simp only[aY,pG,sS] at this;omega
   . match t with
     | []=>rw [JD (by omega)];simp
     |
      d::u=>
      rw[yx (by omega)];split;simp;split;simp;have:=ih u.length (by simp at hn;omega) u (copyOut out d.toNat (x.toNat-125)) rfl;rw[tZ] at this;simp only[iR] at hn;omega
theorem DN (l:Bytes)(most:Int):(unpack l most).1.length<=130*l.length:=by have:=adS (most:=most) _ l [] rfl;unfold unpack;simpa using this
structure CpAt (te:TypeId)(w:World)(base:Nat)(ys:Bytes)(d N j:Nat)(zs:Bytes)(v:Value)(wr:World):Prop where
 own:wr.ownsRow base te 1 v zs.length (zs.map bv)
 grown:w.grownBy wr none
 at_:At w none v.ownBlock
 len:zs.length=ys.length+j
 le:j<=N
 eq:copyOut zs d (N-j)=copyOut ys d N
section
variable {te : TypeId} {w wr w1 : World} {base d N j : Nat} {ys zs : Bytes} {v v1 : Value}
theorem CpAt.get (h:CpAt te w base ys d N j zs v wr)(q:1<=d)(a:d<=ys.length):∃y,zs[zs.length-d]?=some y:=by have:=h.len;exact⟨_,aX (by omega)⟩
theorem CpAt.next {y:UInt8}(h:CpAt te w base ys d N j zs v wr)(u:j<N)(B:zs[zs.length-d]?=some y)
 (a:w1.ownsRow base te 1 v1 (zs.length+1) (zs.map bv++[bv y])) (hg:wr.grownBy w1 v.ownBlock) (q:At wr v.ownBlock v1.ownBlock):
 CpAt te w base ys d N (j+1) (zs++[y]) v1 w1:=by refine⟨?_,af h.grown hg h.at_,h.at_.trans q h.grown.size,by rw[aY,h.len];rfl,u,?_⟩;rw[aY,fF];exact a;rw[<-h.eq,show N-j=(N-(j+1))+1 from by omega,copyOut,B];rfl
theorem CpAt.done (h:CpAt te w base ys d N j zs v wr)(a:N<=j):zs=copyOut ys d N:=by have:=h.eq;rw[show N-j=0 from by omega] at this;exact this
end
end Iv
namespace Go.Proofs.YtfbkkgfkhhibfaaGreat
open Go Go.RowKit Iv
theorem Za (A A':Option Addr)(n D c Z:Nat)(xs ys:Bytes)(w:World)(B:Nat)(h:Lies w B 1 A n (xs.map bv))(R:Lies w B 1 A' D (ys.map bv))(hn:n<=1000000000000)(a6:D<=1000000000000):
 Calls Tryz.prog 51 #[.slice A n c,.slice A' D Z] w λe w'=>e= .returned (.bool (decide (xs=ys)))/\∃q,w'=w.drewN q:=by
 have J:xs.length=n:=(by simpa using h.1);have d:ys.length=D:=(by simpa using R.1);by_cases E:n=D
 . subst E;have HL:=ae J;have L:=ae d;clear J d;have hb:((n:Int) !=(n:Int))=false:=(by simp);go_enter Tryz.func51,Tryz.ntmps51;go_wp2;go_loopw [5] (λi wr=>∃k q:Nat,i= .int .i64 k/\k<=n/\wr=w.drewN q/\xs.take k=ys.take k) (λi _=>n-(intOf i).toNat)
   case atStart=>exact ⟨0,0,rfl,by omega,rfl,rfl⟩
   case round=>
    obtain⟨k,q,rfl,hk,rfl,heq⟩:=hrel;have U:=ae heq;clear heq;by_cases G:k<n
    . obtain⟨ad,u,rfl,a7,hx,hc⟩:=h.cellAt G;obtain⟨a8,u',rfl,aa,H,M⟩:=R.cellAt G;simp only[bM,mO] at hx H;obtain⟨x,hx,rfl⟩:=hx;obtain⟨y,V,rfl⟩:=H;unfold bv at hc M;have X:=ae hx;have Y:=ae V;clear hx V;by_cases a:x=y
      . have N:((x.toNat:Int) !=(y.toNat:Int))=false:=(by simp[a]);have YK:=ae a;clear a;go_wp2;go_quiet (fail);go_wp2;go_roundw
        case rel=>exact ⟨k+1,q+nq,by go_num,by omega,by simp,by rw[lF X.o,lF Y.o,U.o,YK.o]⟩
        case measure=>simp [intOf];omega
      . have N:((x.toNat:Int) !=(y.toNat:Int))=true:=by
         rw[eQ];intro e;exact a (yw (by omega))
        have I:Hid (decide (xs=ys)=false):=(by rw[ji];intro e;have h1:=X.o;rw[e,Y.o] at h1;injection h1 with h1;exact a h1.symm);clear a;go_wp2;go_quiet (fail);go_wp2;go_ret;exact⟨dP I.o.symm,q+nq,by simp⟩
    . have O:k=n:=(by omega);have I:Hid (decide (xs=ys)=true):=by
       rw[Bo];have:=U.o;rwa [uy (by have:=HL.o;omega),uy (by have:=L.o;omega)] at this
      clear O;go_wp2;go_ret;exact⟨dP I.o.symm,q,rfl⟩
 . have hb:((n:Int) !=(D:Int))=true:=(by rw[eQ];omega);have I:Hid (decide (xs=ys)=false):=by
    rw[ji];intro e;rw[e] at J;omega
   clear E J d;go_enter Tryz.func51,Tryz.ntmps51;go_wp2;go_ret;exact⟨dP I.o.symm,0,rfl⟩
theorem P8 (c:Nat)(h:c<4294967296):bits .and .u32 (c:Int) 1=((c%2:Nat):Int):=by have:=u32_and_nat c 1 h (by omega);rw[nat_mask1] at this;exact this
theorem abv (A:Option Addr)(n c:Nat)(xs:Bytes)(w:World)(B:Nat)(h:Lies w B 1 A n (xs.map bv))(hn:n<=1000000000000):
 Calls Tryz.prog 114 #[.slice A n c] w λe w'=>e= .returned (.int .u32 (F6 xs:Nat))/\w=w':=by
 have N:=ae h.lenB;go_enter Tryz.func114,Tryz.ntmps114;go_wp2;go_loop [3,5,6,9,17] (λs _ _ i _=>∃k:Nat,i= .int .i64 k/\k<=n/\s= .int .u32 (gK 4294967295 (xs.take k):Nat)) (λ_ _ _ i _=>n-(intOf i).toNat)
 case atStart=>exact ⟨0,rfl,by omega,rfl⟩
 case round=>
  obtain⟨k,rfl,hk,rfl⟩:=hrel;by_cases q:k<n
  . obtain⟨Z,x,rfl,O,hx,hc⟩:=h.byte q;have d:=nU (xs.take k) (c:=4294967295) (by omega);have R:=gJ x;have u:=ae (show gK 4294967295 (xs.take (k+1))=iT 8 (gK 4294967295 (xs.take k) ^^^ x.toNat) from by rw[lF hx,tY];rfl);clear hx;generalize gK 4294967295 (xs.take k)=s at *
    have D:=u32_xor_nat s x.toNat d (by omega);have U:=tV d (show x.toNat<4294967296 from by omega);go_wp2;go_loop [3,6,17] (λV _ j=>∃m:Nat,j= .int .i64 m/\m<=8/\V= .int .u32 (iT m (s ^^^ x.toNat):Nat)) (λ_ _ j=>8-(intOf j).toNat)
    case atStart=>exact ⟨0,rfl,by omega,rfl⟩
    case round=>
     obtain⟨m,rfl,hm,rfl⟩:=hrel;have X:=tX m U;have L:=ae (wH m (s ^^^ x.toNat));generalize a:iT m (s ^^^ x.toNat)=y at *
     have E:=ae a;clear a;have hand:=P8 y X;have M:bits .xor .u32 ((y:Int)/2) 3988292384=((y/2 ^^^ 3988292384:Nat):Int):=u32_xor_nat (y/2) 3988292384 (by omega) (by omega);by_cases Y:m<8
     . rcases LM y with hy|hy
       . have G:(((y:Int)%2) !=0)=false:=(by rw[rU];omega);have H:=ae (show jA y=y/2 from by unfold jA;rw[if_neg (by omega)]);clear hy;go_wp2;go_round
         case rel=>exact ⟨m+1,by go_num,by omega,by rw[L.o,H.o];go_num⟩
         case measure=>simp [intOf];omega
       . have G:(((y:Int)%2) !=0)=true:=(by rw[eQ];omega);have H:=ae (show jA y=(y/2) ^^^ 3988292384 from by unfold jA;rw[if_pos hy]);clear hy;go_wp2;go_round
         case rel=>exact ⟨m+1,by go_num,by omega,by rw[L.o,H.o]⟩
         case measure=>simp [intOf];omega
     . have I:m=8:=(by omega);subst I;go_wp2;go_round
       case rel=>exact ⟨k+1,by go_num,by omega,by rw[u.o,E.o]⟩
       case measure=>simp [intOf];omega
  . have J:k=n:=(by omega);subst J;have d:=nU (xs.take k) (c:=4294967295) (by omega);have u:=ae (show F6 xs=4294967295 ^^^ gK 4294967295 (xs.take k) from by unfold F6;rw[uy (by have:=N.o;omega)]);generalize gK 4294967295 (xs.take k)=s at *
    have D:bits .xor .u32 IntKind.u32.max (s:Int)=((4294967295 ^^^ s:Nat):Int):=u32_xor_nat 4294967295 s (by omega) d;go_wp2;go_ret;exact⟨bQ (by rw[u.o]),rfl⟩
theorem Oc (A:Option Addr)(n c:Nat)(xs:Bytes)(w:World)(B:Nat)(h:Lies w B 1 A n (xs.map bv))(hn:n<=1000000000000):
 Calls Tryz.prog 48 #[.slice A n c] w λe w'=>e= .returned (.int .u32 (F6 xs:Nat))/\w=w':=by
 have N:=ae h.lenB;go_enter Tryz.func48,Tryz.ntmps48;go_wp2;go_loop [3,4,5] (λs i _=>∃k:Nat,i= .int .i64 k/\k<=n/\s= .int .u32 (gK 4294967295 (xs.take k):Nat)) (λ_ i _=>n-(intOf i).toNat)
 case atStart=>exact ⟨0,rfl,by omega,rfl⟩
 case round=>
  obtain⟨k,rfl,hk,rfl⟩:=hrel;by_cases q:k<n
  . obtain⟨Z,x,rfl,O,hx,hc⟩:=h.byte q;have d:=nU (xs.take k) (c:=4294967295) (by omega);have R:=gJ x;have u:=ae (show gK 4294967295 (xs.take (k+1))=iT 8 (gK 4294967295 (xs.take k) ^^^ x.toNat) from by rw[lF hx,tY];rfl);clear hx;generalize gK 4294967295 (xs.take k)=s at *
    have D:=u32_xor_nat s x.toNat d (by omega);have U:=tV d (show x.toNat<4294967296 from by omega);go_wp2;go_loop [3,5] (λV j=>∃m:Nat,j= .int .i64 m/\m<=8/\V= .int .u32 (iT m (s ^^^ x.toNat):Nat)) (λ_ j=>8-(intOf j).toNat)
    case atStart=>exact ⟨0,rfl,by omega,rfl⟩
    case round=>
     obtain⟨m,rfl,hm,rfl⟩:=hrel;have X:=tX m U;have L:=ae (wH m (s ^^^ x.toNat));generalize a:iT m (s ^^^ x.toNat)=y at *
     have E:=ae a;clear a;have hand:=P8 y X;have M:bits .xor .u32 ((y:Int)/2) 3988292384=((y/2 ^^^ 3988292384:Nat):Int):=u32_xor_nat (y/2) 3988292384 (by omega) (by omega);by_cases Y:m<8
     . rcases LM y with hy|hy
       . have G:(((y:Int)%2)==1)=false:=(by rw[fO];omega);have H:=ae (show jA y=y/2 from by unfold jA;rw[if_neg (by omega)]);clear hy;go_wp2;go_round
         case rel=>exact ⟨m+1,by go_num,by omega,by rw[L.o,H.o];go_num⟩
         case measure=>simp [intOf];omega
       . have G:(((y:Int)%2)==1)=true:=(by rw[eG];omega);have H:=ae (show jA y=(y/2) ^^^ 3988292384 from by unfold jA;rw[if_pos hy]);clear hy;go_wp2;go_round
         case rel=>exact ⟨m+1,by go_num,by omega,by rw[L.o,H.o]⟩
         case measure=>simp [intOf];omega
     . have I:m=8:=(by omega);subst I;go_wp2;go_round
       case rel=>exact ⟨k+1,by go_num,by omega,by rw[u.o,E.o]⟩
       case measure=>simp [intOf];omega
  . have J:k=n:=(by omega);subst J;have d:=nU (xs.take k) (c:=4294967295) (by omega);have u:=ae (show F6 xs=4294967295 ^^^ gK 4294967295 (xs.take k) from by unfold F6;rw[uy (by have:=N.o;omega)]);generalize gK 4294967295 (xs.take k)=s at *
    have D:bits .xor .u32 (s:Int) 4294967295=((4294967295 ^^^ s:Nat):Int):=(by rw[Nat.xor_comm];exact u32_xor_nat s 4294967295 d (by omega));go_wp2;go_ret;exact⟨bQ (by rw[u.o]),rfl⟩
theorem Ny (A:Option Addr)(n c B:Nat)(xs:Bytes)(most:Int)(w:World)(mf:Lies w B 1 A n (xs.map bv))(hB:B<=w.heap.size)(hnc:n<=c)(hn:n<=1000000000)(base:Nat)(D:base<=w.heap.size):
 Calls Tryz.prog 153 #[.slice A n c,.int .i64 most] w λe w'=>∃v',e= .returned (.tuple #[v',.int .i64 (unpack xs most).2])/\w'.ownsRow base 5 1 v' (unpack xs most).1.length ((unpack xs most).1.map bv)/\w.grownBy w' none/\At w none v'.ownBlock:=by
 have HL:=ae mf.lenB;obtain⟨i0,hi,X,L,M⟩:=info_parts jU;have HI:=ae hi;have Y:=ae X;have Z:=ae L;have a6:=ae M;clear hi X L M;have hz:(0:Nat)<1:=(by omega);go_enter Tryz.func153,Tryz.ntmps153;go_wp2_with fail;go_loopw [6,7,8,9,77] (λv iv _ _ _ wr=>∃(k:Nat) (ys:Bytes) (vv:Value),vv=v/\iv= .int .i64 (k:Int)/\k<=n/\UnAt 5 w base most xs k ys vv wr) (λ_ iv _ _ _ _=>n-(intOf iv).toNat)
 case atStart=>exact ⟨0,[],_,rfl,rfl,ay _,UnAt.start _ _ _ _ _⟩
 case round=>
  obtain⟨k,ys,vv,rfl,rfl,b5,U⟩:=hrel;have b6:ys.length<=130*k:=U.len;have LB:=mf.grown U.grown hB nofun;obtain⟨Av,cv,aq,_⟩:=ai U.own;subst aq;have q:=ae U;have ar:base<=wr.heap.size:=aG D U.grown.size;clear U;by_cases av:k<n
  . obtain⟨E,x,hA,_,hx,b8⟩:=LB.byte av;subst hA;have b9:=gJ x;have HX:=ae hx;clear hx;by_cases h7:x.toNat<128
    . have a:=q.o.lit HX.o h7;rw[HL.o] at a;by_cases h1:n-(k+1)<x.toNat+1
      . rw[if_pos h1] at a;have I:=ae a;clear a;go_wp2_with fail;go_ret2;rw[I.o];exact⟨_,rfl,dw _ _ _ _,q.o.grown,.inl rfl⟩
      . rw[if_neg h1] at a;by_cases h2:most<(ys.length:Int)+x.toNat+1
        . rw[if_pos h2] at a;have I:=ae a;clear a;go_wp2_with fail;go_ret2;rw[I.o];exact⟨_,rfl,dw _ _ _ _,q.o.grown,.inl rfl⟩
        . have hcut:Lies wr B 1 (some ⟨E.block,E.off+(k+1),none⟩) (k+x.toNat+2-(k+1)) (((xs.drop (k+1)).take (x.toNat+1)).map bv):=by
           have h1:=(LB.drop (k:=k+1) (by omega)).take (m:=x.toNat+1) (by omega);simp only[iY] at h1;rw[<-oL,<-kU] at h1;rw[show k+x.toNat+2-(k+1)=x.toNat+1 from by omega];rw[show (⟨E.block,E.off+(k+1),none⟩:Addr)=E.add (k+1) from by simp[Addr.add]];exact h1
          have Jo:=ae hcut;have vT:¬c=k+1:=(by omega);clear a hcut;go_wp2_with (at_builtin;refine dn _ rfl (.tmp 35) (.tmp 43) _ rfl base 5 i0 (.int .u8 0) 1 1 Tryz.underlying22 HI.o Y.o Z.o a6.o rfl hz _ ys.length (ys.map bv) rfl q.o.own B (some ⟨E.block,E.off+(k+1),none⟩) (k+x.toNat+2-(k+1)) (c-(k+1)) _ rfl Jo.o (λe=>nomatch e) (mG _) (by unfold maxLen;omega) (by omega) ar ?_;intro v2 w2 u a7 mW);rw[show k+x.toNat+2-(k+1)=x.toNat+1 from by omega] at u;have HN:=ae (q.o.litNext HX.o h7 (by rw[HL.o];omega) (by omega) u a7 mW);clear u a7 mW;go_roundw
          case rel=>exact ⟨k+x.toNat+2,_,_,rfl,by go_num,by omega,HN.o⟩
          case measure=>simp [intOf];omega
    . have O:128<=x.toNat:=(by omega);by_cases h1:n<=k+1
      . have a:=ae (q.o.one HX.o O (by rw[HL.o];exact h1));go_wp2_with fail;go_ret2;rw[a.o];exact⟨_,rfl,dw _ _ _ _,q.o.grown,.inl rfl⟩
      . obtain⟨aw,d,a8,_,hd,aD⟩:=LB.byte (show k+1<n by omega);obtain rfl:E=aw:=(by injection a8);have ba:=gJ d;rw[show E.add (k+1)=(⟨E.block,E.off+(k+1),none⟩:Addr) from by simp[Addr.add]] at aD;have HD:=ae hd;have a:=q.o.copy HX.o O hd;clear hd a8;by_cases h0:d.toNat=0\/ys.length<d.toNat
        . rw[if_pos h0] at a;have I:=ae a;clear a;by_cases aa:d.toNat=0
          . have ab:(((d.toNat:Nat):Int)==0)=true:=(by rw[eG];omega);clear aa h0;go_wp2_with fail;go_ret2;rw[I.o];exact⟨_,rfl,dw _ _ _ _,q.o.grown,.inl rfl⟩
          . have ab:(((d.toNat:Nat):Int)==0)=false:=(by rw[fO];omega);have aL:(ys.length:Int)<(d.toNat:Int):=(by omega);clear aa h0;go_wp2_with fail;go_ret2;rw[I.o];exact⟨_,rfl,dw _ _ _ _,q.o.grown,.inl rfl⟩
        . rw[if_neg h0] at a;have ab:(((d.toNat:Nat):Int)==0)=false:=(by rw[fO];omega);have aL:(d.toNat:Int)<=(ys.length:Int):=(by omega);have aM:1<=d.toNat:=(by omega);have H0:=ae h0;clear h0;by_cases h2:most<(ys.length:Int)+x.toNat-125
          . rw[if_pos h2] at a;have I:=ae a;clear a;go_wp2_with fail;go_ret2;rw[I.o];exact⟨_,rfl,dw _ _ _ _,q.o.grown,.inl rfl⟩
          . clear a;obtain⟨N,hN⟩:∃N,N=x.toNat-125:=⟨_,rfl⟩;have aR:=ae hN;have al:(N:Int)=(x.toNat:Int)-125:=(by omega);have VH:=ae al;have bc:N<=130:=(by omega);clear hN al;go_wp2_with fail;go_loopw [6,77] (λv jv wr=>∃(j:Nat) (zs:Bytes) (v2:Value),v2=v/\jv= .int .i64 (j:Int)/\CpAt 5 w base ys d.toNat N j zs v2 wr) (λ_ jv _=>N-(intOf jv).toNat)
            case atStart=>exact ⟨0,ys,_,rfl,rfl,⟨q.o.own,q.o.grown,q.o.at_,by simp,ay _,rfl⟩⟩
            case round=>
             obtain⟨j,zs,v2,rfl,rfl,G⟩:=hrel;have bd:=G.le;have L:zs.length<=ys.length+130:=(by have:=G.len;omega);have M:ys.length<=zs.length:=(by have:=G.len;omega);have bf:(d.toNat:Int)<=(zs.length:Int):=(by omega);by_cases hj:j<N
             . obtain⟨y,hy⟩:=G.get aM (by omega);obtain⟨A2,c2,b0,_,_,an,_⟩:=ai G.own;obtain⟨b1,y',hA2,_,R,bh⟩:=an.byte (show zs.length-d.toNat<zs.length by omega);obtain rfl:y=y':=(by rw[hy] at R;injection R);subst b0 hA2;have HY:=ae hy;have V:=ae G;have b2:(j:Int)<(x.toNat:Int)-125:=(by have:=VH.o;omega);have bj:base<=wr.heap.size:=aG D G.grown.size;clear hy R G an;go_wp2_with (at_builtin;refine bW _ rfl (.tmp 79) (.tmp 87) _ rfl base 5 i0 (.int .u8 0) 1 1 Tryz.underlying22 HI.o Y.o Z.o a6.o rfl hz _ (Value.slice (some b1) zs.length c2).ownBlock zs.length (zs.map bv) rfl (App.own (V.o.own.alloc _)) ⟨wr.heap.size,0,none⟩ 1 1 [.int .u8 (y.toNat:Int)] rfl hz rfl (gZ _ _ _) (BQ rfl) (by unfold maxLen;omega) (by omega) (by simp;omega) ?_;intro v3 w3 H ao lD);have J:=dA ao;have mg:=lD.alloc;have b3:=ae (V.o.next hj HY.o H J mg);clear H ao lD J mg;go_roundw
               case rel=>exact ⟨j+1,_,_,rfl,by go_num,b3.o⟩
               case measure=>simp [intOf];omega
             . have HZ:=ae (G.done (by omega));have b2:¬(j:Int)<(x.toNat:Int)-125:=(by have:=VH.o;omega);have V:=ae G;clear G;have b4:=ae (q.o.copyNext HX.o O HD.o H0.o (by omega) (by rw[HZ.o,aR.o]) V.o.own V.o.grown V.o.at_);go_wp2_with fail;go_roundw
               case rel=>exact ⟨k+2,_,_,rfl,by go_num,by omega,b4.o⟩
               case measure=>simp [intOf];omega
  . have a:=ae (q.o.done (by rw[HL.o];omega));go_wp2_with fail;go_ret2;rw[a.o];exact⟨_,rfl,q.o.own,q.o.grown,q.o.at_⟩
theorem LY (A A':Option Addr)(n D c Z:Nat)(xs ys:List Int)(w:World)(B:Nat)(h:Lies w B 1 A n (xs.map iv))(R:Lies w B 1 A' D (ys.map iv))(hn:n<=1000000000000)(a6:D<=1000000000000):
 Calls Tryz.prog 36 #[.slice A n c,.slice A' D Z] w λe w'=>e= .returned (.bool (decide (xs=ys)))/\∃q,w'=w.drewN q:=by
 have J:xs.length=n:=(by simpa using h.1);have d:ys.length=D:=(by simpa using R.1);by_cases E:n=D
 . subst E;have HL:=ae J;have L:=ae d;clear J d;have hb:((n:Int) !=(n:Int))=false:=(by simp);go_enter Tryz.func36,Tryz.ntmps36;go_wp2;go_loopw [5] (λi wr=>∃k q:Nat,i= .int .i64 k/\k<=n/\wr=w.drewN q/\xs.take k=ys.take k) (λi _=>n-(intOf i).toNat)
   case atStart=>exact ⟨0,0,rfl,by omega,rfl,rfl⟩
   case round=>
    obtain⟨k,q,rfl,hk,rfl,heq⟩:=hrel;have U:=ae heq;clear heq;by_cases G:k<n
    . obtain⟨ad,u,rfl,a7,hx,hc⟩:=h.cellAt G;obtain⟨a8,u',rfl,aa,H,M⟩:=R.cellAt G;simp only[bM,mO] at hx H;obtain⟨x,hx,rfl⟩:=hx;obtain⟨y,V,rfl⟩:=H;unfold iv at hc M;have X:=ae hx;have Y:=ae V;clear hx V;by_cases a:x=y
      . have N:(x !=y)=false:=(by simp[a]);have YK:=ae a;clear a;go_wp2;go_quiet (fail);go_wp2;go_roundw
        case rel=>exact ⟨k+1,q+nq,by go_num,by omega,by simp,by rw[lF X.o,lF Y.o,U.o,YK.o]⟩
        case measure=>simp [intOf];omega
      . have N:(x !=y)=true:=by
         rw[eQ];exact a
        have I:Hid (decide (xs=ys)=false):=(by rw[ji];intro e;have h1:=X.o;rw[e,Y.o] at h1;injection h1 with h1;exact a h1.symm);clear a;go_wp2;go_quiet (fail);go_wp2;go_ret;exact⟨dP I.o.symm,q+nq,by simp⟩
    . have O:k=n:=(by omega);have I:Hid (decide (xs=ys)=true):=by
       rw[Bo];have:=U.o;rwa [uy (by have:=HL.o;omega),uy (by have:=L.o;omega)] at this
      clear O;go_wp2;go_ret;exact⟨dP I.o.symm,q,rfl⟩
 . have hb:((n:Int) !=(D:Int))=true:=(by rw[eQ];omega);have I:Hid (decide (xs=ys)=false):=by
    rw[ji];intro e;rw[e] at J;omega
   clear E J d;go_enter Tryz.func36,Tryz.ntmps36;go_wp2;go_ret;exact⟨dP I.o.symm,0,rfl⟩
theorem qK (A A':Option Addr)(n a c u:Nat)(xs:List Int)(w:World)(B y:Nat)(h:Lies w B 1 A n (xs.map iv))(D:Lies w y 1 A' a (xs.map iv))(hn:n<=1000000000000)(d:a<=1000000000000):
 Calls Tryz.prog 36 #[.slice A n c,.slice A' a u] w λe w'=>e= .returned (.bool true)/\∃q,w'=w.drewN q:=
 (LY A A' n a c u xs xs w (max B y) (h.more (TA _ _)) (D.more (TB _ _)) hn d).mono λe w' ⟨he,hw⟩=>⟨by rw[he];simp,hw⟩
def evV (e:Ev)(Ad:Option Addr)(nd cd:Nat)(Af:Option Addr)(nf cf:Nat):Array Value:=
 #[.int .i64 e.thread,.int .i64 e.kind,.int .i64 e.obj,.int .i64 e.value,.int .i64 e.site,.slice Ad nd cd,.slice Af nf cf]
theorem Gf (e:Ev)(Ad:Option Addr)(nd cd:Nat)(Af:Option Addr)(nf cf:Nat)(G:Option Addr)(J L:Nat)(H:Option Addr)(M u:Nat)(w:World)(B:Nat)
 (h1:Lies w B 1 Ad nd (e.deps.map iv)) (h2:Lies w B 1 Af nf (e.from_.map iv)) (a:Lies w B 1 G J (e.deps.map iv)) (d:Lies w B 1 H M (e.from_.map iv)) (E:e.deps.length<=1000000000000) (hf:e.from_.length<=1000000000000):
 Calls Tryz.prog 35 #[.agg (evV e Ad nd cd Af nf cf),.agg (evV e G J L H M u)] w λI w'=>I= .returned (.bool true)/\w.grownBy w' none:=by have l1:=h1.lenI;have l2:=h2.lenI;have y:=a.lenI;have D:=d.lenI;rw[l1] at E y;rw[l2] at hf D;subst y D;have N:=ae (λo o'=>qK Ad G nd nd cd L e.deps ((w.alloc o).alloc o') B B ((h1.allocAny o).allocAny o') ((a.allocAny o).allocAny o') E E);have O:=ae (λo o' q=>qK Af H nf nf cf u e.from_ (((w.alloc o).alloc o').drewN q) B B (((h2.allocAny o).allocAny o').drewN q) (((d.allocAny o).allocAny o').drewN q) hf hf);clear l1 l2 h1 h2 a d E hf;have V:(e.thread==e.thread)=true:=(by simp);have X:(e.kind==e.kind)=true:=(by simp);have Y:(e.obj==e.obj)=true:=(by simp);have Z:(e.value==e.value)=true:=(by simp);have b5:(e.site==e.site)=true:=(by simp);unfold evV;go_enter Tryz.func35,Tryz.ntmps35;go_wp2_with fail;refine (N.o _ _).mono ?_;rintro I w1 ⟨rfl,R,rfl⟩;go_wp2_with fail;refine (O.o _ _ _).mono ?_;rintro I w2 ⟨rfl,U,rfl⟩;go_wp2_with fail;go_ret;exact⟨rfl,aH (af (aP w _ none) (aP _ _ none) (.inl rfl)) (R+U)⟩
def Evs (w:World)(B:Nat)(A:Option Addr)(n:Nat)(l:List Ev):Prop:=
 l.length=n/\∀k e,l[k]?=some e->∃(b o:Nat) (Ad:Option Addr) (cd:Nat) (Af:Option Addr) (cf:Nat),A=some ⟨b,o,none⟩/\b<B/\
  (∀j u,(#[.int .i64 e.thread,.int .i64 e.kind,.int .i64 e.obj,.int .i64 e.value,.int .i64 e.site,.slice Ad e.deps.length cd,.slice Af e.from_.length cf]:Array Value)[j]?=some u->w.cell? ⟨b,o+k*7+j,none⟩=some u)/\Lies w B 1 Ad e.deps.length (e.deps.map iv)/\Lies w B 1 Af e.from_.length (e.from_.map iv)
theorem Evs.grown {w w':World}{B n:Nat}{A:Option Addr}{l:List Ev}{row:Option Nat}(h:Evs w B A n l)(hg:w.grownBy w' row)(hB:B<=w.heap.size)(hr:∀g,row=some g->B<=g):Evs w' B A n l:=
 ⟨h.1,λk e he=>by
  obtain⟨b,o,Ad,cd,Af,cf,a,hb,d,q,y⟩:=h.2 k e he
  have hk:∀j,w'.cell? ⟨b,j,none⟩=w.cell? ⟨b,j,none⟩:=λj=>lL (hg.block b (by omega) (λe=>by have:=hr _ e.symm;omega))
  exact⟨b,o,Ad,cd,Af,cf,a,hb,λj u D=>by rw[hk];exact d j u D,q.grown hg hB hr,y.grown hg hB hr⟩⟩
theorem Evs.at {w:World}{B n k:Nat}{A:Option Addr}{l:List Ev}(h:Evs w B A n l)(hk:k<n):
 ∃(b o:Nat) (e:Ev) (Ad:Option Addr) (cd:Nat) (Af:Option Addr) (cf:Nat),A=some ⟨b,o,none⟩/\b<B/\l[k]?=some e/\
  w.cell? ⟨b,o+k*7,none⟩=some (.int .i64 e.thread)/\w.cell? ⟨b,o+k*7+1,none⟩=some (.int .i64 e.kind)/\w.cell? ⟨b,o+k*7+2,none⟩=some (.int .i64 e.obj)/\w.cell? ⟨b,o+k*7+3,none⟩=some (.int .i64 e.value)/\
  w.cell? ⟨b,o+k*7+4,none⟩=some (.int .i64 e.site)/\w.cell? ⟨b,o+k*7+5,none⟩=some (.slice Ad e.deps.length cd)/\w.cell? ⟨b,o+k*7+6,none⟩=some (.slice Af e.from_.length cf)/\
  Lies w B 1 Ad e.deps.length (e.deps.map iv)/\Lies w B 1 Af e.from_.length (e.from_.map iv):=by have d:k<l.length:=(by rw[h.1];exact hk);obtain⟨b,o,Ad,cd,Af,cf,q,hb,a,u,y⟩:=h.2 k l[k] (aX d);exact⟨b,o,l[k],Ad,cd,Af,cf,q,hb,aX d,a 0 _ rfl,a 1 _ rfl,a 2 _ rfl,a 3 _ rfl,a 4 _ rfl,a 5 _ rfl,a 6 _ rfl,u,y⟩
theorem NZ (A:Option Addr)(n c B:Nat)(xs:Bytes)(most:Int)(w:World)(mf:Lies w B 1 A n (xs.map bv))(hB:B<=w.heap.size)(hnc:n<=c)(hn:n<=1000000000)(aq:inI64 most)(base:Nat)(D:base<=w.heap.size):
 Calls Tryz.prog 49 #[.slice A n c,.int .i64 most] w λe w'=>∃v',e= .returned (.tuple #[v',.int .i64 (unpack xs most).2])/\w'.ownsRow base 5 1 v' (unpack xs most).1.length ((unpack xs most).1.map bv)/\w.grownBy w' none/\At w none v'.ownBlock:=by
 have HL:=ae mf.lenB;obtain⟨b6,b8⟩:=aq;obtain⟨i0,hi,X,L,M⟩:=info_parts jU;have HI:=ae hi;have Y:=ae X;have Z:=ae L;have a6:=ae M;clear hi X L M;have hz:(0:Nat)<1:=(by omega);go_enter Tryz.func49,Tryz.ntmps49;go_wp2_with fail;go_loopw [6,7,8,9,10] (λv iv _ _ _ wr=>∃(k:Nat) (ys:Bytes) (vv:Value),vv=v/\iv= .int .i64 (k:Int)/\k<=n/\UnAt 5 w base most xs k ys vv wr) (λ_ iv _ _ _ _=>n-(intOf iv).toNat)
 case atStart=>exact ⟨0,[],_,rfl,rfl,ay _,UnAt.start _ _ _ _ _⟩
 case round=>
  obtain⟨k,ys,vv,rfl,rfl,b9,O⟩:=hrel;have ba:ys.length<=130*k:=O.len;have LB:=mf.grown O.grown hB nofun;obtain⟨Av,cv,ar,_⟩:=ai O.own;subst ar;have bc: -9223372036854775808<=most-(ys.length:Int):=(by rcases O.room with h|h;have h0:ys.length=0:=(by rw[h];rfl);omega;omega);have q:=ae O;have av:base<=wr.heap.size:=aG D O.grown.size;clear O;by_cases aw:k<n
  . obtain⟨E,x,hA,_,hx,bd⟩:=LB.byte aw;subst hA;have bf:=gJ x;have HX:=ae hx;clear hx;by_cases h7:x.toNat<128
    . have a:=q.o.lit HX.o h7;rw[HL.o] at a;by_cases h1:n-(k+1)<x.toNat+1
      . rw[if_pos h1] at a;have I:=ae a;clear a;go_wp2_with fail;go_ret2;rw[I.o];exact⟨_,rfl,dw _ _ _ _,q.o.grown,.inl rfl⟩
      . rw[if_neg h1] at a;by_cases h2:most<(ys.length:Int)+x.toNat+1
        . rw[if_pos h2] at a;have I:=ae a;clear a;go_wp2_with fail;go_ret2;rw[I.o];exact⟨_,rfl,dw _ _ _ _,q.o.grown,.inl rfl⟩
        . have hcut:Lies wr B 1 (some ⟨E.block,E.off+(k+1),none⟩) (k+x.toNat+2-(k+1)) (((xs.drop (k+1)).take (x.toNat+1)).map bv):=by
           have h1:=(LB.drop (k:=k+1) (by omega)).take (m:=x.toNat+1) (by omega);simp only[iY] at h1;rw[<-oL,<-kU] at h1;rw[show k+x.toNat+2-(k+1)=x.toNat+1 from by omega];rw[show (⟨E.block,E.off+(k+1),none⟩:Addr)=E.add (k+1) from by simp[Addr.add]];exact h1
          have Jo:=ae hcut;have vT:¬c=k+1:=(by omega);clear a hcut;go_wp2_with (at_builtin;refine dn _ rfl (.tmp 37) (.tmp 45) _ rfl base 5 i0 (.int .u8 0) 1 1 Tryz.underlying22 HI.o Y.o Z.o a6.o rfl hz _ ys.length (ys.map bv) rfl q.o.own B (some ⟨E.block,E.off+(k+1),none⟩) (k+x.toNat+2-(k+1)) (c-(k+1)) _ rfl Jo.o (λe=>nomatch e) (mG _) (by unfold maxLen;omega) (by omega) av ?_;intro v2 w2 u a7 mW);rw[show k+x.toNat+2-(k+1)=x.toNat+1 from by omega] at u;have HN:=ae (q.o.litNext HX.o h7 (by rw[HL.o];omega) (by omega) u a7 mW);clear u a7 mW;go_roundw
          case rel=>exact ⟨k+x.toNat+2,_,_,rfl,by go_num,by omega,HN.o⟩
          case measure=>simp [intOf];omega
    . have R:128<=x.toNat:=(by omega);by_cases h1:n<=k+1
      . have a:=ae (q.o.one HX.o R (by rw[HL.o];exact h1));go_wp2_with fail;go_ret2;rw[a.o];exact⟨_,rfl,dw _ _ _ _,q.o.grown,.inl rfl⟩
      . obtain⟨aD,d,a8,_,hd,aL⟩:=LB.byte (show k+1<n by omega);obtain rfl:E=aD:=(by injection a8);have bh:=gJ d;rw[show E.add (k+1)=(⟨E.block,E.off+(k+1),none⟩:Addr) from by simp[Addr.add]] at aL;have HD:=ae hd;have a:=q.o.copy HX.o R hd;clear hd a8;by_cases h0:d.toNat=0\/ys.length<d.toNat
        . rw[if_pos h0] at a;have I:=ae a;clear a;by_cases aa:d.toNat=0
          . have ab:(((d.toNat:Nat):Int)==0)=true:=(by rw[eG];omega);clear aa h0;go_wp2_with fail;go_ret2;rw[I.o];exact⟨_,rfl,dw _ _ _ _,q.o.grown,.inl rfl⟩
          . have ab:(((d.toNat:Nat):Int)==0)=false:=(by rw[fO];omega);have aM:(ys.length:Int)<(d.toNat:Int):=(by omega);clear aa h0;go_wp2_with fail;go_ret2;rw[I.o];exact⟨_,rfl,dw _ _ _ _,q.o.grown,.inl rfl⟩
        . rw[if_neg h0] at a;have ab:(((d.toNat:Nat):Int)==0)=false:=(by rw[fO];omega);have aM:(d.toNat:Int)<=(ys.length:Int):=(by omega);have aR:1<=d.toNat:=(by omega);have H0:=ae h0;clear h0;by_cases h2:most<(ys.length:Int)+x.toNat-125
          . rw[if_pos h2] at a;have I:=ae a;clear a;go_wp2_with fail;go_ret2;rw[I.o];exact⟨_,rfl,dw _ _ _ _,q.o.grown,.inl rfl⟩
          . clear a;obtain⟨N,hN⟩:∃N,N=x.toNat-125:=⟨_,rfl⟩;have b0:=ae hN;have al:(N:Int)=(x.toNat:Int)-125:=(by omega);have VH:=ae al;have bj:N<=130:=(by omega);clear hN al;go_wp2_with fail;go_loopw [6,10] (λv jv wr=>∃(j:Nat) (zs:Bytes) (v2:Value),v2=v/\jv= .int .i64 (j:Int)/\CpAt 5 w base ys d.toNat N j zs v2 wr) (λ_ jv _=>N-(intOf jv).toNat)
            case atStart=>exact ⟨0,ys,_,rfl,rfl,⟨q.o.own,q.o.grown,q.o.at_,by simp,ay _,rfl⟩⟩
            case round=>
             obtain⟨j,zs,v2,rfl,rfl,G⟩:=hrel;have bk:=G.le;have L:zs.length<=ys.length+130:=(by have:=G.len;omega);have M:ys.length<=zs.length:=(by have:=G.len;omega);have bl:(d.toNat:Int)<=(zs.length:Int):=(by omega);by_cases hj:j<N
             . obtain⟨y,hy⟩:=G.get aR (by omega);obtain⟨A2,c2,b1,_,_,an,_⟩:=ai G.own;obtain⟨b2,y',hA2,_,U,bm⟩:=an.byte (show zs.length-d.toNat<zs.length by omega);obtain rfl:y=y':=(by rw[hy] at U;injection U);subst b1 hA2;have HY:=ae hy;have V:=ae G;have b3:(j:Int)<(x.toNat:Int)-125:=(by have:=VH.o;omega);have bn:base<=wr.heap.size:=aG D G.grown.size;clear hy U G an;go_wp2_with (at_builtin;refine bW _ rfl (.tmp 83) (.tmp 91) _ rfl base 5 i0 (.int .u8 0) 1 1 Tryz.underlying22 HI.o Y.o Z.o a6.o rfl hz _ (Value.slice (some b2) zs.length c2).ownBlock zs.length (zs.map bv) rfl (App.own (V.o.own.alloc _)) ⟨wr.heap.size,0,none⟩ 1 1 [.int .u8 (y.toNat:Int)] rfl hz rfl (gZ _ _ _) (BQ rfl) (by unfold maxLen;omega) (by omega) (by simp;omega) ?_;intro v3 w3 H ao lD);have J:=dA ao;have mg:=lD.alloc;have b4:=ae (V.o.next hj HY.o H J mg);clear H ao lD J mg;go_roundw
               case rel=>exact ⟨j+1,_,_,rfl,by go_num,b4.o⟩
               case measure=>simp [intOf];omega
             . have HZ:=ae (G.done (by omega));have b3:¬(j:Int)<(x.toNat:Int)-125:=(by have:=VH.o;omega);have V:=ae G;clear G;have b5:=ae (q.o.copyNext HX.o R HD.o H0.o (by omega) (by rw[HZ.o,b0.o]) V.o.own V.o.grown V.o.at_);go_wp2_with fail;go_roundw
               case rel=>exact ⟨k+2,_,_,rfl,by go_num,by omega,b5.o⟩
               case measure=>simp [intOf];omega
  . have a:=ae (q.o.done (by rw[HL.o];omega));go_wp2_with fail;go_ret2;rw[a.o];exact⟨_,rfl,q.o.own,q.o.grown,q.o.at_⟩
