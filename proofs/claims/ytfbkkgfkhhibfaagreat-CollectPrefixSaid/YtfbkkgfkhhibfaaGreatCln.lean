/- Words. -/
import Derived.Test.YtfbkkgfkhhibfaaGreatMm
import Derived.Test.YtfbkkgfkhhibfaaGreatProg
import Derived.Test.YtfbkkgfkhhibfaaGreatPl
import Derived.WalkLawsBesides
import Derived.WalkSpells
import Derived.Deep.QuietTactic
import Derived.BigQuiet
import Derived.Deep.DeepFit
import Derived.Great.BuildSlice
set_option linter.unusedVariables false
set_option maxRecDepth 100000
set_option maxHeartbeats 8000000
namespace Iv
open Go Go.RowKit
def bv (b:UInt8):Value:= .int .u8 (b.toNat:Int)
def iv (n:Int):Value:= .int .i64 n
theorem lQ {α:Type}{xs:List α}{k:Nat}{x:α}(h:xs[k]?=some x):xs.take (k+1)=xs.take k++[x]:=by obtain⟨a,rfl⟩:=dF.1 h;exact List.take_succ_eq_append_getElem a
theorem dW {a b:Bool}(h:a=b):Ending.returned (.bool a)= .returned (.bool b):=by rw[h]
theorem bW {k:IntKind}{a b:Int}(h:a=b):Ending.returned (.int k a)= .returned (.int k b):=by rw[h]
theorem oI (l:Bytes):∀u∈l.map bv,u.oneCell'=true:=by intro u a;obtain⟨b,_,rfl⟩:=jo.1 a;rfl
theorem Lies.byte {w:World}{B n k:Nat}{A:Option Addr}{xs:Bytes}(h:Lies w B 1 A n (xs.map bv))(hk:k<n):
 ∃a x,A=some a/\a.block<B/\xs[k]?=some x/\w.cell? (a.add k)=some (.int .u8 (x.toNat:Int)):=by obtain⟨a,u,rfl,hb,hx,hc⟩:=h.cellAt hk;simp only[bV,mZ] at hx;obtain⟨x,hx,rfl⟩:=hx;exact⟨a,x,rfl,hb,hx,hc⟩
theorem Lies.int {w:World}{B n k:Nat}{A:Option Addr}{xs:List Int}(h:Lies w B 1 A n (xs.map iv))(hk:k<n):
 ∃a x,A=some a/\a.block<B/\xs[k]?=some x/\w.cell? (a.add k)=some (.int .i64 x):=by obtain⟨a,u,rfl,hb,hx,hc⟩:=h.cellAt hk;simp only[bV,mZ] at hx;obtain⟨x,hx,rfl⟩:=hx;exact⟨a,x,rfl,hb,hx,hc⟩
theorem Lies.lenB {w:World}{B n:Nat}{A:Option Addr}{xs:Bytes}(h:Lies w B 1 A n (xs.map bv)):xs.length=n:=by simpa using h.1
theorem Lies.lenI {w:World}{B n:Nat}{A:Option Addr}{xs:List Int}(h:Lies w B 1 A n (xs.map iv)):xs.length=n:=by simpa using h.1
end Iv
namespace Go.Proofs.YtfbkkgfkhhibfaaGreat
open Go
theorem kY:(Tryz.prog.info? 5).map (λi=>(i.zero,i.size,i.bytes))=some (some (.int .u8 0),1,1):=by kernel_rfl
theorem uT:(Tryz.prog.info? 3).map (λi=>(i.zero,i.size,i.bytes))=some (some (.int .i64 0),1,8):=by kernel_rfl
end Go.Proofs.YtfbkkgfkhhibfaaGreat
namespace Iv
open Go Go.RowKit
theorem ax {w w':World}{base e sz n:Nat}{row:Option Nat}{v:Value}{xs:List Value}(h:w.ownsRow base e sz v n xs)(hg:w.grownBy w' row)(a:∀g,v.ownBlock=some g->row≠some g):w'.ownsRow base e sz v n xs:=by refine⟨h.1,?_⟩;rcases h.2 with h2|⟨b,cap,cur,rfl,hb,hh,h3⟩;exact .inl h2;refine .inr ⟨b,cap,cur,rfl,hb,?_,h3⟩;exact (hg.block b (jd.1 hh).1 (λe=>a b rfl e.symm)).trans hh
section
variable {P : Program} (w : World)
theorem qM {ops:Array Oper}{o:Oper}{a:Act}{K:Act->World->Prop}{Q:Exit->Act->World->Prop}{E:Prop}(hg:o.guard=none)(s x:Operand)(t:TypeId)
 (I:o.op=Op.call { callee:=Callee.builtin Builtin.append,args:=#[s,x],argTypes:=#[t,t] })
 (base:Nat) (e:TypeId) (i:TypeInfo) (z:Value) (size bytes:Nat) (R:P.underlying t=some (.slice e)) (hi:P.info? e=some i) (U:i.zero=some z)
 (y:i.size=size) (J:i.bytes=bytes) (L:z.cells.size=size) (M:0<size)
 (v:Value) (n:Nat) (xs:List Value) (hs:a.eval s=v) (G:w.ownsRow base e size v n xs)
 (B:Nat) (A:Option Addr) (m c:Nat) (news:List Value) (hx:a.eval x= .slice A m c) (hr:Lies w B size A m news) (ho:A=none->c=0) (h1:∀u∈news,u.oneCell'=true)
 (O:n+m<=maxLen) (q:(n+m)* bytes<=140737488355328) (D:base<=w.heap.size)
 (V:∀v' w',w'.ownsRow base e size v' (n+m) (xs++news)->w.grownBy w' v.ownBlock->At w v.ownBlock v'.ownBlock->K (a.put o.dst v') w'):
 if Region.wanted o (yielded ops a.tmps)=true then Oper.wp P o a w K Q else E:=by have hw:Region.wanted o (yielded ops a.tmps)=true:=(by simp[Region.wanted,hg]);rw[if_pos hw];obtain⟨v',w',H,r1,X,Y⟩:=PS (P:=P) w base t o.type e i z size bytes R hi U y J L M v n xs G B A m c news hr ho h1 O q D;unfold Oper.wp;simp[execOp,I,resolve,invoke,builtin,hs,hx,H,Result.andThen];exact V _ _ r1 X Y
end
section
variable {P : Program} (w : World)
end
theorem Iq (w:World)(u u2:Value)(e:TypeId):∀j a,[u,u2][j]?=some a->(w.alloc (.cells #[u,u2] e)).cell? ((⟨w.heap.size,0,none⟩:Addr).add j)=some a:=by intro j a h;have q:j<2:=(dF.1 h).1;rcases (show j=0\/j=1 by omega) with rfl|rfl;simp at h;subst h;simp[Addr.add];simp at h;subst h;simp[Addr.add]
theorem ajK {u u2:Value}(h:u.oneCell'=true)(h2:u2.oneCell'=true):∀x∈ [u,u2],x.oneCell'=true:=by intro x hx;simp at hx;rcases hx with rfl|rfl;exact h;exact h2
def GI (p:Bytes):Bytes:=if 0<p.length then UInt8.ofNat (p.length-1)::p else []
theorem OX {b:Bytes}{f e:Nat}(hf:f<=e)(he:e<=b.length):GI ((b.take e).drop f)=lit b f e:=by unfold GI lit;have a:((b.take e).drop f).length=e-f:=(by simp;omega);rw[a];by_cases h:f<e;rw[if_pos (by omega),if_pos h];rw[if_neg (by omega),if_neg h]
theorem Wy {b:Bytes}{f i:Nat}{x:UInt8}(hf:f<=i)(hx:b[i]?=some x):(b.take (i+1)).drop f=(b.take i).drop f++[x]:=by have a:i<b.length:=(dF.1 hx).1;rw[lQ hx,List.drop_append_of_le_length (by simp;omega)]
def Apart (v p:Value):Prop:=∀g,v.ownBlock=some g->p.ownBlock≠some g
theorem Apart.nil (v:Value):Apart v (.slice none 0 0):=λg _ h=>nomatch h
theorem Apart.symm {v p:Value}(h:Apart v p):Apart p v:=λg h1 h2=>h g h2 h1
theorem Apart.step {w:World}{base e sz n:Nat}{xs:List Value}{v p v':Value}(h:Apart v p)(q:w.ownsRow base e sz p n xs)(a:At w v.ownBlock v'.ownBlock):Apart v' p:=by intro g h1 h2;have u:=(q.lt g h2).2;rcases a with h3|⟨g',h3,h4⟩;exact h g (h3▸h1) h2;rw[h1] at h3;injection h3 with h3;omega
theorem xM {w w':World}{base e sz n:Nat}{xs:List Value}{v p:Value}(h:Apart v p)(a:w.ownsRow base e sz p n xs)(hg:w.grownBy w' v.ownBlock):w'.ownsRow base e sz p n xs:=
 ax a hg λg h1 h2=>h g h2 h1
structure PkInv (ts ti te:TypeId)(w:World)(gb go gf base:Nat)(A:Option Addr)(n c f:Nat)(ys:Bytes)(v:Value)(wr:World):Prop where
 hb:Held wr gb ts #[.slice A n c]
 ho:Held wr go ts #[v]
 hf:Held wr gf ti #[.int .i64 (f:Int)]
 own:wr.ownsRow base te 1 v ys.length (ys.map bv)
 grown:w.grownBy wr none
 lo:w.heap.size<=gb/\w.heap.size<=go/\w.heap.size<=gf
 hi:gb<base/\go<base/\gf<base
 ne:gb≠go/\gb≠gf/\go≠gf
section
variable {ts ti te : TypeId} {w wr w1 : World} {gb go gf base n c f : Nat} {A : Option Addr} {ys zs : Bytes} {v v1 : Value}
theorem PkInv.drewN (h:PkInv ts ti te w gb go gf base A n c f ys v wr)(q:Nat):PkInv ts ti te w gb go gf base A n c f ys v (wr.drewN q):=
 ⟨h.hb.drewN q,h.ho.drewN q,h.hf.drewN q,ax h.own (aQ (bu wr none) q) nofun,aQ h.grown q,h.lo,h.hi,h.ne⟩
theorem PkInv.drew (h:PkInv ts ti te w gb go gf base A n c f ys v wr):PkInv ts ti te w gb go gf base A n c f ys v wr.drew:=
 ⟨h.hb.drew,h.ho.drew,h.hf.drew,ax h.own (aB (bu wr none)) nofun,aB h.grown,h.lo,h.hi,h.ne⟩
theorem PkInv.push (h:PkInv ts ti te w gb go gf base A n c f ys v wr)(q:w1.ownsRow base te 1 v1 zs.length (zs.map bv))(hg:wr.grownBy w1 v.ownBlock):
 PkInv ts ti te w gb go gf base A n c f zs v1 (w1.setCell ⟨go,0,none⟩ v1):=by have D:∀g,v.ownBlock=some g->base<=g:=λg e=>(h.own.lt g e).1;have u:∀g,v1.ownBlock=some g->base<=g:=λg e=>(q.lt g e).1;have a:∀b,b<base->some b≠v.ownBlock:=(λb hb e=>by have:=D b e.symm;omega);obtain⟨l1,l2,l3⟩:=h.lo;obtain⟨E,G,H⟩:=h.hi;obtain⟨n1,n2,n3⟩:=h.ne;refine⟨(h.hb.grown hg (a _ E)).far (λe=>n1 e) v1,?_,(h.hf.grown hg (a _ H)).far (λe=>n3 e.symm) v1,?_,?_,h.lo,h.hi,h.ne⟩;have:=(h.ho.grown hg (a _ G)).store 0 v1;simpa using this;exact ax q (ag w1 go 0 v1) (λg e B=>by have:=u g e;injection B with B;omega);refine⟨hg.os.trans h.grown.os,hg.tape.trans h.grown.tape,hg.output.trans h.grown.output,?_,λk hk y=>?_⟩;have:=hg.size;have:=h.grown.size;simp[World.setCell];omega;refine ((ag w1 go 0 v1).block k ?_ (λe=>by injection e with e;omega)).trans ((hg.block k (pF hk h.grown.size) (a k (by omega))).trans (h.grown.block k hk y));have:=hg.size;have:=h.grown.size;omega
theorem PkInv.seen (h:PkInv ts ti te w gb go gf base A n c f ys v wr)(hg:wr.grownBy w1 v.ownBlock):
 w1.cell? ⟨gb,0,none⟩=some (.slice A n c)/\w1.cell? ⟨go,0,none⟩=some v/\w1.cell? ⟨gf,0,none⟩=some (.int .i64 (f:Int))/\w1.frozen? ⟨go,0,none⟩=false/\w1.frozen? ⟨gf,0,none⟩=false:=by have q:∀g,v.ownBlock=some g->base<=g:=λg e=>(h.own.lt g e).1;have a:∀b,b<base->some b≠v.ownBlock:=(λb hb e=>by have:=q b e.symm;omega);obtain⟨u,y,B⟩:=h.hi;have a1:=h.hb.grown hg (a _ u);have a2:=h.ho.grown hg (a _ y);have a3:=h.hf.grown hg (a _ B);exact⟨a1.cell 0,a2.cell 0,a3.cell 0,a2.free 0,a3.free 0⟩
theorem PkInv.cells (h:PkInv ts ti te w gb go gf base A n c f ys v wr):
 wr.cell? ⟨gb,0,none⟩=some (.slice A n c)/\wr.cell? ⟨go,0,none⟩=some v/\wr.cell? ⟨gf,0,none⟩=some (.int .i64 (f:Int))/\wr.frozen? ⟨go,0,none⟩=false/\wr.frozen? ⟨gf,0,none⟩=false:=
 h.seen (bu wr _)
theorem PkInv.first (h:PkInv ts ti te w gb go gf base A n c f ys v wr)(e:Nat):PkInv ts ti te w gb go gf base A n c e ys v (wr.setCell ⟨gf,0,none⟩ (.int .i64 (e:Int))):=by obtain⟨l1,l2,l3⟩:=h.lo;obtain⟨q,u,y⟩:=h.hi;obtain⟨n1,n2,n3⟩:=h.ne;refine⟨h.hb.far (λe=>n2 e) _,h.ho.far (λe=>n3 e) _,?_,ax h.own (ag wr gf 0 _) (λg e a=>by have:=(h.own.lt g e).1;injection a with a;omega),?_,h.lo,h.hi,h.ne⟩;have:=h.hf.store 0 (.int .i64 (e:Int));simpa using this;exact af h.grown (ag wr gf 0 _) (.inr ⟨gf,rfl,l3⟩)
end
structure UnAt (te:TypeId)(w:World)(base:Nat)(most:Int)(xs:Bytes)(k:Nat)(ys:Bytes)(v:Value)(wr:World):Prop where
 own:wr.ownsRow base te 1 v ys.length (ys.map bv)
 grown:w.grownBy wr none
 at_:At w none v.ownBlock
 len:ys.length<=130*k
 room:ys=[]\/(ys.length:Int)<=most
 eq:unp most (xs.drop k) ys=unpack xs most
theorem drop_cons {xs:Bytes}{k:Nat}{x:UInt8}(hx:xs[k]?=some x):xs.drop k=x::xs.drop (k+1):=by obtain⟨q,a⟩:=dF.1 hx;rw[nY q,a]
section
variable {te : TypeId} {w wr w1 : World} {base k : Nat} {most : Int} {xs ys zs : Bytes} {v v1 : Value}
theorem UnAt.start (te:TypeId)(w:World)(base:Nat)(most:Int)(xs:Bytes):UnAt te w base most xs 0 [] (.slice none 0 0) w:=
 ⟨dD _ _ _ _,bu w none,.inl rfl,ay _,.inl rfl,rfl⟩
theorem UnAt.done (h:UnAt te w base most xs k ys v wr)(hk:xs.length<=k):unpack xs most=(ys,0):=by have:=h.eq;rw[jT hk,Di] at this;exact this.symm
theorem UnAt.lit {x:UInt8}(h:UnAt te w base most xs k ys v wr)(hx:xs[k]?=some x)(a:x.toNat<128):
 unpack xs most=if xs.length-(k+1)<x.toNat+1 then ([],9) else if most<(ys.length:Int)+x.toNat+1 then ([],2) else unp most (xs.drop (k+x.toNat+2)) (ys++(xs.drop (k+1)).take (x.toNat+1)):=by rw[<-h.eq,drop_cons hx,Dj a,qf,Aj];rw[show k+1+(x.toNat+1)=k+x.toNat+2 from by omega]
theorem UnAt.litNext {x:UInt8}(h:UnAt te w base most xs k ys v wr)(hx:xs[k]?=some x)(y:x.toNat<128)(h1:k+x.toNat+2<=xs.length)(h2:(ys.length:Int)+x.toNat+1<=most)
 (a:w1.ownsRow base te 1 v1 (ys.length+(x.toNat+1)) (ys.map bv++((xs.drop (k+1)).take (x.toNat+1)).map bv)) (hg:wr.grownBy w1 v.ownBlock) (q:At wr v.ownBlock v1.ownBlock):
 UnAt te w base most xs (k+x.toNat+2) (ys++(xs.drop (k+1)).take (x.toNat+1)) v1 w1:=by have u:(ys++(xs.drop (k+1)).take (x.toNat+1)).length=ys.length+(x.toNat+1):=(by simp;omega);refine⟨?_,af h.grown hg h.at_,h.at_.trans q h.grown.size,?_,.inr ?_,?_⟩;rw[u,fQ];exact a;rw[u];have:=h.len;omega;rw[u];omega;have:=h.lit hx y;rw[if_neg (by omega),if_neg (by omega)] at this;exact this.symm
theorem UnAt.one {x:UInt8}(h:UnAt te w base most xs k ys v wr)(hx:xs[k]?=some x)(a:128<=x.toNat)(q:xs.length<=k+1):unpack xs most=([],9):=by rw[<-h.eq,drop_cons hx,jT q,JF a]
theorem UnAt.copy {x d:UInt8}(h:UnAt te w base most xs k ys v wr)(hx:xs[k]?=some x)(a:128<=x.toNat)(q:xs[k+1]?=some d):
 unpack xs most=if d.toNat=0\/ys.length<d.toNat then ([],11) else if most<(ys.length:Int)+x.toNat-125 then ([],2) else unp most (xs.drop (k+2)) (copyOut ys d.toNat (x.toNat-125)):=by rw[<-h.eq,drop_cons hx,drop_cons q,yF a]
theorem UnAt.copyNext {x d:UInt8}(h:UnAt te w base most xs k ys v wr)(hx:xs[k]?=some x)(B:128<=x.toNat)(D:xs[k+1]?=some d)(h0:¬(d.toNat=0\/ys.length<d.toNat))(h2:(ys.length:Int)+x.toNat-125<=most)
 (u:zs=copyOut ys d.toNat (x.toNat-125)) (a:w1.ownsRow base te 1 v1 zs.length (zs.map bv)) (hg:w.grownBy w1 none) (q:At w none v1.ownBlock):
 UnAt te w base most xs (k+2) zs v1 w1:=by have y:zs.length=ys.length+(x.toNat-125):=(by rw[u,uB]);have E:=iF x;refine⟨a,hg,q,?_,.inr ?_,?_⟩;rw[y];have:=h.len;omega;rw[y];omega;have:=h.copy hx B D;rw[if_neg h0,if_neg (by omega)] at this;rw[u];exact this.symm
end
theorem adX {most:Int}(n:Nat):∀(l out:Bytes),l.length=n->(unp most l out).1.length<=out.length+130*n:=by
 induction n using Nat.strongRecOn with
 |
  _ n ih=>
  intro l out hn
  match l with
  | []=>rw [Di];simp
  |
   x::t=>
   simp only[iZ] at hn;have a:=iF x;by_cases q:x.toNat<128;rw[Dj q];split;simp;split;simp;rename_i h1 _;have:=ih (t.drop (x.toNat+1)).length (by simp;omega) (t.drop (x.toNat+1)) (out++t.take (x.toNat+1)) rfl;simp only[bI,qf,qE] at this;omega
   . match t with
     | []=>rw [JF (by omega)];simp
     |
      d::u=>
      rw[yF (by omega)];split;simp;split;simp;have:=ih u.length (by simp at hn;omega) u (copyOut out d.toNat (x.toNat-125)) rfl;rw[uB] at this;simp only[iZ] at hn;omega
theorem DZ (l:Bytes)(most:Int):(unpack l most).1.length<=130*l.length:=by have:=adX (most:=most) _ l [] rfl;unfold unpack;simpa using this
structure CpAt (te:TypeId)(w:World)(base:Nat)(ys:Bytes)(d N j:Nat)(zs:Bytes)(v:Value)(wr:World):Prop where
 own:wr.ownsRow base te 1 v zs.length (zs.map bv)
 grown:w.grownBy wr none
 at_:At w none v.ownBlock
 len:zs.length=ys.length+j
 le:j<=N
 eq:copyOut zs d (N-j)=copyOut ys d N
section
variable {te : TypeId} {w wr w1 : World} {base d N j : Nat} {ys zs : Bytes} {v v1 : Value}
theorem CpAt.get (h:CpAt te w base ys d N j zs v wr)(q:1<=d)(a:d<=ys.length):∃y,zs[zs.length-d]?=some y:=by have:=h.len;exact⟨_,bH (by omega)⟩
theorem CpAt.next {y:UInt8}(h:CpAt te w base ys d N j zs v wr)(u:j<N)(B:zs[zs.length-d]?=some y)
 (a:w1.ownsRow base te 1 v1 (zs.length+1) (zs.map bv++[bv y])) (hg:wr.grownBy w1 v.ownBlock) (q:At wr v.ownBlock v1.ownBlock):
 CpAt te w base ys d N (j+1) (zs++[y]) v1 w1:=by refine⟨?_,af h.grown hg h.at_,h.at_.trans q h.grown.size,by rw[bI,h.len];rfl,u,?_⟩;rw[bI,fQ];exact a;rw[<-h.eq,show N-j=(N-(j+1))+1 from by omega,copyOut,B];rfl
theorem CpAt.done (h:CpAt te w base ys d N j zs v wr)(a:N<=j):zs=copyOut ys d N:=by have:=h.eq;rw[show N-j=0 from by omega] at this;exact this
end
end Iv
namespace Go.Proofs.YtfbkkgfkhhibfaaGreat
open Go Go.RowKit Iv
theorem Zk (A A':Option Addr)(n D c Z:Nat)(xs ys:Bytes)(w:World)(B:Nat)(h:Lies w B 1 A n (xs.map bv))(R:Lies w B 1 A' D (ys.map bv))(hn:n<=1000000000000)(a6:D<=1000000000000):
 Calls Tryz.prog 51 #[.slice A n c,.slice A' D Z] w λe w'=>e= .returned (.bool (decide (xs=ys)))/\∃q,w'=w.drewN q:=by
 have J:xs.length=n:=(by simpa using h.1);have d:ys.length=D:=(by simpa using R.1);by_cases E:n=D
 . subst E;have HL:=ae J;have L:=ae d;clear J d;have hb:((n:Int) !=(n:Int))=false:=(by simp);go_enter Tryz.func51,Tryz.ntmps51;go_wp2;go_loopw [5] (λi wr=>∃k q:Nat,i= .int .i64 k/\k<=n/\wr=w.drewN q/\xs.take k=ys.take k) (λi _=>n-(intOf i).toNat)
   case atStart=>exact ⟨0,0,rfl,by omega,rfl,rfl⟩
   case round=>
    obtain⟨k,q,rfl,hk,rfl,heq⟩:=hrel;have U:=ae heq;clear heq;by_cases G:k<n
    . obtain⟨ad,u,rfl,a7,hx,hc⟩:=h.cellAt G;obtain⟨a8,u',rfl,aa,H,M⟩:=R.cellAt G;simp only[bV,mZ] at hx H;obtain⟨x,hx,rfl⟩:=hx;obtain⟨y,V,rfl⟩:=H;unfold bv at hc M;have X:=ae hx;have Y:=ae V;clear hx V;by_cases a:x=y
      . have N:((x.toNat:Int) !=(y.toNat:Int))=false:=(by simp[a]);have YX:=ae a;clear a;go_wp2;go_quiet (fail);go_wp2;go_roundw
        case rel=>exact ⟨k+1,q+nq,by go_num,by omega,by simp,by rw[lQ X.o,lQ Y.o,U.o,YX.o]⟩
        case measure=>simp [intOf];omega
      . have N:((x.toNat:Int) !=(y.toNat:Int))=true:=by
         rw[fB];intro e;exact a (yE (by omega))
        have I:Hid (decide (xs=ys)=false):=(by rw[jy];intro e;have h1:=X.o;rw[e,Y.o] at h1;injection h1 with h1;exact a h1.symm);clear a;go_wp2;go_quiet (fail);go_wp2;go_ret;exact⟨dW I.o.symm,q+nq,by simp⟩
    . have O:k=n:=(by omega);have I:Hid (decide (xs=ys)=true):=by
       rw[BD];have:=U.o;rwa [uK (by have:=HL.o;omega),uK (by have:=L.o;omega)] at this
      clear O;go_wp2;go_ret;exact⟨dW I.o.symm,q,rfl⟩
 . have hb:((n:Int) !=(D:Int))=true:=(by rw[fB];omega);have I:Hid (decide (xs=ys)=false):=by
    rw[jy];intro e;rw[e] at J;omega
   clear E J d;go_enter Tryz.func51,Tryz.ntmps51;go_wp2;go_ret;exact⟨dW I.o.symm,0,rfl⟩
theorem Qp (c:Nat)(h:c<4294967296):bits .and .u32 (c:Int) 1=((c%2:Nat):Int):=by have:=u32_and_nat c 1 h (by omega);rw[nat_mask1] at this;exact this
theorem abI (A:Option Addr)(n c:Nat)(xs:Bytes)(w:World)(B:Nat)(h:Lies w B 1 A n (xs.map bv))(hn:n<=1000000000000):
 Calls Tryz.prog 114 #[.slice A n c] w λe w'=>e= .returned (.int .u32 (zg xs:Nat))/\w=w':=by
 have N:=ae h.lenB;go_enter Tryz.func114,Tryz.ntmps114;go_wp2;go_loop [3,5,6,9,17] (λs _ _ i _=>∃k:Nat,i= .int .i64 k/\k<=n/\s= .int .u32 (gX 4294967295 (xs.take k):Nat)) (λ_ _ _ i _=>n-(intOf i).toNat)
 case atStart=>exact ⟨0,rfl,by omega,rfl⟩
 case round=>
  obtain⟨k,rfl,hk,rfl⟩:=hrel;by_cases q:k<n
  . obtain⟨Z,x,rfl,O,hx,hc⟩:=h.byte q;have d:=ou (xs.take k) (c:=4294967295) (by omega);have R:=iF x;have u:=ae (show gX 4294967295 (xs.take (k+1))=ja 8 (gX 4294967295 (xs.take k) ^^^ x.toNat) from by rw[lQ hx,uA];rfl);clear hx;generalize gX 4294967295 (xs.take k)=s at *
    have D:=u32_xor_nat s x.toNat d (by omega);have U:=uy d (show x.toNat<4294967296 from by omega);go_wp2;go_loop [3,6,17] (λV _ j=>∃m:Nat,j= .int .i64 m/\m<=8/\V= .int .u32 (ja m (s ^^^ x.toNat):Nat)) (λ_ _ j=>8-(intOf j).toNat)
    case atStart=>exact ⟨0,rfl,by omega,rfl⟩
    case round=>
     obtain⟨m,rfl,hm,rfl⟩:=hrel;have X:=uz m U;have L:=ae (wR m (s ^^^ x.toNat));generalize a:ja m (s ^^^ x.toNat)=y at *
     have E:=ae a;clear a;have hand:=Qp y X;have M:bits .xor .u32 ((y:Int)/2) 3988292384=((y/2 ^^^ 3988292384:Nat):Int):=u32_xor_nat (y/2) 3988292384 (by omega) (by omega);by_cases Y:m<8
     . rcases LY y with hy|hy
       . have G:(((y:Int)%2) !=0)=false:=(by rw[sN];omega);have H:=ae (show jI y=y/2 from by unfold jI;rw[if_neg (by omega)]);clear hy;go_wp2;go_round
         case rel=>exact ⟨m+1,by go_num,by omega,by rw[L.o,H.o];go_num⟩
         case measure=>simp [intOf];omega
       . have G:(((y:Int)%2) !=0)=true:=(by rw[fB];omega);have H:=ae (show jI y=(y/2) ^^^ 3988292384 from by unfold jI;rw[if_pos hy]);clear hy;go_wp2;go_round
         case rel=>exact ⟨m+1,by go_num,by omega,by rw[L.o,H.o]⟩
         case measure=>simp [intOf];omega
     . have I:m=8:=(by omega);subst I;go_wp2;go_round
       case rel=>exact ⟨k+1,by go_num,by omega,by rw[u.o,E.o]⟩
       case measure=>simp [intOf];omega
  . have J:k=n:=(by omega);subst J;have d:=ou (xs.take k) (c:=4294967295) (by omega);have u:=ae (show zg xs=4294967295 ^^^ gX 4294967295 (xs.take k) from by unfold zg;rw[uK (by have:=N.o;omega)]);generalize gX 4294967295 (xs.take k)=s at *
    have D:bits .xor .u32 IntKind.u32.max (s:Int)=((4294967295 ^^^ s:Nat):Int):=u32_xor_nat 4294967295 s (by omega) d;go_wp2;go_ret;exact⟨bW (by rw[u.o]),rfl⟩
theorem Oz (A:Option Addr)(n c:Nat)(xs:Bytes)(w:World)(B:Nat)(h:Lies w B 1 A n (xs.map bv))(hn:n<=1000000000000):
 Calls Tryz.prog 48 #[.slice A n c] w λe w'=>e= .returned (.int .u32 (zg xs:Nat))/\w=w':=by
 have N:=ae h.lenB;go_enter Tryz.func48,Tryz.ntmps48;go_wp2;go_loop [3,4,5] (λs i _=>∃k:Nat,i= .int .i64 k/\k<=n/\s= .int .u32 (gX 4294967295 (xs.take k):Nat)) (λ_ i _=>n-(intOf i).toNat)
 case atStart=>exact ⟨0,rfl,by omega,rfl⟩
 case round=>
  obtain⟨k,rfl,hk,rfl⟩:=hrel;by_cases q:k<n
  . obtain⟨Z,x,rfl,O,hx,hc⟩:=h.byte q;have d:=ou (xs.take k) (c:=4294967295) (by omega);have R:=iF x;have u:=ae (show gX 4294967295 (xs.take (k+1))=ja 8 (gX 4294967295 (xs.take k) ^^^ x.toNat) from by rw[lQ hx,uA];rfl);clear hx;generalize gX 4294967295 (xs.take k)=s at *
    have D:=u32_xor_nat s x.toNat d (by omega);have U:=uy d (show x.toNat<4294967296 from by omega);go_wp2;go_loop [3,5] (λV j=>∃m:Nat,j= .int .i64 m/\m<=8/\V= .int .u32 (ja m (s ^^^ x.toNat):Nat)) (λ_ j=>8-(intOf j).toNat)
    case atStart=>exact ⟨0,rfl,by omega,rfl⟩
    case round=>
     obtain⟨m,rfl,hm,rfl⟩:=hrel;have X:=uz m U;have L:=ae (wR m (s ^^^ x.toNat));generalize a:ja m (s ^^^ x.toNat)=y at *
     have E:=ae a;clear a;have hand:=Qp y X;have M:bits .xor .u32 ((y:Int)/2) 3988292384=((y/2 ^^^ 3988292384:Nat):Int):=u32_xor_nat (y/2) 3988292384 (by omega) (by omega);by_cases Y:m<8
     . rcases LY y with hy|hy
       . have G:(((y:Int)%2)==1)=false:=(by rw[gq];omega);have H:=ae (show jI y=y/2 from by unfold jI;rw[if_neg (by omega)]);clear hy;go_wp2;go_round
         case rel=>exact ⟨m+1,by go_num,by omega,by rw[L.o,H.o];go_num⟩
         case measure=>simp [intOf];omega
       . have G:(((y:Int)%2)==1)=true:=(by rw[dV];omega);have H:=ae (show jI y=(y/2) ^^^ 3988292384 from by unfold jI;rw[if_pos hy]);clear hy;go_wp2;go_round
         case rel=>exact ⟨m+1,by go_num,by omega,by rw[L.o,H.o]⟩
         case measure=>simp [intOf];omega
     . have I:m=8:=(by omega);subst I;go_wp2;go_round
       case rel=>exact ⟨k+1,by go_num,by omega,by rw[u.o,E.o]⟩
       case measure=>simp [intOf];omega
  . have J:k=n:=(by omega);subst J;have d:=ou (xs.take k) (c:=4294967295) (by omega);have u:=ae (show zg xs=4294967295 ^^^ gX 4294967295 (xs.take k) from by unfold zg;rw[uK (by have:=N.o;omega)]);generalize gX 4294967295 (xs.take k)=s at *
    have D:bits .xor .u32 (s:Int) 4294967295=((4294967295 ^^^ s:Nat):Int):=(by rw[Nat.xor_comm];exact u32_xor_nat s 4294967295 d (by omega));go_wp2;go_ret;exact⟨bW (by rw[u.o]),rfl⟩
theorem iD {P:Program}{ops:Array Oper}{rest:List Oper}{o:Oper}{a:Act}{w:World}{Q:Exit->Act->World->Prop}(hg:o.guard=none)(t e:TypeId)(ho:o.op= .buildSlice t 0 #[])
 (q:TypeInfo) (u:P.underlying t=some (.slice e)) (d:P.info? e=some q)
 (h:∀w',w'=w.alloc (.cells #[] e)->wpList P ops Q rest (a.put o.dst (.slice (some ⟨w.heap.size,0,none⟩) 0 0)) w'):wpList P ops Q (o::rest) a w:=by refine QM hg λK y=>?_;unfold Oper.wp execOp;have hr:(Instr.buildSlice t 0 #[]).run P w= .ok (.slice (some ⟨w.heap.size,0,none⟩) 0 0) (w.alloc (.cells #[] e)):=(by simp[Instr.buildSlice,jL u,sizeOf,typeInfo,d,newRow,Instr.fill];simp[show Array.range 0=#[] from by decide]);simp[ho,hr,Result.andThen];exact y _ _ (h _ rfl)
theorem mg (w:World)(o:Obj):w.grownBy (w.alloc o) none:=dG (bu _ none)
theorem NC:(Tryz.prog.info? 144).map (λi=>(i.zero.map λz=>z.cells.size,i.size,i.bytes))=some (some 5,5,48):=by kernel_rfl
theorem Gq (w:World)(B:Nat)(A:Option Addr)(n c:Nat)(xs:List Value)(D:Lies w B 5 A n xs)(hB:B<=w.heap.size)(ho:A=none->c=0)(h1:∀u∈xs,u.oneCell'=true)
 (hn:n<=maxLen) (J:n*48<=140737488355328):
 Calls Tryz.prog 55 #[.slice A n c] w λe w'=>∃A' L H,e= .returned (.slice A' L H)/\L=n/\w'.ownsRow w.heap.size 144 5 (.slice A' L H) n xs/\w.grownBy w' none:=by
 cases A with
 |
  none=>
  obtain rfl:=ho rfl;obtain rfl:n=0:=by
   rcases oW n with h0|h0;exact h0
   . obtain⟨I,h,_⟩:=D.2 h0
     cases h
  obtain rfl:xs=[]:=mi (by simpa using D.1);clear D ho h1 hn J;have qn:=λ(w:World)=>Lib.run_eql_slice_nil (P:=Tryz.prog) w 25 144 none 0 0 0 0 Tryz.underlying25;go_enter Tryz.func55,Tryz.ntmps55;go_wp2_with fail;go_ret;exact⟨none,0,0,rfl,rfl,dD _ _ _ _,bu w none⟩
 |
  some I=>
  obtain⟨a,hi,M⟩:∃a,Tryz.prog.info? 144=some a/\(a.zero.map (λz=>z.cells.size),a.size,a.bytes)=(some 5,5,48):=by
   have:=NC
   cases hx:Tryz.prog.info? 144 with
   |none=>rw [hx] at this;cases this
   |some a=>rw [hx] at this;exact⟨a,rfl,by simpa using this⟩
  injection M with d M;injection M with E hz2;obtain⟨z,Y,G⟩:∃z,a.zero=some z/\z.cells.size=5:=by
   cases hx:a.zero with
   |none=>rw [hx] at d;cases d
   |some z=>rw [hx] at d;exact⟨z,rfl,by simpa using d⟩
  have Z:=ae hi;have N:=ae Y;have XT:=ae G;have O:=ae E;have R:=ae hz2;have HL:=ae D;have H1:=ae h1;have Yq:=ae ho;have h0:(0:Nat)<5:=(by omega);clear d E hz2 hi Y G D h1 ho;have qn:=λ(w:World)=>Lib.run_eql_slice_nil (P:=Tryz.prog) w 25 144 (some I) n c 0 0 Tryz.underlying25;go_enter Tryz.func55,Tryz.ntmps55
  go_wp2_with (first
   |(at_builtin;refine dH _ rfl (.tmp 5) (.tmp 6) _ rfl w.heap.size 144 a z 5 48 Tryz.underlying25 Z.o N.o O.o R.o XT.o h0 _ 0 [] rfl HE.o B (some I) n c xs rfl U.o (λe=>nomatch e) H1.o (by omega) (by omega) yx.o ?_;intro v2 w2 q V nz)
   |(
    refine iD rfl _ 144 rfl a Tryz.underlying25 Z.o ?_;intro w1 y;have HE:Hid (w1.ownsRow w.heap.size 144 5 (.slice (some ⟨w.heap.size,0,none⟩) 0 0) 0 []):=ae (by rw[y];exact zn w #[] 0 (au _) (ay _) (by simp));have X:Hid (w.grownBy w1 none):=ae (by rw[y];exact mg w _);have yx:Hid (w.heap.size<=w1.heap.size):=ae X.o.size;have U:Hid (Lies w1 B 5 (some I) n xs):=ae (HL.o.grown X.o hB nofun);clear y))
  go_ret;obtain⟨A',H,hv,_⟩:=ai q;exact⟨A',0+n,H,by rw[hv];rfl,by omega,by rw[<-hv];simpa using q,af X.o V (.inr ⟨_,rfl,au _⟩)⟩
theorem ND:(Tryz.prog.info? 147).map (λi=>(i.zero.map λz=>z.cells.size,i.size,i.bytes))=some (some 2,2,24):=by kernel_rfl
theorem Gs (w:World)(B:Nat)(A:Option Addr)(n c:Nat)(xs:List Value)(D:Lies w B 2 A n xs)(hB:B<=w.heap.size)(ho:A=none->c=0)(h1:∀u∈xs,u.oneCell'=true)
 (hn:n<=maxLen) (J:n*24<=140737488355328):
 Calls Tryz.prog 56 #[.slice A n c] w λe w'=>∃A' L H,e= .returned (.slice A' L H)/\L=n/\w'.ownsRow w.heap.size 147 2 (.slice A' L H) n xs/\w.grownBy w' none:=by
 cases A with
 |
  none=>
  obtain rfl:=ho rfl;obtain rfl:n=0:=by
   rcases oW n with h0|h0;exact h0
   . obtain⟨I,h,_⟩:=D.2 h0
     cases h
  obtain rfl:xs=[]:=mi (by simpa using D.1);clear D ho h1 hn J;have qn:=λ(w:World)=>Lib.run_eql_slice_nil (P:=Tryz.prog) w 26 147 none 0 0 0 0 Tryz.underlying26;go_enter Tryz.func56,Tryz.ntmps56;go_wp2_with fail;go_ret;exact⟨none,0,0,rfl,rfl,dD _ _ _ _,bu w none⟩
 |
  some I=>
  obtain⟨a,hi,M⟩:∃a,Tryz.prog.info? 147=some a/\(a.zero.map (λz=>z.cells.size),a.size,a.bytes)=(some 2,2,24):=by
   have:=ND
   cases hx:Tryz.prog.info? 147 with
   |none=>rw [hx] at this;cases this
   |some a=>rw [hx] at this;exact⟨a,rfl,by simpa using this⟩
  injection M with d M;injection M with E hz2;obtain⟨z,Y,G⟩:∃z,a.zero=some z/\z.cells.size=2:=by
   cases hx:a.zero with
   |none=>rw [hx] at d;cases d
   |some z=>rw [hx] at d;exact⟨z,rfl,by simpa using d⟩
  have Z:=ae hi;have N:=ae Y;have XT:=ae G;have O:=ae E;have R:=ae hz2;have HL:=ae D;have H1:=ae h1;have Yq:=ae ho;have h0:(0:Nat)<2:=(by omega);clear d E hz2 hi Y G D h1 ho;have qn:=λ(w:World)=>Lib.run_eql_slice_nil (P:=Tryz.prog) w 26 147 (some I) n c 0 0 Tryz.underlying26;go_enter Tryz.func56,Tryz.ntmps56
  go_wp2_with (first
   |(at_builtin;refine dH _ rfl (.tmp 5) (.tmp 6) _ rfl w.heap.size 147 a z 2 24 Tryz.underlying26 Z.o N.o O.o R.o XT.o h0 _ 0 [] rfl HE.o B (some I) n c xs rfl U.o (λe=>nomatch e) H1.o (by omega) (by omega) yx.o ?_;intro v2 w2 q V nz)
   |(
    refine iD rfl _ 147 rfl a Tryz.underlying26 Z.o ?_;intro w1 y;have HE:Hid (w1.ownsRow w.heap.size 147 2 (.slice (some ⟨w.heap.size,0,none⟩) 0 0) 0 []):=ae (by rw[y];exact zn w #[] 0 (au _) (ay _) (by simp));have X:Hid (w.grownBy w1 none):=ae (by rw[y];exact mg w _);have yx:Hid (w.heap.size<=w1.heap.size):=ae X.o.size;have U:Hid (Lies w1 B 2 (some I) n xs):=ae (HL.o.grown X.o hB nofun);clear y))
  go_ret;obtain⟨A',H,hv,_⟩:=ai q;exact⟨A',0+n,H,by rw[hv];rfl,by omega,by rw[<-hv];simpa using q,af X.o V (.inr ⟨_,rfl,au _⟩)⟩
theorem NF:(Tryz.prog.info? 150).map (λi=>(i.zero.map λz=>z.cells.size,i.size,i.bytes))=some (some 2,2,24):=by kernel_rfl
theorem Gt (w:World)(B:Nat)(A:Option Addr)(n c:Nat)(xs:List Value)(D:Lies w B 2 A n xs)(hB:B<=w.heap.size)(ho:A=none->c=0)(h1:∀u∈xs,u.oneCell'=true)
 (hn:n<=maxLen) (J:n*24<=140737488355328):
 Calls Tryz.prog 57 #[.slice A n c] w λe w'=>∃A' L H,e= .returned (.slice A' L H)/\L=n/\w'.ownsRow w.heap.size 150 2 (.slice A' L H) n xs/\w.grownBy w' none:=by
 cases A with
 |
  none=>
  obtain rfl:=ho rfl;obtain rfl:n=0:=by
   rcases oW n with h0|h0;exact h0
   . obtain⟨I,h,_⟩:=D.2 h0
     cases h
  obtain rfl:xs=[]:=mi (by simpa using D.1);clear D ho h1 hn J;have qn:=λ(w:World)=>Lib.run_eql_slice_nil (P:=Tryz.prog) w 27 150 none 0 0 0 0 Tryz.underlying27;go_enter Tryz.func57,Tryz.ntmps57;go_wp2_with fail;go_ret;exact⟨none,0,0,rfl,rfl,dD _ _ _ _,bu w none⟩
 |
  some I=>
  obtain⟨a,hi,M⟩:∃a,Tryz.prog.info? 150=some a/\(a.zero.map (λz=>z.cells.size),a.size,a.bytes)=(some 2,2,24):=by
   have:=NF
   cases hx:Tryz.prog.info? 150 with
   |none=>rw [hx] at this;cases this
   |some a=>rw [hx] at this;exact⟨a,rfl,by simpa using this⟩
  injection M with d M;injection M with E hz2;obtain⟨z,Y,G⟩:∃z,a.zero=some z/\z.cells.size=2:=by
   cases hx:a.zero with
   |none=>rw [hx] at d;cases d
   |some z=>rw [hx] at d;exact⟨z,rfl,by simpa using d⟩
  have Z:=ae hi;have N:=ae Y;have XT:=ae G;have O:=ae E;have R:=ae hz2;have HL:=ae D;have H1:=ae h1;have Yq:=ae ho;have h0:(0:Nat)<2:=(by omega);clear d E hz2 hi Y G D h1 ho;have qn:=λ(w:World)=>Lib.run_eql_slice_nil (P:=Tryz.prog) w 27 150 (some I) n c 0 0 Tryz.underlying27;go_enter Tryz.func57,Tryz.ntmps57
  go_wp2_with (first
   |(at_builtin;refine dH _ rfl (.tmp 5) (.tmp 6) _ rfl w.heap.size 150 a z 2 24 Tryz.underlying27 Z.o N.o O.o R.o XT.o h0 _ 0 [] rfl HE.o B (some I) n c xs rfl U.o (λe=>nomatch e) H1.o (by omega) (by omega) yx.o ?_;intro v2 w2 q V nz)
   |(
    refine iD rfl _ 150 rfl a Tryz.underlying27 Z.o ?_;intro w1 y;have HE:Hid (w1.ownsRow w.heap.size 150 2 (.slice (some ⟨w.heap.size,0,none⟩) 0 0) 0 []):=ae (by rw[y];exact zn w #[] 0 (au _) (ay _) (by simp));have X:Hid (w.grownBy w1 none):=ae (by rw[y];exact mg w _);have yx:Hid (w.heap.size<=w1.heap.size):=ae X.o.size;have U:Hid (Lies w1 B 2 (some I) n xs):=ae (HL.o.grown X.o hB nofun);clear y))
  go_ret;obtain⟨A',H,hv,_⟩:=ai q;exact⟨A',0+n,H,by rw[hv];rfl,by omega,by rw[<-hv];simpa using q,af X.o V (.inr ⟨_,rfl,au _⟩)⟩
theorem QN:(Tryz.prog.info? 9).map (λi=>(i.zero.map λz=>z.cells.size,i.size,i.bytes))=some (some 1,1,16):=by kernel_rfl
theorem Ji (w:World)(B:Nat)(A:Option Addr)(n c:Nat)(xs:List Value)(D:Lies w B 1 A n xs)(hB:B<=w.heap.size)(ho:A=none->c=0)(h1:∀u∈xs,u.oneCell'=true)
 (hn:n<=maxLen) (J:n*16<=140737488355328):
 Calls Tryz.prog 58 #[.slice A n c] w λe w'=>∃A' L H,e= .returned (.slice A' L H)/\L=n/\w'.ownsRow w.heap.size 9 1 (.slice A' L H) n xs/\w.grownBy w' none:=by
 cases A with
 |
  none=>
  obtain rfl:=ho rfl;obtain rfl:n=0:=by
   rcases oW n with h0|h0;exact h0
   . obtain⟨I,h,_⟩:=D.2 h0
     cases h
  obtain rfl:xs=[]:=mi (by simpa using D.1);clear D ho h1 hn J;have qn:=λ(w:World)=>Lib.run_eql_slice_nil (P:=Tryz.prog) w 28 9 none 0 0 0 0 Tryz.underlying28;go_enter Tryz.func58,Tryz.ntmps58;go_wp2_with fail;go_ret;exact⟨none,0,0,rfl,rfl,dD _ _ _ _,bu w none⟩
 |
  some I=>
  obtain⟨a,hi,M⟩:∃a,Tryz.prog.info? 9=some a/\(a.zero.map (λz=>z.cells.size),a.size,a.bytes)=(some 1,1,16):=by
   have:=QN
   cases hx:Tryz.prog.info? 9 with
   |none=>rw [hx] at this;cases this
   |some a=>rw [hx] at this;exact⟨a,rfl,by simpa using this⟩
  injection M with d M;injection M with E hz2;obtain⟨z,Y,G⟩:∃z,a.zero=some z/\z.cells.size=1:=by
   cases hx:a.zero with
   |none=>rw [hx] at d;cases d
   |some z=>rw [hx] at d;exact⟨z,rfl,by simpa using d⟩
  have Z:=ae hi;have N:=ae Y;have XT:=ae G;have O:=ae E;have R:=ae hz2;have HL:=ae D;have H1:=ae h1;have Yq:=ae ho;have h0:(0:Nat)<1:=(by omega);clear d E hz2 hi Y G D h1 ho;have qn:=λ(w:World)=>Lib.run_eql_slice_nil (P:=Tryz.prog) w 28 9 (some I) n c 0 0 Tryz.underlying28;go_enter Tryz.func58,Tryz.ntmps58
  go_wp2_with (first
   |(at_builtin;refine dH _ rfl (.tmp 5) (.tmp 6) _ rfl w.heap.size 9 a z 1 16 Tryz.underlying28 Z.o N.o O.o R.o XT.o h0 _ 0 [] rfl HE.o B (some I) n c xs rfl U.o (λe=>nomatch e) H1.o (by omega) (by omega) yx.o ?_;intro v2 w2 q V nz)
   |(
    refine iD rfl _ 9 rfl a Tryz.underlying28 Z.o ?_;intro w1 y;have HE:Hid (w1.ownsRow w.heap.size 9 1 (.slice (some ⟨w.heap.size,0,none⟩) 0 0) 0 []):=ae (by rw[y];exact zn w #[] 0 (au _) (ay _) (by simp));have X:Hid (w.grownBy w1 none):=ae (by rw[y];exact mg w _);have yx:Hid (w.heap.size<=w1.heap.size):=ae X.o.size;have U:Hid (Lies w1 B 1 (some I) n xs):=ae (HL.o.grown X.o hB nofun);clear y))
  go_ret;obtain⟨A',H,hv,_⟩:=ai q;exact⟨A',0+n,H,by rw[hv];rfl,by omega,by rw[<-hv];simpa using q,af X.o V (.inr ⟨_,rfl,au _⟩)⟩
theorem NG:(Tryz.prog.info? 154).map (λi=>(i.zero.map λz=>z.cells.size,i.size,i.bytes))=some (some 3,3,24):=by kernel_rfl
theorem Gu (w:World)(B:Nat)(A:Option Addr)(n c:Nat)(xs:List Value)(D:Lies w B 3 A n xs)(hB:B<=w.heap.size)(ho:A=none->c=0)(h1:∀u∈xs,u.oneCell'=true)
 (hn:n<=maxLen) (J:n*24<=140737488355328):
 Calls Tryz.prog 59 #[.slice A n c] w λe w'=>∃A' L H,e= .returned (.slice A' L H)/\L=n/\w'.ownsRow w.heap.size 154 3 (.slice A' L H) n xs/\w.grownBy w' none:=by
 cases A with
 |
  none=>
  obtain rfl:=ho rfl;obtain rfl:n=0:=by
   rcases oW n with h0|h0;exact h0
   . obtain⟨I,h,_⟩:=D.2 h0
     cases h
  obtain rfl:xs=[]:=mi (by simpa using D.1);clear D ho h1 hn J;have qn:=λ(w:World)=>Lib.run_eql_slice_nil (P:=Tryz.prog) w 29 154 none 0 0 0 0 Tryz.underlying29;go_enter Tryz.func59,Tryz.ntmps59;go_wp2_with fail;go_ret;exact⟨none,0,0,rfl,rfl,dD _ _ _ _,bu w none⟩
 |
  some I=>
  obtain⟨a,hi,M⟩:∃a,Tryz.prog.info? 154=some a/\(a.zero.map (λz=>z.cells.size),a.size,a.bytes)=(some 3,3,24):=by
   have:=NG
   cases hx:Tryz.prog.info? 154 with
   |none=>rw [hx] at this;cases this
   |some a=>rw [hx] at this;exact⟨a,rfl,by simpa using this⟩
  injection M with d M;injection M with E hz2;obtain⟨z,Y,G⟩:∃z,a.zero=some z/\z.cells.size=3:=by
   cases hx:a.zero with
   |none=>rw [hx] at d;cases d
   |some z=>rw [hx] at d;exact⟨z,rfl,by simpa using d⟩
  have Z:=ae hi;have N:=ae Y;have XT:=ae G;have O:=ae E;have R:=ae hz2;have HL:=ae D;have H1:=ae h1;have Yq:=ae ho;have h0:(0:Nat)<3:=(by omega);clear d E hz2 hi Y G D h1 ho;have qn:=λ(w:World)=>Lib.run_eql_slice_nil (P:=Tryz.prog) w 29 154 (some I) n c 0 0 Tryz.underlying29;go_enter Tryz.func59,Tryz.ntmps59
  go_wp2_with (first
   |(at_builtin;refine dH _ rfl (.tmp 5) (.tmp 6) _ rfl w.heap.size 154 a z 3 24 Tryz.underlying29 Z.o N.o O.o R.o XT.o h0 _ 0 [] rfl HE.o B (some I) n c xs rfl U.o (λe=>nomatch e) H1.o (by omega) (by omega) yx.o ?_;intro v2 w2 q V nz)
   |(
    refine iD rfl _ 154 rfl a Tryz.underlying29 Z.o ?_;intro w1 y;have HE:Hid (w1.ownsRow w.heap.size 154 3 (.slice (some ⟨w.heap.size,0,none⟩) 0 0) 0 []):=ae (by rw[y];exact zn w #[] 0 (au _) (ay _) (by simp));have X:Hid (w.grownBy w1 none):=ae (by rw[y];exact mg w _);have yx:Hid (w.heap.size<=w1.heap.size):=ae X.o.size;have U:Hid (Lies w1 B 3 (some I) n xs):=ae (HL.o.grown X.o hB nofun);clear y))
  go_ret;obtain⟨A',H,hv,_⟩:=ai q;exact⟨A',0+n,H,by rw[hv];rfl,by omega,by rw[<-hv];simpa using q,af X.o V (.inr ⟨_,rfl,au _⟩)⟩
