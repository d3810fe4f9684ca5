/- Words. -/
import Derived.Test.YtfbkkgfkhhibfaaGreatFct
import Derived.Test.YtfbkkgfkhhibfaaGreatProg
import Derived.Test.YtfbkkgfkhhibfaaGreatPl
import Derived.WalkLawsBesides
import Derived.WalkSpells
import Derived.Deep.QuietTactic
import Derived.BigQuiet
import Derived.Deep.DeepFit
import Derived.Deep.DeepCutAuto
import Derived.Laws.StructEq
import Derived.Great.BuildSlice
set_option linter.unusedVariables false
set_option maxRecDepth 100000
set_option maxHeartbeats 8000000
namespace Iv
open Go Go.RowKit
def bv (b:UInt8):Value:= .int .u8 (b.toNat:Int)
def iv (n:Int):Value:= .int .i64 n
theorem zu {α:Type}{xs:List α}{k:Nat}{x:α}(h:xs[k]?=some x):xs.take (k+1)=xs.take k++[x]:=by obtain⟨a,rfl⟩:=bV.1 h;exact List.take_succ_eq_append_getElem a
theorem gJ {a b:Bool}(h:a=b):Ending.returned (.bool a)= .returned (.bool b):=by rw[h]
theorem bJ {k:IntKind}{a b:Int}(h:a=b):Ending.returned (.int k a)= .returned (.int k b):=by rw[h]
theorem pJ (l:Bytes):∀u∈l.map bv,u.oneCell'=true:=by intro u a;obtain⟨b,_,rfl⟩:=iV.1 a;rfl
theorem Lies.byte {w:World}{B n k:Nat}{A:Option Addr}{xs:Bytes}(h:Lies w B 1 A n (xs.map bv))(hk:k<n):
 ∃a x,A=some a/\a.block<B/\xs[k]?=some x/\w.cell? (a.add k)=some (.int .u8 (x.toNat:Int)):=by obtain⟨a,u,rfl,hb,hx,hc⟩:=h.cellAt hk;simp only[bK,mX] at hx;obtain⟨x,hx,rfl⟩:=hx;exact⟨a,x,rfl,hb,hx,hc⟩
theorem Lies.int {w:World}{B n k:Nat}{A:Option Addr}{xs:List Int}(h:Lies w B 1 A n (xs.map iv))(hk:k<n):
 ∃a x,A=some a/\a.block<B/\xs[k]?=some x/\w.cell? (a.add k)=some (.int .i64 x):=by obtain⟨a,u,rfl,hb,hx,hc⟩:=h.cellAt hk;simp only[bK,mX] at hx;obtain⟨x,hx,rfl⟩:=hx;exact⟨a,x,rfl,hb,hx,hc⟩
theorem Lies.lenB {w:World}{B n:Nat}{A:Option Addr}{xs:Bytes}(h:Lies w B 1 A n (xs.map bv)):xs.length=n:=by simpa using h.1
theorem Lies.lenI {w:World}{B n:Nat}{A:Option Addr}{xs:List Int}(h:Lies w B 1 A n (xs.map iv)):xs.length=n:=by simpa using h.1
end Iv
namespace Go.Proofs.YtfbkkgfkhhibfaaGreat
open Go
theorem lC:(Tryz.prog.info? 5).map (λi=>(i.zero,i.size,i.bytes))=some (some (.int .u8 0),1,1):=by kernel_rfl
theorem Eg:(Tryz.prog.info? 3).map (λi=>(i.zero,i.size,i.bytes))=some (some (.int .i64 0),1,8):=by kernel_rfl
end Go.Proofs.YtfbkkgfkhhibfaaGreat
namespace Iv
open Go Go.RowKit
theorem ay {w w':World}{base e sz n:Nat}{row:Option Nat}{v:Value}{xs:List Value}(h:w.ownsRow base e sz v n xs)(hg:w.grownBy w' row)(a:∀g,v.ownBlock=some g->row≠some g):w'.ownsRow base e sz v n xs:=by refine⟨h.1,?_⟩;rcases h.2 with h2|⟨b,cap,cur,rfl,hb,hh,h3⟩;exact .inl h2;refine .inr ⟨b,cap,cur,rfl,hb,?_,h3⟩;exact (hg.block b (iU.1 hh).1 (λe=>a b rfl e.symm)).trans hh
section
variable {P : Program} (w : World)
theorem uH {ops:Array Oper}{o:Oper}{a:Act}{K:Act->World->Prop}{Q:Exit->Act->World->Prop}{E:Prop}(hg:o.guard=none)(s x:Operand)(t:TypeId)
 (J:o.op=Op.call { callee:=Callee.builtin Builtin.append,args:=#[s,x],argTypes:=#[t,t] })
 (base:Nat) (e:TypeId) (i:TypeInfo) (z:Value) (size bytes:Nat) (X:P.underlying t=some (.slice e)) (hi:P.info? e=some i) (Y:i.zero=some z)
 (D:i.size=size) (L:i.bytes=bytes) (O:z.cells.size=size) (U:0<size)
 (v:Value) (n:Nat) (xs:List Value) (hs:a.eval s=v) (H:w.ownsRow base e size v n xs)
 (B:Nat) (A:Option Addr) (m c:Nat) (news:List Value) (hx:a.eval x= .slice A m c) (hr:Lies w B size A m news) (ho:A=none->c=0) (h1:∀u∈news,u.oneCell'=true)
 (V:n+m<=maxLen) (y:(n+m)* bytes<=140737488355328) (G:base<=w.heap.size)
 (Z:∀v' w',w'.ownsRow base e size v' (n+m) (xs++news)->w.grownBy w' v.ownBlock->At w v.ownBlock v'.ownBlock->K (a.put o.dst v') w'):
 if Region.wanted o (yielded ops a.tmps)=true then Oper.wp P o a w K Q else E:=by have hw:Region.wanted o (yielded ops a.tmps)=true:=(by simp[Region.wanted,hg]);rw[if_pos hw];obtain⟨v',w',I,r1,r2,r3⟩:=Oi (P:=P) w base t o.type e i z size bytes X hi Y D L O U v n xs H B A m c news hr ho h1 V y G;unfold Oper.wp;simp[execOp,J,resolve,invoke,builtin,hs,hx,I,Result.andThen];exact Z _ _ r1 r2 r3
end
section
variable {P : Program} (w : World)
end
theorem Ho (w:World)(u u2:Value)(e:TypeId):∀j a,[u,u2][j]?=some a->(w.alloc (.cells #[u,u2] e)).cell? ((⟨w.heap.size,0,none⟩:Addr).add j)=some a:=by intro j a h;have y:j<2:=(bV.1 h).1;rcases (show j=0\/j=1 by omega) with rfl|rfl;simp at h;subst h;simp[Addr.add];simp at h;subst h;simp[Addr.add]
theorem ahZ {u u2:Value}(h:u.oneCell'=true)(h2:u2.oneCell'=true):∀x∈ [u,u2],x.oneCell'=true:=by intro x hx;simp at hx;rcases hx with rfl|rfl;exact h;exact h2
def FT (p:Bytes):Bytes:=if 0<p.length then UInt8.ofNat (p.length-1)::p else []
theorem Ns {b:Bytes}{f e:Nat}(hf:f<=e)(he:e<=b.length):FT ((b.take e).drop f)=lit b f e:=by unfold FT lit;have a:((b.take e).drop f).length=e-f:=(by simp;omega);rw[a];by_cases h:f<e;rw[if_pos (by omega),if_pos h];rw[if_neg (by omega),if_neg h]
theorem UX {b:Bytes}{f i:Nat}{x:UInt8}(hf:f<=i)(hx:b[i]?=some x):(b.take (i+1)).drop f=(b.take i).drop f++[x]:=by have a:i<b.length:=(bV.1 hx).1;rw[zu hx,List.drop_append_of_le_length (by simp;omega)]
def Apart (v p:Value):Prop:=∀g,v.ownBlock=some g->p.ownBlock≠some g
theorem Apart.nil (v:Value):Apart v (.slice none 0 0):=λg _ h=>nomatch h
theorem Apart.symm {v p:Value}(h:Apart v p):Apart p v:=λg h1 h2=>h g h2 h1
theorem Apart.step {w:World}{base e sz n:Nat}{xs:List Value}{v p v':Value}(h:Apart v p)(u:w.ownsRow base e sz p n xs)(a:At w v.ownBlock v'.ownBlock):Apart v' p:=by intro g h1 h2;have y:=(u.lt g h2).2;rcases a with h3|⟨g',h3,h4⟩;exact h g (h3▸h1) h2;rw[h1] at h3;injection h3 with h3;omega
theorem wI {w w':World}{base e sz n:Nat}{xs:List Value}{v p:Value}(h:Apart v p)(a:w.ownsRow base e sz p n xs)(hg:w.grownBy w' v.ownBlock):w'.ownsRow base e sz p n xs:=
 ay a hg λg h1 h2=>h g h2 h1
structure PkInv (ts ti te:TypeId)(w:World)(gb go gf base:Nat)(A:Option Addr)(n c f:Nat)(ys:Bytes)(v:Value)(wr:World):Prop where
 hb:Held wr gb ts #[.slice A n c]
 ho:Held wr go ts #[v]
 hf:Held wr gf ti #[.int .i64 (f:Int)]
 own:wr.ownsRow base te 1 v ys.length (ys.map bv)
 grown:w.grownBy wr none
 lo:w.heap.size<=gb/\w.heap.size<=go/\w.heap.size<=gf
 hi:gb<base/\go<base/\gf<base
 ne:gb≠go/\gb≠gf/\go≠gf
section
variable {ts ti te : TypeId} {w wr w1 : World} {gb go gf base n c f : Nat} {A : Option Addr} {ys zs : Bytes} {v v1 : Value}
theorem PkInv.drewN (h:PkInv ts ti te w gb go gf base A n c f ys v wr)(q:Nat):PkInv ts ti te w gb go gf base A n c f ys v (wr.drewN q):=
 ⟨h.hb.drewN q,h.ho.drewN q,h.hf.drewN q,ay h.own (aT (bI wr none) q) nofun,aT h.grown q,h.lo,h.hi,h.ne⟩
theorem PkInv.drew (h:PkInv ts ti te w gb go gf base A n c f ys v wr):PkInv ts ti te w gb go gf base A n c f ys v wr.drew:=
 ⟨h.hb.drew,h.ho.drew,h.hf.drew,ay h.own (aI (bI wr none)) nofun,aI h.grown,h.lo,h.hi,h.ne⟩
theorem PkInv.push (h:PkInv ts ti te w gb go gf base A n c f ys v wr)(u:w1.ownsRow base te 1 v1 zs.length (zs.map bv))(hg:wr.grownBy w1 v.ownBlock):
 PkInv ts ti te w gb go gf base A n c f zs v1 (w1.setCell ⟨go,0,none⟩ v1):=by have E:∀g,v.ownBlock=some g->base<=g:=λg e=>(h.own.lt g e).1;have y:∀g,v1.ownBlock=some g->base<=g:=λg e=>(u.lt g e).1;have a:∀b,b<base->some b≠v.ownBlock:=(λb hb e=>by have:=E b e.symm;omega);obtain⟨l1,l2,l3⟩:=h.lo;obtain⟨G,H,I⟩:=h.hi;obtain⟨n1,n2,n3⟩:=h.ne;refine⟨(h.hb.grown hg (a _ G)).far (λe=>n1 e) v1,?_,(h.hf.grown hg (a _ I)).far (λe=>n3 e.symm) v1,?_,?_,h.lo,h.hi,h.ne⟩;have:=(h.ho.grown hg (a _ H)).store 0 v1;simpa using this;exact ay u (ah w1 go 0 v1) (λg e D=>by have:=y g e;injection D with D;omega);refine⟨hg.os.trans h.grown.os,hg.tape.trans h.grown.tape,hg.output.trans h.grown.output,?_,λk hk B=>?_⟩;have:=hg.size;have:=h.grown.size;simp[World.setCell];omega;refine ((ah w1 go 0 v1).block k ?_ (λe=>by injection e with e;omega)).trans ((hg.block k (lJ hk h.grown.size) (a k (by omega))).trans (h.grown.block k hk B));have:=hg.size;have:=h.grown.size;omega
theorem PkInv.seen (h:PkInv ts ti te w gb go gf base A n c f ys v wr)(hg:wr.grownBy w1 v.ownBlock):
 w1.cell? ⟨gb,0,none⟩=some (.slice A n c)/\w1.cell? ⟨go,0,none⟩=some v/\w1.cell? ⟨gf,0,none⟩=some (.int .i64 (f:Int))/\w1.frozen? ⟨go,0,none⟩=false/\w1.frozen? ⟨gf,0,none⟩=false:=by have u:∀g,v.ownBlock=some g->base<=g:=λg e=>(h.own.lt g e).1;have a:∀b,b<base->some b≠v.ownBlock:=(λb hb e=>by have:=u b e.symm;omega);obtain⟨y,B,D⟩:=h.hi;have a1:=h.hb.grown hg (a _ y);have a2:=h.ho.grown hg (a _ B);have a3:=h.hf.grown hg (a _ D);exact⟨a1.cell 0,a2.cell 0,a3.cell 0,a2.free 0,a3.free 0⟩
theorem PkInv.cells (h:PkInv ts ti te w gb go gf base A n c f ys v wr):
 wr.cell? ⟨gb,0,none⟩=some (.slice A n c)/\wr.cell? ⟨go,0,none⟩=some v/\wr.cell? ⟨gf,0,none⟩=some (.int .i64 (f:Int))/\wr.frozen? ⟨go,0,none⟩=false/\wr.frozen? ⟨gf,0,none⟩=false:=
 h.seen (bI wr _)
theorem PkInv.first (h:PkInv ts ti te w gb go gf base A n c f ys v wr)(e:Nat):PkInv ts ti te w gb go gf base A n c e ys v (wr.setCell ⟨gf,0,none⟩ (.int .i64 (e:Int))):=by obtain⟨l1,l2,l3⟩:=h.lo;obtain⟨u,y,B⟩:=h.hi;obtain⟨n1,n2,n3⟩:=h.ne;refine⟨h.hb.far (λe=>n2 e) _,h.ho.far (λe=>n3 e) _,?_,ay h.own (ah wr gf 0 _) (λg e a=>by have:=(h.own.lt g e).1;injection a with a;omega),?_,h.lo,h.hi,h.ne⟩;have:=h.hf.store 0 (.int .i64 (e:Int));simpa using this;exact af h.grown (ah wr gf 0 _) (.inr ⟨gf,rfl,l3⟩)
end
structure UnAt (te:TypeId)(w:World)(base:Nat)(most:Int)(xs:Bytes)(k:Nat)(ys:Bytes)(v:Value)(wr:World):Prop where
 own:wr.ownsRow base te 1 v ys.length (ys.map bv)
 grown:w.grownBy wr none
 at_:At w none v.ownBlock
 len:ys.length<=130*k
 room:ys=[]\/(ys.length:Int)<=most
 eq:unp most (xs.drop k) ys=unpack xs most
theorem drop_cons {xs:Bytes}{k:Nat}{x:UInt8}(hx:xs[k]?=some x):xs.drop k=x::xs.drop (k+1):=by obtain⟨u,a⟩:=bV.1 hx;rw[oG u,a]
section
variable {te : TypeId} {w wr w1 : World} {base k : Nat} {most : Int} {xs ys zs : Bytes} {v v1 : Value}
theorem UnAt.start (te:TypeId)(w:World)(base:Nat)(most:Int)(xs:Bytes):UnAt te w base most xs 0 [] (.slice none 0 0) w:=
 ⟨dU _ _ _ _,bI w none,.inl rfl,aG _,.inl rfl,rfl⟩
theorem UnAt.done (h:UnAt te w base most xs k ys v wr)(hk:xs.length<=k):unpack xs most=(ys,0):=by have:=h.eq;rw[ku hk,IM] at this;exact this.symm
theorem UnAt.lit {x:UInt8}(h:UnAt te w base most xs k ys v wr)(hx:xs[k]?=some x)(a:x.toNat<128):
 unpack xs most=if xs.length-(k+1)<x.toNat+1 then ([],9) else if most<(ys.length:Int)+x.toNat+1 then ([],2) else unp most (xs.drop (k+x.toNat+2)) (ys++(xs.drop (k+1)).take (x.toNat+1)):=by rw[<-h.eq,drop_cons hx,IP a,qp,ED];rw[show k+1+(x.toNat+1)=k+x.toNat+2 from by omega]
theorem UnAt.litNext {x:UInt8}(h:UnAt te w base most xs k ys v wr)(hx:xs[k]?=some x)(B:x.toNat<128)(h1:k+x.toNat+2<=xs.length)(h2:(ys.length:Int)+x.toNat+1<=most)
 (a:w1.ownsRow base te 1 v1 (ys.length+(x.toNat+1)) (ys.map bv++((xs.drop (k+1)).take (x.toNat+1)).map bv)) (hg:wr.grownBy w1 v.ownBlock) (u:At wr v.ownBlock v1.ownBlock):
 UnAt te w base most xs (k+x.toNat+2) (ys++(xs.drop (k+1)).take (x.toNat+1)) v1 w1:=by have y:(ys++(xs.drop (k+1)).take (x.toNat+1)).length=ys.length+(x.toNat+1):=(by simp;omega);refine⟨?_,af h.grown hg h.at_,h.at_.trans u h.grown.size,?_,.inr ?_,?_⟩;rw[y,eU];exact a;rw[y];have:=h.len;omega;rw[y];omega;have:=h.lit hx B;rw[if_neg (by omega),if_neg (by omega)] at this;exact this.symm
theorem UnAt.one {x:UInt8}(h:UnAt te w base most xs k ys v wr)(hx:xs[k]?=some x)(a:128<=x.toNat)(u:xs.length<=k+1):unpack xs most=([],9):=by rw[<-h.eq,drop_cons hx,ku u,Ti a]
theorem UnAt.copy {x d:UInt8}(h:UnAt te w base most xs k ys v wr)(hx:xs[k]?=some x)(a:128<=x.toNat)(u:xs[k+1]?=some d):
 unpack xs most=if d.toNat=0\/ys.length<d.toNat then ([],11) else if most<(ys.length:Int)+x.toNat-125 then ([],2) else unp most (xs.drop (k+2)) (copyOut ys d.toNat (x.toNat-125)):=by rw[<-h.eq,drop_cons hx,drop_cons u,Dq a]
theorem UnAt.copyNext {x d:UInt8}(h:UnAt te w base most xs k ys v wr)(hx:xs[k]?=some x)(D:128<=x.toNat)(E:xs[k+1]?=some d)(h0:¬(d.toNat=0\/ys.length<d.toNat))(h2:(ys.length:Int)+x.toNat-125<=most)
 (y:zs=copyOut ys d.toNat (x.toNat-125)) (a:w1.ownsRow base te 1 v1 zs.length (zs.map bv)) (hg:w.grownBy w1 none) (u:At w none v1.ownBlock):
 UnAt te w base most xs (k+2) zs v1 w1:=by have B:zs.length=ys.length+(x.toNat-125):=(by rw[y,zS]);have G:=kM x;refine⟨a,hg,u,?_,.inr ?_,?_⟩;rw[B];have:=h.len;omega;rw[B];omega;have:=h.copy hx D E;rw[if_neg h0,if_neg (by omega)] at this;rw[y];exact this.symm
end
theorem acu {most:Int}(n:Nat):∀(l out:Bytes),l.length=n->(unp most l out).1.length<=out.length+130*n:=by
 induction n using Nat.strongRecOn with
 |
  _ n ih=>
  intro l out hn
  match l with
  | []=>rw [IM];simp
  |
   x::t=>
   simp only[iO] at hn;have a:=kM x;by_cases y:x.toNat<128;rw[IP y];split;simp;split;simp;rename_i h1 _;have:=ih (t.drop (x.toNat+1)).length (by simp;omega) (t.drop (x.toNat+1)) (out++t.take (x.toNat+1)) rfl;simp only[bG,qp,mZ] at this;omega
   . match t with
     | []=>rw [Ti (by omega)];simp
     |
      d::u=>
      rw[Dq (by omega)];split;simp;split;simp;have:=ih u.length (by simp at hn;omega) u (copyOut out d.toNat (x.toNat-125)) rfl;rw[zS] at this;simp only[iO] at hn;omega
theorem PN (l:Bytes)(most:Int):(unpack l most).1.length<=130*l.length:=by have:=acu (most:=most) _ l [] rfl;unfold unpack;simpa using this
structure CpAt (te:TypeId)(w:World)(base:Nat)(ys:Bytes)(d N j:Nat)(zs:Bytes)(v:Value)(wr:World):Prop where
 own:wr.ownsRow base te 1 v zs.length (zs.map bv)
 grown:w.grownBy wr none
 at_:At w none v.ownBlock
 len:zs.length=ys.length+j
 le:j<=N
 eq:copyOut zs d (N-j)=copyOut ys d N
section
variable {te : TypeId} {w wr w1 : World} {base d N j : Nat} {ys zs : Bytes} {v v1 : Value}
theorem CpAt.get (h:CpAt te w base ys d N j zs v wr)(u:1<=d)(a:d<=ys.length):∃y,zs[zs.length-d]?=some y:=by have:=h.len;exact⟨_,aV (by omega)⟩
theorem CpAt.next {y:UInt8}(h:CpAt te w base ys d N j zs v wr)(B:j<N)(D:zs[zs.length-d]?=some y)
 (a:w1.ownsRow base te 1 v1 (zs.length+1) (zs.map bv++[bv y])) (hg:wr.grownBy w1 v.ownBlock) (u:At wr v.ownBlock v1.ownBlock):
 CpAt te w base ys d N (j+1) (zs++[y]) v1 w1:=by refine⟨?_,af h.grown hg h.at_,h.at_.trans u h.grown.size,by rw[bG,h.len];rfl,B,?_⟩;rw[bG,eU];exact a;rw[<-h.eq,show N-j=(N-(j+1))+1 from by omega,copyOut,D];rfl
theorem CpAt.done (h:CpAt te w base ys d N j zs v wr)(a:N<=j):zs=copyOut ys d N:=by have:=h.eq;rw[show N-j=0 from by omega] at this;exact this
end
end Iv
namespace Go.Proofs.YtfbkkgfkhhibfaaGreat
open Go Go.RowKit Iv
def evV (e:Ev)(Ad:Option Addr)(nd cd:Nat)(Af:Option Addr)(nf cf:Nat):Array Value:=
 #[.int .i64 e.thread,.int .i64 e.kind,.int .i64 e.obj,.int .i64 e.value,.int .i64 e.site,.slice Ad nd cd,.slice Af nf cf]
def Evs (w:World)(B:Nat)(A:Option Addr)(n:Nat)(l:List Ev):Prop:=
 l.length=n/\∀k e,l[k]?=some e->∃(b o:Nat) (Ad:Option Addr) (cd:Nat) (Af:Option Addr) (cf:Nat),A=some ⟨b,o,none⟩/\b<B/\
  (∀j u,(#[.int .i64 e.thread,.int .i64 e.kind,.int .i64 e.obj,.int .i64 e.value,.int .i64 e.site,.slice Ad e.deps.length cd,.slice Af e.from_.length cf]:Array Value)[j]?=some u->w.cell? ⟨b,o+k*7+j,none⟩=some u)/\Lies w B 1 Ad e.deps.length (e.deps.map iv)/\Lies w B 1 Af e.from_.length (e.from_.map iv)
theorem Evs.grown {w w':World}{B n:Nat}{A:Option Addr}{l:List Ev}{row:Option Nat}(h:Evs w B A n l)(hg:w.grownBy w' row)(hB:B<=w.heap.size)(hr:∀g,row=some g->B<=g):Evs w' B A n l:=
 ⟨h.1,λk e he=>by
  obtain⟨b,o,Ad,cd,Af,cf,a,hb,d,y,D⟩:=h.2 k e he
  have hk:∀j,w'.cell? ⟨b,j,none⟩=w.cell? ⟨b,j,none⟩:=λj=>lW (hg.block b (by omega) (λe=>by have:=hr _ e.symm;omega))
  exact⟨b,o,Ad,cd,Af,cf,a,hb,λj u E=>by rw[hk];exact d j u E,y.grown hg hB hr,D.grown hg hB hr⟩⟩
theorem Evs.at {w:World}{B n k:Nat}{A:Option Addr}{l:List Ev}(h:Evs w B A n l)(hk:k<n):
 ∃(b o:Nat) (e:Ev) (Ad:Option Addr) (cd:Nat) (Af:Option Addr) (cf:Nat),A=some ⟨b,o,none⟩/\b<B/\l[k]?=some e/\
  w.cell? ⟨b,o+k*7,none⟩=some (.int .i64 e.thread)/\w.cell? ⟨b,o+k*7+1,none⟩=some (.int .i64 e.kind)/\w.cell? ⟨b,o+k*7+2,none⟩=some (.int .i64 e.obj)/\w.cell? ⟨b,o+k*7+3,none⟩=some (.int .i64 e.value)/\
  w.cell? ⟨b,o+k*7+4,none⟩=some (.int .i64 e.site)/\w.cell? ⟨b,o+k*7+5,none⟩=some (.slice Ad e.deps.length cd)/\w.cell? ⟨b,o+k*7+6,none⟩=some (.slice Af e.from_.length cf)/\
  Lies w B 1 Ad e.deps.length (e.deps.map iv)/\Lies w B 1 Af e.from_.length (e.from_.map iv):=by have d:k<l.length:=(by rw[h.1];exact hk);obtain⟨b,o,Ad,cd,Af,cf,u,hb,a,y,D⟩:=h.2 k l[k] (aV d);exact⟨b,o,l[k],Ad,cd,Af,cf,u,hb,aV d,a 0 _ rfl,a 1 _ rfl,a 2 _ rfl,a 3 _ rfl,a 4 _ rfl,a 5 _ rfl,a 6 _ rfl,y,D⟩
structure In1 (w:World)(B sz bytes:Nat)(A:Option Addr)(n c:Nat)(X:List Value):Prop where
 lies:Lies w B sz A n X
 none_:A=none->c=0
 one:∀u∈X,u.oneCell'=true
 cap:n<=maxLen
 bytes_:n*bytes<=140737488355328
theorem In1.grown {w w':World}{B sz bytes n c:Nat}{A:Option Addr}{X:List Value}(h:In1 w B sz bytes A n c X)(hg:w.grownBy w' none)(hB:B<=w.heap.size):In1 w' B sz bytes A n c X:=
 ⟨h.lies.grown hg hB nofun,h.none_,h.one,h.cap,h.bytes_⟩
def AtCell (X:List Value)(k:Nat):Prop:=∃(s:ByteArray) (a b:Int) (d:Bool) (e:Int),X[k*5+0]?=some (.string s)/\X[k*5+1]?=some (.int .i64 a)/\X[k*5+2]?=some (.int .i64 b)/\X[k*5+3]?=some (.bool d)/\X[k*5+4]?=some (.int .i64 e)
def AtLock (X:List Value)(k:Nat):Prop:=∃(s:ByteArray) (d:Bool),X[k*2+0]?=some (.string s)/\X[k*2+1]?=some (.bool d)
def AtCond (X:List Value)(k:Nat):Prop:=∃(s:ByteArray) (a:Int),X[k*2+0]?=some (.string s)/\X[k*2+1]?=some (.int .i64 a)
def AtStr (X:List Value)(k:Nat):Prop:=∃(s:ByteArray),X[k*1+0]?=some (.string s)
def AtSite (X:List Value)(k:Nat):Prop:=∃(a b e:Int),X[k*3+0]?=some (.int .i64 a)/\X[k*3+1]?=some (.int .i64 b)/\X[k*3+2]?=some (.int .i64 e)
structure WIn (w:World)(B:Nat)(A0:Option Addr)(n0 c0:Nat)(X0:List Value)(A1:Option Addr)(n1 c1:Nat)(X1:List Value)(A2:Option Addr)(n2 c2:Nat)(X2:List Value)(A3:Option Addr)(n3 c3:Nat)(X3:List Value)(A4:Option Addr)(n4 c4:Nat)(X4:List Value)(A5:Option Addr)(n5 c5:Nat)(X5:List Value):Prop where
 h0:In1 w B 5 48 A0 n0 c0 X0
 h1:In1 w B 2 24 A1 n1 c1 X1
 h2:In1 w B 2 24 A2 n2 c2 X2
 h3:In1 w B 1 16 A3 n3 c3 X3
 h4:In1 w B 1 16 A4 n4 c4 X4
 h5:In1 w B 3 24 A5 n5 c5 X5
 s0:∀k,k<n0->AtCell X0 k
 s1:∀k,k<n1->AtLock X1 k
 s2:∀k,k<n2->AtCond X2 k
 s3:∀k,k<n3->AtStr X3 k
 s4:∀k,k<n4->AtStr X4 k
 s5:∀k,k<n5->AtSite X5 k
 a0:0<n0->∃b o,A0=some ⟨b,o,none⟩
 a1:0<n1->∃b o,A1=some ⟨b,o,none⟩
 a2:0<n2->∃b o,A2=some ⟨b,o,none⟩
 a3:0<n3->∃b o,A3=some ⟨b,o,none⟩
 a4:0<n4->∃b o,A4=some ⟨b,o,none⟩
 a5:0<n5->∃b o,A5=some ⟨b,o,none⟩
theorem WIn.grown {w w':World}{B:Nat}{A0:Option Addr}{n0 c0:Nat}{X0:List Value}{A1:Option Addr}{n1 c1:Nat}{X1:List Value}{A2:Option Addr}{n2 c2:Nat}{X2:List Value}{A3:Option Addr}{n3 c3:Nat}{X3:List Value}{A4:Option Addr}{n4 c4:Nat}{X4:List Value}{A5:Option Addr}{n5 c5:Nat}{X5:List Value}(h:WIn w B A0 n0 c0 X0 A1 n1 c1 X1 A2 n2 c2 X2 A3 n3 c3 X3 A4 n4 c4 X4 A5 n5 c5 X5)(hg:w.grownBy w' none)(hB:B<=w.heap.size):WIn w' B A0 n0 c0 X0 A1 n1 c1 X1 A2 n2 c2 X2 A3 n3 c3 X3 A4 n4 c4 X4 A5 n5 c5 X5:=
 ⟨h.h0.grown hg hB,h.h1.grown hg hB,h.h2.grown hg hB,h.h3.grown hg hB,h.h4.grown hg hB,h.h5.grown hg hB,h.s0,h.s1,h.s2,h.s3,h.s4,h.s5,h.a0,h.a1,h.a2,h.a3,h.a4,h.a5⟩
theorem In1.more {w:World}{B a sz bytes n c:Nat}{A:Option Addr}{X:List Value}(h:In1 w B sz bytes A n c X)(hB:B<=a):In1 w a sz bytes A n c X:=⟨h.lies.more hB,h.none_,h.one,h.cap,h.bytes_⟩
theorem WIn.more {w:World}{B a:Nat}{A0:Option Addr}{n0 c0:Nat}{X0:List Value}{A1:Option Addr}{n1 c1:Nat}{X1:List Value}{A2:Option Addr}{n2 c2:Nat}{X2:List Value}{A3:Option Addr}{n3 c3:Nat}{X3:List Value}{A4:Option Addr}{n4 c4:Nat}{X4:List Value}{A5:Option Addr}{n5 c5:Nat}{X5:List Value}(h:WIn w B A0 n0 c0 X0 A1 n1 c1 X1 A2 n2 c2 X2 A3 n3 c3 X3 A4 n4 c4 X4 A5 n5 c5 X5)(hB:B<=a):WIn w a A0 n0 c0 X0 A1 n1 c1 X1 A2 n2 c2 X2 A3 n3 c3 X3 A4 n4 c4 X4 A5 n5 c5 X5:=
 ⟨h.h0.more hB,h.h1.more hB,h.h2.more hB,h.h3.more hB,h.h4.more hB,h.h5.more hB,h.s0,h.s1,h.s2,h.s3,h.s4,h.s5,h.a0,h.a1,h.a2,h.a3,h.a4,h.a5⟩
structure Two (w:World)(B sz:Nat)(A A':Option Addr)(n:Nat)(X:List Value):Prop where
 l:Lies w B sz A n X
 l':Lies w B sz A' n X
 a:0<n->∃b o,A=some ⟨b,o,none⟩
 a':0<n->∃b o,A'=some ⟨b,o,none⟩
theorem OT (c:Nat)(h:c<4294967296):bits .and .u32 (c:Int) 1=((c%2:Nat):Int):=by have:=u32_and_nat c 1 h (by omega);rw[nat_mask1] at this;exact this
theorem Z9 (A:Option Addr)(n c:Nat)(xs:Bytes)(w:World)(B:Nat)(h:Lies w B 1 A n (xs.map bv))(hn:n<=1000000000000):
 Calls Tryz.prog 114 #[.slice A n c] w λe w'=>e= .returned (.int .u32 (Dn xs:Nat))/\w=w':=by
 have U:=ae h.lenB;go_enter Tryz.func114,Tryz.ntmps114;go_wp2;go_loop [3,5,6,9,17] (λs _ _ i _=>∃k:Nat,i= .int .i64 k/\k<=n/\s= .int .u32 (fP 4294967295 (xs.take k):Nat)) (λ_ _ _ i _=>n-(intOf i).toNat)
 case atStart=>exact ⟨0,rfl,by omega,rfl⟩
 case round=>
  obtain⟨k,rfl,hk,rfl⟩:=hrel;by_cases u:k<n
  . obtain⟨ad,x,rfl,V,hx,hc⟩:=h.byte u;have d:=nJ (xs.take k) (c:=4294967295) (by omega);have X:=kM x;have D:=ae (show fP 4294967295 (xs.take (k+1))=iK 8 (fP 4294967295 (xs.take k) ^^^ x.toNat) from by rw[zu hx,sO];rfl);clear hx;generalize fP 4294967295 (xs.take k)=s at *
    have E:=u32_xor_nat s x.toNat d (by omega);have Y:=sK d (show x.toNat<4294967296 from by omega);go_wp2;go_loop [3,6,17] (λZ _ j=>∃m:Nat,j= .int .i64 m/\m<=8/\Z= .int .u32 (iK m (s ^^^ x.toNat):Nat)) (λ_ _ j=>8-(intOf j).toNat)
    case atStart=>exact ⟨0,rfl,by omega,rfl⟩
    case round=>
     obtain⟨m,rfl,hm,rfl⟩:=hrel;have hM:=sN m Y;have N:=ae (uY m (s ^^^ x.toNat));generalize a:iK m (s ^^^ x.toNat)=y at *
     have G:=ae a;clear a;have hand:=OT y hM;have O:bits .xor .u32 ((y:Int)/2) 3988292384=((y/2 ^^^ 3988292384:Nat):Int):=u32_xor_nat (y/2) 3988292384 (by omega) (by omega);by_cases a6:m<8
     . rcases Ro y with hy|hy
       . have H:(((y:Int)%2) !=0)=false:=(by rw[CJ];omega);have I:=ae (show jq y=y/2 from by unfold jq;rw[if_neg (by omega)]);clear hy;go_wp2;go_round
         case rel=>exact ⟨m+1,by go_num,by omega,by rw[N.o,I.o];go_num⟩
         case measure=>simp [intOf];omega
       . have H:(((y:Int)%2) !=0)=true:=(by rw[kS];omega);have I:=ae (show jq y=(y/2) ^^^ 3988292384 from by unfold jq;rw[if_pos hy]);clear hy;go_wp2;go_round
         case rel=>exact ⟨m+1,by go_num,by omega,by rw[N.o,I.o]⟩
         case measure=>simp [intOf];omega
     . have J:m=8:=(by omega);subst J;go_wp2;go_round
       case rel=>exact ⟨k+1,by go_num,by omega,by rw[D.o,G.o]⟩
       case measure=>simp [intOf];omega
  . have L:k=n:=(by omega);subst L;have d:=nJ (xs.take k) (c:=4294967295) (by omega);have D:=ae (show Dn xs=4294967295 ^^^ fP 4294967295 (xs.take k) from by unfold Dn;rw[xM (by have:=U.o;omega)]);generalize fP 4294967295 (xs.take k)=s at *
    have E:bits .xor .u32 IntKind.u32.max (s:Int)=((4294967295 ^^^ s:Nat):Int):=u32_xor_nat 4294967295 s (by omega) d;go_wp2;go_ret;exact⟨bJ (by rw[D.o]),rfl⟩
theorem XH (A:Option Addr)(n c:Nat)(xs:Bytes)(w:World)(B:Nat)(h:Lies w B 1 A n (xs.map bv))(hn:n<=1000000000000):
 Calls Tryz.prog 48 #[.slice A n c] w λe w'=>e= .returned (.int .u32 (Dn xs:Nat))/\w=w':=by
 have U:=ae h.lenB;go_enter Tryz.func48,Tryz.ntmps48;go_wp2;go_loop [3,4,5] (λs i _=>∃k:Nat,i= .int .i64 k/\k<=n/\s= .int .u32 (fP 4294967295 (xs.take k):Nat)) (λ_ i _=>n-(intOf i).toNat)
 case atStart=>exact ⟨0,rfl,by omega,rfl⟩
 case round=>
  obtain⟨k,rfl,hk,rfl⟩:=hrel;by_cases u:k<n
  . obtain⟨ad,x,rfl,V,hx,hc⟩:=h.byte u;have d:=nJ (xs.take k) (c:=4294967295) (by omega);have X:=kM x;have D:=ae (show fP 4294967295 (xs.take (k+1))=iK 8 (fP 4294967295 (xs.take k) ^^^ x.toNat) from by rw[zu hx,sO];rfl);clear hx;generalize fP 4294967295 (xs.take k)=s at *
    have E:=u32_xor_nat s x.toNat d (by omega);have Y:=sK d (show x.toNat<4294967296 from by omega);go_wp2;go_loop [3,5] (λZ j=>∃m:Nat,j= .int .i64 m/\m<=8/\Z= .int .u32 (iK m (s ^^^ x.toNat):Nat)) (λ_ j=>8-(intOf j).toNat)
    case atStart=>exact ⟨0,rfl,by omega,rfl⟩
    case round=>
     obtain⟨m,rfl,hm,rfl⟩:=hrel;have hM:=sN m Y;have N:=ae (uY m (s ^^^ x.toNat));generalize a:iK m (s ^^^ x.toNat)=y at *
     have G:=ae a;clear a;have hand:=OT y hM;have O:bits .xor .u32 ((y:Int)/2) 3988292384=((y/2 ^^^ 3988292384:Nat):Int):=u32_xor_nat (y/2) 3988292384 (by omega) (by omega);by_cases a6:m<8
     . rcases Ro y with hy|hy
       . have H:(((y:Int)%2)==1)=false:=(by rw[iJ];omega);have I:=ae (show jq y=y/2 from by unfold jq;rw[if_neg (by omega)]);clear hy;go_wp2;go_round
         case rel=>exact ⟨m+1,by go_num,by omega,by rw[N.o,I.o];go_num⟩
         case measure=>simp [intOf];omega
       . have H:(((y:Int)%2)==1)=true:=(by rw[gI];omega);have I:=ae (show jq y=(y/2) ^^^ 3988292384 from by unfold jq;rw[if_pos hy]);clear hy;go_wp2;go_round
         case rel=>exact ⟨m+1,by go_num,by omega,by rw[N.o,I.o]⟩
         case measure=>simp [intOf];omega
     . have J:m=8:=(by omega);subst J;go_wp2;go_round
       case rel=>exact ⟨k+1,by go_num,by omega,by rw[D.o,G.o]⟩
       case measure=>simp [intOf];omega
  . have L:k=n:=(by omega);subst L;have d:=nJ (xs.take k) (c:=4294967295) (by omega);have D:=ae (show Dn xs=4294967295 ^^^ fP 4294967295 (xs.take k) from by unfold Dn;rw[xM (by have:=U.o;omega)]);generalize fP 4294967295 (xs.take k)=s at *
    have E:bits .xor .u32 (s:Int) 4294967295=((4294967295 ^^^ s:Nat):Int):=(by rw[Nat.xor_comm];exact u32_xor_nat s 4294967295 d (by omega));go_wp2;go_ret;exact⟨bJ (by rw[D.o]),rfl⟩
theorem LP (A:Option Addr)(n c B:Nat)(xs:Bytes)(most:Int)(w:World)(nN:Lies w B 1 A n (xs.map bv))(hB:B<=w.heap.size)(hnc:n<=c)(hn:n<=1000000000)(base:Nat)(G:base<=w.heap.size):
 Calls Tryz.prog 153 #[.slice A n c,.int .i64 most] w λe w'=>∃v',e= .returned (.tuple #[v',.int .i64 (unpack xs most).2])/\w'.ownsRow base 5 1 v' (unpack xs most).1.length ((unpack xs most).1.map bv)/\w.grownBy w' none/\At w none v'.ownBlock:=by
 have HL:=ae nN.lenB;obtain⟨i0,hi,a6,O,U⟩:=info_parts lC;have HI:=ae hi;have a7:=ae a6;have a8:=ae O;have aa:=ae U;clear hi a6 O U;have hz:(0:Nat)<1:=(by omega);go_enter Tryz.func153,Tryz.ntmps153;go_wp2_with fail;go_loopw [6,7,8,9,77] (λv iv _ _ _ wr=>∃(k:Nat) (ys:Bytes) (vv:Value),vv=v/\iv= .int .i64 (k:Int)/\k<=n/\UnAt 5 w base most xs k ys vv wr) (λ_ iv _ _ _ _=>n-(intOf iv).toNat)
 case atStart=>exact ⟨0,[],_,rfl,rfl,aG _,UnAt.start _ _ _ _ _⟩
 case round=>
  obtain⟨k,ys,vv,rfl,rfl,ba,Y⟩:=hrel;have bc:ys.length<=130*k:=Y.len;have LB:=nN.grown Y.grown hB nofun;obtain⟨Av,cv,aD,_⟩:=ai Y.own;subst aD;have u:=ae Y;have aL:base<=wr.heap.size:=aP G Y.grown.size;clear Y;by_cases aM:k<n
  . obtain⟨H,x,hA,_,hx,bd⟩:=LB.byte aM;subst hA;have bf:=kM x;have HX:=ae hx;clear hx;by_cases h7:x.toNat<128
    . have a:=u.o.lit HX.o h7;rw[HL.o] at a;by_cases h1:n-(k+1)<x.toNat+1
      . rw[if_pos h1] at a;have D:=ae a;clear a;go_wp2_with fail;go_ret2;rw[D.o];exact⟨_,rfl,dU _ _ _ _,u.o.grown,.inl rfl⟩
      . rw[if_neg h1] at a;by_cases h2:most<(ys.length:Int)+x.toNat+1
        . rw[if_pos h2] at a;have D:=ae a;clear a;go_wp2_with fail;go_ret2;rw[D.o];exact⟨_,rfl,dU _ _ _ _,u.o.grown,.inl rfl⟩
        . have hcut:Lies wr B 1 (some ⟨H.block,H.off+(k+1),none⟩) (k+x.toNat+2-(k+1)) (((xs.drop (k+1)).take (x.toNat+1)).map bv):=by
           have h1:=(LB.drop (k:=k+1) (by omega)).take (m:=x.toNat+1) (by omega);simp only[lY] at h1;rw[<-qK,<-oC] at h1;rw[show k+x.toNat+2-(k+1)=x.toNat+1 from by omega];rw[show (⟨H.block,H.off+(k+1),none⟩:Addr)=H.add (k+1) from by simp[Addr.add]];exact h1
          have WX:=ae hcut;have xn:¬c=k+1:=(by omega);clear a hcut;go_wp2_with (at_builtin;refine dw _ rfl (.tmp 35) (.tmp 43) _ rfl base 5 i0 (.int .u8 0) 1 1 Tryz.underlying22 HI.o a7.o a8.o aa.o rfl hz _ ys.length (ys.map bv) rfl u.o.own B (some ⟨H.block,H.off+(k+1),none⟩) (k+x.toNat+2-(k+1)) (c-(k+1)) _ rfl WX.o (λe=>nomatch e) (pJ _) (by unfold maxLen;omega) (by omega) aL ?_;intro v2 w2 E ab pg);rw[show k+x.toNat+2-(k+1)=x.toNat+1 from by omega] at E;have HN:=ae (u.o.litNext HX.o h7 (by rw[HL.o];omega) (by omega) E ab pg);clear E ab pg;go_roundw
          case rel=>exact ⟨k+x.toNat+2,_,_,rfl,by go_num,by omega,HN.o⟩
          case measure=>simp [intOf];omega
    . have V:128<=x.toNat:=(by omega);by_cases h1:n<=k+1
      . have a:=ae (u.o.one HX.o V (by rw[HL.o];exact h1));go_wp2_with fail;go_ret2;rw[a.o];exact⟨_,rfl,dU _ _ _ _,u.o.grown,.inl rfl⟩
      . obtain⟨aR,d,al,_,hd,b0⟩:=LB.byte (show k+1<n by omega);obtain rfl:H=aR:=(by injection al);have bh:=kM d;rw[show H.add (k+1)=(⟨H.block,H.off+(k+1),none⟩:Addr) from by simp[Addr.add]] at b0;have HD:=ae hd;have a:=u.o.copy HX.o V hd;clear hd al;by_cases h0:d.toNat=0\/ys.length<d.toNat
        . rw[if_pos h0] at a;have D:=ae a;clear a;by_cases an:d.toNat=0
          . have ao:(((d.toNat:Nat):Int)==0)=true:=(by rw[gI];omega);clear an h0;go_wp2_with fail;go_ret2;rw[D.o];exact⟨_,rfl,dU _ _ _ _,u.o.grown,.inl rfl⟩
          . have ao:(((d.toNat:Nat):Int)==0)=false:=(by rw[iJ];omega);have b1:(ys.length:Int)<(d.toNat:Int):=(by omega);clear an h0;go_wp2_with fail;go_ret2;rw[D.o];exact⟨_,rfl,dU _ _ _ _,u.o.grown,.inl rfl⟩
        . rw[if_neg h0] at a;have ao:(((d.toNat:Nat):Int)==0)=false:=(by rw[iJ];omega);have b1:(d.toNat:Int)<=(ys.length:Int):=(by omega);have b2:1<=d.toNat:=(by omega);have H0:=ae h0;clear h0;by_cases h2:most<(ys.length:Int)+x.toNat-125
          . rw[if_pos h2] at a;have D:=ae a;clear a;go_wp2_with fail;go_ret2;rw[D.o];exact⟨_,rfl,dU _ _ _ _,u.o.grown,.inl rfl⟩
          . clear a;obtain⟨N,hN⟩:∃N,N=x.toNat-125:=⟨_,rfl⟩;have b3:=ae hN;have aq:(N:Int)=(x.toNat:Int)-125:=(by omega);have ar:=ae aq;have bj:N<=130:=(by omega);clear hN aq;go_wp2_with fail;go_loopw [6,77] (λv jv wr=>∃(j:Nat) (zs:Bytes) (v2:Value),v2=v/\jv= .int .i64 (j:Int)/\CpAt 5 w base ys d.toNat N j zs v2 wr) (λ_ jv _=>N-(intOf jv).toNat)
            case atStart=>exact ⟨0,ys,_,rfl,rfl,⟨u.o.own,u.o.grown,u.o.at_,by simp,aG _,rfl⟩⟩
            case round=>
             obtain⟨j,zs,v2,rfl,rfl,I⟩:=hrel;have bk:=I.le;have O:zs.length<=ys.length+130:=(by have:=I.len;omega);have U:ys.length<=zs.length:=(by have:=I.len;omega);have bl:(d.toNat:Int)<=(zs.length:Int):=(by omega);by_cases hj:j<N
             . obtain⟨y,hy⟩:=I.get b2 (by omega);obtain⟨A2,c2,b4,_,_,av,_⟩:=ai I.own;obtain⟨b5,y',hA2,_,X,bm⟩:=av.byte (show zs.length-d.toNat<zs.length by omega);obtain rfl:y=y':=(by rw[hy] at X;injection X);subst b4 hA2;have HY:=ae hy;have Z:=ae I;have b6:(j:Int)<(x.toNat:Int)-125:=(by have:=ar.o;omega);have bn:base<=wr.heap.size:=aP G I.grown.size;clear hy X I av;go_wp2_with (at_builtin;refine dM _ rfl (.tmp 79) (.tmp 87) _ rfl base 5 i0 (.int .u8 0) 1 1 Tryz.underlying22 HI.o a7.o a8.o aa.o rfl hz _ (Value.slice (some b5) zs.length c2).ownBlock zs.length (zs.map bv) rfl (App.own (Z.o.own.alloc _)) ⟨wr.heap.size,0,none⟩ 1 1 [.int .u8 (y.toNat:Int)] rfl hz rfl (iL _ _ _) (FU rfl) (by unfold maxLen;omega) (by omega) (by simp;omega) ?_;intro v3 w3 J aw pI);have L:=dn aw;have rH:=pI.alloc;have b8:=ae (Z.o.next hj HY.o J L rH);clear J aw pI L rH;go_roundw
               case rel=>exact ⟨j+1,_,_,rfl,by go_num,b8.o⟩
               case measure=>simp [intOf];omega
             . have HZ:=ae (I.done (by omega));have b6:¬(j:Int)<(x.toNat:Int)-125:=(by have:=ar.o;omega);have Z:=ae I;clear I;have b9:=ae (u.o.copyNext HX.o V HD.o H0.o (by omega) (by rw[HZ.o,b3.o]) Z.o.own Z.o.grown Z.o.at_);go_wp2_with fail;go_roundw
               case rel=>exact ⟨k+2,_,_,rfl,by go_num,by omega,b9.o⟩
               case measure=>simp [intOf];omega
  . have a:=ae (u.o.done (by rw[HL.o];omega));go_wp2_with fail;go_ret2;rw[a.o];exact⟨_,rfl,u.o.own,u.o.grown,u.o.at_⟩
theorem gq {P:Program}{ops:Array Oper}{rest:List Oper}{o:Oper}{a:Act}{w:World}{Q:Exit->Act->World->Prop}(hg:o.guard=none)(t e:TypeId)(ho:o.op= .buildSlice t 0 #[])
 (u:TypeInfo) (y:P.underlying t=some (.slice e)) (d:P.info? e=some u)
 (h:∀w',w'=w.alloc (.cells #[] e)->wpList P ops Q rest (a.put o.dst (.slice (some ⟨w.heap.size,0,none⟩) 0 0)) w'):wpList P ops Q (o::rest) a w:=by refine PK hg λK A=>?_;unfold Oper.wp execOp;have hr:(Instr.buildSlice t 0 #[]).run P w= .ok (.slice (some ⟨w.heap.size,0,none⟩) 0 0) (w.alloc (.cells #[] e)):=(by simp[Instr.buildSlice,jy y,sizeOf,typeInfo,d,newRow,Instr.fill];simp[show Array.range 0=#[] from by decide]);simp[ho,hr,Result.andThen];exact A _ _ (h _ rfl)
theorem lI (w:World)(o:Obj):w.grownBy (w.alloc o) none:=dn (bI _ none)
theorem LG:(Tryz.prog.info? 144).map (λi=>(i.zero.map λz=>z.cells.size,i.size,i.bytes))=some (some 5,5,48):=by kernel_rfl
theorem Fq (w:World)(B:Nat)(A:Option Addr)(n c:Nat)(xs:List Value)(E:Lies w B 5 A n xs)(hB:B<=w.heap.size)(ho:A=none->c=0)(h1:∀u∈xs,u.oneCell'=true)
 (hn:n<=maxLen) (L:n*48<=140737488355328):
 Calls Tryz.prog 55 #[.slice A n c] w λe w'=>∃A' N I,e= .returned (.slice A' N I)/\N=n/\w'.ownsRow w.heap.size 144 5 (.slice A' N I) n xs/\w.grownBy w' none:=by
 cases A with
 |
  none=>
  obtain rfl:=ho rfl;obtain rfl:n=0:=by
   rcases pV n with h0|h0;exact h0
   . obtain⟨J,h,_⟩:=E.2 h0
     cases h
  obtain rfl:xs=[]:=lZ (by simpa using E.1);clear E ho h1 hn L;have qn:=λ(w:World)=>Lib.run_eql_slice_nil (P:=Tryz.prog) w 25 144 none 0 0 0 0 Tryz.underlying25;go_enter Tryz.func55,Tryz.ntmps55;go_wp2_with fail;go_ret;exact⟨none,0,0,rfl,rfl,dU _ _ _ _,bI w none⟩
 |
  some J=>
  obtain⟨a,hi,O⟩:∃a,Tryz.prog.info? 144=some a/\(a.zero.map (λz=>z.cells.size),a.size,a.bytes)=(some 5,5,48):=by
   have:=LG
   cases hx:Tryz.prog.info? 144 with
   |none=>rw [hx] at this;cases this
   |some a=>rw [hx] at this;exact⟨a,rfl,by simpa using this⟩
  injection O with d O;injection O with G hz2;obtain⟨z,hz,H⟩:∃z,a.zero=some z/\z.cells.size=5:=by
   cases hx:a.zero with
   |none=>rw [hx] at d;cases d
   |some z=>rw [hx] at d;exact⟨z,rfl,by simpa using d⟩
  have HI:=ae hi;have U:=ae hz;have V6:=ae H;have V:=ae G;have X:=ae hz2;have HL:=ae E;have H1:=ae h1;have a6:=ae ho;have h0:(0:Nat)<5:=(by omega);clear d G hz2 hi hz H E h1 ho;have qn:=λ(w:World)=>Lib.run_eql_slice_nil (P:=Tryz.prog) w 25 144 (some J) n c 0 0 Tryz.underlying25;go_enter Tryz.func55,Tryz.ntmps55
  go_wp2_with (first
   |(at_builtin;refine dw _ rfl (.tmp 5) (.tmp 6) _ rfl w.heap.size 144 a z 5 48 Tryz.underlying25 HI.o U.o V.o X.o V6.o h0 _ 0 [] rfl HE.o B (some J) n c xs rfl Y.o (λe=>nomatch e) H1.o (by omega) (by omega) BD.o ?_;intro v2 w2 y Z pg)
   |(
    refine gq rfl _ 144 rfl a Tryz.underlying25 HI.o ?_;intro w1 D;have HE:Hid (w1.ownsRow w.heap.size 144 5 (.slice (some ⟨w.heap.size,0,none⟩) 0 0) 0 []):=ae (by rw[D];exact Gv w #[] 0 (ax _) (aG _) (by simp));have rZ:Hid (w.grownBy w1 none):=ae (by rw[D];exact lI w _);have BD:Hid (w.heap.size<=w1.heap.size):=ae rZ.o.size;have Y:Hid (Lies w1 B 5 (some J) n xs):=ae (HL.o.grown rZ.o hB nofun);clear D))
  go_ret;obtain⟨A',I,hv,_⟩:=ai y;exact⟨A',0+n,I,by rw[hv];rfl,by omega,by rw[<-hv];simpa using y,af rZ.o Z (.inr ⟨_,rfl,ax _⟩)⟩
theorem LH:(Tryz.prog.info? 147).map (λi=>(i.zero.map λz=>z.cells.size,i.size,i.bytes))=some (some 2,2,24):=by kernel_rfl
theorem Fv (w:World)(B:Nat)(A:Option Addr)(n c:Nat)(xs:List Value)(E:Lies w B 2 A n xs)(hB:B<=w.heap.size)(ho:A=none->c=0)(h1:∀u∈xs,u.oneCell'=true)
 (hn:n<=maxLen) (L:n*24<=140737488355328):
 Calls Tryz.prog 56 #[.slice A n c] w λe w'=>∃A' N I,e= .returned (.slice A' N I)/\N=n/\w'.ownsRow w.heap.size 147 2 (.slice A' N I) n xs/\w.grownBy w' none:=by
 cases A with
 |
  none=>
  obtain rfl:=ho rfl;obtain rfl:n=0:=by
   rcases pV n with h0|h0;exact h0
   . obtain⟨J,h,_⟩:=E.2 h0
     cases h
  obtain rfl:xs=[]:=lZ (by simpa using E.1);clear E ho h1 hn L;have qn:=λ(w:World)=>Lib.run_eql_slice_nil (P:=Tryz.prog) w 26 147 none 0 0 0 0 Tryz.underlying26;go_enter Tryz.func56,Tryz.ntmps56;go_wp2_with fail;go_ret;exact⟨none,0,0,rfl,rfl,dU _ _ _ _,bI w none⟩
 |
  some J=>
  obtain⟨a,hi,O⟩:∃a,Tryz.prog.info? 147=some a/\(a.zero.map (λz=>z.cells.size),a.size,a.bytes)=(some 2,2,24):=by
   have:=LH
   cases hx:Tryz.prog.info? 147 with
   |none=>rw [hx] at this;cases this
   |some a=>rw [hx] at this;exact⟨a,rfl,by simpa using this⟩
  injection O with d O;injection O with G hz2;obtain⟨z,hz,H⟩:∃z,a.zero=some z/\z.cells.size=2:=by
   cases hx:a.zero with
   |none=>rw [hx] at d;cases d
   |some z=>rw [hx] at d;exact⟨z,rfl,by simpa using d⟩
  have HI:=ae hi;have U:=ae hz;have V6:=ae H;have V:=ae G;have X:=ae hz2;have HL:=ae E;have H1:=ae h1;have a6:=ae ho;have h0:(0:Nat)<2:=(by omega);clear d G hz2 hi hz H E h1 ho;have qn:=λ(w:World)=>Lib.run_eql_slice_nil (P:=Tryz.prog) w 26 147 (some J) n c 0 0 Tryz.underlying26;go_enter Tryz.func56,Tryz.ntmps56
  go_wp2_with (first
   |(at_builtin;refine dw _ rfl (.tmp 5) (.tmp 6) _ rfl w.heap.size 147 a z 2 24 Tryz.underlying26 HI.o U.o V.o X.o V6.o h0 _ 0 [] rfl HE.o B (some J) n c xs rfl Y.o (λe=>nomatch e) H1.o (by omega) (by omega) BD.o ?_;intro v2 w2 y Z pg)
   |(
    refine gq rfl _ 147 rfl a Tryz.underlying26 HI.o ?_;intro w1 D;have HE:Hid (w1.ownsRow w.heap.size 147 2 (.slice (some ⟨w.heap.size,0,none⟩) 0 0) 0 []):=ae (by rw[D];exact Gv w #[] 0 (ax _) (aG _) (by simp));have rZ:Hid (w.grownBy w1 none):=ae (by rw[D];exact lI w _);have BD:Hid (w.heap.size<=w1.heap.size):=ae rZ.o.size;have Y:Hid (Lies w1 B 2 (some J) n xs):=ae (HL.o.grown rZ.o hB nofun);clear D))
  go_ret;obtain⟨A',I,hv,_⟩:=ai y;exact⟨A',0+n,I,by rw[hv];rfl,by omega,by rw[<-hv];simpa using y,af rZ.o Z (.inr ⟨_,rfl,ax _⟩)⟩
theorem LJ:(Tryz.prog.info? 150).map (λi=>(i.zero.map λz=>z.cells.size,i.size,i.bytes))=some (some 2,2,24):=by kernel_rfl
theorem Fz (w:World)(B:Nat)(A:Option Addr)(n c:Nat)(xs:List Value)(E:Lies w B 2 A n xs)(hB:B<=w.heap.size)(ho:A=none->c=0)(h1:∀u∈xs,u.oneCell'=true)
 (hn:n<=maxLen) (L:n*24<=140737488355328):
 Calls Tryz.prog 57 #[.slice A n c] w λe w'=>∃A' N I,e= .returned (.slice A' N I)/\N=n/\w'.ownsRow w.heap.size 150 2 (.slice A' N I) n xs/\w.grownBy w' none:=by
 cases A with
 |
  none=>
  obtain rfl:=ho rfl;obtain rfl:n=0:=by
   rcases pV n with h0|h0;exact h0
   . obtain⟨J,h,_⟩:=E.2 h0
     cases h
  obtain rfl:xs=[]:=lZ (by simpa using E.1);clear E ho h1 hn L;have qn:=λ(w:World)=>Lib.run_eql_slice_nil (P:=Tryz.prog) w 27 150 none 0 0 0 0 Tryz.underlying27;go_enter Tryz.func57,Tryz.ntmps57;go_wp2_with fail;go_ret;exact⟨none,0,0,rfl,rfl,dU _ _ _ _,bI w none⟩
 |
  some J=>
  obtain⟨a,hi,O⟩:∃a,Tryz.prog.info? 150=some a/\(a.zero.map (λz=>z.cells.size),a.size,a.bytes)=(some 2,2,24):=by
   have:=LJ
   cases hx:Tryz.prog.info? 150 with
   |none=>rw [hx] at this;cases this
   |some a=>rw [hx] at this;exact⟨a,rfl,by simpa using this⟩
  injection O with d O;injection O with G hz2;obtain⟨z,hz,H⟩:∃z,a.zero=some z/\z.cells.size=2:=by
   cases hx:a.zero with
   |none=>rw [hx] at d;cases d
   |some z=>rw [hx] at d;exact⟨z,rfl,by simpa using d⟩
  have HI:=ae hi;have U:=ae hz;have V6:=ae H;have V:=ae G;have X:=ae hz2;have HL:=ae E;have H1:=ae h1;have a6:=ae ho;have h0:(0:Nat)<2:=(by omega);clear d G hz2 hi hz H E h1 ho;have qn:=λ(w:World)=>Lib.run_eql_slice_nil (P:=Tryz.prog) w 27 150 (some J) n c 0 0 Tryz.underlying27;go_enter Tryz.func57,Tryz.ntmps57
  go_wp2_with (first
   |(at_builtin;refine dw _ rfl (.tmp 5) (.tmp 6) _ rfl w.heap.size 150 a z 2 24 Tryz.underlying27 HI.o U.o V.o X.o V6.o h0 _ 0 [] rfl HE.o B (some J) n c xs rfl Y.o (λe=>nomatch e) H1.o (by omega) (by omega) BD.o ?_;intro v2 w2 y Z pg)
   |(
    refine gq rfl _ 150 rfl a Tryz.underlying27 HI.o ?_;intro w1 D;have HE:Hid (w1.ownsRow w.heap.size 150 2 (.slice (some ⟨w.heap.size,0,none⟩) 0 0) 0 []):=ae (by rw[D];exact Gv w #[] 0 (ax _) (aG _) (by simp));have rZ:Hid (w.grownBy w1 none):=ae (by rw[D];exact lI w _);have BD:Hid (w.heap.size<=w1.heap.size):=ae rZ.o.size;have Y:Hid (Lies w1 B 2 (some J) n xs):=ae (HL.o.grown rZ.o hB nofun);clear D))
  go_ret;obtain⟨A',I,hv,_⟩:=ai y;exact⟨A',0+n,I,by rw[hv];rfl,by omega,by rw[<-hv];simpa using y,af rZ.o Z (.inr ⟨_,rfl,ax _⟩)⟩
theorem PL:(Tryz.prog.info? 9).map (λi=>(i.zero.map λz=>z.cells.size,i.size,i.bytes))=some (some 1,1,16):=by kernel_rfl
theorem Iy (w:World)(B:Nat)(A:Option Addr)(n c:Nat)(xs:List Value)(E:Lies w B 1 A n xs)(hB:B<=w.heap.size)(ho:A=none->c=0)(h1:∀u∈xs,u.oneCell'=true)
 (hn:n<=maxLen) (L:n*16<=140737488355328):
 Calls Tryz.prog 58 #[.slice A n c] w λe w'=>∃A' N I,e= .returned (.slice A' N I)/\N=n/\w'.ownsRow w.heap.size 9 1 (.slice A' N I) n xs/\w.grownBy w' none:=by
 cases A with
 |
  none=>
  obtain rfl:=ho rfl;obtain rfl:n=0:=by
   rcases pV n with h0|h0;exact h0
   . obtain⟨J,h,_⟩:=E.2 h0
     cases h
  obtain rfl:xs=[]:=lZ (by simpa using E.1);clear E ho h1 hn L;have qn:=λ(w:World)=>Lib.run_eql_slice_nil (P:=Tryz.prog) w 28 9 none 0 0 0 0 Tryz.underlying28;go_enter Tryz.func58,Tryz.ntmps58;go_wp2_with fail;go_ret;exact⟨none,0,0,rfl,rfl,dU _ _ _ _,bI w none⟩
 |
  some J=>
  obtain⟨a,hi,O⟩:∃a,Tryz.prog.info? 9=some a/\(a.zero.map (λz=>z.cells.size),a.size,a.bytes)=(some 1,1,16):=by
   have:=PL
   cases hx:Tryz.prog.info? 9 with
   |none=>rw [hx] at this;cases this
   |some a=>rw [hx] at this;exact⟨a,rfl,by simpa using this⟩
  injection O with d O;injection O with G hz2;obtain⟨z,hz,H⟩:∃z,a.zero=some z/\z.cells.size=1:=by
   cases hx:a.zero with
   |none=>rw [hx] at d;cases d
   |some z=>rw [hx] at d;exact⟨z,rfl,by simpa using d⟩
  have HI:=ae hi;have U:=ae hz;have V6:=ae H;have V:=ae G;have X:=ae hz2;have HL:=ae E;have H1:=ae h1;have a6:=ae ho;have h0:(0:Nat)<1:=(by omega);clear d G hz2 hi hz H E h1 ho;have qn:=λ(w:World)=>Lib.run_eql_slice_nil (P:=Tryz.prog) w 28 9 (some J) n c 0 0 Tryz.underlying28;go_enter Tryz.func58,Tryz.ntmps58
  go_wp2_with (first
   |(at_builtin;refine dw _ rfl (.tmp 5) (.tmp 6) _ rfl w.heap.size 9 a z 1 16 Tryz.underlying28 HI.o U.o V.o X.o V6.o h0 _ 0 [] rfl HE.o B (some J) n c xs rfl Y.o (λe=>nomatch e) H1.o (by omega) (by omega) BD.o ?_;intro v2 w2 y Z pg)
   |(
    refine gq rfl _ 9 rfl a Tryz.underlying28 HI.o ?_;intro w1 D;have HE:Hid (w1.ownsRow w.heap.size 9 1 (.slice (some ⟨w.heap.size,0,none⟩) 0 0) 0 []):=ae (by rw[D];exact Gv w #[] 0 (ax _) (aG _) (by simp));have rZ:Hid (w.grownBy w1 none):=ae (by rw[D];exact lI w _);have BD:Hid (w.heap.size<=w1.heap.size):=ae rZ.o.size;have Y:Hid (Lies w1 B 1 (some J) n xs):=ae (HL.o.grown rZ.o hB nofun);clear D))
  go_ret;obtain⟨A',I,hv,_⟩:=ai y;exact⟨A',0+n,I,by rw[hv];rfl,by omega,by rw[<-hv];simpa using y,af rZ.o Z (.inr ⟨_,rfl,ax _⟩)⟩
theorem LK:(Tryz.prog.info? 154).map (λi=>(i.zero.map λz=>z.cells.size,i.size,i.bytes))=some (some 3,3,24):=by kernel_rfl
theorem FC (w:World)(B:Nat)(A:Option Addr)(n c:Nat)(xs:List Value)(E:Lies w B 3 A n xs)(hB:B<=w.heap.size)(ho:A=none->c=0)(h1:∀u∈xs,u.oneCell'=true)
 (hn:n<=maxLen) (L:n*24<=140737488355328):
 Calls Tryz.prog 59 #[.slice A n c] w λe w'=>∃A' N I,e= .returned (.slice A' N I)/\N=n/\w'.ownsRow w.heap.size 154 3 (.slice A' N I) n xs/\w.grownBy w' none:=by
 cases A with
 |
  none=>
  obtain rfl:=ho rfl;obtain rfl:n=0:=by
   rcases pV n with h0|h0;exact h0
   . obtain⟨J,h,_⟩:=E.2 h0
     cases h
  obtain rfl:xs=[]:=lZ (by simpa using E.1);clear E ho h1 hn L;have qn:=λ(w:World)=>Lib.run_eql_slice_nil (P:=Tryz.prog) w 29 154 none 0 0 0 0 Tryz.underlying29;go_enter Tryz.func59,Tryz.ntmps59;go_wp2_with fail;go_ret;exact⟨none,0,0,rfl,rfl,dU _ _ _ _,bI w none⟩
 |
  some J=>
  obtain⟨a,hi,O⟩:∃a,Tryz.prog.info? 154=some a/\(a.zero.map (λz=>z.cells.size),a.size,a.bytes)=(some 3,3,24):=by
   have:=LK
   cases hx:Tryz.prog.info? 154 with
   |none=>rw [hx] at this;cases this
   |some a=>rw [hx] at this;exact⟨a,rfl,by simpa using this⟩
  injection O with d O;injection O with G hz2;obtain⟨z,hz,H⟩:∃z,a.zero=some z/\z.cells.size=3:=by
   cases hx:a.zero with
   |none=>rw [hx] at d;cases d
   |some z=>rw [hx] at d;exact⟨z,rfl,by simpa using d⟩
  have HI:=ae hi;have U:=ae hz;have V6:=ae H;have V:=ae G;have X:=ae hz2;have HL:=ae E;have H1:=ae h1;have a6:=ae ho;have h0:(0:Nat)<3:=(by omega);clear d G hz2 hi hz H E h1 ho;have qn:=λ(w:World)=>Lib.run_eql_slice_nil (P:=Tryz.prog) w 29 154 (some J) n c 0 0 Tryz.underlying29;go_enter Tryz.func59,Tryz.ntmps59
  go_wp2_with (first
   |(at_builtin;refine dw _ rfl (.tmp 5) (.tmp 6) _ rfl w.heap.size 154 a z 3 24 Tryz.underlying29 HI.o U.o V.o X.o V6.o h0 _ 0 [] rfl HE.o B (some J) n c xs rfl Y.o (λe=>nomatch e) H1.o (by omega) (by omega) BD.o ?_;intro v2 w2 y Z pg)
   |(
    refine gq rfl _ 154 rfl a Tryz.underlying29 HI.o ?_;intro w1 D;have HE:Hid (w1.ownsRow w.heap.size 154 3 (.slice (some ⟨w.heap.size,0,none⟩) 0 0) 0 []):=ae (by rw[D];exact Gv w #[] 0 (ax _) (aG _) (by simp));have rZ:Hid (w.grownBy w1 none):=ae (by rw[D];exact lI w _);have BD:Hid (w.heap.size<=w1.heap.size):=ae rZ.o.size;have Y:Hid (Lies w1 B 3 (some J) n xs):=ae (HL.o.grown rZ.o hB nofun);clear D))
  go_ret;obtain⟨A',I,hv,_⟩:=ai y;exact⟨A',0+n,I,by rw[hv];rfl,by omega,by rw[<-hv];simpa using y,af rZ.o Z (.inr ⟨_,rfl,ax _⟩)⟩
