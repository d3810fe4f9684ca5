/- Words. -/
import Derived.Test.YtfbkkgfkhhibfaaGreatProg
import Derived.Test.YtfbkkgfkhhibfaaGreatFct
import Derived.Test.YtfbkkgfkhhibfaaGreatPl
import Derived.WalkLawsBesides
import Derived.WalkSpells
import Derived.Deep.QuietTactic
import Derived.BigQuiet
import Derived.Deep.DeepFit
import Derived.Laws.StructEq
set_option linter.unusedVariables false
set_option maxRecDepth 100000
set_option maxHeartbeats 8000000
namespace Iv
open Go Go.RowKit
def bv (b:UInt8):Value:= .int .u8 (b.toNat:Int)
def iv (n:Int):Value:= .int .i64 n
theorem mJ {α:Type}{xs:List α}{k:Nat}{x:α}(h:xs[k]?=some x):xs.take (k+1)=xs.take k++ [x]:=by
 obtain⟨hl,rfl⟩:=List.getElem?_eq_some_iff.1 h;exact List.take_succ_eq_append_getElem hl
theorem dD {a b:Bool}(h:a=b):Ending.returned (.bool a)= .returned (.bool b):=by rw[h]
theorem bg {k:IntKind}{a b:Int}(h:a=b):Ending.returned (.int k a)= .returned (.int k b):=by rw[h]
theorem lS (l:Bytes):∀u∈l.map bv,u.oneCell'=true:=by
 intro u hu;obtain⟨b,_,rfl⟩:=List.mem_map.1 hu;rfl
theorem Lies.byte {w:World}{B n k:Nat}{A:Option Addr}{xs:Bytes}(h:Lies w B 1 A n (xs.map bv))(hk:k < n):
 ∃ad x,A=some ad∧ad.block < B∧xs[k]?=some x∧w.cell? (ad.add k)=some (.int .u8 (x.toNat:Int)):=by
 obtain⟨ad,u,rfl,hb,hx,hc⟩:=h.cellAt hk;simp only[List.getElem?_map,Option.map_eq_some_iff] at hx;obtain⟨x,hx,rfl⟩:=hx;exact⟨ad,x,rfl,hb,hx,hc⟩
theorem Lies.int {w:World}{B n k:Nat}{A:Option Addr}{xs:List Int}(h:Lies w B 1 A n (xs.map iv))(hk:k < n):
 ∃ad x,A=some ad∧ad.block < B∧xs[k]?=some x∧w.cell? (ad.add k)=some (.int .i64 x):=by
 obtain⟨ad,u,rfl,hb,hx,hc⟩:=h.cellAt hk;simp only[List.getElem?_map,Option.map_eq_some_iff] at hx;obtain⟨x,hx,rfl⟩:=hx;exact⟨ad,x,rfl,hb,hx,hc⟩
theorem Lies.lenB {w:World}{B n:Nat}{A:Option Addr}{xs:Bytes}(h:Lies w B 1 A n (xs.map bv)):xs.length=n:=by simpa using h.1
theorem Lies.lenI {w:World}{B n:Nat}{A:Option Addr}{xs:List Int}(h:Lies w B 1 A n (xs.map iv)):xs.length=n:=by simpa using h.1
end Iv
namespace Go.Proofs.YtfbkkgfkhhibfaaGreat
open Go
theorem jG:(Tryz.prog.info? 5).map (fun i=>(i.zero,i.size,i.bytes))=some (some (.int .u8 0),1,1):=by kernel_rfl
theorem yQ:(Tryz.prog.info? 3).map (fun i=>(i.zero,i.size,i.bytes))=some (some (.int .i64 0),1,8):=by kernel_rfl
end Go.Proofs.YtfbkkgfkhhibfaaGreat
namespace Iv
open Go Go.RowKit
theorem ay {w w':World}{base e sz n:Nat}{row:Option Nat}{v:Value}{xs:List Value}(h:w.ownsRow base e sz v n xs)(hg:w.grownBy w' row)(hne:∀g,v.ownBlock=some g→row≠some g):w'.ownsRow base e sz v n xs:=by
 refine⟨h.1,?_⟩;rcases h.2 with h2 | ⟨b,cap,cur,rfl,hb,hh,h3⟩
 · exact .inl h2
 · refine .inr ⟨b,cap,cur,rfl,hb,?_,h3⟩;exact (hg.block b (Array.getElem?_eq_some_iff.1 hh).1 (fun e=>hne b rfl e.symm)).trans hh
section
variable {P : Program} (w : World)
theorem qm {ops:Array Oper}{o:Oper}{a:Act}{K:Act→World→Prop}{Q:Exit→Act→World→Prop}{E:Prop}(hg:o.guard=none)(s x:Operand)(t:TypeId)
 (hop:o.op=Op.call { callee:=Callee.builtin Builtin.append,args:=#[s,x],argTypes:=#[t,t] })
 (base:Nat) (e:TypeId) (i:TypeInfo) (z:Value) (size bytes:Nat) (ht:P.underlying t=some (.slice e)) (hi:P.info? e=some i) (hz:i.zero=some z)
 (hsize:i.size=size) (hby:i.bytes=bytes) (hzs:z.cells.size=size) (hsz:0 < size)
 (v:Value) (n:Nat) (xs:List Value) (hs:a.eval s=v) (hown:w.ownsRow base e size v n xs)
 (B:Nat) (A:Option Addr) (m c:Nat) (news:List Value) (hx:a.eval x= .slice A m c) (hr:Lies w B size A m news) (ho:A=none→c=0) (h1:∀u∈news,u.oneCell'=true)
 (h63:n+m≤maxLen) (hbytes:(n+m)* bytes≤140737488355328) (hbase:base≤w.heap.size)
 (hK:∀v' w',w'.ownsRow base e size v' (n+m) (xs++news)→w.grownBy w' v.ownBlock→At w v.ownBlock v'.ownBlock→K (a.put o.dst v') w'):
 if Region.wanted o (yielded ops a.tmps)=true then Oper.wp P o a w K Q else E:=by
 have hw:Region.wanted o (yielded ops a.tmps)=true:=by simp[Region.wanted,hg]
 rw[if_pos hw];obtain⟨v',w',hrun,r1,r2,r3⟩:=IX (P:=P) w base t o.type e i z size bytes ht hi hz hsize hby hzs hsz v n xs hown B A m c news hr ho h1 h63 hbytes hbase;unfold Oper.wp;simp[execOp,hop,resolve,invoke,builtin,hs,hx,hrun,Result.andThen];exact hK _ _ r1 r2 r3
end
section
variable {P : Program} (w : World)
end
theorem BV (w:World)(u u2:Value)(e:TypeId):∀j u',[u,u2][j]?=some u'→(w.alloc (.cells #[u,u2] e)).cell? ((⟨w.heap.size,0,none⟩:Addr).add j)=some u':=by
 intro j u' h;have hj:j < 2:=(List.getElem?_eq_some_iff.1 h).1;rcases (show j=0∨j=1 by omega) with rfl | rfl
 · simp at h;subst h;simp[Addr.add]
 · simp at h;subst h;simp[Addr.add]
theorem aeg {u u2:Value}(h:u.oneCell'=true)(h2:u2.oneCell'=true):∀x∈ [u,u2],x.oneCell'=true:=by
 intro x hx;simp at hx;rcases hx with rfl | rfl
 · exact h
 · exact h2
def Aw (p:Bytes):Bytes:=if 0 < p.length then UInt8.ofNat (p.length - 1) :: p else []
theorem Ib {b:Bytes}{f e:Nat}(hf:f≤e)(he:e≤b.length):Aw ((b.take e).drop f)=lit b f e:=by
 unfold Aw lit;have hl:((b.take e).drop f).length=e - f:=by simp;omega
 rw[hl];by_cases h:f < e
 · rw[if_pos (by omega),if_pos h]
 · rw[if_neg (by omega),if_neg h]
theorem PN {b:Bytes}{f i:Nat}{x:UInt8}(hf:f≤i)(hx:b[i]?=some x):(b.take (i+1)).drop f=(b.take i).drop f++ [x]:=by
 have hl:i < b.length:=(List.getElem?_eq_some_iff.1 hx).1;rw[mJ hx,List.drop_append_of_le_length (by simp;omega)]
def Apart (v p:Value):Prop:=∀g,v.ownBlock=some g→p.ownBlock≠some g
theorem Apart.nil (v:Value):Apart v (.slice none 0 0):=fun g _ h=>nomatch h
theorem Apart.symm {v p:Value}(h:Apart v p):Apart p v:=fun g h1 h2=>h g h2 h1
theorem Apart.step {w:World}{base e sz n:Nat}{xs:List Value}{v p v':Value}(h:Apart v p)(hp:w.ownsRow base e sz p n xs)(hat:At w v.ownBlock v'.ownBlock):Apart v' p:=by
 intro g h1 h2;have hlt:=(hp.lt g h2).2;rcases hat with h3 | ⟨g',h3,h4⟩
 · exact h g (h3▸h1) h2
 · rw[h1] at h3;injection h3 with h3;omega
theorem qU {w w':World}{base e sz n:Nat}{xs:List Value}{v p:Value}(h:Apart v p)(hp:w.ownsRow base e sz p n xs)(hg:w.grownBy w' v.ownBlock):w'.ownsRow base e sz p n xs:=
 ay hp hg fun g h1 h2=>h g h2 h1
structure PkInv (ts ti te:TypeId)(w:World)(gb go gf base:Nat)(A:Option Addr)(n c f:Nat)(ys:Bytes)(v:Value)(wr:World):Prop where
 hb:Held wr gb ts #[.slice A n c]
 ho:Held wr go ts #[v]
 hf:Held wr gf ti #[.int .i64 (f:Int)]
 own:wr.ownsRow base te 1 v ys.length (ys.map bv)
 grown:w.grownBy wr none
 lo:w.heap.size≤gb∧w.heap.size≤go∧w.heap.size≤gf
 hi:gb < base∧go < base∧gf < base
 ne:gb≠go∧gb≠gf∧go≠gf
section
variable {ts ti te : TypeId} {w wr w1 : World} {gb go gf base n c f : Nat} {A : Option Addr} {ys zs : Bytes} {v v1 : Value}
theorem PkInv.drewN (h:PkInv ts ti te w gb go gf base A n c f ys v wr)(q:Nat):PkInv ts ti te w gb go gf base A n c f ys v (wr.drewN q):=
 ⟨h.hb.drewN q,h.ho.drewN q,h.hf.drewN q,ay h.own (aH (World.grownBy.refl wr none) q) (fun g _ e=>nomatch e),aH h.grown q,h.lo,h.hi,h.ne⟩
theorem PkInv.drew (h:PkInv ts ti te w gb go gf base A n c f ys v wr):PkInv ts ti te w gb go gf base A n c f ys v wr.drew:=
 ⟨h.hb.drew,h.ho.drew,h.hf.drew,ay h.own (aI (World.grownBy.refl wr none)) (fun g _ e=>nomatch e),aI h.grown,h.lo,h.hi,h.ne⟩
theorem PkInv.push (h:PkInv ts ti te w gb go gf base A n c f ys v wr)(hown:w1.ownsRow base te 1 v1 zs.length (zs.map bv))(hg:wr.grownBy w1 v.ownBlock):
 PkInv ts ti te w gb go gf base A n c f zs v1 (w1.setCell ⟨go,0,none⟩ v1):=by
 have hv:∀g,v.ownBlock=some g→base≤g:=fun g e=>(h.own.lt g e).1
 have hv1:∀g,v1.ownBlock=some g→base≤g:=fun g e=>(hown.lt g e).1
 have ne1:∀b,b < base→some b≠v.ownBlock:=fun b hb e=>by have:=hv b e.symm;omega
 obtain⟨l1,l2,l3⟩:=h.lo;obtain⟨i1,i2,i3⟩:=h.hi;obtain⟨n1,n2,n3⟩:=h.ne;refine⟨(h.hb.grown hg (ne1 _ i1)).far (fun e=>n1 e) v1,?_,(h.hf.grown hg (ne1 _ i3)).far (fun e=>n3 e.symm) v1,?_,?_,h.lo,h.hi,h.ne⟩
 · have:=(h.ho.grown hg (ne1 _ i2)).store 0 v1;simpa using this
 · exact ay hown (ah w1 go 0 v1) (fun g e e'=>by have:=hv1 g e;injection e' with e';omega)
 · refine⟨hg.os.trans h.grown.os,hg.tape.trans h.grown.tape,hg.output.trans h.grown.output,?_,fun k hk hne=>?_⟩
   · have:=hg.size;have:=h.grown.size;simp[World.setCell];omega
   · refine ((ah w1 go 0 v1).block k ?_ (fun e=>by injection e with e;omega)).trans ((hg.block k (Nat.lt_of_lt_of_le hk h.grown.size) (ne1 k (by omega))).trans (h.grown.block k hk hne));have:=hg.size;have:=h.grown.size;omega
theorem PkInv.seen (h:PkInv ts ti te w gb go gf base A n c f ys v wr)(hg:wr.grownBy w1 v.ownBlock):
 w1.cell? ⟨gb,0,none⟩=some (.slice A n c)∧w1.cell? ⟨go,0,none⟩=some v∧w1.cell? ⟨gf,0,none⟩=some (.int .i64 (f:Int))∧w1.frozen? ⟨go,0,none⟩=false∧w1.frozen? ⟨gf,0,none⟩=false:=by
 have hv:∀g,v.ownBlock=some g→base≤g:=fun g e=>(h.own.lt g e).1
 have ne1:∀b,b < base→some b≠v.ownBlock:=fun b hb e=>by have:=hv b e.symm;omega
 obtain⟨i1,i2,i3⟩:=h.hi;have a1:=h.hb.grown hg (ne1 _ i1);have a2:=h.ho.grown hg (ne1 _ i2);have a3:=h.hf.grown hg (ne1 _ i3);exact⟨a1.cell 0,a2.cell 0,a3.cell 0,a2.free 0,a3.free 0⟩
theorem PkInv.cells (h:PkInv ts ti te w gb go gf base A n c f ys v wr):
 wr.cell? ⟨gb,0,none⟩=some (.slice A n c)∧wr.cell? ⟨go,0,none⟩=some v∧wr.cell? ⟨gf,0,none⟩=some (.int .i64 (f:Int))∧wr.frozen? ⟨go,0,none⟩=false∧wr.frozen? ⟨gf,0,none⟩=false:=
 h.seen (World.grownBy.refl wr _)
theorem PkInv.first (h:PkInv ts ti te w gb go gf base A n c f ys v wr)(e:Nat):PkInv ts ti te w gb go gf base A n c e ys v (wr.setCell ⟨gf,0,none⟩ (.int .i64 (e:Int))):=by
 obtain⟨l1,l2,l3⟩:=h.lo;obtain⟨i1,i2,i3⟩:=h.hi;obtain⟨n1,n2,n3⟩:=h.ne;refine⟨h.hb.far (fun e=>n2 e) _,h.ho.far (fun e=>n3 e) _,?_,ay h.own (ah wr gf 0 _) (fun g e e'=>by have:=(h.own.lt g e).1;injection e' with e';omega),?_,h.lo,h.hi,h.ne⟩
 · have:=h.hf.store 0 (.int .i64 (e:Int));simpa using this
 · exact af h.grown (ah wr gf 0 _) (.inr ⟨gf,rfl,l3⟩)
end
structure UnAt (te:TypeId)(w:World)(base:Nat)(most:Int)(xs:Bytes)(k:Nat)(ys:Bytes)(v:Value)(wr:World):Prop where
 own:wr.ownsRow base te 1 v ys.length (ys.map bv)
 grown:w.grownBy wr none
 at_:At w none v.ownBlock
 len:ys.length≤130 * k
 room:ys= []∨(ys.length:Int)≤most
 eq:unp most (xs.drop k) ys=unpack xs most
theorem drop_cons {xs:Bytes}{k:Nat}{x:UInt8}(hx:xs[k]?=some x):xs.drop k=x :: xs.drop (k+1):=by
 obtain⟨hl,hx'⟩:=List.getElem?_eq_some_iff.1 hx;rw[List.drop_eq_getElem_cons hl,hx']
section
variable {te : TypeId} {w wr w1 : World} {base k : Nat} {most : Int} {xs ys zs : Bytes} {v v1 : Value}
theorem UnAt.start (te:TypeId)(w:World)(base:Nat)(most:Int)(xs:Bytes):UnAt te w base most xs 0 [] (.slice none 0 0) w:=
 ⟨World.ownsRow_nil _ _ _ _,World.grownBy.refl w none,.inl rfl,Nat.zero_le _,.inl rfl,rfl⟩
theorem UnAt.done (h:UnAt te w base most xs k ys v wr)(hk:xs.length≤k):unpack xs most=(ys,0):=by
 have:=h.eq;rw[List.drop_eq_nil_of_le hk,DJ] at this;exact this.symm
theorem UnAt.lit {x:UInt8}(h:UnAt te w base most xs k ys v wr)(hx:xs[k]?=some x)(h7:x.toNat < 128):
 unpack xs most=if xs.length - (k+1) < x.toNat+1 then ([],9) else if most < (ys.length:Int)+x.toNat+1 then ([],2) else unp most (xs.drop (k+x.toNat+2)) (ys++(xs.drop (k+1)).take (x.toNat+1)):=by
 rw[←h.eq,drop_cons hx,DK h7,List.length_drop,List.drop_drop];rw[show k+1+(x.toNat+1)=k+x.toNat+2 from by omega]
theorem UnAt.litNext {x:UInt8}(h:UnAt te w base most xs k ys v wr)(hx:xs[k]?=some x)(h7:x.toNat < 128)(h1:k+x.toNat+2≤xs.length)(h2:(ys.length:Int)+x.toNat+1≤most)
 (hown:w1.ownsRow base te 1 v1 (ys.length+(x.toNat+1)) (ys.map bv++((xs.drop (k+1)).take (x.toNat+1)).map bv)) (hg:wr.grownBy w1 v.ownBlock) (hat:At wr v.ownBlock v1.ownBlock):
 UnAt te w base most xs (k+x.toNat+2) (ys++(xs.drop (k+1)).take (x.toNat+1)) v1 w1:=by
 have hl:(ys++(xs.drop (k+1)).take (x.toNat+1)).length=ys.length+(x.toNat+1):=by simp;omega
 refine⟨?_,af h.grown hg h.at_,h.at_.trans hat h.grown.size,?_,.inr ?_,?_⟩
 · rw[hl,List.map_append];exact hown
 · rw[hl];have:=h.len;omega
 · rw[hl];omega
 · have:=h.lit hx h7;rw[if_neg (by omega),if_neg (by omega)] at this;exact this.symm
theorem UnAt.one {x:UInt8}(h:UnAt te w base most xs k ys v wr)(hx:xs[k]?=some x)(h7:128≤x.toNat)(hl:xs.length≤k+1):unpack xs most=([],9):=by
 rw[←h.eq,drop_cons hx,List.drop_eq_nil_of_le hl,NW h7]
theorem UnAt.copy {x d:UInt8}(h:UnAt te w base most xs k ys v wr)(hx:xs[k]?=some x)(h7:128≤x.toNat)(hd:xs[k+1]?=some d):
 unpack xs most=if d.toNat=0∨ys.length < d.toNat then ([],11) else if most < (ys.length:Int)+x.toNat - 125 then ([],2) else unp most (xs.drop (k+2)) (copyOut ys d.toNat (x.toNat - 125)):=by
 rw[←h.eq,drop_cons hx,drop_cons hd,yh h7]
theorem UnAt.copyNext {x d:UInt8}(h:UnAt te w base most xs k ys v wr)(hx:xs[k]?=some x)(h7:128≤x.toNat)(hd:xs[k+1]?=some d)(h0:¬(d.toNat=0∨ys.length < d.toNat))(h2:(ys.length:Int)+x.toNat - 125≤most)
 (hz:zs=copyOut ys d.toNat (x.toNat - 125)) (hown:w1.ownsRow base te 1 v1 zs.length (zs.map bv)) (hg:w.grownBy w1 none) (hat:At w none v1.ownBlock):
 UnAt te w base most xs (k+2) zs v1 w1:=by
 have hl:zs.length=ys.length+(x.toNat - 125):=by rw[hz,vg]
 have hx8:=jg x;refine⟨hown,hg,hat,?_,.inr ?_,?_⟩
 · rw[hl];have:=h.len;omega
 · rw[hl];omega
 · have:=h.copy hx h7 hd;rw[if_neg h0,if_neg (by omega)] at this;rw[hz];exact this.symm
end
theorem YE {most:Int}(n:Nat):∀(l out:Bytes),l.length=n→(unp most l out).1.length≤out.length+130 * n:=by
 induction n using Nat.strongRecOn with
 |
  _ n ih=>
  intro l out hn
  match l with
  | []=>rw [DJ];simp
  |
   x :: t=>
   simp only[List.length_cons] at hn;have hx8:=jg x;by_cases h7:x.toNat < 128
   · rw[DK h7];split
     · simp
     · split
       · simp
       · rename_i h1 _
         have:=ih (t.drop (x.toNat+1)).length (by simp;omega) (t.drop (x.toNat+1)) (out++t.take (x.toNat+1)) rfl;simp only[List.length_append,List.length_drop,List.length_take] at this;omega
   · match t with
     | []=>rw [NW (by omega)];simp
     |
      d :: u=>
      rw[yh (by omega)];split
      · simp
      · split
        · simp
        · have:=ih u.length (by simp at hn;omega) u (copyOut out d.toNat (x.toNat - 125)) rfl;rw[vg] at this;simp only[List.length_cons] at hn;omega
theorem JY (l:Bytes)(most:Int):(unpack l most).1.length≤130 * l.length:=by
 have:=YE (most:=most) _ l [] rfl;unfold unpack;simpa using this
structure CpAt (te:TypeId)(w:World)(base:Nat)(ys:Bytes)(d N j:Nat)(zs:Bytes)(v:Value)(wr:World):Prop where
 own:wr.ownsRow base te 1 v zs.length (zs.map bv)
 grown:w.grownBy wr none
 at_:At w none v.ownBlock
 len:zs.length=ys.length+j
 le:j≤N
 eq:copyOut zs d (N - j)=copyOut ys d N
section
variable {te : TypeId} {w wr w1 : World} {base d N j : Nat} {ys zs : Bytes} {v v1 : Value}
theorem CpAt.get (h:CpAt te w base ys d N j zs v wr)(hd:1≤d)(hdy:d≤ys.length):∃y,zs[zs.length - d]?=some y:=by
 have:=h.len;exact⟨_,List.getElem?_eq_getElem (by omega)⟩
theorem CpAt.next {y:UInt8}(h:CpAt te w base ys d N j zs v wr)(hj:j < N)(hy:zs[zs.length - d]?=some y)
 (hown:w1.ownsRow base te 1 v1 (zs.length+1) (zs.map bv++ [bv y])) (hg:wr.grownBy w1 v.ownBlock) (hat:At wr v.ownBlock v1.ownBlock):
 CpAt te w base ys d N (j+1) (zs++ [y]) v1 w1:=by
 refine⟨?_,af h.grown hg h.at_,h.at_.trans hat h.grown.size,by rw[List.length_append,h.len];rfl,hj,?_⟩
 · rw[List.length_append,List.map_append];exact hown
 · rw[←h.eq,show N - j=(N - (j+1))+1 from by omega,copyOut,hy];rfl
theorem CpAt.done (h:CpAt te w base ys d N j zs v wr)(hj:N≤j):zs=copyOut ys d N:=by
 have:=h.eq;rw[show N - j=0 from by omega] at this;exact this
end
end Iv
namespace Go.Proofs.YtfbkkgfkhhibfaaGreat
open Go Go.RowKit Iv
end Go.Proofs.YtfbkkgfkhhibfaaGreat
namespace Iv
open Go Go.RowKit
theorem ad6 {x:Nat}(h:x < 18446744073709551616):18446744073709551615 ^^^ x=18446744073709551615 - x:=by
 refine Nat.eq_of_testBit_eq fun i=>?_
 have e1:(18446744073709551615:Nat)=2 ^ 64 - 1:=by decide
 have e2:18446744073709551615 - x=2 ^ 64 - (x+1):=by omega
 rw[e2,Nat.testBit_xor,e1,Nat.testBit_two_pow_sub_one,Nat.testBit_two_pow_sub_succ (by omega)];by_cases hi:i < 64
 · simp[hi]
 · have:x.testBit i=false:=Nat.testBit_lt_two_pow (Nat.lt_of_lt_of_le h (by
    rw[show (18446744073709551616:Nat)=2 ^ 64 from by decide];exact Nat.pow_le_pow_right (by omega) (by omega)))
   simp[hi,this]
theorem TF {m:Int}(h:inI64 m)(h0:¬m < 0):IntKind.u64.wrap (IntKind.u64.wrap m * 2)=((BC m:Nat):Int):=by
 unfold inI64 at h;unfold BC;rw[if_neg h0,IntKind.wrap_u64,IntKind.wrap_u64];omega
theorem H6 {m:Int}(h:inI64 m)(h0:m < 0):bits .xor .u64 IntKind.u64.max (IntKind.u64.wrap (IntKind.u64.wrap m * 2))=((BC m:Nat):Int):=by
 unfold inI64 at h
 have e:IntKind.u64.wrap (IntKind.u64.wrap m * 2)=(((2 * m+18446744073709551616).toNat:Nat):Int):=by
  rw[IntKind.wrap_u64,IntKind.wrap_u64];omega
 rw[e];have hx:=u64_xor_nat 18446744073709551615 ((2 * m+18446744073709551616).toNat) (by omega) (by omega);rw[ad6 (by omega)] at hx;refine Eq.trans ?_ (hx.trans ?_)
 · rfl
 · unfold BC;rw[if_pos h0];omega
theorem ad7 (b:Nat)(h:b < 256):b ||| 128=b % 128+128:=by
 have:∀b:Fin 256,b.val ||| 128=b.val % 128+128:=by decide+kernel
 exact this ⟨b,h⟩
theorem yF (u:Nat):bits .or .u8 ((u:Int) % 256) 128=((u % 128+128:Nat):Int):=by
 have h:=u8_or_nat (u % 256) 128 (by omega) (by omega);rw[ad7 _ (by omega)] at h;refine Eq.trans ?_ (h.trans ?_)
 · rfl
 · omega
theorem aam (k:Nat):(2:Nat) ^ (7 * k)=128 ^ k:=by rw[Nat.pow_mul]
theorem H7 {x k:Nat}(hx:x < 128)(hk:k≤9)(h9:k=9→x≤1):x * 128 ^ k < 18446744073709551616:=by
 by_cases h:k=9
 · have:=h9 h;subst h;have:(128:Nat) ^ 9=9223372036854775808:=by decide
   rw[this];omega
 · have h1:(128:Nat) ^ k≤128 ^ 8:=Nat.pow_le_pow_right (by omega) (by omega);have h2:(128:Nat) ^ 8=72057594037927936:=by decide
   have h3:x * 128 ^ k≤127 * 128 ^ 8:=Nat.mul_le_mul (by omega) h1;omega
theorem Xc {acc k x:Nat}(hacc:acc < 128 ^ k)(hk:k≤9)(h9:k=9→x % 128≤1):
 bits .or .u64 (acc:Int) (IntKind.u64.wrap ((x:Int) % 128 * 2 ^ (7 * k)))=((acc+x % 128 * 128 ^ k:Nat):Int)∧acc+x % 128 * 128 ^ k < 18446744073709551616:=by
 have hs:=H7 (x:=x % 128) (by omega) hk h9;have hp:(128:Nat) ^ k≤128 ^ 9:=Nat.pow_le_pow_right (by omega) hk;have h9':(128:Nat) ^ 9=9223372036854775808:=by decide
 have e:((x:Int) % 128 * 2 ^ (7 * k))=((x % 128 * 128 ^ k:Nat):Int):=by
  rw[←aam];push_cast;rfl
 have hw:IntKind.u64.wrap ((x:Int) % 128 * 2 ^ (7 * k))=((x % 128 * 128 ^ k:Nat):Int):=by
  rw[e,IntKind.wrap_u64];omega
 have hj:acc ||| x % 128 * 128 ^ k=acc+x % 128 * 128 ^ k:=by
  rw[Nat.or_comm,nat_join (7 * k) (x % 128 * 128 ^ k) acc (by rw[aam];exact Nat.mul_mod_left _ _) (by rw[aam];exact hacc),Nat.add_comm]
 refine⟨?_,?_⟩
 · rw[hw,u64_or_nat acc _ (by omega) hs,hj]
 · have hm:acc+x % 128 * 128 ^ k < 128 ^ k+x % 128 * 128 ^ k:=by omega
   by_cases h:k=9
   · have:=h9 h;subst h;rw[h9'] at hacc hm hs⊢;omega
   · have h1:(128:Nat) ^ k≤128 ^ 8:=Nat.pow_le_pow_right (by omega) (by omega);have h2:(128:Nat) ^ 8=72057594037927936:=by decide
     have h3:x % 128 * 128 ^ k≤127 * 128 ^ 8:=Nat.mul_le_mul (by omega) h1;omega
end Iv
theorem ae {p : Prop} (h : p) : Go.RowKit.Hid p := h
namespace Go.Proofs.YtfbkkgfkhhibfaaGreat
open Go Go.RowKit Iv
theorem yN (base:Nat)(v:Value)(o:Option Nat)(xs:Bytes)(m:Int)(w:World)(akn:App w base 5 1 v o xs.length (xs.map bv))(hm:inI64 m)(hx:xs.length≤1000000000000)(hbase:base≤w.heap.size):
 Calls Tryz.prog 111 #[v,.int .i64 m] w fun e w'=>∃v',e= .returned v'∧w'.ownsRow base 5 1 v' (xs++aF m).length ((xs++aF m).map bv)∧w.grownBy w' o∧At w o v'.ownBlock:=by
 obtain⟨i0,hi,hz0,hz1,hz2⟩:=info_parts jG;have HI:=ae hi;have HZ0:=ae hz0;have HZ1:=ae hz1;have HZ2:=ae hz2;clear hi hz0 hz1 hz2;have hzl:=yf hm.1 hm.2;have HQ:=ae (show aF m=iC (BC m) from rfl);have hlen:=aJ hm;have hup:¬m < 0→IntKind.u64.wrap (IntKind.u64.wrap m * 2)=((BC m:Nat):Int):=TF hm;have hdn:m < 0→bits .xor .u64 IntKind.u64.max (IntKind.u64.wrap (IntKind.u64.wrap m * 2))=((BC m:Nat):Int):=H6 hm;have HM:=ae hm;clear hm;go_enter Tryz.func111,Tryz.ntmps111;by_cases hneg:m < 0
 all_goals
  first | (have hd:=hdn hneg) | (have hd:=hup hneg)
  clear hup hdn;generalize BC m=q0 at *
  go_wp2;clear hd
  go_loopw [0,5] (fun b u wr=>∃(o':Option Nat) (ys:Bytes) (q:Nat),u= .int .u64 (q:Int)∧App wr base 5 1 b o' ys.length (ys.map bv)∧ys++iC q=xs++iC q0∧w.grownBy wr o∧At w o o'∧base≤wr.heap.size)
   (fun _ u _=>(intOf u).toNat)
  case atStart=>exact ⟨o,xs,q0,rfl,akn,rfl,World.grownBy.refl w o,.inl rfl,hbase⟩
  case round=>
   obtain⟨o',ys,q,rfl,hap,heq,hgr,hat,hbr⟩:=hrel;have HE:=ae heq;have hll:=congrArg List.length heq;simp only[List.length_append] at hll
   have hyl:ys.length+1≤1000000000100:=by
    have:=lY q;have:aF m=iC q0:=HQ.out;rw[this] at hlen;omega
   clear heq hll;by_cases hq:128≤q
   · have hor:=yF q;have HV:=ae (mY hq);have hz:(0:Nat) < 1:=by omega
     go_wp2_with (at_builtin;refine bP _ rfl (.tmp 15) (.tmp 19) _ rfl base 5 i0 (.int .u8 0) 1 1 Tryz.underlying22 HI.out HZ0.out HZ1.out HZ2.out rfl hz _ o' ys.length (ys.map bv) rfl (hap.alloc _) ⟨wr.heap.size,0,none⟩ 1 1 [.int .u8 ((q:Int) % 128+128)] rfl hz rfl (fM _ _ _) (Az rfl) (by unfold maxLen;omega) (by omega) (by simp;omega) ?_;intro v' w1 hown1 hg1 jT)
     have hb:Value.int .u8 ((q:Int) % 128+128)=bv (UInt8.ofNat (q % 128+128)):=by
      unfold bv;rw[aN (by omega)];rfl
     rw[hb] at hown1;have hg2:=bQ hg1;have lL:=jT.alloc;clear hg1 jT hor hb;go_roundw
     case rel=>
      refine⟨v'.ownBlock,ys++ [UInt8.ofNat (q % 128+128)],q / 128,by go_num,?_,?_,af hgr hg2 hat,hat.trans lL hgr.size,Nat.le_trans hbr hg2.size⟩
      · rw[List.length_append,List.map_append];exact App.own hown1
      · rw[List.append_assoc,←HE.out,HV.out];rfl
     case measure=>simp [intOf];omega
   · have hz:(0:Nat) < 1:=by omega
     have HV:=ae (mX (show q < 128 by omega));go_wp2_with (at_builtin;refine bP _ rfl (.tmp 23) (.tmp 26) _ rfl base 5 i0 (.int .u8 0) 1 1 Tryz.underlying22 HI.out HZ0.out HZ1.out HZ2.out rfl hz _ o' ys.length (ys.map bv) rfl (hap.alloc _) ⟨wr.heap.size,0,none⟩ 1 1 [.int .u8 (q:Int)] rfl hz rfl (fM _ _ _) (Az rfl) (by unfold maxLen;omega) (by omega) (by simp;omega) ?_;intro v' w1 hown1 hg1 jT)
     have hb:Value.int .u8 (q:Int)=bv (UInt8.ofNat q):=by
      unfold bv;rw[aN (by omega)]
     rw[hb] at hown1
     have HF:xs++aF m=ys++ [UInt8.ofNat q]:=by
      rw[show aF m=iC q0 from HQ.out,←HE.out,HV.out]
     have hfin:w1.ownsRow base 5 1 v' (xs++aF m).length ((xs++aF m).map bv):=by
      rw[HF,List.length_append,List.map_append];exact hown1
     have HF2:=ae hfin;clear hfin HF hb hown1;go_ret;exact⟨v',rfl,HF2.out,af hgr (bQ hg1) hat,hat.trans jT.alloc hgr.size⟩
theorem LH (A:Option Addr)(n c B:Nat)(xs:Bytes)(m:Int)(w:World)(h:Lies w B 1 A n (xs.map bv))(hnc:n≤c)(hm:inI64 m)(hx:n≤1000000000000)(base:Nat)(hbase:base≤w.heap.size):
 Calls Tryz.prog 81 #[.slice A n c,.int .i64 m] w fun e w'=>∃v',e= .returned v'∧w'.ownsRow base 5 1 v' (xs++aF m).length ((xs++aF m).map bv)∧w.grownBy w' none∧At w none v'.ownBlock:=by
 have HL:=ae h.lenB;have hc1:=yN base (.slice A n n) none xs m w (by rw[HL.out];exact App.cut h) hm (by rw[HL.out];exact hx) hbase;have HC:=ae hc1;clear hc1 hm;have h0:(0:Int)≤(n:Int):=by omega
 go_enter Tryz.func81,Tryz.ntmps81;go_wp2_with fail;refine HC.out.mono ?_;rintro e w1 ⟨v',rfl,hown,hg,hat⟩;go_wp2_with fail;go_ret;exact⟨v',rfl,hown,hg,hat⟩
theorem oD (A:Option Addr)(n c B:Nat)(xs:Bytes)(m:Int)(w:World)(h:Lies w B 1 A n (xs.map bv))(ho:A=none→c=0)(hm:inI64 m)(hx:n≤1000000000000)(base:Nat)(hbase:base≤w.heap.size):
 Calls Tryz.prog 63 #[.slice A n c,.int .i64 m] w fun e w'=>∃v',e= .returned v'∧w'.ownsRow base 5 1 v' (xs++aF m).length ((xs++aF m).map bv)∧w.grownBy w' none∧At w none v'.ownBlock:=by
 obtain⟨i0,hi,hz0,hz1,hz2⟩:=info_parts jG;have HI:=ae hi;have HZ0:=ae hz0;have HZ1:=ae hz1;have HZ2:=ae hz2;clear hi hz0 hz1 hz2;have HX:=ae h.lenB;have HO:=ae ho;clear ho;have hzl:=yf hm.1 hm.2;have HQ:=ae (show aF m=iC (BC m) from rfl);have hlen:=aJ hm;have hup:¬m < 0→IntKind.u64.wrap (IntKind.u64.wrap m * 2)=((BC m:Nat):Int):=TF hm;have hdn:m < 0→bits .xor .u64 IntKind.u64.max (IntKind.u64.wrap (IntKind.u64.wrap m * 2))=((BC m:Nat):Int):=H6 hm;have hz:(0:Nat) < 1:=by omega
 clear hm;go_enter Tryz.func63,Tryz.ntmps63;by_cases hneg:m < 0
 all_goals
  first | (have hd:=hdn hneg) | (have hd:=hup hneg)
  clear hup hdn;generalize BC m=q0 at *
  go_wp2_with (at_builtin;refine bU _ rfl (.tmp 14) (.tmp 15) _ rfl base 5 i0 (.int .u8 0) 1 1 Tryz.underlying22 HI.out HZ0.out HZ1.out HZ2.out rfl hz _ 0 [] rfl (qG w base 5 1 hbase) B A n c (xs.map bv) rfl (h.allocAny _) HO.out (lS _) (by unfold maxLen;omega) (by omega) (by simp;omega) ?_;intro v0 w0 hown0 hg0 agH);have hg0':=IY hg0 (Nat.le_refl _) none;have agI:=agH.ofNew (Nat.le_refl _)
  have hA0:App w0 base 5 1 v0 v0.ownBlock xs.length (xs.map bv):=by
   rw[HX.out];have:=App.own hown0;rwa [Nat.zero_add,List.nil_append] at this
  clear hd hown0 hg0 agH
  go_loopw [5,6] (fun u b wr=>∃(o':Option Nat) (ys:Bytes) (q:Nat),u= .int .u64 (q:Int)∧App wr base 5 1 b o' ys.length (ys.map bv)∧ys++iC q=xs++iC q0∧w.grownBy wr none∧At w none o'∧base≤wr.heap.size)
   (fun u _ _=>(intOf u).toNat)
  case atStart=>exact ⟨v0.ownBlock,xs,q0,rfl,hA0,rfl,hg0',agI,Nat.le_trans hbase hg0'.size⟩
  case round=>
   obtain⟨o',ys,q,rfl,hap,heq,hgr,hat,hbr⟩:=hrel;have HE:=ae heq;have hll:=congrArg List.length heq;simp only[List.length_append] at hll
   have hyl:ys.length+1≤1000000000100:=by
    have:=lY q;have:aF m=iC q0:=HQ.out;rw[this] at hlen;have:=HX.out;omega
   clear heq hll;by_cases hq:128≤q
   · have hor:=yF q;have HV:=ae (mY hq);have hz:(0:Nat) < 1:=by omega
     go_wp2_with (at_builtin;refine bP _ rfl (.tmp 19) (.tmp 23) _ rfl base 5 i0 (.int .u8 0) 1 1 Tryz.underlying22 HI.out HZ0.out HZ1.out HZ2.out rfl hz _ o' ys.length (ys.map bv) rfl (hap.alloc _) ⟨wr.heap.size,0,none⟩ 1 1 [.int .u8 ((q:Int) % 128+128)] rfl hz rfl (fM _ _ _) (Az rfl) (by unfold maxLen;omega) (by omega) (by simp;omega) ?_;intro v' w1 hown1 hg1 jT)
     have hb:Value.int .u8 ((q:Int) % 128+128)=bv (UInt8.ofNat (q % 128+128)):=by
      unfold bv;rw[aN (by omega)];rfl
     rw[hb] at hown1;have hg2:=bQ hg1;have lL:=jT.alloc;clear hg1 jT hor hb;go_roundw
     case rel=>
      refine⟨v'.ownBlock,ys++ [UInt8.ofNat (q % 128+128)],q / 128,by go_num,?_,?_,af hgr hg2 hat,hat.trans lL hgr.size,Nat.le_trans hbr hg2.size⟩
      · rw[List.length_append,List.map_append];exact App.own hown1
      · rw[List.append_assoc,←HE.out,HV.out];rfl
     case measure=>simp [intOf];omega
   · have hz:(0:Nat) < 1:=by omega
     have HV:=ae (mX (show q < 128 by omega));go_wp2_with (at_builtin;refine bP _ rfl (.tmp 27) (.tmp 30) _ rfl base 5 i0 (.int .u8 0) 1 1 Tryz.underlying22 HI.out HZ0.out HZ1.out HZ2.out rfl hz _ o' ys.length (ys.map bv) rfl (hap.alloc _) ⟨wr.heap.size,0,none⟩ 1 1 [.int .u8 (q:Int)] rfl hz rfl (fM _ _ _) (Az rfl) (by unfold maxLen;omega) (by omega) (by simp;omega) ?_;intro v' w1 hown1 hg1 jT)
     have hb:Value.int .u8 (q:Int)=bv (UInt8.ofNat q):=by
      unfold bv;rw[aN (by omega)]
     rw[hb] at hown1
     have HF:xs++aF m=ys++ [UInt8.ofNat q]:=by
      rw[show aF m=iC q0 from HQ.out,←HE.out,HV.out]
     have hfin:w1.ownsRow base 5 1 v' (xs++aF m).length ((xs++aF m).map bv):=by
      rw[HF,List.length_append,List.map_append];exact hown1
     have HF2:=ae hfin;clear hfin HF hb hown1;go_ret;exact⟨v',rfl,HF2.out,af hgr (bQ hg1) hat,hat.trans jT.alloc hgr.size⟩
theorem Jz (c:Nat)(h:c < 4294967296):bits .and .u32 (c:Int) 1=((c % 2:Nat):Int):=by
 have:=u32_and_nat c 1 h (by omega);rw[nat_mask1] at this;exact this
theorem VO (A:Option Addr)(n c:Nat)(xs:Bytes)(w:World)(B:Nat)(h:Lies w B 1 A n (xs.map bv))(hn:n≤1000000000000):
 Calls Tryz.prog 114 #[.slice A n c] w fun e w'=>e= .returned (.int .u32 (xg xs:Nat))∧w=w':=by
 have HL:=ae h.lenB;go_enter Tryz.func114,Tryz.ntmps114;go_wp2;go_loop [3,5,6,9,17] (fun s _ _ i _=>∃k:Nat,i= .int .i64 k∧k≤n∧s= .int .u32 (eu 4294967295 (xs.take k):Nat)) (fun _ _ _ i _=>n - (intOf i).toNat)
 case atStart=>exact ⟨0,rfl,by omega,rfl⟩
 case round=>
  obtain⟨k,rfl,hk,rfl⟩:=hrel;by_cases hlt:k < n
  · obtain⟨ad,x,rfl,hb1,hx,hc⟩:=h.byte hlt;have hS:=kL (xs.take k) (c:=4294967295) (by omega);have hbx:=jg x;have HT:=ae (show eu 4294967295 (xs.take (k+1))=fK 8 (eu 4294967295 (xs.take k) ^^^ x.toNat) from by rw[mJ hx,oM];rfl);clear hx;generalize eu 4294967295 (xs.take k)=s at *
    have acg:=u32_xor_nat s x.toNat hS (by omega);have hD:=oK hS (show x.toNat < 4294967296 from by omega);go_wp2;go_loop [3,6,17] (fun s' _ j=>∃m:Nat,j= .int .i64 m∧m≤8∧s'= .int .u32 (fK m (s ^^^ x.toNat):Nat)) (fun _ _ j=>8 - (intOf j).toNat)
    case atStart=>exact ⟨0,rfl,by omega,rfl⟩
    case round=>
     obtain⟨m,rfl,hm,rfl⟩:=hrel;have hM:=oL m hD;have HM:=ae (qB m (s ^^^ x.toNat));generalize hy0:fK m (s ^^^ x.toNat)=y at *
     have HY0:=ae hy0;clear hy0;have hand:=Jz y hM;have hodd:bits .xor .u32 ((y:Int) / 2) 3988292384=((y / 2 ^^^ 3988292384:Nat):Int):=u32_xor_nat (y / 2) 3988292384 (by omega) (by omega);by_cases hm8:m < 8
     · rcases Nat.mod_two_eq_zero_or_one y with hy | hy
       · have hne:(((y:Int) % 2) !=0)=false:=by rw[bne_eq_false_iff_eq];omega
         have HY:=ae (show ig y=y / 2 from by unfold ig;rw[if_neg (by omega)]);clear hy;go_wp2;go_round
         case rel=>exact ⟨m+1,by go_num,by omega,by rw[HM.out,HY.out];go_num⟩
         case measure=>simp [intOf];omega
       · have hne:(((y:Int) % 2) !=0)=true:=by rw[bne_iff_ne];omega
         have HY:=ae (show ig y=(y / 2) ^^^ 3988292384 from by unfold ig;rw[if_pos hy]);clear hy;go_wp2;go_round
         case rel=>exact ⟨m+1,by go_num,by omega,by rw[HM.out,HY.out]⟩
         case measure=>simp [intOf];omega
     · have hm9:m=8:=by omega
       subst hm9;go_wp2;go_round
       case rel=>exact ⟨k+1,by go_num,by omega,by rw[HT.out,HY0.out]⟩
       case measure=>simp [intOf];omega
  · have hkn:k=n:=by omega
    subst hkn;have hS:=kL (xs.take k) (c:=4294967295) (by omega);have HT:=ae (show xg xs=4294967295 ^^^ eu 4294967295 (xs.take k) from by unfold xg;rw[List.take_of_length_le (by have:=HL.out;omega)]);generalize eu 4294967295 (xs.take k)=s at *
    have acg:bits .xor .u32 IntKind.u32.max (s:Int)=((4294967295 ^^^ s:Nat):Int):=u32_xor_nat 4294967295 s (by omega) hS;go_wp2;go_ret;exact⟨bg (by rw[HT.out]),rfl⟩
theorem Td (A:Option Addr)(n c:Nat)(xs:Bytes)(w:World)(B:Nat)(h:Lies w B 1 A n (xs.map bv))(hn:n≤1000000000000):
 Calls Tryz.prog 48 #[.slice A n c] w fun e w'=>e= .returned (.int .u32 (xg xs:Nat))∧w=w':=by
 have HL:=ae h.lenB;go_enter Tryz.func48,Tryz.ntmps48;go_wp2;go_loop [3,4,5] (fun s i _=>∃k:Nat,i= .int .i64 k∧k≤n∧s= .int .u32 (eu 4294967295 (xs.take k):Nat)) (fun _ i _=>n - (intOf i).toNat)
 case atStart=>exact ⟨0,rfl,by omega,rfl⟩
 case round=>
  obtain⟨k,rfl,hk,rfl⟩:=hrel;by_cases hlt:k < n
  · obtain⟨ad,x,rfl,hb1,hx,hc⟩:=h.byte hlt;have hS:=kL (xs.take k) (c:=4294967295) (by omega);have hbx:=jg x;have HT:=ae (show eu 4294967295 (xs.take (k+1))=fK 8 (eu 4294967295 (xs.take k) ^^^ x.toNat) from by rw[mJ hx,oM];rfl);clear hx;generalize eu 4294967295 (xs.take k)=s at *
    have acg:=u32_xor_nat s x.toNat hS (by omega);have hD:=oK hS (show x.toNat < 4294967296 from by omega);go_wp2;go_loop [3,5] (fun s' j=>∃m:Nat,j= .int .i64 m∧m≤8∧s'= .int .u32 (fK m (s ^^^ x.toNat):Nat)) (fun _ j=>8 - (intOf j).toNat)
    case atStart=>exact ⟨0,rfl,by omega,rfl⟩
    case round=>
     obtain⟨m,rfl,hm,rfl⟩:=hrel;have hM:=oL m hD;have HM:=ae (qB m (s ^^^ x.toNat));generalize hy0:fK m (s ^^^ x.toNat)=y at *
     have HY0:=ae hy0;clear hy0;have hand:=Jz y hM;have hodd:bits .xor .u32 ((y:Int) / 2) 3988292384=((y / 2 ^^^ 3988292384:Nat):Int):=u32_xor_nat (y / 2) 3988292384 (by omega) (by omega);by_cases hm8:m < 8
     · rcases Nat.mod_two_eq_zero_or_one y with hy | hy
       · have hne:(((y:Int) % 2)==1)=false:=by rw[beq_eq_false_iff_ne];omega
         have HY:=ae (show ig y=y / 2 from by unfold ig;rw[if_neg (by omega)]);clear hy;go_wp2;go_round
         case rel=>exact ⟨m+1,by go_num,by omega,by rw[HM.out,HY.out];go_num⟩
         case measure=>simp [intOf];omega
       · have hne:(((y:Int) % 2)==1)=true:=by rw[beq_iff_eq];omega
         have HY:=ae (show ig y=(y / 2) ^^^ 3988292384 from by unfold ig;rw[if_pos hy]);clear hy;go_wp2;go_round
         case rel=>exact ⟨m+1,by go_num,by omega,by rw[HM.out,HY.out]⟩
         case measure=>simp [intOf];omega
     · have hm9:m=8:=by omega
       subst hm9;go_wp2;go_round
       case rel=>exact ⟨k+1,by go_num,by omega,by rw[HT.out,HY0.out]⟩
       case measure=>simp [intOf];omega
  · have hkn:k=n:=by omega
    subst hkn;have hS:=kL (xs.take k) (c:=4294967295) (by omega);have HT:=ae (show xg xs=4294967295 ^^^ eu 4294967295 (xs.take k) from by unfold xg;rw[List.take_of_length_le (by have:=HL.out;omega)]);generalize eu 4294967295 (xs.take k)=s at *
    have acg:bits .xor .u32 (s:Int) 4294967295=((4294967295 ^^^ s:Nat):Int):=by rw[Nat.xor_comm];exact u32_xor_nat s 4294967295 hS (by omega)
    go_wp2;go_ret;exact⟨bg (by rw[HT.out]),rfl⟩
