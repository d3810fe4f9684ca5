/- Words. -/
import Derived.Test.YtfbkkgfkhhibfaaGreatAppR
set_option linter.unusedVariables false
set_option maxRecDepth 100000
set_option maxHeartbeats 8000000
namespace Go.Proofs.YtfbkkgfkhhibfaaGreat
open Go Go.RowKit Iv
structure RecHere (w:World)(B b o:Nat)(r:Rec)(Ad:Option Addr)(nd cd:Nat)(Af:Option Addr)(nf cf:Nat):Prop where
 cells:∀j u,(recV r Ad nd cd Af nf cf)[j]?=some u->w.cell? ⟨b,o+j,none⟩=some u
 ld:Lies w B 1 Ad nd (r.ev.deps.map iv)
 lf:Lies w B 1 Af nf (r.ev.from_.map iv)
def Recs (w:World)(B:Nat)(A:Option Addr)(n:Nat)(rs:List Rec):Prop:=
 rs.length=n/\∀k r,rs[k]?=some r->∃(b o:Nat) (Ad:Option Addr) (nd cd:Nat) (Af:Option Addr) (nf cf:Nat),A=some ⟨b,o,none⟩/\b<B/\RecHere w B b (o+k*8) r Ad nd cd Af nf cf
section
variable {w w' : World} {B B' n : Nat} {A : Option Addr} {rs : List Rec}
theorem RecHere.same {b o:Nat}{r:Rec}{Ad:Option Addr}{nd cd:Nat}{Af:Option Addr}{nf cf:Nat}(h:RecHere w B b o r Ad nd cd Af nf cf)(hb:b<B)(hk:∀p:Addr,p.block<B->w'.cell? p=w.cell? p):RecHere w' B b o r Ad nd cd Af nf cf:=
 ⟨λj u a=>(hk _ hb).trans (h.cells j u a),h.ld.same hk,h.lf.same hk⟩
theorem Recs.same (h:Recs w B A n rs)(hk:∀p:Addr,p.block<B->w'.cell? p=w.cell? p):Recs w' B A n rs:=
 ⟨h.1,λk r hr=>by
  obtain⟨b,o,Ad,nd,cd,Af,nf,cf,e,hb,h2⟩:=h.2 k r hr
  exact⟨b,o,Ad,nd,cd,Af,nf,cf,e,hb,h2.same hb hk⟩⟩
theorem Recs.drew (h:Recs w B A n rs):Recs w.drew B A n rs:=h.same λ_ _=>rfl
theorem Recs.alloc (h:Recs w B A n rs)(hB:B<=w.heap.size)(o:Obj):Recs (w.alloc o) B A n rs:=h.same λp a=>Jq w o p (by omega)
theorem Recs.grown (h:Recs w B A n rs){row:Option Nat}(hg:w.grownBy w' row)(hB:B<=w.heap.size)(hr:∀g,row=some g->B<=g):Recs w' B A n rs:=
 h.same λp a=>lW (hg.block p.block (by omega) (λe=>by have:=hr _ e.symm;omega))
theorem RecHere.grown {b o:Nat}{r:Rec}{Ad:Option Addr}{nd cd:Nat}{Af:Option Addr}{nf cf:Nat}(h:RecHere w B b o r Ad nd cd Af nf cf)(hb:b<B){row:Option Nat}(hg:w.grownBy w' row)(hB:B<=w.heap.size)(hr:∀g,row=some g->B<=g):RecHere w' B b o r Ad nd cd Af nf cf:=
 h.same hb λp a=>lW (hg.block p.block (by omega) (λe=>by have:=hr _ e.symm;omega))
theorem Recs.at {k:Nat}(h:Recs w B A n rs)(hk:k<n):∃(b o:Nat) (r:Rec) (Ad:Option Addr) (nd cd:Nat) (Af:Option Addr) (nf cf:Nat),A=some ⟨b,o,none⟩/\b<B/\rs[k]?=some r/\RecHere w B b (o+k*8) r Ad nd cd Af nf cf:=by have a:k<rs.length:=(by rw[h.1];exact hk);obtain⟨b,o,Ad,nd,cd,Af,nf,cf,e,hb,h2⟩:=h.2 k rs[k] (aV a);exact⟨b,o,rs[k],Ad,nd,cd,Af,nf,cf,e,hb,aV a,h2⟩
end
theorem RecHere.all {w:World}{B b o:Nat}{r:Rec}{Ad:Option Addr}{nd cd:Nat}{Af:Option Addr}{nf cf:Nat}(h:RecHere w B b o r Ad nd cd Af nf cf):
 w.cell? ⟨b,o,none⟩=some (.int .i64 r.seq)/\w.cell? ⟨b,o+1,none⟩=some (.int .i64 r.ev.thread)/\w.cell? ⟨b,o+2,none⟩=some (.int .i64 r.ev.kind)/\w.cell? ⟨b,o+3,none⟩=some (.int .i64 r.ev.obj)/\
 w.cell? ⟨b,o+4,none⟩=some (.int .i64 r.ev.value)/\w.cell? ⟨b,o+5,none⟩=some (.int .i64 r.ev.site)/\w.cell? ⟨b,o+6,none⟩=some (.slice Ad nd cd)/\w.cell? ⟨b,o+7,none⟩=some (.slice Af nf cf):=
 ⟨h.cells 0 (.int .i64 r.seq) rfl,h.cells 1 _ rfl,h.cells 2 _ rfl,h.cells 3 _ rfl,h.cells 4 _ rfl,h.cells 5 _ rfl,h.cells 6 _ rfl,h.cells 7 _ rfl⟩
end Go.Proofs.YtfbkkgfkhhibfaaGreat
namespace Iv
structure MadeOk (x:Blk):Prop where
 t0:0<=x.thread
 t4:x.thread<4
 f0:0<=x.first
 f4:x.first<=400
 len:x.recs.length<=64
 ok:okRecs x.thread (-1) x.recs=true
 fit:∀r∈x.recs,RecFit r
 sh:∀r∈x.recs,r.ev.deps.length<=100/\r.ev.from_.length<=100
theorem MadeOk.recOk {x:Blk}(h:MadeOk x):∀r∈x.recs,RecOk r:=yH h.ok h.fit
theorem Il (l:List Int)(h:l.length<=100):(kZ l).length<=1010:=by unfold kZ;have:=uZ l 0;have:=aK (n:=(l.length:Int)) ⟨by omega,by omega⟩;simp only[bG];omega
theorem KZ (l:List Rec):∀seq,(∀r∈l,RecOk r/\r.ev.deps.length<=100/\r.ev.from_.length<=100)->(aX seq l).length<=2070*l.length:=by
 induction l with
 |nil=>intro seq _;simp[aX]
 |
  cons r t ih=>
  intro seq h;obtain⟨h0,h1,h2⟩:=h r (by simp);have h3:=ih r.seq λq a=>h q (by simp[a]);have:=aK (dR (r.seq-seq));have:=aK h0.kind;have:=aK h0.obj;have:=aK h0.value;have:=aK h0.site;have:=Il _ h1;have:=Il _ h2;simp only[aX,bQ,bG,iO];omega
theorem MadeOk.bytes {x:Blk}(h:MadeOk x):(encode x).1.length<=200000:=by unfold encode;split;rename_i hf;have d:=h.len;obtain⟨z0,u,y,z3,z4,A,B⟩:=fF hf;have a:=KZ x.recs (-1) (λr hr=>⟨h.recOk r hr,h.sh r hr⟩);have D:=fC (aX (-1) x.recs);have E:=aK (n:=x.first) ⟨by omega,by omega⟩;have G:=aK (n:=(x.recs.length:Int)) ⟨by omega,by omega⟩;have H:=aK (n:=((aX (-1) x.recs).length:Int)) ⟨by omega,by omega⟩;have I:=aK (n:=((pack (aX (-1) x.recs)).length:Int)) ⟨by omega,by omega⟩;show (ak x).length<=_;unfold ak bg iD;simp only[bG,iO,lM];omega;simp
structure EvOk (n:Nat)(k:Int)(e:Ev):Prop where
 th0:0<=e.thread
 thn:e.thread<n
 kd1:1<=e.kind
 kd23:e.kind<=23
 obj:inI64 e.obj
 val:inI64 e.value
 s0: -1<=e.site
 s1:e.site<=60
 dp:(e.deps.length:Int)<=k/\∀x∈e.deps,0<=x/\x<k
 fr:(e.from_.length:Int)<=k/\∀x∈e.from_,0<=x/\x<k
theorem EvOk.fit {n:Nat}{k:Nat}{e:Ev}(h:EvOk n k e)(hn:n<=4)(hk:k<=400):RecFit ⟨(k:Int),e⟩/\e.deps.length<=400/\e.from_.length<=400:=by have h1:=h.th0;have h2:=h.thn;have h3:=h.kd1;have h4:=h.kd23;have h5:=h.s0;have a:=h.s1;have l1:=h.dp.1;have l2:=h.fr.1;refine⟨⟨⟨by show (-9223372036854775808:Int)<=(k:Int);omega,by show (k:Int)<=9223372036854775807;omega⟩,⟨by show (-9223372036854775808:Int)<=e.thread;omega,by show e.thread<=9223372036854775807;omega⟩,⟨by show (-9223372036854775808:Int)<=e.kind;omega,by show e.kind<=9223372036854775807;omega⟩,h.obj,h.val,⟨by show (-9223372036854775808:Int)<=e.site;omega,by show e.site<=9223372036854775807;omega⟩,λx hx=>?_,λx hx=>?_⟩,by omega,by omega⟩;have:=h.dp.2 x hx;exact⟨by omega,by omega⟩;have:=h.fr.2 x hx;exact⟨by omega,by omega⟩
end Iv
namespace Go.Proofs.YtfbkkgfkhhibfaaGreat
open Go Go.RowKit Iv
def qM (x:Blk):Bool:=decide (0<x.recs.length) && decide (0<=x.thread) && decide (x.thread<4) && decide (0<=x.first) && decide (x.first<=400)
theorem qN (x:Blk):nI x=(qM x && okRecs x.thread (-1) x.recs):=rfl
theorem zN (thread seq:Int)(recs:List Rec)(k:Nat)(r:Rec)(hr:recs[k]?=some r):
 okRecs thread seq (recs.drop k)=(decide (r.ev.thread=thread) && decide (seq<r.seq) && decide (r.ev.deps.length<=400) && decide (r.ev.from_.length<=400) && okRecs thread r.seq (recs.drop (k+1))):=by obtain⟨a,rfl⟩:=bV.1 hr;rw[oG a,okRecs]
theorem zO (x:Blk)(A:Option Addr)(n c B:Nat)(w:World)(h:Recs w B A n x.recs)(hB:B<=w.heap.size)(hn:n<=1000000):
 Calls Tryz.prog 78 #[.agg #[.int .i64 x.thread,.int .i64 x.first,.slice A n c]] w λe w'=>e= .returned (.bool (nI x))/\w.grownBy w' none:=by
 obtain⟨thread,first,recs⟩:=x;dsimp only at h|-;have G:=ae h.1;by_cases u:n=0\/thread<0\/4<=thread\/first<0\/400<first
 . have a:Hid (nI ⟨thread,first,recs⟩=false):=by
    have:=G.o;rw[qN];have:qM ⟨thread,first,recs⟩=false:=(by unfold qM;simp only[zQ,lL];omega);rw[this];exact ae rfl
   by_cases a0:n=0
   . have L:((n:Int)==0)=true:=(by rw[gI];omega);clear u a0;go_enter Tryz.func78,Tryz.ntmps78;go_wp2_with fail;go_ret;exact⟨gJ a.o.symm,aY w _ none⟩
   . have L:((n:Int)==0)=false:=(by rw[iJ];omega);have n0:0<n:=(by omega);clear a0;by_cases a1:thread<0
     . clear u;go_enter Tryz.func78,Tryz.ntmps78;go_wp2_with fail;go_ret;exact⟨gJ a.o.symm,aY w _ none⟩
     . by_cases a2:(4:Int)<=thread
       . clear u;go_enter Tryz.func78,Tryz.ntmps78;go_wp2_with fail;go_ret;exact⟨gJ a.o.symm,aY w _ none⟩
       . by_cases a3:first<0
         . clear u;go_enter Tryz.func78,Tryz.ntmps78;go_wp2_with fail;go_ret;exact⟨gJ a.o.symm,aY w _ none⟩
         . have a4:(400:Int)<first:=(by omega);clear u;go_enter Tryz.func78,Tryz.ntmps78;go_wp2_with fail;go_ret;exact⟨gJ a.o.symm,aY w _ none⟩
 . have L:((n:Int)==0)=false:=(by rw[iJ];omega);have b1:¬thread<0:=(by omega);have b2:¬(4:Int)<=thread:=(by omega);have b3:¬first<0:=(by omega);have b4:¬(400:Int)<first:=(by omega);have N:Hid (nI ⟨thread,first,recs⟩=okRecs thread (-1) recs):=by
    have hl:=G.o;rw[qN];have:qM ⟨thread,first,recs⟩=true:=(by unfold qM;simp only[cZ,gK];omega);rw[this];exact ae rfl
   clear u;obtain⟨W,hW⟩:∃W,W=w.alloc (.cells #[.int .i64 thread,.int .i64 first,.slice A n c] 50):=⟨_,rfl⟩;have Z:w.grownBy W none:=(by rw[hW];exact aY w _ none);have y:Held W w.heap.size 50 #[.int .i64 thread,.int .i64 first,.slice A n c]:=(by rw[hW];exact Held.new _ _ _);have HW:=ae hW;clear hW;go_enter Tryz.func78,Tryz.ntmps78;go_wp2_with fail;rw[show w.alloc (.cells #[.int .i64 thread,.int .i64 first,.slice A n c] 50)=W from HW.o.symm];go_loopw [3,5,33] (λsv _ iv wr=>∃(k:Nat) (seq:Int),iv= .int .i64 (k:Int)/\k<=n/\sv= .int .i64 seq/\W.grownBy wr none/\okRecs thread seq (recs.drop k)=okRecs thread (-1) recs) (λ_ _ iv _=>n-(intOf iv).toNat)
   case atStart=>exact ⟨0,-1,rfl,aG _,rfl,bI W none,rfl⟩
   case round=>
    obtain⟨k,seq,rfl,hk,rfl,hg,ho⟩:=hrel;have H:=ae ho;clear ho;have d:=af Z hg (.inl rfl);by_cases I:k<n
    . obtain⟨b,o,r,Ad,nd,cd,Af,nf,cf,hA,hb,hr,D⟩:=(h.grown d hB nofun).at I;have k0:wr.cell? ⟨w.heap.size,0,none⟩=some (.int .i64 thread):=(y.grown hg nofun).cell 0;have kz:w.heap.size<wr.heap.size:=(y.grown hg nofun).lt;obtain⟨c0,c1,c2,c3,c4,c5,c6,c7⟩:=D.all;subst hA;have O:=ae (zN thread seq recs k r hr);have l1:=D.ld.lenI;have l2:=D.lf.lenI;have U:=ae l1;have V:=ae l2;have E:=ae (af d (aY wr (.cells #[.int .i64 r.seq,.int .i64 r.ev.thread,.int .i64 r.ev.kind,.int .i64 r.ev.obj,.int .i64 r.ev.value,.int .i64 r.ev.site,.slice Ad nd cd,.slice Af nf cf] 54) none) (.inl rfl));have J:=ae (af hg (aY wr (.cells #[.int .i64 r.seq,.int .i64 r.ev.thread,.int .i64 r.ev.kind,.int .i64 r.ev.obj,.int .i64 r.ev.value,.int .i64 r.ev.site,.slice Ad nd cd,.slice Af nf cf] 54) none) (.inl rfl));clear hr D l1 l2 hg;by_cases h0:r.ev.thread≠thread\/r.seq<=seq\/400<nd\/400<nf
      . have a:Hid (nI ⟨thread,first,recs⟩=false):=by
         have e1:=U.o;have e2:=V.o;have:okRecs thread seq (recs.drop k)=false:=(by rw[O.o];have:(decide (r.ev.thread=thread) && decide (seq<r.seq) && decide (r.ev.deps.length<=400) && decide (r.ev.from_.length<=400))=false:=(by simp only[zQ,lL];omega);rw[this];rfl);rw[N.o,<-H.o,this];exact ae rfl
        by_cases a0:r.ev.thread=thread
        . have X:(r.ev.thread !=thread)=false:=(by rw[CJ];exact a0);have A0:=ae a0;by_cases a1:r.seq<=seq
          . clear h0 a0;go_wp2_with fail;go_ret;exact⟨gJ a.o.symm,E.o⟩
          . by_cases a2:(400:Int)<(nd:Int)
            . clear h0 a0;go_wp2_with fail;go_ret;exact⟨gJ a.o.symm,E.o⟩
            . have a3:(400:Int)<(nf:Int):=(by omega);clear h0 a0;go_wp2_with fail;go_ret;exact⟨gJ a.o.symm,E.o⟩
        . have X:(r.ev.thread !=thread)=true:=(by rw[kS];exact a0);clear h0 a0;go_wp2_with fail;go_ret;exact⟨gJ a.o.symm,E.o⟩
      . have X:(r.ev.thread !=thread)=false:=(by rw[CJ];omega);have g1:¬r.seq<=seq:=(by omega);have g2:¬(400:Int)<(nd:Int):=(by omega);have g3:¬(400:Int)<(nf:Int):=(by omega);have HN:Hid (okRecs thread r.seq (recs.drop (k+1))=okRecs thread (-1) recs):=by
         have e1:=U.o;have e2:=V.o;have:(decide (r.ev.thread=thread) && decide (seq<r.seq) && decide (r.ev.deps.length<=400) && decide (r.ev.from_.length<=400))=true:=(by simp only[cZ,gK];omega);have Y:=O.o;rw[this,vK,H.o] at Y;exact ae Y.symm
        clear h0;go_wp2_with fail;go_roundw
        case rel=>exact ⟨k+1,r.seq,by go_num,by omega,rfl,J.o,HN.o⟩
        case measure=>simp [intOf];omega
    . have a:Hid (nI ⟨thread,first,recs⟩=true):=by
       have e1:=H.o;rw[ku (by rw[G.o];omega)] at e1;rw[N.o,<-e1];exact ae rfl
      go_wp2_with fail;go_ret;exact⟨gJ a.o.symm,d⟩
theorem Va (x:Blk)(A:Option Addr)(n c:Nat)(w:World)(u:x.recs.length=n)(a:64<n\/n=0\/x.thread<0\/4<=x.thread\/x.first<0\/400<x.first):
 Calls Tryz.prog 60 #[.agg #[.int .i64 x.thread,.int .i64 x.first,.slice A n c]] w λe w'=>e= .returned (.int .i64 (fits x))/\w.grownBy w' none:=by
 obtain⟨thread,first,recs⟩:=x;dsimp only at u a|-;by_cases y:64<n
 . have d:Hid (fits ⟨thread,first,recs⟩=2):=ae (by unfold fits;rw[if_pos (by show 64<recs.length;omega)]);clear a u;go_enter Tryz.func60,Tryz.ntmps60;go_wp2_with fail;go_ret;exact⟨bJ d.o.symm,aY w _ none⟩
 . have d:Hid (fits ⟨thread,first,recs⟩=1):=by
    have:qM ⟨thread,first,recs⟩=false:=(by unfold qM;simp only[zQ,lL];omega);have h2:nI ⟨thread,first,recs⟩=false:=(by rw[qN,this];rfl);exact ae (by unfold fits;rw[if_neg (by show¬64<recs.length;omega),h2];rfl)
   clear u;by_cases a0:n=0
   . have B:((n:Int)==0)=true:=(by rw[gI];omega);clear a a0;go_enter Tryz.func60,Tryz.ntmps60;go_wp2_with fail;go_ret;exact⟨bJ d.o.symm,aY w _ none⟩
   . have B:((n:Int)==0)=false:=(by rw[iJ];omega);have n0:0<n:=(by omega);clear a0;by_cases a1:thread<0
     . clear a;go_enter Tryz.func60,Tryz.ntmps60;go_wp2_with fail;go_ret;exact⟨bJ d.o.symm,aY w _ none⟩
     . by_cases a2:(4:Int)<=thread
       . clear a;go_enter Tryz.func60,Tryz.ntmps60;go_wp2_with fail;go_ret;exact⟨bJ d.o.symm,aY w _ none⟩
       . by_cases a3:first<0
         . clear a;go_enter Tryz.func60,Tryz.ntmps60;go_wp2_with fail;go_ret;exact⟨bJ d.o.symm,aY w _ none⟩
         . have a4:(400:Int)<first:=(by omega);clear a;go_enter Tryz.func60,Tryz.ntmps60;go_wp2_with fail;go_ret;exact⟨bJ d.o.symm,aY w _ none⟩
theorem XE (x:Blk)(A:Option Addr)(n c B:Nat)(w:World)(h:Recs w B A n x.recs)(hB:B<=w.heap.size):
 Calls Tryz.prog 60 #[.agg #[.int .i64 x.thread,.int .i64 x.first,.slice A n c]] w λe w'=>e= .returned (.int .i64 (fits x))/\w.grownBy w' none:=by
 by_cases hh:64<n\/n=0\/x.thread<0\/4<=x.thread\/x.first<0\/400<x.first;exact Va x A n c w h.1 hh
 . obtain⟨thread,first,recs⟩:=x;dsimp only at h hh|-;have HL:=ae h.1;have b0:((n:Int)==0)=false:=(by rw[iJ];omega);have b1:¬thread<0:=(by omega);have b2:¬(4:Int)<=thread:=(by omega);have b3:¬first<0:=(by omega);have b4:¬(400:Int)<first:=(by omega);have b5:¬64<n:=(by omega);have HX:Hid (fits ⟨thread,first,recs⟩=if okRecs thread (-1) recs then 0 else 1):=by
    have hl:=HL.o;have:qM ⟨thread,first,recs⟩=true:=(by unfold qM;simp only[cZ,gK];omega);have h2:nI ⟨thread,first,recs⟩=okRecs thread (-1) recs:=(by rw[qN,this];rfl);exact ae (by unfold fits;rw[if_neg (by show¬64<recs.length;omega),h2])
   clear hh;obtain⟨W,hW⟩:∃W,W=w.alloc (.cells #[.int .i64 thread,.int .i64 first,.slice A n c] 50):=⟨_,rfl⟩;have iQ:w.grownBy W none:=(by rw[hW];exact aY w _ none);have I:Held W w.heap.size 50 #[.int .i64 thread,.int .i64 first,.slice A n c]:=(by rw[hW];exact Held.new _ _ _);have HW:=ae hW;clear hW;go_enter Tryz.func60,Tryz.ntmps60;go_wp2_with fail;rw[show w.alloc (.cells #[.int .i64 thread,.int .i64 first,.slice A n c] 50)=W from HW.o.symm];go_loopw [3,4] (λiv _ wr=>∃(k:Nat) (seq:Int),iv= .int .i64 (k:Int)/\k<=n/\((k=0/\seq= -1)\/(∃j p,k=j+1/\recs[j]?=some p/\seq=p.seq/\0<=seq))/\W.grownBy wr none/\okRecs thread seq (recs.drop k)=okRecs thread (-1) recs) (λiv _ _=>n-(intOf iv).toNat)
   case atStart=>exact ⟨0,-1,rfl,aG _,.inl ⟨rfl,rfl⟩,bI W none,rfl⟩
   case round=>
    obtain⟨k,seq,rfl,hk,d,hg,ho⟩:=hrel;have HO:=ae ho;clear ho;have ad:=af iQ hg (.inl rfl);have k0:wr.cell? ⟨w.heap.size,0,none⟩=some (.int .i64 thread):=(I.grown hg nofun).cell 0;have k2:wr.cell? ⟨w.heap.size,2,none⟩=some (.slice A n c):=(I.grown hg nofun).cell 2;have kz:w.heap.size<wr.heap.size:=(I.grown hg nofun).lt;by_cases ar:k<n
    . have y:=h.grown ad hB nofun;obtain⟨b,o,r,Ad,nd,cd,Af,nf,cf,hA,hb,hr,hH⟩:=y.at ar;obtain⟨c0,c1,c2,c3,c4,c5,c6,c7⟩:=hH.all;have HS:=ae (zN thread seq recs k r hr);have l1:=hH.ld.lenI;have l2:=hH.lf.lenI;have L1:=ae l1;have L2:=ae l2;obtain⟨G,U⟩:∃G,G=wr.alloc (.cells #[.int .i64 r.seq,.int .i64 r.ev.thread,.int .i64 r.ev.kind,.int .i64 r.ev.obj,.int .i64 r.ev.value,.int .i64 r.ev.site,.slice Ad nd cd,.slice Af nf cf] 54):=⟨_,rfl⟩;have pq:wr.grownBy G none:=(by rw[U];exact aY wr _ none);have J:=af hg pq (.inl rfl);have al:=af iQ J (.inl rfl);have L:Held G wr.heap.size 54 (recV r Ad nd cd Af nf cf):=(by rw[U];exact Held.new _ _ _);have a6:=ae U;have an:=ae J;have Z:=ae al;have d0:G.cell? ⟨wr.heap.size,0,none⟩=some (.int .i64 r.seq):=L.cell 0;have d1:G.cell? ⟨wr.heap.size,1,none⟩=some (.int .i64 r.ev.thread):=L.cell 1;have d6:G.cell? ⟨wr.heap.size,6,none⟩=some (.slice Ad nd cd):=L.cell 6;have d7:G.cell? ⟨wr.heap.size,7,none⟩=some (.slice Af nf cf):=L.cell 7;have m0:G.cell? ⟨w.heap.size,0,none⟩=some (.int .i64 thread):=(I.grown J nofun).cell 0;have m2:G.cell? ⟨w.heap.size,2,none⟩=some (.slice A n c):=(I.grown J nofun).cell 2;have a:Hid (r.ev.thread≠thread\/r.seq<=seq\/400<nd\/400<nf->fits ⟨thread,first,recs⟩=1):=by
       refine ae λh0=>?_;have e1:=L1.o;have e2:=L2.o;have:okRecs thread seq (recs.drop k)=false:=(by rw[HS.o];have:(decide (r.ev.thread=thread) && decide (seq<r.seq) && decide (r.ev.deps.length<=400) && decide (r.ev.from_.length<=400))=false:=(by simp only[zQ,lL];omega);rw[this];rfl);rw[HX.o,<-HO.o,this];rfl
      have N:Hid (r.ev.thread=thread->seq<r.seq->nd<=400->nf<=400->okRecs thread r.seq (recs.drop (k+1))=okRecs thread (-1) recs):=(by refine ae λx1 x2 x3 x4=>?_;have e1:=L1.o;have e2:=L2.o;have:(decide (r.ev.thread=thread) && decide (seq<r.seq) && decide (r.ev.deps.length<=400) && decide (r.ev.from_.length<=400))=true:=(by simp only[cZ,gK];omega);have e3:=HS.o;rw[this,vK,HO.o] at e3;exact e3.symm);have HR:=ae hr;clear hH l1 l2 hg U L hr pq J al;subst hA;go_upto_region 9 with fail;rw[show wr.alloc (.cells #[.int .i64 r.seq,.int .i64 r.ev.thread,.int .i64 r.ev.kind,.int .i64 r.ev.obj,.int .i64 r.ev.value,.int .i64 r.ev.site,.slice Ad nd cd,.slice Af nf cf] 54)=G from a6.o.symm];clear c0 c1 c2 c3 c4 c5 c6 c7;by_cases a0:r.ev.thread=thread
      . have g0:(r.ev.thread !=thread)=false:=(by rw[CJ];exact a0);have A0:=ae a0;clear a0;by_cases a1:r.seq<=seq
        . have D:=ae (a.out (.inr (.inl a1)));rcases d with ⟨V,X⟩|⟨j,p,hkj,hp,hsp,hp0⟩
          . have q1:decide (r.seq<0)=true:=decide_eq_true (by omega);clear V X a1;go_quiet (fail);go_wp2_with fail;go_ret;exact⟨bJ D.o.symm,aT Z.o _⟩
          . obtain⟨b',o',p',O4,O5,O7,O9,Pe,av,O,Y,u,H⟩:=y.at (k:=j) (by omega);simp only[jA,Addr.mk.injEq,vC] at O;obtain⟨rfl,rfl⟩:=O;have a7:p'=p:=(by rw[hp] at u;exact PE u.symm);subst a7;have e0:G.cell? ⟨b,o+j*8,none⟩=some (.int .i64 p'.seq):=Aj (by rw[a6.o];exact aY wr _ none) H.all.1 (by simp);have q2:decide ((0:Int)<(k:Int))=true:=decide_eq_true (by omega);have ao:decide (0<k)=true:=decide_eq_true (by omega);have q3:decide (r.seq<=p'.seq)=true:=decide_eq_true (by omega);have aw:IntKind.i64.wrap ((k:Int)-1)=(j:Int):=(by rw[gQ _ (by omega)];omega);have j0:(0:Int)<=(j:Int):=(by omega);have j1:(j:Int)<(n:Int):=(by omega);by_cases E:r.seq<0
            . have q1:decide (r.seq<0)=true:=decide_eq_true E;clear hkj hp hsp hp0 a1 Y u H E y;go_quiet (fail);go_wp2_with fail;go_ret;exact⟨bJ D.o.symm,aT Z.o _⟩
            . have q1:decide (r.seq<0)=false:=eX E;clear hkj hp hsp hp0 a1 Y u H E y;go_quiet (fail);go_wp2_with fail;go_ret;exact⟨bJ D.o.symm,aT Z.o _⟩
        . have q1:decide (r.seq<0)=false:=eX (by rcases d with ⟨_,X⟩|⟨_,_,_,_,hsp,hp0⟩<;>omega);have aq:Hid (seq<r.seq):=ae (by omega);rcases d with ⟨V,X⟩|⟨j,p,hkj,hp,hsp,hp0⟩
          . have q2:decide ((0:Int)<(k:Int))=false:=eX (by omega);have ao:decide (0<k)=false:=eX (by omega);have a8:Hid (0<=r.seq):=ae (by omega);have aD:=ae V;clear V X a1 y;by_cases a2:(400:Int)<(nd:Int)
            . have s2:decide ((400:Int)<(nd:Int))=true:=decide_eq_true a2;have aa:decide (400<nd)=true:=decide_eq_true (by omega);have D:=ae (a.out (.inr (.inr (.inl (by omega)))));clear a2;go_quiet (fail);go_wp2_with fail;go_ret;exact⟨bJ D.o.symm,aT Z.o _⟩
            . have s2:decide ((400:Int)<(nd:Int))=false:=eX a2;have aa:decide (400<nd)=false:=eX (by omega);by_cases a3:(400:Int)<(nf:Int)
              . have s3:decide ((400:Int)<(nf:Int))=true:=decide_eq_true a3;have ab:decide (400<nf)=true:=decide_eq_true (by omega);have D:=ae (a.out (.inr (.inr (.inr (by omega)))));clear a2 a3;go_quiet (fail);go_wp2_with fail;go_ret;exact⟨bJ D.o.symm,aT Z.o _⟩
              . have s3:decide ((400:Int)<(nf:Int))=false:=eX a3;have ab:decide (400<nf)=false:=eX (by omega);have HG:=ae (N.out A0.o aq.o (by omega) (by omega));clear a2 a3;go_quiet (fail);go_wp2_with fail;go_roundw
                case rel=>exact ⟨k+1,r.seq,by go_num,by omega,.inr ⟨k,r,rfl,HR.o,rfl,a8.o⟩,aT an.o _,HG.o⟩
                case measure=>simp [intOf];omega
          . obtain⟨b',o',p',O4,O5,O7,O9,Pe,av,O,Y,u,H⟩:=y.at (k:=j) (by omega);simp only[jA,Addr.mk.injEq,vC] at O;obtain⟨rfl,rfl⟩:=O;have a7:p'=p:=(by rw[hp] at u;exact PE u.symm);subst a7;have e0:G.cell? ⟨b,o+j*8,none⟩=some (.int .i64 p'.seq):=Aj (by rw[a6.o];exact aY wr _ none) H.all.1 (by simp);have q2:decide ((0:Int)<(k:Int))=true:=decide_eq_true (by omega);have ao:decide (0<k)=true:=decide_eq_true (by omega);have q3:decide (r.seq<=p'.seq)=false:=eX (by omega);have aw:IntKind.i64.wrap ((k:Int)-1)=(j:Int):=(by rw[gQ _ (by omega)];omega);have j0:(0:Int)<=(j:Int):=(by omega);have j1:(j:Int)<(n:Int):=(by omega);have a8:Hid (0<=r.seq):=ae (by omega);clear hkj hp hsp hp0 a1 Y u H y;by_cases a2:(400:Int)<(nd:Int)
            . have s2:decide ((400:Int)<(nd:Int))=true:=decide_eq_true a2;have aa:decide (400<nd)=true:=decide_eq_true (by omega);have D:=ae (a.out (.inr (.inr (.inl (by omega)))));clear a2;go_quiet (fail);go_wp2_with fail;go_ret;exact⟨bJ D.o.symm,aT Z.o _⟩
            . have s2:decide ((400:Int)<(nd:Int))=false:=eX a2;have aa:decide (400<nd)=false:=eX (by omega);by_cases a3:(400:Int)<(nf:Int)
              . have s3:decide ((400:Int)<(nf:Int))=true:=decide_eq_true a3;have ab:decide (400<nf)=true:=decide_eq_true (by omega);have D:=ae (a.out (.inr (.inr (.inr (by omega)))));clear a2 a3;go_quiet (fail);go_wp2_with fail;go_ret;exact⟨bJ D.o.symm,aT Z.o _⟩
              . have s3:decide ((400:Int)<(nf:Int))=false:=eX a3;have ab:decide (400<nf)=false:=eX (by omega);have HG:=ae (N.out A0.o aq.o (by omega) (by omega));clear a2 a3;go_quiet (fail);go_wp2_with fail;go_roundw
                case rel=>exact ⟨k+1,r.seq,by go_num,by omega,.inr ⟨k,r,rfl,HR.o,rfl,a8.o⟩,aT an.o _,HG.o⟩
                case measure=>simp [intOf];omega
      . have g0:(r.ev.thread !=thread)=true:=(by rw[kS];exact a0);have D:=ae (a.out (.inl a0));clear a0 d;go_quiet (fail);go_wp2_with fail;go_ret;exact⟨bJ D.o.symm,aT Z.o _⟩
    . have D:Hid (fits ⟨thread,first,recs⟩=0):=by
       have e1:=HO.o;rw[ku (by rw[HL.o];omega)] at e1;rw[HX.o,<-e1];exact ae rfl
      clear d;go_wp2_with fail;go_ret;exact⟨bJ D.o.symm,ad⟩
