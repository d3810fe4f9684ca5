/- Words. -/
import Derived.Test.YtfbkkgfkhhibfaaGreatPkP
import Derived.Test.YtfbkkgfkhhibfaaGreatPlnR
import Derived.StillTailTactics
set_option linter.unusedVariables false
set_option linter.unusedSimpArgs false
set_option maxRecDepth 100000
set_option maxHeartbeats 8000000
namespace Go.Proofs.YtfbkkgfkhhibfaaGreat
open Go Go.RowKit Iv
theorem Qm (n:Nat):bv (UInt8.ofNat n)= .int .u8 ((n:Int)%256):=by unfold bv;congr 1
theorem xG (s:Nat)(h:s<4294967296):(#[.int .u8 ((s:Int)/16777216),.int .u8 ((s:Int)/65536%256),.int .u8 ((s:Int)/256%256),.int .u8 ((s:Int)%256)]:Array Value)=((wK s).map bv).toArray:=by unfold wK;simp only[kM,qp,Qm];rw[show ((s/16777216:Nat):Int)%256=(s:Int)/16777216 from by omega,show ((s/65536:Nat):Int)%256=(s:Int)/65536%256 from by omega,show ((s/256:Nat):Int)%256=(s:Int)/256%256 from by omega]
theorem yZ (A:Option Addr)(n c B:Nat)(xs:Bytes)(w:World)(h:Lies w B 1 A n (xs.map bv))(hB:B<=w.heap.size)(hn:n<=1000000000):
 Calls Tryz.prog 82 #[.slice A n c] w λe w'=>e= .returned (.agg ((wK (zg xs)).map bv).toArray)/\w.grownBy w' none:=by have d:=ae (λ(W:World) (hg:w.grownBy W none)=>abI A n c xs W B (h.grown hg hB nofun) (by omega));have a:=Ru xs;obtain⟨s,hs⟩:∃s,s=zg xs:=⟨_,rfl⟩;rw[<-hs] at d a|-;have q:=ae a;clear hs;go_enter Tryz.func82,Tryz.ntmps82;go_wp2_with fail;refine (d.o _ (aV w _ none)).mono ?_;rintro e w1 ⟨rfl,rfl⟩;go_wp2_with fail;refine bY (v:= .agg #[.int .u8 ((s:Int)/16777216),.int .u8 ((s:Int)/65536%256),.int .u8 ((s:Int)/256%256),.int .u8 ((s:Int)%256)]) (by simp[results,Tryz.results82,go_sem]) rfl ⟨?_,aV w _ none⟩;rw[xG s q.o]
structure RecNums (r:Rec):Prop where
 seq:inI64 r.seq
 thread:inI64 r.ev.thread
 kind:inI64 r.ev.kind
 obj:inI64 r.ev.obj
 value:inI64 r.ev.value
 site:inI64 r.ev.site
 deps:allI64 r.ev.deps
 from_:allI64 r.ev.from_
theorem uD {thread seq:Int}{rs:List Rec}(h:okRecs thread seq rs=true)(hn:∀r∈rs,RecNums r):∀r∈rs,RecOk r:=by intro r hr;have h1:=jS thread rs seq h r hr;have h2:=hn r hr;exact⟨h2.seq,h2.thread,h2.kind,h2.obj,h2.value,h2.site,h2.deps,h2.from_,h1.2.1,h1.2.2.1⟩
theorem yH {rs:List Rec}{k:Nat}{r:Rec}(hr:rs[k]?=some r)(seq:Int):aU seq (rs.drop k)=dn r seq++aU r.seq (rs.drop (k+1)):=by obtain⟨a,rfl⟩:=dF.1 hr;rw[nY a,aU]
def vI:List Int->Bytes
 | []=> []
 |n::t=>aP n++vI t
theorem BP (a b c d:Int):vI [a,b,c,d]=aP a++(aP b++(aP c++aP d)):=by simp[vI]
def JM (w:World)(base:Nat)(x:Blk)(e:Ending)(w':World):Prop:=
 ∃v',e= .returned (.tuple #[v',.int .i64 (encode x).2])/\w'.ownsRow base 5 1 v' (encode x).1.length ((encode x).1.map bv)/\w.grownBy w' none
theorem xH {w w':World}{base:Nat}{x:Blk}{a:Int}(hf:fits x=a)(h0:a≠0)(hg:w.grownBy w' none):JM w base x (.returned (.tuple #[.slice none 0 0,.int .i64 a])) w':=by have:encode x=([],a):=(by unfold encode;rw[hf,if_neg h0]);refine⟨.slice none 0 0,by rw[this],?_,hg⟩;rw[this];exact dD _ _ _ _
theorem UY (w:World)(base:Nat)(e:TypeId)(xs:List Value)(hb:base<=w.heap.size)(hm:xs.length<=maxLen):(w.alloc (.cells xs.toArray e)).ownsRow base e 1 (.slice (some ⟨w.heap.size,0,none⟩) xs.length xs.length) xs.length xs:=
 ⟨by simp,.inr ⟨w.heap.size,xs.length,xs.toArray,rfl,hb,heap_alloc_new w _,au _,hm,by simp,by simp⟩⟩
theorem Es (t:Int)(h:0<=t/\t<4):([.int .u8 84,.int .u8 t]:List Value)=([84,UInt8.ofNat (t%256).toNat]:Bytes).map bv:=by simp only[kM,qp,Qm];rw[show (((t%256).toNat:Nat):Int)%256=t from by omega];rfl
theorem aml (g j:Nat):(⟨g,0,none⟩:Addr).add j=⟨g,j,none⟩:=by unfold Addr.add;split<;>simp_all
theorem Ib {W:World}{g:Nat}{T:TypeId}{xs:List Value}(h:Held W g T xs.toArray):Lies W (g+1) 1 (some ⟨g,0,none⟩) xs.length xs:=
 ⟨by simp,λ_=>⟨_,rfl,TI _,λj u a=>by rw[aml,h.cell j];simpa using a⟩⟩
theorem rM (c:Nat):∃a b d e:UInt8,wK c=[a,b,d,e]:=⟨_,_,_,_,rfl⟩
theorem uG {x:Blk}(h:fits x=0):encode x=(az x,0):=by unfold encode;rw[if_pos h]
theorem MP (x:Blk)(A:Option Addr)(n c B:Nat)(w:World)(h:Recs w B A n x.recs)(hB:B<=w.heap.size)(M:∀r∈x.recs,RecNums r)(u:fits x=0)(base:Nat)(y:base<=w.heap.size):
 Calls Tryz.prog 46 #[.agg #[.int .i64 x.thread,.int .i64 x.first,.slice A n c]] w (JM w base x):=by
 have HL:=ae h.1;obtain⟨z0,z1,z2,z3,z4,z5,z6⟩:=fE u;have cG:n<=64:=(by rw[<-h.1];exact z1);have cH:0<n:=(by rw[<-h.1];exact z0);have ar:oq x=true:=by
  unfold fits at u;rw[if_neg (by omega)] at u;split at u;assumption
  cases u
 obtain⟨W,hW⟩:∃W,W=w.alloc (.cells #[.int .i64 x.thread,.int .i64 x.first,.slice A n c] 50):=⟨_,rfl⟩;have iQ:w.grownBy W none:=(by rw[hW];exact aV w _ none);have av:Held W w.heap.size 50 #[.int .i64 x.thread,.int .i64 x.first,.slice A n c]:=(by rw[hW];exact Held.new _ _ _);have HW:=ae hW;have aw:=ae av;have bq:=ae (uD z6 M);have cI:=ae M;have aD:=iR x.recs (-1) (uD z6 M);rw[h.1] at aD;obtain⟨P,hP⟩:∃P,P=aU (-1) x.recs:=⟨_,rfl⟩;rw[<-hP] at aD;have HP:=ae hP;have CA:=ae (Bh x A n c B W (h.grown iQ hB nofun) (aK hB iQ.size) (by omega));rw[ar] at CA;have br:=ae u;have cJ:base<=W.heap.size:=aK y iQ.size;clear hW av ar z0 z1 z6 hP M u;go_enter Tryz.func46,Tryz.ntmps46;go_wp2_with fail;rw[show w.alloc (.cells #[.int .i64 x.thread,.int .i64 x.first,.slice A n c] 50)=W from HW.o.symm];refine CA.o.mono ?_;rintro e w1 ⟨rfl,X⟩;have Y:=ae (aw.o.grown X nofun);have f0:w1.cell? ⟨w.heap.size,0,none⟩=some (.int .i64 x.thread):=Y.o.cell 0;have f1:w1.cell? ⟨w.heap.size,1,none⟩=some (.int .i64 x.first):=Y.o.cell 1;have f2:w1.cell? ⟨w.heap.size,2,none⟩=some (.slice A n c):=Y.o.cell 2;go_wp2_with fail;clear f0 f1 f2;go_loopw [4,5,7,23] (λpv sv _ iv wr=>∃(k:Nat) (seq:Int) (ys:Bytes) (vv:Value),vv=pv/\iv= .int .i64 (k:Int)/\k<=n/\sv= .int .i64 seq/\inI64 seq/\wr.ownsRow base 5 1 vv ys.length (ys.map bv)/\W.grownBy wr none/\At W none vv.ownBlock/\ys++aU seq (x.recs.drop k)=P) (λ_ _ _ iv _=>n-(intOf iv).toNat)
 case atStart=>exact ⟨0,-1,[],_,rfl,rfl,ay _,rfl,⟨by omega,by omega⟩,dD _ _ _ _,X,.inl rfl,by rw[HP.o];rfl⟩
 case round=>
  clear X;obtain⟨k,seq,ys,vv,rfl,rfl,hk,rfl,aq,E,hg,cK,heq⟩:=hrel;have HE:=ae heq;have cL:ys.length<=600000:=(by have:=kU List.length heq;rw[bI] at this;omega);have Z:=af iQ hg (.inl rfl);have a6:base<=wr.heap.size:=aK y Z.size;clear heq;by_cases bt:k<n
  . obtain⟨b,o,r,Ad,nd,cd,Af,nf,cf,hA,hb,hr,hH⟩:=(h.grown Z hB nofun).at bt;obtain⟨c0,c1,c2,c3,c4,c5,c6,c7⟩:=hH.all;obtain⟨Ap,cp,a7,a8,bx,q,bB⟩:=ai E;subst a7;obtain⟨W2,N⟩:∃W2,W2=wr.alloc (.cells #[.int .i64 r.seq,.int .i64 r.ev.thread,.int .i64 r.ev.kind,.int .i64 r.ev.obj,.int .i64 r.ev.value,.int .i64 r.ev.site,.slice Ad nd cd,.slice Af nf cf] 54):=⟨_,rfl⟩;have jQ:wr.grownBy W2 none:=(by rw[N];exact aV wr _ none);have aL:Held W2 wr.heap.size 54 (recV r Ad nd cd Af nf cf):=(by rw[N];exact Held.new _ _ _);have aM:=ae aL;have bF:=ae N;have O:B<=wr.heap.size:=aK hB Z.size;have aR:r∈x.recs:=gZ hr;have b0:=ae (bq.o r aR)
    have b1:=ae (O3 Ap ys.length cp wr.heap.size ys r Ad nd cd Af nf cf seq W2 (q.grown jQ (au _) nofun) a8 (by omega) b0.o aq
     ((hH.ld.grown jQ O nofun).more O) ((hH.lf.grown jQ O nofun).more O) jQ.size base (aK a6 jQ.size))
    unfold recV at b1;have bN:=ae (yH hr seq);have b2:=ae jQ;clear hH hr N aL q E jQ aR;subst hA;go_upto_region 10 with fail;rw[show wr.alloc (.cells #[.int .i64 r.seq,.int .i64 r.ev.thread,.int .i64 r.ev.kind,.int .i64 r.ev.obj,.int .i64 r.ev.value,.int .i64 r.ev.site,.slice Ad nd cd,.slice Af nf cf] 54)=W2 from bF.o.symm];clear c0 c1 c2 c3 c4 c5 c6 c7;obtain⟨d0,d1,d2,d3,d4,d5,d6,d7⟩:=QS aM.o;go_wp2_with fail;refine b1.o.mono ?_;rintro e w3 ⟨v3,rfl,I,b3,lN⟩;clear d0 d1 d2 d3 d4 d5 d6 d7;have d0:w3.cell? ⟨wr.heap.size,0,none⟩=some (.int .i64 r.seq):=(aM.o.grown b3 nofun).cell 0;have bO:=af b2.o b3 (.inl rfl);have aa:=af hg bO (.inl rfl);have Fq:At W none v3.ownBlock:=(At.refl W none).trans lN (aK hg.size b2.o.size);have CZ:=ae I;clear I;go_wp2_with fail;go_roundw
    case rel=>exact ⟨k+1,r.seq,ys++dn r seq,_,rfl,by go_num,by omega,rfl,b0.o.seq,CZ.o,aa,Fq,by rw[<-HE.o,bN.o,gm]⟩
    case measure=>simp [intOf];omega
  . have bP:ys=P:=by
     have e1:=HE.o;rw[jT (by rw[HL.o];omega),aU,nZ] at e1;exact e1
    subst bP;obtain⟨Ap,cp,a7,a8,bx,q,bB⟩:=ai E;subst a7;have b4:=ae (Xi Ap ys.length cp wr.heap.size ys wr q (au _) a8 (by omega) base a6);obtain⟨Q,hQ⟩:∃Q,Q=pack ys:=⟨_,rfl⟩;rw[<-hQ] at b4;have cM:Q.length<=700000:=(by have:=eU ys;rw[hQ];omega);have HQ:=ae hQ;have Xz:=ae (aw.o.grown hg nofun);clear hQ E q;go_wp2_with fail;refine b4.o.mono ?_;rintro e w2 ⟨v2,rfl,D,G,nz⟩;obtain⟨A2,c2,bR,wI,cC,b5,bS⟩:=ai D;subst bR;have yC:=ae D;have b':=ae b5;have U:base<=w2.heap.size:=aK a6 G.size;have f0:w2.cell? ⟨w.heap.size,0,none⟩=some (.int .i64 x.thread):=(Xz.o.grown G nofun).cell 0;have f1:w2.cell? ⟨w.heap.size,1,none⟩=some (.int .i64 x.first):=(Xz.o.grown G nofun).cell 1;have f2:w2.cell? ⟨w.heap.size,2,none⟩=some (.slice A n c):=(Xz.o.grown G nofun).cell 2;have fz:w.heap.size<w2.heap.size:=(Xz.o.grown G nofun).lt;clear D b5;go_wp2_with fail;obtain⟨Hd,ab⟩:∃Hd,Hd=gI x.thread x.first n ys.length Q.length:=⟨_,rfl⟩;have ad:([84,UInt8.ofNat (x.thread%256).toNat]:Bytes)++vI ([x.first,(n:Int),(ys.length:Int),(Q.length:Int)].drop 0)=Hd:=(by rw[ab,Eb,BP];rfl);have cN:Hd.length<=100:=(by rw[<-ad,Eb,BP];have q1:=aS (n:=x.first) ⟨by omega,by omega⟩;have q2:=aS (n:=(n:Int)) ⟨by omega,by omega⟩;have q3:=aS (n:=(ys.length:Int)) ⟨by omega,by omega⟩;have q4:=aS (n:=(Q.length:Int)) ⟨by omega,by omega⟩;simp only[bI,iZ,zD];omega);have c9:=ae ad;have ca:=ae ab;have O0:(w2.alloc (.cells #[.int .u8 84,.int .u8 x.thread] 5)).ownsRow base 5 1 (.slice (some ⟨w2.heap.size,0,none⟩) 2 2) 2 (([84,UInt8.ofNat (x.thread%256).toNat]:Bytes).map bv):=(by rw[<-Es x.thread ⟨by omega,by omega⟩];exact UY w2 base 5 [.int .u8 84,.int .u8 x.thread] U (by unfold maxLen;simp));have WR:=ae O0;clear ad ab O0;go_loopw [9,11,50] (λcc _ iv wx=>∃(k:Nat) (zs:Bytes) (vb:Value),vb=cc/\iv= .int .i64 (k:Int)/\k<=4/\wx.ownsRow base 5 1 vb zs.length (zs.map bv)/\w2.grownBy wx none/\At w2 none vb.ownBlock/\zs++vI ([x.first,(n:Int),(ys.length:Int),(Q.length:Int)].drop k)=Hd) (λ_ _ iv _=>4-(intOf iv).toNat)
    case atStart=>exact ⟨0,[84,UInt8.ofNat (x.thread%256).toNat],_,rfl,rfl,by omega,WR.o,aV w2 _ none,.inr ⟨_,rfl,au _⟩,c9.o⟩
    case round=>
     obtain⟨L,zs,vb,rfl,rfl,cP,R,H,b6,al⟩:=hrel;have XT:=ae al;have cQ:zs.length<=100:=(by have:=kU List.length al;rw[bI] at this;omega);have b8:base<=wr.heap.size:=aK U H.size;clear al;by_cases cD:L<4
     . have cg:∃m:Int,inI64 m/\(∀w,(Instr.index 202 (.agg #[.int .i64 x.first,.int .i64 (n:Int),.int .i64 (ys.length:Int),.int .i64 (Q.length:Int)]) (.int .i64 (L:Int))).run Tryz.prog w= .ok (.int .i64 m) w)/\
        vI ([x.first,(n:Int),(ys.length:Int),(Q.length:Int)].drop L)=aP m++vI ([x.first,(n:Int),(ys.length:Int),(Q.length:Int)].drop (L+1)):=by
        rcases (show L=0\/L=1\/L=2\/L=3 by omega) with rfl|rfl|rfl|rfl;exact⟨x.first,⟨by omega,by omega⟩,λw=>by kernel_rfl,rfl⟩;exact⟨n,⟨by omega,by omega⟩,λw=>by kernel_rfl,rfl⟩;exact⟨ys.length,⟨by omega,by omega⟩,λw=>by kernel_rfl,rfl⟩;exact⟨Q.length,⟨by omega,by omega⟩,λw=>by kernel_rfl,rfl⟩
       obtain⟨m,hm,cF,b9⟩:=cg;have cj:=ae b9;obtain⟨Ab,cb,cm,cn,_,ba,_⟩:=ai R;subst cm;have cq:=ae (Td Ab zs.length cb wr.heap.size zs m wr ba cn hm (by omega) base b8);clear b9 hm R ba;go_wp2_with fail;refine cq.o.mono ?_;rintro e w4 ⟨v4,rfl,J,cr,nD⟩;have Hy:=ae J;have aa:=af H cr (.inl rfl);have Fq:At w2 none v4.ownBlock:=(At.refl w2 none).trans nD H.size;clear J;go_wp2_with fail;go_roundw
       case rel=>exact ⟨L+1,zs++aP m,_,rfl,by go_num,by omega,Hy.o,aa,Fq,by rw[<-XT.o,cj.o,gm]⟩
       case measure=>simp [intOf];omega
     . have bc:L=4:=(by omega);have bd:zs=Hd:=by
        have e1:=XT.o;rw[bc] at e1;simpa [vI] using e1
       obtain⟨i0,hi,bf,bh,bj⟩:=info_parts kY;have HI:=ae hi;have bk:=ae bf;have bl:=ae bh;have bm:=ae bj;have hz:(0:Nat)<1:=(by omega);have cv:=ae bd;have LQ:=ae (b'.o.grown H (au _) nofun);clear hi bf bh bj bc bd;go_wp2_with (at_builtin;refine dH _ rfl (.tmp 57) (.tmp 58) _ rfl base 5 i0 (.int .u8 0) 1 1 Tryz.underlying22 HI.o bk.o bl.o bm.o rfl hz _ zs.length (zs.map bv) rfl R w2.heap.size A2 Q.length c2 (Q.map bv) rfl LQ.o bS (oI _) (by unfold maxLen;omega) (by omega) b8 ?_;intro v5 w5 a cw Ox;rw[<-fQ] at a;obtain⟨A5,c5,cx,YD,YE,an,YF⟩:=ai a;subst cx);have bn:w.grownBy w2 none:=af (af iQ hg (.inl rfl)) G (.inl rfl);have bo:w.grownBy w5 none:=af bn (af H cw (b6)) (.inl rfl);have cy:=ae ((At.refl w none).trans (b6.trans Ox H.size) bn.size);have d:zs++Q=bG x:=(by rw[cv.o,ca.o,HQ.o,HP.o];unfold bG;rw[HL.o]);have bp:(bG x).length=zs.length+Q.length:=(by rw[<-d,bI]);rw[d] at a an;have Nb:=ae a;obtain⟨s1,s2,s3,s4,ao⟩:=rM (zg (bG x));have U0:=ae (yZ A5 (zs.length+Q.length) c5 w5.heap.size (bG x) w5 an (au _) (by omega));rw[ao] at U0;simp only[kM,qp,bv] at U0;have XY:=ae ao;have cR:=ae d;have cz:=ae bp;have cA:base<=w5.heap.size:=aK y bo.size;clear a an ao d bp R;refine U0.o.mono ?_;rintro e w6 ⟨rfl,Oy⟩;have cT:base<=w6.heap.size:=aK cA Oy.size;have LS:=ae (Ib (T:=203) (xs:=([s1,s2,s3,s4]:Bytes).map bv) (Held.new w6 _ _));simp only[kM,qp,bv,iZ,zD] at LS;have O6:=ae ((ax Nb.o Oy nofun).alloc (.cells #[.int .u8 (s1.toNat:Int),.int .u8 (s2.toNat:Int),.int .u8 (s3.toNat:Int),.int .u8 (s4.toNat:Int)] 203));go_wp2_with (at_builtin;refine dH _ rfl (.tmp 62) (.tmp 63) _ rfl base 5 i0 (.int .u8 0) 1 1 Tryz.underlying22 HI.o bk.o bl.o bm.o rfl hz _ (zs.length+Q.length) ((bG x).map bv) rfl O6.o (w6.heap.size+1) (some ⟨w6.heap.size,0,none⟩) 4 4 (([s1,s2,s3,s4]:Bytes).map bv) rfl LS.o (λe=>nomatch e) (oI _) (by unfold maxLen;omega) (by omega) (by simp;omega) ?_;intro v7 w7 uF Qz cU;rw[<-fQ] at uF);go_ret2;have V:=uG br.o;refine⟨v7,by rw[V];rfl,?_,af (af (af bo Oy (.inl rfl)) (aV w6 _ none) (.inl rfl)) Qz cy.o⟩;rw[V];show w7.ownsRow base 5 1 v7 (az x).length ((az x).map bv);unfold az;rw[XY.o,bI,cz.o];exact uF
theorem PQ (x:Blk)(A:Option Addr)(n c B:Nat)(w:World)(h:Recs w B A n x.recs)(hB:B<=w.heap.size)(D:∀r∈x.recs,RecNums r)(hn:n<=1000000)(base:Nat)(d:base<=w.heap.size):
 Calls Tryz.prog 46 #[.agg #[.int .i64 x.thread,.int .i64 x.first,.slice A n c]] w (JM w base x):=by
 have E:=ae h.1;obtain⟨W,hW⟩:∃W,W=w.alloc (.cells #[.int .i64 x.thread,.int .i64 x.first,.slice A n c] 50):=⟨_,rfl⟩;have G:w.grownBy W none:=(by rw[hW];exact aV w _ none);have y:Held W w.heap.size 50 #[.int .i64 x.thread,.int .i64 x.first,.slice A n c]:=(by rw[hW];exact Held.new _ _ _);have L:=ae hW;have M:=ae y;clear hW y;by_cases q:64<n
 . have H:Hid (fits x=2):=ae (by unfold fits;rw[if_pos (by rw[E.o];exact q)]);go_enter Tryz.func46,Tryz.ntmps46;go_wp2_with fail;go_ret2;exact xH H.o (by decide) (aV w _ none)
 . have J:=ae (Bh x A n c B W (h.grown G hB nofun) (aK hB G.size) hn);by_cases u:oq x=true;exact MP x A n c B w h hB D (by unfold fits;rw[if_neg (by rw[E.o];exact q),if_pos u]) base d
   . have a:oq x=false:=(by simpa using u);have H:Hid (fits x=1):=ae (by unfold fits;rw[if_neg (by rw[E.o];exact q),a];rfl);rw[a] at J;clear u a;go_enter Tryz.func46,Tryz.ntmps46;go_wp2_with fail;rw[show w.alloc (.cells #[.int .i64 x.thread,.int .i64 x.first,.slice A n c] 50)=W from L.o.symm];refine J.o.mono ?_;rintro e w1 ⟨rfl,I⟩;go_wp2_with fail;go_ret2;exact xH H.o (by decide) (af G I (.inl rfl))
theorem TJ {x:Blk}(a:∀r∈x.recs,RecNums r):(encode x).1.length<=1000000000000:=by by_cases hf:fits x=0;rw[uG hf];obtain⟨z0,u,y,z3,z4,B,d⟩:=fE hf;have q:=iR x.recs (-1) (uD d a);have D:=eU (aU (-1) x.recs);have E:=aS (n:=x.first) ⟨by omega,by omega⟩;have G:=aS (n:=(x.recs.length:Int)) ⟨by omega,by omega⟩;have H:=aS (n:=((aU (-1) x.recs).length:Int)) ⟨by omega,by omega⟩;have I:=aS (n:=((pack (aU (-1) x.recs)).length:Int)) ⟨by omega,by omega⟩;unfold az bG gI;simp only[bI,iZ,kX];omega;unfold encode;rw[if_neg hf];simp
structure RP (T:TypeId)(cells:Array Value)(W0:World)(base B thr gR gB gW gF:Nat)(s:St)(wr:World):Prop where
 ex:∃vb vf css,RM base B thr gB gW gF s vb vf css wr
 rec_:Held wr gR T cells
 gr:W0.grownBy wr none
 lo:W0.heap.size<=base/\W0.heap.size<=gB/\W0.heap.size<=gW/\W0.heap.size<=gF
 nr:gR<base/\gR≠gB/\gR≠gW/\gR≠gF
theorem lM {W0 wr w1:World}{o:Option Nat}(h:W0.grownBy wr none)(hg:wr.grownBy w1 o)(ho:∀g,o=some g->W0.heap.size<=g):W0.grownBy w1 none:=by
 refine af h hg ?_
 cases o with
 |none=>exact .inl rfl
 |some g=>exact .inr ⟨g,rfl,ho g rfl⟩
theorem P5 {r:Rec}(h:RecFit r):RecNums r:=⟨h.seq,h.thread,h.kind,h.obj,h.value,h.site,h.deps,h.from_⟩
theorem RP.keep {T:TypeId}{cells:Array Value}{W0 wr w1:World}{base B thr gR gB gW gF:Nat}{s:St}(h:RP T cells W0 base B thr gR gB gW gF s wr)(hg:wr.grownBy w1 none):RP T cells W0 base B thr gR gB gW gF s w1:=by obtain⟨⟨vb,vf,css,a⟩,hR,hgr,hlo,hnr⟩:=h;exact⟨⟨vb,vf,css,a.keep hg⟩,hR.grown hg nofun,lM hgr hg nofun,hlo,hnr⟩
theorem aav (w:World)(r:Rec)(Ad:Option Addr)(nd cd:Nat)(Af:Option Addr)(nf cf:Nat):
 Lies (w.alloc (.cells (recV r Ad nd cd Af nf cf) 54)) (w.alloc (.cells (recV r Ad nd cd Af nf cf) 54)).heap.size 8 (some ⟨w.heap.size,0,none⟩) 1 (recV r Ad nd cd Af nf cf).toList:=by obtain⟨A,c,a,_,_,d,_⟩:=ai (World.ownsRow_lit (base:=w.heap.size) (e:=54) (size:=8) w (recV r Ad nd cd Af nf cf) 1 (au _) (by unfold maxLen;omega) rfl);injection a with q;subst q;exact d
theorem ac9 (r:Rec)(Ad:Option Addr)(nd cd:Nat)(Af:Option Addr)(nf cf:Nat):∀u∈(recV r Ad nd cd Af nf cf).toList,u.oneCell'=true:=by intro u a;simp only[recV,gJ,mG,or_false] at a;rcases a with h|h|h|h|h|h|h|h<;>rw[h]<;>rfl
theorem Yo {w:World}{base e sz n m c:Nat}{A:Option Addr}{xs:List Value}(h:w.ownsRow base e sz (.slice A n c) n xs)(hm:m<=n):w.ownsRow base e sz (.slice A m c) m (xs.take (m*sz)):=by refine⟨by rw[qE,h.1];exact DJ (mf _ hm),?_⟩;rcases h.2 with ⟨h1,h0⟩|⟨g,cap,cur,h1,hb,hg,hnc,hcm,hcs,ht⟩;injection h1 with h2 h3 h4;subst h2 h4;have:m=0:=(by omega);subst this;exact .inl ⟨rfl,by simp⟩;injection h1 with h2 h3 h4;subst h2 h4;refine .inr ⟨g,c,cur,rfl,hb,hg,by omega,hcm,hcs,?_⟩;rw[<-ht,List.take_take,DJ (mf _ hm)]
theorem VP {w:World}{base e n m c:Nat}{A:Option Addr}{b:Bytes}(h:w.ownsRow base e 1 (.slice A n c) n (b.map bv))(hm:m<=n):w.ownsRow base e 1 (.slice A m c) m ((b.take m).map bv):=by have:=Yo h hm;rwa [je,<-lC] at this
structure FilesAt (base thr gF:Nat)(fs:Nat->Bytes)(vf:Nat->Value)(w:World):Prop where
 h:Held w gF 22 (fam thr vf)
 own:∀t,t<thr->w.ownsRow base 5 1 (vf t) (fs t).length ((fs t).map bv)
 ap:∀t k,t<thr->k<thr->t≠k->Apart (vf t) (vf k)
 lo:base<=gF
 ne:∀t,t<thr->(vf t).ownBlock≠some gF
def DK (l:List Ev)(thr:Int)(p:Pln)(w:World)(e:Ending)(w':World):Prop:=
 ∃v,e= .returned (.tuple #[v,.int .i64 (bU l thr p)])/\w.grownBy w' none/\
  (bU l thr p≠0->v= .slice none 0 0)/\
  (bU l thr p=0->∃(t gF:Nat) (vf:Nat->Value),thr=(t:Int)/\v= .slice (some ⟨gF,0,none⟩) t t/\FilesAt w.heap.size t gF (filesOf l p) vf w')
theorem Jh {l:List Ev}{thr:Int}{p:Pln}{w w':World}{k:Int}(hk:bU l thr p=k)(h0:k≠0)(hg:w.grownBy w' none):DK l thr p w (.returned (.tuple #[.slice none 0 0,.int .i64 k])) w':=
 ⟨_,by rw[hk],hg,λ_=>rfl,λh=>absurd (hk▸h) h0⟩
theorem Yp (t:Nat)(v:Value)(h:v.cells=#[v]):madeCells v.cells (t*1)=fam t λ_=>v:=by rw[h];unfold madeCells fam;apply DL;simp;intro i h1 h2;simp[Nat.mod_one]
theorem VQ:(Tryz.prog.info? 48).map (λi=>(i.zero,i.size,i.bytes))=some (some (.slice none 0 0),1,24):=by kernel_rfl
theorem QL:(Tryz.prog.info? 22).map (λi=>(i.zero,i.size,i.bytes))=some (some (.slice none 0 0),1,24):=by kernel_rfl
theorem DN {T e:TypeId}{z:Value}{bytes:Nat}(u:Tryz.prog.underlying T=some (.slice e))(hi:(Tryz.prog.info? e).map (λi=>(i.zero,i.size,i.bytes))=some (some z,1,bytes))(y:z.cells=#[z])(hb:bytes<=24)(w:World){t:Nat}(D:t<=4):
 (Instr.makeSlice T (.int .i64 (t:Int)) (.int .i64 (t:Int))).run Tryz.prog w= .ok (.slice (some ⟨w.heap.size,0,none⟩) t t) (w.alloc (.cells (fam t λ_=>z) e)):=by obtain⟨B,hi,a,d,q⟩:=info_parts hi;((have:=run_make (P:=Tryz.prog) w T e B z u hi a .i64 .i64 (t:Int) (t:Int) (by omega) (qW _) (by rw[q];rcases (show t=0\/t=1\/t=2\/t=3\/t=4 by omega) with h|h|h|h|h<;>subst h<;>omega) (by omega));rw[yu,d,Yp t z y] at this);exact this
theorem yw {a b:World}(h:a.grownBy b none)(o:Obj):a.grownBy (b.alloc o) none:=af h (aV _ _ none) (.inl rfl)
theorem RP.init {T:TypeId}{cells:Array Value}{W0 a:World}{base B thr gR gB gW gF:Nat}(hB:Held a gB 48 (fam thr λ_=> .slice none 0 0))(hW:Held a gW 3 (fam thr λ_=> .int .i64 0))(hF:Held a gF 22 (fam thr λ_=> .slice none 0 0))(q:Held a gR T cells)(gr:W0.grownBy a none)
 (lo:W0.heap.size<=gR/\W0.heap.size<=gB/\W0.heap.size<=gW/\W0.heap.size<=gF) (hi:gR<base/\gB<base/\gW<base/\gF<base) (nr:gR≠gB/\gR≠gW/\gR≠gF) (ne:gB≠gW/\gB≠gF/\gW≠gF) (u:B<=W0.heap.size) (bs:base<=a.heap.size):
 RP T cells W0 base B thr gR gB gW gF St.none a:=by obtain⟨l0,l1,l2,l3⟩:=lo;obtain⟨y,D,E,G⟩:=hi;refine⟨⟨λ_=> .slice none 0 0,λ_=> .slice none 0 0,λ_=> [],⟨hB,hW,hF,λt d=>dD _ _ _ _,λt d=>BufAt.nil _ _,λt d=>dD _ _ _ _,λt k _ _ _=>Apart.nil _,λt k _ _ _=>Apart.nil _,λt k _ _=>Apart.nil _,⟨D,E,G⟩,⟨by omega,by omega,by omega⟩,ne,bs⟩⟩,q,gr,⟨by omega,l1,l2,l3⟩,y,nr⟩
theorem ai2 (W:World)(c0 c1 c2 c3:Array Value)(t0 a d t3:TypeId):
 Held ((((W.alloc (.cells c0 t0)).alloc (.cells c1 a)).alloc (.cells c2 d)).alloc (.cells c3 t3)).drew W.heap.size t0 c0/\
 Held ((((W.alloc (.cells c0 t0)).alloc (.cells c1 a)).alloc (.cells c2 d)).alloc (.cells c3 t3)).drew (W.heap.size+1) a c1/\
 Held ((((W.alloc (.cells c0 t0)).alloc (.cells c1 a)).alloc (.cells c2 d)).alloc (.cells c3 t3)).drew (W.heap.size+1+1) d c2/\
 Held ((((W.alloc (.cells c0 t0)).alloc (.cells c1 a)).alloc (.cells c2 d)).alloc (.cells c3 t3)).drew (W.heap.size+1+1+1) t3 c3/\
 W.grownBy ((((W.alloc (.cells c0 t0)).alloc (.cells c1 a)).alloc (.cells c2 d)).alloc (.cells c3 t3)).drew none/\
 ((((W.alloc (.cells c0 t0)).alloc (.cells c1 a)).alloc (.cells c2 d)).alloc (.cells c3 t3)).drew.heap.size=W.heap.size+4:=by have s1:(W.alloc (.cells c0 t0)).heap.size=W.heap.size+1:=(by simp);have s2:((W.alloc (.cells c0 t0)).alloc (.cells c1 a)).heap.size=W.heap.size+1+1:=(by simp);have s3:(((W.alloc (.cells c0 t0)).alloc (.cells c1 a)).alloc (.cells c2 d)).heap.size=W.heap.size+1+1+1:=(by simp);refine⟨(((Held.new W t0 c0).alloc _).alloc _).alloc _,?_,?_,?_,?_,by simp⟩;have:=((Held.new (W.alloc (.cells c0 t0)) a c1).alloc (.cells c2 d)).alloc (.cells c3 t3);rw[s1] at this;exact this;have:=(Held.new ((W.alloc (.cells c0 t0)).alloc (.cells c1 a)) d c2).alloc (.cells c3 t3);rw[s2] at this;exact this;have:=Held.new (((W.alloc (.cells c0 t0)).alloc (.cells c1 a)).alloc (.cells c2 d)) t3 c3;rw[s3] at this;exact this;exact aB (yw (yw (yw (yw (bu W none) _) _) _) _)
theorem RP.cut {T:TypeId}{cells:Array Value}{W0 wr:World}{base B thr gR gB gW gF:Nat}{s:St}(h:RP T cells W0 base B thr gR gB gW gF s wr){t:Nat}(q:t<thr){A:Option Addr}{c m:Nat}(hc:wr.cell? ⟨gF,t,none⟩=some (.slice A (s.file t).length c))(hm:m<=(s.file t).length):
 RP T cells W0 base B thr gR gB gW gF ⟨s.buf,s.first,upd s.file t ((s.file t).take m)⟩ (wr.setCell ⟨gF,t,none⟩ (.slice A m c)):=by obtain⟨⟨vb,vf,css,u⟩,hR,hgr,hlo,hnr⟩:=h;have G:vf t= .slice A (s.file t).length c:=(by have:=u.hF.cell t;rw[iU _ q,hc] at this;injection this with this;exact this.symm);have d:=u.of_ t q;rw[G] at d;have y:=VP d hm;have hb:∀g,(Value.slice A m c).ownBlock=some g->(vf t).ownBlock=some g:=(λg e=>by rw[G];cases A with|none=>exact (nomatch e)|some a=>simpa [Value.ownBlock] using e);have H:((s.file t).take m).length=m:=(by rw[qE];omega);refine⟨⟨vb,_,css,u.setF q (by rw[H];exact y) (bu wr _) (λk hk D g e1 E=>u.aff t k q hk (λe=>D e.symm) g (hb g e1) E) (λk hk g e1 E=>u.abf k t hk q g e1 (hb g E))⟩,hR.far (p:=⟨gF,t,none⟩) hnr.2.2.2 _,?_,hlo,hnr⟩;exact lM hgr (ag wr gF t _) (λg e=>by injection e with e;have:=hlo.2.2.2;omega)
theorem RP.files {T:TypeId}{cells:Array Value}{W0 wr:World}{base B thr gR gB gW gF:Nat}{s:St}(h:RP T cells W0 base B thr gR gB gW gF s wr)(w:World)(hw:w.heap.size<=W0.heap.size):∃vf,FilesAt w.heap.size thr gF s.file vf wr:=by obtain⟨⟨vb,vf,css,a⟩,hR,hgr,hlo,hnr⟩:=h;refine⟨vf,a.hF,λt d=>eH (a.of_ t d) (by omega),a.aff,by omega,λt d=>jr (a.of_ t d) a.lt.2.2⟩
structure In1 (w:World)(B sz bytes:Nat)(A:Option Addr)(n c:Nat)(X:List Value):Prop where
 lies:Lies w B sz A n X
 none_:A=none->c=0
 one:∀u∈X,u.oneCell'=true
 cap:n<=maxLen
 bytes_:n*bytes<=140737488355328
theorem In1.grown {w w':World}{B sz bytes n c:Nat}{A:Option Addr}{X:List Value}(h:In1 w B sz bytes A n c X)(hg:w.grownBy w' none)(hB:B<=w.heap.size):In1 w' B sz bytes A n c X:=
 ⟨h.lies.grown hg hB nofun,h.none_,h.one,h.cap,h.bytes_⟩
def AtCell (X:List Value)(k:Nat):Prop:=∃(s:ByteArray) (a b:Int) (d:Bool) (e:Int),X[k*5+0]?=some (.string s)/\X[k*5+1]?=some (.int .i64 a)/\X[k*5+2]?=some (.int .i64 b)/\X[k*5+3]?=some (.bool d)/\X[k*5+4]?=some (.int .i64 e)
def AtLock (X:List Value)(k:Nat):Prop:=∃(s:ByteArray) (d:Bool),X[k*2+0]?=some (.string s)/\X[k*2+1]?=some (.bool d)
def AtCond (X:List Value)(k:Nat):Prop:=∃(s:ByteArray) (a:Int),X[k*2+0]?=some (.string s)/\X[k*2+1]?=some (.int .i64 a)
def AtStr (X:List Value)(k:Nat):Prop:=∃(s:ByteArray),X[k*1+0]?=some (.string s)
def AtSite (X:List Value)(k:Nat):Prop:=∃(a b e:Int),X[k*3+0]?=some (.int .i64 a)/\X[k*3+1]?=some (.int .i64 b)/\X[k*3+2]?=some (.int .i64 e)
structure WIn (w:World)(B:Nat)(A0:Option Addr)(n0 c0:Nat)(X0:List Value)(A1:Option Addr)(n1 c1:Nat)(X1:List Value)(A2:Option Addr)(n2 c2:Nat)(X2:List Value)(A3:Option Addr)(n3 c3:Nat)(X3:List Value)(A4:Option Addr)(n4 c4:Nat)(X4:List Value)(A5:Option Addr)(n5 c5:Nat)(X5:List Value):Prop where
 h0:In1 w B 5 48 A0 n0 c0 X0
 h1:In1 w B 2 24 A1 n1 c1 X1
 h2:In1 w B 2 24 A2 n2 c2 X2
 h3:In1 w B 1 16 A3 n3 c3 X3
 h4:In1 w B 1 16 A4 n4 c4 X4
 h5:In1 w B 3 24 A5 n5 c5 X5
 s0:∀k,k<n0->AtCell X0 k
 s1:∀k,k<n1->AtLock X1 k
 s2:∀k,k<n2->AtCond X2 k
 s3:∀k,k<n3->AtStr X3 k
 s4:∀k,k<n4->AtStr X4 k
 s5:∀k,k<n5->AtSite X5 k
 a0:0<n0->∃b o,A0=some ⟨b,o,none⟩
 a1:0<n1->∃b o,A1=some ⟨b,o,none⟩
 a2:0<n2->∃b o,A2=some ⟨b,o,none⟩
 a3:0<n3->∃b o,A3=some ⟨b,o,none⟩
 a4:0<n4->∃b o,A4=some ⟨b,o,none⟩
 a5:0<n5->∃b o,A5=some ⟨b,o,none⟩
theorem WIn.grown {w w':World}{B:Nat}{A0:Option Addr}{n0 c0:Nat}{X0:List Value}{A1:Option Addr}{n1 c1:Nat}{X1:List Value}{A2:Option Addr}{n2 c2:Nat}{X2:List Value}{A3:Option Addr}{n3 c3:Nat}{X3:List Value}{A4:Option Addr}{n4 c4:Nat}{X4:List Value}{A5:Option Addr}{n5 c5:Nat}{X5:List Value}(h:WIn w B A0 n0 c0 X0 A1 n1 c1 X1 A2 n2 c2 X2 A3 n3 c3 X3 A4 n4 c4 X4 A5 n5 c5 X5)(hg:w.grownBy w' none)(hB:B<=w.heap.size):WIn w' B A0 n0 c0 X0 A1 n1 c1 X1 A2 n2 c2 X2 A3 n3 c3 X3 A4 n4 c4 X4 A5 n5 c5 X5:=
 ⟨h.h0.grown hg hB,h.h1.grown hg hB,h.h2.grown hg hB,h.h3.grown hg hB,h.h4.grown hg hB,h.h5.grown hg hB,h.s0,h.s1,h.s2,h.s3,h.s4,h.s5,h.a0,h.a1,h.a2,h.a3,h.a4,h.a5⟩
theorem In1.more {w:World}{B a sz bytes n c:Nat}{A:Option Addr}{X:List Value}(h:In1 w B sz bytes A n c X)(hB:B<=a):In1 w a sz bytes A n c X:=⟨h.lies.more hB,h.none_,h.one,h.cap,h.bytes_⟩
theorem WIn.more {w:World}{B a:Nat}{A0:Option Addr}{n0 c0:Nat}{X0:List Value}{A1:Option Addr}{n1 c1:Nat}{X1:List Value}{A2:Option Addr}{n2 c2:Nat}{X2:List Value}{A3:Option Addr}{n3 c3:Nat}{X3:List Value}{A4:Option Addr}{n4 c4:Nat}{X4:List Value}{A5:Option Addr}{n5 c5:Nat}{X5:List Value}(h:WIn w B A0 n0 c0 X0 A1 n1 c1 X1 A2 n2 c2 X2 A3 n3 c3 X3 A4 n4 c4 X4 A5 n5 c5 X5)(hB:B<=a):WIn w a A0 n0 c0 X0 A1 n1 c1 X1 A2 n2 c2 X2 A3 n3 c3 X3 A4 n4 c4 X4 A5 n5 c5 X5:=
 ⟨h.h0.more hB,h.h1.more hB,h.h2.more hB,h.h3.more hB,h.h4.more hB,h.h5.more hB,h.s0,h.s1,h.s2,h.s3,h.s4,h.s5,h.a0,h.a1,h.a2,h.a3,h.a4,h.a5⟩
structure TrN (w:World)(m n:Nat)(A:Option Addr)(l:List Ev):Prop where
 n1:1<=n
 n4:n<=4
 len:l.length<=m
 evs:Evs w w.heap.size A l.length l
 ok:∀(k:Nat) e,l[k]?=some e->EvOk n k e
def aje (w:World)(B m:Nat)(e:Ending)(w':World):Prop:=∃(A0:Option Addr) (n0 c0:Nat) (X0:List Value) (A1:Option Addr) (n1 c1:Nat) (X1:List Value) (A2:Option Addr) (n2 c2:Nat) (X2:List Value) (A3:Option Addr) (n3 c3:Nat) (X3:List Value) (A4:Option Addr) (n4 c4:Nat) (X4:List Value) (A5:Option Addr) (n5 c5:Nat) (X5:List Value) (A:Option Addr) (c:Nat) (l:List Ev),e= .returned (.agg #[.slice A0 n0 c0,.slice A1 n1 c1,.slice A2 n2 c2,.slice A3 n3 c3,.slice A4 n4 c4,.slice A5 n5 c5,.slice A l.length c])/\l.length<=c/\TrN w' m n4 A l/\WIn w' w'.heap.size A0 n0 c0 X0 A1 n1 c1 X1 A2 n2 c2 X2 A3 n3 c3 X3 A4 n4 c4 X4 A5 n5 c5 X5/\(∀W' g,w'.grownBy W' (some g)->B<=g->g<w.heap.size->Evs W' w'.heap.size A l.length l/\WIn W' w'.heap.size A0 n0 c0 X0 A1 n1 c1 X1 A2 n2 c2 X2 A3 n3 c3 X3 A4 n4 c4 X4 A5 n5 c5 X5)/\w.grownBy w' none
structure PlnG (n:Nat)(p:Pln):Prop where
 c1:1<=p.cap
 c8:p.cap<=8
 s0:0<=p.stop
 s1:p.stop<=255
 fl:p.flushes.length<=20
 fk:∀f∈p.flushes,0<=f.1/\f.1<=255/\0<=f.2/\f.2<n
 cl:p.cuts.length<=n
 ck:∀k∈p.cuts,0<=k/\k<=255
theorem Hu {l:List Ev}{n:Nat}{p:Pln}(h1:1<=n)(h4:n<=4)(a:PlnG n p)(u:l.length<=100)(he:∀(k:Nat) e,l[k]?=some e->EvOk n k e):bU l n p=0:=by have d:rH n p=true:=(by have h1:=a.c1;have h2:=a.c8;have h3:=a.s0;have h5:=a.cl;unfold rH jZ;simp only[dC,iq,jU];refine⟨⟨⟨⟨⟨⟨⟨by omega,by omega⟩,by omega⟩,by omega⟩,by omega⟩,λf hf=>?_⟩,λk hk=>(a.ck k hk).1⟩,by omega⟩;have:=a.fk f hf;unfold kD;simp only[dC,iq];omega);unfold bU;rw[if_pos d,if_neg (by omega),if_pos];rw[jU];intro e hm;obtain⟨k,hk⟩:=sG.1 hm;have h:=he k e hk;have q:=(dF.1 hk).1;have:=h.th0;have:=h.thn;have:=h.dp.1;have:=h.fr.1;unfold BX;simp only[dC,iq];omega
theorem NV {l:List Ev}{n:Nat}(h4:n<=4)(d:l.length<=100)(he:∀(k:Nat) e,l[k]?=some e->EvOk n k e):∀e∈l,RecFit ⟨0,e⟩:=by intro e hm;obtain⟨k,hk⟩:=sG.1 hm;have a:=(dF.1 hk).1;obtain⟨h,_,_⟩:=(he k e hk).fit h4 (by omega);exact⟨⟨by show (-9223372036854775808:Int)<=0;decide,by show (0:Int)<=9223372036854775807;decide⟩,h.thread,h.kind,h.obj,h.value,h.site,h.deps,h.from_⟩
theorem QX {w0 wr a:World}{o:Option Nat}(h:w0.grownBy wr none)(h4:wr.grownBy a o)(ho:∀g,o=some g->w0.heap.size<=g):w0.grownBy a none:=
 ⟨h4.os.trans h.os,h4.tape.trans h.tape,h4.output.trans h.output,aK h.size h4.size,λk hk _=>(h4.block k (pF hk h.size) (λe=>by have:=ho k e.symm;omega)).trans (h.block k hk nofun)⟩
theorem FilesAt.row {base thr gF g:Nat}{fs:Nat->Bytes}{vf:Nat->Value}{w w':World}(h:FilesAt base thr gF fs vf w)(hg:w.grownBy w' (some g))(d:g<base):FilesAt base thr gF fs vf w':=
 ⟨h.h.grown hg (λe=>by injection e with e;have:=h.lo;omega),λt a=>ax (h.own t a) hg (λq e hk=>by injection hk with hk;have:=((h.own t a).lt q e).1;omega),h.ap,h.lo,h.ne⟩
def QT:Prop:=∀(w:World) (B:Nat) (A1:Option Addr) (n1 c1:Nat) (xs:Bytes) (hx:Lies w B 1 A1 n1 (xs.map bv)) (hc1:n1<=c1) (hn1:n1<=1000) (ho1:A1=none->c1=0) (A2:Option Addr) (m c2:Nat) (ys:Bytes) (hy:Lies w B 1 A2 m (ys.map bv)) (hc2:m<=c2) (hm:m<=1000) (ho2:A2=none->c2=0),
 Calls Tryz.prog 9 #[.slice A1 n1 c1,.slice A2 m c2] w λe w'=>aje w B m e w'
def QU:Prop:=∀(w:World) (n cap stop:Nat) (h1:1<=n) (h4:n<=4) (hc:cap<256) (hs:stop<256) (A1:Option Addr) (n1 c1 B1:Nat) (xs:Bytes) (hx:Lies w B1 1 A1 n1 (xs.map bv)) (hc1:n1<=c1) (hm1:c1<=maxLen) (ho1:A1=none->c1=0) (A2:Option Addr) (n2 c2 B2:Nat) (ys:Bytes) (hy:Lies w B2 1 A2 n2 (ys.map bv)) (hc2:n2<=c2) (hm2:c2<=maxLen) (ho2:A2=none->c2=0),
 Calls Tryz.prog 20 #[.agg #[.int .u8 (cap:Int),.int .u8 (stop:Int),.slice A1 n1 c1,.slice A2 n2 c2],.int .i64 (n:Int)] w λe w'=>
  ∃(p:Pln) (Af:Option Addr) (cf:Nat) (Ac:Option Addr) (cc:Nat),e= .returned (.agg (yO p Af p.flushes.length cf Ac p.cuts.length cc))/\PlnG n p/\Fls w' w'.heap.size Af p.flushes.length p.flushes/\Lies w' w'.heap.size 1 Ac p.cuts.length (p.cuts.map iv)/\w.grownBy w' none
