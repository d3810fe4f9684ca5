/- Words. -/
import Derived.Test.YtfbkkgfkhhibfaaGreatRrecR
import Derived.Test.YtfbkkgfkhhibfaaGreatPkR
import Derived.Test.YtfbkkgfkhhibfaaGreatSww
import Derived.StillTailTactics
set_option linter.unusedVariables false
set_option linter.unusedSimpArgs false
set_option maxRecDepth 100000
set_option maxHeartbeats 8000000
namespace Go.Proofs.YtfbkkgfkhhibfaaGreat
open Go Go.RowKit Iv
theorem P5 (n:Nat):bv (UInt8.ofNat n)= .int .u8 ((n:Int)%256):=by unfold bv;congr 1
theorem xw (s:Nat)(h:s<4294967296):(#[.int .u8 ((s:Int)/16777216),.int .u8 ((s:Int)/65536%256),.int .u8 ((s:Int)/256%256),.int .u8 ((s:Int)%256)]:Array Value)=((Gt s).map bv).toArray:=by unfold Gt;simp only[kD,pW,P5];rw[show ((s/16777216:Nat):Int)%256=(s:Int)/16777216 from by omega,show ((s/65536:Nat):Int)%256=(s:Int)/65536%256 from by omega,show ((s/256:Nat):Int)%256=(s:Int)/256%256 from by omega]
theorem yS (A:Option Addr)(n c B:Nat)(xs:Bytes)(w:World)(h:Lies w B 1 A n (xs.map bv))(hB:B<=w.heap.size)(hn:n<=1000000000):
 Calls Tryz.prog 82 #[.slice A n c] w λe w'=>e= .returned (.agg ((Gt (F6 xs)).map bv).toArray)/\w.grownBy w' none:=by have d:=ae (λ(W:World) (hg:w.grownBy W none)=>abv A n c xs W B (h.grown hg hB nofun) (by omega));have a:=QS xs;obtain⟨s,hs⟩:∃s,s=F6 xs:=⟨_,rfl⟩;rw[<-hs] at d a|-;have q:=ae a;clear hs;go_enter Tryz.func82,Tryz.ntmps82;go_wp2_with fail;refine (d.o _ (aP w _ none)).mono ?_;rintro e w1 ⟨rfl,rfl⟩;go_wp2_with fail;refine bU (v:= .agg #[.int .u8 ((s:Int)/16777216),.int .u8 ((s:Int)/65536%256),.int .u8 ((s:Int)/256%256),.int .u8 ((s:Int)%256)]) (by simp[results,Tryz.results82,go_sem]) rfl ⟨?_,aP w _ none⟩;rw[xw s q.o]
structure RecNums (r:Rec):Prop where
 seq:inI64 r.seq
 thread:inI64 r.ev.thread
 kind:inI64 r.ev.kind
 obj:inI64 r.ev.obj
 value:inI64 r.ev.value
 site:inI64 r.ev.site
 deps:allI64 r.ev.deps
 from_:allI64 r.ev.from_
theorem uk {thread seq:Int}{rs:List Rec}(h:okRecs thread seq rs=true)(hn:∀r∈rs,RecNums r):∀r∈rs,RecOk r:=by intro r hr;have h1:=pK thread rs seq h r hr;have h2:=hn r hr;exact⟨h2.seq,h2.thread,h2.kind,h2.obj,h2.value,h2.site,h2.deps,h2.from_,h1.2.1,h1.2.2.1⟩
theorem yB {rs:List Rec}{k:Nat}{r:Rec}(hr:rs[k]?=some r)(seq:Int):aZ seq (rs.drop k)=gq r seq++aZ r.seq (rs.drop (k+1)):=by obtain⟨a,rfl⟩:=dD.1 hr;rw[nM a,aZ]
def uU:List Int->Bytes
 | []=> []
 |n::t=>bG n++uU t
theorem BK (a b c d:Int):uU [a,b,c,d]=bG a++(bG b++(bG c++bG d)):=by simp[uU]
def JJ (w:World)(base:Nat)(x:Blk)(e:Ending)(w':World):Prop:=
 ∃v',e= .returned (.tuple #[v',.int .i64 (encode x).2])/\w'.ownsRow base 5 1 v' (encode x).1.length ((encode x).1.map bv)/\w.grownBy w' none
theorem xx {w w':World}{base:Nat}{x:Blk}{a:Int}(hf:fits x=a)(h0:a≠0)(hg:w.grownBy w' none):JJ w base x (.returned (.tuple #[.slice none 0 0,.int .i64 a])) w':=by have:encode x=([],a):=(by unfold encode;rw[hf,if_neg h0]);refine⟨.slice none 0 0,by rw[this],?_,hg⟩;rw[this];exact dw _ _ _ _
theorem UI (w:World)(base:Nat)(e:TypeId)(xs:List Value)(hb:base<=w.heap.size)(hm:xs.length<=maxLen):(w.alloc (.cells xs.toArray e)).ownsRow base e 1 (.slice (some ⟨w.heap.size,0,none⟩) xs.length xs.length) xs.length xs:=
 ⟨by simp,.inr ⟨w.heap.size,xs.length,xs.toArray,rfl,hb,heap_alloc_new w _,ak _,hm,by simp,by simp⟩⟩
theorem Ed (t:Int)(h:0<=t/\t<4):([.int .u8 84,.int .u8 t]:List Value)=([84,UInt8.ofNat (t%256).toNat]:Bytes).map bv:=by simp only[kD,pW,P5];rw[show (((t%256).toNat:Nat):Int)%256=t from by omega];rfl
theorem amu (g j:Nat):(⟨g,0,none⟩:Addr).add j=⟨g,j,none⟩:=by unfold Addr.add;split<;>simp_all
theorem Ia {W:World}{g:Nat}{T:TypeId}{xs:List Value}(h:Held W g T xs.toArray):Lies W (g+1) 1 (some ⟨g,0,none⟩) xs.length xs:=
 ⟨by simp,λ_=>⟨_,rfl,Tq _,λj u a=>by rw[amu,h.cell j];simpa using a⟩⟩
theorem qV (c:Nat):∃a b d e:UInt8,Gt c=[a,b,d,e]:=⟨_,_,_,_,rfl⟩
theorem uo {x:Blk}(h:fits x=0):encode x=(dC x,0):=by unfold encode;rw[if_pos h]
theorem MG (x:Blk)(A:Option Addr)(n c B:Nat)(w:World)(h:Recs w B A n x.recs)(hB:B<=w.heap.size)(M:∀r∈x.recs,RecNums r)(u:fits x=0)(base:Nat)(y:base<=w.heap.size):
 Calls Tryz.prog 46 #[.agg #[.int .i64 x.thread,.int .i64 x.first,.slice A n c]] w (JJ w base x):=by
 have HL:=ae h.1;obtain⟨z0,z1,z2,z3,z4,z5,z6⟩:=iH u;have cH:n<=64:=(by rw[<-h.1];exact z1);have cI:0<n:=(by rw[<-h.1];exact z0);have ar:nS x=true:=by
  unfold fits at u;rw[if_neg (by omega)] at u;split at u;assumption
  cases u
 obtain⟨W,hW⟩:∃W,W=w.alloc (.cells #[.int .i64 x.thread,.int .i64 x.first,.slice A n c] 50):=⟨_,rfl⟩;have iJ:w.grownBy W none:=(by rw[hW];exact aP w _ none);have av:Held W w.heap.size 50 #[.int .i64 x.thread,.int .i64 x.first,.slice A n c]:=(by rw[hW];exact Held.new _ _ _);have HW:=ae hW;have aw:=ae av;have bq:=ae (uk z6 M);have cJ:=ae M;have aD:=lZ x.recs (-1) (uk z6 M);rw[h.1] at aD;obtain⟨P,hP⟩:∃P,P=aZ (-1) x.recs:=⟨_,rfl⟩;rw[<-hP] at aD;have HP:=ae hP;have CA:=ae (AU x A n c B W (h.grown iJ hB nofun) (aG hB iJ.size) (by omega));rw[ar] at CA;have br:=ae u;have cK:base<=W.heap.size:=aG y iJ.size;clear hW av ar z0 z1 z6 hP M u;go_enter Tryz.func46,Tryz.ntmps46;go_wp2_with fail;rw[show w.alloc (.cells #[.int .i64 x.thread,.int .i64 x.first,.slice A n c] 50)=W from HW.o.symm];refine CA.o.mono ?_;rintro e w1 ⟨rfl,X⟩;have Y:=ae (aw.o.grown X nofun);have f0:w1.cell? ⟨w.heap.size,0,none⟩=some (.int .i64 x.thread):=Y.o.cell 0;have f1:w1.cell? ⟨w.heap.size,1,none⟩=some (.int .i64 x.first):=Y.o.cell 1;have f2:w1.cell? ⟨w.heap.size,2,none⟩=some (.slice A n c):=Y.o.cell 2;go_wp2_with fail;clear f0 f1 f2;go_loopw [4,5,7,23] (λpv sv _ iv wr=>∃(k:Nat) (seq:Int) (ys:Bytes) (vv:Value),vv=pv/\iv= .int .i64 (k:Int)/\k<=n/\sv= .int .i64 seq/\inI64 seq/\wr.ownsRow base 5 1 vv ys.length (ys.map bv)/\W.grownBy wr none/\At W none vv.ownBlock/\ys++aZ seq (x.recs.drop k)=P) (λ_ _ _ iv _=>n-(intOf iv).toNat)
 case atStart=>exact ⟨0,-1,[],_,rfl,rfl,ay _,rfl,⟨by omega,by omega⟩,dw _ _ _ _,X,.inl rfl,by rw[HP.o];rfl⟩
 case round=>
  clear X;obtain⟨k,seq,ys,vv,rfl,rfl,hk,rfl,aq,E,hg,cL,heq⟩:=hrel;have HE:=ae heq;have cM:ys.length<=600000:=(by have:=jY List.length heq;rw[aY] at this;omega);have Z:=af iJ hg (.inl rfl);have a6:base<=wr.heap.size:=aG y Z.size;clear heq;by_cases bt:k<n
  . obtain⟨b,o,r,Ad,nd,cd,Af,nf,cf,hA,hb,hr,hH⟩:=(h.grown Z hB nofun).at bt;obtain⟨c0,c1,c2,c3,c4,c5,c6,c7⟩:=hH.all;obtain⟨Ap,cp,a7,a8,bx,q,bB⟩:=ai E;subst a7;obtain⟨W2,N⟩:∃W2,W2=wr.alloc (.cells #[.int .i64 r.seq,.int .i64 r.ev.thread,.int .i64 r.ev.kind,.int .i64 r.ev.obj,.int .i64 r.ev.value,.int .i64 r.ev.site,.slice Ad nd cd,.slice Af nf cf] 54):=⟨_,rfl⟩;have jI:wr.grownBy W2 none:=(by rw[N];exact aP wr _ none);have aL:Held W2 wr.heap.size 54 (recV r Ad nd cd Af nf cf):=(by rw[N];exact Held.new _ _ _);have aM:=ae aL;have bF:=ae N;have O:B<=wr.heap.size:=aG hB Z.size;have aR:r∈x.recs:=gU hr;have b0:=ae (bq.o r aR)
    have b1:=ae (OH Ap ys.length cp wr.heap.size ys r Ad nd cd Af nf cf seq W2 (q.grown jI (ak _) nofun) a8 (by omega) b0.o aq
     ((hH.ld.grown jI O nofun).more O) ((hH.lf.grown jI O nofun).more O) jI.size base (aG a6 jI.size))
    unfold recV at b1;have bN:=ae (yB hr seq);have b2:=ae jI;clear hH hr N aL q E jI aR;subst hA;go_upto_region 10 with fail;rw[show wr.alloc (.cells #[.int .i64 r.seq,.int .i64 r.ev.thread,.int .i64 r.ev.kind,.int .i64 r.ev.obj,.int .i64 r.ev.value,.int .i64 r.ev.site,.slice Ad nd cd,.slice Af nf cf] 54)=W2 from bF.o.symm];clear c0 c1 c2 c3 c4 c5 c6 c7;obtain⟨d0,d1,d2,d3,d4,d5,d6,d7⟩:=QD aM.o;go_wp2_with fail;refine b1.o.mono ?_;rintro e w3 ⟨v3,rfl,I,b3,lD⟩;clear d0 d1 d2 d3 d4 d5 d6 d7;have d0:w3.cell? ⟨wr.heap.size,0,none⟩=some (.int .i64 r.seq):=(aM.o.grown b3 nofun).cell 0;have bO:=af b2.o b3 (.inl rfl);have aa:=af hg bO (.inl rfl);have Fe:At W none v3.ownBlock:=(At.refl W none).trans lD (aG hg.size b2.o.size);have CG:=ae I;clear I;go_wp2_with fail;go_roundw
    case rel=>exact ⟨k+1,r.seq,ys++gq r seq,_,rfl,by go_num,by omega,rfl,b0.o.seq,CG.o,aa,Fe,by rw[<-HE.o,bN.o,fM]⟩
    case measure=>simp [intOf];omega
  . have bR:ys=P:=by
     have e1:=HE.o;rw[jK (by rw[HL.o];omega),aZ,nN] at e1;exact e1
    subst bR;obtain⟨Ap,cp,a7,a8,bx,q,bB⟩:=ai E;subst a7;have b4:=ae (WZ Ap ys.length cp wr.heap.size ys wr q (ak _) a8 (by omega) base a6);obtain⟨Q,hQ⟩:∃Q,Q=pack ys:=⟨_,rfl⟩;rw[<-hQ] at b4;have cN:Q.length<=700000:=(by have:=iy ys;rw[hQ];omega);have HQ:=ae hQ;have Xo:=ae (aw.o.grown hg nofun);clear hQ E q;go_wp2_with fail;refine b4.o.mono ?_;rintro e w2 ⟨v2,rfl,D,G,mW⟩;obtain⟨A2,c2,bS,vT,cD,b5,b'⟩:=ai D;subst bS;have yj:=ae D;have c9:=ae b5;have U:base<=w2.heap.size:=aG a6 G.size;have f0:w2.cell? ⟨w.heap.size,0,none⟩=some (.int .i64 x.thread):=(Xo.o.grown G nofun).cell 0;have f1:w2.cell? ⟨w.heap.size,1,none⟩=some (.int .i64 x.first):=(Xo.o.grown G nofun).cell 1;have f2:w2.cell? ⟨w.heap.size,2,none⟩=some (.slice A n c):=(Xo.o.grown G nofun).cell 2;have fz:w.heap.size<w2.heap.size:=(Xo.o.grown G nofun).lt;clear D b5;go_wp2_with fail;obtain⟨Hd,ab⟩:∃Hd,Hd=jB x.thread x.first n ys.length Q.length:=⟨_,rfl⟩;have ad:([84,UInt8.ofNat (x.thread%256).toNat]:Bytes)++uU ([x.first,(n:Int),(ys.length:Int),(Q.length:Int)].drop 0)=Hd:=(by rw[ab,DZ,BK];rfl);have cP:Hd.length<=100:=(by rw[<-ad,DZ,BK];have q1:=aO (n:=x.first) ⟨by omega,by omega⟩;have q2:=aO (n:=(n:Int)) ⟨by omega,by omega⟩;have q3:=aO (n:=(ys.length:Int)) ⟨by omega,by omega⟩;have q4:=aO (n:=(Q.length:Int)) ⟨by omega,by omega⟩;simp only[aY,iR,zl];omega);have ca:=ae ad;have cc:=ae ab;have O0:(w2.alloc (.cells #[.int .u8 84,.int .u8 x.thread] 5)).ownsRow base 5 1 (.slice (some ⟨w2.heap.size,0,none⟩) 2 2) 2 (([84,UInt8.ofNat (x.thread%256).toNat]:Bytes).map bv):=(by rw[<-Ed x.thread ⟨by omega,by omega⟩];exact UI w2 base 5 [.int .u8 84,.int .u8 x.thread] U (by unfold maxLen;simp));have WB:=ae O0;clear ad ab O0;go_loopw [9,11,50] (λcg _ iv wx=>∃(k:Nat) (zs:Bytes) (vb:Value),vb=cg/\iv= .int .i64 (k:Int)/\k<=4/\wx.ownsRow base 5 1 vb zs.length (zs.map bv)/\w2.grownBy wx none/\At w2 none vb.ownBlock/\zs++uU ([x.first,(n:Int),(ys.length:Int),(Q.length:Int)].drop k)=Hd) (λ_ _ iv _=>4-(intOf iv).toNat)
    case atStart=>exact ⟨0,[84,UInt8.ofNat (x.thread%256).toNat],_,rfl,rfl,by omega,WB.o,aP w2 _ none,.inr ⟨_,rfl,ak _⟩,ca.o⟩
    case round=>
     obtain⟨L,zs,vb,rfl,rfl,cQ,R,H,b6,al⟩:=hrel;have XH:=ae al;have cR:zs.length<=100:=(by have:=jY List.length al;rw[aY] at this;omega);have b8:base<=wr.heap.size:=aG U H.size;clear al;by_cases cF:L<4
     . have cj:∃m:Int,inI64 m/\(∀w,(Instr.index 202 (.agg #[.int .i64 x.first,.int .i64 (n:Int),.int .i64 (ys.length:Int),.int .i64 (Q.length:Int)]) (.int .i64 (L:Int))).run Tryz.prog w= .ok (.int .i64 m) w)/\
        uU ([x.first,(n:Int),(ys.length:Int),(Q.length:Int)].drop L)=bG m++uU ([x.first,(n:Int),(ys.length:Int),(Q.length:Int)].drop (L+1)):=by
        rcases (show L=0\/L=1\/L=2\/L=3 by omega) with rfl|rfl|rfl|rfl;exact⟨x.first,⟨by omega,by omega⟩,λw=>by kernel_rfl,rfl⟩;exact⟨n,⟨by omega,by omega⟩,λw=>by kernel_rfl,rfl⟩;exact⟨ys.length,⟨by omega,by omega⟩,λw=>by kernel_rfl,rfl⟩;exact⟨Q.length,⟨by omega,by omega⟩,λw=>by kernel_rfl,rfl⟩
       obtain⟨m,hm,cG,b9⟩:=cj;have cm:=ae b9;obtain⟨Ab,cb,cn,cq,_,ba,_⟩:=ai R;subst cn;have cr:=ae (Sr Ab zs.length cb wr.heap.size zs m wr ba cq hm (by omega) base b8);clear b9 hm R ba;go_wp2_with fail;refine cr.o.mono ?_;rintro e w4 ⟨v4,rfl,J,cv,mX⟩;have Hu:=ae J;have aa:=af H cv (.inl rfl);have Fe:At w2 none v4.ownBlock:=(At.refl w2 none).trans mX H.size;clear J;go_wp2_with fail;go_roundw
       case rel=>exact ⟨L+1,zs++bG m,_,rfl,by go_num,by omega,Hu.o,aa,Fe,by rw[<-XH.o,cm.o,fM]⟩
       case measure=>simp [intOf];omega
     . have bc:L=4:=(by omega);have bd:zs=Hd:=by
        have e1:=XH.o;rw[bc] at e1;simpa [uU] using e1
       obtain⟨i0,hi,bf,bh,bj⟩:=info_parts jU;have HI:=ae hi;have bk:=ae bf;have bl:=ae bh;have bm:=ae bj;have hz:(0:Nat)<1:=(by omega);have cw:=ae bd;have LQ:=ae (c9.o.grown H (ak _) nofun);clear hi bf bh bj bc bd;go_wp2_with (at_builtin;refine dn _ rfl (.tmp 57) (.tmp 58) _ rfl base 5 i0 (.int .u8 0) 1 1 Tryz.underlying22 HI.o bk.o bl.o bm.o rfl hz _ zs.length (zs.map bv) rfl R w2.heap.size A2 Q.length c2 (Q.map bv) rfl LQ.o b' (mG _) (by unfold maxLen;omega) (by omega) b8 ?_;intro v5 w5 a cx Oa;rw[<-fF] at a;obtain⟨A5,c5,cy,Yr,Yt,an,Yu⟩:=ai a;subst cy);have bn:w.grownBy w2 none:=af (af iJ hg (.inl rfl)) G (.inl rfl);have bo:w.grownBy w5 none:=af bn (af H cx (b6)) (.inl rfl);have cz:=ae ((At.refl w none).trans (b6.trans Oa H.size) bn.size);have d:zs++Q=dY x:=(by rw[cw.o,cc.o,HQ.o,HP.o];unfold dY;rw[HL.o]);have bp:(dY x).length=zs.length+Q.length:=(by rw[<-d,aY]);rw[d] at a an;have MP:=ae a;obtain⟨s1,s2,s3,s4,ao⟩:=qV (F6 (dY x));have UK:=ae (yS A5 (zs.length+Q.length) c5 w5.heap.size (dY x) w5 an (ak _) (by omega));rw[ao] at UK;simp only[kD,pW,bv] at UK;have XN:=ae ao;have cT:=ae d;have cA:=ae bp;have cC:base<=w5.heap.size:=aG y bo.size;clear a an ao d bp R;refine UK.o.mono ?_;rintro e w6 ⟨rfl,Ob⟩;have cU:base<=w6.heap.size:=aG cC Ob.size;have LS:=ae (Ia (T:=203) (xs:=([s1,s2,s3,s4]:Bytes).map bv) (Held.new w6 _ _));simp only[kD,pW,bv,iR,zl] at LS;have O6:=ae ((ax MP.o Ob nofun).alloc (.cells #[.int .u8 (s1.toNat:Int),.int .u8 (s2.toNat:Int),.int .u8 (s3.toNat:Int),.int .u8 (s4.toNat:Int)] 203));go_wp2_with (at_builtin;refine dn _ rfl (.tmp 62) (.tmp 63) _ rfl base 5 i0 (.int .u8 0) 1 1 Tryz.underlying22 HI.o bk.o bl.o bm.o rfl hz _ (zs.length+Q.length) ((dY x).map bv) rfl O6.o (w6.heap.size+1) (some ⟨w6.heap.size,0,none⟩) 4 4 (([s1,s2,s3,s4]:Bytes).map bv) rfl LS.o (λe=>nomatch e) (mG _) (by unfold maxLen;omega) (by omega) (by simp;omega) ?_;intro v7 w7 um Qj cV;rw[<-fF] at um);go_ret2;have V:=uo br.o;refine⟨v7,by rw[V];rfl,?_,af (af (af bo Ob (.inl rfl)) (aP w6 _ none) (.inl rfl)) Qj cz.o⟩;rw[V];show w7.ownsRow base 5 1 v7 (dC x).length ((dC x).map bv);unfold dC;rw[XN.o,aY,cA.o];exact um
theorem Pv (x:Blk)(A:Option Addr)(n c B:Nat)(w:World)(h:Recs w B A n x.recs)(hB:B<=w.heap.size)(D:∀r∈x.recs,RecNums r)(hn:n<=1000000)(base:Nat)(d:base<=w.heap.size):
 Calls Tryz.prog 46 #[.agg #[.int .i64 x.thread,.int .i64 x.first,.slice A n c]] w (JJ w base x):=by
 have E:=ae h.1;obtain⟨W,hW⟩:∃W,W=w.alloc (.cells #[.int .i64 x.thread,.int .i64 x.first,.slice A n c] 50):=⟨_,rfl⟩;have G:w.grownBy W none:=(by rw[hW];exact aP w _ none);have y:Held W w.heap.size 50 #[.int .i64 x.thread,.int .i64 x.first,.slice A n c]:=(by rw[hW];exact Held.new _ _ _);have L:=ae hW;have M:=ae y;clear hW y;by_cases q:64<n
 . have H:Hid (fits x=2):=ae (by unfold fits;rw[if_pos (by rw[E.o];exact q)]);go_enter Tryz.func46,Tryz.ntmps46;go_wp2_with fail;go_ret2;exact xx H.o (by decide) (aP w _ none)
 . have J:=ae (AU x A n c B W (h.grown G hB nofun) (aG hB G.size) hn);by_cases u:nS x=true;exact MG x A n c B w h hB D (by unfold fits;rw[if_neg (by rw[E.o];exact q),if_pos u]) base d
   . have a:nS x=false:=(by simpa using u);have H:Hid (fits x=1):=ae (by unfold fits;rw[if_neg (by rw[E.o];exact q),a];rfl);rw[a] at J;clear u a;go_enter Tryz.func46,Tryz.ntmps46;go_wp2_with fail;rw[show w.alloc (.cells #[.int .i64 x.thread,.int .i64 x.first,.slice A n c] 50)=W from L.o.symm];refine J.o.mono ?_;rintro e w1 ⟨rfl,I⟩;go_wp2_with fail;go_ret2;exact xx H.o (by decide) (af G I (.inl rfl))
theorem Tt {x:Blk}(a:∀r∈x.recs,RecNums r):(encode x).1.length<=1000000000000:=by by_cases hf:fits x=0;rw[uo hf];obtain⟨z0,u,y,z3,z4,B,d⟩:=iH hf;have q:=lZ x.recs (-1) (uk d a);have D:=iy (aZ (-1) x.recs);have E:=aO (n:=x.first) ⟨by omega,by omega⟩;have G:=aO (n:=(x.recs.length:Int)) ⟨by omega,by omega⟩;have H:=aO (n:=((aZ (-1) x.recs).length:Int)) ⟨by omega,by omega⟩;have I:=aO (n:=((pack (aZ (-1) x.recs)).length:Int)) ⟨by omega,by omega⟩;unfold dC dY jB;simp only[aY,iR,yA];omega;unfold encode;rw[if_neg hf];simp
structure RP (T:TypeId)(cells:Array Value)(W0:World)(base B thr gR gB gW gF:Nat)(s:St)(wr:World):Prop where
 ex:∃vb vf css,RM base B thr gB gW gF s vb vf css wr
 rec_:Held wr gR T cells
 gr:W0.grownBy wr none
 lo:W0.heap.size<=base/\W0.heap.size<=gB/\W0.heap.size<=gW/\W0.heap.size<=gF
 nr:gR<base/\gR≠gB/\gR≠gW/\gR≠gF
theorem lu {W0 wr w1:World}{o:Option Nat}(h:W0.grownBy wr none)(hg:wr.grownBy w1 o)(ho:∀g,o=some g->W0.heap.size<=g):W0.grownBy w1 none:=by
 refine af h hg ?_
 cases o with
 |none=>exact .inl rfl
 |some g=>exact .inr ⟨g,rfl,ho g rfl⟩
theorem PI {r:Rec}(h:RecFit r):RecNums r:=⟨h.seq,h.thread,h.kind,h.obj,h.value,h.site,h.deps,h.from_⟩
theorem RP.keep {T:TypeId}{cells:Array Value}{W0 wr w1:World}{base B thr gR gB gW gF:Nat}{s:St}(h:RP T cells W0 base B thr gR gB gW gF s wr)(hg:wr.grownBy w1 none):RP T cells W0 base B thr gR gB gW gF s w1:=by obtain⟨⟨vb,vf,css,a⟩,hR,hgr,hlo,hnr⟩:=h;exact⟨⟨vb,vf,css,a.keep hg⟩,hR.grown hg nofun,lu hgr hg nofun,hlo,hnr⟩
theorem aao (w:World)(r:Rec)(Ad:Option Addr)(nd cd:Nat)(Af:Option Addr)(nf cf:Nat):
 Lies (w.alloc (.cells (recV r Ad nd cd Af nf cf) 54)) (w.alloc (.cells (recV r Ad nd cd Af nf cf) 54)).heap.size 8 (some ⟨w.heap.size,0,none⟩) 1 (recV r Ad nd cd Af nf cf).toList:=by obtain⟨A,c,a,_,_,d,_⟩:=ai (World.ownsRow_lit (base:=w.heap.size) (e:=54) (size:=8) w (recV r Ad nd cd Af nf cf) 1 (ak _) (by unfold maxLen;omega) rfl);injection a with q;subst q;exact d
theorem ac5 (r:Rec)(Ad:Option Addr)(nd cd:Nat)(Af:Option Addr)(nf cf:Nat):∀u∈(recV r Ad nd cd Af nf cf).toList,u.oneCell'=true:=by intro u a;simp only[recV,fV,lX,or_false] at a;rcases a with h|h|h|h|h|h|h|h<;>rw[h]<;>rfl
def Fls (w:World)(B:Nat)(A:Option Addr)(n:Nat)(fs:List (Int×Int)):Prop:=
 fs.length=n/\∀k f,fs[k]?=some f->∃b o:Nat,A=some ⟨b,o,none⟩/\b<B/\w.cell? ⟨b,o+k*2,none⟩=some (.int .i64 f.1)/\w.cell? ⟨b,o+k*2+1,none⟩=some (.int .i64 f.2)
theorem Fls.grown {w w':World}{B n:Nat}{A:Option Addr}{fs:List (Int×Int)}{row:Option Nat}(h:Fls w B A n fs)(hg:w.grownBy w' row)(hB:B<=w.heap.size)(hr:∀g,row=some g->B<=g):Fls w' B A n fs:=
 ⟨h.1,λk f hf=>by
  obtain⟨b,o,e,hb,h1,h2⟩:=h.2 k f hf
  have hk:∀j,w'.cell? ⟨b,j,none⟩=w.cell? ⟨b,j,none⟩:=λj=>lL (hg.block b (by omega) (λe=>by have:=hr _ e.symm;omega))
  exact⟨b,o,e,hb,by rw[hk];exact h1,by rw[hk];exact h2⟩⟩
theorem Fls.at {w:World}{B n k:Nat}{A:Option Addr}{fs:List (Int×Int)}(h:Fls w B A n fs)(hk:k<n):
 ∃b o f,A=some ⟨b,o,none⟩/\b<B/\fs[k]?=some f/\w.cell? ⟨b,o+k*2,none⟩=some (.int .i64 f.1)/\w.cell? ⟨b,o+k*2+1,none⟩=some (.int .i64 f.2):=by have h1:k<fs.length:=(by have:=h.1;omega);obtain⟨b,o,a,d,q,u⟩:=h.2 k fs[k] (aX h1);exact⟨b,o,fs[k],a,d,aX h1,q,u⟩
def yI (p:Pln)(Af:Option Addr)(nf cf:Nat)(Ac:Option Addr)(nc cc:Nat):Array Value:=#[.int .i64 p.cap,.slice Af nf cf,.int .i64 p.stop,.slice Ac nc cc]
theorem Ez {α:Type}{f:α->Bool}{xs:List α}{k:Nat}{x:α}(h:xs[k]?=some x):(xs.drop k).all f=(f x &&(xs.drop (k+1)).all f):=by obtain⟨a,rfl⟩:=dD.1 h;rw[nM a];rfl
theorem Yf {w:World}{base e sz n m c:Nat}{A:Option Addr}{xs:List Value}(h:w.ownsRow base e sz (.slice A n c) n xs)(hm:m<=n):w.ownsRow base e sz (.slice A m c) m (xs.take (m*sz)):=by refine⟨by rw[sS,h.1];exact Dz (lN _ hm),?_⟩;rcases h.2 with ⟨h1,h0⟩|⟨g,cap,cur,h1,hb,hg,hnc,hcm,hcs,ht⟩;injection h1 with h2 h3 h4;subst h2 h4;have:m=0:=(by omega);subst this;exact .inl ⟨rfl,by simp⟩;injection h1 with h2 h3 h4;subst h2 h4;refine .inr ⟨g,c,cur,rfl,hb,hg,by omega,hcm,hcs,?_⟩;rw[<-ht,List.take_take,Dz (lN _ hm)]
theorem VE {w:World}{base e n m c:Nat}{A:Option Addr}{b:Bytes}(h:w.ownsRow base e 1 (.slice A n c) n (b.map bv))(hm:m<=n):w.ownsRow base e 1 (.slice A m c) m ((b.take m).map bv):=by have:=Yf h hm;rwa [iY,<-kU] at this
structure FilesAt (base thr gF:Nat)(fs:Nat->Bytes)(vf:Nat->Value)(w:World):Prop where
 h:Held w gF 22 (fam thr vf)
 own:∀t,t<thr->w.ownsRow base 5 1 (vf t) (fs t).length ((fs t).map bv)
 ap:∀t k,t<thr->k<thr->t≠k->Apart (vf t) (vf k)
 lo:base<=gF
 ne:∀t,t<thr->(vf t).ownBlock≠some gF
def DC (l:List Ev)(thr:Int)(p:Pln)(w:World)(e:Ending)(w':World):Prop:=
 ∃v,e= .returned (.tuple #[v,.int .i64 (bP l thr p)])/\w.grownBy w' none/\
  (bP l thr p≠0->v= .slice none 0 0)/\
  (bP l thr p=0->∃(t gF:Nat) (vf:Nat->Value),thr=(t:Int)/\v= .slice (some ⟨gF,0,none⟩) t t/\FilesAt w.heap.size t gF (filesOf l p) vf w')
theorem Jh {l:List Ev}{thr:Int}{p:Pln}{w w':World}{k:Int}(hk:bP l thr p=k)(h0:k≠0)(hg:w.grownBy w' none):DC l thr p w (.returned (.tuple #[.slice none 0 0,.int .i64 k])) w':=
 ⟨_,by rw[hk],hg,λ_=>rfl,λh=>absurd (hk▸h) h0⟩
theorem Yg (t:Nat)(v:Value)(h:v.cells=#[v]):madeCells v.cells (t*1)=fam t λ_=>v:=by rw[h];unfold madeCells fam;apply DD;simp;intro i h1 h2;simp[Nat.mod_one]
theorem VF:(Tryz.prog.info? 48).map (λi=>(i.zero,i.size,i.bytes))=some (some (.slice none 0 0),1,24):=by kernel_rfl
theorem Qw:(Tryz.prog.info? 22).map (λi=>(i.zero,i.size,i.bytes))=some (some (.slice none 0 0),1,24):=by kernel_rfl
theorem DF {T e:TypeId}{z:Value}{bytes:Nat}(u:Tryz.prog.underlying T=some (.slice e))(hi:(Tryz.prog.info? e).map (λi=>(i.zero,i.size,i.bytes))=some (some z,1,bytes))(y:z.cells=#[z])(hb:bytes<=24)(w:World){t:Nat}(D:t<=4):
 (Instr.makeSlice T (.int .i64 (t:Int)) (.int .i64 (t:Int))).run Tryz.prog w= .ok (.slice (some ⟨w.heap.size,0,none⟩) t t) (w.alloc (.cells (fam t λ_=>z) e)):=by obtain⟨B,hi,a,d,q⟩:=info_parts hi;((have:=run_make (P:=Tryz.prog) w T e B z u hi a .i64 .i64 (t:Int) (t:Int) (by omega) (qJ _) (by rw[q];rcases (show t=0\/t=1\/t=2\/t=3\/t=4 by omega) with h|h|h|h|h<;>subst h<;>omega) (by omega));rw[xZ,d,Yg t z y] at this);exact this
theorem x8 {a b:World}(h:a.grownBy b none)(o:Obj):a.grownBy (b.alloc o) none:=af h (aP _ _ none) (.inl rfl)
theorem RP.init {T:TypeId}{cells:Array Value}{W0 a:World}{base B thr gR gB gW gF:Nat}(hB:Held a gB 48 (fam thr λ_=> .slice none 0 0))(hW:Held a gW 3 (fam thr λ_=> .int .i64 0))(hF:Held a gF 22 (fam thr λ_=> .slice none 0 0))(q:Held a gR T cells)(gr:W0.grownBy a none)
 (lo:W0.heap.size<=gR/\W0.heap.size<=gB/\W0.heap.size<=gW/\W0.heap.size<=gF) (hi:gR<base/\gB<base/\gW<base/\gF<base) (nr:gR≠gB/\gR≠gW/\gR≠gF) (ne:gB≠gW/\gB≠gF/\gW≠gF) (u:B<=W0.heap.size) (bs:base<=a.heap.size):
 RP T cells W0 base B thr gR gB gW gF St.none a:=by obtain⟨l0,l1,l2,l3⟩:=lo;obtain⟨y,D,E,G⟩:=hi;refine⟨⟨λ_=> .slice none 0 0,λ_=> .slice none 0 0,λ_=> [],⟨hB,hW,hF,λt d=>dw _ _ _ _,λt d=>BufAt.nil _ _,λt d=>dw _ _ _ _,λt k _ _ _=>Apart.nil _,λt k _ _ _=>Apart.nil _,λt k _ _=>Apart.nil _,⟨D,E,G⟩,⟨by omega,by omega,by omega⟩,ne,bs⟩⟩,q,gr,⟨by omega,l1,l2,l3⟩,y,nr⟩
theorem ai3 (W:World)(c0 c1 c2 c3:Array Value)(t0 a d t3:TypeId):
 Held ((((W.alloc (.cells c0 t0)).alloc (.cells c1 a)).alloc (.cells c2 d)).alloc (.cells c3 t3)).drew W.heap.size t0 c0/\
 Held ((((W.alloc (.cells c0 t0)).alloc (.cells c1 a)).alloc (.cells c2 d)).alloc (.cells c3 t3)).drew (W.heap.size+1) a c1/\
 Held ((((W.alloc (.cells c0 t0)).alloc (.cells c1 a)).alloc (.cells c2 d)).alloc (.cells c3 t3)).drew (W.heap.size+1+1) d c2/\
 Held ((((W.alloc (.cells c0 t0)).alloc (.cells c1 a)).alloc (.cells c2 d)).alloc (.cells c3 t3)).drew (W.heap.size+1+1+1) t3 c3/\
 W.grownBy ((((W.alloc (.cells c0 t0)).alloc (.cells c1 a)).alloc (.cells c2 d)).alloc (.cells c3 t3)).drew none/\
 ((((W.alloc (.cells c0 t0)).alloc (.cells c1 a)).alloc (.cells c2 d)).alloc (.cells c3 t3)).drew.heap.size=W.heap.size+4:=by have s1:(W.alloc (.cells c0 t0)).heap.size=W.heap.size+1:=(by simp);have s2:((W.alloc (.cells c0 t0)).alloc (.cells c1 a)).heap.size=W.heap.size+1+1:=(by simp);have s3:(((W.alloc (.cells c0 t0)).alloc (.cells c1 a)).alloc (.cells c2 d)).heap.size=W.heap.size+1+1+1:=(by simp);refine⟨(((Held.new W t0 c0).alloc _).alloc _).alloc _,?_,?_,?_,?_,by simp⟩;have:=((Held.new (W.alloc (.cells c0 t0)) a c1).alloc (.cells c2 d)).alloc (.cells c3 t3);rw[s1] at this;exact this;have:=(Held.new ((W.alloc (.cells c0 t0)).alloc (.cells c1 a)) d c2).alloc (.cells c3 t3);rw[s2] at this;exact this;have:=Held.new (((W.alloc (.cells c0 t0)).alloc (.cells c1 a)).alloc (.cells c2 d)) t3 c3;rw[s3] at this;exact this;exact aA (x8 (x8 (x8 (x8 (aW W none) _) _) _) _)
theorem RP.cut {T:TypeId}{cells:Array Value}{W0 wr:World}{base B thr gR gB gW gF:Nat}{s:St}(h:RP T cells W0 base B thr gR gB gW gF s wr){t:Nat}(q:t<thr){A:Option Addr}{c m:Nat}(hc:wr.cell? ⟨gF,t,none⟩=some (.slice A (s.file t).length c))(hm:m<=(s.file t).length):
 RP T cells W0 base B thr gR gB gW gF ⟨s.buf,s.first,upd s.file t ((s.file t).take m)⟩ (wr.setCell ⟨gF,t,none⟩ (.slice A m c)):=by obtain⟨⟨vb,vf,css,u⟩,hR,hgr,hlo,hnr⟩:=h;have G:vf t= .slice A (s.file t).length c:=(by have:=u.hF.cell t;rw[gI _ q,hc] at this;injection this with this;exact this.symm);have d:=u.of_ t q;rw[G] at d;have y:=VE d hm;have hb:∀g,(Value.slice A m c).ownBlock=some g->(vf t).ownBlock=some g:=(λg e=>by rw[G];cases A with|none=>exact (nomatch e)|some a=>simpa [Value.ownBlock] using e);have H:((s.file t).take m).length=m:=(by rw[sS];omega);refine⟨⟨vb,_,css,u.setF q (by rw[H];exact y) (aW wr _) (λk hk D g e1 E=>u.aff t k q hk (λe=>D e.symm) g (hb g e1) E) (λk hk g e1 E=>u.abf k t hk q g e1 (hb g E))⟩,hR.far (p:=⟨gF,t,none⟩) hnr.2.2.2 _,?_,hlo,hnr⟩;exact lu hgr (ag wr gF t _) (λg e=>by injection e with e;have:=hlo.2.2.2;omega)
theorem RP.files {T:TypeId}{cells:Array Value}{W0 wr:World}{base B thr gR gB gW gF:Nat}{s:St}(h:RP T cells W0 base B thr gR gB gW gF s wr)(w:World)(hw:w.heap.size<=W0.heap.size):∃vf,FilesAt w.heap.size thr gF s.file vf wr:=by obtain⟨⟨vb,vf,css,a⟩,hR,hgr,hlo,hnr⟩:=h;refine⟨vf,a.hF,λt d=>dK (a.of_ t d) (by omega),a.aff,by omega,λt d=>jg (a.of_ t d) a.lt.2.2⟩
structure TrN (w:World)(m n:Nat)(A:Option Addr)(l:List Ev):Prop where
 n1:1<=n
 n4:n<=4
 len:l.length<=m
 evs:Evs w w.heap.size A l.length l
 ok:∀(k:Nat) e,l[k]?=some e->EvOk n k e
def aje (w:World)(B m:Nat)(e:Ending)(w':World):Prop:=∃(A0:Option Addr) (n0 c0:Nat) (X0:List Value) (A1:Option Addr) (n1 c1:Nat) (X1:List Value) (A2:Option Addr) (n2 c2:Nat) (X2:List Value) (A3:Option Addr) (n3 c3:Nat) (X3:List Value) (A4:Option Addr) (n4 c4:Nat) (X4:List Value) (A5:Option Addr) (n5 c5:Nat) (X5:List Value) (A:Option Addr) (c:Nat) (l:List Ev),e= .returned (.agg #[.slice A0 n0 c0,.slice A1 n1 c1,.slice A2 n2 c2,.slice A3 n3 c3,.slice A4 n4 c4,.slice A5 n5 c5,.slice A l.length c])/\l.length<=c/\TrN w' m n4 A l/\WIn w' w'.heap.size A0 n0 c0 X0 A1 n1 c1 X1 A2 n2 c2 X2 A3 n3 c3 X3 A4 n4 c4 X4 A5 n5 c5 X5/\(∀W' g,w'.grownBy W' (some g)->B<=g->g<w.heap.size->Evs W' w'.heap.size A l.length l/\WIn W' w'.heap.size A0 n0 c0 X0 A1 n1 c1 X1 A2 n2 c2 X2 A3 n3 c3 X3 A4 n4 c4 X4 A5 n5 c5 X5)/\w.grownBy w' none
structure PlnG (n:Nat)(p:Pln):Prop where
 c1:1<=p.cap
 c8:p.cap<=8
 s0:0<=p.stop
 s1:p.stop<=255
 fl:p.flushes.length<=20
 fk:∀f∈p.flushes,0<=f.1/\f.1<=255/\0<=f.2/\f.2<n
 cl:p.cuts.length<=n
 ck:∀k∈p.cuts,0<=k/\k<=255
theorem Hr {l:List Ev}{n:Nat}{p:Pln}(h1:1<=n)(h4:n<=4)(a:PlnG n p)(u:l.length<=100)(he:∀(k:Nat) e,l[k]?=some e->EvOk n k e):bP l n p=0:=by have d:qU n p=true:=(by have h1:=a.c1;have h2:=a.c8;have h3:=a.s0;have h5:=a.cl;unfold qU jQ;simp only[dH,gX,nO];refine⟨⟨⟨⟨⟨⟨⟨by omega,by omega⟩,by omega⟩,by omega⟩,by omega⟩,λf hf=>?_⟩,λk hk=>(a.ck k hk).1⟩,by omega⟩;have:=a.fk f hf;unfold jT;simp only[dH,gX];omega);unfold bP;rw[if_pos d,if_neg (by omega),if_pos];rw[nO];intro e hm;obtain⟨k,hk⟩:=rM.1 hm;have h:=he k e hk;have q:=(dD.1 hk).1;have:=h.th0;have:=h.thn;have:=h.dp.1;have:=h.fr.1;unfold BP;simp only[dH,gX];omega
theorem NK {l:List Ev}{n:Nat}(h4:n<=4)(d:l.length<=100)(he:∀(k:Nat) e,l[k]?=some e->EvOk n k e):∀e∈l,RecFit ⟨0,e⟩:=by intro e hm;obtain⟨k,hk⟩:=rM.1 hm;have a:=(dD.1 hk).1;obtain⟨h,_,_⟩:=(he k e hk).fit h4 (by omega);exact⟨⟨by show (-9223372036854775808:Int)<=0;decide,by show (0:Int)<=9223372036854775807;decide⟩,h.thread,h.kind,h.obj,h.value,h.site,h.deps,h.from_⟩
theorem wZ {w0 wr a:World}{o:Option Nat}(h:w0.grownBy wr none)(h4:wr.grownBy a o)(ho:∀g,o=some g->w0.heap.size<=g):w0.grownBy a none:=
 ⟨h4.os.trans h.os,h4.tape.trans h.tape,h4.output.trans h.output,aG h.size h4.size,λk hk _=>(h4.block k (oM hk h.size) (λe=>by have:=ho k e.symm;omega)).trans (h.block k hk nofun)⟩
theorem FilesAt.row {base thr gF g:Nat}{fs:Nat->Bytes}{vf:Nat->Value}{w w':World}(h:FilesAt base thr gF fs vf w)(hg:w.grownBy w' (some g))(d:g<base):FilesAt base thr gF fs vf w':=
 ⟨h.h.grown hg (λe=>by injection e with e;have:=h.lo;omega),λt a=>ax (h.own t a) hg (λq e hk=>by injection hk with hk;have:=((h.own t a).lt q e).1;omega),h.ap,h.lo,h.ne⟩
def QE:Prop:=∀(w:World) (B:Nat) (A1:Option Addr) (n1 c1:Nat) (xs:Bytes) (hx:Lies w B 1 A1 n1 (xs.map bv)) (hc1:n1<=c1) (hn1:n1<=1000) (ho1:A1=none->c1=0) (A2:Option Addr) (m c2:Nat) (ys:Bytes) (hy:Lies w B 1 A2 m (ys.map bv)) (hc2:m<=c2) (hm:m<=1000) (ho2:A2=none->c2=0),
 Calls Tryz.prog 9 #[.slice A1 n1 c1,.slice A2 m c2] w λe w'=>aje w B m e w'
def QF:Prop:=∀(w:World) (n cap stop:Nat) (h1:1<=n) (h4:n<=4) (hc:cap<256) (hs:stop<256) (A1:Option Addr) (n1 c1 B1:Nat) (xs:Bytes) (hx:Lies w B1 1 A1 n1 (xs.map bv)) (hc1:n1<=c1) (hm1:c1<=maxLen) (ho1:A1=none->c1=0) (A2:Option Addr) (n2 c2 B2:Nat) (ys:Bytes) (hy:Lies w B2 1 A2 n2 (ys.map bv)) (hc2:n2<=c2) (hm2:c2<=maxLen) (ho2:A2=none->c2=0),
 Calls Tryz.prog 20 #[.agg #[.int .u8 (cap:Int),.int .u8 (stop:Int),.slice A1 n1 c1,.slice A2 n2 c2],.int .i64 (n:Int)] w λe w'=>
  ∃(p:Pln) (Af:Option Addr) (cf:Nat) (Ac:Option Addr) (cc:Nat),e= .returned (.agg (yI p Af p.flushes.length cf Ac p.cuts.length cc))/\PlnG n p/\Fls w' w'.heap.size Af p.flushes.length p.flushes/\Lies w' w'.heap.size 1 Ac p.cuts.length (p.cuts.map iv)/\w.grownBy w' none
theorem Xl (l:List Ev)(y:Option Addr)(B cl:Nat)(thr:Int)(p:Pln)(Af:Option Addr)(nf cf:Nat)(D:Option Addr)(u E:Nat)(w:World)(a:p.cuts.length=u)(h:jQ thr p=false\/thr<(u:Int)):
 Calls Tryz.prog 38 #[.slice y B cl,.int .i64 thr,.agg (yI p Af nf cf D u E)] w λe w'=>e= .returned (.int .i64 (bP l thr p))/\w.grownBy w' none:=by
 obtain⟨cap,fl,stop,cu⟩:=p;dsimp only at a;have d:Hid (bP l thr ⟨cap,fl,stop,cu⟩=1):=(by have:qU thr ⟨cap,fl,stop,cu⟩=false:=(by unfold qU;rcases h with h|h;rw[h];rfl;rw[a,fC (by omega),Bool.and_false]);exact ae (by unfold bP;rw[this];rfl));have q:thr<1\/4<thr\/cap<1\/64<cap\/stop<0\/thr<(u:Int):=(by rcases h with h|h;unfold jQ at h;simp only[AY,ji] at h;omega;omega);unfold yI;dsimp only;clear h a;by_cases a1:thr<1
 . clear q;go_enter Tryz.func38,Tryz.ntmps38;go_wp2_with fail;go_ret;exact⟨bQ d.o.symm,aP w _ none⟩
 . by_cases a2:(4:Int)<thr
   . clear q;go_enter Tryz.func38,Tryz.ntmps38;go_wp2_with fail;go_ret;exact⟨bQ d.o.symm,aP w _ none⟩
   . by_cases a3:cap<1
     . clear q;go_enter Tryz.func38,Tryz.ntmps38;go_wp2_with fail;go_ret;exact⟨bQ d.o.symm,aP w _ none⟩
     . by_cases a4:(64:Int)<cap
       . clear q;go_enter Tryz.func38,Tryz.ntmps38;go_wp2_with fail;go_ret;exact⟨bQ d.o.symm,aP w _ none⟩
       . by_cases a5:stop<0
         . clear q;go_enter Tryz.func38,Tryz.ntmps38;go_wp2_with fail;go_ret;exact⟨bQ d.o.symm,aP w _ none⟩
         . have G:thr<(u:Int):=(by omega);clear q;go_enter Tryz.func38,Tryz.ntmps38;go_wp2_with fail;go_ret;exact⟨bQ d.o.symm,aP w _ none⟩
theorem aan (l:List Ev)(Al:Option Addr)(I cl:Nat)(thr:Int)(p:Pln)(Af:Option Addr)(nf cf:Nat)(L:Option Addr)(d V B:Nat)(w:World)(hl:Evs w B Al I l)(hf:Fls w B Af nf p.flushes)(H:Lies w B 1 L d (p.cuts.map iv))(hB:B<=w.heap.size)(aR:nf<=1000000)(hnc:d<=1000000):
 Calls Tryz.prog 38 #[.slice Al I cl,.int .i64 thr,.agg (yI p Af nf cf L d V)] w λe w'=>e= .returned (.int .i64 (bP l thr p))/\w.grownBy w' none:=by
 have D:p.cuts.length=d:=H.lenI;by_cases hh:jQ thr p=false\/thr<(d:Int);exact Xl l Al I cl thr p Af nf cf L d V w D hh
 . obtain⟨cap,fl,stop,cu⟩:=p;have hp:jQ thr ⟨cap,fl,stop,cu⟩=true:=by
    cases h:jQ thr ⟨cap,fl,stop,cu⟩ with
    |true=>rfl
    |false=>exact absurd (.inl h) hh
   have a6:¬thr<(d:Int):=λh=>hh (.inr h);dsimp only at D hf H;have M:Hid (qU thr ⟨cap,fl,stop,cu⟩=(fl.all (jT thr) && cu.all (λn=>decide (0<=n)))):=ae (by unfold qU;rw[hp,D,decide_eq_true (by omega:(d:Int)<=thr)];simp);unfold jQ at hp;simp only[dH,gX] at hp;have a1:¬thr<1:=(by omega);have a2:¬(4:Int)<thr:=(by omega);have a3:¬cap<1:=(by omega);have a4:¬(64:Int)<cap:=(by omega);have a5:¬stop<0:=(by omega);have an:=ae D;have ao:=ae hf.1;have Ht:=ae hl.1;clear hh D hp;obtain⟨W,hW⟩:∃W,W=w.alloc (.cells #[.int .i64 cap,.slice Af nf cf,.int .i64 stop,.slice L d V] 39):=⟨_,rfl⟩;have X:w.grownBy W none:=(by rw[hW];exact aP w _ none);have N:Held W w.heap.size 39 #[.int .i64 cap,.slice Af nf cf,.int .i64 stop,.slice L d V]:=(by rw[hW];exact Held.new _ _ _);have HW:=ae hW;clear hW;unfold yI;dsimp only;go_enter Tryz.func38,Tryz.ntmps38;go_upto_region 3 with fail;rw[show w.alloc (.cells #[.int .i64 cap,.slice Af nf cf,.int .i64 stop,.slice L d V] 39)=W from HW.o.symm];have k1:W.cell? ⟨w.heap.size,1,none⟩=some (.slice Af nf cf):=N.cell 1;have k3:W.cell? ⟨w.heap.size,3,none⟩=some (.slice L d V):=N.cell 3;go_wp2_with fail;go_loopw [7] (λiv wr=>∃k:Nat,iv= .int .i64 (k:Int)/\k<=nf/\wr=W/\(fl.drop k).all (jT thr)=fl.all (jT thr)) (λiv _=>nf-(intOf iv).toNat)
   case atStart=>exact ⟨0,rfl,ay _,rfl,rfl⟩
   case round=>
    obtain⟨k,rfl,hk,E,ho⟩:=hrel;subst E;have HO:=ae ho;clear ho;by_cases aq:k<nf
    . obtain⟨b,o,f,rfl,b0,Y,f0,f1⟩:=(hf.grown X hB nofun).at aq;have J:=ae (Ez (f:=jT thr) Y);clear Y;by_cases a:jT thr f=true
      . have q:=a;unfold jT at q;simp only[dH,gX] at q;have g1:¬f.1<0:=(by omega);have g2:¬f.2<0:=(by omega);have g3:¬thr<=f.2:=(by omega);have O:=ae a;clear a q;go_wp2_with fail;go_roundw
        case rel=>exact ⟨k+1,by go_num,by omega,trivial,by have:=J.o;rw[HO.o,O.o,xh] at this;exact this.symm⟩
        case measure=>simp [intOf];omega
      . have y:Hid (bP l thr ⟨cap,fl,stop,cu⟩=1):=ae (by
         have h1:=J.o;rw[HO.o,Bool.eq_false_iff.2 a,LP] at h1;have h2:=M.o;rw[h1,LP] at h2;unfold bP;rw[h2];rfl)
        have hb:f.1<0\/f.2<0\/thr<=f.2:=(by unfold jT at a;simp only[dH,gX] at a;omega);have G:=ae X;clear a;by_cases g1:f.1<0
        . clear hb;go_wp2_with fail;go_ret;exact⟨bQ y.o.symm,G.o⟩
        . by_cases g2:f.2<0
          . clear hb;go_wp2_with fail;go_ret;exact⟨bQ y.o.symm,G.o⟩
          . have g3:thr<=f.2:=(by omega);clear hb;go_wp2_with fail;go_ret;exact⟨bQ y.o.symm,G.o⟩
    . have ar:k=nf:=(by omega);have yN:Hid (fl.all (jT thr)=true):=ae (by have:=HO.o;rw[jK (by have:=ao.o;omega)] at this;exact this.symm);subst ar;have Z:=H.grown X hB nofun;have av:=hl.grown X hB nofun;have G:=ae X;clear X hf H hl N;obtain⟨W1,aw⟩:∃W1,W1=wr:=⟨_,rfl⟩;subst aw;go_wp2_with fail;go_loopw [8] (λiv wr=>∃j:Nat,iv= .int .i64 (j:Int)/\j<=d/\wr=W1/\(cu.drop j).all (λn=>decide (0<=n))=cu.all (λn=>decide (0<=n))) (λiv _=>d-(intOf iv).toNat)
      case atStart=>exact ⟨0,rfl,ay _,rfl,rfl⟩
      case round=>
       obtain⟨j,rfl,hj,E,a7⟩:=hrel;subst E;have R:=ae a7;clear a7;by_cases aD:j<d
       . obtain⟨ad,u,rfl,b1,hx,hc⟩:=Z.cellAt aD;simp only[bM,mO] at hx;obtain⟨x,hx,rfl⟩:=hx;unfold iv at hc;have J:=ae (Ez (f:=λn:Int=>decide (0<=n)) hx);clear hx;by_cases b2:x<0
         . have y:Hid (bP l thr ⟨cap,fl,stop,cu⟩=1):=ae (by
            have h1:=J.o;rw[R.o,fC (by omega),LP] at h1;have h2:=M.o;rw[h1,Bool.and_false] at h2;unfold bP;rw[h2];rfl)
           go_wp2_with fail;go_ret;exact⟨bQ y.o.symm,G.o⟩
         . have HX:Hid (decide (0<=x)=true):=ae (decide_eq_true (by omega));go_wp2_with fail;go_roundw
           case rel=>exact ⟨j+1,by go_num,by omega,trivial,by have:=J.o;rw[R.o,HX.o,xh] at this;exact this.symm⟩
           case measure=>simp [intOf];omega
       . have a8:Hid (bP l thr ⟨cap,fl,stop,cu⟩=if 400<I then 2 else if l.all (BP thr) then 0 else 1):=ae (by
          have h1:=R.o;rw[jK (by have:=an.o;omega)] at h1;have h2:=M.o;rw[yN.o,<-h1] at h2;unfold bP;rw[h2,Ht.o];rfl)
         clear Z;by_cases b3:(400:Int)<(I:Int)
         . have y:Hid (bP l thr ⟨cap,fl,stop,cu⟩=2):=ae (by rw[a8.o,if_pos (by omega)]);go_wp2_with fail;go_ret;exact⟨bQ y.o.symm,G.o⟩
         . have aa:Hid (bP l thr ⟨cap,fl,stop,cu⟩=if l.all (BP thr) then 0 else 1):=ae (by rw[a8.o,if_neg (by omega)]);obtain⟨W2,aL⟩:∃W2,W2=wr:=⟨_,rfl⟩;subst aL;go_wp2_with fail;go_loopw [9] (λiv wr=>∃m:Nat,iv= .int .i64 (m:Int)/\m<=I/\wr=W2/\(l.drop m).all (BP thr)=l.all (BP thr)) (λiv _=>I-(intOf iv).toNat)
           case atStart=>exact ⟨0,rfl,ay _,rfl,rfl⟩
           case round=>
            obtain⟨m,rfl,hm,E,ab⟩:=hrel;subst E;have U:=ae ab;clear ab;by_cases aM:m<I
            . obtain⟨b,o,e,Ad,cd,Ae,ce,rfl,hb,al,e0,e1,e2,e3,e4,e5,e6,_,_⟩:=av.at aM;have J:=ae (Ez (f:=BP thr) al);clear al e1 e2 e3 e4;by_cases a:BP thr e=true
              . have q:=a;unfold BP at q;simp only[dH,gX] at q;have g1:¬e.thread<0:=(by omega);have g2:¬thr<=e.thread:=(by omega);have g3:¬(400:Int)<(e.deps.length:Int):=(by omega);have g4:¬(400:Int)<(e.from_.length:Int):=(by omega);have O:=ae a;clear a q;go_wp2_with fail;go_roundw
                case rel=>exact ⟨m+1,by go_num,by omega,trivial,by have:=J.o;rw[U.o,O.o,xh] at this;exact this.symm⟩
                case measure=>simp [intOf];omega
              . have y:Hid (bP l thr ⟨cap,fl,stop,cu⟩=1):=ae (by
                 have h1:=J.o;rw[U.o,Bool.eq_false_iff.2 a,LP] at h1;rw[aa.o,h1];rfl)
                have hb:e.thread<0\/thr<=e.thread\/(400:Int)<(e.deps.length:Int)\/(400:Int)<(e.from_.length:Int):=(by unfold BP at a;simp only[dH,gX] at a;omega);clear a;by_cases g1:e.thread<0
                . clear hb;go_wp2_with fail;go_ret;exact⟨bQ y.o.symm,G.o⟩
                . by_cases g2:thr<=e.thread
                  . clear hb;go_wp2_with fail;go_ret;exact⟨bQ y.o.symm,G.o⟩
                  . by_cases g3:(400:Int)<(e.deps.length:Int)
                    . clear hb;go_wp2_with fail;go_ret;exact⟨bQ y.o.symm,G.o⟩
                    . have g4:(400:Int)<(e.from_.length:Int):=(by omega);clear hb;go_wp2_with fail;go_ret;exact⟨bQ y.o.symm,G.o⟩
            . have y:Hid (bP l thr ⟨cap,fl,stop,cu⟩=0):=ae (by
               have h1:=U.o;rw[jK (by have:=Ht.o;omega)] at h1;rw[aa.o,<-h1];rfl)
              go_wp2_with fail;go_ret;exact⟨bQ y.o.symm,G.o⟩
