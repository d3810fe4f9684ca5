/- Words. -/
import Derived.Test.YtfbkkgfkhhibfaaGreatRrec
import Derived.Test.YtfbkkgfkhhibfaaGreatPkR
import Derived.StillTailTactics
set_option linter.unusedVariables false
set_option linter.unusedSimpArgs false
set_option maxRecDepth 100000
set_option maxHeartbeats 8000000
namespace Go.Proofs.YtfbkkgfkhhibfaaGreat
open Go Go.RowKit Iv
theorem OO (n:Nat):bv (UInt8.ofNat n)= .int .u8 ((n:Int)%256):=by unfold bv;congr 1
theorem Dz (s:Nat)(h:s<4294967296):(#[.int .u8 ((s:Int)/16777216),.int .u8 ((s:Int)/65536%256),.int .u8 ((s:Int)/256%256),.int .u8 ((s:Int)%256)]:Array Value)=((xA s).map bv).toArray:=by unfold xA;simp only[kH,rq,OO];rw[show ((s/16777216:Nat):Int)%256=(s:Int)/16777216 from by omega,show ((s/65536:Nat):Int)%256=(s:Int)/65536%256 from by omega,show ((s/256:Nat):Int)%256=(s:Int)/256%256 from by omega]
theorem xW (A:Option Addr)(n c B:Nat)(xs:Bytes)(w:World)(h:Lies w B 1 A n (xs.map bv))(hB:B<=w.heap.size)(hn:n<=1000000000):
 Calls Tryz.prog 82 #[.slice A n c] w λe w'=>e= .returned (.agg ((xA (Dn xs)).map bv).toArray)/\w.grownBy w' none:=by have d:=ae (λ(W:World) (hg:w.grownBy W none)=>Z9 A n c xs W B (h.grown hg hB nofun) (by omega));have a:=Xw xs;obtain⟨s,hs⟩:∃s,s=Dn xs:=⟨_,rfl⟩;rw[<-hs] at d a|-;have u:=ae a;clear hs;go_enter Tryz.func82,Tryz.ntmps82;go_wp2_with fail;refine (d.o _ (aY w _ none)).mono ?_;rintro e w1 ⟨rfl,rfl⟩;go_wp2_with fail;refine iw (v:= .agg #[.int .u8 ((s:Int)/16777216),.int .u8 ((s:Int)/65536%256),.int .u8 ((s:Int)/256%256),.int .u8 ((s:Int)%256)]) (by simp[results,Tryz.results82,go_sem]) rfl ⟨?_,aY w _ none⟩;rw[Dz s u.o]
structure RecNums (r:Rec):Prop where
 seq:inI64 r.seq
 thread:inI64 r.ev.thread
 kind:inI64 r.ev.kind
 obj:inI64 r.ev.obj
 value:inI64 r.ev.value
 site:inI64 r.ev.site
 deps:allI64 r.ev.deps
 from_:allI64 r.ev.from_
theorem xC {thread seq:Int}{rs:List Rec}(h:okRecs thread seq rs=true)(hn:∀r∈rs,RecNums r):∀r∈rs,RecOk r:=by intro r hr;have h1:=lu thread rs seq h r hr;have h2:=hn r hr;exact⟨h2.seq,h2.thread,h2.kind,h2.obj,h2.value,h2.site,h2.deps,h2.from_,h1.2.1,h1.2.2.1⟩
theorem xB {rs:List Rec}{k:Nat}{r:Rec}(hr:rs[k]?=some r)(seq:Int):aX seq (rs.drop k)=bQ r seq++aX r.seq (rs.drop (k+1)):=by obtain⟨a,rfl⟩:=bV.1 hr;rw[oG a,aX]
def um:List Int->Bytes
 | []=> []
 |n::t=>aF n++um t
theorem AO (a b c d:Int):um [a,b,c,d]=aF a++(aF b++(aF c++aF d)):=by simp[um]
def IY (w:World)(base:Nat)(x:Blk)(e:Ending)(w':World):Prop:=
 ∃v',e= .returned (.tuple #[v',.int .i64 (encode x).2])/\w'.ownsRow base 5 1 v' (encode x).1.length ((encode x).1.map bv)/\w.grownBy w' none
theorem vW {w w':World}{base:Nat}{x:Blk}{a:Int}(hf:fits x=a)(h0:a≠0)(hg:w.grownBy w' none):IY w base x (.returned (.tuple #[.slice none 0 0,.int .i64 a])) w':=by have:encode x=([],a):=(by unfold encode;rw[hf,if_neg h0]);refine⟨.slice none 0 0,by rw[this],?_,hg⟩;rw[this];exact dU _ _ _ _
theorem Tn (w:World)(base:Nat)(e:TypeId)(xs:List Value)(hb:base<=w.heap.size)(hm:xs.length<=maxLen):(w.alloc (.cells xs.toArray e)).ownsRow base e 1 (.slice (some ⟨w.heap.size,0,none⟩) xs.length xs.length) xs.length xs:=
 ⟨by simp,.inr ⟨w.heap.size,xs.length,xs.toArray,rfl,hb,heap_alloc_new w _,ax _,hm,by simp,by simp⟩⟩
theorem Dx (t:Int)(h:0<=t/\t<4):([.int .u8 84,.int .u8 t]:List Value)=([84,UInt8.ofNat (t%256).toNat]:Bytes).map bv:=by simp only[kH,rq,OO];rw[show (((t%256).toNat:Nat):Int)%256=t from by omega];rfl
theorem akw (g j:Nat):(⟨g,0,none⟩:Addr).add j=⟨g,j,none⟩:=by unfold Addr.add;split<;>simp_all
theorem GZ {W:World}{g:Nat}{T:TypeId}{xs:List Value}(h:Held W g T xs.toArray):Lies W (g+1) 1 (some ⟨g,0,none⟩) xs.length xs:=
 ⟨by simp,λ_=>⟨_,rfl,EE _,λj u a=>by rw[akw,h.cell j];simpa using a⟩⟩
theorem vV (c:Nat):∃a b d e:UInt8,xA c=[a,b,d,e]:=⟨_,_,_,_,rfl⟩
theorem zY {x:Blk}(h:fits x=0):encode x=(ak x,0):=by unfold encode;rw[if_pos h]
theorem KT (x:Blk)(A:Option Addr)(n c B:Nat)(w:World)(h:Recs w B A n x.recs)(hB:B<=w.heap.size)(O:∀r∈x.recs,RecNums r)(y:fits x=0)(base:Nat)(D:base<=w.heap.size):
 Calls Tryz.prog 46 #[.agg #[.int .i64 x.thread,.int .i64 x.first,.slice A n c]] w (IY w base x):=by
 have HL:=ae h.1;obtain⟨z0,z1,z2,z3,z4,z5,z6⟩:=fF y;have cM:n<=64:=(by rw[<-h.1];exact z1);have cN:0<n:=(by rw[<-h.1];exact z0);have aD:nI x=true:=by
  unfold fits at y;rw[if_neg (by omega)] at y;split at y;assumption
  cases y
 obtain⟨W,hW⟩:∃W,W=w.alloc (.cells #[.int .i64 x.thread,.int .i64 x.first,.slice A n c] 50):=⟨_,rfl⟩;have iQ:w.grownBy W none:=(by rw[hW];exact aY w _ none);have aL:Held W w.heap.size 50 #[.int .i64 x.thread,.int .i64 x.first,.slice A n c]:=(by rw[hW];exact Held.new _ _ _);have HW:=ae hW;have aM:=ae aL;have bx:=ae (xC z6 O);have cP:=ae O;have aR:=jc x.recs (-1) (xC z6 O);rw[h.1] at aR;obtain⟨P,hP⟩:∃P,P=aX (-1) x.recs:=⟨_,rfl⟩;rw[<-hP] at aR;have HP:=ae hP;have CA:=ae (zO x A n c B W (h.grown iQ hB nofun) (aP hB iQ.size) (by omega));rw[aD] at CA;have bB:=ae y;have cQ:base<=W.heap.size:=aP D iQ.size;clear hW aL aD z0 z1 z6 hP O y;go_enter Tryz.func46,Tryz.ntmps46;go_wp2_with fail;rw[show w.alloc (.cells #[.int .i64 x.thread,.int .i64 x.first,.slice A n c] 50)=W from HW.o.symm];refine CA.o.mono ?_;rintro e w1 ⟨rfl,a6⟩;have a7:=ae (aM.o.grown a6 nofun);have f0:w1.cell? ⟨w.heap.size,0,none⟩=some (.int .i64 x.thread):=a7.o.cell 0;have f1:w1.cell? ⟨w.heap.size,1,none⟩=some (.int .i64 x.first):=a7.o.cell 1;have f2:w1.cell? ⟨w.heap.size,2,none⟩=some (.slice A n c):=a7.o.cell 2;go_wp2_with fail;clear f0 f1 f2;go_loopw [4,5,7,23] (λpv sv _ iv wr=>∃(k:Nat) (seq:Int) (ys:Bytes) (vv:Value),vv=pv/\iv= .int .i64 (k:Int)/\k<=n/\sv= .int .i64 seq/\inI64 seq/\wr.ownsRow base 5 1 vv ys.length (ys.map bv)/\W.grownBy wr none/\At W none vv.ownBlock/\ys++aX seq (x.recs.drop k)=P) (λ_ _ _ iv _=>n-(intOf iv).toNat)
 case atStart=>exact ⟨0,-1,[],_,rfl,rfl,aG _,rfl,⟨by omega,by omega⟩,dU _ _ _ _,a6,.inl rfl,by rw[HP.o];rfl⟩
 case round=>
  clear a6;obtain⟨k,seq,ys,vv,rfl,rfl,hk,rfl,aw,G,hg,cR,heq⟩:=hrel;have HE:=ae heq;have cT:ys.length<=600000:=(by have:=jW List.length heq;rw[bG] at this;omega);have a8:=af iQ hg (.inl rfl);have aa:base<=wr.heap.size:=aP D a8.size;clear heq;by_cases bF:k<n
  . obtain⟨b,o,r,Ad,nd,cd,Af,nf,cf,hA,hb,hr,hH⟩:=(h.grown a8 hB nofun).at bF;obtain⟨c0,c1,c2,c3,c4,c5,c6,c7⟩:=hH.all;obtain⟨Ap,cp,ab,ad,bN,u,bO⟩:=ai G;subst ab;obtain⟨W2,U⟩:∃W2,W2=wr.alloc (.cells #[.int .i64 r.seq,.int .i64 r.ev.thread,.int .i64 r.ev.kind,.int .i64 r.ev.obj,.int .i64 r.ev.value,.int .i64 r.ev.site,.slice Ad nd cd,.slice Af nf cf] 54):=⟨_,rfl⟩;have pq:wr.grownBy W2 none:=(by rw[U];exact aY wr _ none);have b0:Held W2 wr.heap.size 54 (recV r Ad nd cd Af nf cf):=(by rw[U];exact Held.new _ _ _);have b1:=ae b0;have bR:=ae U;have V:B<=wr.heap.size:=aP hB a8.size;have b2:r∈x.recs:=iC hr;have b3:=ae (bx.o r b2)
    have b4:=ae (Ny Ap ys.length cp wr.heap.size ys r Ad nd cd Af nf cf seq W2 (u.grown pq (ax _) nofun) ad (by omega) b3.o aw
     ((hH.ld.grown pq V nofun).more V) ((hH.lf.grown pq V nofun).more V) pq.size base (aP aa pq.size))
    unfold recV at b4;have bS:=ae (xB hr seq);have b5:=ae pq;clear hH hr U b0 u G pq b2;subst hA;go_upto_region 10 with fail;rw[show wr.alloc (.cells #[.int .i64 r.seq,.int .i64 r.ev.thread,.int .i64 r.ev.kind,.int .i64 r.ev.obj,.int .i64 r.ev.value,.int .i64 r.ev.site,.slice Ad nd cd,.slice Af nf cf] 54)=W2 from bR.o.symm];clear c0 c1 c2 c3 c4 c5 c6 c7;obtain⟨d0,d1,d2,d3,d4,d5,d6,d7⟩:=WZ b1.o;go_wp2_with fail;refine b4.o.mono ?_;rintro e w3 ⟨v3,rfl,J,b6,pI⟩;clear d0 d1 d2 d3 d4 d5 d6 d7;have d0:w3.cell? ⟨wr.heap.size,0,none⟩=some (.int .i64 r.seq):=(b1.o.grown b6 nofun).cell 0;have b':=af b5.o b6 (.inl rfl);have al:=af hg b' (.inl rfl);have QW:At W none v3.ownBlock:=(At.refl W none).trans pI (aP hg.size b5.o.size);have Gz:=ae J;clear J;go_wp2_with fail;go_roundw
    case rel=>exact ⟨k+1,r.seq,ys++bQ r seq,_,rfl,by go_num,by omega,rfl,b3.o.seq,Gz.o,al,QW,by rw[<-HE.o,bS.o,fU]⟩
    case measure=>simp [intOf];omega
  . have c9:ys=P:=by
     have e1:=HE.o;rw[ku (by rw[HL.o];omega),aX,pY] at e1;exact e1
    subst c9;obtain⟨Ap,cp,ab,ad,bN,u,bO⟩:=ai G;subst ab;have b8:=ae (Vt Ap ys.length cp wr.heap.size ys wr u (ax _) ad (by omega) base aa);obtain⟨Q,hQ⟩:∃Q,Q=pack ys:=⟨_,rfl⟩;rw[<-hQ] at b8;have cU:Q.length<=700000:=(by have:=fC ys;rw[hQ];omega);have HQ:=ae hQ;have VK:=ae (aM.o.grown hg nofun);clear hQ G u;go_wp2_with fail;refine b8.o.mono ?_;rintro e w2 ⟨v2,rfl,E,H,pg⟩;obtain⟨A2,c2,ca,xn,cJ,b9,cc⟩:=ai E;subst ca;have CZ:=ae E;have cg:=ae b9;have Y:base<=w2.heap.size:=aP aa H.size;have f0:w2.cell? ⟨w.heap.size,0,none⟩=some (.int .i64 x.thread):=(VK.o.grown H nofun).cell 0;have f1:w2.cell? ⟨w.heap.size,1,none⟩=some (.int .i64 x.first):=(VK.o.grown H nofun).cell 1;have f2:w2.cell? ⟨w.heap.size,2,none⟩=some (.slice A n c):=(VK.o.grown H nofun).cell 2;have fz:w.heap.size<w2.heap.size:=(VK.o.grown H nofun).lt;clear E b9;go_wp2_with fail;obtain⟨Hd,an⟩:∃Hd,Hd=iD x.thread x.first n ys.length Q.length:=⟨_,rfl⟩;have ao:([84,UInt8.ofNat (x.thread%256).toNat]:Bytes)++um ([x.first,(n:Int),(ys.length:Int),(Q.length:Int)].drop 0)=Hd:=(by rw[an,CY,AO];rfl);have cV:Hd.length<=100:=(by rw[<-ao,CY,AO];have q1:=aK (n:=x.first) ⟨by omega,by omega⟩;have q2:=aK (n:=(n:Int)) ⟨by omega,by omega⟩;have q3:=aK (n:=(ys.length:Int)) ⟨by omega,by omega⟩;have q4:=aK (n:=(Q.length:Int)) ⟨by omega,by omega⟩;simp only[bG,iO,yJ];omega);have cj:=ae ao;have cm:=ae an;have O0:(w2.alloc (.cells #[.int .u8 84,.int .u8 x.thread] 5)).ownsRow base 5 1 (.slice (some ⟨w2.heap.size,0,none⟩) 2 2) 2 (([84,UInt8.ofNat (x.thread%256).toNat]:Bytes).map bv):=(by rw[<-Dx x.thread ⟨by omega,by omega⟩];exact Tn w2 base 5 [.int .u8 84,.int .u8 x.thread] Y (by unfold maxLen;simp));have U8:=ae O0;clear ao an O0;go_loopw [9,11,50] (λcn _ iv wx=>∃(k:Nat) (zs:Bytes) (vb:Value),vb=cn/\iv= .int .i64 (k:Int)/\k<=4/\wx.ownsRow base 5 1 vb zs.length (zs.map bv)/\w2.grownBy wx none/\At w2 none vb.ownBlock/\zs++um ([x.first,(n:Int),(ys.length:Int),(Q.length:Int)].drop k)=Hd) (λ_ _ iv _=>4-(intOf iv).toNat)
    case atStart=>exact ⟨0,[84,UInt8.ofNat (x.thread%256).toNat],_,rfl,rfl,by omega,U8.o,aY w2 _ none,.inr ⟨_,rfl,ax _⟩,cj.o⟩
    case round=>
     obtain⟨N,zs,vb,rfl,rfl,cW,X,I,ba,aq⟩:=hrel;have V6:=ae aq;have cX:zs.length<=100:=(by have:=jW List.length aq;rw[bG] at this;omega);have bc:base<=wr.heap.size:=aP Y I.size;clear aq;by_cases cK:N<4
     . have cq:∃m:Int,inI64 m/\(∀w,(Instr.index 202 (.agg #[.int .i64 x.first,.int .i64 (n:Int),.int .i64 (ys.length:Int),.int .i64 (Q.length:Int)]) (.int .i64 (N:Int))).run Tryz.prog w= .ok (.int .i64 m) w)/\
        um ([x.first,(n:Int),(ys.length:Int),(Q.length:Int)].drop N)=aF m++um ([x.first,(n:Int),(ys.length:Int),(Q.length:Int)].drop (N+1)):=by
        rcases (show N=0\/N=1\/N=2\/N=3 by omega) with rfl|rfl|rfl|rfl;exact⟨x.first,⟨by omega,by omega⟩,λw=>by kernel_rfl,rfl⟩;exact⟨n,⟨by omega,by omega⟩,λw=>by kernel_rfl,rfl⟩;exact⟨ys.length,⟨by omega,by omega⟩,λw=>by kernel_rfl,rfl⟩;exact⟨Q.length,⟨by omega,by omega⟩,λw=>by kernel_rfl,rfl⟩
       obtain⟨m,hm,cL,bd⟩:=cq;have cr:=ae bd;obtain⟨Ab,cb,cv,cw,_,bf,_⟩:=ai X;subst cv;have cx:=ae (QF Ab zs.length cb wr.heap.size zs m wr bf cw hm (by omega) base bc);clear bd hm X bf;go_wp2_with fail;refine cx.o.mono ?_;rintro e w4 ⟨v4,rfl,L,cy,vH⟩;have LZ:=ae L;have al:=af I cy (.inl rfl);have QW:At w2 none v4.ownBlock:=(At.refl w2 none).trans vH I.size;clear L;go_wp2_with fail;go_roundw
       case rel=>exact ⟨N+1,zs++aF m,_,rfl,by go_num,by omega,LZ.o,al,QW,by rw[<-V6.o,cr.o,fU]⟩
       case measure=>simp [intOf];omega
     . have bh:N=4:=(by omega);have bj:zs=Hd:=by
        have e1:=V6.o;rw[bh] at e1;simpa [um] using e1
       obtain⟨i0,hi,bk,bl,bm⟩:=info_parts lC;have HI:=ae hi;have bn:=ae bk;have bo:=ae bl;have bp:=ae bm;have hz:(0:Nat)<1:=(by omega);have cz:=ae bj;have LQ:=ae (cg.o.grown I (ax _) nofun);clear hi bk bl bm bh bj;go_wp2_with (at_builtin;refine dw _ rfl (.tmp 57) (.tmp 58) _ rfl base 5 i0 (.int .u8 0) 1 1 Tryz.underlying22 HI.o bn.o bo.o bp.o rfl hz _ zs.length (zs.map bv) rfl X w2.heap.size A2 Q.length c2 (Q.map bv) rfl LQ.o cc (pJ _) (by unfold maxLen;omega) (by omega) bc ?_;intro v5 w5 a cA cC;rw[<-eU] at a;obtain⟨A5,c5,cD,cY,c',ar,da⟩:=ai a;subst cD);have bq:w.grownBy w2 none:=af (af iQ hg (.inl rfl)) H (.inl rfl);have br:w.grownBy w5 none:=af bq (af I cA (ba)) (.inl rfl);have cF:=ae ((At.refl w none).trans (ba.trans cC I.size) bq.size);have d:zs++Q=bg x:=(by rw[cz.o,cm.o,HQ.o,HP.o];unfold bg;rw[HL.o]);have bt:(bg x).length=zs.length+Q.length:=(by rw[<-d,bG]);rw[d] at a ar;have Uw:=ae a;obtain⟨s1,s2,s3,s4,av⟩:=vV (Dn (bg x));have XG:=ae (xW A5 (zs.length+Q.length) c5 w5.heap.size (bg x) w5 ar (ax _) (by omega));rw[av] at XG;simp only[kH,rq,bv] at XG;have cG:=ae av;have db:=ae d;have cH:=ae bt;have cI:base<=w5.heap.size:=aP D br.size;clear a ar av d bt X;refine XG.o.mono ?_;rintro e w6 ⟨rfl,Gy⟩;have dc:base<=w6.heap.size:=aP cI Gy.size;have LS:=ae (GZ (T:=203) (xs:=([s1,s2,s3,s4]:Bytes).map bv) (Held.new w6 _ _));simp only[kH,rq,bv,iO,yJ] at LS;have O6:=ae ((ay Uw.o Gy nofun).alloc (.cells #[.int .u8 (s1.toNat:Int),.int .u8 (s2.toNat:Int),.int .u8 (s3.toNat:Int),.int .u8 (s4.toNat:Int)] 203));go_wp2_with (at_builtin;refine dw _ rfl (.tmp 62) (.tmp 63) _ rfl base 5 i0 (.int .u8 0) 1 1 Tryz.underlying22 HI.o bn.o bo.o bp.o rfl hz _ (zs.length+Q.length) ((bg x).map bv) rfl O6.o (w6.heap.size+1) (some ⟨w6.heap.size,0,none⟩) 4 4 (([s1,s2,s3,s4]:Bytes).map bv) rfl LS.o (λe=>nomatch e) (pJ _) (by unfold maxLen;omega) (by omega) (by simp;omega) ?_;intro v7 w7 sV Ph dd;rw[<-eU] at sV);go_ret2;have Z:=zY bB.o;refine⟨v7,by rw[Z];rfl,?_,af (af (af br Gy (.inl rfl)) (aY w6 _ none) (.inl rfl)) Ph cF.o⟩;rw[Z];show w7.ownsRow base 5 1 v7 (ak x).length ((ak x).map bv);unfold ak;rw[cG.o,bG,cH.o];exact sV
theorem Og (x:Blk)(A:Option Addr)(n c B:Nat)(w:World)(h:Recs w B A n x.recs)(hB:B<=w.heap.size)(E:∀r∈x.recs,RecNums r)(hn:n<=1000000)(base:Nat)(d:base<=w.heap.size):
 Calls Tryz.prog 46 #[.agg #[.int .i64 x.thread,.int .i64 x.first,.slice A n c]] w (IY w base x):=by
 have G:=ae h.1;obtain⟨W,hW⟩:∃W,W=w.alloc (.cells #[.int .i64 x.thread,.int .i64 x.first,.slice A n c] 50):=⟨_,rfl⟩;have H:w.grownBy W none:=(by rw[hW];exact aY w _ none);have D:Held W w.heap.size 50 #[.int .i64 x.thread,.int .i64 x.first,.slice A n c]:=(by rw[hW];exact Held.new _ _ _);have N:=ae hW;have O:=ae D;clear hW D;by_cases u:64<n
 . have I:Hid (fits x=2):=ae (by unfold fits;rw[if_pos (by rw[G.o];exact u)]);go_enter Tryz.func46,Tryz.ntmps46;go_wp2_with fail;go_ret2;exact vW I.o (by decide) (aY w _ none)
 . have L:=ae (zO x A n c B W (h.grown H hB nofun) (aP hB H.size) hn);by_cases y:nI x=true;exact KT x A n c B w h hB E (by unfold fits;rw[if_neg (by rw[G.o];exact u),if_pos y]) base d
   . have a:nI x=false:=(by simpa using y);have I:Hid (fits x=1):=ae (by unfold fits;rw[if_neg (by rw[G.o];exact u),a];rfl);rw[a] at L;clear y a;go_enter Tryz.func46,Tryz.ntmps46;go_wp2_with fail;rw[show w.alloc (.cells #[.int .i64 x.thread,.int .i64 x.first,.slice A n c] 50)=W from N.o.symm];refine L.o.mono ?_;rintro e w1 ⟨rfl,J⟩;go_wp2_with fail;go_ret2;exact vW I.o (by decide) (af H J (.inl rfl))
structure RP (T:TypeId)(cells:Array Value)(W0:World)(base B thr gR gB gW gF:Nat)(s:St)(wr:World):Prop where
 ex:∃vb vf css,RM base B thr gB gW gF s vb vf css wr
 rec_:Held wr gR T cells
 gr:W0.grownBy wr none
 lo:W0.heap.size<=base/\W0.heap.size<=gB/\W0.heap.size<=gW/\W0.heap.size<=gF
 nr:gR<base/\gR≠gB/\gR≠gW/\gR≠gF
theorem kY {W0 wr w1:World}{o:Option Nat}(h:W0.grownBy wr none)(hg:wr.grownBy w1 o)(ho:∀g,o=some g->W0.heap.size<=g):W0.grownBy w1 none:=by
 refine af h hg ?_
 cases o with
 |none=>exact .inl rfl
 |some g=>exact .inr ⟨g,rfl,ho g rfl⟩
theorem Ou {r:Rec}(h:RecFit r):RecNums r:=⟨h.seq,h.thread,h.kind,h.obj,h.value,h.site,h.deps,h.from_⟩
theorem RP.keep {T:TypeId}{cells:Array Value}{W0 wr w1:World}{base B thr gR gB gW gF:Nat}{s:St}(h:RP T cells W0 base B thr gR gB gW gF s wr)(hg:wr.grownBy w1 none):RP T cells W0 base B thr gR gB gW gF s w1:=by obtain⟨⟨vb,vf,css,a⟩,hR,hgr,hlo,hnr⟩:=h;exact⟨⟨vb,vf,css,a.keep hg⟩,hR.grown hg nofun,kY hgr hg nofun,hlo,hnr⟩
theorem YQ (w:World)(r:Rec)(Ad:Option Addr)(nd cd:Nat)(Af:Option Addr)(nf cf:Nat):
 Lies (w.alloc (.cells (recV r Ad nd cd Af nf cf) 54)) (w.alloc (.cells (recV r Ad nd cd Af nf cf) 54)).heap.size 8 (some ⟨w.heap.size,0,none⟩) 1 (recV r Ad nd cd Af nf cf).toList:=by obtain⟨A,c,a,_,_,d,_⟩:=ai (World.ownsRow_lit (base:=w.heap.size) (e:=54) (size:=8) w (recV r Ad nd cd Af nf cf) 1 (ax _) (by unfold maxLen;omega) rfl);injection a with u;subst u;exact d
theorem abO (r:Rec)(Ad:Option Addr)(nd cd:Nat)(Af:Option Addr)(nf cf:Nat):∀u∈(recV r Ad nd cd Af nf cf).toList,u.oneCell'=true:=by intro u a;simp only[recV,dV,jK,or_false] at a;rcases a with h|h|h|h|h|h|h|h<;>rw[h]<;>rfl
def Fls (w:World)(B:Nat)(A:Option Addr)(n:Nat)(fs:List (Int×Int)):Prop:=
 fs.length=n/\∀k f,fs[k]?=some f->∃b o:Nat,A=some ⟨b,o,none⟩/\b<B/\w.cell? ⟨b,o+k*2,none⟩=some (.int .i64 f.1)/\w.cell? ⟨b,o+k*2+1,none⟩=some (.int .i64 f.2)
theorem Fls.grown {w w':World}{B n:Nat}{A:Option Addr}{fs:List (Int×Int)}{row:Option Nat}(h:Fls w B A n fs)(hg:w.grownBy w' row)(hB:B<=w.heap.size)(hr:∀g,row=some g->B<=g):Fls w' B A n fs:=
 ⟨h.1,λk f hf=>by
  obtain⟨b,o,e,hb,h1,h2⟩:=h.2 k f hf
  have hk:∀j,w'.cell? ⟨b,j,none⟩=w.cell? ⟨b,j,none⟩:=λj=>lW (hg.block b (by omega) (λe=>by have:=hr _ e.symm;omega))
  exact⟨b,o,e,hb,by rw[hk];exact h1,by rw[hk];exact h2⟩⟩
theorem Fls.at {w:World}{B n k:Nat}{A:Option Addr}{fs:List (Int×Int)}(h:Fls w B A n fs)(hk:k<n):
 ∃b o f,A=some ⟨b,o,none⟩/\b<B/\fs[k]?=some f/\w.cell? ⟨b,o+k*2,none⟩=some (.int .i64 f.1)/\w.cell? ⟨b,o+k*2+1,none⟩=some (.int .i64 f.2):=by have h1:k<fs.length:=(by have:=h.1;omega);obtain⟨b,o,a,d,u,y⟩:=h.2 k fs[k] (aV h1);exact⟨b,o,fs[k],a,d,aV h1,u,y⟩
def zV (p:Pln)(Af:Option Addr)(nf cf:Nat)(Ac:Option Addr)(nc cc:Nat):Array Value:=#[.int .i64 p.cap,.slice Af nf cf,.int .i64 p.stop,.slice Ac nc cc]
theorem D8 {α:Type}{f:α->Bool}{xs:List α}{k:Nat}{x:α}(h:xs[k]?=some x):(xs.drop k).all f=(f x &&(xs.drop (k+1)).all f):=by obtain⟨a,rfl⟩:=bV.1 h;rw[oG a];rfl
theorem WT {w:World}{base e sz n m c:Nat}{A:Option Addr}{xs:List Value}(h:w.ownsRow base e sz (.slice A n c) n xs)(hm:m<=n):w.ownsRow base e sz (.slice A m c) m (xs.take (m*sz)):=by refine⟨by rw[mZ,h.1];exact yA (iW _ hm),?_⟩;rcases h.2 with ⟨h1,h0⟩|⟨g,cap,cur,h1,hb,hg,hnc,hcm,hcs,ht⟩;injection h1 with h2 h3 h4;subst h2 h4;have:m=0:=(by omega);subst this;exact .inl ⟨rfl,by simp⟩;injection h1 with h2 h3 h4;subst h2 h4;refine .inr ⟨g,c,cur,rfl,hb,hg,by omega,hcm,hcs,?_⟩;rw[<-ht,List.take_take,yA (iW _ hm)]
theorem Us {w:World}{base e n m c:Nat}{A:Option Addr}{b:Bytes}(h:w.ownsRow base e 1 (.slice A n c) n (b.map bv))(hm:m<=n):w.ownsRow base e 1 (.slice A m c) m ((b.take m).map bv):=by have:=WT h hm;rwa [lY,<-oC] at this
structure FilesAt (base thr gF:Nat)(fs:Nat->Bytes)(vf:Nat->Value)(w:World):Prop where
 h:Held w gF 22 (fam thr vf)
 own:∀t,t<thr->w.ownsRow base 5 1 (vf t) (fs t).length ((fs t).map bv)
 ap:∀t k,t<thr->k<thr->t≠k->Apart (vf t) (vf k)
 lo:base<=gF
 ne:∀t,t<thr->(vf t).ownBlock≠some gF
def BZ (l:List Ev)(thr:Int)(p:Pln)(w:World)(e:Ending)(w':World):Prop:=
 ∃v,e= .returned (.tuple #[v,.int .i64 (bH l thr p)])/\w.grownBy w' none/\
  (bH l thr p≠0->v= .slice none 0 0)/\
  (bH l thr p=0->∃(t gF:Nat) (vf:Nat->Value),thr=(t:Int)/\v= .slice (some ⟨gF,0,none⟩) t t/\FilesAt w.heap.size t gF (filesOf l p) vf w')
theorem Iw {l:List Ev}{thr:Int}{p:Pln}{w w':World}{k:Int}(hk:bH l thr p=k)(h0:k≠0)(hg:w.grownBy w' none):BZ l thr p w (.returned (.tuple #[.slice none 0 0,.int .i64 k])) w':=
 ⟨_,by rw[hk],hg,λ_=>rfl,λh=>absurd (hk▸h) h0⟩
theorem WU (t:Nat)(v:Value)(h:v.cells=#[v]):madeCells v.cells (t*1)=fam t λ_=>v:=by rw[h];unfold madeCells fam;apply Cb;simp;intro i h1 h2;simp[Nat.mod_one]
theorem Ut:(Tryz.prog.info? 48).map (λi=>(i.zero,i.size,i.bytes))=some (some (.slice none 0 0),1,24):=by kernel_rfl
theorem PI:(Tryz.prog.info? 22).map (λi=>(i.zero,i.size,i.bytes))=some (some (.slice none 0 0),1,24):=by kernel_rfl
theorem Cc {T e:TypeId}{z:Value}{bytes:Nat}(y:Tryz.prog.underlying T=some (.slice e))(hi:(Tryz.prog.info? e).map (λi=>(i.zero,i.size,i.bytes))=some (some z,1,bytes))(A:z.cells=#[z])(hb:bytes<=24)(w:World){t:Nat}(D:t<=4):
 (Instr.makeSlice T (.int .i64 (t:Int)) (.int .i64 (t:Int))).run Tryz.prog w= .ok (.slice (some ⟨w.heap.size,0,none⟩) t t) (w.alloc (.cells (fam t λ_=>z) e)):=by obtain⟨B,hi,a,d,u⟩:=info_parts hi;((have:=run_make (P:=Tryz.prog) w T e B z y hi a .i64 .i64 (t:Int) (t:Int) (by omega) (rU _) (by rw[u];rcases (show t=0\/t=1\/t=2\/t=3\/t=4 by omega) with h|h|h|h|h<;>subst h<;>omega) (by omega));rw[xe,d,WU t z A] at this);exact this
theorem xg {a b:World}(h:a.grownBy b none)(o:Obj):a.grownBy (b.alloc o) none:=af h (aY _ _ none) (.inl rfl)
theorem RP.init {T:TypeId}{cells:Array Value}{W0 a:World}{base B thr gR gB gW gF:Nat}(hB:Held a gB 48 (fam thr λ_=> .slice none 0 0))(hW:Held a gW 3 (fam thr λ_=> .int .i64 0))(hF:Held a gF 22 (fam thr λ_=> .slice none 0 0))(u:Held a gR T cells)(gr:W0.grownBy a none)
 (lo:W0.heap.size<=gR/\W0.heap.size<=gB/\W0.heap.size<=gW/\W0.heap.size<=gF) (hi:gR<base/\gB<base/\gW<base/\gF<base) (nr:gR≠gB/\gR≠gW/\gR≠gF) (ne:gB≠gW/\gB≠gF/\gW≠gF) (y:B<=W0.heap.size) (bs:base<=a.heap.size):
 RP T cells W0 base B thr gR gB gW gF St.none a:=by obtain⟨l0,l1,l2,l3⟩:=lo;obtain⟨A,D,E,G⟩:=hi;refine⟨⟨λ_=> .slice none 0 0,λ_=> .slice none 0 0,λ_=> [],⟨hB,hW,hF,λt d=>dU _ _ _ _,λt d=>BufAt.nil _ _,λt d=>dU _ _ _ _,λt k _ _ _=>Apart.nil _,λt k _ _ _=>Apart.nil _,λt k _ _=>Apart.nil _,⟨D,E,G⟩,⟨by omega,by omega,by omega⟩,ne,bs⟩⟩,u,gr,⟨by omega,l1,l2,l3⟩,A,nr⟩
theorem ag7 (W:World)(c0 c1 c2 c3:Array Value)(t0 a d t3:TypeId):
 Held ((((W.alloc (.cells c0 t0)).alloc (.cells c1 a)).alloc (.cells c2 d)).alloc (.cells c3 t3)).drew W.heap.size t0 c0/\
 Held ((((W.alloc (.cells c0 t0)).alloc (.cells c1 a)).alloc (.cells c2 d)).alloc (.cells c3 t3)).drew (W.heap.size+1) a c1/\
 Held ((((W.alloc (.cells c0 t0)).alloc (.cells c1 a)).alloc (.cells c2 d)).alloc (.cells c3 t3)).drew (W.heap.size+1+1) d c2/\
 Held ((((W.alloc (.cells c0 t0)).alloc (.cells c1 a)).alloc (.cells c2 d)).alloc (.cells c3 t3)).drew (W.heap.size+1+1+1) t3 c3/\
 W.grownBy ((((W.alloc (.cells c0 t0)).alloc (.cells c1 a)).alloc (.cells c2 d)).alloc (.cells c3 t3)).drew none/\
 ((((W.alloc (.cells c0 t0)).alloc (.cells c1 a)).alloc (.cells c2 d)).alloc (.cells c3 t3)).drew.heap.size=W.heap.size+4:=by have s1:(W.alloc (.cells c0 t0)).heap.size=W.heap.size+1:=(by simp);have s2:((W.alloc (.cells c0 t0)).alloc (.cells c1 a)).heap.size=W.heap.size+1+1:=(by simp);have s3:(((W.alloc (.cells c0 t0)).alloc (.cells c1 a)).alloc (.cells c2 d)).heap.size=W.heap.size+1+1+1:=(by simp);refine⟨(((Held.new W t0 c0).alloc _).alloc _).alloc _,?_,?_,?_,?_,by simp⟩;have:=((Held.new (W.alloc (.cells c0 t0)) a c1).alloc (.cells c2 d)).alloc (.cells c3 t3);rw[s1] at this;exact this;have:=(Held.new ((W.alloc (.cells c0 t0)).alloc (.cells c1 a)) d c2).alloc (.cells c3 t3);rw[s2] at this;exact this;have:=Held.new (((W.alloc (.cells c0 t0)).alloc (.cells c1 a)).alloc (.cells c2 d)) t3 c3;rw[s3] at this;exact this;exact aI (xg (xg (xg (xg (bI W none) _) _) _) _)
theorem RP.cut {T:TypeId}{cells:Array Value}{W0 wr:World}{base B thr gR gB gW gF:Nat}{s:St}(h:RP T cells W0 base B thr gR gB gW gF s wr){t:Nat}(u:t<thr){A:Option Addr}{c m:Nat}(hc:wr.cell? ⟨gF,t,none⟩=some (.slice A (s.file t).length c))(hm:m<=(s.file t).length):
 RP T cells W0 base B thr gR gB gW gF ⟨s.buf,s.first,upd s.file t ((s.file t).take m)⟩ (wr.setCell ⟨gF,t,none⟩ (.slice A m c)):=by obtain⟨⟨vb,vf,css,y⟩,hR,hgr,hlo,hnr⟩:=h;have H:vf t= .slice A (s.file t).length c:=(by have:=y.hF.cell t;rw[iF _ u,hc] at this;injection this with this;exact this.symm);have d:=y.of_ t u;rw[H] at d;have D:=Us d hm;have hb:∀g,(Value.slice A m c).ownBlock=some g->(vf t).ownBlock=some g:=(λg e=>by rw[H];cases A with|none=>exact (nomatch e)|some a=>simpa [Value.ownBlock] using e);have I:((s.file t).take m).length=m:=(by rw[mZ];omega);refine⟨⟨vb,_,css,y.setF u (by rw[I];exact D) (bI wr _) (λk hk E g e1 G=>y.aff t k u hk (λe=>E e.symm) g (hb g e1) G) (λk hk g e1 G=>y.abf k t hk u g e1 (hb g G))⟩,hR.far (p:=⟨gF,t,none⟩) hnr.2.2.2 _,?_,hlo,hnr⟩;exact kY hgr (ah wr gF t _) (λg e=>by injection e with e;have:=hlo.2.2.2;omega)
theorem RP.files {T:TypeId}{cells:Array Value}{W0 wr:World}{base B thr gR gB gW gF:Nat}{s:St}(h:RP T cells W0 base B thr gR gB gW gF s wr)(w:World)(hw:w.heap.size<=W0.heap.size):∃vf,FilesAt w.heap.size thr gF s.file vf wr:=by obtain⟨⟨vb,vf,css,a⟩,hR,hgr,hlo,hnr⟩:=h;refine⟨vf,a.hF,λt d=>dI (a.of_ t d) (by omega),a.aff,by omega,λt d=>iY (a.of_ t d) a.lt.2.2⟩
structure TrN (w:World)(m n:Nat)(A:Option Addr)(l:List Ev):Prop where
 n1:1<=n
 n4:n<=4
 len:l.length<=m
 evs:Evs w w.heap.size A l.length l
 ok:∀(k:Nat) e,l[k]?=some e->EvOk n k e
structure PlnG (n:Nat)(p:Pln):Prop where
 c1:1<=p.cap
 c8:p.cap<=8
 s0:0<=p.stop
 s1:p.stop<=255
 fl:p.flushes.length<=20
 fk:∀f∈p.flushes,0<=f.1/\f.1<=255/\0<=f.2/\f.2<n
 cl:p.cuts.length<=n
 ck:∀k∈p.cuts,0<=k/\k<=255
theorem yF {l:List Ev}{n:Nat}{p:Pln}(h1:1<=n)(h4:n<=4)(a:PlnG n p)(y:l.length<=100)(he:∀(k:Nat) e,l[k]?=some e->EvOk n k e):bH l n p=0:=by have d:qR n p=true:=(by have h1:=a.c1;have h2:=a.c8;have h3:=a.s0;have h5:=a.cl;unfold qR jL;simp only[cZ,gK,mf];refine⟨⟨⟨⟨⟨⟨⟨by omega,by omega⟩,by omega⟩,by omega⟩,by omega⟩,λf hf=>?_⟩,λk hk=>(a.ck k hk).1⟩,by omega⟩;have:=a.fk f hf;unfold jT;simp only[cZ,gK];omega);unfold bH;rw[if_pos d,if_neg (by omega),if_pos];rw[mf];intro e hm;obtain⟨k,hk⟩:=mg.1 hm;have h:=he k e hk;have u:=(bV.1 hk).1;have:=h.th0;have:=h.thn;have:=h.dp.1;have:=h.fr.1;unfold Bf;simp only[cZ,gK];omega
theorem LW {l:List Ev}{n:Nat}(h4:n<=4)(d:l.length<=100)(he:∀(k:Nat) e,l[k]?=some e->EvOk n k e):∀e∈l,RecFit ⟨0,e⟩:=by intro e hm;obtain⟨k,hk⟩:=mg.1 hm;have a:=(bV.1 hk).1;obtain⟨h,_,_⟩:=(he k e hk).fit h4 (by omega);exact⟨⟨by show (-9223372036854775808:Int)<=0;decide,by show (0:Int)<=9223372036854775807;decide⟩,h.thread,h.kind,h.obj,h.value,h.site,h.deps,h.from_⟩
theorem vI {w0 wr a:World}{o:Option Nat}(h:w0.grownBy wr none)(h4:wr.grownBy a o)(ho:∀g,o=some g->w0.heap.size<=g):w0.grownBy a none:=
 ⟨h4.os.trans h.os,h4.tape.trans h.tape,h4.output.trans h.output,aP h.size h4.size,λk hk _=>(h4.block k (lJ hk h.size) (λe=>by have:=ho k e.symm;omega)).trans (h.block k hk nofun)⟩
theorem FilesAt.row {base thr gF g:Nat}{fs:Nat->Bytes}{vf:Nat->Value}{w w':World}(h:FilesAt base thr gF fs vf w)(hg:w.grownBy w' (some g))(d:g<base):FilesAt base thr gF fs vf w':=
 ⟨h.h.grown hg (λe=>by injection e with e;have:=h.lo;omega),λt a=>ay (h.own t a) hg (λq e hk=>by injection hk with hk;have:=((h.own t a).lt q e).1;omega),h.ap,h.lo,h.ne⟩
def Aps (w W:World)(B n:Nat):Prop:=w.heap.size<=W.heap.size/\∀k,k<w.heap.size->k<B\/n<=k->W.heap[k]?=w.heap[k]?
theorem Aps.row {w W:World}{B n g:Nat}(h:w.grownBy W (some g))(h1:B<=g)(h2:g<n):Aps w W B n:=⟨h.size,λk hk hb=>h.block k hk (λe=>by injection e with e;omega)⟩
theorem Aps.more {w W a:World}{B n:Nat}(h:Aps w W B n)(hg:W.grownBy a none):Aps w a B n:=⟨aP h.1 hg.size,λk hk hb=>(hg.block k (lJ hk h.1) nofun).trans (h.2 k hk hb)⟩
theorem Aps.pre {w W a:World}{B n m g:Nat}(hg:w.grownBy W (some g))(h:Aps W a B m)(h1:B<=g)(h2:g<n)(h3:m<=n):Aps w a B n:=⟨aP hg.size h.1,λk hk hb=>(h.2 k (lJ hk hg.size) (by omega)).trans (hg.block k hk (λe=>by injection e with e;omega))⟩
theorem Aps.preN {w W a:World}{B n:Nat}(hg:w.grownBy W none)(h:Aps W a B n):Aps w a B n:=⟨aP hg.size h.1,λk hk hb=>(h.2 k (lJ hk hg.size) hb).trans (hg.block k hk nofun)⟩
def flF (n:Nat)(x:UInt8):Int×Int:=(IntKind.i64.wrap ((x.toNat:Int).tdiv 4),((x.toNat%n:Nat):Int))
def cuF (x:UInt8):Int:=(x.toNat:Int)
def ny (n cap stop:Nat)(xs ys:Bytes):Pln:=⟨((cap%8+1:Nat):Int),(xs.take 20).map (flF n),stop,(ys.take n).map cuF⟩
theorem UF {n cap stop:Nat}(h1:1<=n)(hs:stop<256)(xs ys:Bytes):PlnG n (ny n cap stop xs ys):=by
 refine⟨?_,?_,?_,?_,?_,?_,?_,?_⟩;show (1:Int)<=((cap%8+1:Nat):Int);omega;show ((cap%8+1:Nat):Int)<=8;omega;show (0:Int)<=stop;omega;show (stop:Int)<=255;omega;show ((xs.take 20).map (flF n)).length<=20;rw[gy,mZ];omega
 . intro f hf;obtain⟨x,-,rfl⟩:=iV.1 hf;have a:=x.toNat_lt;have d:IntKind.i64.wrap ((x.toNat:Int).tdiv 4)=((x.toNat/4:Nat):Int):=by
    show IntKind.i64.wrap ((x.toNat/4:Nat):Int)=_;exact gQ _ (by omega)
   have hm:x.toNat%n<n:=yE _ (by omega);simp only[flF,d];omega
 show ((ys.take n).map cuF).length<=n;rw[gy,mZ];omega;intro f hf;obtain⟨x,-,rfl⟩:=iV.1 hf;have a:=x.toNat_lt;simp only[cuF];omega
def aqh (w:World)(B m n4:Nat)(l:List Ev)(e:Ending)(w':World):Prop:=∃(A0:Option Addr) (n0 c0:Nat) (X0:List Value) (A1:Option Addr) (n1 c1:Nat) (X1:List Value) (A2:Option Addr) (n2 c2:Nat) (X2:List Value) (A3:Option Addr) (n3 c3:Nat) (X3:List Value) (A4:Option Addr) (c4:Nat) (X4:List Value) (A5:Option Addr) (n5 c5:Nat) (X5:List Value) (A:Option Addr) (c:Nat),e= .returned (.agg #[.slice A0 n0 c0,.slice A1 n1 c1,.slice A2 n2 c2,.slice A3 n3 c3,.slice A4 n4 c4,.slice A5 n5 c5,.slice A l.length c])/\l.length<=c/\TrN w' m n4 A l/\WIn w' w'.heap.size A0 n0 c0 X0 A1 n1 c1 X1 A2 n2 c2 X2 A3 n3 c3 X3 A4 n4 c4 X4 A5 n5 c5 X5/\(∀W',Aps w' W' B w.heap.size->Evs W' w'.heap.size A l.length l/\WIn W' w'.heap.size A0 n0 c0 X0 A1 n1 c1 X1 A2 n2 c2 X2 A3 n3 c3 X3 A4 n4 c4 X4 A5 n5 c5 X5)/\w.grownBy w' none
def TrX (xs ys:Bytes)(N:Nat)(L:List Ev):Prop:=∀(w:World) (B:Nat) (A1:Option Addr) (n1 c1:Nat) (hx:Lies w B 1 A1 n1 (xs.map bv)) (hc1:n1<=c1) (hn1:n1<=1000) (ho1:A1=none->c1=0) (A2:Option Addr) (m c2:Nat) (hy:Lies w B 1 A2 m (ys.map bv)) (hc2:m<=c2) (hm:m<=1000) (ho2:A2=none->c2=0),
 Calls Tryz.prog 9 #[.slice A1 n1 c1,.slice A2 m c2] w λe w'=>aqh w B m N L e w'
def Xc:Prop:=∀(xs ys:Bytes),xs.length<=1000->ys.length<=1000->∃N L,TrX xs ys N L
def Xd:Prop:=∀(w:World) (n cap stop:Nat) (h1:1<=n) (h4:n<=4) (hc:cap<256) (hs:stop<256) (A1:Option Addr) (n1 c1 B1:Nat) (xs:Bytes) (hx:Lies w B1 1 A1 n1 (xs.map bv)) (hc1:n1<=c1) (hm1:c1<=maxLen) (ho1:A1=none->c1=0) (A2:Option Addr) (n2 c2 B2:Nat) (ys:Bytes) (hy:Lies w B2 1 A2 n2 (ys.map bv)) (hc2:n2<=c2) (hm2:c2<=maxLen) (ho2:A2=none->c2=0),
 Calls Tryz.prog 20 #[.agg #[.int .u8 (cap:Int),.int .u8 (stop:Int),.slice A1 n1 c1,.slice A2 n2 c2],.int .i64 (n:Int)] w λe w'=>
  ∃(Af:Option Addr) (cf:Nat) (Ac:Option Addr) (cc:Nat),e= .returned (.agg (zV (ny n cap stop xs ys) Af (ny n cap stop xs ys).flushes.length cf Ac (ny n cap stop xs ys).cuts.length cc))/\PlnG n (ny n cap stop xs ys)/\Fls w' w'.heap.size Af (ny n cap stop xs ys).flushes.length (ny n cap stop xs ys).flushes/\Lies w' w'.heap.size 1 Ac (ny n cap stop xs ys).cuts.length ((ny n cap stop xs ys).cuts.map iv)/\w.grownBy w' none
theorem VH (l:List Ev)(A:Option Addr)(B cl:Nat)(thr:Int)(p:Pln)(Af:Option Addr)(nf cf:Nat)(D:Option Addr)(y E:Nat)(w:World)(a:p.cuts.length=y)(h:jL thr p=false\/thr<(y:Int)):
 Calls Tryz.prog 38 #[.slice A B cl,.int .i64 thr,.agg (zV p Af nf cf D y E)] w λe w'=>e= .returned (.int .i64 (bH l thr p))/\w.grownBy w' none:=by
 obtain⟨cap,fl,stop,cu⟩:=p;dsimp only at a;have d:Hid (bH l thr ⟨cap,fl,stop,cu⟩=1):=(by have:qR thr ⟨cap,fl,stop,cu⟩=false:=(by unfold qR;rcases h with h|h;rw[h];rfl;rw[a,eX (by omega),Bool.and_false]);exact ae (by unfold bH;rw[this];rfl));have u:thr<1\/4<thr\/cap<1\/64<cap\/stop<0\/thr<(y:Int):=(by rcases h with h|h;unfold jL at h;simp only[zQ,lL] at h;omega;omega);unfold zV;dsimp only;clear h a;by_cases a1:thr<1
 . clear u;go_enter Tryz.func38,Tryz.ntmps38;go_wp2_with fail;go_ret;exact⟨bJ d.o.symm,aY w _ none⟩
 . by_cases a2:(4:Int)<thr
   . clear u;go_enter Tryz.func38,Tryz.ntmps38;go_wp2_with fail;go_ret;exact⟨bJ d.o.symm,aY w _ none⟩
   . by_cases a3:cap<1
     . clear u;go_enter Tryz.func38,Tryz.ntmps38;go_wp2_with fail;go_ret;exact⟨bJ d.o.symm,aY w _ none⟩
     . by_cases a4:(64:Int)<cap
       . clear u;go_enter Tryz.func38,Tryz.ntmps38;go_wp2_with fail;go_ret;exact⟨bJ d.o.symm,aY w _ none⟩
       . by_cases a5:stop<0
         . clear u;go_enter Tryz.func38,Tryz.ntmps38;go_wp2_with fail;go_ret;exact⟨bJ d.o.symm,aY w _ none⟩
         . have G:thr<(y:Int):=(by omega);clear u;go_enter Tryz.func38,Tryz.ntmps38;go_wp2_with fail;go_ret;exact⟨bJ d.o.symm,aY w _ none⟩
theorem YP (l:List Ev)(Al:Option Addr)(I cl:Nat)(thr:Int)(p:Pln)(Af:Option Addr)(nf cf:Nat)(L:Option Addr)(d Y B:Nat)(w:World)(hl:Evs w B Al I l)(hf:Fls w B Af nf p.flushes)(H:Lies w B 1 L d (p.cuts.map iv))(hB:B<=w.heap.size)(b1:nf<=1000000)(hnc:d<=1000000):
 Calls Tryz.prog 38 #[.slice Al I cl,.int .i64 thr,.agg (zV p Af nf cf L d Y)] w λe w'=>e= .returned (.int .i64 (bH l thr p))/\w.grownBy w' none:=by
 have D:p.cuts.length=d:=H.lenI;by_cases hh:jL thr p=false\/thr<(d:Int);exact VH l Al I cl thr p Af nf cf L d Y w D hh
 . obtain⟨cap,fl,stop,cu⟩:=p;have hp:jL thr ⟨cap,fl,stop,cu⟩=true:=by
    cases h:jL thr ⟨cap,fl,stop,cu⟩ with
    |true=>rfl
    |false=>exact absurd (.inl h) hh
   have a6:¬thr<(d:Int):=λh=>hh (.inr h);dsimp only at D hf H;have N:Hid (qR thr ⟨cap,fl,stop,cu⟩=(fl.all (jT thr) && cu.all (λn=>decide (0<=n)))):=ae (by unfold qR;rw[hp,D,decide_eq_true (by omega:(d:Int)<=thr)];simp);unfold jL at hp;simp only[cZ,gK] at hp;have a1:¬thr<1:=(by omega);have a2:¬(4:Int)<thr:=(by omega);have a3:¬cap<1:=(by omega);have a4:¬(64:Int)<cap:=(by omega);have a5:¬stop<0:=(by omega);have aq:=ae D;have ar:=ae hf.1;have Lh:=ae hl.1;clear hh D hp;obtain⟨W,hW⟩:∃W,W=w.alloc (.cells #[.int .i64 cap,.slice Af nf cf,.int .i64 stop,.slice L d Y] 39):=⟨_,rfl⟩;have Z:w.grownBy W none:=(by rw[hW];exact aY w _ none);have O:Held W w.heap.size 39 #[.int .i64 cap,.slice Af nf cf,.int .i64 stop,.slice L d Y]:=(by rw[hW];exact Held.new _ _ _);have HW:=ae hW;clear hW;unfold zV;dsimp only;go_enter Tryz.func38,Tryz.ntmps38;go_upto_region 3 with fail;rw[show w.alloc (.cells #[.int .i64 cap,.slice Af nf cf,.int .i64 stop,.slice L d Y] 39)=W from HW.o.symm];have k1:W.cell? ⟨w.heap.size,1,none⟩=some (.slice Af nf cf):=O.cell 1;have k3:W.cell? ⟨w.heap.size,3,none⟩=some (.slice L d Y):=O.cell 3;go_wp2_with fail;go_loopw [7] (λiv wr=>∃k:Nat,iv= .int .i64 (k:Int)/\k<=nf/\wr=W/\(fl.drop k).all (jT thr)=fl.all (jT thr)) (λiv _=>nf-(intOf iv).toNat)
   case atStart=>exact ⟨0,rfl,aG _,rfl,rfl⟩
   case round=>
    obtain⟨k,rfl,hk,E,ho⟩:=hrel;subst E;have HO:=ae ho;clear ho;by_cases av:k<nf
    . obtain⟨b,o,f,rfl,b2,a7,f0,f1⟩:=(hf.grown Z hB nofun).at av;have J:=ae (D8 (f:=jT thr) a7);clear a7;by_cases a:jT thr f=true
      . have y:=a;unfold jT at y;simp only[cZ,gK] at y;have g1:¬f.1<0:=(by omega);have g2:¬f.2<0:=(by omega);have g3:¬thr<=f.2:=(by omega);have U:=ae a;clear a y;go_wp2_with fail;go_roundw
        case rel=>exact ⟨k+1,by go_num,by omega,trivial,by have:=J.o;rw[HO.o,U.o,vK] at this;exact this.symm⟩
        case measure=>simp [intOf];omega
      . have A:Hid (bH l thr ⟨cap,fl,stop,cu⟩=1):=ae (by
         have h1:=J.o;rw[HO.o,Bool.eq_false_iff.2 a,Ky] at h1;have h2:=N.o;rw[h1,Ky] at h2;unfold bH;rw[h2];rfl)
        have hb:f.1<0\/f.2<0\/thr<=f.2:=(by unfold jT at a;simp only[cZ,gK] at a;omega);have G:=ae Z;clear a;by_cases g1:f.1<0
        . clear hb;go_wp2_with fail;go_ret;exact⟨bJ A.o.symm,G.o⟩
        . by_cases g2:f.2<0
          . clear hb;go_wp2_with fail;go_ret;exact⟨bJ A.o.symm,G.o⟩
          . have g3:thr<=f.2:=(by omega);clear hb;go_wp2_with fail;go_ret;exact⟨bJ A.o.symm,G.o⟩
    . have aw:k=nf:=(by omega);have NF:Hid (fl.all (jT thr)=true):=ae (by have:=HO.o;rw[ku (by have:=ar.o;omega)] at this;exact this.symm);subst aw;have a8:=H.grown Z hB nofun;have aD:=hl.grown Z hB nofun;have G:=ae Z;clear Z hf H hl O;obtain⟨W1,aL⟩:∃W1,W1=wr:=⟨_,rfl⟩;subst aL;go_wp2_with fail;go_loopw [8] (λiv wr=>∃j:Nat,iv= .int .i64 (j:Int)/\j<=d/\wr=W1/\(cu.drop j).all (λn=>decide (0<=n))=cu.all (λn=>decide (0<=n))) (λiv _=>d-(intOf iv).toNat)
      case atStart=>exact ⟨0,rfl,aG _,rfl,rfl⟩
      case round=>
       obtain⟨j,rfl,hj,E,aa⟩:=hrel;subst E;have V:=ae aa;clear aa;by_cases aM:j<d
       . obtain⟨ad,u,rfl,b3,hx,hc⟩:=a8.cellAt aM;simp only[bK,mX] at hx;obtain⟨x,hx,rfl⟩:=hx;unfold iv at hc;have J:=ae (D8 (f:=λn:Int=>decide (0<=n)) hx);clear hx;by_cases b4:x<0
         . have A:Hid (bH l thr ⟨cap,fl,stop,cu⟩=1):=ae (by
            have h1:=J.o;rw[V.o,eX (by omega),Ky] at h1;have h2:=N.o;rw[h1,Bool.and_false] at h2;unfold bH;rw[h2];rfl)
           go_wp2_with fail;go_ret;exact⟨bJ A.o.symm,G.o⟩
         . have HX:Hid (decide (0<=x)=true):=ae (decide_eq_true (by omega));go_wp2_with fail;go_roundw
           case rel=>exact ⟨j+1,by go_num,by omega,trivial,by have:=J.o;rw[V.o,HX.o,vK] at this;exact this.symm⟩
           case measure=>simp [intOf];omega
       . have ab:Hid (bH l thr ⟨cap,fl,stop,cu⟩=if 400<I then 2 else if l.all (Bf thr) then 0 else 1):=ae (by
          have h1:=V.o;rw[ku (by have:=aq.o;omega)] at h1;have h2:=N.o;rw[NF.o,<-h1] at h2;unfold bH;rw[h2,Lh.o];rfl)
         clear a8;by_cases b5:(400:Int)<(I:Int)
         . have A:Hid (bH l thr ⟨cap,fl,stop,cu⟩=2):=ae (by rw[ab.o,if_pos (by omega)]);go_wp2_with fail;go_ret;exact⟨bJ A.o.symm,G.o⟩
         . have al:Hid (bH l thr ⟨cap,fl,stop,cu⟩=if l.all (Bf thr) then 0 else 1):=ae (by rw[ab.o,if_neg (by omega)]);obtain⟨W2,aR⟩:∃W2,W2=wr:=⟨_,rfl⟩;subst aR;go_wp2_with fail;go_loopw [9] (λiv wr=>∃m:Nat,iv= .int .i64 (m:Int)/\m<=I/\wr=W2/\(l.drop m).all (Bf thr)=l.all (Bf thr)) (λiv _=>I-(intOf iv).toNat)
           case atStart=>exact ⟨0,rfl,aG _,rfl,rfl⟩
           case round=>
            obtain⟨m,rfl,hm,E,an⟩:=hrel;subst E;have X:=ae an;clear an;by_cases b0:m<I
            . obtain⟨b,o,e,Ad,cd,Ae,ce,rfl,hb,ao,e0,e1,e2,e3,e4,e5,e6,_,_⟩:=aD.at b0;have J:=ae (D8 (f:=Bf thr) ao);clear ao e1 e2 e3 e4;by_cases a:Bf thr e=true
              . have y:=a;unfold Bf at y;simp only[cZ,gK] at y;have g1:¬e.thread<0:=(by omega);have g2:¬thr<=e.thread:=(by omega);have g3:¬(400:Int)<(e.deps.length:Int):=(by omega);have g4:¬(400:Int)<(e.from_.length:Int):=(by omega);have U:=ae a;clear a y;go_wp2_with fail;go_roundw
                case rel=>exact ⟨m+1,by go_num,by omega,trivial,by have:=J.o;rw[X.o,U.o,vK] at this;exact this.symm⟩
                case measure=>simp [intOf];omega
              . have A:Hid (bH l thr ⟨cap,fl,stop,cu⟩=1):=ae (by
                 have h1:=J.o;rw[X.o,Bool.eq_false_iff.2 a,Ky] at h1;rw[al.o,h1];rfl)
                have hb:e.thread<0\/thr<=e.thread\/(400:Int)<(e.deps.length:Int)\/(400:Int)<(e.from_.length:Int):=(by unfold Bf at a;simp only[cZ,gK] at a;omega);clear a;by_cases g1:e.thread<0
                . clear hb;go_wp2_with fail;go_ret;exact⟨bJ A.o.symm,G.o⟩
                . by_cases g2:thr<=e.thread
                  . clear hb;go_wp2_with fail;go_ret;exact⟨bJ A.o.symm,G.o⟩
                  . by_cases g3:(400:Int)<(e.deps.length:Int)
                    . clear hb;go_wp2_with fail;go_ret;exact⟨bJ A.o.symm,G.o⟩
                    . have g4:(400:Int)<(e.from_.length:Int):=(by omega);clear hb;go_wp2_with fail;go_ret;exact⟨bJ A.o.symm,G.o⟩
            . have A:Hid (bH l thr ⟨cap,fl,stop,cu⟩=0):=ae (by
               have h1:=X.o;rw[ku (by have:=Lh.o;omega)] at h1;rw[al.o,<-h1];rfl)
              go_wp2_with fail;go_ret;exact⟨bJ A.o.symm,G.o⟩
