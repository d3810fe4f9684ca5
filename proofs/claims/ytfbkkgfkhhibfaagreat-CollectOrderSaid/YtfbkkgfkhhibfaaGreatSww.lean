/- Words. -/
import Derived.Test.YtfbkkgfkhhibfaaGreatRwrR
set_option linter.unusedVariables false
set_option maxRecDepth 100000
set_option maxHeartbeats 8000000
namespace Go.Proofs.YtfbkkgfkhhibfaaGreat
open Go Go.RowKit Iv
structure Two (w:World)(B sz:Nat)(A A':Option Addr)(n:Nat)(X:List Value):Prop where
 l:Lies w B sz A n X
 l':Lies w B sz A' n X
 a:0 < n→∃b o,A=some ⟨b,o,none⟩
 a':0 < n→∃b o,A'=some ⟨b,o,none⟩
theorem Two.grown {w w':World}{B sz n:Nat}{A A':Option Addr}{X:List Value}(h:Two w B sz A A' n X)(hg:w.grownBy w' none)(hB:B≤w.heap.size):Two w' B sz A A' n X:=
 ⟨h.l.grown hg hB (fun _ e=>nomatch e),h.l'.grown hg hB (fun _ e=>nomatch e),h.a,h.a'⟩
theorem SG (b o m:Nat):(⟨b,o,none⟩:Addr).add m=⟨b,o+m,none⟩:=by cases m <;> simp[Addr.add]
theorem Two.at {w:World}{B sz n k:Nat}{A A':Option Addr}{X:List Value}(h:Two w B sz A A' n X)(hk:k < n)(hs:0 < sz):
 ∃b o b' o',A=some ⟨b,o,none⟩∧A'=some ⟨b',o',none⟩∧(∀j u,X[k * sz+j]?=some u→w.cell? ⟨b,o+k * sz+j,none⟩=some u)∧(∀j u,X[k * sz+j]?=some u→w.cell? ⟨b',o'+k * sz+j,none⟩=some u):=by
 obtain⟨b,o,rfl⟩:=h.a (by omega);obtain⟨b',o',rfl⟩:=h.a' (by omega);obtain⟨ad,e1,_,c⟩:=h.l.2 (by omega);obtain⟨ad',e1',_,c'⟩:=h.l'.2 (by omega);injection e1 with e1;injection e1' with e1';subst e1 e1';exact⟨b,o,b',o',rfl,rfl,fun j u hu=>by rw[Nat.add_assoc,←SG];exact c _ u hu,fun j u hu=>by rw[Nat.add_assoc,←SG];exact c' _ u hu⟩
theorem Ag (w:World)(B:Nat)(A0 KD:Option Addr)(n0 c0 c0':Nat)(X0:List Value)(A1 KE:Option Addr)(n1 c1 c1':Nat)(X1:List Value)(A2 KG:Option Addr)(n2 c2 c2':Nat)(X2:List Value)(A3 KH:Option Addr)(n3 c3 c3':Nat)(X3:List Value)(A4 KI:Option Addr)(n4 c4 NJ:Nat)(X4:List Value)(A5 KJ:Option Addr)(n5 c5 zH:Nat)(X5:List Value)(h0:Two w B 5 A0 KD n0 X0)(h1:Two w B 2 A1 KE n1 X1)(h2:Two w B 2 A2 KG n2 X2)(h3:Two w B 1 A3 KH n3 X3)(h4:Two w B 1 A4 KI n4 X4)(h5:Two w B 3 A5 KJ n5 X5)(s0:∀k,k < n0→AtCell X0 k)(s1:∀k,k < n1→AtLock X1 k)(s2:∀k,k < n2→AtCond X2 k)(s3:∀k,k < n3→AtStr X3 k)(s4:∀k,k < n4→AtStr X4 k)(s5:∀k,k < n5→AtSite X5 k)(hB:B≤w.heap.size)(m0:n0≤9000000000000000)(m1:n1≤9000000000000000)(m2:n2≤9000000000000000)(m3:n3≤9000000000000000)(m4:n4≤9000000000000000)(m5:n5≤9000000000000000):
 Calls Tryz.prog 40 #[.agg #[.slice A0 n0 c0,.slice A1 n1 c1,.slice A2 n2 c2,.slice A3 n3 c3,.slice A4 n4 c4,.slice A5 n5 c5],.agg #[.slice KD n0 c0',.slice KE n1 c1',.slice KG n2 c2',.slice KH n3 c3',.slice KI n4 NJ,.slice KJ n5 zH]] w fun e w'=>e= .returned (.bool true)∧w.grownBy w' none:=by
 obtain⟨W,hW⟩:∃W,W=(w.alloc (.cells #[.slice A0 n0 c0,.slice A1 n1 c1,.slice A2 n2 c2,.slice A3 n3 c3,.slice A4 n4 c4,.slice A5 n5 c5] 31)).alloc (.cells #[.slice KD n0 c0',.slice KE n1 c1',.slice KG n2 c2',.slice KH n3 c3',.slice KI n4 NJ,.slice KJ n5 zH] 31):=⟨_,rfl⟩
 have hg:w.grownBy W none:=by
  rw[hW];exact af (World.grownBy_alloc w _ none) (World.grownBy_alloc _ _ none) (.inl rfl)
 have hb0:Held W w.heap.size 31 #[.slice A0 n0 c0,.slice A1 n1 c1,.slice A2 n2 c2,.slice A3 n3 c3,.slice A4 n4 c4,.slice A5 n5 c5]:=by rw[hW];exact (Held.new w _ _).alloc _
 have hb1:Held W (w.heap.size+1) 31 #[.slice KD n0 c0',.slice KE n1 c1',.slice KG n2 c2',.slice KH n3 c3',.slice KI n4 NJ,.slice KJ n5 zH]:=by
  rw[hW];have:=Held.new (w.alloc (.cells #[.slice A0 n0 c0,.slice A1 n1 c1,.slice A2 n2 c2,.slice A3 n3 c3,.slice A4 n4 c4,.slice A5 n5 c5] 31)) 31 #[.slice KD n0 c0',.slice KE n1 c1',.slice KG n2 c2',.slice KH n3 c3',.slice KI n4 NJ,.slice KJ n5 zH];rwa [World.size_alloc] at this
 have HB0:=ae hb0;have HB1:=ae hb1;have HG:=ae hg;have H0:=ae (h0.grown hg hB);have S0:=ae s0;have q0:((n0:Int) !=(n0:Int))=false:=by simp
 have H1:=ae (h1.grown hg hB);have S1:=ae s1;have q1:((n1:Int) !=(n1:Int))=false:=by simp
 have H2:=ae (h2.grown hg hB);have S2:=ae s2;have q2:((n2:Int) !=(n2:Int))=false:=by simp
 have H3:=ae (h3.grown hg hB);have S3:=ae s3;have q3:((n3:Int) !=(n3:Int))=false:=by simp
 have H4:=ae (h4.grown hg hB);have S4:=ae s4;have q4:((n4:Int) !=(n4:Int))=false:=by simp
 have H5:=ae (h5.grown hg hB);have S5:=ae s5;have q5:((n5:Int) !=(n5:Int))=false:=by simp
 have HW:=ae hW;clear hW hb0 hb1 hg h0 h1 h2 h3 h4 h5 s0 s1 s2 s3 s4 s5;go_enter Tryz.func40,Tryz.ntmps40;go_wp2_with fail;rw[show (w.alloc (.cells #[.slice A0 n0 c0,.slice A1 n1 c1,.slice A2 n2 c2,.slice A3 n3 c3,.slice A4 n4 c4,.slice A5 n5 c5] 31)).alloc (.cells #[.slice KD n0 c0',.slice KE n1 c1',.slice KG n2 c2',.slice KH n3 c3',.slice KI n4 NJ,.slice KJ n5 zH] 31)=W from HW.out.symm];go_loopw [5] (fun iv wr=>∃k q:Nat,iv= .int .i64 (k:Int)∧k≤n0∧wr=W.drewN q) (fun iv _=>n0 - (intOf iv).toNat)
 case atStart=>exact ⟨0,0,rfl,Nat.zero_le _,rfl⟩
 case round=>
  obtain⟨k,NK,rfl,hk,rfl⟩:=hrel;have e0:(W.drewN NK).cell? ⟨w.heap.size,0,none⟩=some (.slice A0 n0 c0):=HB0.out.cell 0;have f0:(W.drewN NK).cell? ⟨w.heap.size+1,0,none⟩=some (.slice KD n0 c0'):=HB1.out.cell 0;by_cases hlt:k < n0
  · obtain⟨gb,go,gc,gp,hA,hA',g0,g1⟩:=H0.out.at hlt (by omega);obtain⟨s_,a_,b_,d_,e_,x0,x1,x2,x3,x4⟩:=S0.out k hlt;have SH:(W.drewN NK).cell? ⟨gb,go+k * 5,none⟩=some (.string s_):=by simpa using g0 0 _ x0
    have SI:(W.drewN NK).cell? ⟨gc,gp+k * 5,none⟩=some (.string s_):=by simpa using g1 0 _ x0
    have ZX:(W.drewN NK).cell? ⟨gb,go+k * 5+1,none⟩=some (.int .i64 a_):=by simpa using g0 1 _ x1
    have ZY:(W.drewN NK).cell? ⟨gc,gp+k * 5+1,none⟩=some (.int .i64 a_):=by simpa using g1 1 _ x1
    have y2_:(W.drewN NK).cell? ⟨gb,go+k * 5+2,none⟩=some (.int .i64 b_):=by simpa using g0 2 _ x2
    have z2_:(W.drewN NK).cell? ⟨gc,gp+k * 5+2,none⟩=some (.int .i64 b_):=by simpa using g1 2 _ x2
    have y3_:(W.drewN NK).cell? ⟨gb,go+k * 5+3,none⟩=some (.bool d_):=by simpa using g0 3 _ x3
    have z3_:(W.drewN NK).cell? ⟨gc,gp+k * 5+3,none⟩=some (.bool d_):=by simpa using g1 3 _ x3
    have y4_:(W.drewN NK).cell? ⟨gb,go+k * 5+4,none⟩=some (.int .i64 e_):=by simpa using g0 4 _ x4
    have z4_:(W.drewN NK).cell? ⟨gc,gp+k * 5+4,none⟩=some (.int .i64 e_):=by simpa using g1 4 _ x4
    have i0:(0:Int)≤(k:Int):=by omega
    have i1:(k:Int) < (n0:Int):=by omega
    clear g0 g1 x0 x1 x2 x3 x4;subst hA hA';go_upto_region 6 with fail;go_region_held3 (fun w'=>w'.cell? ⟨w.heap.size,0,none⟩=some (.slice (some ⟨gb,go,none⟩) n0 c0)∧w'.cell? ⟨w.heap.size+1,0,none⟩=some (.slice (some ⟨gc,gp,none⟩) n0 c0')∧w'.cell? ⟨gb,go+k * 5,none⟩=some (.string s_)∧w'.cell? ⟨gc,gp+k * 5,none⟩=some (.string s_)∧w'.cell? ⟨gb,go+k * 5+1,none⟩=some (.int .i64 a_)∧w'.cell? ⟨gc,gp+k * 5+1,none⟩=some (.int .i64 a_)∧w'.cell? ⟨gb,go+k * 5+2,none⟩=some (.int .i64 b_)∧w'.cell? ⟨gc,gp+k * 5+2,none⟩=some (.int .i64 b_)∧w'.cell? ⟨gb,go+k * 5+3,none⟩=some (.bool d_)∧w'.cell? ⟨gc,gp+k * 5+3,none⟩=some (.bool d_)∧w'.cell? ⟨gb,go+k * 5+4,none⟩=some (.int .i64 e_)∧w'.cell? ⟨gc,gp+k * 5+4,none⟩=some (.int .i64 e_)) (first | exact⟨e0,f0,SH,SI,ZX,ZY,y2_,z2_,y3_,z3_,y4_,z4_⟩ | fail) (first | fail);go_wp2_with fail;go_roundw
    case rel=>exact ⟨k+1,NK+1,by go_num,by omega,rfl⟩
    case measure=>simp [intOf];omega
  · obtain rfl:k=n0:=by omega
    go_wp2_with fail;go_loopw [6] (fun iv wr=>∃k q:Nat,iv= .int .i64 (k:Int)∧k≤n1∧wr=W.drewN q) (fun iv _=>n1 - (intOf iv).toNat)
    case atStart=>exact ⟨0,NK,rfl,Nat.zero_le _,rfl⟩
    case round=>
     obtain⟨k,YE,rfl,hk,rfl⟩:=hrel;have e1:(W.drewN YE).cell? ⟨w.heap.size,1,none⟩=some (.slice A1 n1 c1):=HB0.out.cell 1;have f1:(W.drewN YE).cell? ⟨w.heap.size+1,1,none⟩=some (.slice KE n1 c1'):=HB1.out.cell 1;by_cases hlt:k < n1
     · obtain⟨gb,go,gc,gp,hA,hA',g0,g1⟩:=H1.out.at hlt (by omega);obtain⟨s_,d_,x0,x1⟩:=S1.out k hlt;have SH:(W.drewN YE).cell? ⟨gb,go+k * 2,none⟩=some (.string s_):=by simpa using g0 0 _ x0
       have SI:(W.drewN YE).cell? ⟨gc,gp+k * 2,none⟩=some (.string s_):=by simpa using g1 0 _ x0
       have ZX:(W.drewN YE).cell? ⟨gb,go+k * 2+1,none⟩=some (.bool d_):=by simpa using g0 1 _ x1
       have ZY:(W.drewN YE).cell? ⟨gc,gp+k * 2+1,none⟩=some (.bool d_):=by simpa using g1 1 _ x1
       have i0:(0:Int)≤(k:Int):=by omega
       have i1:(k:Int) < (n1:Int):=by omega
       clear g0 g1 x0 x1;subst hA hA';go_upto_region 11 with fail;go_region_held3 (fun w'=>w'.cell? ⟨w.heap.size,1,none⟩=some (.slice (some ⟨gb,go,none⟩) n1 c1)∧w'.cell? ⟨w.heap.size+1,1,none⟩=some (.slice (some ⟨gc,gp,none⟩) n1 c1')∧w'.cell? ⟨gb,go+k * 2,none⟩=some (.string s_)∧w'.cell? ⟨gc,gp+k * 2,none⟩=some (.string s_)∧w'.cell? ⟨gb,go+k * 2+1,none⟩=some (.bool d_)∧w'.cell? ⟨gc,gp+k * 2+1,none⟩=some (.bool d_)) (first | exact⟨e1,f1,SH,SI,ZX,ZY⟩ | fail) (first | fail);go_wp2_with fail;go_roundw
       case rel=>exact ⟨k+1,YE+1,by go_num,by omega,rfl⟩
       case measure=>simp [intOf];omega
     · obtain rfl:k=n1:=by omega
       go_wp2_with fail;go_loopw [7] (fun iv wr=>∃k q:Nat,iv= .int .i64 (k:Int)∧k≤n2∧wr=W.drewN q) (fun iv _=>n2 - (intOf iv).toNat)
       case atStart=>exact ⟨0,YE,rfl,Nat.zero_le _,rfl⟩
       case round=>
        obtain⟨k,YF,rfl,hk,rfl⟩:=hrel;have e2:(W.drewN YF).cell? ⟨w.heap.size,2,none⟩=some (.slice A2 n2 c2):=HB0.out.cell 2;have f2:(W.drewN YF).cell? ⟨w.heap.size+1,2,none⟩=some (.slice KG n2 c2'):=HB1.out.cell 2;by_cases hlt:k < n2
        · obtain⟨gb,go,gc,gp,hA,hA',g0,g1⟩:=H2.out.at hlt (by omega);obtain⟨s_,a_,x0,x1⟩:=S2.out k hlt;have SH:(W.drewN YF).cell? ⟨gb,go+k * 2,none⟩=some (.string s_):=by simpa using g0 0 _ x0
          have SI:(W.drewN YF).cell? ⟨gc,gp+k * 2,none⟩=some (.string s_):=by simpa using g1 0 _ x0
          have ZX:(W.drewN YF).cell? ⟨gb,go+k * 2+1,none⟩=some (.int .i64 a_):=by simpa using g0 1 _ x1
          have ZY:(W.drewN YF).cell? ⟨gc,gp+k * 2+1,none⟩=some (.int .i64 a_):=by simpa using g1 1 _ x1
          have i0:(0:Int)≤(k:Int):=by omega
          have i1:(k:Int) < (n2:Int):=by omega
          clear g0 g1 x0 x1;subst hA hA';go_upto_region 16 with fail;go_region_held3 (fun w'=>w'.cell? ⟨w.heap.size,2,none⟩=some (.slice (some ⟨gb,go,none⟩) n2 c2)∧w'.cell? ⟨w.heap.size+1,2,none⟩=some (.slice (some ⟨gc,gp,none⟩) n2 c2')∧w'.cell? ⟨gb,go+k * 2,none⟩=some (.string s_)∧w'.cell? ⟨gc,gp+k * 2,none⟩=some (.string s_)∧w'.cell? ⟨gb,go+k * 2+1,none⟩=some (.int .i64 a_)∧w'.cell? ⟨gc,gp+k * 2+1,none⟩=some (.int .i64 a_)) (first | exact⟨e2,f2,SH,SI,ZX,ZY⟩ | fail) (first | fail);go_wp2_with fail;go_roundw
          case rel=>exact ⟨k+1,YF+1,by go_num,by omega,rfl⟩
          case measure=>simp [intOf];omega
        · obtain rfl:k=n2:=by omega
          go_wp2_with fail;go_loopw [8] (fun iv wr=>∃k q:Nat,iv= .int .i64 (k:Int)∧k≤n3∧wr=W.drewN q) (fun iv _=>n3 - (intOf iv).toNat)
          case atStart=>exact ⟨0,YF,rfl,Nat.zero_le _,rfl⟩
          case round=>
           obtain⟨k,q3_,rfl,hk,rfl⟩:=hrel;have e3:(W.drewN q3_).cell? ⟨w.heap.size,3,none⟩=some (.slice A3 n3 c3):=HB0.out.cell 3;have f3:(W.drewN q3_).cell? ⟨w.heap.size+1,3,none⟩=some (.slice KH n3 c3'):=HB1.out.cell 3;by_cases hlt:k < n3
           · obtain⟨gb,go,gc,gp,hA,hA',g0,g1⟩:=H3.out.at hlt (by omega);obtain⟨s_,x0⟩:=S3.out k hlt;have SH:(W.drewN q3_).cell? ⟨gb,go+k,none⟩=some (.string s_):=by simpa using g0 0 _ x0
             have SI:(W.drewN q3_).cell? ⟨gc,gp+k,none⟩=some (.string s_):=by simpa using g1 0 _ x0
             have i0:(0:Int)≤(k:Int):=by omega
             have i1:(k:Int) < (n3:Int):=by omega
             clear g0 g1 x0;subst hA hA';go_upto_region 21 with fail;go_region_held3 (fun w'=>w'.cell? ⟨w.heap.size,3,none⟩=some (.slice (some ⟨gb,go,none⟩) n3 c3)∧w'.cell? ⟨w.heap.size+1,3,none⟩=some (.slice (some ⟨gc,gp,none⟩) n3 c3')∧w'.cell? ⟨gb,go+k,none⟩=some (.string s_)∧w'.cell? ⟨gc,gp+k,none⟩=some (.string s_)) (first | exact⟨e3,f3,SH,SI⟩ | fail) (first | fail);go_wp2_with fail;go_roundw
             case rel=>exact ⟨k+1,q3_+1,by go_num,by omega,rfl⟩
             case measure=>simp [intOf];omega
           · obtain rfl:k=n3:=by omega
             go_wp2_with fail;go_loopw [9] (fun iv wr=>∃k q:Nat,iv= .int .i64 (k:Int)∧k≤n4∧wr=W.drewN q) (fun iv _=>n4 - (intOf iv).toNat)
             case atStart=>exact ⟨0,q3_,rfl,Nat.zero_le _,rfl⟩
             case round=>
              obtain⟨k,q4_,rfl,hk,rfl⟩:=hrel;have e4:(W.drewN q4_).cell? ⟨w.heap.size,4,none⟩=some (.slice A4 n4 c4):=HB0.out.cell 4;have f4:(W.drewN q4_).cell? ⟨w.heap.size+1,4,none⟩=some (.slice KI n4 NJ):=HB1.out.cell 4;by_cases hlt:k < n4
              · obtain⟨gb,go,gc,gp,hA,hA',g0,g1⟩:=H4.out.at hlt (by omega);obtain⟨s_,x0⟩:=S4.out k hlt;have SH:(W.drewN q4_).cell? ⟨gb,go+k,none⟩=some (.string s_):=by simpa using g0 0 _ x0
                have SI:(W.drewN q4_).cell? ⟨gc,gp+k,none⟩=some (.string s_):=by simpa using g1 0 _ x0
                have i0:(0:Int)≤(k:Int):=by omega
                have i1:(k:Int) < (n4:Int):=by omega
                clear g0 g1 x0;subst hA hA';go_upto_region 26 with fail;go_region_held3 (fun w'=>w'.cell? ⟨w.heap.size,4,none⟩=some (.slice (some ⟨gb,go,none⟩) n4 c4)∧w'.cell? ⟨w.heap.size+1,4,none⟩=some (.slice (some ⟨gc,gp,none⟩) n4 NJ)∧w'.cell? ⟨gb,go+k,none⟩=some (.string s_)∧w'.cell? ⟨gc,gp+k,none⟩=some (.string s_)) (first | exact⟨e4,f4,SH,SI⟩ | fail) (first | fail);go_wp2_with fail;go_roundw
                case rel=>exact ⟨k+1,q4_+1,by go_num,by omega,rfl⟩
                case measure=>simp [intOf];omega
              · obtain rfl:k=n4:=by omega
                go_wp2_with fail;go_loopw [10] (fun iv wr=>∃k q:Nat,iv= .int .i64 (k:Int)∧k≤n5∧wr=W.drewN q) (fun iv _=>n5 - (intOf iv).toNat)
                case atStart=>exact ⟨0,q4_,rfl,Nat.zero_le _,rfl⟩
                case round=>
                 obtain⟨k,WC,rfl,hk,rfl⟩:=hrel;have e5:(W.drewN WC).cell? ⟨w.heap.size,5,none⟩=some (.slice A5 n5 c5):=HB0.out.cell 5;have f5:(W.drewN WC).cell? ⟨w.heap.size+1,5,none⟩=some (.slice KJ n5 zH):=HB1.out.cell 5;by_cases hlt:k < n5
                 · obtain⟨gb,go,gc,gp,hA,hA',g0,g1⟩:=H5.out.at hlt (by omega);obtain⟨a_,b_,e_,x0,x1,x2⟩:=S5.out k hlt;have SH:(W.drewN WC).cell? ⟨gb,go+k * 3,none⟩=some (.int .i64 a_):=by simpa using g0 0 _ x0
                   have SI:(W.drewN WC).cell? ⟨gc,gp+k * 3,none⟩=some (.int .i64 a_):=by simpa using g1 0 _ x0
                   have ZX:(W.drewN WC).cell? ⟨gb,go+k * 3+1,none⟩=some (.int .i64 b_):=by simpa using g0 1 _ x1
                   have ZY:(W.drewN WC).cell? ⟨gc,gp+k * 3+1,none⟩=some (.int .i64 b_):=by simpa using g1 1 _ x1
                   have y2_:(W.drewN WC).cell? ⟨gb,go+k * 3+2,none⟩=some (.int .i64 e_):=by simpa using g0 2 _ x2
                   have z2_:(W.drewN WC).cell? ⟨gc,gp+k * 3+2,none⟩=some (.int .i64 e_):=by simpa using g1 2 _ x2
                   have i0:(0:Int)≤(k:Int):=by omega
                   have i1:(k:Int) < (n5:Int):=by omega
                   clear g0 g1 x0 x1 x2;subst hA hA';go_upto_region 31 with fail;go_region_held3 (fun w'=>w'.cell? ⟨w.heap.size,5,none⟩=some (.slice (some ⟨gb,go,none⟩) n5 c5)∧w'.cell? ⟨w.heap.size+1,5,none⟩=some (.slice (some ⟨gc,gp,none⟩) n5 zH)∧w'.cell? ⟨gb,go+k * 3,none⟩=some (.int .i64 a_)∧w'.cell? ⟨gc,gp+k * 3,none⟩=some (.int .i64 a_)∧w'.cell? ⟨gb,go+k * 3+1,none⟩=some (.int .i64 b_)∧w'.cell? ⟨gc,gp+k * 3+1,none⟩=some (.int .i64 b_)∧w'.cell? ⟨gb,go+k * 3+2,none⟩=some (.int .i64 e_)∧w'.cell? ⟨gc,gp+k * 3+2,none⟩=some (.int .i64 e_)) (first | exact⟨e5,f5,SH,SI,ZX,ZY,y2_,z2_⟩ | fail) (first | fail);go_wp2_with fail;go_roundw
                   case rel=>exact ⟨k+1,WC+1,by go_num,by omega,rfl⟩
                   case measure=>simp [intOf];omega
                 · obtain rfl:k=n5:=by omega
                   go_wp2_with fail;go_ret;exact⟨rfl,aH HG.out _⟩
