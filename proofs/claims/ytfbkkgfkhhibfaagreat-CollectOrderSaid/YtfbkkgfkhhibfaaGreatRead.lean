/- Words. -/
import Derived.Test.YtfbkkgfkhhibfaaGreatAppR
import Derived.Laws.DeepNot64
set_option linter.unusedVariables false
set_option maxRecDepth 100000
set_option maxHeartbeats 8000000
namespace Go.Proofs.YtfbkkgfkhhibfaaGreat
open Go Go.RowKit Iv
def three (r:Int×Nat×Int):Value:= .tuple #[.int .i64 r.1,.int .i64 (r.2.1:Int),.int .i64 r.2.2]
theorem Tj (A:Option Addr)(n c:Nat)(xs:Bytes)(w:World)(B:Nat)(h:Lies w B 1 A n (xs.map bv))(hn:n≤1000000000000):
 Calls Tryz.prog 116 #[.slice A n c] w fun e w'=>e= .returned (three (lY xs))∧w=w':=by
 have HL:=ae h.lenB;go_enter Tryz.func116,Tryz.ntmps116;go_wp2;go_loop [5,6,7,8,11] (fun u _ _ _ i=>∃(k acc:Nat),i= .int .i64 k∧k≤n∧k≤9∧u= .int .u64 acc∧acc < 128 ^ k∧qB (xs.drop k) k acc=lY xs) (fun _ _ _ _ i=>n - (intOf i).toNat)
 case atStart=>exact ⟨0,0,rfl,by omega,by omega,rfl,by simp,rfl⟩
 case round=>
  obtain⟨k,acc,rfl,hkn,hk9,rfl,hacc,hv⟩:=hrel;by_cases hlt:k < n
  · obtain⟨ad,x,rfl,hb1,hx,hc⟩:=h.byte hlt;have bx:=jf x
    have hdrop:xs.drop k=x :: xs.drop (k+1):=by
     obtain⟨hl,hx'⟩:=List.getElem?_eq_some_iff.1 hx;rw[List.drop_eq_getElem_cons hl,hx']
    rw[hdrop] at hv;simp only[qB] at hv;clear hx hdrop
    have hand:bits .and .u8 (x.toNat:Int) 127=((x.toNat % 128:Nat):Int):=by
     have:=u8_and_nat x.toNat 127 bx (by omega);rw[nat_mask7] at this;exact this
    by_cases ha:k=9∧1 < x.toNat
    · rw[if_pos ha] at hv;obtain⟨ha1,ha2⟩:=ha;have HV:=ae hv;have ha3:(1:Int) < (x.toNat:Int):=by omega
      have ha4:((k:Int)==9)=true:=by rw[beq_iff_eq];omega
      clear hv hacc ha1;go_wp2_with fail;go_ret3;exact⟨by rw[←HV.out];rfl,rfl⟩
    · rw[if_neg ha] at hv;obtain⟨abB,hlo⟩:=WL (x:=x.toNat) hacc hk9 (by omega);by_cases hb:128≤x.toNat
      · rw[if_pos hb] at hv;have HV:=ae hv;have hk8:k < 9:=by omega
        have hnx:acc+x.toNat % 128 * 128 ^ k < 128 ^ (k+1):=by
         have h1:x.toNat % 128 * 128 ^ k≤127 * 128 ^ k:=Nat.mul_le_mul_right _ (by omega);rw[Nat.pow_succ];omega
        have HN:=ae hnx;clear hv hnx;generalize acc+x.toNat % 128 * 128 ^ k=acc' at *
        have afX:((k:Int)==9)=false:=by rw[beq_eq_false_iff_ne];omega
        go_wp2_with fail;go_round
        case rel=>exact ⟨k+1,acc',by go_num,by omega,by omega,rfl,HN.out,HV.out⟩
        case measure=>simp [intOf];omega
      · rw[if_neg hb] at hv;have hlx:x.toNat % 128=x.toNat:=by omega
        rw[hlx] at hlo
        have hor:bits .or .u64 (acc:Int) (IntKind.u64.wrap ((x.toNat:Int) % 128 * 2 ^ (7 * k)))=((acc+x.toNat * 128 ^ k:Nat):Int):=by
         rw[hlx] at abB;exact abB
        clear abB
        have UU:((k:Int)==9)=true→¬(1:Int) < (x.toNat:Int):=by
         intro h;rw[beq_iff_eq] at h;omega
        have aqh:¬(128:Int)≤(x.toNat:Int):=by omega
        by_cases hc0:x.toNat=0∧0 < k
        · rw[if_pos hc0] at hv;have HV:=ae hv;have z1:((x.toNat:Int)==0)=true:=by rw[beq_iff_eq];omega
          have z2:(0:Int) < (k:Int):=by omega
          generalize acc+x.toNat * 128 ^ k=acc' at *
          clear hv hc0
          cases afX:((k:Int)==9)
          · clear UU;go_wp2_with fail;go_ret3;exact⟨by rw[←HV.out];rfl,rfl⟩
          · have hx1:=UU afX;clear UU;go_wp2_with fail;go_ret3;exact⟨by rw[←HV.out];rfl,rfl⟩
        · rw[if_neg hc0] at hv;have HV:=ae hv;clear hv hlx;generalize acc+x.toNat * 128 ^ k=acc' at *
          have hand1:bits .and .u64 (acc':Int) 1=((acc' % 2:Nat):Int):=by
           have:=u64_and_nat acc' 1 hlo (by omega);rw[nat_mask1] at this;exact this
          have z1:(((x.toNat:Int)==0)=false)∨(((x.toNat:Int)==0)=true∧¬(0:Int) < (k:Int)∧x.toNat=0):=by
           by_cases h:x.toNat=0
           · exact .inr ⟨by rw[beq_iff_eq];omega,by omega,h⟩
           · exact .inl (by rw[beq_eq_false_iff_ne];omega)
          have hodd:(((acc':Int) % 2 !=0)=true∧Jw acc'= -((acc' / 2:Nat):Int) - 1)∨(((acc':Int) % 2 !=0)=false∧Jw acc'=((acc' / 2:Nat):Int)):=by
           unfold Jw;rcases Nat.mod_two_eq_zero_or_one acc' with h | h
           · exact .inr ⟨by rw[bne_eq_false_iff_eq];omega,by rw[if_neg (by omega)]⟩
           · exact .inl ⟨by rw[bne_iff_ne];omega,by rw[if_pos h]⟩
          have alq:(((k:Int)==9)=true∧¬(1:Int) < (x.toNat:Int))∨((k:Int)==9)=false:=by
           cases h:((k:Int)==9)
           · exact .inr rfl
           · exact .inl ⟨rfl,UU h⟩
          clear UU hc0;rcases z1 with z1 | ⟨z1,z2,z3⟩
          all_goals
           rcases alq with ⟨k1,k2⟩ | k1
           all_goals
            rcases hodd with ⟨o1,o2⟩ | ⟨o1,o2⟩
            all_goals
             have HO:=ae o2;clear o2;try clear z3
             go_wp2_with fail;go_ret3;exact⟨by rw[←HV.out];show Ending.returned (.tuple #[.int .i64 _,_,_])= .returned (.tuple #[.int .i64 (Jw acc'),_,_]);rw[HO.out];rfl,rfl⟩
  · obtain rfl:k=n:=by omega
    have HV:=ae hv;have hnil:xs.drop k= []:=List.drop_eq_nil_of_le (by have:=HL.out;omega);have HN:=ae hnil;clear hv hnil;go_wp2_with fail;go_ret3;exact⟨by rw[←HV.out,HN.out];rfl,rfl⟩
theorem yA (A:Option Addr)(n c:Nat)(xs:Bytes)(w:World)(B:Nat)(h:Lies w B 1 A n (xs.map bv))(hn:n≤1000000000000){m:Int}{k:Nat}{er:Int}(hg:lY xs=(m,k,er)):
 Calls Tryz.prog 116 #[.slice A n c] w fun e w'=>e= .returned (.tuple #[.int .i64 m,.int .i64 (k:Int),.int .i64 er])∧w=w':=by
 have:=Tj A n c xs w B h hn;rw[hg] at this;exact this
theorem gI {b:Bytes}{s:Rd}(h:s.at_≤b.length):(rdNum b s).2.at_≤b.length∧s.at_≤(rdNum b s).2.at_:=by
 unfold rdNum;split
 · split
   · rename_i h1
     have:=pU (l:=b.drop s.at_) (n:=(lY (b.drop s.at_)).1) (k:=(lY (b.drop s.at_)).2.1) (by rw[←h1]);have h2:=this.2.2.2.1;rw[List.length_drop] at h2;dsimp only;omega
   · exact⟨h,Nat.le_refl _⟩
 · exact⟨h,Nat.le_refl _⟩
def rdCells (A:Option Addr)(n c:Nat)(s:Rd):Array Value:=#[.slice A n c,.int .i64 (s.at_:Int),.int .i64 s.err]
theorem gJ (g:Nat)(A:Option Addr)(n c B:Nat)(xs:Bytes)(s:Rd)(w:World)(hg:Held w g 293 (rdCells A n c s))(h:Lies w B 1 A n (xs.map bv))(hnc:n≤c)(ho:A=none→c=0)(hn:n≤1000000000)(hs:s.at_≤n):
 Calls Tryz.prog 173 #[.pointer (some ⟨g,0,none⟩)] w fun e w'=>e= .returned (.int .i64 (rdNum xs s).1)∧Held w' g 293 (rdCells A n c (rdNum xs s).2)∧w.grownBy w' (some g):=by
 have hl:xs.length=n:=h.lenB;have g0:w.cell? ⟨g,0,none⟩=some (.slice A n c):=hg.cell 0;have g1:w.cell? ⟨g,1,none⟩=some (.int .i64 (s.at_:Int)):=hg.cell 1;have g2:w.cell? ⟨g,2,none⟩=some (.int .i64 s.err):=hg.cell 2;by_cases he:s.err=0
 · obtain⟨a,er⟩:=s;dsimp only at he hs g0 g1 g2 hg⊢;subst he
   have hcut:Lies w B 1 (if c=a then A else A.map fun x=>x.add a) (n - a) ((xs.drop a).map bv):=by
    have:=h.dropIf hs hnc;rwa [Nat.mul_one,←List.map_drop] at this
   obtain⟨A',hA'⟩:∃A',(if c=a then A else A.map fun x=>x.add a)=A':=⟨_,rfl⟩;rw[hA'] at hcut;obtain⟨m,k,er,hgi⟩:∃m k er,lY (xs.drop a)=(m,k,er):=⟨_,_,_,rfl⟩;have CP:=ae (yA A' (n - a) (c - a) (xs.drop a) w.drew B hcut.drew (by omega) hgi);have hne:((0:Int) !=0)=false:=rfl;have j0:(0:Int)≤(a:Int):=by omega
   have j1:(a:Int)≤(n:Int):=by omega
   have j2:(n:Int)≤(c:Int):=by omega
   have z0:=hg.free 0;have z1:=hg.free 1;have z2:=hg.free 2;by_cases her:er=0
   · subst her;have ho:=pU hgi;have hk:k≤n - a:=by have:=ho.2.2.2.1;rw[List.length_drop] at this;omega
     have hrd:rdNum xs ⟨a,0⟩=(m,⟨a+k,0⟩):=by
      unfold rdNum;rw[if_pos rfl];dsimp only;rw[hgi,if_pos rfl]
     rw[hrd];have HG:=ae hg;clear hrd hgi ho hl hg hcut h;go_enter Tryz.func173,Tryz.ntmps173;go_wp2_with fail
     go_region_held3 (fun w'=>w'.cell? ⟨g,0,none⟩=some (.slice A n c)∧w'.cell? ⟨g,1,none⟩=some (.int .i64 (a:Int))) (go_keep) (first
      | (go_at_call 116;((with_reducible refine CP.out.mono ?_);rintro e w1 ⟨rfl,rfl⟩)))
     go_wp2_with fail;go_ret;have hst:=(HG.out.store 1 (.int .i64 ((a:Int)+(k:Int)))).drew;exact⟨rfl,hst,aN (ah w g 1 _)⟩
   · obtain⟨er',alY,hg'⟩:=(RS (xs.drop a)).resolve_left (by rw[hgi];exact her);rw[hgi] at hg';simp only[Prod.mk.injEq] at hg';obtain⟨rfl,rfl,rfl⟩:=hg'
     have hrd:rdNum xs ⟨a,0⟩=(0,⟨a,er⟩):=by
      unfold rdNum;rw[if_pos rfl];dsimp only;rw[hgi,if_neg her]
     rw[hrd];have HG:=ae hg;have hbe:(er !=0)=true:=by rw[bne_iff_ne];exact her
     clear hrd hgi hl hg hcut h her alY;go_enter Tryz.func173,Tryz.ntmps173;go_wp2_with fail
     go_region_held3 (fun w'=>w'.cell? ⟨g,0,none⟩=some (.slice A n c)∧w'.cell? ⟨g,1,none⟩=some (.int .i64 (a:Int))) (go_keep) (first
      | (go_at_call 116;((with_reducible refine CP.out.mono ?_);rintro e w1 ⟨rfl,rfl⟩)))
     go_wp2_with fail;go_ret;have hst:=(HG.out.store 2 (.int .i64 er)).drew;exact⟨rfl,hst,aN (ah w g 2 _)⟩
 · have hb:(s.err !=0)=true:=by rw[bne_iff_ne];exact he
   have hrd:rdNum xs s=(0,s):=mf he;rw[hrd];have HG:=ae hg;clear hrd he hl hg;go_enter Tryz.func173,Tryz.ntmps173;go_wp2_with fail;go_ret;exact⟨rfl,HG.out,World.grownBy.refl w _⟩
theorem BU (b:Bytes)(s:Rd):inI64 (rdNum b s).1:=by
 by_cases h:(rdNum b s).2.err=0
 · exact (x8 h).1
 · unfold rdNum at h⊢;split
   · split
     · rename_i h1 h2
       rw[if_pos h1,if_pos h2] at h;exact absurd rfl h
     · exact⟨by omega,by omega⟩
   · exact⟨by omega,by omega⟩
def Ez (xs:Bytes)(N:Nat)(s1:Rd)(L0:List Int)(last:Int)(s':Rd)(i:Nat):Prop:=
 L0.length=i∧i≤N∧(i=0→s'=s1)∧(0 < i→N≤400)∧(L0++(bC xs (N - i) last s').1,(bC xs (N - i) last s').2)=bC xs N 0 s1
theorem Ig {xs:Bytes}{N:Nat}{s1:Rd}{L0:List Int}{last:Int}{s':Rd}{k:Nat}(h:Ez xs N s1 L0 last s' k)(hk:k < N)(he:s'.err=0)(h4:N≤400):
 Ez xs N s1 (L0++ [wrap64 (last+(rdNum xs s').1)]) (wrap64 (last+(rdNum xs s').1)) (rdNum xs s').2 (k+1):=by
 obtain⟨h1,h2,h3,h5,h6⟩:=h;refine⟨by simp[h1],by omega,fun h=>by omega,fun _=>h4,?_⟩;rw[←h6,show N - k=(N - (k+1))+1 from by omega,bC,if_pos he];simp only[List.append_assoc,List.cons_append,List.nil_append]
theorem yQ {xs:Bytes}{N:Nat}{s1:Rd}{L0:List Int}{last:Int}{s':Rd}{k:Nat}(h:Ez xs N s1 L0 last s' k)(hk:N≤k∨s'.err≠0):bC xs N 0 s1=(L0,s'):=by
 obtain⟨h1,h2,h3,h5,h6⟩:=h;rw[←h6];rcases hk with hk | hk
 · rw[show N - k=0 from by omega];simp[bC]
 · rw[lq hk];simp
theorem LM {a b c:World}{o o':Option Nat}(h:a.grownBy b o)(h':b.grownBy c o')(hat:At a none o'):a.grownBy c o:=by
 refine⟨h'.os.trans h.os,h'.tape.trans h.tape,h'.output.trans h.output,Nat.le_trans h.size h'.size,fun k hk hne=>?_⟩;have h1:=h.block k hk hne;refine (h'.block k (Nat.lt_of_lt_of_le hk h.size) ?_).trans h1;rcases hat with rfl | ⟨g,rfl,hg⟩
 · exact fun e=>nomatch e
 · intro e;injection e with e;omega
theorem ny {w w':World}{base e sz n g:Nat}{v:Value}{xs:List Value}(h:w.ownsRow base e sz v n xs)(hg:w.grownBy w' (some g))(hne:v.ownBlock≠some g):w'.ownsRow base e sz v n xs:=by
 refine⟨h.1,?_⟩;rcases h.2 with h2 | ⟨b,cap,cur,rfl,hb,hh,h3⟩
 · exact .inl h2
 · refine .inr ⟨b,cap,cur,rfl,hb,?_,h3⟩;refine (hg.block b (Array.getElem?_eq_some_iff.1 hh).1 ?_).trans hh;intro e;injection e with e;exact hne (by rw[e];rfl)
theorem BN (g:Nat)(A:Option Addr)(n c B:Nat)(xs:Bytes)(s:Rd)(w:World)(hg:Held w g 293 (rdCells A n c s))(h:Lies w B 1 A n (xs.map bv))(hBg:B≤g)(hnc:n≤c)(ho:A=none→c=0)(hn:n≤1000000000)(hs:s.at_≤n)(base:Nat)(hbase:base≤w.heap.size):
 Calls Tryz.prog 174 #[.pointer (some ⟨g,0,none⟩)] w fun e w'=>∃v',e= .returned v'∧w'.ownsRow base 3 1 v' (dw xs s).1.length ((dw xs s).1.map iv)∧Held w' g 293 (rdCells A n c (dw xs s).2)∧w.grownBy w' (some g)∧At w none v'.ownBlock:=by
 have hl:xs.length=n:=h.lenB;have CN:=ae (gJ g A n c B xs s w hg h hnc ho hn hs);obtain⟨m,s0,hp⟩:∃m s0,rdNum xs s=(m,s0):=⟨_,_,rfl⟩;have hmi:=BU xs s;have hat:=(gI (b:=xs) (s:=s) (by omega)).1;rw[hp] at hmi hat;obtain⟨s1,hs1⟩:∃s1,s1=jU (rdNum xs s):=⟨_,rfl⟩
 have hlist:dw xs s=bC xs m.toNat 0 s1:=by
  unfold dw;rw[←hs1,hp]
 have hs1':s1=if s0.err=0∧(m < 0∨400 < m) then ⟨s0.at_,11⟩ else s0:=by
  rw[hs1,hp];rfl
 have jT:s1.at_≤n:=by
  rw[hs1'];split
  · exact Nat.le_trans hat (by omega)
  · exact Nat.le_trans hat (by omega)
 have Y8:s1.err=0→0≤m∧m≤400:=by
  intro he;rw[hs1'] at he;by_cases hc:s0.err=0∧(m < 0∨400 < m)
  · rw[if_pos hc] at he;exact absurd (show (11:Int)=0 from he) (by decide)
  · rw[if_neg hc] at he;have:¬(m < 0∨400 < m):=fun hh=>hc ⟨he,hh⟩
    omega
 rw[hlist];have HP:=ae hp;have Y9:=ae hs1';have HM4:=ae Y8;have HMI:=ae hmi;have HO:=ae ho;clear hlist hs1 hs1' Y8 hp hmi hat ho;have hgl:=hg.lt;have HG:=ae hg;clear hg;go_enter Tryz.func174,Tryz.ntmps174;go_wp2_with fail;refine CN.out.mono ?_;rintro e w1 ⟨rfl,hh1,hg1⟩;rw[HP.out] at hh1⊢;go_upto_region 2 with fail;have f2:w1.cell? ⟨g,2,none⟩=some (.int .i64 s0.err):=hh1.cell 2;have z2:=hh1.free 2;obtain⟨tb,htb⟩:∃tb,tb=decide (s0.err=0∧(m < 0∨400 < m)):=⟨_,rfl⟩;have HTB:=ae htb;have HH1:=ae hh1;have nZ:=ae hg1;clear htb hh1 hg1;go_cut [21] (fun v21 wx=>v21= .bool tb∧wx=w1)
 case first=>
  by_cases he:s0.err=0
  · have hb:(s0.err==0)=true:=by rw[beq_iff_eq];exact he
    by_cases h1:m < 0
    · have HF:Hid (tb=true):=by rw[HTB.out,decide_eq_true_iff];exact⟨he,.inl h1⟩
      clear he;go_wp2_with fail;go_meet;exact⟨by rw[HF.out],rfl⟩
    · by_cases h2:400 < m
      · have HF:Hid (tb=true):=by rw[HTB.out,decide_eq_true_iff];exact⟨he,.inr h2⟩
        clear he;go_wp2_with fail;go_meet;exact⟨by rw[HF.out],rfl⟩
      · have HF:Hid (tb=false):=by rw[HTB.out,decide_eq_false_iff_not];intro hh;omega
        clear he;go_wp2_with fail;go_meet;exact⟨by rw[HF.out],rfl⟩
  · have hb:(s0.err==0)=false:=by rw[beq_eq_false_iff_ne];exact he
    have HF:Hid (tb=false):=by rw[HTB.out,decide_eq_false_iff_not];intro hh;exact he hh.1
    clear he;go_wp2_with fail;go_meet;exact⟨by rw[HF.out],rfl⟩
 case rest=>
  obtain⟨rfl,rfl⟩:=hcut;go_upto_if 21 with fail;go_cut [3] (fun v3 wx=>v3= .int .i64 m∧Held wx g 293 (rdCells A n c s1)∧w.grownBy wx (some g))
  case first=>
   cases tb
   · have hs:s1=s0:=by
      have:=HTB.out.symm;rw[decide_eq_false_iff_not] at this;rw[Y9.out,if_neg this]
     have HF:=ae hs;clear hs;go_wp2_with fail;go_meet;exact⟨rfl,by rw[HF.out];exact HH1.out,nZ.out⟩
   · have hs:s1=⟨s0.at_,11⟩:=by
      have:=HTB.out.symm;rw[decide_eq_true_iff] at this;rw[Y9.out,if_pos this]
     have HF:=ae hs;clear hs;go_wp2_with fail;go_meet;exact⟨rfl,by rw[HF.out];exact HH1.out.store 2 (.int .i64 11),ax nZ.out (ah wc g 2 _)⟩
  case rest=>
   obtain⟨rfl,hhx,hgx⟩:=hcut;have hinfo:=yJ;obtain⟨i0,hi,hz0,hz1,hz2⟩:=info_parts hinfo;have HI:=ae hi;have HZ0:=ae hz0;have HZ1:=ae hz1;have HZ2:=ae hz2;clear hi hz0 hz1 hz2 hinfo;have hz:(0:Nat) < 1:=by omega
   obtain⟨N,hN⟩:∃N,N=m.toNat:=⟨_,rfl⟩;have HN:=ae hN;clear hN;go_wp2_with fail
   go_loopw [4,5,6] (fun v la i wr=>∃(k:Nat) (last:Int) (s':Rd) (L0:List Int) (vv:Value),vv=v∧i= .int .i64 k∧la= .int .i64 last∧Ez xs N s1 L0 last s' k∧s'.at_≤n∧Held wr g 293 (rdCells A n c s')∧
    wr.ownsRow base 3 1 vv L0.length (L0.map iv)∧w.grownBy wr (some g)∧At w none vv.ownBlock) (fun _ _ i _=>N - (intOf i).toNat)
   case atStart=>exact ⟨0,0,s1,[],_,rfl,rfl,rfl,⟨rfl,Nat.zero_le _,fun _=>rfl,fun h=>by omega,by simp⟩,jT,hhx,World.ownsRow_nil _ _ _ _,hgx,.inl rfl⟩
   case round=>
    clear hhx hgx;obtain⟨k,last,s',L0,vv,rfl,rfl,rfl,hla,hsa,hh,hown,hgr,hat⟩:=hrel;have f2:wr.cell? ⟨g,2,none⟩=some (.int .i64 s'.err):=hh.cell 2;have hkN:k≤N:=hla.2.1;have hgw:g < w.heap.size:=hgl;have akz:B≤w.heap.size:=by omega
    have hng:vv.ownBlock≠some g:=by
     rcases hat with h0 | ⟨b0,h1,h2⟩
     · rw[h0];exact fun h=>nomatch h
     · rw[h1];intro h;injection h with h;omega
    by_cases hlt:(k:Int) < m
    · by_cases he:s'.err=0
      · have hN4:N≤400:=by
         rcases Nat.eq_zero_or_pos k with h0 | h0
         · have h1:=hla.2.2.1 h0;have:=HM4.out (by rw[←h1];exact he);rw[HN.out];omega
         · exact hla.2.2.2.1 h0
        have hlen0:L0.length=k:=hla.1;have CN2:=ae (gJ g A n c B xs s' wr hh (h.grown hgr akz (fun g' hg'=>by injection hg' with hg';omega)) hnc HO.out hn hsa);have Xt:=ae (Ig hla (by have:=HN.out;omega) he hN4);have LP:=(gI (b:=xs) (s:=s') (by omega)).1;obtain⟨x,s2,hp2⟩:∃x s2,rdNum xs s'=(x,s2):=⟨_,_,rfl⟩;have hxi:=BU xs s';rw[hp2] at LP hxi;have HP2:=ae hp2;have HAT:=ae LP;have hb:(s'.err==0)=true:=by rw[beq_iff_eq];exact he
        clear hla he hp2 LP;go_wp2_with fail;refine CN2.out.mono ?_;rintro e w2 ⟨rfl,hh2,hg2⟩;rw[HP2.out] at hh2⊢;have hown2:=ny hown hg2 hng;rw[hlen0] at hown2;have HN4:=ae hN4;have bk:k+1≤400:=by have:=HN.out;omega
        clear hown hN4;go_wp2_with (at_builtin;refine bK _ rfl (.tmp 41) (.tmp 43) _ rfl base 3 i0 (.int .i64 0) 1 8 Tryz.underlying37 HI.out HZ0.out HZ1.out HZ2.out rfl hz _ vv.ownBlock k (L0.map iv) rfl (App.own (hown2.alloc _)) ⟨w2.heap.size,0,none⟩ 1 1 [.int .i64 (wrap64 (last+x))] rfl hz rfl (fK _ _ _) (Am rfl) (by unfold maxLen;omega) (by omega) (by have:=hgr.size;have:=hg2.size;simp;omega) ?_;intro v' w3 hown3 hg3 lM);have hg3':=bM hg3;have nK:=lM.alloc;have akB:w.heap.size≤w2.heap.size:=Nat.le_trans hgr.size hg2.size;clear hg3 lM;go_roundw
        case rel=>
         have hN2:=Xt.out;rw[HP2.out] at hN2;refine⟨k+1,wrap64 (last+x),s2,L0++ [wrap64 (last+x)],v',rfl,by go_num,rfl,hN2,Nat.le_trans HAT.out (Nat.le_of_eq hl),hh2.grown hg3' (fun e=>hng e.symm),?_,LM (ax hgr hg2) hg3' hat,hat.trans nK akB⟩;rw[List.length_append,List.map_append,hlen0];exact hown3
        case measure=>simp [intOf];have:=HN.out;omega
      · have HE:=ae (yQ hla (.inr he));have hb:(s'.err==0)=false:=by rw[beq_eq_false_iff_ne];exact he
        have HR:=ae (show w.grownBy wr (some g) from hgr);clear hla he;go_wp2_with fail;go_ret;rw[←HN.out,HE.out];exact⟨_,rfl,hown,hh,hgr,hat⟩
    · have HE:=ae (yQ hla (.inl (by have:=HN.out;omega)));clear hla;go_wp2_with fail;go_ret;rw[←HN.out,HE.out];exact⟨_,rfl,hown,hh,hgr,hat⟩
structure RdInv (w:World)(tR:TypeId)(A:Option Addr)(n c:Nat)(wk:World)(s:Rd)(cs:Array Value):Prop where
 res:Held wk w.heap.size 54 #[.int .i64 0,.int .i64 0,.int .i64 0,.int .i64 0,.int .i64 0,.int .i64 0,.slice none 0 0,.slice none 0 0]
 rd:Held wk (w.heap.size+1) tR (rdCells A n c s)
 rcd:Held wk (w.heap.size+1+1) 54 cs
 grown:w.grownBy wk none
def rcC (a b c d e f:Int)(v u:Value):Array Value:=#[.int .i64 a,.int .i64 b,.int .i64 c,.int .i64 d,.int .i64 e,.int .i64 f,v,u]
theorem newAt (w:World)(N:Nat)(hN:w.heap.size=N)(t:TypeId)(cs:Array Value):Held (w.alloc (.cells cs t)) N t cs:=hN▸Held.new w t cs
theorem RdInv.next {w:World}{tR:TypeId}{A:Option Addr}{n c:Nat}{wk w':World}{s s':Rd}{cs:Array Value}(h:RdInv w tR A n c wk s cs)
 (h1:Held w' (w.heap.size+1) tR (rdCells A n c s')) (h2:wk.grownBy w' (some (w.heap.size+1))):RdInv w tR A n c w' s' cs:=by
 refine⟨h.res.grown h2 (fun e=>by injection e with e;omega),h1,h.rcd.grown h2 (fun e=>by injection e with e;omega),?_⟩;exact af h.grown h2 (.inr ⟨_,rfl,Nat.le_succ _⟩)
theorem RdInv.put {w:World}{tR:TypeId}{A:Option Addr}{n c:Nat}{wk:World}{s:Rd}{cs:Array Value}(h:RdInv w tR A n c wk s cs)(i:Nat)(u:Value):
 RdInv w tR A n c (wk.setCell ⟨w.heap.size+1+1,i,none⟩ u) s (cs.setIfInBounds i u):=by
 refine⟨h.res.far (by simp only[];omega) u,h.rd.far (by simp only[];omega) u,h.rcd.store i u,?_⟩;exact af h.grown (ah wk _ i u) (.inr ⟨_,rfl,by omega⟩)
theorem NP {w W:World}{g:Nat}{T:TypeId}{c0 c1 c2 c3 c4 c5 c6 c7:Value}(h:Held W g T #[c0,c1,c2,c3,c4,c5,c6,c7])(hg:w.grownBy W none)(hl:w.heap.size≤g)(u0 u1 u2 u3 u4 u5 u6 u7:Value):
 Held (((((((((W.setCell ⟨g,0,none⟩ u0).setCell ⟨g,1,none⟩ u1).setCell ⟨g,2,none⟩ u2).setCell ⟨g,3,none⟩ u3).setCell ⟨g,4,none⟩ u4).setCell ⟨g,5,none⟩ u5).setCell ⟨g,6,none⟩ u6).setCell ⟨g,7,none⟩ u7)) g T #[u0,u1,u2,u3,u4,u5,u6,u7]∧w.grownBy (((((((((W.setCell ⟨g,0,none⟩ u0).setCell ⟨g,1,none⟩ u1).setCell ⟨g,2,none⟩ u2).setCell ⟨g,3,none⟩ u3).setCell ⟨g,4,none⟩ u4).setCell ⟨g,5,none⟩ u5).setCell ⟨g,6,none⟩ u6).setCell ⟨g,7,none⟩ u7)) none∧W.grownBy (((((((((W.setCell ⟨g,0,none⟩ u0).setCell ⟨g,1,none⟩ u1).setCell ⟨g,2,none⟩ u2).setCell ⟨g,3,none⟩ u3).setCell ⟨g,4,none⟩ u4).setCell ⟨g,5,none⟩ u5).setCell ⟨g,6,none⟩ u6).setCell ⟨g,7,none⟩ u7)) (some g):=by
 have h1:Held (W.setCell ⟨g,0,none⟩ u0) g T #[u0,c1,c2,c3,c4,c5,c6,c7]:=h.store 0 u0;have h2:Held ((W.setCell ⟨g,0,none⟩ u0).setCell ⟨g,1,none⟩ u1) g T #[u0,u1,c2,c3,c4,c5,c6,c7]:=h1.store 1 u1;have h3:Held (((W.setCell ⟨g,0,none⟩ u0).setCell ⟨g,1,none⟩ u1).setCell ⟨g,2,none⟩ u2) g T #[u0,u1,u2,c3,c4,c5,c6,c7]:=h2.store 2 u2;have h4:Held ((((W.setCell ⟨g,0,none⟩ u0).setCell ⟨g,1,none⟩ u1).setCell ⟨g,2,none⟩ u2).setCell ⟨g,3,none⟩ u3) g T #[u0,u1,u2,u3,c4,c5,c6,c7]:=h3.store 3 u3;have h5:Held (((((W.setCell ⟨g,0,none⟩ u0).setCell ⟨g,1,none⟩ u1).setCell ⟨g,2,none⟩ u2).setCell ⟨g,3,none⟩ u3).setCell ⟨g,4,none⟩ u4) g T #[u0,u1,u2,u3,u4,c5,c6,c7]:=h4.store 4 u4;have h6:Held ((((((W.setCell ⟨g,0,none⟩ u0).setCell ⟨g,1,none⟩ u1).setCell ⟨g,2,none⟩ u2).setCell ⟨g,3,none⟩ u3).setCell ⟨g,4,none⟩ u4).setCell ⟨g,5,none⟩ u5) g T #[u0,u1,u2,u3,u4,u5,c6,c7]:=h5.store 5 u5;have h7:Held (((((((W.setCell ⟨g,0,none⟩ u0).setCell ⟨g,1,none⟩ u1).setCell ⟨g,2,none⟩ u2).setCell ⟨g,3,none⟩ u3).setCell ⟨g,4,none⟩ u4).setCell ⟨g,5,none⟩ u5).setCell ⟨g,6,none⟩ u6) g T #[u0,u1,u2,u3,u4,u5,u6,c7]:=h6.store 6 u6;have h8:Held ((((((((W.setCell ⟨g,0,none⟩ u0).setCell ⟨g,1,none⟩ u1).setCell ⟨g,2,none⟩ u2).setCell ⟨g,3,none⟩ u3).setCell ⟨g,4,none⟩ u4).setCell ⟨g,5,none⟩ u5).setCell ⟨g,6,none⟩ u6).setCell ⟨g,7,none⟩ u7) g T #[u0,u1,u2,u3,u4,u5,u6,u7]:=h7.store 7 u7;refine⟨h8,?_,?_⟩
 · exact af (af (af (af (af (af (af (af (hg) (ah _ g 0 _) (.inr ⟨g,rfl,hl⟩)) (ah _ g 1 _) (.inr ⟨g,rfl,hl⟩)) (ah _ g 2 _) (.inr ⟨g,rfl,hl⟩)) (ah _ g 3 _) (.inr ⟨g,rfl,hl⟩)) (ah _ g 4 _) (.inr ⟨g,rfl,hl⟩)) (ah _ g 5 _) (.inr ⟨g,rfl,hl⟩)) (ah _ g 6 _) (.inr ⟨g,rfl,hl⟩)) (ah _ g 7 _) (.inr ⟨g,rfl,hl⟩)
 · exact ax (ax (ax (ax (ax (ax (ax (ah W g 0 _) (ah _ g 1 _)) (ah _ g 2 _)) (ah _ g 3 _)) (ah _ g 4 _)) (ah _ g 5 _)) (ah _ g 6 _)) (ah _ g 7 _)
theorem KP (b:Bytes)(n:Nat):∀(last:Int) (s:Rd),s.at_≤b.length→(bC b n last s).2.at_≤b.length:=by
 induction n with
 | zero=>intro last s h;exact h
 |
  succ n ih=>
  intro last s h;rw[bC];split
  · exact ih _ _ (gI h).1
  · exact h
theorem O9 {b:Bytes}{s:Rd}(h:s.at_≤b.length):(dw b s).2.at_≤b.length:=by
 unfold dw;refine KP b _ _ _ ?_;unfold jU;split
 · exact (gI h).1
 · exact (gI h).1
theorem Pe (A:Option Addr)(n c B:Nat)(xs:Bytes)(thread seq:Int)(w:World)(h:Lies w B 1 A n (xs.map bv))(hB:B≤w.heap.size)(hnc:n≤c)(ho:A=none→c=0)(hn:n≤1000000000):
 Calls Tryz.prog 154 #[.slice A n c,.int .i64 thread,.int .i64 seq] w fun e w'=>∃(r:Rec) (vd vf:Value),r=(dI xs thread seq).1∧
  e= .returned (.tuple #[.agg #[.int .i64 r.seq,.int .i64 r.ev.thread,.int .i64 r.ev.kind,.int .i64 r.ev.obj,.int .i64 r.ev.value,.int .i64 r.ev.site,vd,vf],.int .i64 ((dI xs thread seq).2.1:Int),.int .i64 (dI xs thread seq).2.2])∧
  w'.ownsRow w.heap.size 3 1 vd r.ev.deps.length (r.ev.deps.map iv)∧w'.ownsRow w.heap.size 3 1 vf r.ev.from_.length (r.ev.from_.map iv)∧w.grownBy w' none:=by
 have hl:xs.length=n:=h.lenB;have H:=ae h;clear h;obtain⟨W,hW⟩:∃W,W=((w.alloc (.cells #[.int .i64 0,.int .i64 0,.int .i64 0,.int .i64 0,.int .i64 0,.int .i64 0,.slice none 0 0,.slice none 0 0] 54)).alloc (.cells (rdCells A n c ⟨0,0⟩) 293)).alloc (.cells #[.int .i64 0,.int .i64 0,.int .i64 0,.int .i64 0,.int .i64 0,.int .i64 0,.slice none 0 0,.slice none 0 0] 54):=⟨_,rfl⟩;have HW:=ae hW;go_enter Tryz.func154,Tryz.ntmps154;go_wp2_with fail
 have I0:RdInv w 293 A n c W ⟨0,0⟩ #[.int .i64 0,.int .i64 0,.int .i64 0,.int .i64 0,.int .i64 0,.int .i64 0,.slice none 0 0,.slice none 0 0]:=by
  rw[hW];refine⟨((Held.new w _ _).alloc _).alloc _,?_,?_,?_⟩
  · exact (newAt (w.alloc _) _ (by simp) _ _).alloc _
  · exact newAt ((w.alloc _).alloc _) _ (by simp) _ _
  · exact af (af (World.grownBy_alloc w _ none) (World.grownBy_alloc _ _ none) (.inl rfl)) (World.grownBy_alloc _ _ none) (.inl rfl)
 clear hW;have hs0:(⟨0,0⟩:Rd).at_≤n:=Nat.zero_le _;rw[show ((w.alloc (.cells #[.int .i64 0,.int .i64 0,.int .i64 0,.int .i64 0,.int .i64 0,.int .i64 0,.slice none 0 0,.slice none 0 0] 54)).alloc (.cells #[.slice A n c,.int .i64 0,.int .i64 0] 293)).alloc (.cells #[.int .i64 0,.int .i64 0,.int .i64 0,.int .i64 0,.int .i64 0,.int .i64 0,.slice none 0 0,.slice none 0 0] 54)=W from HW.out.symm];obtain⟨x0,t0,hp0⟩:∃x t,rdNum xs ⟨0,0⟩=(x,t):=⟨_,_,rfl⟩;have hs1:t0.at_≤n:=by have:=(gI (b:=xs) (s:=⟨0,0⟩) (Nat.zero_le _)).1;rw[hp0] at this;exact Nat.le_trans this (Nat.le_of_eq hl)
 refine (gJ (w.heap.size+1) A n c B xs ⟨0,0⟩ W I0.rd (H.out.grown I0.grown hB (fun _ e=>nomatch e)) hnc ho hn hs0).mono ?_;rintro e w1 ⟨rfl,h1,g1⟩;rw[hp0] at h1⊢;have I1:=I0.next h1 g1;clear h1 g1 I0;have z0:=I1.rcd.free 0;have z1:=I1.rcd.free 1;have k0:=I1.rcd.cell 0;have k1:=I1.rcd.cell 1;go_wp2_with fail;have J1:RdInv w 293 A n c _ t0 (rcC (wrap64 (seq+x0)) thread 0 0 0 0 (.slice none 0 0) (.slice none 0 0)):=(I1.put 0 (.int .i64 (wrap64 (seq+x0)))).put 1 (.int .i64 thread);clear z0 z1 k0 k1 I1;obtain⟨x1,t1,hp1⟩:∃x t,rdNum xs t0=(x,t):=⟨_,_,rfl⟩;have hs2:t1.at_≤n:=by have:=(gI (b:=xs) (s:=t0) (by omega)).1;rw[hp1] at this;exact Nat.le_trans this (Nat.le_of_eq hl)
 refine (gJ (w.heap.size+1) A n c B xs t0 _ J1.rd (H.out.grown J1.grown hB (fun _ e=>nomatch e)) hnc ho hn hs1).mono ?_;rintro e w2 ⟨rfl,h1,g1⟩;rw[hp1] at h1⊢;have I2:=J1.next h1 g1;clear h1 g1 J1;have z0:=I2.rcd.free 2;have k0:=I2.rcd.cell 2;go_wp2_with fail;have J2:RdInv w 293 A n c _ t1 (rcC (wrap64 (seq+x0)) thread x1 0 0 0 (.slice none 0 0) (.slice none 0 0)):=I2.put 2 (.int .i64 x1);clear z0 k0 I2;obtain⟨x2,t2,hp2⟩:∃x t,rdNum xs t1=(x,t):=⟨_,_,rfl⟩;have hs3:t2.at_≤n:=by have:=(gI (b:=xs) (s:=t1) (by omega)).1;rw[hp2] at this;exact Nat.le_trans this (Nat.le_of_eq hl)
 refine (gJ (w.heap.size+1) A n c B xs t1 _ J2.rd (H.out.grown J2.grown hB (fun _ e=>nomatch e)) hnc ho hn hs2).mono ?_;rintro e w3 ⟨rfl,h1,g1⟩;rw[hp2] at h1⊢;have I3:=J2.next h1 g1;clear h1 g1 J2;have z0:=I3.rcd.free 3;have k0:=I3.rcd.cell 3;go_wp2_with fail;have J3:RdInv w 293 A n c _ t2 (rcC (wrap64 (seq+x0)) thread x1 x2 0 0 (.slice none 0 0) (.slice none 0 0)):=I3.put 3 (.int .i64 x2);clear z0 k0 I3;obtain⟨x3,t3,hp3⟩:∃x t,rdNum xs t2=(x,t):=⟨_,_,rfl⟩;have hs4:t3.at_≤n:=by have:=(gI (b:=xs) (s:=t2) (by omega)).1;rw[hp3] at this;exact Nat.le_trans this (Nat.le_of_eq hl)
 refine (gJ (w.heap.size+1) A n c B xs t2 _ J3.rd (H.out.grown J3.grown hB (fun _ e=>nomatch e)) hnc ho hn hs3).mono ?_;rintro e w4 ⟨rfl,h1,g1⟩;rw[hp3] at h1⊢;have I4:=J3.next h1 g1;clear h1 g1 J3;have z0:=I4.rcd.free 4;have k0:=I4.rcd.cell 4;go_wp2_with fail;have J4:RdInv w 293 A n c _ t3 (rcC (wrap64 (seq+x0)) thread x1 x2 x3 0 (.slice none 0 0) (.slice none 0 0)):=I4.put 4 (.int .i64 x3);clear z0 k0 I4;obtain⟨x4,t4,hp4⟩:∃x t,rdNum xs t3=(x,t):=⟨_,_,rfl⟩;have hs5:t4.at_≤n:=by have:=(gI (b:=xs) (s:=t3) (by omega)).1;rw[hp4] at this;exact Nat.le_trans this (Nat.le_of_eq hl)
 refine (gJ (w.heap.size+1) A n c B xs t3 _ J4.rd (H.out.grown J4.grown hB (fun _ e=>nomatch e)) hnc ho hn hs4).mono ?_;rintro e w5 ⟨rfl,h1,g1⟩;rw[hp4] at h1⊢;have I5:=J4.next h1 g1;clear h1 g1 J4;have z0:=I5.rcd.free 5;have k0:=I5.rcd.cell 5;go_wp2_with fail;have J5:RdInv w 293 A n c _ t4 (rcC (wrap64 (seq+x0)) thread x1 x2 x3 x4 (.slice none 0 0) (.slice none 0 0)):=I5.put 5 (.int .i64 x4);clear z0 k0 I5;have hsz5:w.heap.size+1+1 < w5.heap.size:=by have:=J5.rcd.lt;simpa using this
 obtain⟨l5,t5,KQ⟩:∃x t,dw xs t4=(x,t):=⟨_,_,rfl⟩;have hs6:t5.at_≤n:=by have:=O9 (b:=xs) (s:=t4) (by omega);rw[KQ] at this;exact Nat.le_trans this (Nat.le_of_eq hl)
 refine (BN (w.heap.size+1) A n c B xs t4 _ J5.rd (H.out.grown J5.grown hB (fun _ e=>nomatch e)) (by omega) hnc ho hn hs5 w.heap.size (by simp;omega)).mono ?_;rintro e w6 ⟨vd,rfl,hod,h1,g1,aae⟩;rw[KQ] at h1 hod;obtain⟨Ad,cd,hvd,_,_,_,_⟩:=aj hod;have I6:=J5.next h1 g1;clear h1 g1 J5
 have aaf:vd.ownBlock≠some (w.heap.size+1)∧vd.ownBlock≠some (w.heap.size+1+1):=by
  rcases aae with h0 | ⟨b0,h1,h2⟩
  · rw[h0];exact⟨fun h=>(nomatch h),fun h=>(nomatch h)⟩
  · have h2':w5.heap.size≤b0:=by simpa using h2
    rw[h1];exact⟨fun h=>(by injection h with h;omega),fun h=>(by injection h with h;omega)⟩
 have hne0:vd.ownBlock≠some w.heap.size:=by
  rcases aae with h0 | ⟨b0,h1,h2⟩
  · rw[h0];exact fun h=>(nomatch h)
  · have h2':w5.heap.size≤b0:=by simpa using h2
    rw[h1];exact fun h=>(by injection h with h;omega)
 have ajo:=ae hne0;have adR:=ny hod (ah w6 (w.heap.size+1+1) 6 vd) aaf.2;have J6:RdInv w 293 A n c _ t5 (rcC (wrap64 (seq+x0)) thread x1 x2 x3 x4 vd (.slice none 0 0)):=I6.put 6 vd;have HOD:=ae adR;have adS:=ae aaf;clear hod aae aaf adR hne0;subst hvd;have z0:=I6.rcd.free 6;have k0:=I6.rcd.cell 6;go_wp2_with fail;clear z0 k0;have aoI:w.heap.size+1+1 < w6.heap.size:=I6.rcd.lt;clear I6;obtain⟨l6,t6,hp6⟩:∃x t,dw xs t5=(x,t):=⟨_,_,rfl⟩;refine (BN (w.heap.size+1) A n c B xs t5 _ J6.rd (H.out.grown J6.grown hB (fun _ e=>nomatch e)) (by omega) hnc ho hn hs6 w.heap.size (by simp;omega)).mono ?_;rintro e w7 ⟨vf,rfl,hof,h1,g1,adT⟩;rw[hp6] at h1 hof;obtain⟨Af,cf,WQ,_,_,_,_⟩:=aj hof;have I7:=J6.next h1 g1;have adU:=ny HOD.out g1 adS.out.1;clear h1 g1 J6
 have aag:vf.ownBlock≠some w.heap.size∧vf.ownBlock≠some (w.heap.size+1+1):=by
  rcases adT with h0 | ⟨b0,h1,h2⟩
  · rw[h0];exact⟨fun h=>(nomatch h),fun h=>(nomatch h)⟩
  · have h2':w6.heap.size≤b0:=by simpa using h2
    rw[h1];exact⟨fun h=>(by injection h with h;omega),fun h=>(by injection h with h;omega)⟩
 have HOF:=ae (ny hof (ah w7 (w.heap.size+1+1) 7 vf) aag.2);have adV:=ae (ny adU (ah w7 (w.heap.size+1+1) 7 vf) adS.out.2);have J7:RdInv w 293 A n c _ t6 (rcC (wrap64 (seq+x0)) thread x1 x2 x3 x4 (.slice Ad l5.length cd) vf):=I7.put 7 vf;have ajq:=ae aag.1;clear hof adU adT aag;subst WQ;have z0:=I7.rcd.free 7;have k0:=I7.rcd.cell 7;have e1:w7.cell? ⟨w.heap.size+1,1,none⟩=some (.int .i64 (t6.at_:Int)):=I7.rd.cell 1;have e2:w7.cell? ⟨w.heap.size+1,2,none⟩=some (.int .i64 t6.err):=I7.rd.cell 2;obtain⟨W8,Tm⟩:∃W8,W8=w7.setCell ⟨w.heap.size+1+1,7,none⟩ (.slice Af l6.length cf):=⟨_,rfl⟩;have J8:=J7;rw[←Tm] at J8;have aah:=HOF.out;have aai:=adV.out;rw[←Tm] at aah aai;have HX:=ae (And.intro aah aai);have HJ8:=ae J8;have HW8:=ae Tm;have c0:W8.cell? ⟨w.heap.size+1+1,0,none⟩=some (.int .i64 (wrap64 (seq+x0))):=J8.rcd.cell 0;have c1:W8.cell? ⟨w.heap.size+1+1,1,none⟩=some (.int .i64 thread):=J8.rcd.cell 1;have c2:W8.cell? ⟨w.heap.size+1+1,2,none⟩=some (.int .i64 x1):=J8.rcd.cell 2;have c3:W8.cell? ⟨w.heap.size+1+1,3,none⟩=some (.int .i64 x2):=J8.rcd.cell 3;have c4:W8.cell? ⟨w.heap.size+1+1,4,none⟩=some (.int .i64 x3):=J8.rcd.cell 4;have c5:W8.cell? ⟨w.heap.size+1+1,5,none⟩=some (.int .i64 x4):=J8.rcd.cell 5;have c6:W8.cell? ⟨w.heap.size+1+1,6,none⟩=some (.slice Ad l5.length cd):=J8.rcd.cell 6;have c7:W8.cell? ⟨w.heap.size+1+1,7,none⟩=some (.slice Af l6.length cf):=J8.rcd.cell 7;have e1':W8.cell? ⟨w.heap.size+1,1,none⟩=some (.int .i64 (t6.at_:Int)):=J8.rd.cell 1;have e2':W8.cell? ⟨w.heap.size+1,2,none⟩=some (.int .i64 t6.err):=J8.rd.cell 2;have q0:W8.cell? ⟨w.heap.size,0,none⟩=some (.int .i64 0):=J8.res.cell 0;have q1:W8.cell? ⟨w.heap.size,1,none⟩=some (.int .i64 0):=J8.res.cell 1;have q2:W8.cell? ⟨w.heap.size,2,none⟩=some (.int .i64 0):=J8.res.cell 2;have q3:W8.cell? ⟨w.heap.size,3,none⟩=some (.int .i64 0):=J8.res.cell 3;have q4:W8.cell? ⟨w.heap.size,4,none⟩=some (.int .i64 0):=J8.res.cell 4;have q5:W8.cell? ⟨w.heap.size,5,none⟩=some (.int .i64 0):=J8.res.cell 5;have q6:W8.cell? ⟨w.heap.size,6,none⟩=some (.slice none 0 0):=J8.res.cell 6;have q7:W8.cell? ⟨w.heap.size,7,none⟩=some (.slice none 0 0):=J8.res.cell 7;have y0:=J8.res.free 0;have y1:=J8.res.free 1;have y2:=J8.res.free 2;have y3:=J8.res.free 3;have y4:=J8.res.free 4;have y5:=J8.res.free 5;have y6:=J8.res.free 6;have y7:=J8.res.free 7;clear J7 J8 HOF adV aah aai;by_cases he:t6.err=0
 · have hb:(t6.err !=0)=false:=by rw[he];rfl
   clear Tm;go_wp2_with fail;rw[show w7.setCell ⟨w.heap.size+1+1,7,none⟩ (.slice Af l6.length cf)=W8 from HW8.out.symm];clear z0 k0 e1 e2;go_region;all_goals (go_wp2_with fail)
   all_goals
    obtain⟨s1,s2,s3⟩:=NP HJ8.out.res HJ8.out.grown (Nat.le_refl _) (.int .i64 (wrap64 (seq+x0))) (.int .i64 thread) (.int .i64 x1) (.int .i64 x2) (.int .i64 x3) (.int .i64 x4) (.slice Ad l5.length cd) (.slice Af l6.length cf);obtain⟨W9,iQ⟩:∃W9,W9=((((((((W8.setCell ⟨w.heap.size,0,none⟩ (.int .i64 (wrap64 (seq+x0)))).setCell ⟨w.heap.size,1,none⟩ (.int .i64 thread)).setCell ⟨w.heap.size,2,none⟩ (.int .i64 x1)).setCell ⟨w.heap.size,3,none⟩ (.int .i64 x2)).setCell ⟨w.heap.size,4,none⟩ (.int .i64 x3)).setCell ⟨w.heap.size,5,none⟩ (.int .i64 x4)).setCell ⟨w.heap.size,6,none⟩ (.slice Ad l5.length cd)).setCell ⟨w.heap.size,7,none⟩ (.slice Af l6.length cf)).drew:=⟨_,rfl⟩;rw[show ((((((((W8.setCell ⟨w.heap.size,0,none⟩ (.int .i64 (wrap64 (seq+x0)))).setCell ⟨w.heap.size,1,none⟩ (.int .i64 thread)).setCell ⟨w.heap.size,2,none⟩ (.int .i64 x1)).setCell ⟨w.heap.size,3,none⟩ (.int .i64 x2)).setCell ⟨w.heap.size,4,none⟩ (.int .i64 x3)).setCell ⟨w.heap.size,5,none⟩ (.int .i64 x4)).setCell ⟨w.heap.size,6,none⟩ (.slice Ad l5.length cd)).setCell ⟨w.heap.size,7,none⟩ (.slice Af l6.length cf)).drew=W9 from iQ.symm];have t1:Held W9 w.heap.size 54 #[(.int .i64 (wrap64 (seq+x0))),(.int .i64 thread),(.int .i64 x1),(.int .i64 x2),(.int .i64 x3),(.int .i64 x4),(.slice Ad l5.length cd),(.slice Af l6.length cf)]:=by rw[iQ];exact s1.drew
    have t2:w.grownBy W9 none:=by rw[iQ];exact aN s2
    have t3:W8.grownBy W9 (some w.heap.size):=by rw[iQ];exact aN s3
    clear iQ s1 s2 s3;have d0:W9.cell? ⟨w.heap.size,0,none⟩=some (.int .i64 (wrap64 (seq+x0))):=t1.cell 0;have d1:W9.cell? ⟨w.heap.size,1,none⟩=some (.int .i64 thread):=t1.cell 1;have d2:W9.cell? ⟨w.heap.size,2,none⟩=some (.int .i64 x1):=t1.cell 2;have d3:W9.cell? ⟨w.heap.size,3,none⟩=some (.int .i64 x2):=t1.cell 3;have d4:W9.cell? ⟨w.heap.size,4,none⟩=some (.int .i64 x3):=t1.cell 4;have d5:W9.cell? ⟨w.heap.size,5,none⟩=some (.int .i64 x4):=t1.cell 5;have d6:W9.cell? ⟨w.heap.size,6,none⟩=some (.slice Ad l5.length cd):=t1.cell 6;have d7:W9.cell? ⟨w.heap.size,7,none⟩=some (.slice Af l6.length cf):=t1.cell 7;have ajr:=ny HX.out.1 t3 ajq.out;have ajs:=ny HX.out.2 t3 ajo.out
    have hg:dI xs thread seq=(⟨wrap64 (seq+x0),⟨thread,x1,x2,x3,x4,l5,l6⟩⟩,t6.at_,0):=by
     unfold dI lZ;simp only[hp0,hp1,hp2,hp3,hp4,KQ,hp6];rw[if_pos he]
    refine bodyPost_ret (v:= .tuple #[.agg #[.int .i64 (wrap64 (seq+x0)),.int .i64 thread,.int .i64 x1,.int .i64 x2,.int .i64 x3,.int .i64 x4,.slice Ad l5.length cd,.slice Af l6.length cf],.int .i64 (t6.at_:Int),.int .i64 0]) (by simp[results,Tryz.results154,go_sem,d0,d1,d2,d3,d4,d5,d6,d7]) rfl ⟨_,.slice Ad l5.length cd,.slice Af l6.length cf,rfl,?_,?_,?_,t2⟩
    · rw[hg]
    · rw[hg];exact ajs
    · rw[hg];exact ajr
 · have hb:(t6.err !=0)=true:=by rw[bne_iff_ne];exact he
   clear Tm;go_wp2_with fail;rw[show w7.setCell ⟨w.heap.size+1+1,7,none⟩ (.slice Af l6.length cf)=W8 from HW8.out.symm];clear z0 k0 e1 e2;go_region;all_goals (go_wp2_with fail)
   all_goals
    obtain⟨s1,s2,s3⟩:=NP HJ8.out.res HJ8.out.grown (Nat.le_refl _) (.int .i64 0) (.int .i64 0) (.int .i64 0) (.int .i64 0) (.int .i64 0) (.int .i64 0) (.slice none 0 0) (.slice none 0 0);obtain⟨W9,iQ⟩:∃W9,W9=((((((((W8.setCell ⟨w.heap.size,0,none⟩ (.int .i64 0)).setCell ⟨w.heap.size,1,none⟩ (.int .i64 0)).setCell ⟨w.heap.size,2,none⟩ (.int .i64 0)).setCell ⟨w.heap.size,3,none⟩ (.int .i64 0)).setCell ⟨w.heap.size,4,none⟩ (.int .i64 0)).setCell ⟨w.heap.size,5,none⟩ (.int .i64 0)).setCell ⟨w.heap.size,6,none⟩ (.slice none 0 0)).setCell ⟨w.heap.size,7,none⟩ (.slice none 0 0)).drew:=⟨_,rfl⟩;rw[show ((((((((W8.setCell ⟨w.heap.size,0,none⟩ (.int .i64 0)).setCell ⟨w.heap.size,1,none⟩ (.int .i64 0)).setCell ⟨w.heap.size,2,none⟩ (.int .i64 0)).setCell ⟨w.heap.size,3,none⟩ (.int .i64 0)).setCell ⟨w.heap.size,4,none⟩ (.int .i64 0)).setCell ⟨w.heap.size,5,none⟩ (.int .i64 0)).setCell ⟨w.heap.size,6,none⟩ (.slice none 0 0)).setCell ⟨w.heap.size,7,none⟩ (.slice none 0 0)).drew=W9 from iQ.symm];have t1:Held W9 w.heap.size 54 #[(.int .i64 0),(.int .i64 0),(.int .i64 0),(.int .i64 0),(.int .i64 0),(.int .i64 0),(.slice none 0 0),(.slice none 0 0)]:=by rw[iQ];exact s1.drew
    have t2:w.grownBy W9 none:=by rw[iQ];exact aN s2
    have t3:W8.grownBy W9 (some w.heap.size):=by rw[iQ];exact aN s3
    clear iQ s1 s2 s3;have d0:W9.cell? ⟨w.heap.size,0,none⟩=some (.int .i64 0):=t1.cell 0;have d1:W9.cell? ⟨w.heap.size,1,none⟩=some (.int .i64 0):=t1.cell 1;have d2:W9.cell? ⟨w.heap.size,2,none⟩=some (.int .i64 0):=t1.cell 2;have d3:W9.cell? ⟨w.heap.size,3,none⟩=some (.int .i64 0):=t1.cell 3;have d4:W9.cell? ⟨w.heap.size,4,none⟩=some (.int .i64 0):=t1.cell 4;have d5:W9.cell? ⟨w.heap.size,5,none⟩=some (.int .i64 0):=t1.cell 5;have d6:W9.cell? ⟨w.heap.size,6,none⟩=some (.slice none 0 0):=t1.cell 6;have d7:W9.cell? ⟨w.heap.size,7,none⟩=some (.slice none 0 0):=t1.cell 7
    have hg:dI xs thread seq=(NG,0,t6.err):=by
     unfold dI lZ;simp only[hp0,hp1,hp2,hp3,hp4,KQ,hp6];rw[if_neg he]
    refine bodyPost_ret (v:= .tuple #[.agg #[.int .i64 0,.int .i64 0,.int .i64 0,.int .i64 0,.int .i64 0,.int .i64 0,.slice none 0 0,.slice none 0 0],.int .i64 0,.int .i64 t6.err]) (by simp[results,Tryz.results154,go_sem,d0,d1,d2,d3,d4,d5,d6,d7]) rfl ⟨_,.slice none 0 0,.slice none 0 0,rfl,?_,?_,?_,t2⟩
    · rw[hg];rfl
    · rw[hg];exact World.ownsRow_nil _ _ _ _
    · rw[hg];exact World.ownsRow_nil _ _ _ _
