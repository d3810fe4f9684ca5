/- Words. -/
import Derived.Test.YtfbkkgfkhhibfaaGreatEnc
import Derived.Test.YtfbkkgfkhhibfaaGreatRrec
import Derived.Laws.Strings
import Derived.Laws.Cover2
set_option linter.unusedVariables false
set_option maxRecDepth 100000
set_option maxHeartbeats 8000000
namespace Go.Proofs.YtfbkkgfkhhibfaaGreat
open Go Go.RowKit Iv
def UX (w:World)(d:Blk×Nat×Int)(e:Ending)(w':World):Prop:=
 ∃(A:Option Addr) (n c:Nat),e= .returned (.tuple #[.agg #[.int .i64 d.1.thread,.int .i64 d.1.first,.slice A n c],.int .i64 (d.2.1:Int),.int .i64 d.2.2])∧
  RecsNew w' w.heap.size A n d.1.recs∧w.grownBy w' none∧n≤c∧c≤maxLen∧(A=none→c=0)
theorem dm {w w':World}{d:Blk×Nat×Int}{er:Int}(hd:d=(aS,0,er))(hg:w.grownBy w' none):UX w d (.returned (.tuple #[.agg #[.int .i64 0,.int .i64 0,.slice none 0 0],.int .i64 0,.int .i64 er])) w':=by
 subst hd;exact⟨none,0,0,rfl,RecsNew.nil _ _ _,hg,Nat.le_refl _,Nat.zero_le _,fun _=>rfl⟩
theorem fG {w W:World}{g:Nat}{T:TypeId}{c0 c1 c2:Value}(h:Held W g T #[c0,c1,c2])(hg:w.grownBy W none)(hl:w.heap.size≤g)(u0 u1 u2:Value):
 Held (((W.setCell ⟨g,0,none⟩ u0).setCell ⟨g,1,none⟩ u1).setCell ⟨g,2,none⟩ u2) g T #[u0,u1,u2]∧w.grownBy (((W.setCell ⟨g,0,none⟩ u0).setCell ⟨g,1,none⟩ u1).setCell ⟨g,2,none⟩ u2) none∧W.grownBy (((W.setCell ⟨g,0,none⟩ u0).setCell ⟨g,1,none⟩ u1).setCell ⟨g,2,none⟩ u2) (some g):=by
 have h1:Held (W.setCell ⟨g,0,none⟩ u0) g T #[u0,c1,c2]:=h.store 0 u0;have h2:Held ((W.setCell ⟨g,0,none⟩ u0).setCell ⟨g,1,none⟩ u1) g T #[u0,u1,c2]:=h1.store 1 u1;have h3:Held (((W.setCell ⟨g,0,none⟩ u0).setCell ⟨g,1,none⟩ u1).setCell ⟨g,2,none⟩ u2) g T #[u0,u1,u2]:=h2.store 2 u2;have g3:=ax (ax (ah W g 0 u0) (ah _ g 1 u1)) (ah _ g 2 u2);exact⟨h3,af hg g3 (.inr ⟨g,rfl,hl⟩),g3⟩
def hs (b:Bytes):Nat→Rd
 | 0=>⟨2,0⟩
 | k+1=>(rdNum b (hs b k)).2
def hn (b:Bytes)(k:Nat):Int:=(rdNum b (hs b k)).1
theorem ET (b:Bytes):aG b=⟨(hn b 0,hs b 1),(hn b 1,hs b 2),(hn b 2,hs b 3),(hn b 3,hs b 4)⟩:=rfl
theorem abC {b:Bytes}{k:Nat}(h:(hs b k).err≠0)(j:Nat):hs b (k+j)=hs b k:=by
 induction j with
 | zero=>rfl
 |
  succ j ih=>
  show (rdNum b (hs b (k+j))).2=hs b k;rw[ih,mf h]
theorem Iz {b:Bytes}{x t:UInt8}{u:Bytes}(hb:b=x :: t :: u)(hx:x.toNat=84)(he:(hs b 4).err≠0):Iv.decode b=(aS,0,(hs b 4).err):=by
 subst hb;unfold Iv.decode gy;rw[ET];simp only[hx,ne_eq,not_true_eq_false,if_false];rw[if_pos he]
theorem IA {b:Bytes}{x t:UInt8}{u:Bytes}(hb:b=x :: t :: u)(hx:x.toNat=84)(he:(hs b 4).err=0):Iv.decode b=
 if iK t (aG b) then (aS,0,11)
 else if b.length < (hs b 4).at_+(hn b 3).toNat+4 then (aS,0,9)
 else if (b.drop ((hs b 4).at_+(hn b 3).toNat)).take 4≠qF (wS (b.take ((hs b 4).at_+(hn b 3).toNat))) then (aS,0,10)
 else nI b t (hn b 0) (hn b 1).toNat (hn b 2) (hs b 4).at_ ((hs b 4).at_+(hn b 3).toNat):=by
 subst hb;unfold Iv.decode gy;simp only[hx,ne_eq,not_true_eq_false,if_false];rw[if_neg (by rw[ET];simpa using he)];rfl
theorem af0 (b:Bytes)(h2:2≤b.length)(k:Nat):(hs b k).at_≤b.length:=by
 induction k with
 | zero=>exact h2
 | succ k ih=>exact (gI ih).1
theorem IB (a:Addr)(c:Nat)(w:World):(Instr.arrayAt 203 (.slice (some a) 4 c)).run Tryz.prog w= .ok (.pointer (some a)) w:=by kernel_rfl
theorem XO (a b c d a' b' c' d':Int)(w:World):(Op.equalIn 10000 203 (.agg #[.int .u8 a,.int .u8 b,.int .u8 c,.int .u8 d]) (.agg #[.int .u8 a',.int .u8 b',.int .u8 c',.int .u8 d'])).run Tryz.prog w= .ok (decide (a=a'∧b=b'∧c=c'∧d=d')) w:=by
 have u3:=Tryz.underlying5;have a3:=Tryz.isAgg5;have z3:=Tryz.sizeOf5;rw[show (10000:Nat)=9999+1 from rfl,Op.equalIn];simp only[Sem.run_bind,run_underlying Tryz.underlying203,Result.andThen_ok];simp only[Std.Legacy.Range.forIn_eq_forIn_range',Std.Legacy.Range.size,Nat.sub_zero,Nat.add_sub_cancel,Nat.div_one,List.range'_succ,List.range'_zero,List.forIn_cons,List.forIn_nil];go_simp;by_cases h1:a=a' <;> by_cases h2:b=b' <;> by_cases h3:c=c' <;> by_cases h4:d=d' <;> simp[h1,h2,h3,h4]
theorem Cm (z0 z1 z2 z3 s0 s1 s2 s3:UInt8)(w:World):(Op.equalIn 10000 203 (.agg #[.int .u8 (z0.toNat:Int),.int .u8 (z1.toNat:Int),.int .u8 (z2.toNat:Int),.int .u8 (z3.toNat:Int)]) (.agg #[.int .u8 (s0.toNat:Int),.int .u8 (s1.toNat:Int),.int .u8 (s2.toNat:Int),.int .u8 (s3.toNat:Int)])).run Tryz.prog w= .ok (decide ([z0,z1,z2,z3]= [s0,s1,s2,s3])) w:=by
 rw[XO];congr 1;rw[decide_eq_decide];simp only[List.cons.injEq,and_true];have e:∀a b:UInt8,((a.toNat:Int)=(b.toNat:Int)) ↔ a=b:=fun a b=>⟨fun h=>Nz (by omega),fun h=>by rw[h]⟩
 rw[e,e,e,e]
def kU (b:Bytes)(t:UInt8)(n:Nat)(size:Int)(from_ end_:Nat):Option (List Rec):=
 if (unpack ((b.take end_).drop from_) size).2=0∧((unpack ((b.take end_).drop from_) size).1.length:Int)=size then iI t.toNat n (unpack ((b.take end_).drop from_) size).1 else none
theorem yU {b:Bytes}{t:UInt8}{first:Int}{n:Nat}{size:Int}{from_ end_:Nat}(h:kU b t n size from_ end_=none):nI b t first n size from_ end_=(aS,0,11):=by
 unfold nI;unfold kU at h;dsimp only;split
 · rename_i hc
   rw[if_pos hc] at h;unfold iI iH at h;split at h
   · cases h
   · rename_i hx
     split
     · rename_i l he
       exact absurd he (hx l)
     · rfl
 · rfl
theorem yV {b:Bytes}{t:UInt8}{first:Int}{n:Nat}{size:Int}{from_ end_:Nat}{l:List Rec}(h:kU b t n size from_ end_=some l):
 nI b t first n size from_ end_=(if encode ⟨t.toNat,first,l⟩=(b.take (end_+4),0) then (⟨t.toNat,first,l⟩,end_+4,0) else (aS,0,11))∧l.length=n∧∀r∈l,RecOk r:=by
 unfold kU at h;split at h
 · rename_i hc
   unfold iI iH at h;split at h
   · rename_i l' he
     simp only[List.nil_append,Option.some.injEq] at h;subst h;have ho:=DD (t.toNat:Int) ⟨by omega,by have:=jf t;omega⟩ n (-1) _ _ _ he;refine⟨?_,ho.1,fun r hr=>(ho.2.2 r hr).1⟩;unfold nI;dsimp only;rw[if_pos hc,he]
   · cases h
 · cases h
theorem XP {r:Rec}(h:RecOk r):RecNums r:=⟨h.seq,h.thread,h.kind,h.obj,h.value,h.site,h.deps,h.from_⟩
theorem UY (w:World)(a:Addr)(n c B:Nat)(xs:Bytes)(h:Lies w B 1 (some a) n (xs.map bv))(hn:0 < n):(convert 22 9 (.slice (some a) n c)).run Tryz.prog w= .ok (.string ⟨xs.toArray⟩) w:=by
 have hl:=h.lenB;subst hl
 exact run_convert_bytes_back (P:=Tryz.prog) w 22 9 5 a c xs Tryz.underlying22 Tryz.underlying5 Tryz.underlying9 (fun j hj=>by
  obtain⟨ad,e,_,hc⟩:=h.2 hn;injection e with e;subst e;exact hc j _ (by simp[List.getElem?_eq_getElem hj,bv]))
theorem Qm (a a':Addr)(n n' c c' B B':Nat)(xs ys:Bytes)(w:World)(h:Lies w B 1 (some a) n (xs.map bv))(h':Lies w B' 1 (some a') n' (ys.map bv))(hn:0 < n)(hn':0 < n'):
 Calls Tryz.prog 119 #[.slice (some a) n c,.slice (some a') n' c'] w fun e w'=>e= .returned (.bool (decide (xs=ys)))∧w=w':=by
 have k1:=UY w a n c B xs h hn;have k2:=UY w a' n' c' B' ys h' hn';have e1:(⟨xs.toArray⟩:ByteArray).toList=xs:=by rw[ByteArray.toList_eq]
 have e2:(⟨ys.toArray⟩:ByteArray).toList=ys:=by rw[ByteArray.toList_eq]
 have E1:=ae e1;have E2:=ae e2;obtain⟨s1,hs1⟩:∃s:ByteArray,s=⟨xs.toArray⟩:=⟨_,rfl⟩;obtain⟨s2,hs2⟩:∃s:ByteArray,s=⟨ys.toArray⟩:=⟨_,rfl⟩;rw[←hs1] at k1 E1;rw[←hs2] at k2 E2;clear hs1 hs2 e1 e2 h h';go_enter Tryz.func119,Tryz.ntmps119;go_wp2_with fail;go_ret;refine⟨dB ?_,rfl⟩;rw[E1.out,E2.out];by_cases hx:xs=ys
 · rw[decide_eq_true hx,beq_iff_eq];exact hx
 · rw[decide_eq_false hx,beq_eq_false_iff_ne];exact hx
def eX (n l g:Int):Bool:=decide (l≤n) && decide (n≤g)
theorem jD (n l g:Int)(w:World):Calls Tryz.prog 117 #[.int .i64 n,.int .i64 l,.int .i64 g] w fun e w'=>e= .returned (.bool (eX n l g))∧w=w':=by
 by_cases h1:l≤n
 · by_cases h2:n≤g
   · have HF:Hid (eX n l g=true):=ae (by unfold eX;simp[h1,h2]);go_enter Tryz.func117,Tryz.ntmps117;go_wp2_with fail;go_ret;exact⟨dB HF.out.symm,rfl⟩
   · have HF:Hid (eX n l g=false):=ae (by unfold eX;simp[h1,h2]);go_enter Tryz.func117,Tryz.ntmps117;go_wp2_with fail;go_ret;exact⟨dB HF.out.symm,rfl⟩
 · have HF:Hid (eX n l g=false):=ae (by unfold eX;simp[h1]);go_enter Tryz.func117,Tryz.ntmps117;go_wp2_with fail;go_ret;exact⟨dB HF.out.symm,rfl⟩
theorem Ih (A:Option Addr)(n c B:Nat)(xs:Bytes)(w:World)(h:Lies w B 1 A n (xs.map bv))(hB:B≤w.heap.size)(hnc:n≤c)(hcm:c≤maxLen)(ho:A=none→c=0)(Zl:n≤1000000):
 Calls Tryz.prog 86 #[.slice A n c] w (UX w (Iv.decode xs)):=by
 have HL:=ae h.lenB;have HO:=ae ho;unfold maxLen at hcm;obtain⟨W,hW⟩:∃W,W=w.alloc (.cells #[.int .i64 0,.int .i64 0,.slice none 0 0] 50):=⟨_,rfl⟩;have iW:w.grownBy W none:=by rw[hW];exact World.grownBy_alloc w _ none
 have hb0:Held W w.heap.size 50 #[.int .i64 0,.int .i64 0,.slice none 0 0]:=by rw[hW];exact Held.new _ _ _
 have HW:=ae hW;have HB0:=ae hb0;have EC:=ae iW;have hLW:=h.grown iW hB (fun _ e=>nomatch e);have wO:=ae (Nat.le_trans hB iW.size);have v0:=hb0.cell 0;have v1:=hb0.cell 1;have v2:=hb0.cell 2;have y0:=hb0.free 0;have y1:=hb0.free 1;have y2:=hb0.free 2;clear hW hb0 iW h;by_cases h0:n=0
 · have hb0:((n:Int)==0)=true:=by rw[beq_iff_eq];omega
   have HF:Hid (Iv.decode xs=(aS,0,9)):=by
    have:xs= []:=List.eq_nil_of_length_eq_zero (by rw[HL.out];exact h0);rw[this];exact ae rfl
   clear h0 ho;go_enter Tryz.func86,Tryz.ntmps86;go_upto_region 1 with fail;rw[show w.alloc (.cells #[.int .i64 0,.int .i64 0,.slice none 0 0] 50)=W from HW.out.symm];go_wp2_with fail;obtain⟨s1,s2,_⟩:=fG HB0.out EC.out (Nat.le_refl _) (.int .i64 0) (.int .i64 0) (.slice none 0 0);obtain⟨W9,iQ⟩:∃W9,W9=((W.setCell ⟨w.heap.size,0,none⟩ (.int .i64 0)).setCell ⟨w.heap.size,1,none⟩ (.int .i64 0)).setCell ⟨w.heap.size,2,none⟩ (.slice none 0 0):=⟨_,rfl⟩;rw[←iQ] at s1 s2;rw[show ((W.setCell ⟨w.heap.size,0,none⟩ (.int .i64 0)).setCell ⟨w.heap.size,1,none⟩ (.int .i64 0)).setCell ⟨w.heap.size,2,none⟩ (.slice none 0 0)=W9 from iQ.symm];have d0:W9.cell? ⟨w.heap.size,0,none⟩=some (.int .i64 0):=s1.cell 0;have d1:W9.cell? ⟨w.heap.size,1,none⟩=some (.int .i64 0):=s1.cell 1;have d2:W9.cell? ⟨w.heap.size,2,none⟩=some (.slice none 0 0):=s1.cell 2;exact bodyPost_ret (v:= .tuple #[.agg #[.int .i64 0,.int .i64 0,.slice none 0 0],.int .i64 0,.int .i64 9]) (by simp[results,Tryz.results86,go_sem,d0,d1,d2]) rfl (dm HF.out s2)
 · have hb0:((n:Int)==0)=false:=by rw[beq_eq_false_iff_ne];omega
   have VF:0 < n:=by omega
   obtain⟨ad,x0,hA,_,hx0,hc0⟩:=hLW.byte (k:=0) (by omega);subst hA;rw[show ad.add 0=ad from by simp[Addr.add]] at hc0;by_cases h84:x0.toNat=84
   · have hne:((x0.toNat:Int) !=84)=false:=by rw[bne_eq_false_iff_eq];omega
     by_cases h2:n < 2
     · have HF:Hid (Iv.decode xs=(aS,0,9)):=by
        have hl:=HL.out
        match xs,hx0,hl with
        |
         [a],hx0,_=>
         simp only[List.getElem?_cons_zero,Option.some.injEq] at hx0;subst hx0;exact ae (by unfold Iv.decode gy;simp[h84])
        | _ :: _ :: _,_,hl=>exfalso;simp only[List.length_cons] at hl;omega
        | [],hx0,_=>simp at hx0
       clear h0 ho h84 hx0;go_enter Tryz.func86,Tryz.ntmps86;go_upto_region 1 with fail;rw[show w.alloc (.cells #[.int .i64 0,.int .i64 0,.slice none 0 0] 50)=W from HW.out.symm];go_wp2_with fail;obtain⟨s1,s2,_⟩:=fG HB0.out EC.out (Nat.le_refl _) (.int .i64 0) (.int .i64 0) (.slice none 0 0);obtain⟨W9,iQ⟩:∃W9,W9=((W.setCell ⟨w.heap.size,0,none⟩ (.int .i64 0)).setCell ⟨w.heap.size,1,none⟩ (.int .i64 0)).setCell ⟨w.heap.size,2,none⟩ (.slice none 0 0):=⟨_,rfl⟩;rw[←iQ] at s1 s2;rw[show ((W.setCell ⟨w.heap.size,0,none⟩ (.int .i64 0)).setCell ⟨w.heap.size,1,none⟩ (.int .i64 0)).setCell ⟨w.heap.size,2,none⟩ (.slice none 0 0)=W9 from iQ.symm];have d0:W9.cell? ⟨w.heap.size,0,none⟩=some (.int .i64 0):=s1.cell 0;have d1:W9.cell? ⟨w.heap.size,1,none⟩=some (.int .i64 0):=s1.cell 1;have d2:W9.cell? ⟨w.heap.size,2,none⟩=some (.slice none 0 0):=s1.cell 2;exact bodyPost_ret (v:= .tuple #[.agg #[.int .i64 0,.int .i64 0,.slice none 0 0],.int .i64 0,.int .i64 9]) (by simp[results,Tryz.results86,go_sem,d0,d1,d2]) rfl (dm HF.out s2)
     · obtain⟨ad',t1,hA',_,hx1,hc1⟩:=hLW.byte (k:=1) (by omega);simp only[Option.some.injEq] at hA';subst hA'
       have hxs:∃u,xs=x0 :: t1 :: u:=by
        match xs,hx0,hx1 with
        |
         a :: b :: u,hx0,hx1=>
         simp only[List.getElem?_cons_zero,List.getElem?_cons_succ,Option.some.injEq] at hx0 hx1;subst hx0 hx1;exact⟨u,rfl⟩
        | [a],_,hx1=>simp at hx1
        | [],hx0,_=>simp at hx0
       obtain⟨u,hxs⟩:=hxs;have DH:=ae (fun he=>Iz (b:=xs) hxs h84 he);have DR:=ae (fun he=>IA (b:=xs) hxs h84 he);have HAT:=ae (fun k=>af0 xs (by rw[HL.out];omega) k);have hn2:2≤n:=by omega
       have HN2:=ae hn2;have HLW:=ae hLW;have HC1:=ae hc1;clear hxs h84 hx0 hx1 h0 h2 ho hLW hc1;go_enter Tryz.func86,Tryz.ntmps86;go_upto_region 1 with fail;rw[show w.alloc (.cells #[.int .i64 0,.int .i64 0,.slice none 0 0] 50)=W from HW.out.symm];go_upto_region 8 with fail;clear hc0;obtain⟨W1,hW1⟩:∃W1,W1=W.alloc (.cells #[.int .i64 0,.int .i64 0,.int .i64 0,.int .i64 0] 250):=⟨_,rfl⟩;have hg1:W.grownBy W1 none:=by rw[hW1];exact World.grownBy_alloc W _ none
       have hb1:Held W1 W.heap.size 250 #[.int .i64 0,.int .i64 0,.int .i64 0,.int .i64 0]:=by rw[hW1];exact Held.new _ _ _
       rw[show W.alloc (.cells #[.int .i64 0,.int .i64 0,.int .i64 0,.int .i64 0] 250)=W1 from hW1.symm];have nZ:=ae hg1;have HB1:=ae hb1;have Jy:=ae HB0.out.lt;clear hW1 hg1 hb1 v0 v1 v2 y0 y1 y2;go_wp2_with fail;go_loopw [6,33] (fun sv iv wr=>∃(k:Nat) (cs:Array Value),iv= .int .i64 (k:Int)∧k≤4∧sv= .int .i64 ((hs xs k).at_:Int)∧(hs xs k).err=0∧Held wr W.heap.size 250 cs∧cs.size=4∧(∀j,j < k→cs[j]?=some (.int .i64 (hn xs j)))∧W1.grownBy wr (some W.heap.size)) (fun _ iv _=>4 - (intOf iv).toNat)
       case atStart=>exact ⟨0,_,rfl,by omega,rfl,rfl,HB1.out,rfl,fun j hj=>by omega,World.grownBy.refl W1 _⟩
       case round=>
        obtain⟨k,cs,rfl,hk,rfl,herr,hcs,hcz,hcj,hg⟩:=hrel;have HCJ:=ae hcj;have HCS:=ae hcs;have HCZ:=ae hcz;have af2:=ae herr;have hgW:W.grownBy wr none:=af nZ.out hg (.inr ⟨_,rfl,Nat.le_refl _⟩);have QO:=ae (af EC.out hgW (.inl rfl));have af4:=ae hgW;have HG:=ae hg;have Qn:=ae (HB0.out.grown hgW (fun e=>nomatch e));have ha:=HAT.out k;rw[HL.out] at ha;obtain⟨a,hae⟩:∃a,a=(hs xs k).at_:=⟨_,rfl⟩;rw[←hae] at ha⊢;have HAE:=ae hae;clear hcj hcs hcz herr hg hgW hae;by_cases hlt:k < 4
        · obtain⟨m,kk,er,hgi⟩:∃m kk er,lY (xs.drop a)=(m,kk,er):=⟨_,_,_,rfl⟩;have hcut:=(HLW.out.grown af4.out wO.out (fun _ e=>nomatch e)).dropIf (k:=a) ha hnc;rw[Nat.mul_one,←List.map_drop] at hcut
          have hsn:(rdNum xs (hs xs k))=if er=0 then (m,⟨a+kk,0⟩) else (0,⟨a,er⟩):=by
           unfold rdNum;rw[if_pos af2.out,←HAE.out,hgi]
          have HSN:=ae hsn;obtain⟨A',hA'⟩:∃A',(if c=a then some ad else some (ad.add a))=A':=⟨_,rfl⟩;rw[Option.map_some,hA'] at hcut;have CI:=ae (yA A' (n - a) (c - a) (xs.drop a) wr B hcut (by omega) hgi);have i1:(0:Int)≤(a:Int):=by omega
          have i2:(a:Int)≤(n:Int):=by omega
          have i3:(a:Int)≤(c:Int):=by omega
          clear hcut hsn;by_cases her:er=0
          · subst her;have hon:=pU hgi;have hkk:a+kk≤n:=by have:=hon.2.2.2.1;rw[List.length_drop,HL.out] at this;omega
            obtain⟨v,hv⟩:∃v,cs[k]?=some v:=⟨_,Array.getElem?_eq_getElem (by rw[HCZ.out];exact hlt)⟩;have z0:wr.cell? ⟨W.heap.size,k,none⟩=some v:=by rw[HCS.out.cell k];exact hv
            have z1:=HCS.out.free k;have Y9:=ae (show hs xs (k+1)=⟨a+kk,0⟩ from by show (rdNum xs (hs xs k)).2=_;rw[HSN.out,if_pos rfl]);have Yz:=ae (show hn xs k=m from by show (rdNum xs (hs xs k)).1=_;rw[HSN.out,if_pos rfl]);clear hgi hon hv;go_wp2_with fail;refine CI.out.mono ?_;rintro e w2 ⟨rfl,rfl⟩;go_wp2_with fail;go_roundw
            case rel=>
             refine⟨k+1,cs.setIfInBounds k (.int .i64 m),by go_num,by omega,by rw[Y9.out];go_num,by rw[Y9.out],HCS.out.store k _,by rw[Array.size_setIfInBounds,HCZ.out],fun j hj=>?_,ax HG.out (ah wr _ k _)⟩;by_cases hjk:j=k
             · subst hjk;rw[Array.getElem?_setIfInBounds_self_of_lt (by rw[HCZ.out];exact hlt),Yz.out]
             · rw[Array.getElem?_setIfInBounds_ne (fun e=>hjk e.symm)];exact HCJ.out j (by omega)
            case measure=>simp [intOf];omega
          · have hbe:(er !=0)=true:=by rw[bne_iff_ne];exact her
            have Y9:Hid (hs xs (k+1)=⟨a,er⟩):=ae (by show (rdNum xs (hs xs k)).2=_;rw[HSN.out,if_neg her])
            have HF:Hid (Iv.decode xs=(aS,0,er)):=by
             have h4:hs xs 4=⟨a,er⟩:=by
              have:=abC (b:=xs) (k:=k+1) (by rw[Y9.out];exact her) (3 - k);rw[show k+1+(3 - k)=4 from by omega,Y9.out] at this;exact this
             have:=DH.out (by rw[h4];exact her);rw[h4] at this;exact ae this
            clear hgi her;have y0:=Qn.out.free 0;have y1:=Qn.out.free 1;have y2:=Qn.out.free 2;have v0:=Qn.out.cell 0;have v1:=Qn.out.cell 1;have v2:=Qn.out.cell 2;go_wp2_with fail;refine CI.out.mono ?_;rintro e w2 ⟨rfl,rfl⟩;go_wp2_with fail;obtain⟨s1,s2,_⟩:=fG Qn.out QO.out (Nat.le_refl _) (.int .i64 0) (.int .i64 0) (.slice none 0 0);obtain⟨W9,iQ⟩:∃W9,W9=((wr.setCell ⟨w.heap.size,0,none⟩ (.int .i64 0)).setCell ⟨w.heap.size,1,none⟩ (.int .i64 0)).setCell ⟨w.heap.size,2,none⟩ (.slice none 0 0):=⟨_,rfl⟩;rw[←iQ] at s1 s2;rw[show ((wr.setCell ⟨w.heap.size,0,none⟩ (.int .i64 0)).setCell ⟨w.heap.size,1,none⟩ (.int .i64 0)).setCell ⟨w.heap.size,2,none⟩ (.slice none 0 0)=W9 from iQ.symm];have d0:W9.cell? ⟨w.heap.size,0,none⟩=some (.int .i64 0):=s1.cell 0;have d1:W9.cell? ⟨w.heap.size,1,none⟩=some (.int .i64 0):=s1.cell 1;have d2:W9.cell? ⟨w.heap.size,2,none⟩=some (.slice none 0 0):=s1.cell 2;exact bodyPost_ret (v:= .tuple #[.agg #[.int .i64 0,.int .i64 0,.slice none 0 0],.int .i64 0,.int .i64 er]) (by simp[results,Tryz.results86,go_sem,d0,d1,d2]) rfl (dm HF.out s2)
        · have hk4:k=4:=by omega
          subst hk4;have HDR:=ae (DR.out af2.out);obtain⟨f0,hf0⟩:∃f,f=hn xs 0:=⟨_,rfl⟩;obtain⟨f1,hf1⟩:∃f,f=hn xs 1:=⟨_,rfl⟩;obtain⟨f2,hf2⟩:∃f,f=hn xs 2:=⟨_,rfl⟩;obtain⟨f3,hf3⟩:∃f,f=hn xs 3:=⟨_,rfl⟩;have q0:wr.cell? ⟨W.heap.size,0,none⟩=some (.int .i64 f0):=by rw[HCS.out.cell 0,hf0];exact HCJ.out 0 (by omega)
          have q1:wr.cell? ⟨W.heap.size,1,none⟩=some (.int .i64 f1):=by rw[HCS.out.cell 1,hf1];exact HCJ.out 1 (by omega)
          have q2:wr.cell? ⟨W.heap.size,2,none⟩=some (.int .i64 f2):=by rw[HCS.out.cell 2,hf2];exact HCJ.out 2 (by omega)
          have q3:wr.cell? ⟨W.heap.size,3,none⟩=some (.int .i64 f3):=by rw[HCS.out.cell 3,hf3];exact HCJ.out 3 (by omega)
          have hbad:iK t1 (aG xs)=true ↔ 4≤t1.toNat∨eX f0 0 400=false∨eX f1 1 64=false∨eX f2 0 1048576=false∨eX f3 0 1048576=false:=by
           rw[ET];unfold iK eX;simp only[←hf0,←hf1,←hf2,←hf3,Bool.or_eq_true,decide_eq_true_eq,Bool.and_eq_false_iff,decide_eq_false_iff_not];omega
          have HBAD:=ae hbad;rw[←HAE.out,←hf0,←hf1,←hf2,←hf3] at HDR;have HFN:=ae (And.intro hf0 (And.intro hf1 (And.intro hf2 hf3)));clear hbad hf0 hf1 hf2 hf3;go_wp2_with fail;go_quiet (fail);obtain⟨wq,hwq⟩:∃wq,wq=wr.drewN nq:=⟨_,rfl⟩;rw[show wr.drewN nq=wq from hwq.symm];have Qo:Hid (Held wq w.heap.size 50 #[.int .i64 0,.int .i64 0,.slice none 0 0]):=by rw[hwq];exact ae (Qn.out.drewN nq)
          have L9:Hid (w.grownBy wq none):=by rw[hwq];exact ae (aH QO.out nq)
          have Ob:Hid (W.grownBy wq none):=by rw[hwq];exact ae (aH af4.out nq)
          have ct:wq.cell? (ad.add 1)=some (.int .u8 (t1.toNat:Int)):=World.grownBy.cell Ob.out HC1.out (by simp)
          have ct':wq.cell? ⟨ad.block,ad.off+1,none⟩=some (.int .u8 (t1.toNat:Int)):=by
           have:=ct;simpa [Addr.add] using this
          have y0:=Qo.out.free 0;have y1:=Qo.out.free 1;have y2:=Qo.out.free 2;have v0:=Qo.out.cell 0;have v1:=Qo.out.cell 1;have v2:=Qo.out.cell 2;have hn1:1 < n:=HN2.out;clear q0 q1 q2 q3 hwq ct;by_cases g0:(4:Int)≤(t1.toNat:Int)
          · have HF:Hid (Iv.decode xs=(aS,0,11)):=ae (by rw[HDR.out,if_pos (HBAD.out.2 (.inl (by omega)))]);go_wp2_with (go_at_call 117;refine (jD _ _ _ _).mono ?_;rintro e w2 ⟨rfl,rfl⟩);obtain⟨s1,s2,_⟩:=fG Qo.out L9.out (Nat.le_refl _) (.int .i64 0) (.int .i64 0) (.slice none 0 0);obtain⟨W9,iQ⟩:∃W9,W9=((wq.setCell ⟨w.heap.size,0,none⟩ (.int .i64 0)).setCell ⟨w.heap.size,1,none⟩ (.int .i64 0)).setCell ⟨w.heap.size,2,none⟩ (.slice none 0 0):=⟨_,rfl⟩;rw[←iQ] at s1 s2;rw[show ((wq.setCell ⟨w.heap.size,0,none⟩ (.int .i64 0)).setCell ⟨w.heap.size,1,none⟩ (.int .i64 0)).setCell ⟨w.heap.size,2,none⟩ (.slice none 0 0)=W9 from iQ.symm];have d0:W9.cell? ⟨w.heap.size,0,none⟩=some (.int .i64 0):=s1.cell 0;have d1:W9.cell? ⟨w.heap.size,1,none⟩=some (.int .i64 0):=s1.cell 1;have d2:W9.cell? ⟨w.heap.size,2,none⟩=some (.slice none 0 0):=s1.cell 2;exact bodyPost_ret (v:= .tuple #[.agg #[.int .i64 0,.int .i64 0,.slice none 0 0],.int .i64 0,.int .i64 11]) (by simp[results,Tryz.results86,go_sem,d0,d1,d2]) rfl (dm HF.out s2)
          · cases hw0:eX f0 0 400 with
            |
             false=>
             have HF:Hid (Iv.decode xs=(aS,0,11)):=ae (by rw[HDR.out,if_pos (HBAD.out.2 (.inr (.inl hw0)))]);go_wp2_with (go_at_call 117;refine (jD _ _ _ _).mono ?_;rintro e w2 ⟨rfl,rfl⟩);obtain⟨s1,s2,_⟩:=fG Qo.out L9.out (Nat.le_refl _) (.int .i64 0) (.int .i64 0) (.slice none 0 0);obtain⟨W9,iQ⟩:∃W9,W9=((wq.setCell ⟨w.heap.size,0,none⟩ (.int .i64 0)).setCell ⟨w.heap.size,1,none⟩ (.int .i64 0)).setCell ⟨w.heap.size,2,none⟩ (.slice none 0 0):=⟨_,rfl⟩;rw[←iQ] at s1 s2;rw[show ((wq.setCell ⟨w.heap.size,0,none⟩ (.int .i64 0)).setCell ⟨w.heap.size,1,none⟩ (.int .i64 0)).setCell ⟨w.heap.size,2,none⟩ (.slice none 0 0)=W9 from iQ.symm];have d0:W9.cell? ⟨w.heap.size,0,none⟩=some (.int .i64 0):=s1.cell 0;have d1:W9.cell? ⟨w.heap.size,1,none⟩=some (.int .i64 0):=s1.cell 1;have d2:W9.cell? ⟨w.heap.size,2,none⟩=some (.slice none 0 0):=s1.cell 2;exact bodyPost_ret (v:= .tuple #[.agg #[.int .i64 0,.int .i64 0,.slice none 0 0],.int .i64 0,.int .i64 11]) (by simp[results,Tryz.results86,go_sem,d0,d1,d2]) rfl (dm HF.out s2)
            |
             true=>
             cases hw1:eX f1 1 64 with
             |
              false=>
              have HF:Hid (Iv.decode xs=(aS,0,11)):=ae (by rw[HDR.out,if_pos (HBAD.out.2 (.inr (.inr (.inl hw1))))]);go_wp2_with (go_at_call 117;refine (jD _ _ _ _).mono ?_;rintro e w2 ⟨rfl,rfl⟩);obtain⟨s1,s2,_⟩:=fG Qo.out L9.out (Nat.le_refl _) (.int .i64 0) (.int .i64 0) (.slice none 0 0);obtain⟨W9,iQ⟩:∃W9,W9=((wq.setCell ⟨w.heap.size,0,none⟩ (.int .i64 0)).setCell ⟨w.heap.size,1,none⟩ (.int .i64 0)).setCell ⟨w.heap.size,2,none⟩ (.slice none 0 0):=⟨_,rfl⟩;rw[←iQ] at s1 s2;rw[show ((wq.setCell ⟨w.heap.size,0,none⟩ (.int .i64 0)).setCell ⟨w.heap.size,1,none⟩ (.int .i64 0)).setCell ⟨w.heap.size,2,none⟩ (.slice none 0 0)=W9 from iQ.symm];have d0:W9.cell? ⟨w.heap.size,0,none⟩=some (.int .i64 0):=s1.cell 0;have d1:W9.cell? ⟨w.heap.size,1,none⟩=some (.int .i64 0):=s1.cell 1;have d2:W9.cell? ⟨w.heap.size,2,none⟩=some (.slice none 0 0):=s1.cell 2;exact bodyPost_ret (v:= .tuple #[.agg #[.int .i64 0,.int .i64 0,.slice none 0 0],.int .i64 0,.int .i64 11]) (by simp[results,Tryz.results86,go_sem,d0,d1,d2]) rfl (dm HF.out s2)
             |
              true=>
              cases hw2:eX f2 0 1048576 with
              |
               false=>
               have HF:Hid (Iv.decode xs=(aS,0,11)):=ae (by rw[HDR.out,if_pos (HBAD.out.2 (.inr (.inr (.inr (.inl hw2)))))]);go_wp2_with (go_at_call 117;refine (jD _ _ _ _).mono ?_;rintro e w2 ⟨rfl,rfl⟩);obtain⟨s1,s2,_⟩:=fG Qo.out L9.out (Nat.le_refl _) (.int .i64 0) (.int .i64 0) (.slice none 0 0);obtain⟨W9,iQ⟩:∃W9,W9=((wq.setCell ⟨w.heap.size,0,none⟩ (.int .i64 0)).setCell ⟨w.heap.size,1,none⟩ (.int .i64 0)).setCell ⟨w.heap.size,2,none⟩ (.slice none 0 0):=⟨_,rfl⟩;rw[←iQ] at s1 s2;rw[show ((wq.setCell ⟨w.heap.size,0,none⟩ (.int .i64 0)).setCell ⟨w.heap.size,1,none⟩ (.int .i64 0)).setCell ⟨w.heap.size,2,none⟩ (.slice none 0 0)=W9 from iQ.symm];have d0:W9.cell? ⟨w.heap.size,0,none⟩=some (.int .i64 0):=s1.cell 0;have d1:W9.cell? ⟨w.heap.size,1,none⟩=some (.int .i64 0):=s1.cell 1;have d2:W9.cell? ⟨w.heap.size,2,none⟩=some (.slice none 0 0):=s1.cell 2;exact bodyPost_ret (v:= .tuple #[.agg #[.int .i64 0,.int .i64 0,.slice none 0 0],.int .i64 0,.int .i64 11]) (by simp[results,Tryz.results86,go_sem,d0,d1,d2]) rfl (dm HF.out s2)
              |
               true=>
               cases hw3:eX f3 0 1048576 with
               |
                false=>
                have HF:Hid (Iv.decode xs=(aS,0,11)):=ae (by rw[HDR.out,if_pos (HBAD.out.2 (.inr (.inr (.inr (.inr hw3)))))]);go_wp2_with (go_at_call 117;refine (jD _ _ _ _).mono ?_;rintro e w2 ⟨rfl,rfl⟩);obtain⟨s1,s2,_⟩:=fG Qo.out L9.out (Nat.le_refl _) (.int .i64 0) (.int .i64 0) (.slice none 0 0);obtain⟨W9,iQ⟩:∃W9,W9=((wq.setCell ⟨w.heap.size,0,none⟩ (.int .i64 0)).setCell ⟨w.heap.size,1,none⟩ (.int .i64 0)).setCell ⟨w.heap.size,2,none⟩ (.slice none 0 0):=⟨_,rfl⟩;rw[←iQ] at s1 s2;rw[show ((wq.setCell ⟨w.heap.size,0,none⟩ (.int .i64 0)).setCell ⟨w.heap.size,1,none⟩ (.int .i64 0)).setCell ⟨w.heap.size,2,none⟩ (.slice none 0 0)=W9 from iQ.symm];have d0:W9.cell? ⟨w.heap.size,0,none⟩=some (.int .i64 0):=s1.cell 0;have d1:W9.cell? ⟨w.heap.size,1,none⟩=some (.int .i64 0):=s1.cell 1;have d2:W9.cell? ⟨w.heap.size,2,none⟩=some (.slice none 0 0):=s1.cell 2;exact bodyPost_ret (v:= .tuple #[.agg #[.int .i64 0,.int .i64 0,.slice none 0 0],.int .i64 0,.int .i64 11]) (by simp[results,Tryz.results86,go_sem,d0,d1,d2]) rfl (dm HF.out s2)
               |
                true=>
                go_upto_region 21 with (go_at_call 117;refine (jD _ _ _ _).mono ?_;rintro e w2 ⟨rfl,rfl⟩)
                have bw:0≤f0∧f0≤400∧1≤f1∧f1≤64∧0≤f2∧f2≤1048576∧0≤f3∧f3≤1048576:=by
                 unfold eX at hw0 hw1 hw2 hw3;simp only[Bool.and_eq_true,decide_eq_true_eq] at hw0 hw1 hw2 hw3;omega
                have QQ:Hid (iK t1 (aG xs)=false):=by
                 have:¬iK t1 (aG xs)=true:=by
                  rw[HBAD.out,hw0,hw1,hw2,hw3];simp;omega
                 exact ae (by simpa using this)
                rw[QQ.out] at HDR;simp only[Bool.false_eq_true,if_false] at HDR;clear hw0 hw1 hw2 hw3;obtain⟨b0,b1,b2,b3,b4,b5,b6,b7⟩:=bw;obtain⟨N,rfl⟩:∃N:Nat,f1=(N:Int):=⟨f1.toNat,by omega⟩;obtain⟨P,rfl⟩:∃P:Nat,f3=(P:Int):=⟨f3.toNat,by omega⟩;rw[Int.toNat_natCast,Int.toNat_natCast] at HDR;by_cases hE:n < a+P+4
                · have HF:Hid (Iv.decode xs=(aS,0,9)):=ae (by rw[HDR.out,if_pos (by rw[HL.out];exact hE)]);go_wp2_with fail;obtain⟨s1,s2,_⟩:=fG Qo.out L9.out (Nat.le_refl _) (.int .i64 0) (.int .i64 0) (.slice none 0 0);obtain⟨W9,iQ⟩:∃W9,W9=((wq.setCell ⟨w.heap.size,0,none⟩ (.int .i64 0)).setCell ⟨w.heap.size,1,none⟩ (.int .i64 0)).setCell ⟨w.heap.size,2,none⟩ (.slice none 0 0):=⟨_,rfl⟩;rw[←iQ] at s1 s2;rw[show ((wq.setCell ⟨w.heap.size,0,none⟩ (.int .i64 0)).setCell ⟨w.heap.size,1,none⟩ (.int .i64 0)).setCell ⟨w.heap.size,2,none⟩ (.slice none 0 0)=W9 from iQ.symm];have d0:W9.cell? ⟨w.heap.size,0,none⟩=some (.int .i64 0):=s1.cell 0;have d1:W9.cell? ⟨w.heap.size,1,none⟩=some (.int .i64 0):=s1.cell 1;have d2:W9.cell? ⟨w.heap.size,2,none⟩=some (.slice none 0 0):=s1.cell 2;exact bodyPost_ret (v:= .tuple #[.agg #[.int .i64 0,.int .i64 0,.slice none 0 0],.int .i64 0,.int .i64 9]) (by simp[results,Tryz.results86,go_sem,d0,d1,d2]) rfl (dm HF.out s2)
                · rw[if_neg (by rw[HL.out];exact hE)] at HDR;obtain⟨E,hEd⟩:∃E,E=a+P:=⟨_,rfl⟩;have hEE:(a:Int)+(P:Int)=(E:Int):=by omega
                  have aE:a≤E:=by omega
                  have En:E+4≤n:=by omega
                  rw[←hEd] at HDR;have HED:=ae hEd;have hnE:¬(n:Int) < (E:Int)+4:=by omega
                  clear hE hEd;go_upto_region 24 with fail;have LQ:=HLW.out.grown Ob.out wO.out (fun _ e=>nomatch e)
                  have hzs:∃z0 z1 z2 z3:UInt8,(xs.drop E).take 4= [z0,z1,z2,z3]∧wq.cell? (ad.add E)=some (.int .u8 (z0.toNat:Int))∧wq.cell? ⟨(ad.add E).block,(ad.add E).off+1,none⟩=some (.int .u8 (z1.toNat:Int))∧
                   wq.cell? ⟨(ad.add E).block,(ad.add E).off+2,none⟩=some (.int .u8 (z2.toNat:Int))∧wq.cell? ⟨(ad.add E).block,(ad.add E).off+3,none⟩=some (.int .u8 (z3.toNat:Int)):=by
                   obtain⟨a0,z0,e0,_,x0,c0⟩:=LQ.byte (k:=E) (by omega);obtain⟨a1,z1,e1,_,x1,c1⟩:=LQ.byte (k:=E+1) (by omega);obtain⟨a2,z2,e2,_,x2,c2⟩:=LQ.byte (k:=E+2) (by omega);obtain⟨a3,z3,e3,_,x3,c3⟩:=LQ.byte (k:=E+3) (by omega);simp only[Option.some.injEq] at e0 e1 e2 e3;subst e0 e1 e2 e3;rw[←UZ] at c1 c2 c3;refine⟨z0,z1,z2,z3,?_,c0,by simpa [Addr.add] using c1,by simpa [Addr.add] using c2,by simpa [Addr.add] using c3⟩;rw[drop_cons x0,drop_cons x1,drop_cons x2,drop_cons x3];rfl
                  obtain⟨z0,z1,z2,z3,hz4,e0,e1,e2,e3⟩:=hzs;obtain⟨s0,s1,s2,s3,hs4⟩:=qH (wS (xs.take E))
                  have hcut:Lies wq B 1 (some ad) E ((xs.take E).map bv):=by
                   have:=LQ.take (m:=E) (by omega);rwa [Nat.mul_one,←List.map_take] at this
                  have Sv:=ae (sF (some ad) E c B (xs.take E) wq.drew hcut.drew (Nat.le_trans wO.out Ob.out.size) (by omega));rw[hs4] at Sv;simp only[List.map_cons,List.map_nil,bv] at Sv;obtain⟨E4,hE4⟩:∃E4,E4=E+4:=⟨_,rfl⟩;have w4:IntKind.i64.wrap ((E:Int)+4)=(E4:Int):=by rw[IntWalk.i64_in _ (by omega)];omega
                  have l4:E4 - E=4:=by omega
                  have l5:¬c=E:=by omega
                  have l6:(0:Int)≤(E:Int):=by omega
                  have l7:(E:Int)≤(E4:Int):=by omega
                  have l8:(E4:Int)≤(c:Int):=by omega
                  have l9:(E:Int)≤(c:Int):=by omega
                  have l10:(0:Int)≤(E4:Int):=by omega
                  have har:=fun w=>IB (ad.add E) (c - E) w
                  have HE4:=ae hE4;have HZ4:=ae hz4;have HS4:=ae hs4;clear hE4 hz4 hs4 hcut;have HB3:=ae (fun (w3:World) (hg3:wq.grownBy w3 none)=>Qo.out.grown hg3 (fun e=>nomatch e));go_cut [108] (fun v wx=>v= .bool (!decide ([z0,z1,z2,z3]= [s0,s1,s2,s3]))∧wq.grownBy wx none)
                  case first=>
                   by_cases hsum: [z0,z1,z2,z3]= [s0,s1,s2,s3]
                   · have heq:∀w,(Op.equalIn 10000 203 (.agg #[.int .u8 (z0.toNat:Int),.int .u8 (z1.toNat:Int),.int .u8 (z2.toNat:Int),.int .u8 (z3.toNat:Int)]) (.agg #[.int .u8 (s0.toNat:Int),.int .u8 (s1.toNat:Int),.int .u8 (s2.toNat:Int),.int .u8 (s3.toNat:Int)])).run Tryz.prog w= .ok true w:=fun w=>by rw[Cm,decide_eq_true hsum]
                     have abE:=ae hsum;clear hsum
                     go_region_held3 (fun w'=>w'.cell? (ad.add E)=some (.int .u8 (z0.toNat:Int))∧w'.cell? ⟨(ad.add E).block,(ad.add E).off+1,none⟩=some (.int .u8 (z1.toNat:Int))∧w'.cell? ⟨(ad.add E).block,(ad.add E).off+2,none⟩=some (.int .u8 (z2.toNat:Int))∧w'.cell? ⟨(ad.add E).block,(ad.add E).off+3,none⟩=some (.int .u8 (z3.toNat:Int)))
                      (first | go_keep | (refine⟨?_,?_,?_,?_⟩ <;> exact World.grownBy.cell (w:=wq) (by assumption) (by assumption) (by simp)) | fail)
                      (first | (go_at_call 82;((with_reducible refine Sv.out.mono ?_);rintro e w3 ⟨rfl,hg3⟩;replace hg3:=jr hg3)) | fail)
                     all_goals
                      go_wp2_with fail;go_meet;exact⟨by rw[decide_eq_true abE.out];rfl,hg3⟩
                   · have heq:∀w,(Op.equalIn 10000 203 (.agg #[.int .u8 (z0.toNat:Int),.int .u8 (z1.toNat:Int),.int .u8 (z2.toNat:Int),.int .u8 (z3.toNat:Int)]) (.agg #[.int .u8 (s0.toNat:Int),.int .u8 (s1.toNat:Int),.int .u8 (s2.toNat:Int),.int .u8 (s3.toNat:Int)])).run Tryz.prog w= .ok false w:=fun w=>by rw[Cm,decide_eq_false hsum]
                     have abE:=ae hsum;clear hsum
                     go_region_held3 (fun w'=>w'.cell? (ad.add E)=some (.int .u8 (z0.toNat:Int))∧w'.cell? ⟨(ad.add E).block,(ad.add E).off+1,none⟩=some (.int .u8 (z1.toNat:Int))∧w'.cell? ⟨(ad.add E).block,(ad.add E).off+2,none⟩=some (.int .u8 (z2.toNat:Int))∧w'.cell? ⟨(ad.add E).block,(ad.add E).off+3,none⟩=some (.int .u8 (z3.toNat:Int)))
                      (first | go_keep | (refine⟨?_,?_,?_,?_⟩ <;> exact World.grownBy.cell (w:=wq) (by assumption) (by assumption) (by simp)) | fail)
                      (first | (go_at_call 82;((with_reducible refine Sv.out.mono ?_);rintro e w3 ⟨rfl,hg3⟩;replace hg3:=jr hg3)) | fail)
                     all_goals
                      go_wp2_with fail;go_meet;exact⟨by rw[decide_eq_false abE.out];rfl,hg3⟩
                  case rest=>
                   obtain⟨rfl,hgc⟩:=hcut;have hBc:=HB3.out wc hgc;have hGc:=af L9.out hgc (.inl rfl);have HBc:=ae hBc;have HGc:=ae hGc;have XQ:=ae (af Ob.out hgc (.inl rfl));have af5:=World.grownBy.cell hgc ct' (by simp);clear v0 v1 v2 y0 y1 y2 e0 e1 e2 e3 LQ w4 l4 l7 l8 l10 har ct';by_cases hsum: [z0,z1,z2,z3]= [s0,s1,s2,s3]
                   · have U0:=HZ4.out;rw[hsum,←HS4.out] at U0;rw[if_neg (by rw[U0];simp)] at HDR;rw[decide_eq_true hsum];clear hsum U0;have haE:¬c=a:=by omega
                     have cai:(0:Int)≤(a:Int):=by omega
                     have cae:(a:Int)≤(E:Int):=by omega
                     obtain⟨tv,htv⟩:∃tv:Int,tv=(t1.toNat:Int):=⟨_,rfl⟩;have htb:=jf t1;have tv0:0≤tv:=by omega
                     have tv4:tv < 4:=by omega
                     rw[←htv] at af5;have HTV:=ae htv;clear htv;obtain⟨Oc,XR⟩:∃Oc,Oc=wc.alloc (.cells #[.int .i64 tv,.int .i64 f0,.slice none 0 0] 50):=⟨_,rfl⟩;have XT:wc.grownBy Oc none:=by rw[XR];exact World.grownBy_alloc wc _ none
                     have hb16:Held Oc wc.heap.size 50 #[.int .i64 tv,.int .i64 f0,.slice none 0 0]:=by rw[XR];exact Held.new _ _ _
                     have alF:=ae XR;have af6:=ae hb16;have x0c:Oc.cell? ⟨wc.heap.size,0,none⟩=some (.int .i64 tv):=hb16.cell 0;have af7:B≤Oc.heap.size:=Nat.le_trans wO.out (Nat.le_trans XQ.out.size XT.size)
                     have Zf:Lies Oc B 1 (some (ad.add a)) (E - a) (((xs.take E).drop a).map bv):=by
                      have h1:=(HLW.out.grown (af XQ.out XT (.inl rfl)) wO.out (fun _ e=>nomatch e)).take (m:=E) (by omega);have h2:=h1.drop (k:=a) (by omega);rw[Nat.mul_one,Nat.mul_one,←List.map_take,←List.map_drop] at h2;exact h2
                     have CRR:=ae (vV (some (ad.add a)) (E - a) (c - a) B ((xs.take E).drop a) f2 N tv Oc.drew Zf.drew af7 (by omega) (by omega) (by omega) ⟨by omega,by omega⟩);have abG:=ae XT;clear XR hb16 XT Zf;go_upto_region 28 with fail;rw[show wc.alloc (.cells #[.int .i64 tv,.int .i64 f0,.slice none 0 0] 50)=Oc from alF.out.symm]
                     go_region_held3 (fun w'=>w'.cell? ⟨wc.heap.size,0,none⟩=some (.int .i64 tv))
                      (first | go_keep | exact (Uf.out.cell 0) | exact ((Uf.out.store 2 _).cell 0) | fail)
                      (first | (go_at_call 118;((with_reducible refine CRR.out.mono ?_);rintro e w5 ⟨A5,n5,c5,rs,ok,rfl,hR5,hg5,hn5,hm5,Zy,hres⟩;replace hg5:=jr hg5;have Uf:=ae (af6.out.grown hg5 (fun e=>nomatch e));have u2:=Uf.out.cell 2;have uf:=Uf.out.free 2)) | fail)
                     have af8:=af6.out.lt;have af9:=HBc.out.lt;have hneg:w.heap.size≠wc.heap.size:=Nat.ne_of_lt af9;have HX6:=ae (Uf.out.store 2 (.slice A5 n5 c5));have HR6:=ae (hR5.keep (ah w5 wc.heap.size 2 (.slice A5 n5 c5)) (fun g e=>by injection e with e;have:wc.heap.size < Oc.heap.size:=af8;show g < Oc.heap.size;omega));have EU:=ae (((HBc.out.grown abG.out (fun e=>nomatch e)).grown hg5 (fun e=>nomatch e)).far (p:=⟨wc.heap.size,2,none⟩) hneg (.slice A5 n5 c5));have alG:=ae (af (af HGc.out abG.out (.inl rfl)) hg5 (.inl rfl));have abH:=ae (af alG.out (ah w5 wc.heap.size 2 (.slice A5 n5 c5)) (.inr ⟨_,rfl,Nat.le_of_lt af9⟩));have agb:=ae (af (af (af XQ.out abG.out (.inl rfl)) hg5 (.inl rfl)) (ah w5 wc.heap.size 2 (.slice A5 n5 c5)) (.inr ⟨_,rfl,XQ.out.size⟩));have O1:=ae (show w.heap.size≤Oc.drew.heap.size from by show w.heap.size≤Oc.heap.size;omega);obtain⟨W6,hW6⟩:∃W6,W6=w5.setCell ⟨wc.heap.size,2,none⟩ (.slice A5 n5 c5):=⟨_,rfl⟩;rw[←hW6] at HX6 HR6 EU abH agb;have HW6:=ae hW6;have zU:=ae hres;clear hW6 hres hR5 u2 uf x0c af5;go_upto_region 29 with fail;rw[show w5.setCell ⟨wc.heap.size,2,none⟩ (.slice A5 n5 c5)=W6 from HW6.out.symm];have y0:=EU.out.free 0;have y1:=EU.out.free 1;have y2:=EU.out.free 2;have v0:=EU.out.cell 0;have v1:=EU.out.cell 1;have v2:=EU.out.cell 2;have HLR:Hid (kU xs t1 N f2 a E=if ok then some rs else none):=ae (by unfold kU;rw[←HTV.out];exact zU.out)
                     cases ok with
                     |
                      false=>
                      have HF:Hid (Iv.decode xs=(aS,0,11)):=ae (by rw[HDR.out,yU HLR.out]);go_wp2_with fail;obtain⟨s1,s2,_⟩:=fG EU.out abH.out (Nat.le_refl _) (.int .i64 0) (.int .i64 0) (.slice none 0 0);obtain⟨W9,iQ⟩:∃W9,W9=((W6.setCell ⟨w.heap.size,0,none⟩ (.int .i64 0)).setCell ⟨w.heap.size,1,none⟩ (.int .i64 0)).setCell ⟨w.heap.size,2,none⟩ (.slice none 0 0):=⟨_,rfl⟩;rw[←iQ] at s1 s2;rw[show ((W6.setCell ⟨w.heap.size,0,none⟩ (.int .i64 0)).setCell ⟨w.heap.size,1,none⟩ (.int .i64 0)).setCell ⟨w.heap.size,2,none⟩ (.slice none 0 0)=W9 from iQ.symm];have d0:W9.cell? ⟨w.heap.size,0,none⟩=some (.int .i64 0):=s1.cell 0;have d1:W9.cell? ⟨w.heap.size,1,none⟩=some (.int .i64 0):=s1.cell 1;have d2:W9.cell? ⟨w.heap.size,2,none⟩=some (.slice none 0 0):=s1.cell 2;exact bodyPost_ret (v:= .tuple #[.agg #[.int .i64 0,.int .i64 0,.slice none 0 0],.int .i64 0,.int .i64 11]) (by simp[results,Tryz.results86,go_sem,d0,d1,d2]) rfl (dm HF.out s2)
                     |
                      true=>
                      obtain⟨ht1,ht2,ht3⟩:=yV (first:=f0) HLR.out;rw[ht1,←HTV.out] at HDR;have hn5:n5=rs.length:=HR6.out.1.symm;have CE:=ae (IC ⟨tv,f0,rs⟩ A5 n5 c5 W6.heap.size W6 HR6.out.recs (Nat.le_refl _) (fun r hr=>XP (ht3 r hr)) (by omega) W6.heap.size (Nat.le_refl _));obtain⟨ys,er,hys⟩:∃ys er,encode ⟨tv,f0,rs⟩=(ys,er):=⟨_,_,rfl⟩;have HYS:=ae hys;rw[hys] at HDR;have HN5:=ae hn5;have x0c:W6.cell? ⟨wc.heap.size,0,none⟩=some (.int .i64 tv):=HX6.out.cell 0;have x1c:W6.cell? ⟨wc.heap.size,1,none⟩=some (.int .i64 f0):=HX6.out.cell 1;have x2c:W6.cell? ⟨wc.heap.size,2,none⟩=some (.slice A5 n5 c5):=HX6.out.cell 2;clear ht1 ht2 ht3 hys hn5 v0 v1 v2 y0 y1 y2;go_wp2_with fail;refine CE.out.mono ?_;rintro e w7 ⟨v7,rfl,oM,Kz⟩;rw[HYS.out] at oM⊢;dsimp only at oM⊢;obtain⟨A7,c7,hv7,hn7,hm7,hl7,ho7⟩:=aj oM;subst hv7;have HL7:=ae hl7;have XU:=EU.out.grown Kz (fun e=>nomatch e);have hG7:=af abH.out Kz (.inl rfl);have y0:=XU.free 0;have y1:=XU.free 1;have y2:=XU.free 2;have v0:=XU.cell 0;have v1:=XU.cell 1;have v2:=XU.cell 2;clear x0c x1c x2c oM hl7;by_cases her:er=0
                      · subst her;have hge:fits ⟨tv,f0,rs⟩=0∧ys=ak ⟨tv,f0,rs⟩:=BA HYS.out;have hyl:0 < ys.length:=by rw[hge.2];unfold ak;rw[List.length_append,jJ];omega
                        obtain⟨a7,hA7⟩:∃a7,A7=some a7:=by obtain⟨a7,e7,_⟩:=HL7.out.2 hyl;exact⟨a7,e7⟩
                        subst hA7
                        have Zg:Lies w7 B 1 (some ad) (E+4) ((xs.take (E+4)).map bv):=by
                         have h1:=(HLW.out.grown (af agb.out Kz (.inl rfl)) wO.out (fun _ e=>nomatch e)).take (m:=E+4) (by omega);rw[Nat.mul_one,←List.map_take] at h1;exact h1
                        have CQ:=ae (Qm a7 ad ys.length (E+4) c7 c _ _ ys (xs.take (E+4)) w7 HL7.out Zg hyl (by omega));have ec:(E:Int)+4≤(c:Int):=by omega
                        clear hge Zg hyl;by_cases hq:ys=xs.take (E+4)
                        · have HD:Hid (Iv.decode xs=(⟨tv,f0,rs⟩,E+4,0)):=ae (by rw[HDR.out,if_pos (by rw[hq])]);rw[decide_eq_true hq] at CQ;have x7:=HX6.out.grown Kz (fun e=>nomatch e);have x0c:w7.cell? ⟨wc.heap.size,0,none⟩=some (.int .i64 tv):=x7.cell 0;have x1c:w7.cell? ⟨wc.heap.size,1,none⟩=some (.int .i64 f0):=x7.cell 1;have x2c:w7.cell? ⟨wc.heap.size,2,none⟩=some (.slice A5 n5 c5):=x7.cell 2;clear hq x7;go_wp2_with (first | (go_at_call 119;refine CQ.out.mono ?_;rintro e w8 ⟨rfl,rfl⟩));obtain⟨s1,s2,s3⟩:=fG XU hG7 (Nat.le_refl _) (.int .i64 tv) (.int .i64 f0) (.slice A5 n5 c5);have hR9:=((HR6.out.keep Kz (fun _ e=>nomatch e)).keep s3 (fun g e=>by injection e with e;show g < Oc.heap.size;omega)).lower O1.out;obtain⟨W9,iQ⟩:∃W9,W9=((w7.setCell ⟨w.heap.size,0,none⟩ (.int .i64 tv)).setCell ⟨w.heap.size,1,none⟩ (.int .i64 f0)).setCell ⟨w.heap.size,2,none⟩ (.slice A5 n5 c5):=⟨_,rfl⟩;rw[←iQ] at s1 s2 hR9;rw[show ((w7.setCell ⟨w.heap.size,0,none⟩ (.int .i64 tv)).setCell ⟨w.heap.size,1,none⟩ (.int .i64 f0)).setCell ⟨w.heap.size,2,none⟩ (.slice A5 n5 c5)=W9 from iQ.symm];have d0:W9.cell? ⟨w.heap.size,0,none⟩=some (.int .i64 tv):=s1.cell 0;have d1:W9.cell? ⟨w.heap.size,1,none⟩=some (.int .i64 f0):=s1.cell 1;have d2:W9.cell? ⟨w.heap.size,2,none⟩=some (.slice A5 n5 c5):=s1.cell 2;clear s3 iQ;refine bodyPost_ret (v:= .tuple #[.agg #[.int .i64 tv,.int .i64 f0,.slice A5 n5 c5],.int .i64 ((E:Int)+4),.int .i64 0]) (by simp[results,Tryz.results86,go_sem,d0,d1,d2]) rfl ?_;rw[HD.out];exact⟨A5,n5,c5,rfl,hR9,s2,hn5,hm5,Zy⟩
                        · have HF:Hid (Iv.decode xs=(aS,0,11)):=ae (by rw[HDR.out,if_neg (fun hh=>hq (Prod.mk.inj hh).1)]);rw[decide_eq_false hq] at CQ;clear hq;go_wp2_with (first | (go_at_call 119;refine CQ.out.mono ?_;rintro e w8 ⟨rfl,rfl⟩));obtain⟨s1,s2,_⟩:=fG XU hG7 (Nat.le_refl _) (.int .i64 0) (.int .i64 0) (.slice none 0 0);obtain⟨W9,iQ⟩:∃W9,W9=((w7.setCell ⟨w.heap.size,0,none⟩ (.int .i64 0)).setCell ⟨w.heap.size,1,none⟩ (.int .i64 0)).setCell ⟨w.heap.size,2,none⟩ (.slice none 0 0):=⟨_,rfl⟩;rw[←iQ] at s1 s2;rw[show ((w7.setCell ⟨w.heap.size,0,none⟩ (.int .i64 0)).setCell ⟨w.heap.size,1,none⟩ (.int .i64 0)).setCell ⟨w.heap.size,2,none⟩ (.slice none 0 0)=W9 from iQ.symm];have d0:W9.cell? ⟨w.heap.size,0,none⟩=some (.int .i64 0):=s1.cell 0;have d1:W9.cell? ⟨w.heap.size,1,none⟩=some (.int .i64 0):=s1.cell 1;have d2:W9.cell? ⟨w.heap.size,2,none⟩=some (.slice none 0 0):=s1.cell 2;exact bodyPost_ret (v:= .tuple #[.agg #[.int .i64 0,.int .i64 0,.slice none 0 0],.int .i64 0,.int .i64 11]) (by simp[results,Tryz.results86,go_sem,d0,d1,d2]) rfl (dm HF.out s2)
                      · have hbe:(er !=0)=true:=by rw[bne_iff_ne];exact her
                        have HF:Hid (Iv.decode xs=(aS,0,11)):=ae (by rw[HDR.out,if_neg (fun hh=>her (Prod.mk.inj hh).2)]);clear her;go_wp2_with fail;obtain⟨s1,s2,_⟩:=fG XU hG7 (Nat.le_refl _) (.int .i64 0) (.int .i64 0) (.slice none 0 0);obtain⟨W9,iQ⟩:∃W9,W9=((w7.setCell ⟨w.heap.size,0,none⟩ (.int .i64 0)).setCell ⟨w.heap.size,1,none⟩ (.int .i64 0)).setCell ⟨w.heap.size,2,none⟩ (.slice none 0 0):=⟨_,rfl⟩;rw[←iQ] at s1 s2;rw[show ((w7.setCell ⟨w.heap.size,0,none⟩ (.int .i64 0)).setCell ⟨w.heap.size,1,none⟩ (.int .i64 0)).setCell ⟨w.heap.size,2,none⟩ (.slice none 0 0)=W9 from iQ.symm];have d0:W9.cell? ⟨w.heap.size,0,none⟩=some (.int .i64 0):=s1.cell 0;have d1:W9.cell? ⟨w.heap.size,1,none⟩=some (.int .i64 0):=s1.cell 1;have d2:W9.cell? ⟨w.heap.size,2,none⟩=some (.slice none 0 0):=s1.cell 2;exact bodyPost_ret (v:= .tuple #[.agg #[.int .i64 0,.int .i64 0,.slice none 0 0],.int .i64 0,.int .i64 11]) (by simp[results,Tryz.results86,go_sem,d0,d1,d2]) rfl (dm HF.out s2)
                   · have HF:Hid (Iv.decode xs=(aS,0,10)):=ae (by rw[HDR.out,if_pos (by rw[HZ4.out,HS4.out];exact hsum)]);rw[decide_eq_false hsum];clear hsum;have y0:=hBc.free 0;have y1:=hBc.free 1;have y2:=hBc.free 2;have v0:=hBc.cell 0;have v1:=hBc.cell 1;have v2:=hBc.cell 2;go_wp2_with fail;obtain⟨s1,s2,_⟩:=fG hBc hGc (Nat.le_refl _) (.int .i64 0) (.int .i64 0) (.slice none 0 0);obtain⟨W9,iQ⟩:∃W9,W9=((wc.setCell ⟨w.heap.size,0,none⟩ (.int .i64 0)).setCell ⟨w.heap.size,1,none⟩ (.int .i64 0)).setCell ⟨w.heap.size,2,none⟩ (.slice none 0 0):=⟨_,rfl⟩;rw[←iQ] at s1 s2;rw[show ((wc.setCell ⟨w.heap.size,0,none⟩ (.int .i64 0)).setCell ⟨w.heap.size,1,none⟩ (.int .i64 0)).setCell ⟨w.heap.size,2,none⟩ (.slice none 0 0)=W9 from iQ.symm];have d0:W9.cell? ⟨w.heap.size,0,none⟩=some (.int .i64 0):=s1.cell 0;have d1:W9.cell? ⟨w.heap.size,1,none⟩=some (.int .i64 0):=s1.cell 1;have d2:W9.cell? ⟨w.heap.size,2,none⟩=some (.slice none 0 0):=s1.cell 2;exact bodyPost_ret (v:= .tuple #[.agg #[.int .i64 0,.int .i64 0,.slice none 0 0],.int .i64 0,.int .i64 10]) (by simp[results,Tryz.results86,go_sem,d0,d1,d2]) rfl (dm HF.out s2)
   · have hne:((x0.toNat:Int) !=84)=true:=by rw[bne_iff_ne];omega
     have HF:Hid (Iv.decode xs=(aS,0,11)):=by
      cases xs with
      | nil=>simp at hx0
      |
       cons a u=>
       simp only[List.getElem?_cons_zero,Option.some.injEq] at hx0;subst hx0;exact ae (by unfold Iv.decode gy;simp[h84])
     clear h0 ho h84 hx0;go_enter Tryz.func86,Tryz.ntmps86;go_upto_region 1 with fail;rw[show w.alloc (.cells #[.int .i64 0,.int .i64 0,.slice none 0 0] 50)=W from HW.out.symm];go_wp2_with fail;obtain⟨s1,s2,_⟩:=fG HB0.out EC.out (Nat.le_refl _) (.int .i64 0) (.int .i64 0) (.slice none 0 0);obtain⟨W9,iQ⟩:∃W9,W9=((W.setCell ⟨w.heap.size,0,none⟩ (.int .i64 0)).setCell ⟨w.heap.size,1,none⟩ (.int .i64 0)).setCell ⟨w.heap.size,2,none⟩ (.slice none 0 0):=⟨_,rfl⟩;rw[←iQ] at s1 s2;rw[show ((W.setCell ⟨w.heap.size,0,none⟩ (.int .i64 0)).setCell ⟨w.heap.size,1,none⟩ (.int .i64 0)).setCell ⟨w.heap.size,2,none⟩ (.slice none 0 0)=W9 from iQ.symm];have d0:W9.cell? ⟨w.heap.size,0,none⟩=some (.int .i64 0):=s1.cell 0;have d1:W9.cell? ⟨w.heap.size,1,none⟩=some (.int .i64 0):=s1.cell 1;have d2:W9.cell? ⟨w.heap.size,2,none⟩=some (.slice none 0 0):=s1.cell 2;exact bodyPost_ret (v:= .tuple #[.agg #[.int .i64 0,.int .i64 0,.slice none 0 0],.int .i64 0,.int .i64 11]) (by simp[results,Tryz.results86,go_sem,d0,d1,d2]) rfl (dm HF.out s2)
