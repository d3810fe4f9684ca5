/- Words. -/
import Derived.Test.YtfbkkgfkhhibfaaGreatFjh
import Derived.Test.YtfbkkgfkhhibfaaGreatRwrR
set_option linter.unusedVariables false
set_option linter.unusedSimpArgs false
namespace AM
open Go Go.Proofs Go.RowKit Mk Iv
def EvA.ev (e:EvA):Ev:=⟨e.thread,e.kind,e.obj,e.value,e.site,e.deps.map fun (n:Nat)=>(n:Int),e.fr.map fun (n:Nat)=>(n:Int)⟩
theorem Zt {n j:Nat}{e:EvA}(h:EvG n j e):EvOk n j e.ev:=by
 have i:∀ {x:Int},i64 x→inI64 x:=fun hx=>by have:=bQ.1 hx;exact⟨this.1,by omega⟩
 have d:∀ {l:List Nat},Asc j l→(((l.map fun (n:Nat)=>(n:Int)).length:Int)≤j∧∀x∈l.map fun (n:Nat)=>(n:Int),0≤x∧x < j):=fun hl=>by
  refine⟨by rw[List.length_map];have:=hl.len;omega,fun x hx=>?_⟩;obtain⟨q,hq,rfl⟩:=List.mem_map.1 hx;have:=hl.2 q hq;omega
 exact⟨h.th.1,h.th.2,h.kd.1,h.kd.2,i h.obj,i h.val,h.site.1,h.site.2,d h.dp,d h.frm⟩
def uJ (w:World)(B:Nat):Psi:=⟨fun b o=>if b < B then w.cell? ⟨b,o,none⟩ else none,fun _=>none⟩
def Rh (w:World)(B:Nat):Fr:=⟨w,fun b=>b < w.heap.size,uJ w B,fun _=>none,0⟩
def vU (Ψ:Psi)(Bd:Nat)(w:World):Prop:=∀b o v,Ψ.fz b o=some v→b < Bd∧w.cell? ⟨b,o,none⟩=some v
theorem Ok.fzIn {fr:Fr}{Ψ:Psi}{loc:Loc}{σ:Sto}{w:World}(h:Ok fr Ψ loc σ w):vU Ψ w.heap.size w:=fun b o v e=>⟨h.fz_lt e,h.fz b o v e⟩
theorem adg (w:World)(B:Nat):Ok (Rh w B) (uJ w B) (fun _=>none) (lQ []) w:=by
 constructor
 · intro b o v h;unfold uJ at h;dsimp only at h;split at h
   · exact h
   · cases h
 · exact fun b cts m h=>nomatch h
 · exact fun l o h=>by simp[lQ] at h
 · exact fun l l' o o' b h=>by simp[lQ] at h
 · exact fun l o b h=>by simp[lQ] at h
 · exact fun b e h=>nomatch h
 · exact fun b h=>⟨h,rfl⟩
 · exact Nat.le_refl _
 · exact⟨rfl,rfl,rfl⟩
 · exact fun b _ q=>rfl
 · exact Psi.le.refl _
 · exact fun l h=>absurd h (Nat.not_lt_zero l)
theorem join {P:Program}{f:FuncId}{args:List AV}{post:AV→List (Option Obj)→Prop}(h:ACall P f args [] post)(w:World)(B:Nat)(vs:Array Value)(hr:Q7 (uJ w B) (fun _=>none) args vs.toList):
 Calls P f vs w fun e w'=>∃r v g Ψ' loc',e= .returned r∧post v g∧RepA Ψ' loc' v r∧Ok (Rh w B) Ψ' loc' (lQ g) w':=
 (h (Rh w B) (uJ w B) (fun _=>none) w vs (adg w B) rfl (fun _ _=>rfl) hr).mono fun e w' ⟨r,v,g,Ψ',loc',h1,h2,_,_,h3,h4,_⟩=>⟨r,v,g,Ψ',loc',h1,h2,h3,h4⟩
theorem Ri {w w':World}{B:Nat}{Ψ:Psi}{loc:Loc}{σ:Sto}(h:Ok (Rh w B) Ψ loc σ w'):w.grownBy w' none:=⟨h.os.1,h.os.2.1,h.os.2.2,h.sz,fun k hk _=>(h.pr k hk).2⟩
theorem Gh {w w' W:World}{B g:Nat}{Ψ:Psi}{loc:Loc}{σ:Sto}(h:Ok (Rh w B) Ψ loc σ w')(hW:w'.grownBy W (some g))(h1:B≤g)(h2:g < w.heap.size):vU Ψ w'.heap.size W:=fun b o v e=>by
 have hlt:=h.fz_lt e
 refine⟨hlt,?_⟩
 have hne:b≠g:=fun e2=>by
  subst e2
  have h3:Ψ.fz b o=(uJ w B).fz b o:=h.pz b h2 o
  rw[e] at h3
  unfold uJ at h3
  dsimp only at h3
  rw[if_neg (by omega)] at h3
  cases h3
 rw[World.cell?_of_block (hW.block b hlt (fun e2=>hne (by simpa using e2)))]
 exact h.fz b o v e
theorem Bg {w:World}{B n c:Nat}{A:Option Addr}{xs:Bytes}(h:Lies w B 1 A n (xs.map bv))(hc:n≤c)(ho:A=none→c=0):Rep (uJ w B) (Yx xs) (.slice A n c):=by
 have hl:=h.1;rw[List.length_map,Nat.mul_one] at hl;subst hl;rcases Nat.eq_zero_or_pos xs.length with h0 | h0
 · have:=List.eq_nil_of_length_eq_zero h0;subst this;exact .nil ho
 · obtain⟨⟨b,o,s⟩,rfl,hb,hcell⟩:=h.2 h0;have hg:∀k (hk:k < xs.length),w.cell? ((⟨b,o,s⟩:Addr).add k)=some (bv xs[k]):=fun k hk=>hcell k _ (by rw[List.getElem?_map,List.getElem?_eq_getElem hk];rfl)
   have hs:s=none:=by
    have:=hg 0 h0;simp only[Addr.add,↓reduceIte,World.cell?] at this
    cases s with
    | none=>rfl
    | some q=>split at this <;> simp at this
   subst hs
   refine .sl (k:=1) (fun i _=>bv (xs.getD i 0)) (by rw[List.length_map]) hc (fun row hr=>by
    obtain⟨x,_,rfl⟩:=List.mem_map.1 hr;rfl) ?_ ?_
   · intro i j p hp;simp only[cellOf,List.getElem?_map,Option.bind_map] at hp
     cases hx:xs[i]? with
     | none=>simp [hx] at hp
     |
      some x=>
      simp only[hx,Option.bind_some,Function.comp] at hp;obtain⟨hi,rfl⟩:=List.getElem?_eq_some_iff.1 hx
      have hj:j=0:=by cases j with
       | zero=>rfl
       | succ j=>simp at hp
      subst hj;have:=hg i hi;show (if b < B then w.cell? ⟨b,o+(i * 1+0),none⟩ else none)=_;rw[if_pos hb];rw[Nat.mul_one,Nat.add_zero,List.getD_eq_getElem?_getD,hx,Option.getD_some,←this];congr 1;unfold Addr.add;split
      · simp_all
      · rfl
   · intro i j p hp;simp only[cellOf,List.getElem?_map,Option.bind_map] at hp
     cases hx:xs[i]? with
     | none=>simp [hx] at hp
     |
      some x=>
      simp only[hx,Option.bind_some,Function.comp] at hp
      cases j with
      |
       zero=>
       simp only[List.getElem?_cons_zero,Option.some.injEq] at hp;subst hp;rw[List.getD_eq_getElem?_getD,hx];exact .sc rfl
      | succ j=>simp at hp
theorem Bh {Ψ:Psi}{Bd:Nat}{w:World}(hok:vU Ψ Bd w){l:List Nat}{v:Value}(h:Rep Ψ (.sl (nL l)) v):∃A c,v= .slice A l.length c∧Lies w Bd 1 A l.length ((l.map fun (n:Nat)=>(n:Int)).map Iv.iv):=by
 generalize he:nL l=els at h
 cases h with
 |
  nil=>
  have:l= []:=List.map_eq_nil_iff.1 he;subst this;exact⟨_,_,rfl,⟨rfl,fun h=>absurd h (Nat.lt_irrefl 0)⟩⟩
 |
  @sl _ b o c n k f hn hnc hk hf hr=>
  subst he;rw[List.length_map] at hn;subst hn;refine⟨_,_,rfl,by simp,fun h0=>?_⟩;have hk1:k=1:=(hk _ (List.mem_map_of_mem (List.getElem_mem h0))).symm;subst hk1
  have hc:∀i (hi:i < l.length),b < Bd∧w.cell? ⟨b,o+i,none⟩=some (Iv.iv (l[i]:Nat)):=fun i hi=>by
   have h1:cellOf (nL l) i 0=some (ag (l[i]:Nat)):=by simp[cellOf,hi,nP]
   obtain⟨h0,h2⟩:=hok _ _ _ (hf i 0 _ h1);rw[Nat.mul_one,Nat.add_zero] at h2;refine⟨h0,?_⟩;rw[h2,(dS (loc:=fun _=>none) (.pv (hr i 0 _ h1))).1];rfl
  refine⟨⟨b,o,none⟩,rfl,(hc 0 h0).1,fun j u hu=>?_⟩;rw[List.getElem?_map,List.getElem?_map] at hu
  cases hx:l[j]? with
  | none=>rw [hx] at hu;simp at hu
  |
   some x=>
   obtain⟨hj,rfl⟩:=List.getElem?_eq_some_iff.1 hx;rw[hx] at hu;simp only[Option.map_some,Option.some.injEq] at hu;subst hu;have:=(hc j hj).2;rw[←this];congr 1;unfold Addr.add;split
   · simp_all
   · rfl
end AM
namespace AM
open Go Go.Proofs Go.RowKit Iv
def pvV:PV→Value
 | .sc v=>v
 | _=>undef
def dD (els:List (List PV)):List Value:=els.flatMap (·.map pvV)
theorem Ja {k:Nat} :∀ {els:List (List PV)},(∀r∈els,r.length=k)→∀ {j:Nat} {u:Value},(dD els)[j]?=some u→∃i q r p,els[i]?=some r∧r[q]?=some p∧j=i * k+q∧u=pvV p
 | [],_,j,u,h=>by simp[dD] at h
 |
  r :: t,hk,j,u,h=>by
  have hr:r.length=k:=hk r (by simp)
  have e:dD (r :: t)=r.map pvV++dD t:=by simp[dD]
  rw[e] at h
  by_cases hj:j < k
  · rw[List.getElem?_append_left (by simpa [hr] using hj),List.getElem?_map] at h
    cases hp:r[j]? with
    | none=>rw [hp] at h;simp at h
    |
     some p=>
     rw[hp] at h
     simp only[Option.map_some,Option.some.injEq] at h
     exact⟨0,j,r,p,by simp,hp,by simp,h.symm⟩
  · rw[List.getElem?_append_right (by simp[hr];omega)] at h
    obtain⟨i,q,r',p,h1,h2,h3,h4⟩:=Ja (fun r hr=>hk r (by simp[hr])) h
    refine⟨i+1,q,r',p,by simpa using h1,h2,?_,h4⟩
    rw[List.length_map,hr] at h3
    rw[Nat.add_mul]
    omega
theorem Jb {k:Nat} :∀ {els:List (List PV)},(∀r∈els,r.length=k)→(dD els).length=els.length * k
 | [],_=>by simp[dD]
 |
  r :: t,hk=>by
  have e:dD (r :: t)=r.map pvV++dD t:=by simp[dD]
  rw[e,List.length_append,List.length_map,hk r (by simp),Jb (fun r hr=>hk r (by simp[hr])),List.length_cons,Nat.add_mul]
  omega
theorem Qx {Ψ:Psi}{Bd:Nat}{w:World}(hok:vU Ψ Bd w){els:List (List PV)}{v:Value}{k:Nat}(hk:∀r∈els,r.length=k)(hk0:0 < k)(hsc:∀r∈els,∀p∈r,∃x,p= .sc x)(h:Rep Ψ (.sl els) v):
 ∃A c,v= .slice A els.length c∧Lies w Bd k A els.length (dD els)∧(0 < els.length→els.length≤c∧∃b o,A=some ⟨b,o,none⟩)∧(A=none→c=0):=by
 cases h with
 | nil hA=>exact ⟨_,_,rfl,⟨by simp[dD],fun h=>absurd h (Nat.lt_irrefl 0)⟩,fun h=>absurd h (Nat.lt_irrefl 0),hA⟩
 |
  @sl _ b o c n k' f hn hnc hk' hf hr=>
  subst hn;refine⟨_,_,rfl,⟨Jb hk,fun h0=>?_⟩,fun _=>⟨hnc,b,o,rfl⟩,fun h=>nomatch h⟩
  have hkk:k'=k:=by
   have h1:=hk' _ (List.getElem_mem h0);rw[hk _ (List.getElem_mem h0)] at h1;exact h1.symm
  subst hkk
  have hc:∀i q r p,els[i]?=some r→r[q]?=some p→b < Bd∧w.cell? ⟨b,o+(i * k'+q),none⟩=some (pvV p):=fun i q r p h1 h2=>by
   have h3:cellOf els i q=some p:=by simp only[cellOf,h1,Option.bind_some];exact h2
   obtain⟨h4,h5⟩:=hok _ _ _ (hf i q _ h3);refine⟨h4,?_⟩;rw[h5];obtain⟨x,rfl⟩:=hsc r (List.mem_of_getElem? h1) p (List.mem_of_getElem? h2);rw[(dS (loc:=fun _=>none) (.pv (hr i q _ h3))).1];rfl
  have hlt:b < Bd:=by
   have hl:(els[0]).length=k':=hk _ (List.getElem_mem h0);exact (hc 0 0 els[0] (els[0])[0] (List.getElem?_eq_getElem h0) (List.getElem?_eq_getElem (by omega))).1
  refine⟨⟨b,o,none⟩,rfl,hlt,fun j u hu=>?_⟩;obtain⟨i,q,r,p,h1,h2,rfl,rfl⟩:=Ja hk hu;have:=(hc i q r p h1 h2).2;rw[←this];congr 1;unfold Addr.add;split
  · simp_all
  · rfl
theorem fP {k:Nat} :∀ {els:List (List PV)} {i j:Nat} {r:List PV} {p:PV},(∀r∈els,r.length=k)→els[i]?=some r→r[j]?=some p→(dD els)[i * k+j]?=some (pvV p)
 | [],i,j,r,p,_,h,_=>by simp at h
 |
  r0 :: t,i,j,r,p,hk,h1,h2=>by
  have e:dD (r0 :: t)=r0.map pvV++dD t:=by simp[dD]
  have hr:r0.length=k:=hk r0 (by simp)
  rw[e]
  cases i with
  |
   zero=>
   simp only[List.getElem?_cons_zero,Option.some.injEq] at h1
   subst h1
   have hj:=(List.getElem?_eq_some_iff.1 h2).1
   rw[Nat.zero_mul,Nat.zero_add,List.getElem?_append_left (by simpa using hj),List.getElem?_map,h2]
   rfl
  |
   succ i=>
   rw[List.getElem?_append_right (by rw[List.length_map,hr,Nat.add_mul];omega),List.length_map,hr,show (i+1)* k+j - k=i * k+j by rw[Nat.add_mul];omega]
   exact fP (fun r hr=>hk r (by simp[hr])) (by simpa using h1) h2
theorem Rw {Ψ:Psi}{Bd:Nat}{w:World}(hok:vU Ψ Bd w){els:List (List PV)}{v:Value}{k bytes:Nat}(hk:∀r∈els,r.length=k)(hk0:0 < k)(hsc:∀r∈els,∀p∈r,∃x:Value,p= .sc x∧x.oneCell'=true)(hn:els.length≤1000)(hb:bytes≤48)(h:Rep Ψ (.sl els) v):
 ∃A c,v= .slice A els.length c∧Go.Proofs.YtfbkkgfkhhibfaaGreat.In1 w Bd k bytes A els.length c (dD els)∧(0 < els.length→∃b o,A=some ⟨b,o,none⟩):=by
 obtain⟨A,c,hv,hl,ha,h0⟩:=Qx hok hk hk0 (fun r hr p hp=>by obtain⟨x,hx,_⟩:=hsc r hr p hp;exact⟨x,hx⟩) h;refine⟨A,c,hv,⟨hl,h0,fun u hu=>?_,?_,?_⟩,fun h=>(ha h).2⟩
 · unfold dD at hu;obtain⟨r,hr,hu⟩:=List.mem_flatMap.1 hu;obtain⟨p,hp,rfl⟩:=List.mem_map.1 hu;obtain⟨x,rfl,hx⟩:=hsc r hr p hp;exact hx
 · unfold maxLen;omega
 · have:els.length * bytes≤1000 * 48:=Nat.mul_le_mul hn hb;omega
end AM
namespace AM
open Go Go.Proofs Go.Proofs.YtfbkkgfkhhibfaaGreat Go.RowKit Mk Iv
theorem VV {Ψ:Psi}{els:List (List PV)}{v:Value}(h:Rep Ψ (.sl els) v):∃A c,v= .slice A els.length c∧els.length≤c:=by
 cases h with
 | nil=>exact ⟨_,_,rfl,Nat.zero_le _⟩
 | sl f hn hnc hk hf hr=>exact ⟨_,_,by rw[hn],by omega⟩
theorem Rt {Ψ:Psi}{Bd:Nat}{w:World}(hok:vU Ψ Bd w){es:List EvA}{v:Value}(h:Rep Ψ (.sl (es.map EvA.r)) v):∃A c,v= .slice A es.length c∧Evs w Bd A es.length (es.map EvA.ev):=by
 generalize he:es.map EvA.r=els at h
 cases h with
 |
  nil=>
  have:es= []:=List.map_eq_nil_iff.1 he;subst this;exact⟨_,_,rfl,rfl,fun k e hk=>by simp at hk⟩
 |
  @sl _ b o c n k f hn hnc hk hf hr=>
  subst he;rw[List.length_map] at hn;subst hn;refine⟨_,_,rfl,by simp,fun i e hi=>?_⟩;rw[List.getElem?_map] at hi
  cases hx:es[i]? with
  | none=>rw [hx] at hi;simp at hi
  |
   some x=>
   rw[hx] at hi;simp only[Option.map_some,Option.some.injEq] at hi;subst hi;have hk7:k=7:=(hk _ (List.mem_map_of_mem (List.mem_of_getElem? hx))).symm;subst hk7
   have hc:∀j p,(EvA.r x)[j]?=some p→(b < Bd∧w.cell? ⟨b,o+i * 7+j,none⟩=some (f i j))∧Rep Ψ p (f i j):=fun j p hp=>by
    have h1:cellOf (es.map EvA.r) i j=some p:=by simp only[cellOf,List.getElem?_map,hx,Option.map_some,Option.bind_some];exact hp
    have h2:=hok _ _ _ (hf i j _ h1);exact⟨by rw[Nat.add_assoc];exact h2,hr i j _ h1⟩
   have hs:∀j v,(EvA.r x)[j]?=some (.sc v)→w.cell? ⟨b,o+i * 7+j,none⟩=some v:=fun j v hq=>by
    obtain⟨⟨_,h1⟩,h2⟩:=hc j _ hq;rw[h1,(dS (loc:=fun _=>none) (.pv h2)).1]
   obtain⟨⟨hlt,h5⟩,r5⟩:=hc 5 _ rfl;obtain⟨⟨_,h6⟩,r6⟩:=hc 6 _ rfl;obtain⟨Ad,cd,e5,ld⟩:=Bh hok r5;obtain⟨Af,cf,e6,lf⟩:=Bh hok r6;rw[e5] at h5;rw[e6] at h6;refine⟨b,o,Ad,cd,Af,cf,rfl,hlt,fun j u hu=>?_,by simpa [EvA.ev] using ld,by simpa [EvA.ev] using lf⟩
   match j,hu with
   | 0,hu=>injection hu with hu;subst hu;exact hs 0 _ rfl
   | 1,hu=>injection hu with hu;subst hu;exact hs 1 _ rfl
   | 2,hu=>injection hu with hu;subst hu;exact hs 2 _ rfl
   | 3,hu=>injection hu with hu;subst hu;exact hs 3 _ rfl
   | 4,hu=>injection hu with hu;subst hu;exact hs 4 _ rfl
   | 5,hu=>injection hu with hu;subst hu;simpa [EvA.ev] using h5
   | 6,hu=>injection hu with hu;subst hu;simpa [EvA.ev] using h6
   | j+7,hu=>simp at hu
theorem VW {Ψ:Psi}{es:List EvA}{v:Value}(h:Rep Ψ (.sl (es.map EvA.r)) v):∃A c,v= .slice A es.length c∧es.length≤c∧∀Bd w,vU Ψ Bd w→Evs w Bd A es.length (es.map EvA.ev):=by
 obtain⟨A,c,e,hc⟩:=VV h;rw[List.length_map] at e hc;refine⟨A,c,e,hc,fun Bd w hf=>?_⟩;obtain⟨A',c',e',h'⟩:=Rt hf h;rw[e] at e';injection e' with e1 e2 e3;subst e1;exact h'
theorem VX (l:List CeR):∀k,k < l.length→AtCell (dD (l.map CeR.r)) k:=fun k hk=>by
 have h1:(l.map CeR.r)[k]?=some (CeR.r l[k]):=by rw[List.getElem?_map,List.getElem?_eq_getElem hk];rfl
 have hk5:∀r∈l.map CeR.r,r.length=5:=fun r hr=>by obtain⟨x,_,rfl⟩:=List.mem_map.1 hr;rfl
 exact⟨_,_,_,_,_,fP hk5 h1 (j:=0) rfl,fP hk5 h1 (j:=1) rfl,fP hk5 h1 (j:=2) rfl,fP hk5 h1 (j:=3) rfl,fP hk5 h1 (j:=4) rfl⟩
theorem VY (l:List (ByteArray×Bool)):∀k,k < l.length→AtLock (dD (l.map JD)) k:=fun k hk=>by
 have h1:(l.map JD)[k]?=some (JD l[k]):=by rw[List.getElem?_map,List.getElem?_eq_getElem hk];rfl
 have hk5:∀r∈l.map JD,r.length=2:=fun r hr=>by obtain⟨x,_,rfl⟩:=List.mem_map.1 hr;rfl
 exact⟨_,_,fP hk5 h1 (j:=0) rfl,fP hk5 h1 (j:=1) rfl⟩
theorem VZ (l:List (ByteArray×Int)):∀k,k < l.length→AtCond (dD (l.map QG)) k:=fun k hk=>by
 have h1:(l.map QG)[k]?=some (QG l[k]):=by rw[List.getElem?_map,List.getElem?_eq_getElem hk];rfl
 have hk5:∀r∈l.map QG,r.length=2:=fun r hr=>by obtain⟨x,_,rfl⟩:=List.mem_map.1 hr;rfl
 exact⟨_,_,fP hk5 h1 (j:=0) rfl,fP hk5 h1 (j:=1) rfl⟩
theorem Ru (l:List ByteArray):∀k,k < l.length→AtStr (dD (fV l)) k:=fun k hk=>by
 have h1:(fV l)[k]?=some [bJ l[k]]:=by unfold fV;rw[List.getElem?_map,List.getElem?_eq_getElem hk];rfl
 have hk5:∀r∈fV l,r.length=1:=fun r hr=>by unfold fV at hr;obtain⟨x,_,rfl⟩:=List.mem_map.1 hr;rfl
 exact⟨_,fP hk5 h1 (j:=0) rfl⟩
theorem V3 (l:List (Nat×Nat)):∀k,k < l.length→AtSite (dD (l.map QI)) k:=fun k hk=>by
 have h1:(l.map QI)[k]?=some (QI l[k]):=by rw[List.getElem?_map,List.getElem?_eq_getElem hk];rfl
 have hk5:∀r∈l.map QI,r.length=3:=fun r hr=>by obtain⟨x,_,rfl⟩:=List.mem_map.1 hr;rfl
 exact⟨_,_,_,fP hk5 h1 (j:=0) rfl,fP hk5 h1 (j:=1) rfl,fP hk5 h1 (j:=2) rfl⟩
theorem pR {α:Type}{Ψ:Psi}{loc:Loc}(l:List α)(R:α→List PV){x:Value}(k bytes:Nat)(hk:∀a,(R a).length=k)(hk0:0 < k)(hsc:∀a,∀p∈R a,∃x:Value,p= .sc x∧x.oneCell'=true)(hn:l.length≤1000)(hb:bytes≤48)(h:RepA Ψ loc (.pv (.sl (l.map R))) x){Bd0:Nat}{w0:World}(h0:vU Ψ Bd0 w0):
 ∃A c,x= .slice A l.length c∧(∀Bd w,vU Ψ Bd w→In1 w Bd k bytes A l.length c (dD (l.map R)))∧(0 < l.length→∃b o,A=some ⟨b,o,none⟩):=by
 cases h with
 |
  pv h=>
  have key:=fun (Bd:Nat) (w:World) (hok:vU Ψ Bd w)=>Rw hok (bytes:=bytes) (k:=k) (fun r hr=>by obtain⟨a,_,rfl⟩:=List.mem_map.1 hr;exact hk a) hk0 (fun r hr=>by obtain⟨a,_,rfl⟩:=List.mem_map.1 hr;exact hsc a) (by rw[List.length_map];exact hn) hb h
  simp only[List.length_map] at key;obtain⟨A,c,e,_,ha⟩:=key Bd0 w0 h0;refine⟨A,c,e,fun Bd w hok=>?_,ha⟩;obtain⟨A',c',e',h',_⟩:=key Bd w hok;rw[e] at e';injection e' with e1 e2 e3;subst e1 e3;exact h'
end AM
namespace Go.Proofs.YtfbkkgfkhhibfaaGreat
open Go Go.RowKit Iv AM
theorem JO (w:World)(B:Nat)(A1:Option Addr)(n1 c1:Nat)(xs:Bytes)(hx:Lies w B 1 A1 n1 (xs.map bv))(hc1:n1≤c1)(hn1:n1≤1000)(ho1:A1=none→c1=0)(A2:Option Addr)(m c2:Nat)(ys:Bytes)(hy:Lies w B 1 A2 m (ys.map bv))(hc2:m≤c2)(hm:m≤1000)(ho2:A2=none→c2=0):
 Calls Tryz.prog 9 #[.slice A1 n1 c1,.slice A2 m c2] w fun e w'=>adp w B m e w':=by
 have l1:xs.length=n1:=by have:=hx.1;rw[List.length_map] at this;omega
 have l2:ys.length=m:=by have:=hy.1;rw[List.length_map] at this;omega
 refine (join (QY xs ys (by omega) (by omega)).2.2 w B _ ⟨rfl,fun j v hv=>?_⟩).mono ?_
 · match j,hv with
   | 0,hv=>injection hv with hv;subst hv;exact⟨_,rfl,.pv (Bg hx hc1 ho1)⟩
   | 1,hv=>injection hv with hv;subst hv;exact⟨_,rfl,.pv (Bg hy hc2 ho2)⟩
 rintro e w' ⟨r,v,g,Ψ,loc,rfl,⟨-,-,n,ss,es,rfl,h1,h4,h60,_,hl,hev⟩,hv,hok⟩
 cases hv with
 |
  @agg _ us f hs hx hr=>
  obtain⟨a0,c0,e0,i0,b0⟩:=pR Jt CeR.r 5 48 (fun _=>rfl) (by omega) (fun a p hp=>by simp only[CeR.r,List.mem_cons,List.not_mem_nil,or_false] at hp;rcases hp with rfl | rfl | rfl | rfl | rfl <;> exact⟨_,rfl,rfl⟩) (by decide) (by omega) (hr 0 _ rfl) hok.fzIn
  obtain⟨a1,c1,e1,i1,b1⟩:=pR JC JD 2 24 (fun _=>rfl) (by omega) (fun a p hp=>by simp only[JD,List.mem_cons,List.not_mem_nil,or_false] at hp;rcases hp with rfl | rfl <;> exact⟨_,rfl,rfl⟩) (by decide) (by omega) (hr 1 _ rfl) hok.fzIn
  obtain⟨a2,c2,e2,i2,b2⟩:=pR Ju QG 2 24 (fun _=>rfl) (by omega) (fun a p hp=>by simp only[QG,List.mem_cons,List.not_mem_nil,or_false] at hp;rcases hp with rfl | rfl <;> exact⟨_,rfl,rfl⟩) (by decide) (by omega) (hr 2 _ rfl) hok.fzIn
  obtain⟨a3,c3,e3,i3,b3⟩:=pR QH (fun s=> [bJ s]) 1 16 (fun _=>rfl) (by omega) (fun a p hp=>by simp only[List.mem_cons,List.not_mem_nil,or_false] at hp;subst hp;exact⟨_,rfl,rfl⟩) (by decide) (by omega) (hr 3 _ rfl) hok.fzIn;obtain⟨a4,c4,e4,i4,b4⟩:=pR (Mk.thNames n) (fun s=> [bJ s]) 1 16 (fun _=>rfl) (by omega) (fun a p hp=>by simp only[List.mem_cons,List.not_mem_nil,or_false] at hp;subst hp;exact⟨_,rfl,rfl⟩) (by rw[Mk.thNames_len];omega) (by omega) (hr 4 _ rfl) hok.fzIn;obtain⟨a5,c5,e5,i5,b5⟩:=pR ss QI 3 24 (fun _=>rfl) (by omega) (fun a p hp=>by simp only[QI,List.mem_cons,List.not_mem_nil,or_false] at hp;rcases hp with rfl | rfl | rfl <;> exact⟨_,rfl,rfl⟩) (by omega) (by omega) (hr 5 _ rfl) hok.fzIn
  have w0:=VX Jt;have w1:=VY JC;have w2:=VZ Ju;have w3:=Ru QH;have w4:=Ru (Mk.thNames n);have w5:=V3 ss;rw[Mk.thNames_len] at e4 i4 b4 w4
  obtain⟨A,c,e6,hlc,hE⟩:∃A c,f 6= .slice A es.length c∧es.length≤c∧∀Bd w,vU Ψ Bd w→Evs w Bd A es.length (es.map EvA.ev):=by
   have:=hr 6 _ rfl
   cases this with
   | pv h=>exact VW h
  have hus:us=#[.slice a0 Jt.length c0,.slice a1 JC.length c1,.slice a2 Ju.length c2,.slice a3 QH.length c3,.slice a4 n c4,.slice a5 ss.length c5,.slice A es.length c]:=by
   refine Array.ext (by rw[hs];rfl) (fun j h1 h2=>?_);have h3:j < 7:=h2;have q:=hx j h3;rw[Array.getElem?_eq_getElem h1] at q;injection q with q;rw[q];obtain rfl | rfl | rfl | rfl | rfl | rfl | rfl:j=0∨j=1∨j=2∨j=3∨j=4∨j=5∨j=6:=by omega
   · exact e0
   · exact e1
   · exact e2
   · exact e3
   · exact e4
   · exact e5
   · exact e6
  subst hus;have WI:=fun (Bd:Nat) (w:World) (hf:vU Ψ Bd w)=>(⟨i0 Bd w hf,i1 Bd w hf,i2 Bd w hf,i3 Bd w hf,i4 Bd w hf,i5 Bd w hf,w0,w1,w2,w3,w4,w5,b0,b1,b2,b3,b4,b5⟩:WIn w Bd _ _ _ _ _ _ _ _ _ _ _ _ _ _ _ _ _ _ _ _ _ _ _ _)
  have hlm:(es.map EvA.ev).length=es.length:=List.length_map _;refine⟨a0,_,c0,_,a1,_,c1,_,a2,_,c2,_,a3,_,c3,_,a4,n,c4,_,a5,_,c5,_,A,c,es.map EvA.ev,by rw[hlm],by rw[hlm];exact hlc,⟨h1,h4,by rw[hlm];omega,by rw[hlm];exact hE _ _ hok.fzIn,fun k e hk=>?_⟩,WI _ _ hok.fzIn,fun W g hW hg1 hg2=>⟨by rw[hlm];exact hE _ _ (Gh hok hW hg1 hg2),WI _ _ (Gh hok hW hg1 hg2)⟩,Ri hok⟩;rw[List.getElem?_map] at hk
  cases hp:es[k]? with
  | none=>rw [hp] at hk;simp at hk
  |
   some x=>
   rw[hp] at hk;simp only[Option.map_some,Option.some.injEq] at hk;subst hk;exact Zt (hev k x hp)
theorem Zz:Rx:=JO
