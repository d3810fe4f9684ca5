/- Words. -/
import Derived.Test.YtfbkkgfkhhibfaaGreatFjh
import Derived.Test.YtfbkkgfkhhibfaaGreatSww
set_option linter.unusedVariables false
set_option linter.unusedSimpArgs false
namespace AM
open Go Go.Proofs Go.RowKit Mk Iv
def EvA.ev (e:EvA):Ev:=⟨e.thread,e.kind,e.obj,e.value,e.site,e.deps.map fun (n:Nat)=>(n:Int),e.fr.map fun (n:Nat)=>(n:Int)⟩
theorem ZK {n j:Nat}{e:EvA}(h:EvG n j e):EvOk n j e.ev:=by
 have i:∀ {x:Int},i64 x→inI64 x:=fun hx=>by have:=bV.1 hx;exact⟨this.1,by omega⟩
 have d:∀ {l:List Nat},Asc j l→(((l.map fun (n:Nat)=>(n:Int)).length:Int)≤j∧∀x∈l.map fun (n:Nat)=>(n:Int),0≤x∧x < j):=fun hl=>by
  refine⟨by rw[List.length_map];have:=hl.len;omega,fun x hx=>?_⟩;obtain⟨q,hq,rfl⟩:=List.mem_map.1 hx;have:=hl.2 q hq;omega
 exact⟨h.th.1,h.th.2,h.kd.1,h.kd.2,i h.obj,i h.val,h.site.1,h.site.2,d h.dp,d h.frm⟩
def uU (w:World)(B:Nat):Psi:=⟨fun b o=>if b < B then w.cell? ⟨b,o,none⟩ else none,fun _=>none⟩
def O7 (w:World)(B:Nat):Fr:=⟨w,fun b=>b < w.heap.size,uU w B,fun _=>none,0⟩
def wC (Ψ:Psi)(Bd:Nat)(w:World):Prop:=∀b o v,Ψ.fz b o=some v→b < Bd∧w.cell? ⟨b,o,none⟩=some v
theorem Ok.fzIn {fr:Fr}{Ψ:Psi}{loc:Loc}{σ:Sto}{w:World}(h:Ok fr Ψ loc σ w):wC Ψ w.heap.size w:=fun b o v e=>⟨h.fz_lt e,h.fz b o v e⟩
theorem adz (w:World)(B:Nat):Ok (O7 w B) (uU w B) (fun _=>none) (kZ []) w:=by
 constructor
 · intro b o v h;unfold uU at h;dsimp only at h;split at h
   · exact h
   · cases h
 · exact fun b cts m h=>nomatch h
 · exact fun l o h=>by simp[kZ] at h
 · exact fun l l' o o' b h=>by simp[kZ] at h
 · exact fun l o b h=>by simp[kZ] at h
 · exact fun b e h=>nomatch h
 · exact fun b h=>⟨h,rfl⟩
 · exact Nat.le_refl _
 · exact⟨rfl,rfl,rfl⟩
 · exact fun b _ q=>rfl
 · exact Psi.le.refl _
 · exact fun l h=>absurd h (Nat.not_lt_zero l)
theorem join {P:Program}{f:FuncId}{args:List AV}{post:AV→List (Option Obj)→Prop}(h:ACall P f args [] post)(w:World)(B:Nat)(vs:Array Value)(hr:Rz (uU w B) (fun _=>none) args vs.toList):
 Calls P f vs w fun e w'=>∃r v g Ψ' loc',e= .returned r∧post v g∧RepA Ψ' loc' v r∧Ok (O7 w B) Ψ' loc' (kZ g) w':=
 (h (O7 w B) (uU w B) (fun _=>none) w vs (adz w B) rfl (fun _ _=>rfl) hr).mono fun e w' ⟨r,v,g,Ψ',loc',h1,h2,_,_,h3,h4,_⟩=>⟨r,v,g,Ψ',loc',h1,h2,h3,h4⟩
theorem Gv {w w':World}{B:Nat}{Ψ:Psi}{loc:Loc}{σ:Sto}(h:Ok (O7 w B) Ψ loc σ w'):w.grownBy w' none:=⟨h.os.1,h.os.2.1,h.os.2.2,h.sz,fun k hk _=>(h.pr k hk).2⟩
theorem Gw {w w' W:World}{B g:Nat}{Ψ:Psi}{loc:Loc}{σ:Sto}(h:Ok (O7 w B) Ψ loc σ w')(hW:w'.grownBy W (some g))(h1:B≤g)(h2:g < w.heap.size):wC Ψ w'.heap.size W:=fun b o v e=>by
 have hlt:=h.fz_lt e
 refine⟨hlt,?_⟩
 have hne:b≠g:=fun e2=>by
  subst e2
  have h3:Ψ.fz b o=(uU w B).fz b o:=h.pz b h2 o
  rw[e] at h3
  unfold uU at h3
  dsimp only at h3
  rw[if_neg (by omega)] at h3
  cases h3
 rw[World.cell?_of_block (hW.block b hlt (fun e2=>hne (by simpa using e2)))]
 exact h.fz b o v e
theorem qf {w:World}{B n c:Nat}{A:Option Addr}{xs:Bytes}(h:Lies w B 1 A n (xs.map bv))(hc:n≤c)(ho:A=none→c=0):Rep (uU w B) (NL xs) (.slice A n c):=by
 have hl:=h.1;rw[List.length_map,Nat.mul_one] at hl;subst hl;rcases Nat.eq_zero_or_pos xs.length with h0 | h0
 · have:=List.eq_nil_of_length_eq_zero h0;subst this;exact .nil ho
 · obtain⟨⟨b,o,s⟩,rfl,hb,hcell⟩:=h.2 h0;have hg:∀k (hk:k < xs.length),w.cell? ((⟨b,o,s⟩:Addr).add k)=some (bv xs[k]):=fun k hk=>hcell k _ (by rw[List.getElem?_map,List.getElem?_eq_getElem hk];rfl)
   have hs:s=none:=by
    have:=hg 0 h0;simp only[Addr.add,↓reduceIte,World.cell?] at this
    cases s with
    | none=>rfl
    | some q=>split at this <;> simp at this
   subst hs
   refine .sl (k:=1) (fun i _=>bv (xs.getD i 0)) (by rw[List.length_map]) hc (fun row hr=>by
    obtain⟨x,_,rfl⟩:=List.mem_map.1 hr;rfl) ?_ ?_
   · intro i j p hp;simp only[cellOf,List.getElem?_map,Option.bind_map] at hp
     cases hx:xs[i]? with
     | none=>simp [hx] at hp
     |
      some x=>
      simp only[hx,Option.bind_some,Function.comp] at hp;obtain⟨hi,rfl⟩:=List.getElem?_eq_some_iff.1 hx
      have hj:j=0:=by cases j with
       | zero=>rfl
       | succ j=>simp at hp
      subst hj;have:=hg i hi;show (if b < B then w.cell? ⟨b,o+(i * 1+0),none⟩ else none)=_;rw[if_pos hb];rw[Nat.mul_one,Nat.add_zero,List.getD_eq_getElem?_getD,hx,Option.getD_some,←this];congr 1;unfold Addr.add;split
      · simp_all
      · rfl
   · intro i j p hp;simp only[cellOf,List.getElem?_map,Option.bind_map] at hp
     cases hx:xs[i]? with
     | none=>simp [hx] at hp
     |
      some x=>
      simp only[hx,Option.bind_some,Function.comp] at hp
      cases j with
      |
       zero=>
       simp only[List.getElem?_cons_zero,Option.some.injEq] at hp;subst hp;rw[List.getD_eq_getElem?_getD,hx];exact .sc rfl
      | succ j=>simp at hp
theorem Bv {Ψ:Psi}{Bd:Nat}{w:World}(hok:wC Ψ Bd w){l:List Nat}{v:Value}(h:Rep Ψ (.sl (nL l)) v):∃A c,v= .slice A l.length c∧Lies w Bd 1 A l.length ((l.map fun (n:Nat)=>(n:Int)).map Iv.iv):=by
 generalize he:nL l=els at h
 cases h with
 |
  nil=>
  have:l= []:=List.map_eq_nil_iff.1 he;subst this;exact⟨_,_,rfl,⟨rfl,fun h=>absurd h (Nat.lt_irrefl 0)⟩⟩
 |
  @sl _ b o c n k f hn hnc hk hf hr=>
  subst he;rw[List.length_map] at hn;subst hn;refine⟨_,_,rfl,by simp,fun h0=>?_⟩;have hk1:k=1:=(hk _ (List.mem_map_of_mem (List.getElem_mem h0))).symm;subst hk1
  have hc:∀i (hi:i < l.length),b < Bd∧w.cell? ⟨b,o+i,none⟩=some (Iv.iv (l[i]:Nat)):=fun i hi=>by
   have h1:cellOf (nL l) i 0=some (ag (l[i]:Nat)):=by simp[cellOf,hi,nP]
   obtain⟨h0,h2⟩:=hok _ _ _ (hf i 0 _ h1);rw[Nat.mul_one,Nat.add_zero] at h2;refine⟨h0,?_⟩;rw[h2,(dA (loc:=fun _=>none) (.pv (hr i 0 _ h1))).1];rfl
  refine⟨⟨b,o,none⟩,rfl,(hc 0 h0).1,fun j u hu=>?_⟩;rw[List.getElem?_map,List.getElem?_map] at hu
  cases hx:l[j]? with
  | none=>rw [hx] at hu;simp at hu
  |
   some x=>
   obtain⟨hj,rfl⟩:=List.getElem?_eq_some_iff.1 hx;rw[hx] at hu;simp only[Option.map_some,Option.some.injEq] at hu;subst hu;have:=(hc j hj).2;rw[←this];congr 1;unfold Addr.add;split
   · simp_all
   · rfl
end AM
namespace AM
open Go Go.Proofs Go.RowKit Iv
def pvV:PV→Value
 | .sc v=>v
 | _=>undef
def dF (els:List (List PV)):List Value:=els.flatMap (·.map pvV)
theorem Jm {k:Nat} :∀ {els:List (List PV)},(∀r∈els,r.length=k)→∀ {j:Nat} {u:Value},(dF els)[j]?=some u→∃i q r p,els[i]?=some r∧r[q]?=some p∧j=i * k+q∧u=pvV p
 | [],_,j,u,h=>by simp[dF] at h
 |
  r :: t,hk,j,u,h=>by
  have hr:r.length=k:=hk r (by simp)
  have e:dF (r :: t)=r.map pvV++dF t:=by simp[dF]
  rw[e] at h
  by_cases hj:j < k
  · rw[List.getElem?_append_left (by simpa [hr] using hj),List.getElem?_map] at h
    cases hp:r[j]? with
    | none=>rw [hp] at h;simp at h
    |
     some p=>
     rw[hp] at h
     simp only[Option.map_some,Option.some.injEq] at h
     exact⟨0,j,r,p,by simp,hp,by simp,h.symm⟩
  · rw[List.getElem?_append_right (by simp[hr];omega)] at h
    obtain⟨i,q,r',p,h1,h2,h3,h4⟩:=Jm (fun r hr=>hk r (by simp[hr])) h
    refine⟨i+1,q,r',p,by simpa using h1,h2,?_,h4⟩
    rw[List.length_map,hr] at h3
    rw[Nat.add_mul]
    omega
theorem Jn {k:Nat} :∀ {els:List (List PV)},(∀r∈els,r.length=k)→(dF els).length=els.length * k
 | [],_=>by simp[dF]
 |
  r :: t,hk=>by
  have e:dF (r :: t)=r.map pvV++dF t:=by simp[dF]
  rw[e,List.length_append,List.length_map,hk r (by simp),Jn (fun r hr=>hk r (by simp[hr])),List.length_cons,Nat.add_mul]
  omega
theorem QO {Ψ:Psi}{Bd:Nat}{w:World}(hok:wC Ψ Bd w){els:List (List PV)}{v:Value}{k:Nat}(hk:∀r∈els,r.length=k)(hk0:0 < k)(hsc:∀r∈els,∀p∈r,∃x,p= .sc x)(h:Rep Ψ (.sl els) v):
 ∃A c,v= .slice A els.length c∧Lies w Bd k A els.length (dF els)∧(0 < els.length→els.length≤c∧∃b o,A=some ⟨b,o,none⟩)∧(A=none→c=0):=by
 cases h with
 | nil hA=>exact ⟨_,_,rfl,⟨by simp[dF],fun h=>absurd h (Nat.lt_irrefl 0)⟩,fun h=>absurd h (Nat.lt_irrefl 0),hA⟩
 |
  @sl _ b o c n k' f hn hnc hk' hf hr=>
  subst hn;refine⟨_,_,rfl,⟨Jn hk,fun h0=>?_⟩,fun _=>⟨hnc,b,o,rfl⟩,fun h=>nomatch h⟩
  have hkk:k'=k:=by
   have h1:=hk' _ (List.getElem_mem h0);rw[hk _ (List.getElem_mem h0)] at h1;exact h1.symm
  subst hkk
  have hc:∀i q r p,els[i]?=some r→r[q]?=some p→b < Bd∧w.cell? ⟨b,o+(i * k'+q),none⟩=some (pvV p):=fun i q r p h1 h2=>by
   have h3:cellOf els i q=some p:=by simp only[cellOf,h1,Option.bind_some];exact h2
   obtain⟨h4,h5⟩:=hok _ _ _ (hf i q _ h3);refine⟨h4,?_⟩;rw[h5];obtain⟨x,rfl⟩:=hsc r (List.mem_of_getElem? h1) p (List.mem_of_getElem? h2);rw[(dA (loc:=fun _=>none) (.pv (hr i q _ h3))).1];rfl
  have hlt:b < Bd:=by
   have hl:(els[0]).length=k':=hk _ (List.getElem_mem h0);exact (hc 0 0 els[0] (els[0])[0] (List.getElem?_eq_getElem h0) (List.getElem?_eq_getElem (by omega))).1
  refine⟨⟨b,o,none⟩,rfl,hlt,fun j u hu=>?_⟩;obtain⟨i,q,r,p,h1,h2,rfl,rfl⟩:=Jm hk hu;have:=(hc i q r p h1 h2).2;rw[←this];congr 1;unfold Addr.add;split
  · simp_all
  · rfl
theorem fQ {k:Nat} :∀ {els:List (List PV)} {i j:Nat} {r:List PV} {p:PV},(∀r∈els,r.length=k)→els[i]?=some r→r[j]?=some p→(dF els)[i * k+j]?=some (pvV p)
 | [],i,j,r,p,_,h,_=>by simp at h
 |
  r0 :: t,i,j,r,p,hk,h1,h2=>by
  have e:dF (r0 :: t)=r0.map pvV++dF t:=by simp[dF]
  have hr:r0.length=k:=hk r0 (by simp)
  rw[e]
  cases i with
  |
   zero=>
   simp only[List.getElem?_cons_zero,Option.some.injEq] at h1
   subst h1
   have hj:=(List.getElem?_eq_some_iff.1 h2).1
   rw[Nat.zero_mul,Nat.zero_add,List.getElem?_append_left (by simpa using hj),List.getElem?_map,h2]
   rfl
  |
   succ i=>
   rw[List.getElem?_append_right (by rw[List.length_map,hr,Nat.add_mul];omega),List.length_map,hr,show (i+1)* k+j - k=i * k+j by rw[Nat.add_mul];omega]
   exact fQ (fun r hr=>hk r (by simp[hr])) (by simpa using h1) h2
theorem RY {Ψ:Psi}{Bd:Nat}{w:World}(hok:wC Ψ Bd w){els:List (List PV)}{v:Value}{k bytes:Nat}(hk:∀r∈els,r.length=k)(hk0:0 < k)(hsc:∀r∈els,∀p∈r,∃x:Value,p= .sc x∧x.oneCell'=true)(hn:els.length≤1000)(hb:bytes≤48)(h:Rep Ψ (.sl els) v):
 ∃A c,v= .slice A els.length c∧Go.Proofs.YtfbkkgfkhhibfaaGreat.In1 w Bd k bytes A els.length c (dF els)∧(0 < els.length→∃b o,A=some ⟨b,o,none⟩):=by
 obtain⟨A,c,hv,hl,ha,h0⟩:=QO hok hk hk0 (fun r hr p hp=>by obtain⟨x,hx,_⟩:=hsc r hr p hp;exact⟨x,hx⟩) h;refine⟨A,c,hv,⟨hl,h0,fun u hu=>?_,?_,?_⟩,fun h=>(ha h).2⟩
 · unfold dF at hu;obtain⟨r,hr,hu⟩:=List.mem_flatMap.1 hu;obtain⟨p,hp,rfl⟩:=List.mem_map.1 hu;obtain⟨x,rfl,hx⟩:=hsc r hr p hp;exact hx
 · unfold maxLen;omega
 · have:els.length * bytes≤1000 * 48:=Nat.mul_le_mul hn hb;omega
end AM
namespace AM
open Go Go.Proofs Go.Proofs.YtfbkkgfkhhibfaaGreat Go.RowKit Mk Iv
theorem Wq {Ψ:Psi}{els:List (List PV)}{v:Value}(h:Rep Ψ (.sl els) v):∃A c,v= .slice A els.length c∧els.length≤c:=by
 cases h with
 | nil=>exact ⟨_,_,rfl,Nat.zero_le _⟩
 | sl f hn hnc hk hf hr=>exact ⟨_,_,by rw[hn],by omega⟩
theorem RV {Ψ:Psi}{Bd:Nat}{w:World}(hok:wC Ψ Bd w){es:List EvA}{v:Value}(h:Rep Ψ (.sl (es.map EvA.r)) v):∃A c,v= .slice A es.length c∧Evs w Bd A es.length (es.map EvA.ev):=by
 generalize he:es.map EvA.r=els at h
 cases h with
 |
  nil=>
  have:es= []:=List.map_eq_nil_iff.1 he;subst this;exact⟨_,_,rfl,rfl,fun k e hk=>by simp at hk⟩
 |
  @sl _ b o c n k f hn hnc hk hf hr=>
  subst he;rw[List.length_map] at hn;subst hn;refine⟨_,_,rfl,by simp,fun i e hi=>?_⟩;rw[List.getElem?_map] at hi
  cases hx:es[i]? with
  | none=>rw [hx] at hi;simp at hi
  |
   some x=>
   rw[hx] at hi;simp only[Option.map_some,Option.some.injEq] at hi;subst hi;have hk7:k=7:=(hk _ (List.mem_map_of_mem (List.mem_of_getElem? hx))).symm;subst hk7
   have hc:∀j p,(EvA.r x)[j]?=some p→(b < Bd∧w.cell? ⟨b,o+i * 7+j,none⟩=some (f i j))∧Rep Ψ p (f i j):=fun j p hp=>by
    have h1:cellOf (es.map EvA.r) i j=some p:=by simp only[cellOf,List.getElem?_map,hx,Option.map_some,Option.bind_some];exact hp
    have h2:=hok _ _ _ (hf i j _ h1);exact⟨by rw[Nat.add_assoc];exact h2,hr i j _ h1⟩
   have hs:∀j v,(EvA.r x)[j]?=some (.sc v)→w.cell? ⟨b,o+i * 7+j,none⟩=some v:=fun j v hq=>by
    obtain⟨⟨_,h1⟩,h2⟩:=hc j _ hq;rw[h1,(dA (loc:=fun _=>none) (.pv h2)).1]
   obtain⟨⟨hlt,h5⟩,r5⟩:=hc 5 _ rfl;obtain⟨⟨_,h6⟩,r6⟩:=hc 6 _ rfl;obtain⟨Ad,cd,e5,ld⟩:=Bv hok r5;obtain⟨Af,cf,e6,lf⟩:=Bv hok r6;rw[e5] at h5;rw[e6] at h6;refine⟨b,o,Ad,cd,Af,cf,rfl,hlt,fun j u hu=>?_,by simpa [EvA.ev] using ld,by simpa [EvA.ev] using lf⟩
   match j,hu with
   | 0,hu=>injection hu with hu;subst hu;exact hs 0 _ rfl
   | 1,hu=>injection hu with hu;subst hu;exact hs 1 _ rfl
   | 2,hu=>injection hu with hu;subst hu;exact hs 2 _ rfl
   | 3,hu=>injection hu with hu;subst hu;exact hs 3 _ rfl
   | 4,hu=>injection hu with hu;subst hu;exact hs 4 _ rfl
   | 5,hu=>injection hu with hu;subst hu;simpa [EvA.ev] using h5
   | 6,hu=>injection hu with hu;subst hu;simpa [EvA.ev] using h6
   | j+7,hu=>simp at hu
theorem Ws {Ψ:Psi}{es:List EvA}{v:Value}(h:Rep Ψ (.sl (es.map EvA.r)) v):∃A c,v= .slice A es.length c∧es.length≤c∧∀Bd w,wC Ψ Bd w→Evs w Bd A es.length (es.map EvA.ev):=by
 obtain⟨A,c,e,hc⟩:=Wq h;rw[List.length_map] at e hc;refine⟨A,c,e,hc,fun Bd w hf=>?_⟩;obtain⟨A',c',e',h'⟩:=RV hf h;rw[e] at e';injection e' with e1 e2 e3;subst e1;exact h'
theorem Wu (l:List CeR):∀k,k < l.length→AtCell (dF (l.map CeR.r)) k:=fun k hk=>by
 have h1:(l.map CeR.r)[k]?=some (CeR.r l[k]):=by rw[List.getElem?_map,List.getElem?_eq_getElem hk];rfl
 have hk5:∀r∈l.map CeR.r,r.length=5:=fun r hr=>by obtain⟨x,_,rfl⟩:=List.mem_map.1 hr;rfl
 exact⟨_,_,_,_,_,fQ hk5 h1 (j:=0) rfl,fQ hk5 h1 (j:=1) rfl,fQ hk5 h1 (j:=2) rfl,fQ hk5 h1 (j:=3) rfl,fQ hk5 h1 (j:=4) rfl⟩
theorem Wv (l:List (ByteArray×Bool)):∀k,k < l.length→AtLock (dF (l.map JO)) k:=fun k hk=>by
 have h1:(l.map JO)[k]?=some (JO l[k]):=by rw[List.getElem?_map,List.getElem?_eq_getElem hk];rfl
 have hk5:∀r∈l.map JO,r.length=2:=fun r hr=>by obtain⟨x,_,rfl⟩:=List.mem_map.1 hr;rfl
 exact⟨_,_,fQ hk5 h1 (j:=0) rfl,fQ hk5 h1 (j:=1) rfl⟩
theorem Wx (l:List (ByteArray×Int)):∀k,k < l.length→AtCond (dF (l.map QW)) k:=fun k hk=>by
 have h1:(l.map QW)[k]?=some (QW l[k]):=by rw[List.getElem?_map,List.getElem?_eq_getElem hk];rfl
 have hk5:∀r∈l.map QW,r.length=2:=fun r hr=>by obtain⟨x,_,rfl⟩:=List.mem_map.1 hr;rfl
 exact⟨_,_,fQ hk5 h1 (j:=0) rfl,fQ hk5 h1 (j:=1) rfl⟩
theorem RX (l:List ByteArray):∀k,k < l.length→AtStr (dF (fZ l)) k:=fun k hk=>by
 have h1:(fZ l)[k]?=some [bM l[k]]:=by unfold fZ;rw[List.getElem?_map,List.getElem?_eq_getElem hk];rfl
 have hk5:∀r∈fZ l,r.length=1:=fun r hr=>by unfold fZ at hr;obtain⟨x,_,rfl⟩:=List.mem_map.1 hr;rfl
 exact⟨_,fQ hk5 h1 (j:=0) rfl⟩
theorem Wy (l:List (Nat×Nat)):∀k,k < l.length→AtSite (dF (l.map QY)) k:=fun k hk=>by
 have h1:(l.map QY)[k]?=some (QY l[k]):=by rw[List.getElem?_map,List.getElem?_eq_getElem hk];rfl
 have hk5:∀r∈l.map QY,r.length=3:=fun r hr=>by obtain⟨x,_,rfl⟩:=List.mem_map.1 hr;rfl
 exact⟨_,_,_,fQ hk5 h1 (j:=0) rfl,fQ hk5 h1 (j:=1) rfl,fQ hk5 h1 (j:=2) rfl⟩
theorem qg {α:Type}{Ψ:Psi}{loc:Loc}(l:List α)(R:α→List PV){x:Value}(k bytes:Nat)(hk:∀a,(R a).length=k)(hk0:0 < k)(hsc:∀a,∀p∈R a,∃x:Value,p= .sc x∧x.oneCell'=true)(hn:l.length≤1000)(hb:bytes≤48)(h:RepA Ψ loc (.pv (.sl (l.map R))) x){Bd0:Nat}{w0:World}(h0:wC Ψ Bd0 w0):
 ∃A c,x= .slice A l.length c∧(∀Bd w,wC Ψ Bd w→In1 w Bd k bytes A l.length c (dF (l.map R)))∧(0 < l.length→∃b o,A=some ⟨b,o,none⟩):=by
 cases h with
 |
  pv h=>
  have key:=fun (Bd:Nat) (w:World) (hok:wC Ψ Bd w)=>RY hok (bytes:=bytes) (k:=k) (fun r hr=>by obtain⟨a,_,rfl⟩:=List.mem_map.1 hr;exact hk a) hk0 (fun r hr=>by obtain⟨a,_,rfl⟩:=List.mem_map.1 hr;exact hsc a) (by rw[List.length_map];exact hn) hb h
  simp only[List.length_map] at key;obtain⟨A,c,e,_,ha⟩:=key Bd0 w0 h0;refine⟨A,c,e,fun Bd w hok=>?_,ha⟩;obtain⟨A',c',e',h',_⟩:=key Bd w hok;rw[e] at e';injection e' with e1 e2 e3;subst e1 e3;exact h'
end AM
namespace Go.Proofs.YtfbkkgfkhhibfaaGreat
open Go Go.RowKit Iv AM
theorem J9 (w:World)(B:Nat)(A1:Option Addr)(n1 c1:Nat)(xs:Bytes)(hx:Lies w B 1 A1 n1 (xs.map bv))(hc1:n1≤c1)(hn1:n1≤1000)(ho1:A1=none→c1=0)(A2:Option Addr)(m c2:Nat)(ys:Bytes)(hy:Lies w B 1 A2 m (ys.map bv))(hc2:m≤c2)(hm:m≤1000)(ho2:A2=none→c2=0):
 Calls Tryz.prog 9 #[.slice A1 n1 c1,.slice A2 m c2] w fun e w'=>adG w B m e w':=by
 have l1:xs.length=n1:=by have:=hx.1;rw[List.length_map] at this;omega
 have l2:ys.length=m:=by have:=hy.1;rw[List.length_map] at this;omega
 refine (join (Rt xs ys (by omega) (by omega)).2.2 w B _ ⟨rfl,fun j v hv=>?_⟩).mono ?_
 · match j,hv with
   | 0,hv=>injection hv with hv;subst hv;exact⟨_,rfl,.pv (qf hx hc1 ho1)⟩
   | 1,hv=>injection hv with hv;subst hv;exact⟨_,rfl,.pv (qf hy hc2 ho2)⟩
 rintro e w' ⟨r,v,g,Ψ,loc,rfl,⟨-,-,n,ss,es,rfl,h1,h4,h60,_,hl,hev⟩,hv,hok⟩
 cases hv with
 |
  @agg _ us f hs hx hr=>
  obtain⟨a0,c0,e0,i0,b0⟩:=qg JE CeR.r 5 48 (fun _=>rfl) (by omega) (fun a p hp=>by simp only[CeR.r,List.mem_cons,List.not_mem_nil,or_false] at hp;rcases hp with rfl | rfl | rfl | rfl | rfl <;> exact⟨_,rfl,rfl⟩) (by decide) (by omega) (hr 0 _ rfl) hok.fzIn
  obtain⟨a1,c1,e1,i1,b1⟩:=qg JM JO 2 24 (fun _=>rfl) (by omega) (fun a p hp=>by simp only[JO,List.mem_cons,List.not_mem_nil,or_false] at hp;rcases hp with rfl | rfl <;> exact⟨_,rfl,rfl⟩) (by decide) (by omega) (hr 1 _ rfl) hok.fzIn
  obtain⟨a2,c2,e2,i2,b2⟩:=qg JF QW 2 24 (fun _=>rfl) (by omega) (fun a p hp=>by simp only[QW,List.mem_cons,List.not_mem_nil,or_false] at hp;rcases hp with rfl | rfl <;> exact⟨_,rfl,rfl⟩) (by decide) (by omega) (hr 2 _ rfl) hok.fzIn
  obtain⟨a3,c3,e3,i3,b3⟩:=qg QX (fun s=> [bM s]) 1 16 (fun _=>rfl) (by omega) (fun a p hp=>by simp only[List.mem_cons,List.not_mem_nil,or_false] at hp;subst hp;exact⟨_,rfl,rfl⟩) (by decide) (by omega) (hr 3 _ rfl) hok.fzIn;obtain⟨a4,c4,e4,i4,b4⟩:=qg (Mk.thNames n) (fun s=> [bM s]) 1 16 (fun _=>rfl) (by omega) (fun a p hp=>by simp only[List.mem_cons,List.not_mem_nil,or_false] at hp;subst hp;exact⟨_,rfl,rfl⟩) (by rw[Mk.thNames_len];omega) (by omega) (hr 4 _ rfl) hok.fzIn;obtain⟨a5,c5,e5,i5,b5⟩:=qg ss QY 3 24 (fun _=>rfl) (by omega) (fun a p hp=>by simp only[QY,List.mem_cons,List.not_mem_nil,or_false] at hp;rcases hp with rfl | rfl | rfl <;> exact⟨_,rfl,rfl⟩) (by omega) (by omega) (hr 5 _ rfl) hok.fzIn
  have w0:=Wu JE;have w1:=Wv JM;have w2:=Wx JF;have w3:=RX QX;have w4:=RX (Mk.thNames n);have w5:=Wy ss;rw[Mk.thNames_len] at e4 i4 b4 w4
  obtain⟨A,c,e6,hlc,hE⟩:∃A c,f 6= .slice A es.length c∧es.length≤c∧∀Bd w,wC Ψ Bd w→Evs w Bd A es.length (es.map EvA.ev):=by
   have:=hr 6 _ rfl
   cases this with
   | pv h=>exact Ws h
  have hus:us=#[.slice a0 JE.length c0,.slice a1 JM.length c1,.slice a2 JF.length c2,.slice a3 QX.length c3,.slice a4 n c4,.slice a5 ss.length c5,.slice A es.length c]:=by
   refine Array.ext (by rw[hs];rfl) (fun j h1 h2=>?_);have h3:j < 7:=h2;have q:=hx j h3;rw[Array.getElem?_eq_getElem h1] at q;injection q with q;rw[q];obtain rfl | rfl | rfl | rfl | rfl | rfl | rfl:j=0∨j=1∨j=2∨j=3∨j=4∨j=5∨j=6:=by omega
   · exact e0
   · exact e1
   · exact e2
   · exact e3
   · exact e4
   · exact e5
   · exact e6
  subst hus;have WI:=fun (Bd:Nat) (w:World) (hf:wC Ψ Bd w)=>(⟨i0 Bd w hf,i1 Bd w hf,i2 Bd w hf,i3 Bd w hf,i4 Bd w hf,i5 Bd w hf,w0,w1,w2,w3,w4,w5,b0,b1,b2,b3,b4,b5⟩:WIn w Bd _ _ _ _ _ _ _ _ _ _ _ _ _ _ _ _ _ _ _ _ _ _ _ _)
  have hlm:(es.map EvA.ev).length=es.length:=List.length_map _;refine⟨a0,_,c0,_,a1,_,c1,_,a2,_,c2,_,a3,_,c3,_,a4,n,c4,_,a5,_,c5,_,A,c,es.map EvA.ev,by rw[hlm],by rw[hlm];exact hlc,⟨h1,h4,by rw[hlm];omega,by rw[hlm];exact hE _ _ hok.fzIn,fun k e hk=>?_⟩,WI _ _ hok.fzIn,fun W g hW hg1 hg2=>⟨by rw[hlm];exact hE _ _ (Gw hok hW hg1 hg2),WI _ _ (Gw hok hW hg1 hg2)⟩,Gv hok⟩;rw[List.getElem?_map] at hk
  cases hp:es[k]? with
  | none=>rw [hp] at hk;simp at hk
  |
   some x=>
   rw[hp] at hk;simp only[Option.map_some,Option.some.injEq] at hk;subst hk;exact ZK (hev k x hp)
theorem ZQ:RZ:=J9
end Go.Proofs.YtfbkkgfkhhibfaaGreat
namespace AM
open Go Go.Proofs Go.Proofs.YtfbkkgfkhhibfaaGreat Mk Iv
set_option maxRecDepth 20000
set_option maxHeartbeats 8000000
@[go_sem] theorem aol:lay Tryz.prog 39=some (true,4)∧
 lay Tryz.prog 24=some (true,4)∧
 lay Tryz.prog 68=some (true,2)∧
 lay Tryz.prog 36=some (false,1)∧
 aS Tryz.prog 36=some (68,2,16)∧
 aQ Tryz.prog 39 0=some 0∧
 aQ Tryz.prog 39 1=some 1∧
 aQ Tryz.prog 39 2=some 2∧
 aQ Tryz.prog 39 3=some 3∧
 aQ Tryz.prog 24 0=some 0∧
 aQ Tryz.prog 24 1=some 1∧
 aQ Tryz.prog 24 2=some 2∧
 aQ Tryz.prog 24 3=some 3∧
 bY Tryz.prog 39=some [.pv (ag 0),.emp,.pv (ag 0),.emp]∧
 bY Tryz.prog 68=some [.pv (ag 0),.pv (ag 0)]∧
 bG Tryz.prog 39=some [(0,1),(1,1),(2,1),(3,1)]∧
 bG Tryz.prog 68=some [(0,1),(1,1)]:=by and_intros <;> kernel_rfl
def ajc:Nat→List (Nat×Nat):=fun i=>if i=5 then [(1,3),(1,5),(1,6),(1,10),(3,10),(5,10),(6,10),(1,12),(3,12),(5,12),(6,12),(1,13),(3,13),(5,13),(6,13)] else if i=9 then [(1,3),(1,5),(1,6)] else []
attribute [local go_sem] List.set_cons_zero List.set_cons_succ List.map_append List.length_append List.map_cons List.map_nil List.length_singleton
end AM
namespace AM
open Go Go.Proofs Go.Proofs.YtfbkkgfkhhibfaaGreat Go.RowKit Mk Iv
theorem Ld {fr:Fr}{Ψ:Psi}{loc:Loc}{σ:Sto}{w:World}(hok:Ok fr Ψ loc σ w){l:List Int}{v:Value}(h:Rep Ψ (.sl (PG l)) v):∃A c,v= .slice A l.length c∧Lies w w.heap.size 1 A l.length (l.map Iv.iv):=by
 generalize he:PG l=els at h
 cases h with
 |
  nil=>
  have:l= []:=List.map_eq_nil_iff.1 he;subst this;exact⟨_,_,rfl,⟨rfl,fun h=>absurd h (Nat.lt_irrefl 0)⟩⟩
 |
  @sl _ b o c n k f hn hnc hk hf hr=>
  subst he;rw[List.length_map] at hn;subst hn;refine⟨_,_,rfl,by simp,fun h0=>?_⟩;have hk1:k=1:=(hk _ (List.mem_map_of_mem (List.getElem_mem h0))).symm;subst hk1
  have hc:∀i (hi:i < l.length),w.cell? ⟨b,o+i,none⟩=some (Iv.iv l[i]):=fun i hi=>by
   have h1:cellOf (PG l) i 0=some (ag l[i]):=by simp[cellOf,hi]
   have h2:=hok.fz _ _ _ (hf i 0 _ h1);rw[Nat.mul_one,Nat.add_zero] at h2;rw[h2,(dA (loc:=loc) (.pv (hr i 0 _ h1))).1];rfl
  refine⟨⟨b,o,none⟩,rfl,World.block_lt_of_cell? w _ (hc 0 h0),fun j u hu=>?_⟩;rw[List.getElem?_map] at hu
  cases hx:l[j]? with
  | none=>rw [hx] at hu;simp at hu
  |
   some x=>
   obtain⟨hj,rfl⟩:=List.getElem?_eq_some_iff.1 hx;rw[hx] at hu;simp only[Option.map_some,Option.some.injEq] at hu;subst hu;have:=hc j hj;rw[←this];congr 1;unfold Addr.add;split
   · simp_all
   · rfl
end AM
namespace Go.Proofs.YtfbkkgfkhhibfaaGreat
open Go Go.RowKit Iv AM
end Go.Proofs.YtfbkkgfkhhibfaaGreat
namespace AM
open Go Go.Proofs Go.Proofs.YtfbkkgfkhhibfaaGreat Mk Iv
set_option maxRecDepth 20000
set_option maxHeartbeats 8000000
@[go_sem] theorem am7:lay Tryz.prog 57=some (true,4)∧
 aQ Tryz.prog 57 0=some 0∧
 aQ Tryz.prog 57 1=some 1∧
 aQ Tryz.prog 57 2=some 2∧
 aQ Tryz.prog 57 3=some 3:=by and_intros <;> kernel_rfl
attribute [local go_sem] List.set_cons_zero List.set_cons_succ List.map_append List.length_append List.map_cons List.map_nil List.length_singleton
end AM
namespace Go.Proofs.YtfbkkgfkhhibfaaGreat
open Go Go.RowKit Iv AM
end Go.Proofs.YtfbkkgfkhhibfaaGreat
namespace AM
open Go Go.Proofs Go.Proofs.YtfbkkgfkhhibfaaGreat Mk Iv
set_option maxRecDepth 20000
set_option maxHeartbeats 8000000
attribute [local go_sem] List.set_cons_zero List.set_cons_succ List.map_append List.length_append List.map_cons List.map_nil List.length_singleton
theorem Lc (n:Nat)(h1:1≤n)(h4:n≤4)(cap stop:Nat)(hc:cap < 256)(hs:stop < 256)(xs ys:List UInt8)(hx:xs.length≤9223372036854775807)(hy:ys.length≤9223372036854775807):ACall Tryz.prog 20 [rw_ [.sc (.int .u8 cap),.sc (.int .u8 stop),NL xs,NL ys],.pv (ag n)] [] (fun v g=>∃p,PlnG n p∧v= .agg [.pv (ag p.cap),.own 0 p.flushes.length,.pv (ag p.stop),.pv (.sl (PG p.cuts))]∧g= [some (.row 68 2 (p.flushes.map QZ))]):=by
 refine wz Tryz.func20 ajc (h:=fun R hR=>?_);refine wb ?_ <;> intros
 have hC8:IntKind.i64.wrap ((cap:Int).tmod 8+1)=((cap % 8+1:Nat):Int):=by
  show IntKind.i64.wrap (((cap % 8:Nat):Int)+1)=_;rw[IntWalk.i64_in _ (by omega)];omega
 generalize IntKind.i64.wrap ((cap:Int).tmod 8+1)=c0 at hC8;refine bK 88 1 68 2 rfl rfl ?_;refine wl (fun u:List (Int×Int)=> [(1,.pv (ag n)),(2,.ptr 0 0),(4,.ptr 1 0),(5,.ptr 2 0),(6,.pv (ag u.length))]) (fun u=> [some (.box [.pv (.sc (.int .u8 cap)),.pv (.sc (.int .u8 stop)),.pv (NL xs),.pv (NL ys)]),some (.box [.pv (ag 0),.emp,.pv (ag 0),.emp]),some (.box [.pv (ag c0),.own 3 u.length,.pv (ag stop),.emp]),some (.row 68 2 (u.map QZ))]) (fun u=>u.length≤xs.length∧u.length≤20∧∀f∈u,0≤f.1∧f.1≤255∧0≤f.2∧f.2 < n) (fun u=>xs.length - u.length) [] ⟨Nat.zero_le _,Nat.zero_le _,fun f h=>nomatch h⟩ (vm [0,8,88,112]) (fun u ⟨hu,amr,hf⟩=>?_);refine wb (A2.mk ?_ (A2.mk ?_ ?_)) <;> intros
 · have h2:u.length < xs.length:=by omega
   have hg:=List.getElem?_eq_getElem h2;generalize xs[u.length]=x at hg;have hx8:=x.toNat_lt;have hxr:(xs.map fun x=> [PV.sc (.int .u8 x.toNat)])[u.length]?=some [.sc (.int .u8 x.toNat)]:=by rw[List.getElem?_map,hg];rfl
   refine au (by omega) hxr rfl ?_;refine wb ?_ <;> intros
   refine au (by omega) hxr rfl ?_;refine wb ?_ <;> intros
   have hd:IntKind.i64.wrap ((x.toNat:Int).tdiv 4)=((x.toNat / 4:Nat):Int):=by
    show IntKind.i64.wrap ((x.toNat / 4:Nat):Int)=_;exact IntWalk.i64_in _ (by omega)
   have hm:x.toNat % n < n:=Nat.mod_lt _ (by omega);refine ai ⟨u++ [(IntKind.i64.wrap ((x.toNat:Int).tdiv 4),((x.toNat % n:Nat):Int))],⟨by rw[List.length_append];simp only[List.length_singleton];omega,by rw[List.length_append];simp only[List.length_singleton];omega,fun f hm'=>?_⟩,by rw[List.length_append];simp only[List.length_singleton];omega,by clear hd;exact vm [0,1,2,228]⟩;rcases List.mem_append.1 hm' with hm' | hm'
   · exact hf f hm'
   · rw[List.mem_singleton.1 hm'];dsimp only;rw[hd];omega
 all_goals
  refine bK 2 3 3 1 rfl rfl ?_;refine wl (fun v:List Int=> [(1,.pv (ag n)),(2,.ptr 0 0),(4,.ptr 1 0),(5,.ptr 2 0),(7,.pv (ag v.length))]) (fun v=> [some (.box [.pv (.sc (.int .u8 cap)),.pv (.sc (.int .u8 stop)),.pv (NL xs),.pv (NL ys)]),some (.box [.pv (ag 0),.emp,.pv (ag 0),.emp]),some (.box [.pv (ag c0),.own 3 u.length,.pv (ag stop),.own 4 v.length]),some (.row 68 2 (u.map QZ)),some (.row 3 1 (PG v))]) (fun v=>v.length≤ys.length∧v.length≤n∧∀k∈v,0≤k∧k≤255) (fun v=>ys.length - v.length) [] ⟨Nat.zero_le _,Nat.zero_le _,fun f h=>nomatch h⟩ (vm [0,1,2,3,84]) (fun v ⟨hv,hvn,hk⟩=>?_);refine wb (A2.mk ?_ (A2.mk ?_ ?_)) <;> intros
  · have h2:v.length < ys.length:=by omega
    have hg:=List.getElem?_eq_getElem h2;generalize ys[v.length]=x at hg;have hx8:=x.toNat_lt;have hxr:(ys.map fun x=> [PV.sc (.int .u8 x.toNat)])[v.length]?=some [.sc (.int .u8 x.toNat)]:=by rw[List.getElem?_map,hg];rfl
    refine au (by omega) hxr rfl ?_;refine wb ?_ <;> intros
    refine ai ⟨v++ [(x.toNat:Int)],⟨by rw[List.length_append];simp only[List.length_singleton];omega,by rw[List.length_append];simp only[List.length_singleton];omega,fun f hm'=>?_⟩,by rw[List.length_append];simp only[List.length_singleton];omega,vm [0,1,2,3,157]⟩;rcases List.mem_append.1 hm' with hm' | hm'
    · exact hk f hm'
    · rw[List.mem_singleton.1 hm'];omega
  all_goals exact wo hR (.agg [.pv (ag c0),.own 0 u.length,.pv (ag stop),.pv (.sl (PG v))]) [some (.row 68 2 (u.map QZ))] [3] [(4,none)] ⟨⟨c0,u,stop,v⟩,⟨by show 1≤c0;omega,by show c0≤8;omega,by show (0:Int)≤stop;omega,by show (stop:Int)≤255;omega,amr,hf,hvn,hk⟩,rfl,rfl⟩
end AM
namespace AM
open Go Go.Proofs Go.Proofs.YtfbkkgfkhhibfaaGreat Go.RowKit Mk Iv
theorem Xg {Ψ:Psi}{loc:Loc}{g:List (Option Obj)}{w0 w:World}{B l n:Nat}{u:List (Int×Int)}{x:Value}(hok:Ok (O7 w0 B) Ψ loc (kZ g) w)(h:RepA Ψ loc (.own l n) x)(hg:kZ g l=some (.row 68 2 (u.map QZ)))(hn:n=u.length):
 ∃A c,x= .slice A n c∧OwF w w0.heap.size (.slice A n c) u:=by
 cases h with
 |
  @own _ _ c A hl hnc=>
  obtain⟨A',c',hl',h2⟩:=hok.ob l _ hg;rw[hl] at hl';injection hl' with hl';injection hl' with e1 e2;subst e1 e2 hn;refine⟨A,c,rfl,?_⟩;rcases h2 with ⟨h,h0⟩ | ⟨h0,b,cur,rfl,hh,h3,h4,h5,h6,h7⟩
  · have:u= []:=List.map_eq_nil_iff.1 h;subst this;subst h0;exact .inr ⟨rfl,A,rfl⟩
  · have hb:blk loc l=some b:=by
     obtain⟨c',rfl⟩:∃c',c=c'+1:=⟨c - 1,by omega⟩;simp[blk,hl]
    have hcell:∀(k:Nat) f,u[k]?=some f→cur[k * 2]?=some (.int .i64 f.1)∧cur[k * 2+1]?=some (.int .i64 f.2):=fun k f hk=>by
     have hs:∀j v,(QZ f)[j]?=some (.sc v)→cur[k * 2+j]?=some v:=fun j v hq=>by
      obtain⟨y,q1,q2⟩:=h7 k j (.sc v) (by simp only[cellOf,List.getElem?_map,hk,Option.map_some,Option.bind_some];exact hq);rw[q1,(dA (loc:=loc) (.pv q2)).1]
     exact⟨hs 0 _ rfl,hs 1 _ rfl⟩
    refine .inl ⟨Eg u,.inr ⟨b,c,cur,rfl,Nat.le_of_not_lt (hok.ow l _ b hg hb).1,hh,hnc,h4,h5,?_⟩⟩;refine List.ext_getElem? fun i=>?_
    by_cases hi:i < u.length * 2
    · rw[List.getElem?_take_of_lt hi];have hk:i / 2 < u.length:=by omega
      have hu:=List.getElem?_eq_getElem hk;obtain⟨c1,c2⟩:=hcell _ _ hu;obtain⟨d1,d2⟩:=Eh _ _ _ hu;rw[Array.getElem?_toList];rcases Nat.mod_two_eq_zero_or_one i with h | h
      · have e:i=i / 2 * 2:=by omega
        generalize i / 2=q at *
        subst e;rw[c1,d1]
      · have e:i=i / 2 * 2+1:=by omega
        generalize i / 2=q at *
        subst e;rw[c2,d2]
    · rw[List.getElem?_eq_none (by rw[List.length_take];omega),List.getElem?_eq_none (by rw[Eg];omega)]
end AM
namespace Go.Proofs.YtfbkkgfkhhibfaaGreat
open Go Go.RowKit Iv AM
theorem yJ (w:World)(n cap stop:Nat)(h1:1≤n)(h4:n≤4)(hc:cap < 256)(hs:stop < 256)(A1:Option Addr)(n1 c1 B1:Nat)(xs:Bytes)(hx:Lies w B1 1 A1 n1 (xs.map bv))(hc1:n1≤c1)(hm1:c1≤maxLen)(ho1:A1=none→c1=0)(A2:Option Addr)(n2 c2 B2:Nat)(ys:Bytes)(hy:Lies w B2 1 A2 n2 (ys.map bv))(hc2:n2≤c2)(hm2:c2≤maxLen)(ho2:A2=none→c2=0):
 Calls Tryz.prog 20 #[.agg #[.int .u8 (cap:Int),.int .u8 (stop:Int),.slice A1 n1 c1,.slice A2 n2 c2],.int .i64 (n:Int)] w fun e w'=>
  ∃(p:Pln) (Af:Option Addr) (cf:Nat) (Ac:Option Addr) (cc:Nat),e= .returned (.agg (qF p Af p.flushes.length cf Ac p.cuts.length cc))∧PlnG n p∧OwF w' w.heap.size (.slice Af p.flushes.length cf) p.flushes∧Lies w' w'.heap.size 1 Ac p.cuts.length (p.cuts.map iv)∧w.grownBy w' none:=by
 have l1:xs.length=n1:=by have:=hx.1;rw[List.length_map] at this;omega
 have l2:ys.length=n2:=by have:=hy.1;rw[List.length_map] at this;omega
 unfold maxLen at hm1 hm2;refine (join (Lc n h1 h4 cap stop hc hs xs ys (by omega) (by omega)) w (max B1 B2) _ ⟨rfl,fun j v hv=>?_⟩).mono ?_
 · match j,hv with
   |
    0,hv=>
    injection hv with hv;subst hv;refine⟨_,rfl,.agg (fun j=>(#[.int .u8 (cap:Int),.int .u8 (stop:Int),.slice A1 n1 c1,.slice A2 n2 c2]:Array Value).getD j undef) rfl (fun j hj=>?_) (fun j u hu=>?_)⟩
    · have h4:j < 4:=hj;obtain rfl | rfl | rfl | rfl:j=0∨j=1∨j=2∨j=3:=by omega
      all_goals rfl
    · match j,hu with
      | 0,hu=>injection hu with hu;subst hu;exact .pv (.sc rfl)
      | 1,hu=>injection hu with hu;subst hu;exact .pv (.sc rfl)
      | 2,hu=>injection hu with hu;subst hu;exact .pv (qf (hx.more (Nat.le_max_left B1 B2)) hc1 ho1)
      | 3,hu=>injection hu with hu;subst hu;exact .pv (qf (hy.more (Nat.le_max_right B1 B2)) hc2 ho2)
   | 1,hv=>injection hv with hv;subst hv;exact⟨_,rfl,.pv (.sc rfl)⟩
 rintro e w' ⟨r,v,g,Ψ,loc,rfl,⟨p,hp,rfl,rfl⟩,hv,hok⟩
 cases hv with
 |
  @agg _ us f hz hx' hr=>
  have e0:=(dA (hr 0 _ rfl)).1;have e2:=(dA (hr 2 _ rfl)).1;obtain⟨Af,cf,e1,hF⟩:=Xg hok (hr 1 _ rfl) rfl rfl
  obtain⟨Ac,cc,e3,hC⟩:∃A c,f 3= .slice A p.cuts.length c∧Lies w' w'.heap.size 1 A p.cuts.length (p.cuts.map iv):=by
   have:=hr 3 _ rfl
   cases this with
   | pv h=>exact Ld hok h
  have hus:us=qF p Af p.flushes.length cf Ac p.cuts.length cc:=by
   refine Array.ext (by rw[hz];rfl) (fun j h1 h2=>?_);have h3:j < 4:=h2;have q:=hx' j h3;rw[Array.getElem?_eq_getElem h1] at q;injection q with q;rw[q];obtain rfl | rfl | rfl | rfl:j=0∨j=1∨j=2∨j=3:=by omega
   · exact e0
   · exact e1
   · exact e2
   · exact e3
  subst hus;exact⟨p,Af,cf,Ac,cc,rfl,hp,hF,hC,Gv hok⟩
theorem aaq:TL:=yJ
