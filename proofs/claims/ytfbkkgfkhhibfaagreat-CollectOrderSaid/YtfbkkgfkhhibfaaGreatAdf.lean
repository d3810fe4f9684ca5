/- Words. -/
import Derived.Test.YtfbkkgfkhhibfaaGreatAdw
set_option linter.unusedVariables false
set_option linter.unusedSimpArgs false
namespace AM
open Go Go.RowKit
def freeK (o:Oper):Bool:=
 match o.op with
 | .move _ | .assign _ | .pick .. | .build .. | .buildSlice .. | .nilCheck _ | .binOp .. | .unOp .. | .convert .. | .makeSlice .. | .fieldAddr .. | .index .. | .extract .. =>true
 | .call { callee:= .builtin .len,.. } | .call { callee:= .builtin .max,.. } =>true
 | _=>false
def KL (o:Oper)(acc:List Nat):Nat:=o.after.toList.foldl (fun m e=>if Region.binds .any e then m ||| (1 <<< e.on) ||| acc.getD e.on 0 else m) 0
def masks:List Oper→List Nat→List Nat
 | [],acc=>acc
 | o :: r,acc=>masks r (acc++ [KL o acc])
def WE (ops:Array Oper)(U:List (Nat×Nat)):Bool:=
 let m:=masks ops.toList []
 (List.range ops.size).all fun j=>match ops[j]? with
  | none=>false
  |
   some oj=>oj.after.toList.all (fun e=>!Region.binds .any e || decide (e.on < j)) &&
   (List.range j).all fun i=>(m.getD j 0).testBit i || match ops[i]? with
    | none=>false
    | some oi=>oi.apart ops oj &&(freeK oi || freeK oj || U.contains (i,j))
def yj (nt:Nat)(ops:Array Oper):Bool:=ops.toList.all fun o=>match o.dst with
 | none=>true
 | some d=>decide (d < nt)
section
variable {P : Program} {ops : Array Oper} {nx : Nat}
inductive Anc (ops:Array Oper):Nat→Nat→Prop
 | one {i j:Nat} {o:Oper} {e:Edge} (h:ops[j]?=some o) (he:e∈o.after) (hb:Region.binds .any e=true) (hi:e.on=i):Anc ops i j
 | more {i k j:Nat} {o:Oper} {e:Edge} (h:ops[j]?=some o) (he:e∈o.after) (hb:Region.binds .any e=true) (hk:e.on=k) (ha:Anc ops i k):Anc ops i j
theorem KN {o:Oper}{acc:List Nat}{i:Nat}(h:(KL o acc).testBit i=true):∃e∈o.after,Region.binds .any e=true∧(e.on=i∨(acc.getD e.on 0).testBit i=true):=by
 have key:∀(es:List Edge) (m:Nat),(es.foldl (fun m e=>if Region.binds .any e then m ||| (1 <<< e.on) ||| acc.getD e.on 0 else m) m).testBit i=true→m.testBit i=true∨∃e∈es,Region.binds .any e=true∧(e.on=i∨(acc.getD e.on 0).testBit i=true):=by
  intro es;induction es with
  | nil=>intro m h;exact .inl h
  |
   cons e r ih=>
   intro m h;rcases ih _ h with h | ⟨e',h1,h2⟩
   · dsimp only at h;split at h
     · rename_i hb
       rw[Nat.testBit_or,Nat.testBit_or] at h;simp only[Bool.or_eq_true] at h;rcases h with (h | h) | h
       · exact .inl h
       · right;refine⟨e,by simp,hb,.inl ?_⟩;rw[Nat.one_shiftLeft,Nat.testBit_two_pow] at h;simpa using h
       · exact .inr ⟨e,by simp,hb,.inr h⟩
     · exact .inl h
   · exact .inr ⟨e',by simp[h1],h2⟩
 rcases key o.after.toList 0 h with h | ⟨e,h1,h2⟩
 · simp at h
 · exact⟨e,by simpa using h1,h2⟩
theorem BG {i:Nat} :∀(os:List Oper) (acc:List Nat),(∀j o,os[j]?=some o→ops[acc.length+j]?=some o)→(∀j,(acc.getD j 0).testBit i=true→Anc ops i j)→∀j,((masks os acc).getD j 0).testBit i=true→Anc ops i j
 | [],acc,_,h,j,hb=>h j hb
 |
  o :: r,acc,ho,h,j,hb=>by
  refine BG r (acc++ [KL o acc]) (fun j o' hj=>?_) (fun j hb=>?_) j hb
  · have:=ho (j+1) o' (by simpa using hj)
    rw[←this]
    congr 1
    simp
    omega
  · rw[List.getD_eq_getElem?_getD] at hb
    by_cases hj:j < acc.length
    · rw[List.getElem?_append_left hj,←List.getD_eq_getElem?_getD] at hb
      exact h j hb
    · by_cases hj2:j=acc.length
      · subst hj2
        simp at hb
        obtain⟨e,h1,h2,h3⟩:=KN hb
        have hop:=ho 0 o rfl
        simp only[Nat.add_zero] at hop
        rcases h3 with h3 | h3
        · exact .one hop h1 h2 h3
        · exact .more hop h1 h2 rfl (h _ h3)
      · rw[List.getElem?_eq_none (by simp;omega)] at hb
        simp at hb
structure ChkD (ops:Array Oper)(U:List (Nat×Nat)):Prop where
 top:∀j o,ops[j]?=some o→∀e∈o.after,Region.binds .any e=true→e.on < j
 pair:∀i j oi oj,i < j→ops[i]?=some oi→ops[j]?=some oj→Anc ops i j∨(oi.apart ops oj=true∧(freeK oi=true∨freeK oj=true∨(i,j)∈U))
theorem O3 {U:List (Nat×Nat)}(h:WE ops U=true):ChkD ops U:=by
 unfold WE at h;simp only[List.all_eq_true,List.mem_range] at h;refine⟨fun j o hj e he hb=>?_,fun i j oi oj hij hi hj=>?_⟩
 · have h1:=h j (Array.getElem?_eq_some_iff.1 hj).1;rw[hj] at h1;simp only[Bool.and_eq_true,List.all_eq_true] at h1;have h2:=h1.1 e (by simpa using he);simpa [hb] using h2
 · have h1:=h j (Array.getElem?_eq_some_iff.1 hj).1;rw[hj] at h1;simp only[Bool.and_eq_true,List.all_eq_true,List.mem_range] at h1;have h2:=h1.2 i hij;rw[hi] at h2;simp only[Bool.or_eq_true,Bool.and_eq_true] at h2;rcases h2 with h2 | ⟨h2,h3⟩
   · exact .inl (BG ops.toList [] (fun j o hj=>by simpa using hj) (fun j hb=>by simp at hb) j h2)
   · refine .inr ⟨h2,?_⟩;rcases h3 with (h3 | h3) | h3
     · exact .inl h3
     · exact .inr (.inl h3)
     · exact .inr (.inr (by simpa using h3))
theorem BH {i:Nat}{o:Oper}{env:Env}{σ:Sto}{x:EX}(hf:freeK o=true)(h:Sp P ops nx i o env σ x):x.key.rd= []∧x.key.wr= []∧x.key.det=true∧x.key.isC=false∧∀v G,x.out v G→G= []:=by
 cases h with
 | skip=>exact ⟨rfl,rfl,rfl,rfl,fun v G h=>h.2⟩
 |
  op hg h=>
  rename_i d
  have key:d.rd= []∧d.upd= []∧d.det=true:=by
   have hv:∀ {α:Type} {x:Option α} {f:α→DO},x.map f=some d→(∀a,(f a).rd= []∧(f a).upd= []∧(f a).det=true)→d.rd= []∧d.upd= []∧d.det=true:=fun hm hf=>by
    obtain⟨a,_,rfl⟩:=map_some hm;exact hf a
   unfold freeK at hf;unfold dop at h;split at hf
   all_goals first
    | (cases hf;done)
    | (
     rename_i ho
     simp only[ho] at h
     first
      | exact hv h (fun _=>⟨rfl,rfl,rfl⟩)
      | (
       repeat' split at h
       all_goals first
        | (cases h;done)
        | exact hv h (fun _=>⟨rfl,rfl,rfl⟩)
        | (injection h with h;subst h;exact⟨rfl,rfl,rfl⟩))
      | (
       obtain⟨a,_,h⟩:=bind_some h;split at h
       · injection h with h;subst h;exact⟨rfl,rfl,rfl⟩
       · cases h)
      | (
       unfold nH at h;repeat' split at h
       all_goals first
        | (cases h;done)
        | contradiction
        | exact hv h (fun _=>⟨rfl,rfl,rfl⟩)
        | (injection h with h;subst h;exact⟨rfl,rfl,rfl⟩)))
  exact⟨key.1,by simp[DO.wr,key.2.1],key.2.2,rfl,fun v G h=>h.2.trans key.2.1⟩
 |
  call hg ho=>
  unfold freeK at hf;rw[ho] at hf
  cases hf
def iw (P:Program)(ops:Array Oper)(nx:Nat)(U:List (Nat×Nat))(K:Env→Sto→Prop):List (Nat×Key)→List Nat→Env→Sto→Prop
 | _,[],env,σ=>K env σ
 |
  log,i :: l,env,σ=>match ops[i]? with
  | none=>iw P ops nx U K log l env σ
  | some o=>exec P ops nx i o (fun env σ k=>(∀e∈log,(e.1,i)∈U→mZ (nx+8 * e.1) e.2 k)∧iw P ops nx U K (log++ [(i,k)]) l env σ) env σ
theorem tZ {U:List (Nat×Nat)}{K:Env→Sto→Prop} :∀(l:List Nat) (log rQ:List (Nat×Key)) (env:Env) (σ:Sto),(∀e∈rQ,e∈log)→iw P ops nx U K log l env σ→iw P ops nx U K rQ l env σ
 | [],_,_,_,_,_,h=>h
 |
  i :: l,log,rQ,env,σ,hs,h=>by
  unfold iw at h⊢
  cases hi:ops[i]? with
  | none=>simp only[hi] at h⊢;exact tZ l log rQ env σ hs h
  |
   some o=>
   simp only[hi] at h⊢
   exact jX h (fun e s k hk=>⟨fun x hx=>hk.1 x (hs x hx),tZ l _ _ e s (fun x hx=>by
    rcases List.mem_append.1 hx with hx | hx
    · exact List.mem_append_left _ (hs x hx)
    · exact List.mem_append_right _ hx) hk.2⟩)
theorem SK {i l:Nat} :SL (nx+8 * i) l=own nx i l:=rfl
theorem front {U:List (Nat×Nat)}{K:Env→Sto→Prop}{j:Nat}{oj:Oper}(hj:ops[j]?=some oj)(l2:List Nat):∀(l1:List Nat) (log:List (Nat×Key)) (env:Env) (σ:Sto),
 (∀i∈l1,i≠j∧∀oi,ops[i]?=some oi→oi.apart ops oj=true∧(freeK oi=true∨freeK oj=true∨(i,j)∈U))→(∀i,(i=j∨i∈l1)→∀l,own nx i l=true→σ l=none)→l1.Nodup→
 iw P ops nx U K log (l1++j :: l2) env σ→exec P ops nx j oj (fun e s k=>(∀x∈log,(x.1,j)∈U→mZ (nx+8 * x.1) x.2 k)∧iw P ops nx U K log (l1++l2) e s) env σ
 |
  [],log,env,σ,_,_,_,h=>by
  simp only[List.nil_append] at h⊢
  unfold iw at h
  simp only[hj] at h
  exact jX h (fun e s k hk=>⟨hk.1,tZ l2 _ _ e s (fun x hx=>List.mem_append_left _ hx) hk.2⟩)
 |
  i :: l1,log,env,σ,hp,hf,hnd,h=>by
  obtain⟨hij,hpi⟩:=hp i (by simp)
  simp only[List.cons_append] at h⊢
  unfold iw at h
  cases hi:ops[i]? with
  |
   none=>
   simp only[hi] at h
   refine jX (front hj l2 l1 log env σ (fun q hq=>hp q (by simp[hq])) (fun q hq=>hf q (by rcases hq with h | h <;> simp[h])) (List.nodup_cons.1 hnd).2 h) (fun e s k hk=>⟨hk.1,?_⟩)
   unfold iw
   simp only[hi]
   exact hk.2
  |
   some oi=>
   simp only[hi] at h
   obtain⟨hap,hu⟩:=hpi oi hi
   have hsw:=swap (P:=P) (ops:=ops) (nx:=nx) (K:=fun e s ki kj=>(∀x∈log,(x.1,i)∈U→mZ (nx+8 * x.1) x.2 ki)∧(∀x∈log,(x.1,j)∈U→mZ (nx+8 * x.1) x.2 kj)∧iw P ops nx U K (log++ [(i,ki)]) (l1++l2) e s) hij hap (hf i (by simp)) (hf j (by simp))
    (GY h (fun xi v G QN ho hk=>?_))
   · refine jX hsw (fun e s kj hk=>?_)
     have hk0:=hk
     obtain⟨x,_,_,⟨v0,G0,h0⟩,hx⟩:=hk0
     refine⟨(hx v0 G0 h0).2.1,?_⟩
     unfold iw
     simp only[hi]
     exact jX hk (fun e s ki hk=>⟨hk.1,hk.2.2⟩)
   · have hfresh:∀q,(q=j∨q∈l1)→∀l,own nx q l=true→(σ.upds G) l=none:=fun q hq l hl=>by
      have hqi:q≠i:=by
       rcases hq with rfl | hq
       · exact Ne.symm hij
       · exact fun e=>(List.nodup_cons.1 hnd).1 (e▸hq)
      have h0:=hf q (by rcases hq with h | h <;> simp[h]) l hl
      rw[dE _ _ _ (fun hm=>?_)]
      · exact h0
      · rcases pO QN ho l hm with h1 | ⟨_,h1 | h1⟩
        · have a:=jg.1 h1;have b:=jg.1 hl;omega
        · have a:=jg.1 h1;have b:=jg.1 hl;omega
        · exact h1 h0
     have ih:=front hj l2 l1 (log++ [(i,xi.key)]) (env.put oi.dst v) (σ.upds G) (fun q hq=>hp q (by simp[hq])) hfresh (List.nodup_cons.1 hnd).2 hk.2
     refine GY ih (fun xj vj Gj spj hoj hkj=>⟨?_,hk.1,fun x hx=>hkj.1 x (List.mem_append_left _ hx),hkj.2⟩)
     rcases hu with hu | hu | hu
     · obtain⟨r1,r2,r3,r4,r5⟩:=BH hu QN
       have hG:=r5 v G ho
       subst hG
       refine⟨(fun l hl=>by rw[r2] at hl;cases hl),(fun l hl=>by rw[r1];simp),(fun _ l hl=>?_),.inr r3⟩
       have hne:σ l≠none:=rU spj l (List.mem_append.1 hl)
       rw[SK]
       cases hown:own nx i l with
       | false=>rfl
       | true=>exact absurd (hf i (by simp) l hown) hne
     · obtain⟨r1,r2,r3,r4,_⟩:=BH hu spj
       exact⟨(fun l hl=>by rw[r1,r2];simp),(fun l hl=>by rw[r2] at hl;cases hl),(fun _ l hl=>by rw[r1,r2] at hl;simp at hl),.inl r4⟩
     · exact hkj.1 (i,xi.key) (List.mem_append_right _ (by simp)) hu
def adI (fr:Fr)(nt nx:Nat)(K:Env→Sto→Prop)(a:Act)(w:World):Prop:=
 ∃env σ Ψ loc,Rel fr Ψ loc nt env σ a w∧(∀l,nx≤l→loc l=none∧σ l=none)∧K env σ
def BI (nx:Nat)(done:Nat→Prop)(loc:Loc)(σ:Sto):Prop:=∀l,nx≤l→(∀i,done i→own nx i l=false)→loc l=none∧σ l=none
theorem GZ {i l:Nat}{done:Nat→Prop}(hd:¬done i)(h:own nx i l=true):nx≤l∧∀q,done q→own nx q l=false:=by
 have h1:=jg.1 h;refine⟨by omega,fun q hq=>?_⟩;have hne:q≠i:=fun e=>hd (e▸hq)
 exact rV.2 (by omega)
theorem yu {i:Nat}{done:Nat→Prop}{loc loc':Loc}{σ σ':Sto}(h:BI nx done loc σ)(h1:∀l,own nx i l=false→loc' l=loc l)(h2:∀l,own nx i l=false→σ l=none→σ' l=none):BI nx (fun q=>done q∨q=i) loc' σ':=fun l hl hq=>by
 have h0:=hq i (.inr rfl)
 obtain⟨a,b⟩:=h l hl (fun q hd=>hq q (.inl hd))
 exact⟨by rw[h1 l h0];exact a,h2 l h0 b⟩
def G7 (P:Program)(ops:Array Oper)(nx:Nat)(K:Env→Sto→Prop):List Nat→Env→Sto→Prop
 | [],env,σ=>K env σ
 |
  i :: l,env,σ=>match ops[i]? with
  | none=>G7 P ops nx K l env σ
  | some o=>QZ P ops nx i o (fun env σ _=>G7 P ops nx K l env σ) env σ
theorem SN {nt i:Nat}{o:Oper}(h:yj nt ops=true)(hi:ops[i]?=some o):∀d,o.dst=some d→d < nt:=fun d hd=>by
 unfold yj at h
 have:=List.all_eq_true.1 h o (List.mem_of_getElem? (by simpa using hi))
 rw[hd] at this
 simpa using this
theorem ug {Q:Exit→Act→World→Prop}{fr:Fr}{nt:Nat}{K:Env→Sto→Prop}(hnt:yj nt ops=true):∀(l:List Nat) (done:Nat→Prop) (env:Env) (σ:Sto) (Ψ:Psi) (loc:Loc) (a:Act) (w:World),
 l.Nodup→(∀i∈l,¬done i)→Rel fr Ψ loc nt env σ a w→BI nx done loc σ→G7 P ops nx K l env σ→(∀env σ Ψ loc a w,Rel fr Ψ loc nt env σ a w→BI nx (fun q=>done q∨q∈l) loc σ→K env σ→Q .normal a w)→wpOps P ops Q l a w
 | [],done,env,σ,Ψ,loc,a,w,_,_,hr,hf,h,hQ=>hQ env σ Ψ loc a w hr (fun q hq hd=>hf q hq (fun i hi=>hd i (.inl hi))) h
 |
  i :: l,done,env,σ,Ψ,loc,a,w,hnd,hnot,hr,hf,h,hQ=>by
  rw[wpOps_cons]
  unfold G7 at h
  cases hi:ops[i]? with
  |
   none=>
   simp only[hi] at h
   unfold wpOp
   rw[hi]
   exact ug hnt l done env σ Ψ loc a w (List.nodup_cons.1 hnd).2 (fun q hq=>hnot q (by simp[hq])) hr hf h (fun env σ Ψ loc a w h1 h2 h3=>hQ env σ Ψ loc a w h1 (fun q hq hd=>h2 q hq (fun j hj=>hd j (by rcases hj with hj | hj <;> simp[hj]))) h3)
  |
   some o=>
   simp only[hi] at h
   refine wpOp_mono (fun a' w' hb=>?_) (yw (Q:=Q) hi (SN hnt hi) hr (fun q hq=>by
    obtain⟨h1,h2⟩:=GZ (hnot i (by simp)) hq
    exact hf q h1 h2) h)
   obtain⟨env',σ',k,Ψ',loc',hr',hk,h1,h2⟩:=hb
   refine ug hnt l (fun q=>done q∨q=i) env' σ' Ψ' loc' a' w' (List.nodup_cons.1 hnd).2 (fun q hq hd=>?_) hr' (yu hf h1 h2) hk (fun env σ Ψ loc a w h1 h2 h3=>hQ env σ Ψ loc a w h1 (fun q hq hd=>h2 q hq (fun j hj=>hd j (by
    rcases hj with (hj | hj) | hj
    · exact .inl hj
    · exact .inr (by simp[hj])
    · exact .inr (by simp[hj])))) h3)
   rcases hd with hd | rfl
   · exact hnot q (by simp[hq]) hd
   · exact (List.nodup_cons.1 hnd).1 hq
theorem DY {Q:Exit→Act→World→Prop}{fr:Fr}{nt id:Nat}{K:Env→Sto→Prop}{env:Env}{σ:Sto}{Ψ:Psi}{loc:Loc}{a:Act}{w:World}(hnt:yj nt ops=true)(hr:Rel fr Ψ loc nt env σ a w)(hf:∀l,nx≤l→loc l=none∧σ l=none)
 (h:G7 P ops nx K (List.range ops.size) env σ) (hQ:∀a w,adI fr nt (nx+8 * ops.size) K a w→Q .normal a w):(Code.region id ops false).wp P Q a w:=by
 refine wp_region (ug hnt _ (fun _=>False) env σ Ψ loc a w List.nodup_range (fun _ _ h=>h) hr (fun l hl _=>hf l hl) h (fun env σ Ψ loc a w h1 h2 h3=>hQ a w ⟨env,σ,Ψ,loc,h1,fun l hl=>h2 l (by omega) (fun q hq=>?_),h3⟩));rcases hq with hq | hq
 · exact hq.elim
 · have:=List.mem_range.1 hq;exact rV.2 (by omega)
theorem SQ {i j:Nat}(h:Anc ops i j):∃o,ops[j]?=some o:=by
 cases h with
 | one h=>exact ⟨_,h⟩
 | more h=>exact ⟨_,h⟩
theorem KO {listed:Array Bool}(hcl:∀j o,ops[j]?=some o→listed.getD j false=true→∀e∈o.after,Region.binds .any e=true→listed.getD e.on false=true){i j:Nat}(h:Anc ops i j):∀o,ops[j]?=some o→(∀e∈o.after,Region.binds .any e=true→listed.getD e.on false=true)→listed.getD i false=true:=by
 induction h with
 |
  one h he hb hi=>
  intro o' ho' hall;rw[h] at ho';injection ho' with ho';subst ho';rw[←hi];exact hall _ he hb
 |
  more h he hb hk ha ih=>
  intro o' ho' hall;rw[h] at ho';injection ho' with ho';subst ho';have hl:=hall _ he hb;rw[hk] at hl;obtain⟨ok,hok⟩:=SQ ha;exact ih ok hok (hcl _ ok hok hl)
theorem G8 {a:Array Bool}{j:Nat}(h:a.getD j true=false):a.getD j false=false∧j < a.size:=by
 rcases Nat.lt_or_ge j a.size with h' | h'
 · simp[h'] at h⊢;exact h
 · simp[Array.getElem?_eq_none h'] at h
theorem uX {Q:Exit→Act→World→Prop}{fr:Fr}{nt:Nat}{U:List (Nat×Nat)}{K:Env→Sto→Prop}(hnt:yj nt ops=true)(hc:ChkD ops U):∀(fuel:Nat) (listed:Array Bool) (rem:List Nat) (env:Env) (σ:Sto) (Ψ:Psi) (loc:Loc) (a:Act) (w:World),
 rem.length=fuel→rem.Pairwise (· < ·)→(∀i,i∈rem ↔ (i < ops.size∧listed.getD i true=false))→listed.size=ops.size→
 (∀j o,ops[j]?=some o→listed.getD j false=true→∀e∈o.after,Region.binds .any e=true→listed.getD e.on false=true)→
 Rel fr Ψ loc nt env σ a w→BI nx (fun q=>q∉rem∧q < ops.size) loc σ→iw P ops nx U K [] rem env σ→(∀env σ Ψ loc a w,Rel fr Ψ loc nt env σ a w→BI nx (fun q=>q < ops.size) loc σ→K env σ→Q .normal a w)→wpAny P .any ops Q fuel listed a w
 |
  0,listed,rem,env,σ,Ψ,loc,a,w,hl,hs,hm,hsz,hcl,hr,hf,h,hQ=>by
  have:rem= []:=List.eq_nil_of_length_eq_zero hl
  subst this
  refine⟨?_,hQ env σ Ψ loc a w hr (fun l h1 h2=>hf l h1 (fun i hi=>h2 i hi.2)) h⟩
  apply List.eq_nil_iff_forall_not_mem.2
  intro j hj
  obtain⟨h1,o,h2,_⟩:=mem_ready.1 hj
  have:=(hm j).2 ⟨(Array.getElem?_eq_some_iff.1 h2).1,h1⟩
  cases this
 |
  fuel+1,listed,rem,env,σ,Ψ,loc,a,w,hl,hs,hm,hsz,hcl,hr,hf,h,hQ=>by
  have hfirst:∃i,i∈Region.ready .any ops listed:=by
   cases rem with
   | nil=>cases hl
   |
    cons i r=>
    obtain⟨h1,h2⟩:=(hm i).1 (by simp)
    refine⟨i,mem_ready.2 ⟨h2,ops[i],Array.getElem?_eq_getElem h1,fun e he hb=>?_⟩⟩
    have hlt:=hc.top i _ (Array.getElem?_eq_getElem h1) e he hb
    have hnot:e.on∉i :: r:=fun hmem=>by
     rcases List.mem_cons.1 hmem with h | h
     · omega
     · have:=(List.pairwise_cons.1 hs).1 _ h;omega
    have hb2:listed.getD e.on true=true:=by
     cases hq:listed.getD e.on true with
     | true=>rfl
     | false=>exact absurd ((hm e.on).2 ⟨by omega,hq⟩) hnot
    have hlt2:e.on < listed.size:=by omega
    simp[hlt2] at hb2⊢
    exact hb2
  refine⟨(fun h0=>by obtain⟨i,hi⟩:=hfirst;rw[h0] at hi;cases hi),fun j hj=>?_⟩
  obtain⟨hun,oj,hoj,hall⟩:=mem_ready.1 hj
  have hjr:j∈rem:=(hm j).2 ⟨(Array.getElem?_eq_some_iff.1 hoj).1,hun⟩
  obtain⟨l1,l2,rfl⟩:=List.append_of_mem hjr
  have hnd:(l1++j :: l2).Nodup:=hs.imp (fun h=>Nat.ne_of_lt h)
  have hlt1:∀i∈l1,i < j:=fun i hi=>(List.pairwise_append.1 hs).2.2 i hi j (by simp)
  have hfr:∀i,(i=j∨i∈l1)→∀l,own nx i l=true→loc l=none∧σ l=none:=fun i hi l hl=>by
   have hir:i∈l1++j :: l2:=by
    rcases hi with rfl | hi
    · simp
    · simp[hi]
   obtain⟨h1,h2⟩:=GZ (done:=fun q=>q∉l1++j :: l2∧q < ops.size) (fun h=>h.1 hir) hl
   exact hf l h1 h2
  have hex:=front hoj l2 l1 [] env σ (fun i hi=>⟨Nat.ne_of_lt (hlt1 i hi),fun oi hoi=>by
   rcases hc.pair i j oi oj (hlt1 i hi) hoi hoj with ajk | hp
   · have h1:=KO hcl ajk oj hoj hall
     have h2:=((hm i).1 (by simp[hi])).2
     rw[(G8 h2).1] at h1
     cases h1
   · exact hp⟩) (fun i hi l hl=>(hfr i hi l hl).2) (List.nodup_append.1 hnd).1 h
  refine wpOp_mono (fun a' w' hb=>?_) (yw (Q:=Q) hoj (SN hnt hoj) hr (fun l hl=>hfr j (.inl rfl) l hl) (Zp hex))
  obtain⟨env',σ',k,Ψ',loc',hr',hk,h1,h2⟩:=hb
  have hjl:j < listed.size:=(G8 hun).2
  have hjn:j∉l1++l2:=fun hq=>by
   obtain⟨p1,p2,p3⟩:=List.nodup_append.1 hnd
   rcases List.mem_append.1 hq with hq | hq
   · exact p3 j hq j (by simp) rfl
   · exact (List.nodup_cons.1 p2).1 hq
  refine uX hnt hc fuel _ (l1++l2) env' σ' Ψ' loc' a' w' (by simp at hl⊢;omega) (List.Pairwise.sublist (List.Sublist.append_left (List.sublist_cons_self j l2) l1) hs) (fun i=>?_) (by simpa using hsz) (fun q o hq hlq e he hb=>?_) hr' (fun l hl hd=>?_) hk.2 hQ
  · by_cases hij:i=j
    · subst hij
      constructor
      · exact fun h=>absurd h hjn
      · rintro⟨_,h⟩
        simp[hjl] at h
    · rw[getD_set_ne true (Ne.symm hij),←hm i]
      simp[hij]
  · by_cases hqj:q=j
    · subst hqj
      rw[hoj] at hq
      injection hq with hq
      subst hq
      exact getD_set_true (hall e he hb)
    · rw[getD_set_ne false (Ne.symm hqj)] at hlq
      exact getD_set_true (hcl q o hq hlq e he hb)
  · have:=yu hf h1 h2 l hl (fun i hi=>hd i ?_)
    · exact this
    · rcases hi with ⟨h3,h4⟩ | rfl
      · exact⟨fun h=>h3 (by rcases List.mem_append.1 h with h | h <;> simp[h]),h4⟩
      · exact⟨hjn,by omega⟩
theorem DZ {Q:Exit→Act→World→Prop}{fr:Fr}{nt id:Nat}{U:List (Nat×Nat)}{K:Env→Sto→Prop}{env:Env}{σ:Sto}{Ψ:Psi}{loc:Loc}{a:Act}{w:World}(hm:P.follows .mixedOrders=true)(hnt:yj nt ops=true)(hc:WE ops U=true)(hr:Rel fr Ψ loc nt env σ a w)(hf:∀l,nx≤l→loc l=none∧σ l=none)
 (h:iw P ops nx U K [] (List.range ops.size) env σ) (hQ:∀a w,adI fr nt (nx+8 * ops.size) K a w→Q .normal a w):(Code.region id ops true).wp P Q a w:=by
 refine wp_region_any hm (uX hnt (O3 hc) ops.size _ (List.range ops.size) env σ Ψ loc a _ (by simp) List.pairwise_lt_range (fun i=>?_) (by simp) (fun j o hj hl=>?_) ⟨hr.env,hr.ok.drew,hr.sz,hr.df⟩ (fun l hl _=>hf l hl) h (fun env σ Ψ loc a w h1 h2 h3=>hQ a w ⟨env,σ,Ψ,loc,h1,fun l hl=>h2 l (by omega) (fun q hq=>rV.2 (by omega)),h3⟩))
 · simp;intro h;simp[h]
 · have hlt:=(Array.getElem?_eq_some_iff.1 hj).1;simp[hlt] at hl
end
