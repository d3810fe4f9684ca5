/- Words. -/
import Derived.Test.YtfbkkgfkhhibfaaGreatAdr
import Derived.BigCall
set_option linter.unusedVariables false
set_option linter.unusedSimpArgs false
namespace AM
open Go Go.RowKit
theorem pK {ops:Array Oper}{o:Oper}{env:Env}{Ψ:Psi}{loc:Loc}{a:Act}{b:Bool}(h:RelE Ψ loc env a.tmps)(hg:gate ops o env=some b):Region.wanted o (yielded ops a.tmps)=b:=by
 unfold gate at hg;unfold Region.wanted;split at hg
 · rename_i hgd;rw[hgd];injection hg
 · rename_i g want hgd
   rw[hgd];dsimp only;split at hg
   · cases hg
   · rename_i d hd
     split at hg
     · rename_i c hc
       injection hg with hg;subst hg;obtain⟨x,q1,q2⟩:=h.rep d _ hc;obtain⟨rfl,_⟩:=dS q2;have:yielded ops a.tmps g=some c:=by unfold yielded;rw[hd];simp[q1]
       rw[this]
       cases c <;> cases want <;> rfl
     · rename_i hc
       injection hg with hg;subst hg;obtain⟨x,q1,q2⟩:=h.rep d _ hc
       cases q2 with
       |
        tup f hs hx hr=>
        have:yielded ops a.tmps g=none:=by unfold yielded;rw[hd];simp[q1]
        rw[this]
        cases want <;> rfl
     · cases hg
theorem uH {ls:List Nat}{lab l:Nat}(h:l < ls.length):rho ls lab l=ls.getD l 0:=by simp[rho,h]
theorem zC {ls:List Nat}{lab l:Nat}(h:ls.length≤l):rho ls lab l=lab+(l - ls.length):=by simp[rho,Nat.not_lt.2 h]
theorem Io {ls:List Nat}{l:Nat}(h:l < ls.length):ls.getD l 0∈ls:=by
 rw[List.getD_eq_getElem?_getD,List.getElem?_eq_getElem h];exact List.getElem_mem h
theorem getD_inj {ls:List Nat}(hn:ls.Nodup){i j:Nat}(hi:i < ls.length)(hj:j < ls.length)(h:ls.getD i 0=ls.getD j 0):i=j:=by
 rw[List.getD_eq_getElem?_getD,List.getD_eq_getElem?_getD,List.getElem?_eq_getElem hi,List.getElem?_eq_getElem hj] at h;exact (List.getElem_inj hn).1 h
theorem Vx {ρ:Nat→Nat}{g:List (Option Obj)}{k:Nat}(h:k < g.length):(ρ k,g[k].map (Obj.ren ρ))∈renG ρ g:=by
 unfold renG;exact List.mem_map.2 ⟨(g[k],k),by rw[List.mem_zipIdx_iff_getElem?];simp[h],rfl⟩
theorem Vy {ρ:Nat→Nat}{g:List (Option Obj)}{l:Nat} :l∈(renG ρ g).map (·.1) ↔∃k,k < g.length∧ρ k=l:=by
 unfold renG;rw[List.map_map,List.mem_map];constructor
 · rintro⟨p,hp,rfl⟩;exact⟨p.2,by have:=List.snd_lt_of_mem_zipIdx hp;simpa using this,rfl⟩
 · rintro⟨k,hk,rfl⟩;exact⟨(g[k],k),by rw[List.mem_zipIdx_iff_getElem?];simp[hk],rfl⟩
theorem MW {ρ:Nat→Nat}{g:List (Option Obj)}(hρ:∀i j,i < g.length→j < g.length→ρ i=ρ j→i=j):((renG ρ g).map (·.1)).Nodup:=by
 unfold renG;rw[List.map_map];have:((fun x=>x.1) ∘ fun p:Option Obj×Nat=>(ρ p.2,p.1.map (Obj.ren ρ)))=ρ ∘ Prod.snd:=rfl;rw[this,←List.map_map];rw[show List.map Prod.snd g.zipIdx=List.range g.length from by rw[List.zipIdx_map_snd];exact (List.range_eq_range').symm];rw[List.Nodup,List.pairwise_map];exact List.Pairwise.imp_of_mem (fun {i j} hi hj hij h=>hij (hρ i j (by simpa using hi) (by simpa using hj) h)) List.nodup_range
section
variable {P : Program}
theorem Yo {fr:Fr}{Ψ:Psi}{loc:Loc}{σ:Sto}{w:World}{ls:List Nat}{lab:Nat}{pre:List Obj}(hok:Ok fr Ψ loc σ w)(hls:ls.length=pre.length)(hnd:ls.Nodup)(hno:∀l∈ls,l < lab∨lab+8≤l)(hbo:pre.all (Obj.lb pre.length)=true)
 (hpre:∀k o,pre[k]?=some o→σ (ls.getD k 0)=some (o.ren (rho ls lab))) (hfresh:∀l,lab≤l→l < lab+8→loc l=none∧σ l=none):
 ∃(Vz:Fr) (qW:Loc),Ok Vz Ψ qW (lQ (pre.map some)) w∧Vz.n0=pre.length∧(∀l,pre.length≤l→qW l=none)∧(∀l,l < pre.length→qW l=loc (rho ls lab l))∧
  ∀(g:List (Option Obj)) (Ψ':Psi) (loc':Loc) (w':World),pre.length≤g.length→g.length≤pre.length+8→Ok Vz Ψ' loc' (lQ g) w'→(∀l,g.length≤l→loc' l=none)→
   ∃uI:Loc,Ψ.le Ψ'∧(∀l,(l < lab∨lab+8≤l)→uI l=loc l)∧Loc.le loc uI∧(∀l e,loc' l=some e→uI (rho ls lab l)=some e)∧Ok fr Ψ' uI (σ.upds (renG (rho ls lab) g)) w'∧(∀b,fr.pr b→Vz.pr b):=by
 have hown:∀k,k < pre.length→∃o,pre[k]?=some o∧σ (rho ls lab k)=some (o.ren (rho ls lab))∧o.lb pre.length=true:=fun k hk=>
  ⟨pre[k],List.getElem?_eq_getElem hk,by rw[uH (by omega)];exact hpre k _ (List.getElem?_eq_getElem hk),List.all_eq_true.1 hbo _ (List.getElem_mem hk)⟩
 let qW:Loc:=fun l=>if l < pre.length then loc (rho ls lab l) else none
 let Vz:Fr:=⟨w,fun b=>b < w.heap.size∧(∀l∈ls,blk loc l≠some b)∧Ψ.tb b=none,Ψ,qW,pre.length⟩
 have hlc:∀l,l < pre.length→qW l=loc (rho ls lab l):=fun l hl=>by show (if _ then _ else _)=_;rw[if_pos hl]
 have hoff:∀l,pre.length≤l→qW l=none:=fun l hl=>by show (if _ then _ else _)=_;rw[if_neg (by omega)]
 have Yp:∀l o,lQ (pre.map some) l=some o→l < pre.length∧pre[l]?=some o:=fun l o h=>by
  unfold lQ at h;rw[List.getElem?_map] at h
  cases hp:pre[l]? with
  | none=>simp [hp] at h
  | some o'=>simp [hp] at h;subst h;exact⟨(List.getElem?_eq_some_iff.1 hp).1,rfl⟩
 have hmem:∀l,l < pre.length→rho ls lab l∈ls:=fun l hl=>by rw[uH (by omega)];exact Io (by omega)
 have hinj:∀l l',l < pre.length→l' < pre.length→rho ls lab l=rho ls lab l'→l=l':=fun l l' hl hl' h=>by
  rw[uH (by omega),uH (by omega)] at h;exact getD_inj hnd (by omega) (by omega) h
 have hblk:∀l,l < pre.length→blk qW l=blk loc (rho ls lab l):=fun l hl=>by simp[blk,hlc l hl]
 have hsome:∀l,l < pre.length→∃e,qW l=some e∧qW l=some e:=fun l hl=>by
  obtain⟨o,_,q2,_⟩:=hown l hl;have:=hok.ob _ _ q2;rw[hlc l hl]
  cases o with
  | box cs=>obtain ⟨_,_,_,_,h1,_⟩:=this;exact⟨_,h1,h1⟩
  | row e k els=>obtain ⟨_,_,h1,_⟩:=this;exact⟨_,h1,h1⟩
 have VA:∀b,fr.pr b→Vz.pr b:=fun b hb=>by
  refine⟨by have:=(hok.pr b hb).1;have:=hok.sz;omega,fun l hl e=>?_,?_⟩
  · obtain⟨k,hk,rfl⟩:=List.mem_iff_getElem.1 hl;obtain⟨o,_,h2,_⟩:=hown k (by omega);rw[uH hk,List.getD_eq_getElem?_getD,List.getElem?_eq_getElem hk] at h2;exact (hok.ow _ _ b h2 e).1 hb
  · cases ht:Ψ.tb b with
    | none=>rfl
    | some e=>exact absurd hb (hok.tf b e ht).1
 refine⟨Vz,qW,?_,rfl,hoff,hlc,?_⟩
 · refine⟨hok.fz,hok.tb,fun l o h=>?_,fun l l' o o' b h h' h1 h2=>?_,fun l o b h h1=>?_,fun b e h=>⟨fun hp=>?_,(hok.tf b e h).2⟩,fun b h=>⟨h.1,rfl⟩,Nat.le_refl _,⟨rfl,rfl,rfl⟩,fun _ _ _=>rfl,.refl _,fun l hl=>hsome l hl⟩
   · obtain⟨hl,hp⟩:=Yp l o h;obtain⟨o',q1,q2,q3⟩:=hown l hl;rw[hp] at q1;injection q1 with q1;subst q1;exact FZ hlc hl (hok.ob _ _ q2) q3
   · obtain⟨hl,_⟩:=Yp l o h;obtain⟨hl',_⟩:=Yp l' o' h';obtain⟨_,_,q2,_⟩:=hown l hl;obtain⟨_,_,q2',_⟩:=hown l' hl';rw[hblk l hl] at h1;rw[hblk l' hl'] at h2;exact hinj l l' hl hl' (hok.dj _ _ _ _ b q2 q2' h1 h2)
   · obtain⟨hl,_⟩:=Yp l o h;obtain⟨_,_,q2,_⟩:=hown l hl;rw[hblk l hl] at h1;obtain⟨r1,r2,r3⟩:=hok.ow _ _ b q2 h1;exact⟨fun hp=>hp.2.1 _ (hmem l hl) h1,r2,r3⟩
   · have h2:Ψ.tb b=none:=hp.2.2;rw[h] at h2
     cases h2
 · intro g Ψ' loc' w' hg1 hg2 hok' hnone;have hΨ:Ψ.le Ψ':=hok'.le0
   have hll:∀l,l < pre.length→loc' l=qW l:=fun l hl=>by
    obtain⟨e,h1,h2⟩:=hok'.l0 l hl;exact h2.trans h1.symm
   have hkeep:∀b,Vz.pr b→(∀q,Ψ'.fz b q=Ψ.fz b q)∧Ψ'.tb b=Ψ.tb b:=fun b hb=>⟨hok'.pz b hb,by
    cases ht:Ψ'.tb b with
    | none=>exact hb.2.2.symm
    | some e=>exact absurd hb (hok'.tf b e ht).1⟩
   let uI:Loc:=fun l=>if lab≤l∧l < lab+8 then loc' (pre.length+(l - lab)) else loc l
   have hr1:∀l,(l < lab∨lab+8≤l)→uI l=loc l:=fun l hl=>by show (if _ then _ else _)=_;rw[if_neg (by omega)]
   have hr2:Loc.le loc uI:=fun l e h=>by
    by_cases hl:lab≤l∧l < lab+8
    · rw[(hfresh l hl.1 hl.2).1] at h;cases h
    · rw[hr1 l (by omega)];exact h
   have hr3:∀l e,loc' l=some e→uI (rho ls lab l)=some e:=fun l e h=>by
    by_cases hl:l < pre.length
    · have hm:=hmem l hl;rw[hr1 _ (hno _ hm)];rw[←hlc l hl,←hll l hl];exact h
    · have hlt:l < g.length:=by
       apply Decidable.byContradiction;intro hge;rw[hnone l (by omega)] at h
       cases h
      rw[zC (by omega),hls];show (if _ then _ else _)=_;rw[if_pos (by omega),show pre.length+(lab+(l - pre.length) - lab)=l by omega];exact h
   have hρ:∀i j,i < g.length→j < g.length→rho ls lab i=rho ls lab j→i=j:=fun i j hi hj h=>by
    by_cases h1:i < pre.length <;> by_cases h2:j < pre.length
    · exact hinj i j h1 h2 h
    · have:=hno _ (hmem i h1);rw[h,zC (by omega)] at this;omega
    · have:=hno _ (hmem j h2);rw[←h,zC (by omega)] at this;omega
    · rw[zC (by omega),zC (by omega)] at h;omega
   have hst:∀l o,(σ.upds (renG (rho ls lab) g)) l=some o→(∃k,k < g.length∧l=rho ls lab k∧∃o',lQ g k=some o'∧o=o'.ren (rho ls lab))∨((∀k,k < g.length→rho ls lab k≠l)∧σ l=some o):=fun l o h=>by
    by_cases hin:∃k,k < g.length∧rho ls lab k=l
    · obtain⟨k,hk,rfl⟩:=hin;rw[FY _ _ _ _ (MW hρ) (Vx hk)] at h;obtain⟨o',h1,rfl⟩:=Option.map_eq_some_iff.1 h;exact .inl ⟨k,hk,rfl,o',by simp[lQ,List.getElem?_eq_getElem hk,h1],rfl⟩
    · rw[dE _ _ _ (fun hm=>hin (Vy.1 hm))] at h;exact .inr ⟨fun k hk e=>hin ⟨k,hk,e⟩,h⟩
   have hold:∀l o b,(∀k,k < g.length→rho ls lab k≠l)→σ l=some o→blk loc l=some b→Vz.pr b:=fun l o b hne hσ hb=>by
    refine⟨hok.blk_lt hσ hb,fun l' hl' e=>?_,(hok.ow l o b hσ hb).2.1⟩;obtain⟨k,hk,rfl⟩:=List.mem_iff_getElem.1 hl';obtain⟨o',_,h2,_⟩:=hown k (by omega);have hrk:rho ls lab k=ls[k]:=by rw[uH hk,List.getD_eq_getElem?_getD,List.getElem?_eq_getElem hk];rfl
    rw[hrk] at h2;have:=hok.dj _ _ _ _ b hσ h2 hb e;exact hne k (by omega) (by rw[hrk];exact this.symm)
   have Jp:∀l o,(∀k,k < g.length→rho ls lab k≠l)→σ l=some o→blk uI l=blk loc l:=fun l o hne hσ=>by
    refine iV (hr1 l ?_);apply Decidable.byContradiction;intro hin;rw[(hfresh l (by omega) (by omega)).2] at hσ
    cases hσ
   have Jq:∀k o,lQ g k=some o→blk uI (rho ls lab k)=blk loc' k:=fun k o h=>by
    have hh:=hok'.ob k o h
    have:∃e,loc' k=some e:=by
     cases o with
     | box cs=>obtain ⟨_,_,_,_,h1,_⟩:=hh;exact⟨_,h1⟩
     | row e k els=>obtain ⟨_,_,h1,_⟩:=hh;exact⟨_,h1⟩
    obtain⟨e,he⟩:=this;simp[blk,he,hr3 k e he]
   refine⟨uI,hΨ,hr1,hr2,hr3,?_,VA⟩
   refine⟨hok'.fz,hok'.tb,fun l o h=>?_,fun l l' o o' b h h' h1 h2=>?_,fun l o b h h1=>?_,fun b e h=>⟨fun hp=>(hok'.tf b e h).1 (VA b hp),(hok'.tf b e h).2⟩,fun b h=>⟨(hok.pr b h).1,(hok'.pr b (VA b h)).2.trans (hok.pr b h).2⟩,Nat.le_trans hok.sz hok'.sz,⟨hok'.os.1.trans hok.os.1,hok'.os.2.1.trans hok.os.2.1,hok'.os.2.2.trans hok.os.2.2⟩,fun b hb q=>((hkeep b (VA b hb)).1 q).trans (hok.pz b hb q),hok.le0.trans hΨ,fun l hl=>by
    obtain⟨e,h1,h2⟩:=hok.l0 l hl;exact⟨e,h1,hr2 _ _ h2⟩⟩
   · rcases hst l o h with ⟨k,hk,rfl,o',q1,rfl⟩ | ⟨hne,hσ⟩
     · exact OG hr3 (hok'.ob k o' q1)
     · exact (hok.ob l o hσ).same hΨ hr2 (fun b hb=>(hok'.pr b (hold l o b hne hσ hb)).2)
   · rcases hst l o h with ⟨k,hk,rfl,q,q1,rfl⟩ | ⟨hne,hσ⟩ <;> rcases hst l' o' h' with ⟨k',hk',rfl,q',q1',rfl⟩ | ⟨hne',hσ'⟩
     · rw[Jq k q q1] at h1;rw[Jq k' q' q1'] at h2;rw[hok'.dj k k' _ _ b q1 q1' h1 h2]
     · rw[Jq k q q1] at h1;rw[Jp l' o' hne' hσ'] at h2;exact absurd (hold l' o' b hne' hσ' h2) (hok'.ow k q b q1 h1).1
     · rw[Jq k' q' q1'] at h2;rw[Jp l o hne hσ] at h1;exact absurd (hold l o b hne hσ h1) (hok'.ow k' q' b q1' h2).1
     · rw[Jp l o hne hσ] at h1;rw[Jp l' o' hne' hσ'] at h2;exact hok.dj l l' o o' b hσ hσ' h1 h2
   · rcases hst l o h with ⟨k,hk,rfl,q,q1,rfl⟩ | ⟨hne,hσ⟩
     · rw[Jq k q q1] at h1;obtain⟨r1,r2,r3⟩:=hok'.ow k q b q1 h1;exact⟨fun hp=>r1 (VA b hp),r2,r3⟩
     · rw[Jp l o hne hσ] at h1;obtain⟨r1,r2,r3⟩:=hok.ow l o b hσ h1;obtain⟨s1,s2⟩:=hkeep b (hold l o b hne hσ h1);exact⟨r1,by rw[s2];exact r2,fun q=>by rw[s1];exact r3 q⟩
end
section
variable {P : Program} {ops : Array Oper} {Q : Exit → Act → World → Prop} {nx i nt : Nat} {o : Oper} {env : Env} {σ : Sto} {K : Env → Sto → Key → Prop}
theorem Js {f:FuncId}(h:isGo P f=true)(args:Array Value)(w:World):(callFunc f args).run P w= .ok (.enter f args) w:=by
 unfold isGo at h;split at h
 · rename_i fn hf
   simp only[Bool.and_eq_true,bne_iff_ne,ne_eq] at h;obtain⟨h1,h2⟩:=h;have h3:fn.body.isNone=false:=by cases hb:fn.body <;> simp_all
   simp[callFunc,program,Sem.run,Result.andThen,hf,h1,h3];intro hb;rw[hb] at h2
   cases h2
 · cases h
theorem jg {l:Nat} :own nx i l=true ↔ nx+8 * i≤l∧l < nx+8 * i+8:=by simp[own]
theorem rV {l:Nat} :own nx i l=false ↔ l < nx+8 * i∨nx+8 * i+8≤l:=by
 cases h:own nx i l with
 | true=>have:=jg.1 h;simp;omega
 |
  false=>
  simp only[true_iff];apply Decidable.byContradiction;intro hn;have:own nx i l=true:=jg.2 (by omega);rw[h] at this
  cases this
def FK (fr:Fr)(nt nx i:Nat)(loc:Loc)(σ:Sto)(K:Env→Sto→Key→Prop)(a':Act)(w':World):Prop:=
 ∃env' σ' k Ψ' loc',Rel fr Ψ' loc' nt env' σ' a' w'∧K env' σ' k∧(∀l,own nx i l=false→loc' l=loc l)∧(∀l,own nx i l=false→σ l=none→σ' l=none)
theorem yw (hi:ops[i]?=some o)(hdst:∀d,o.dst=some d→d < nt){fr:Fr}{Ψ:Psi}{loc:Loc}{a:Act}{w:World}(hr:Rel fr Ψ loc nt env σ a w)(hfresh:∀l,own nx i l=true→loc l=none∧σ l=none)(h:QZ P ops nx i o K env σ):
 wpOp P ops Q i (FK fr nt nx i loc σ K) a w:=by
 obtain⟨x,hsp,hok,hK⟩:=h;have hlab:∀v G,x.out v G→∀l∈G.map (·.1),own nx i l=true∨(l∈x.key.wr∧(own nx i l=true∨σ l≠none)):=fun v G ho=>pO hsp ho
 unfold wpOp;rw[hi];dsimp only;have hd':∀d,o.dst=some d→d < a.tmps.size:=fun d hd=>by rw[hr.sz];exact hdst d hd
 have hput:∀v:Value,(a.put o.dst v).tmps.size=nt∧(a.put o.dst v).defers= []:=fun v=>by
  unfold Act.put;split
  · exact⟨by simpa using hr.sz,hr.df⟩
  · exact⟨hr.sz,hr.df⟩
 have hkeep:∀v G,x.out v G→∀l,own nx i l=false→σ l=none→(σ.upds G) l=none:=fun v G ho l h1 h2=>by
  rw[dE _ _ _ (fun hm=>?_)]
  · exact h2
  · rcases hlab v G ho l hm with h | ⟨_,h | h⟩
    · rw[h1] at h;cases h
    · rw[h1] at h;cases h
    · exact h h2
 cases hsp with
 |
  skip hg=>
  have hw:=pK hr.env hg;rw[hw];simp only[Bool.false_eq_true,if_false];have hk:=hK (.tup []) [] ⟨rfl,rfl⟩;refine⟨_,σ,_,Ψ,loc,⟨hr.env.put (.tup (fun _=>undef) rfl (fun j hj=>by simp at hj) (fun j v hv=>by simp at hv)) hd',hr.ok,(hput undef).1,(hput undef).2⟩,hk,fun _ _=>rfl,fun _ _ h=>h⟩
 |
  op hg amf=>
  rename_i d
  have hw:=pK hr.env hg;rw[hw];simp only[if_true];left;obtain⟨f1,f2⟩:=hfresh (nx+8 * i) (jg.2 (by omega));obtain⟨r,w',Ψ',loc',v,hrun,hout,hok',hle,hl,_⟩:=Qy amf fr Ψ loc w a.eval hr.env.ev hr.ok f1 f2 hok
  have hll:Loc.le loc loc':=fun l e he=>by
   by_cases hq:l=nx+8 * i
   · rw[hq,f1] at he;cases he
   · rw[hl l hq];exact he
  have hk:=hK v d.upd ⟨hout,rfl⟩
  have fin:RepA Ψ' loc' v r∨(o.dst=none)→FK fr nt nx i loc σ K (a.put o.dst r) w':=fun hrep=>
   ⟨_,_,_,Ψ',loc',⟨by
    rcases hrep with hrep | hn
    · exact (hr.env.mono hle hll).put hrep hd'
    · rw[hn];exact hr.env.mono hle hll,hok',(hput r).1,(hput r).2⟩,hk,fun l ho=>hl l (fun e=>by subst e;simp[own] at ho),hkeep v d.upd ⟨hout,rfl⟩⟩
  unfold Oper.wp;rcases hrun with ⟨hrun,hrep⟩ | ⟨hrun,hn⟩
  · rw[hrun];exact fin (.inl hrep)
  · rw[hrun];show FK fr nt nx i loc σ K (a.put o.dst undef) w';have:=fin (.inr hn);rw[hn] at this⊢;exact this
 |
  call hg ho hgo hc ha hb hbo hls hnd hno hpre=>
  rename_i f args ats as pre post ls
  have hw:=pK hr.env hg;rw[hw];simp only[if_true];left
  have hno':∀l∈ls,l < nx+8 * i∨nx+8 * i+8≤l:=fun l hl=>by
   have:=List.all_eq_true.1 hno l hl;exact rV.1 (by simpa using this)
  obtain⟨Vz,qW,amg,hn0,hoff,hlc,hback⟩:=Yo hr.ok hls hnd hno' hbo hpre (fun l h1 h2=>hfresh l (jg.2 ⟨h1,h2⟩))
  have pG:(execOp a.eval o).run P w= .ok (.enter f (args.map a.eval)) w:=by
   obtain⟨dst,op,ty,pos,sS,gd⟩:=o;dsimp only at ho;subst ho;rw[execOp_call_go,Js hgo];simp
  have NV:Q7 Ψ qW as (args.map a.eval).toList:=by
   have hlen:=congrArg List.length ha;simp only[List.length_map,Array.length_toList,fH] at hlen;refine⟨by simp[hlen],fun j v hv=>?_⟩;have hj:j < as.length:=(List.getElem?_eq_some_iff.1 hv).1;have h1:=congrArg (fun l=>l[j]?) ha;simp only[List.getElem?_map,qZ,hv,Option.map_some] at h1
   cases hx:args.toList[j]? with
   | none=>simp [hx] at h1
   |
    some y=>
    simp[hx] at h1;have h2:=hr.env.ev y _ h1;refine⟨a.eval y,by rw[Array.toList_map,List.getElem?_map,hx];rfl,rep_in (n:=pre.length) hlc v _ h2 (Di hb hv)⟩
  unfold Oper.wp;rw[pG];show Calls P f (args.map a.eval) w _;refine (hc Vz Ψ qW w _ amg hn0 hoff NV).mono ?_;rintro e w' ⟨r,v,g,Ψ',loc',rfl,hpost,hg1,hg2,hrep,hok',hnone⟩;obtain⟨uI,hle,hr1,hr2,hr3,hokr,_⟩:=hback g Ψ' loc' w' hg1 hg2 hok' hnone;have hout:∃r' g',post r' g'∧pre.length≤g'.length∧g'.length≤pre.length+8∧v.ren (rho ls (nx+8 * i))=r'.ren (rho ls (nx+8 * i))∧renG (rho ls (nx+8 * i)) g=renG (rho ls (nx+8 * i)) g':=⟨v,g,hpost,hg1,hg2,rfl,rfl⟩;have hk:=hK (v.ren (rho ls (nx+8 * i))) (renG (rho ls (nx+8 * i)) g) hout;show FK fr nt nx i loc σ K (a.put o.dst r) w';exact⟨_,_,_,Ψ',uI,⟨(hr.env.mono hle hr2).put (rep_out hr3 v r hrep) hd',hokr,(hput r).1,(hput r).2⟩,hk,fun l ho=>hr1 l (rV.1 ho),hkeep _ _ hout⟩
end
def SL (fr l:Nat):Bool:=decide (fr≤l) && decide (l < fr+8)
def mZ (fr:Nat)(a b:Key):Prop:=(∀l∈a.wr,l∉b.rd∧l∉b.wr)∧(∀l∈b.wr,l∉a.rd)∧(a.mks=true→∀l∈b.rd++b.wr,SL fr l=false)∧(b.isC=false∨a.det=true)
section
variable {P : Program} {ops : Array Oper} {nx i j : Nat} {o oi oj : Oper} {env env' : Env} {σ σ' : Sto}
theorem GY {K K':Env→Sto→Key→Prop}(h:exec P ops nx i o K env σ)(hk:∀x v G,Sp P ops nx i o env σ x→x.out v G→K (env.put o.dst v) (σ.upds G) x.key→K' (env.put o.dst v) (σ.upds G) x.key):exec P ops nx i o K' env σ:=
 let ⟨x,h1,h2,h3,h4⟩:=h;⟨x,h1,h2,h3,fun v G hv=>hk x v G h1 hv (h4 v G hv)⟩
theorem Ik (h:∀t∈o.looksAt ops,env' t=env t):∀x∈o.op.operands,ev env' x=ev env x:=fun x hx=>by
 cases x with
 | tmp t=>exact h t (List.mem_append_left _ (List.mem_filterMap.2 ⟨.tmp t,by simpa using hx,rfl⟩))
 | _=>rfl
theorem qO (h:∀t∈o.looksAt ops,env' t=env t):gate ops o env'=gate ops o env:=by
 unfold gate
 cases hg:o.guard with
 | none=>rfl
 |
  some gw=>
  obtain⟨g,want⟩:=gw;dsimp only
  cases hd:(ops[g]?).bind (·.dst) with
  | none=>rfl
  |
   some d=>
   dsimp only;rw[h d (by simp[Oper.looksAt,hg,hd])]
theorem Il {x:EX}(hs:Sp P ops nx i o env σ x)(he:∀t∈o.looksAt ops,env' t=env t)(hσ:∀l,(l∈x.key.rd∨l∈x.key.wr∨own nx i l=true)→σ' l=σ l):Sp P ops nx i o env' σ' x:=by
 cases hs with
 | skip hg=>exact .skip ((qO he).trans hg)
 |
  op hg h=>
  refine .op ((qO he).trans hg) (Qa (Ik he) h (fun l hl=>?_));rcases hl with hl | hl
  · exact hσ l (.inl hl)
  · cases ho:own nx i l with
    | true=>exact hσ l (.inr (.inr ho))
    | false=>exact hσ l (.inr (.inl (List.mem_filter.2 ⟨hl,by simp[ho]⟩)))
 |
  call hg ho hgo hc ha hb hbo hls hnd hno hpre=>
  rename_i f args ats as pre post ls
  refine .call ((qO he).trans hg) ho hgo hc ?_ hb hbo hls hnd hno (fun k o' hk=>?_)
  · rw[←ha];refine List.map_congr_left (fun y hy=>Ik he y ?_);rw[ho];simp[Op.operands,Call.operands];exact .inr (by simpa using hy)
  · rw[hσ _ (.inr (.inl ?_))]
    · exact hpre k o' hk
    · show ls.getD k 0∈ls;have hk2:=(List.getElem?_eq_some_iff.1 hk).1;exact Io (by omega)
theorem Qb {x x':EX}(h:Sp P ops nx i o env σ x)(h':Sp P ops nx i o env σ x')(hc:x.key.isC=false):x'=x:=by
 have abt:∀ {f:FuncId} {args:Array Operand} {ats:Array TypeId} {e:Operand→Option AV} {lab:Nat} {d:DO},o.op= .call { callee:= .value (.func f),args:=args,argTypes:=ats } →dop P o e σ lab=some d→False:=fun ho hd=>by
  unfold dop at hd;rw[ho] at hd
  cases hd
 cases h with
 |
  skip hg=>
  cases h' with
  | skip=>rfl
  | op hg'=>rw [hg] at hg';cases hg'
  | call hg'=>rw [hg] at hg';cases hg'
 |
  op hg hd=>
  cases h' with
  | skip hg'=>rw [hg] at hg';cases hg'
  | op hg' hd'=>rw [hd] at hd';injection hd' with hd';subst hd';rfl
  | call hg' ho=>exact (abt ho hd).elim
 | call=>cases hc
theorem abu {x:EX}(h:Sp P ops nx i o env σ x)(hd:x.key.det=true){v v':AV}{G G':List (Nat×Option Obj)}(h1:x.out v G)(h2:x.out v' G'):v=v'∧G=G':=by
 cases h with
 | skip hg=>exact ⟨h1.1.trans h2.1.symm,h1.2.trans h2.2.symm⟩
 | op hg h=>exact ⟨(Uh h).det hd _ _ h1.1 h2.1,h1.2.trans h2.2.symm⟩
 | call=>cases hd
theorem UD {t:TypeId}{v:AV}{d:DO}(h:ja P σ t v=some d):∀l∈d.rd,σ l≠none:=by
 unfold ja at h;split at h
 · split at h
   · rename_i hs
     obtain⟨u,_,rfl⟩:=map_some h;intro l hl;simp at hl;subst hl;rw[hs];simp
   · cases h
 · obtain⟨u,_,rfl⟩:=map_some h;intro l hl;simp[DO.val] at hl
 · split at h
   · rename_i hs
     split at h
     · injection h with h;subst h;intro l hl;simp at hl;subst hl;rw[hs];simp
     · cases h
   · cases h
 · split at h
   · obtain⟨u,_,rfl⟩:=map_some h;intro l hl;simp at hl
   · split at h
     · injection h with h;subst h;intro l hl;simp at hl
     · cases h
 · cases h
theorem XB {t:TypeId}{v:AV}{i:Int}{d:DO}(h:nO P σ t v i=some d):∀l∈d.rd,σ l≠none:=by
 unfold nO at h;split at h
 · injection h with h;subst h;intro l hl;simp at hl
 · split at h
   · rename_i hs
     split at h
     · injection h with h;subst h;intro l hl;simp at hl;subst hl;rw[hs];simp
     · cases h
   · cases h
 · split at h
   · injection h with h;subst h;intro l hl;simp at hl
   · cases h
 · cases h
theorem kT {α:Type}{x:Option α}{f:α→DO}{d:DO}(h:x.map f=some d)(hf:∀a,(f a).rd= []):∀l∈d.rd,σ l≠none:=fun l hl=>by
 obtain⟨a,_,rfl⟩:=map_some h
 simp[hf] at hl
theorem fO {d:DO}(h:d.rd= []):∀l∈d.rd,σ l≠none:=fun l hl=>by rw[h] at hl;cases hl
theorem abv {e:Operand→Option AV}{lab:Nat}{d:DO}(h:dop P o e σ lab=some d):∀l∈d.rd,σ l≠none:=by
 unfold dop at h;split at h
 · exact kT h (fun _=>rfl)
 · exact kT h (fun _=>rfl)
 · split at h
   · exact kT h (fun _=>rfl)
   · cases h
 · exact kT h (fun _=>rfl)
 · obtain⟨v,hv,h⟩:=bind_some h;split at h
   · injection h with h;subst h;exact fO rfl
   · cases h
 · split at h
   · exact kT h (fun _=>rfl)
   · cases h
 · split at h
   · split at h
     · split at h
       · injection h with h;subst h;exact fO rfl
       · cases h
     · split at h
       · exact kT h (fun _=>rfl)
       · cases h
   · cases h
 · obtain⟨v,hv,h⟩:=bind_some h;exact UD h
 · split at h
   · obtain⟨a,ha,h⟩:=bind_some h;obtain⟨v,hv,h⟩:=bind_some h;unfold fZ at h;split at h
     · split at h
       · split at h
         · injection h with h;subst h;exact fO rfl
         · cases h
       · cases h
     · split at h
       · split at h
         · injection h with h;subst h;exact fO rfl
         · cases h
       · cases h
     · split at h
       · split at h
         · injection h with h;subst h;exact fO rfl
         · cases h
       · cases h
     · cases h
   · cases h
 · obtain⟨v,hv,h⟩:=bind_some h;split at h
   · injection h with h;subst h;exact fO rfl
   · cases h
 · split at h
   · split at h
     · injection h with h;subst h;exact fO rfl
     · exact kT h (fun _=>rfl)
   · cases h
 · split at h
   · injection h with h;subst h;exact fO rfl
   · injection h with h;subst h;exact fO rfl
   · cases h
 · split at h
   · injection h with h;subst h;exact fO rfl
   · cases h
 · split at h
   · split at h
     · exact kT h (fun _=>rfl)
     · cases h
   · cases h
 · obtain⟨a,ha,h⟩:=bind_some h;unfold kD at h;split at h
   · split at h
     · injection h with h;subst h;exact fO rfl
     · cases h
   · split at h
     · split at h
       · injection h with h;subst h;exact fO rfl
       · cases h
     · cases h
   · cases h
 · split at h
   · exact kT h (fun _=>rfl)
   · cases h
 · split at h
   · exact XB h
   · cases h
 · split at h
   · split at h
     · injection h with h;subst h;exact fO rfl
     · cases h
   · cases h
 · split at h
   · exact kT h (fun _=>rfl)
   · cases h
 · split at h
   · unfold nH at h;split at h
     · split at h
       · exact kT h (fun _=>rfl)
       · cases h
     · split at h
       · split at h
         · injection h with h;subst h;exact fO rfl
         · cases h
       · cases h
     · split at h
       · split at h
         · split at h
           · unfold Dh at h;split at h
             · injection h with h;subst h;exact fO rfl
             · cases h
           unfold nV at h;split at h
           · split at h
             · split at h
               · injection h with h;subst h;exact fO rfl
               · cases h
             · cases h
           · split at h
             · injection h with h;subst h;exact fO rfl
             · cases h
           · split at h
             · injection h with h;subst h;exact fO rfl
             · cases h
           · cases h
         · cases h
       · cases h
     · cases h
   · cases h
 · cases h
theorem rU {x:EX}(h:Sp P ops nx i o env σ x):∀l,l∈x.key.rd∨l∈x.key.wr→σ l≠none:=fun l hl=>by
 cases h with
 | skip=>simp at hl
 |
  op hg h=>
  rcases hl with hl | hl
  · exact abv h l hl
  · obtain⟨h1,h2⟩:=List.mem_filter.1 hl
    rcases Q4 h l h1 with rfl | h3
    · simp[own] at h2
    · exact h3
 |
  call hg ho hgo hc ha hb hbo hls hnd hno hpre=>
  rename_i f args ats as pre post ls
  rcases hl with hl | hl
  · cases hl
  · obtain⟨k,hk,rfl⟩:=List.mem_iff_getElem.1 (show l∈ls from hl)
    have hk':k < pre.length:=by omega
    have:=hpre k _ (List.getElem?_eq_getElem hk')
    rw[List.getD_eq_getElem?_getD,List.getElem?_eq_getElem hk] at this
    simp only[Option.getD_some] at this
    rw[this]
    simp
theorem EJ {l:Nat} :∀(G:List (Nat×Option Obj)) (σ σ':Sto),l∈G.map (·.1)→σ.upds G l=σ'.upds G l
 | [],_,_,h=>by cases h
 |
  (r,o) :: G,σ,σ',h=>by
  simp only[Sto.upds]
  by_cases hg:l∈G.map (·.1)
  · exact EJ G _ _ hg
  · simp only[List.map_cons,List.mem_cons] at h
    have hr:l=r:=h.resolve_right hg
    rw[dE _ _ _ hg,dE _ _ _ hg,hr,upd_eq,upd_eq]
theorem Qc {G G':List (Nat×Option Obj)}(h:∀l∈G.map (·.1),l∉G'.map (·.1))(σ:Sto):(σ.upds G).upds G'=(σ.upds G').upds G:=by
 funext l;by_cases h1:l∈G.map (·.1)
 · rw[dE _ _ _ (h l h1)];exact EJ G _ _ h1
 · rw[dE l G _ h1];by_cases h2:l∈G'.map (·.1)
   · exact EJ G' _ _ h2
   · rw[dE _ _ _ h2,dE _ _ _ h2,dE _ _ _ h1]
theorem put_comm {d d':Option Nat}(h:∀t,d=some t→d'≠some t)(v v':AV):(env.put d v).put d' v'=(env.put d' v').put d v:=by
 cases d with
 | none=>rfl
 |
  some t=>
  cases d' with
  | none=>rfl
  |
   some t'=>
   have hne:t'≠t:=fun e=>h t rfl (by rw[e])
   funext q;simp only[Env.put];by_cases h1:q=t
   · subst h1;rw[if_neg (Ne.symm hne)];simp
   · simp[h1]
theorem BV {d:Option Nat}{t:Nat}{v:AV}(h:d≠some t):(env.put d v) t=env t:=by
 cases d with
 | none=>rfl
 |
  some q=>
  simp only[Env.put];rw[if_neg (fun e=>h (by rw[e]))]
theorem swap {K:Env→Sto→Key→Key→Prop}(hij:i≠j)(hap:oi.apart ops oj=true)(hfi:∀l,own nx i l=true→σ l=none)(hfj:∀l,own nx j l=true→σ l=none)
 (h:exec P ops nx i oi (fun e s ki=>exec P ops nx j oj (fun e s kj=>mZ (nx+8 * i) ki kj∧K e s ki kj) e s) env σ):
 exec P ops nx j oj (fun e s kj=>exec P ops nx i oi (fun e s ki=>K e s ki kj) e s) env σ:=by
 obtain⟨a1,a2,a3⟩:=Oper.apart_spec hap
 have hdis:∀l,own nx i l=true→own nx j l=true→False:=fun l h1 h2=>by
  have h1:=jg.1 h1;have h2:=jg.1 h2;omega
 have hfr:∀l,SL (nx+8 * i) l=own nx i l:=fun l=>rfl
 obtain⟨xi,QN,oki,⟨vi0,Gi0,ho0⟩,hi⟩:=h;have afQ:∀v G,xi.out v G→∀l∈G.map (·.1),own nx i l=true∨(l∈xi.key.wr∧(own nx i l=true∨σ l≠none)):=fun v G ho=>pO QN ho
 have back:∀(vi:AV) (Gi:List (Nat×Option Obj)) (xj:EX),xi.out vi Gi→Sp P ops nx j oj (env.put oi.dst vi) (σ.upds Gi) xj→mZ (nx+8 * i) xi.key xj.key→Sp P ops nx j oj env σ xj:=fun vi Gi xj ho sp hcp=>by
  refine Il sp (fun t ht=>(BV (fun e=>a1 t e ht)).symm) (fun l hl=>(dE _ _ _ (fun hm=>?_)).symm);rcases afQ vi Gi ho l hm with h1 | ⟨h1,h2⟩
  · rcases hl with hl | hl | hl
    · have:=hcp.2.2.1 (Q5 QN ho hm) l (List.mem_append_left _ hl);rw[hfr,h1] at this;cases this
    · have:=hcp.2.2.1 (Q5 QN ho hm) l (List.mem_append_right _ hl);rw[hfr,h1] at this;cases this
    · exact hdis l h1 hl
  · rcases hl with hl | hl | hl
    · exact (hcp.1 l h1).1 hl
    · exact (hcp.1 l h1).2 hl
    · rcases h2 with h2 | h2
      · exact hdis l h2 hl
      · exact h2 (hfj l hl)
 obtain⟨xj,spj,okj,⟨vj0,Gj0,afR⟩,hj⟩:=hi vi0 Gi0 ho0;have hcp:=(hj vj0 Gj0 afR).1;have XC:=back vi0 Gi0 xj ho0 spj hcp;refine⟨xj,XC,okj,⟨vj0,Gj0,afR⟩,fun vj Gj hoj=>?_⟩;have afS:=pO XC hoj
 have dis:∀vi Gi,xi.out vi Gi→∀l∈Gi.map (·.1),l∉Gj.map (·.1):=fun vi Gi ho l h1 h2=>by
  rcases afQ vi Gi ho l h1 with p | ⟨p,q⟩ <;> rcases afS l h2 with p' | ⟨p',q'⟩
  · exact hdis l p p'
  · have:=hcp.2.2.1 (Q5 QN ho h1) l (List.mem_append_right _ p');rw[hfr,p] at this;cases this
  · exact rU QN l (.inr p) (hfj l p')
  · exact (hcp.1 l p).2 p'
 refine⟨xi,Il QN (fun t ht=>BV (fun e=>a3 t e ht)) (fun l hl=>dE _ _ _ (fun hm=>?_)),oki,⟨vi0,Gi0,ho0⟩,fun vi Gi ho=>?_⟩
 · rcases afS l hm with p | ⟨p,q⟩
   · rcases hl with hl | hl | hl
     · exact rU QN l (.inl hl) (hfj l p)
     · exact rU QN l (.inr hl) (hfj l p)
     · exact hdis l hl p
   · rcases hl with hl | hl | hl
     · exact hcp.2.1 l p hl
     · exact (hcp.1 l hl).2 p
     · exact rU XC l (.inr p) (hfi l hl)
 · rw[←put_comm (fun t e=>a2 t e) vi vj,←Qc (dis vi Gi ho) σ];rcases hcp.2.2.2 with hD | ali
   · obtain⟨xj',spx,_,⟨v1,G1,ho1⟩,hj'⟩:=hi vi Gi ho;have alj:=(hj' v1 G1 ho1).1;have e:=Qb XC (back vi Gi xj' ho spx alj) hD;subst e;exact (hj' vj Gj hoj).2
   · obtain⟨rfl,rfl⟩:=abu QN ali ho ho0;exact (hj vj Gj hoj).2
end
