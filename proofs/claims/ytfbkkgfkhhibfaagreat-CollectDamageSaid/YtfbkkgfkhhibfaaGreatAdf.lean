/- Words. -/
import Derived.Test.YtfbkkgfkhhibfaaGreatAdr
import Derived.BigCall
set_option linter.unusedVariables false
set_option linter.unusedSimpArgs false
namespace AM
open Go Go.RowKit
theorem uX {ops:Array Oper}{o:Oper}{env:Env}{Ψ:Psi}{loc:Loc}{a:Act}{b:Bool}(h:RelE Ψ loc env a.tmps)(hg:gate ops o env=some b):Region.wanted o (yielded ops a.tmps)=b:=by
 unfold gate at hg;unfold Region.wanted;split at hg;rename_i q;rw[q];injection hg
 . rename_i g want q;rw[q];dsimp only;split at hg
   cases hg
   . rename_i d B;split at hg
     . rename_i c hc;injection hg with hg;subst hg;obtain⟨x,u,y⟩:=h.rep d _ hc;obtain⟨rfl,_⟩:=eH y;have:yielded ops a.tmps g=some c:=(by unfold yielded;rw[B];simp[u]);rw[this]
       cases c<;>cases want<;>rfl
     . rename_i hc;injection hg with hg;subst hg;obtain⟨x,u,y⟩:=h.rep d _ hc
       cases y with
       |
        tup f hs hx hr=>
        have:yielded ops a.tmps g=none:=(by unfold yielded;rw[B];simp[u]);rw[this]
        cases want<;>rfl
     cases hg
theorem Aw {ls:List Nat}{a l:Nat}(h:l<ls.length):rho ls a l=ls.getD l 0:=by simp[rho,h]
theorem FY {ls:List Nat}{a l:Nat}(h:ls.length<=l):rho ls a l=a+(l-ls.length):=by simp[rho,Nat.not_lt.2 h]
theorem O4 {ls:List Nat}{l:Nat}(h:l<ls.length):ls.getD l 0∈ls:=by rw[qi,aX h];exact eu h
theorem getD_inj {ls:List Nat}(hn:ls.Nodup){i j:Nat}(hi:i<ls.length)(a:j<ls.length)(h:ls.getD i 0=ls.getD j 0):i=j:=by rw[qi,qi,aX hi,aX a] at h;exact (List.getElem_inj hn).1 h
theorem abx {ρ:Nat->Nat}{g:List (Option Obj)}{k:Nat}(h:k<g.length):(ρ k,g[k].map (Obj.ren ρ))∈renG ρ g:=by unfold renG;exact iK.2 ⟨(g[k],k),by rw[EZ];simp[h],rfl⟩
theorem aby {ρ:Nat->Nat}{g:List (Option Obj)}{l:Nat} :l∈(renG ρ g).map (·.1) ↔∃k,k<g.length/\ρ k=l:=by unfold renG;rw[wW,iK];constructor;rintro⟨p,a,rfl⟩;exact⟨p.2,by have:=Yc a;simpa using this,rfl⟩;rintro⟨k,hk,rfl⟩;exact⟨(g[k],k),by rw[EZ];simp[hk],rfl⟩
theorem Uj {ρ:Nat->Nat}{g:List (Option Obj)}(hρ:∀i j,i<g.length->j<g.length->ρ i=ρ j->i=j):((renG ρ g).map (·.1)).Nodup:=by unfold renG;rw[wW];have:((λx=>x.1) ∘ λp:Option Obj×Nat=>(ρ p.2,p.1.map (Obj.ren ρ)))=ρ ∘ Prod.snd:=rfl;rw[this,<-wW];rw[show List.map Prod.snd g.zipIdx=List.range g.length from by rw[aa3];exact (KW).symm];rw[List.Nodup,List.pairwise_map];exact List.Pairwise.imp_of_mem (fun {i j} hi d a h=>a (hρ i j (by simpa using hi) (by simpa using d) h)) List.nodup_range
section
variable {P : Program}
theorem adY {fr:Fr}{Ψ:Psi}{loc:Loc}{σ:Sto}{w:World}{ls:List Nat}{a:Nat}{pre:List Obj}(u:Ok fr Ψ loc σ w)(hls:ls.length=pre.length)(hnd:ls.Nodup)(hno:∀l∈ls,l<a\/a+8<=l)(hbo:pre.all (Obj.lb pre.length)=true)
 (hpre:∀k o,pre[k]?=some o->σ (ls.getD k 0)=some (o.ren (rho ls a))) (H:∀l,a<=l->l<a+8->loc l=none/\σ l=none):
 ∃(G:Fr) (N:Loc),Ok G Ψ N (pX (pre.map some)) w/\G.n0=pre.length/\(∀l,pre.length<=l->N l=none)/\(∀l,l<pre.length->N l=loc (rho ls a l))/\
  ∀(g:List (Option Obj)) (Ψ':Psi) (B:Loc) (w':World),pre.length<=g.length->g.length<=pre.length+8->Ok G Ψ' B (pX g) w'->(∀l,g.length<=l->B l=none)->
   ∃O:Loc,Ψ.le Ψ'/\(∀l,(l<a\/a+8<=l)->O l=loc l)/\Loc.le loc O/\(∀l e,B l=some e->O (rho ls a l)=some e)/\Ok fr Ψ' O (σ.upds (renG (rho ls a) g)) w'/\(∀b,fr.pr b->G.pr b):=by
 have D:∀k,k<pre.length->∃o,pre[k]?=some o/\σ (rho ls a k)=some (o.ren (rho ls a))/\o.lb pre.length=true:=λk hk=>
  ⟨pre[k],aX hk,by rw[Aw (by omega)];exact hpre k _ (aX hk),nO.1 hbo _ (eu hk)⟩
 let N:Loc:=λl=>if l<pre.length then loc (rho ls a l) else none
 let G:Fr:=⟨w,λb=>b<w.heap.size/\(∀l∈ls,blk loc l≠some b)/\Ψ.tb b=none,Ψ,N,pre.length⟩
 have R:∀l,l<pre.length->N l=loc (rho ls a l):=(λl y=>by show (if _ then _ else _)=_;rw[if_pos y]);have an:∀l,pre.length<=l->N l=none:=λl y=>by show (if _ then _ else _)=_;rw[if_neg (by omega)]
 have X:∀l o,pX (pre.map some) l=some o->l<pre.length/\pre[l]?=some o:=λl o h=>by
  unfold pX at h;rw[bM] at h
  cases L:pre[l]? with
  |none=>simp [L] at h
  |some o'=>simp [L] at h;subst h;exact⟨(dD.1 L).1,rfl⟩
 have I:∀l,l<pre.length->rho ls a l∈ls:=(λl y=>by rw[Aw (by omega)];exact O4 (by omega));have a6:∀l l',l<pre.length->l'<pre.length->rho ls a l=rho ls a l'->l=l':=(λl l' y M h=>by rw[Aw (by omega),Aw (by omega)] at h;exact getD_inj hnd (by omega) (by omega) h);have hblk:∀l,l<pre.length->blk N l=blk loc (rho ls a l):=λl y=>by simp[blk,R l y]
 have a7:∀l,l<pre.length->∃e,N l=some e/\N l=some e:=λl y=>by
  obtain⟨o,_,q2,_⟩:=D l y;have:=u.ob _ _ q2;rw[R l y]
  cases o with
  |box cs=>obtain ⟨_,_,_,_,h1,_⟩:=this;exact⟨_,h1,h1⟩
  |row e k els=>obtain ⟨_,_,h1,_⟩:=this;exact⟨_,h1,h1⟩
 have U:∀b,fr.pr b->G.pr b:=λb hb=>by
  refine⟨by have:=(u.pr b hb).1;have:=u.sz;omega,λl y e=>?_,?_⟩;obtain⟨k,hk,rfl⟩:=Kw.1 y;obtain⟨o,_,h2,_⟩:=D k (by omega);rw[Aw hk,qi,aX hk] at h2;exact (u.ow _ _ b h2 e).1 hb
  . cases ht:Ψ.tb b with
    |none=>rfl
    |some e=>exact absurd hb (u.tf b e ht).1
 refine⟨G,N,?_,rfl,an,R,?_⟩
 . refine⟨u.fz,u.tb,λl o h=>?_,λl l' o o' b h h' h1 h2=>?_,λl o b h h1=>?_,λb e h=>⟨λL=>?_,(u.tf b e h).2⟩,λb h=>⟨h.1,rfl⟩,ak _,⟨rfl,rfl,rfl⟩,λ_ _ _=>rfl,.refl _,λl y=>a7 l y⟩;obtain⟨y,L⟩:=X l o h;obtain⟨o',J,q2,q3⟩:=D l y;rw[L] at J;injection J with J;subst J;exact Nc R y (u.ob _ _ q2) q3;obtain⟨y,_⟩:=X l o h;obtain⟨M,_⟩:=X l' o' h';obtain⟨_,_,q2,_⟩:=D l y;obtain⟨_,_,aq,_⟩:=D l' M;rw[hblk l y] at h1;rw[hblk l' M] at h2;exact a6 l l' y M (u.dj _ _ _ _ b q2 aq h1 h2);obtain⟨y,_⟩:=X l o h;obtain⟨_,_,q2,_⟩:=D l y;rw[hblk l y] at h1;obtain⟨r1,r2,r3⟩:=u.ow _ _ b q2 h1;exact⟨λL=>L.2.1 _ (I l y) h1,r2,r3⟩
   . have h2:Ψ.tb b=none:=L.2.2;rw[h] at h2
     cases h2
 . intro g Ψ' B w' av aw d a8;have hΨ:Ψ.le Ψ':=d.le0;have ar:∀l,l<pre.length->B l=N l:=λl y=>by obtain⟨e,h1,h2⟩:=d.l0 l y;exact h2.trans h1.symm
   have V:∀b,G.pr b->(∀q,Ψ'.fz b q=Ψ.fz b q)/\Ψ'.tb b=Ψ.tb b:=λb hb=>⟨d.pz b hb,by
    cases ht:Ψ'.tb b with
    |none=>exact hb.2.2.symm
    |some e=>exact absurd hb (d.tf b e ht).1⟩
   let O:Loc:=λl=>if a<=l/\l<a+8 then B (pre.length+(l-a)) else loc l
   have Y:∀l,(l<a\/a+8<=l)->O l=loc l:=λl y=>by show (if _ then _ else _)=_;rw[if_neg (by omega)]
   have ad:Loc.le loc O:=λl e h=>by
    by_cases y:a<=l/\l<a+8;rw[(H l y.1 y.2).1] at h;cases h
    rw[Y l (by omega)];exact h
   have al:∀l e,B l=some e->O (rho ls a l)=some e:=λl e h=>by
    by_cases y:l<pre.length;have hm:=I l y;rw[Y _ (hno _ hm)];rw[<-R l y,<-ar l y];exact h
    . have aD:l<g.length:=by
       apply O7;intro aL;rw[a8 l (by omega)] at h
       cases h
      rw[FY (by omega),hls];show (if _ then _ else _)=_;rw[if_pos (by omega),show pre.length+(a+(l-pre.length)-a)=l by omega];exact h
   (have hρ:∀i j,i<g.length->j<g.length->rho ls a i=rho ls a j->i=j:=λi j hi hj h=>by by_cases h1:i<pre.length<;>by_cases h2:j<pre.length;exact a6 i j h1 h2 h;have:=hno _ (I i h1);rw[h,FY (by omega)] at this;omega;have:=hno _ (I j h2);rw[<-h,FY (by omega)] at this;omega;rw[FY (by omega),FY (by omega)] at h;omega);have Z:∀l o,(σ.upds (renG (rho ls a) g)) l=some o->(∃k,k<g.length/\l=rho ls a k/\∃o',pX g k=some o'/\o=o'.ren (rho ls a))\/((∀k,k<g.length->rho ls a k≠l)/\σ l=some o):=(λl o h=>by by_cases aa:∃k,k<g.length/\rho ls a k=l;obtain⟨k,hk,rfl⟩:=aa;rw[Nb _ _ _ _ (Uj hρ) (abx hk)] at h;obtain⟨o',h1,rfl⟩:=mO.1 h;exact .inl ⟨k,hk,rfl,o',by simp[pX,aX hk,h1],rfl⟩;rw[fE _ _ _ (λhm=>aa (aby.1 hm))] at h;exact .inr ⟨λk hk e=>aa ⟨k,hk,e⟩,h⟩);have hold:∀l o b,(∀k,k<g.length->rho ls a k≠l)->σ l=some o->blk loc l=some b->G.pr b:=λl o b E hσ hb=>by refine⟨u.blk_lt hσ hb,λl' M e=>?_,(u.ow l o b hσ hb).2.1⟩;obtain⟨k,hk,rfl⟩:=Kw.1 M;obtain⟨o',_,h2,_⟩:=D k (by omega);have ao:rho ls a k=ls[k]:=(by rw[Aw hk,qi,aX hk];rfl);rw[ao] at h2;have:=u.dj _ _ _ _ b hσ h2 hb e;exact E k (by omega) (by rw[ao];exact this.symm)
   have Qa:∀l o,(∀k,k<g.length->rho ls a k≠l)->σ l=some o->blk O l=blk loc l:=λl o E hσ=>by
    refine kC (Y l ?_);apply O7;intro aa;rw[(H l (by omega) (by omega)).2] at hσ
    cases hσ
   have Qb:∀k o,pX g k=some o->blk O (rho ls a k)=blk B k:=λk o h=>by
    have hh:=d.ob k o h;have:∃e,B k=some e:=by
     cases o with
     |box cs=>obtain ⟨_,_,_,_,h1,_⟩:=hh;exact⟨_,h1⟩
     |row e k els=>obtain ⟨_,_,h1,_⟩:=hh;exact⟨_,h1⟩
    obtain⟨e,he⟩:=this;simp[blk,he,al k e he]
   refine⟨O,hΨ,Y,ad,al,?_,U⟩;refine⟨d.fz,d.tb,λl o h=>?_,λl l' o o' b h h' h1 h2=>?_,λl o b h h1=>?_,λb e h=>⟨λL=>(d.tf b e h).1 (U b L),(d.tf b e h).2⟩,λb h=>⟨(u.pr b h).1,(d.pr b (U b h)).2.trans (u.pr b h).2⟩,aG u.sz d.sz,⟨d.os.1.trans u.os.1,d.os.2.1.trans u.os.2.1,d.os.2.2.trans u.os.2.2⟩,λb hb q=>((V b (U b hb)).1 q).trans (u.pz b hb q),u.le0.trans hΨ,λl y=>by obtain⟨e,h1,h2⟩:=u.l0 l y;exact⟨e,h1,ad _ _ h2⟩⟩;rcases Z l o h with ⟨k,hk,rfl,o',J,rfl⟩|⟨E,hσ⟩;exact VC al (d.ob k o' J);exact (u.ob l o hσ).same hΨ ad (λb hb=>(d.pr b (hold l o b E hσ hb)).2);rcases Z l o h with ⟨k,hk,rfl,q,J,rfl⟩|⟨E,hσ⟩<;>rcases Z l' o' h' with ⟨k',aM,rfl,q',ab,rfl⟩|⟨hne',hσ'⟩;rw[Qb k q J] at h1;rw[Qb k' q' ab] at h2;rw[d.dj k k' _ _ b J ab h1 h2];rw[Qb k q J] at h1;rw[Qa l' o' hne' hσ'] at h2;exact absurd (hold l' o' b hne' hσ' h2) (d.ow k q b J h1).1;rw[Qb k' q' ab] at h2;rw[Qa l o E hσ] at h1;exact absurd (hold l o b E hσ h1) (d.ow k' q' b ab h2).1;rw[Qa l o E hσ] at h1;rw[Qa l' o' hne' hσ'] at h2;exact u.dj l l' o o' b hσ hσ' h1 h2;rcases Z l o h with ⟨k,hk,rfl,q,J,rfl⟩|⟨E,hσ⟩;rw[Qb k q J] at h1;obtain⟨r1,r2,r3⟩:=d.ow k q b J h1;exact⟨λL=>r1 (U b L),r2,r3⟩;rw[Qa l o E hσ] at h1;obtain⟨r1,r2,r3⟩:=u.ow l o b hσ h1;obtain⟨s1,s2⟩:=V b (hold l o b E hσ h1);exact⟨r1,by rw[s2];exact r2,λq=>by rw[s1];exact r3 q⟩
end
section
variable {P : Program} {ops : Array Oper} {Q : Exit -> Act -> World -> Prop} {nx i nt : Nat} {o : Oper} {env : Env} {σ : Sto} {K : Env -> Sto -> Key -> Prop}
theorem Qc {f:FuncId}(h:isGo P f=true)(args:Array Value)(w:World):(callFunc f args).run P w= .ok (.enter f args) w:=by
 unfold isGo at h;split at h
 . rename_i fn hf;simp only[dH,eQ,ne_eq] at h;obtain⟨h1,h2⟩:=h;(have h3:fn.body.isNone=false:=by cases hb:fn.body<;>simp_all);simp[callFunc,program,Sem.run,Result.andThen,hf,h1,h3];intro hb;rw[hb] at h2
   cases h2
 cases h
theorem kP {l:Nat} :own nx i l=true ↔ nx+8*i<=l/\l<nx+8*i+8:=by simp[own]
theorem yG {l:Nat} :own nx i l=false ↔ l<nx+8*i\/nx+8*i+8<=l:=by
 cases h:own nx i l with
 |true=>have:=kP.1 h;simp;omega
 |
  false=>
  simp only[true_iff];apply O7;intro hn;have:own nx i l=true:=kP.2 (by omega);rw[h] at this
  cases this
def MN (fr:Fr)(nt nx i:Nat)(loc:Loc)(σ:Sto)(K:Env->Sto->Key->Prop)(a':Act)(w':World):Prop:=
 ∃env' σ' k Ψ' loc',Rel fr Ψ' loc' nt env' σ' a' w'/\K env' σ' k/\(∀l,own nx i l=false->loc' l=loc l)/\(∀l,own nx i l=false->σ l=none->σ' l=none)
theorem Em (hi:ops[i]?=some o)(R:∀d,o.dst=some d->d<nt){fr:Fr}{Ψ:Psi}{loc:Loc}{a:Act}{w:World}(hr:Rel fr Ψ loc nt env σ a w)(H:∀l,own nx i l=true->loc l=none/\σ l=none)(h:X8 P ops nx i o K env σ):
 wpOp P ops Q i (MN fr nt nx i loc σ K) a w:=by
 obtain⟨x,U,ab,hK⟩:=h;have V:∀v G,x.out v G->∀l∈G.map (·.1),own nx i l=true\/(l∈x.key.wr/\(own nx i l=true\/σ l≠none)):=λv G ho=>uZ U ho;unfold wpOp;rw[hi];dsimp only;have L:∀d,o.dst=some d->d<a.tmps.size:=(λd hd=>by rw[hr.sz];exact R d hd);have u:∀v:Value,(a.put o.dst v).tmps.size=nt/\(a.put o.dst v).defers=[]:=λv=>by unfold Act.put;split;exact⟨by simpa using hr.sz,hr.df⟩;exact⟨hr.sz,hr.df⟩
 have I:∀v G,x.out v G->∀l,own nx i l=false->σ l=none->(σ.upds G) l=none:=λv G ho l h1 h2=>by
  rw[fE _ _ _ (λhm=>?_)];exact h2
  . rcases V v G ho l hm with h|⟨_,h|h⟩;rw[h1] at h;cases h
    rw[h1] at h;cases h
    exact h h2
 cases U with
 |
  skip hg=>
  have hw:=uX hr.env hg;rw[hw];simp only[mD,rD];have hk:=hK (.tup []) [] ⟨rfl,rfl⟩;refine⟨_,σ,_,Ψ,loc,⟨hr.env.put (.tup (λ_=>undef) rfl (λj hj=>by simp at hj) (λj v X=>by simp at X)) L,hr.ok,(u undef).1,(u undef).2⟩,hk,λ_ _=>rfl,λ_ _ h=>h⟩
 |
  op hg asi=>
  rename_i d;have hw:=uX hr.env hg;rw[hw];simp only[qM];left;obtain⟨f1,f2⟩:=H (nx+8*i) (kP.2 (by omega));obtain⟨r,w',Ψ',B,v,D,E,J,hle,hl,_⟩:=Xx asi fr Ψ loc w a.eval hr.env.ev hr.ok f1 f2 ab
  have Y:Loc.le loc B:=λl e he=>by
   by_cases hq:l=nx+8*i;rw[hq,f1] at he;cases he
   rw[hl l hq];exact he
  have hk:=hK v d.upd ⟨E,rfl⟩
  have fin:RepA Ψ' B v r\/(o.dst=none)->MN fr nt nx i loc σ K (a.put o.dst r) w':=λq=>
   ⟨_,_,_,Ψ',B,⟨by
    rcases q with q|hn;exact (hr.env.mono hle Y).put q L
    . rw[hn];exact hr.env.mono hle Y,J,(u r).1,(u r).2⟩,hk,λl ho=>hl l (λe=>by subst e;simp[own] at ho),I v d.upd ⟨E,rfl⟩⟩
  unfold Oper.wp;rcases D with ⟨D,q⟩|⟨D,hn⟩;rw[D];exact fin (.inl q);rw[D];show MN fr nt nx i loc σ K (a.put o.dst undef) w';have:=fin (.inr hn);rw[hn] at this|-;exact this
 |
  call hg ho hgo hc ha hb hbo hls hnd hno hpre=>
  rename_i f args ats asl pre post ls;have hw:=uX hr.env hg;rw[hw];simp only[qM];left;have Z:∀l∈ls,l<nx+8*i\/nx+8*i+8<=l:=(λl hl=>by have:=nO.1 hno l hl;exact yG.1 (by simpa using this));obtain⟨ad,xW,al,an,a6,ao,M⟩:=adY hr.ok hls hnd Z hbo hpre (λl h1 h2=>H l (kP.2 ⟨h1,h2⟩));have uT:(execOp a.eval o).run P w= .ok (.enter f (args.map a.eval)) w:=(by obtain⟨dst,op,ty,pos,yX,gd⟩:=o;dsimp only at ho;subst ho;rw[execOp_call_go,Qc hgo];simp);have U0:Yd Ψ xW asl (args.map a.eval).toList:=by
   have hlen:=jY List.length ha;simp only[iG,tN,iQ] at hlen;refine⟨by simp[hlen],λj v X=>?_⟩;have hj:j<asl.length:=(dD.1 X).1;have h1:=jY (λl=>l[j]?) ha;simp only[bM,xY,X,nJ] at h1
   cases hx:args.toList[j]? with
   |none=>simp [hx] at h1
   |
    some y=>
    simp[hx] at h1;have h2:=hr.env.ev y _ h1;refine⟨a.eval y,by rw[TW,bM,hx];rfl,rep_in (n:=pre.length) ao v _ h2 (Jf hb X)⟩
  unfold Oper.wp;rw[uT];show Calls P f (args.map a.eval) w _;refine (hc ad Ψ xW w _ al an a6 U0).mono ?_;rintro e w' ⟨r,v,g,Ψ',B,rfl,N,a8,aa,q,J,O⟩;obtain⟨Az,hle,aq,ar,av,a7,_⟩:=M g Ψ' B w' a8 aa J O;have E:∃r' g',post r' g'/\pre.length<=g'.length/\g'.length<=pre.length+8/\v.ren (rho ls (nx+8*i))=r'.ren (rho ls (nx+8*i))/\renG (rho ls (nx+8*i)) g=renG (rho ls (nx+8*i)) g':=⟨v,g,N,a8,aa,rfl,rfl⟩;have hk:=hK (v.ren (rho ls (nx+8*i))) (renG (rho ls (nx+8*i)) g) E;show MN fr nt nx i loc σ K (a.put o.dst r) w';exact⟨_,_,_,Ψ',Az,⟨(hr.env.mono hle ar).put (rep_out av v r q) L,a7,(u r).1,(u r).2⟩,hk,λl ho=>aq l (yG.1 ho),I _ _ E⟩
end
def YV (fr l:Nat):Bool:=decide (fr<=l) && decide (l<fr+8)
def qW (fr:Nat)(a b:Key):Prop:=(∀l∈a.wr,l∉b.rd/\l∉b.wr)/\(∀l∈b.wr,l∉a.rd)/\(a.mks=true->∀l∈b.rd++b.wr,YV fr l=false)/\(b.isC=false\/a.det=true)
section
variable {P : Program} {ops : Array Oper} {nx i j : Nat} {o oi oj : Oper} {env env' : Env} {σ σ' : Sto}
theorem Oj {K a:Env->Sto->Key->Prop}(h:exec P ops nx i o K env σ)(hk:∀x v G,Sp P ops nx i o env σ x->x.out v G->K (env.put o.dst v) (σ.upds G) x.key->a (env.put o.dst v) (σ.upds G) x.key):exec P ops nx i o a env σ:=
 let ⟨x,h1,h2,h3,h4⟩:=h;⟨x,h1,h2,h3,λv G d=>hk x v G h1 d (h4 v G d)⟩
theorem O1 (h:∀t∈o.looksAt ops,env' t=env t):∀x∈o.op.operands,ev env' x=ev env x:=λx hx=>by
 cases x with
 |tmp t=>exact h t (Eh _ (List.mem_filterMap.2 ⟨.tmp t,by simpa using hx,rfl⟩))
 |_=>rfl
theorem xN (h:∀t∈o.looksAt ops,env' t=env t):gate ops o env'=gate ops o env:=by
 unfold gate
 cases hg:o.guard with
 |none=>rfl
 |
  some gw=>
  obtain⟨g,want⟩:=gw;dsimp only
  cases hd:(ops[g]?).bind (·.dst) with
  |none=>rfl
  |
   some d=>
   dsimp only;rw[h d (by simp[Oper.looksAt,hg,hd])]
theorem O3 {x:EX}(hs:Sp P ops nx i o env σ x)(he:∀t∈o.looksAt ops,env' t=env t)(hσ:∀l,(l∈x.key.rd\/l∈x.key.wr\/own nx i l=true)->σ' l=σ l):Sp P ops nx i o env' σ' x:=by
 cases hs with
 |skip hg=>exact .skip ((xN he).trans hg)
 |
  op hg h=>
  refine .op ((xN he).trans hg) (Xb (O1 he) h (λl a=>?_));rcases a with a|a;exact hσ l (.inl a)
  . cases ho:own nx i l with
    |true=>exact hσ l (.inr (.inr ho))
    |false=>exact hσ l (.inr (.inl (Je.2 ⟨a,by simp[ho]⟩)))
 |
  call hg ho hgo hc ha hb hbo hls hnd hno hpre=>
  rename_i f args ats asl pre post ls;refine .call ((xN he).trans hg) ho hgo hc ?_ hb hbo hls hnd hno (λk o' hk=>?_);rw[<-ha];refine Tn (λy d=>O1 he y ?_);rw[ho];simp[Op.operands,Call.operands];exact .inr (by simpa using d);rw[hσ _ (.inr (.inl ?_))];exact hpre k o' hk;show ls.getD k 0∈ls;have q:=(dD.1 hk).1;exact O4 (by omega)
theorem Xc {x B:EX}(h:Sp P ops nx i o env σ x)(D:Sp P ops nx i o env σ B)(hc:x.key.isC=false):B=x:=by
 have u:∀ {f:FuncId} {args:Array Operand} {ats:Array TypeId} {e:Operand->Option AV} {y:Nat} {d:DO},o.op= .call { callee:= .value (.func f),args:=args,argTypes:=ats } ->dop P o e σ y=some d->False:=λho q=>by
  unfold dop at q;rw[ho] at q
  cases q
 cases h with
 |
  skip hg=>
  cases D with
  |skip=>rfl
  |op hg'=>rw [hg] at hg';cases hg'
  |call hg'=>rw [hg] at hg';cases hg'
 |
  op hg q=>
  cases D with
  |skip hg'=>rw [hg] at hg';cases hg'
  |op hg' a=>rw [q] at a;injection a with a;subst a;rfl
  |call hg' ho=>exact (u ho q).elim
 |call=>cases hc
theorem ahd {x:EX}(h:Sp P ops nx i o env σ x)(a:x.key.det=true){v v':AV}{G d:List (Nat×Option Obj)}(h1:x.out v G)(h2:x.out v' d):v=v'/\G=d:=by
 cases h with
 |skip hg=>exact ⟨h1.1.trans h2.1.symm,h1.2.trans h2.2.symm⟩
 |op hg h=>exact ⟨(aak h).det a _ _ h1.1 h2.1,h1.2.trans h2.2.symm⟩
 |call=>cases a
theorem aaF {t:TypeId}{v:AV}{d:DO}(h:kJ P σ t v=some d):∀l∈d.rd,σ l≠none:=by
 unfold kJ at h;split at h
 . split at h;rename_i hs;obtain⟨u,_,rfl⟩:=map_some h;intro l a;simp at a;subst a;rw[hs];simp
   cases h
 obtain⟨u,_,rfl⟩:=map_some h;intro l a;simp[DO.val] at a
 . split at h
   . rename_i hs;split at h;injection h with h;subst h;intro l a;simp at a;subst a;rw[hs];simp
     cases h
   cases h
 . split at h;obtain⟨u,_,rfl⟩:=map_some h;intro l a;simp at a
   . split at h;injection h with h;subst h;intro l a;simp at a
     cases h
 cases h
theorem adg {t:TypeId}{v:AV}{i:Int}{d:DO}(h:sD P σ t v i=some d):∀l∈d.rd,σ l≠none:=by
 unfold sD at h;split at h;injection h with h;subst h;intro l a;simp at a
 . split at h
   . rename_i hs;split at h;injection h with h;subst h;intro l a;simp at a;subst a;rw[hs];simp
     cases h
   cases h
 . split at h;injection h with h;subst h;intro l a;simp at a
   cases h
 cases h
theorem oq {α:Type}{x:Option α}{f:α->DO}{d:DO}(h:x.map f=some d)(hf:∀a,(f a).rd=[]):∀l∈d.rd,σ l≠none:=λl q=>by
 obtain⟨a,_,rfl⟩:=map_some h
 simp[hf] at q
theorem iO {d:DO}(h:d.rd=[]):∀l∈d.rd,σ l≠none:=λl a=>by rw[h] at a;cases a
theorem ahe {e:Operand->Option AV}{q:Nat}{d:DO}(h:dop P o e σ q=some d):∀l∈d.rd,σ l≠none:=by
 unfold dop at h;split at h;exact oq h (λ_=>rfl);exact oq h (λ_=>rfl)
 . split at h;exact oq h (λ_=>rfl)
   cases h
 exact oq h (λ_=>rfl)
 . obtain⟨v,u,h⟩:=bind_some h;split at h;injection h with h;subst h;exact iO rfl
   cases h
 . split at h;exact oq h (λ_=>rfl)
   cases h
 . split at h
   . split at h
     . split at h;injection h with h;subst h;exact iO rfl
       cases h
     . split at h;exact oq h (λ_=>rfl)
       cases h
   cases h
 obtain⟨v,u,h⟩:=bind_some h;exact aaF h
 . split at h
   . obtain⟨a,ha,h⟩:=bind_some h;obtain⟨v,u,h⟩:=bind_some h;unfold jf at h;split at h
     . split at h
       . split at h;injection h with h;subst h;exact iO rfl
         cases h
       cases h
     . split at h
       . split at h;injection h with h;subst h;exact iO rfl
         cases h
       cases h
     . split at h
       . split at h;injection h with h;subst h;exact iO rfl
         cases h
       cases h
     cases h
   cases h
 . obtain⟨v,u,h⟩:=bind_some h;split at h;injection h with h;subst h;exact iO rfl
   cases h
 . split at h;split at h;injection h with h;subst h;exact iO rfl;exact oq h (λ_=>rfl)
   cases h
 . split at h;injection h with h;subst h;exact iO rfl;injection h with h;subst h;exact iO rfl;injection h with h;subst h;exact iO rfl
   cases h
 . split at h;injection h with h;subst h;exact iO rfl
   cases h
 . split at h
   . split at h;exact oq h (λ_=>rfl)
     cases h
   cases h
 . obtain⟨a,ha,h⟩:=bind_some h;unfold nI at h;split at h
   . split at h;injection h with h;subst h;exact iO rfl
     cases h
   . split at h
     . split at h;injection h with h;subst h;exact iO rfl
       cases h
     cases h
   cases h
 . split at h;exact oq h (λ_=>rfl)
   cases h
 . split at h;exact adg h
   cases h
 . split at h
   . split at h;injection h with h;subst h;exact iO rfl
     cases h
   cases h
 . split at h;exact oq h (λ_=>rfl)
   cases h
 . split at h
   . unfold rP at h;split at h
     . split at h;exact oq h (λ_=>rfl)
       cases h
     . split at h
       . split at h;injection h with h;subst h;exact iO rfl
         cases h
       cases h
     . split at h
       . split at h
         . split at h
           . unfold Jd at h;split at h;injection h with h;subst h;exact iO rfl
             cases h
           unfold sN at h;split at h
           . split at h
             . split at h;injection h with h;subst h;exact iO rfl
               cases h
             cases h
           . split at h;injection h with h;subst h;exact iO rfl
             cases h
           . split at h;injection h with h;subst h;exact iO rfl
             cases h
           cases h
         cases h
       cases h
     cases h
   cases h
 cases h
theorem yF {x:EX}(h:Sp P ops nx i o env σ x):∀l,l∈x.key.rd\/l∈x.key.wr->σ l≠none:=λl a=>by
 cases h with
 |skip=>simp at a
 |
  op hg h=>
  rcases a with a|a
  . exact ahe h l a
  . obtain⟨h1,h2⟩:=Je.1 a
    rcases Ya h l h1 with rfl|h3
    . simp[own] at h2
    . exact h3
 |
  call hg ho hgo hc ha hb hbo hls hnd hno hpre=>
  rename_i f args ats asl pre post ls
  rcases a with a|a
  . cases a
  . obtain⟨k,hk,rfl⟩:=Kw.1 (show l∈ls from a)
    have d:k<pre.length:=by omega
    have:=hpre k _ (aX d)
    rw[qi,aX hk] at this
    simp only[Option.getD_some] at this
    rw[this]
    simp
theorem Ld {l:Nat} :∀(G:List (Nat×Option Obj)) (σ σ':Sto),l∈G.map (·.1)->σ.upds G l=σ'.upds G l
 | [],_,_,h=>by cases h
 |
  (r,o)::G,σ,σ',h=>by
  simp only[Sto.upds]
  by_cases hg:l∈G.map (·.1)
  . exact Ld G _ _ hg
  . simp only[kD,fV] at h
    have hr:l=r:=h.resolve_right hg
    rw[fE _ _ _ hg,fE _ _ _ hg,hr,upd_eq,upd_eq]
theorem Xd {G a:List (Nat×Option Obj)}(h:∀l∈G.map (·.1),l∉a.map (·.1))(σ:Sto):(σ.upds G).upds a=(σ.upds a).upds G:=by funext l;by_cases h1:l∈G.map (·.1);rw[fE _ _ _ (h l h1)];exact Ld G _ _ h1;rw[fE l G _ h1];by_cases h2:l∈a.map (·.1);exact Ld a _ _ h2;rw[fE _ _ _ h2,fE _ _ _ h2,fE _ _ _ h1]
theorem put_comm {d a:Option Nat}(h:∀t,d=some t->a≠some t)(v v':AV):(env.put d v).put a v'=(env.put a v').put d v:=by
 cases d with
 |none=>rfl
 |
  some t=>
  cases a with
  |none=>rfl
  |
   some t'=>
   have u:t'≠t:=λe=>h t rfl (by rw[e]);funext q;simp only[Env.put];by_cases h1:q=t;subst h1;rw[if_neg (xC u)];simp;simp[h1]
theorem Iz {d:Option Nat}{t:Nat}{v:AV}(h:d≠some t):(env.put d v) t=env t:=by
 cases d with
 |none=>rfl
 |
  some q=>
  simp only[Env.put];rw[if_neg (λe=>h (by rw[e]))]
theorem swap {K:Env->Sto->Key->Key->Prop}(ar:i≠j)(a6:oi.apart ops oj=true)(a7:∀l,own nx i l=true->σ l=none)(D:∀l,own nx j l=true->σ l=none)
 (h:exec P ops nx i oi (λe s ki=>exec P ops nx j oj (λe s kj=>qW (nx+8*i) ki kj/\K e s ki kj) e s) env σ):
 exec P ops nx j oj (λe s kj=>exec P ops nx i oi (λe s ki=>K e s ki kj) e s) env σ:=by
 obtain⟨a1,a2,a3⟩:=Oper.apart_spec a6;have u:∀l,own nx i l=true->own nx j l=true->False:=(λl h1 h2=>by have h1:=kP.1 h1;have h2:=kP.1 h2;omega);have J:∀l,YV (nx+8*i) l=own nx i l:=λl=>rfl;obtain⟨R,E,a8,⟨L,M,H⟩,hi⟩:=h;have U:∀v G,R.out v G->∀l∈G.map (·.1),own nx i l=true\/(l∈R.key.wr/\(own nx i l=true\/σ l≠none)):=λv G ho=>uZ E ho
 have back:∀(y:AV) (B:List (Nat×Option Obj)) (N:EX),R.out y B->Sp P ops nx j oj (env.put oi.dst y) (σ.upds B) N->qW (nx+8*i) R.key N.key->Sp P ops nx j oj env σ N:=λy B N ho sp d=>by
  refine O3 sp (λt ht=>(Iz (λe=>a1 t e ht)).symm) (λl a=>(fE _ _ _ (λhm=>?_)).symm);rcases U y B ho l hm with h1|⟨h1,h2⟩
  . rcases a with a|a|a;have:=d.2.2.1 (Yb E ho hm) l (Eh _ a);rw[J,h1] at this;cases this
    have:=d.2.2.1 (Yb E ho hm) l (Ei _ a);rw[J,h1] at this;cases this
    exact u l h1 a
  rcases a with a|a|a;exact (d.1 l h1).1 a;exact (d.1 l h1).2 a;rcases h2 with h2|h2;exact u l h2 a;exact h2 (D l a)
 obtain⟨N,aa,ab,⟨V,X,Y⟩,hj⟩:=hi L M H;have d:=(hj V X Y).1;have I:=back L M N H aa d;refine⟨N,I,ab,⟨V,X,Y⟩,λvj Gj O=>?_⟩;have Z:=uZ I O
 have ad:∀y B,R.out y B->∀l∈B.map (·.1),l∉Gj.map (·.1):=λy B ho l h1 h2=>by
  rcases U y B ho l h1 with p|⟨p,q⟩<;>rcases Z l h2 with p'|⟨p',q'⟩;exact u l p p';have:=d.2.2.1 (Yb E ho h1) l (Ei _ p');rw[J,p] at this;cases this
  exact yF E l (.inr p) (D l p');exact (d.1 l p).2 p'
 refine⟨R,O3 E (λt ht=>Iz (λe=>a3 t e ht)) (λl a=>fE _ _ _ (λhm=>?_)),a8,⟨L,M,H⟩,λy B ho=>?_⟩;rcases Z l hm with p|⟨p,q⟩;rcases a with a|a|a;exact yF E l (.inl a) (D l p);exact yF E l (.inr a) (D l p);exact u l a p;rcases a with a|a|a;exact d.2.1 l p a;exact (d.1 l a).2 p;exact yF I l (.inr p) (a7 l a);rw[<-put_comm (λt e=>a2 t e) y vj,<-Xd (ad y B ho) σ];rcases d.2.2.2 with hD|art;obtain⟨al,an,_,⟨v1,G1,ao⟩,hj'⟩:=hi y B ho;have aq:=(hj' v1 G1 ao).1;have e:=Xc I (back y B al ho an aq) hD;subst e;exact (hj' vj Gj O).2;obtain⟨rfl,rfl⟩:=ahd E art ho H;exact (hj vj Gj O).2
end
def freeK (o:Oper):Bool:=
 match o.op with
 | .move _ | .assign _ | .pick .. | .build .. | .buildSlice .. | .nilCheck _ | .binOp .. | .unOp .. | .convert .. | .makeSlice .. | .fieldAddr .. | .index .. | .extract .. =>true
 | .call { callee:= .builtin .len,.. } | .call { callee:= .builtin .max,.. } =>true
 |_=>false
def Rn (o:Oper)(acc:List Nat):Nat:=o.after.toList.foldl (λm e=>if Region.binds .any e then m ||| (1 <<< e.on) ||| acc.getD e.on 0 else m) 0
def masks:List Oper->List Nat->List Nat
 | [],acc=>acc
 |o::r,acc=>masks r (acc++[Rn o acc])
def acj (ops:Array Oper)(U:List (Nat×Nat)):Bool:=
 let m:=masks ops.toList []
 (List.range ops.size).all λj=>match ops[j]? with
  |none=>false
  |
   some oj=>oj.after.toList.all (λe=>!Region.binds .any e || decide (e.on<j)) &&
   (List.range j).all λi=>(m.getD j 0).testBit i || match ops[i]? with
    |none=>false
    |some oi=>oi.apart ops oj &&(freeK oi || freeK oj || U.contains (i,j))
def Eg (nt:Nat)(ops:Array Oper):Bool:=ops.toList.all λo=>match o.dst with
 |none=>true
 |some d=>decide (d<nt)
section
variable {P : Program} {ops : Array Oper} {nx : Nat}
inductive Anc (ops:Array Oper):Nat->Nat->Prop
 |one {i j:Nat} {o:Oper} {e:Edge} (h:ops[j]?=some o) (he:e∈o.after) (hb:Region.binds .any e=true) (hi:e.on=i):Anc ops i j
 |more {i k j:Nat} {o:Oper} {e:Edge} (h:ops[j]?=some o) (he:e∈o.after) (hb:Region.binds .any e=true) (hk:e.on=k) (ha:Anc ops i k):Anc ops i j
theorem Ro {o:Oper}{acc:List Nat}{i:Nat}(h:(Rn o acc).testBit i=true):∃e∈o.after,Region.binds .any e=true/\(e.on=i\/(acc.getD e.on 0).testBit i=true):=by
 have key:∀(es:List Edge) (m:Nat),(es.foldl (λm e=>if Region.binds .any e then m ||| (1 <<< e.on) ||| acc.getD e.on 0 else m) m).testBit i=true->m.testBit i=true\/∃e∈es,Region.binds .any e=true/\(e.on=i\/(acc.getD e.on 0).testBit i=true):=by
  intro es;induction es with
  |nil=>intro m h;exact .inl h
  |
   cons e r ih=>
   intro m h;rcases ih _ h with h|⟨e',h1,h2⟩;dsimp only at h;split at h;rename_i hb;rw[Nat.testBit_or,Nat.testBit_or] at h;simp only[wO] at h;rcases h with (h|h)|h;exact .inl h;right;refine⟨e,by simp,hb,.inl ?_⟩;rw[Nat.one_shiftLeft,Nat.testBit_two_pow] at h;simpa using h;exact .inr ⟨e,by simp,hb,.inr h⟩;exact .inl h;exact .inr ⟨e',by simp[h1],h2⟩
 rcases key o.after.toList 0 h with h|⟨e,h1,h2⟩;simp at h;exact⟨e,by simpa using h1,h2⟩
theorem Ic {i:Nat} :∀(os:List Oper) (acc:List Nat),(∀j o,os[j]?=some o->ops[acc.length+j]?=some o)->(∀j,(acc.getD j 0).testBit i=true->Anc ops i j)->∀j,((masks os acc).getD j 0).testBit i=true->Anc ops i j
 | [],acc,_,h,j,hb=>h j hb
 |
  o::r,acc,ho,h,j,hb=>by
  refine Ic r (acc++[Rn o acc]) (λj o' d=>?_) (λj hb=>?_) j hb
  . have:=ho (j+1) o' (by simpa using d)
    rw[<-this]
    congr 1
    simp
    omega
  . rw[qi] at hb
    by_cases d:j<acc.length
    . rw[jO d,<-qi] at hb
      exact h j hb
    . by_cases q:j=acc.length
      . subst q
        simp at hb
        obtain⟨e,h1,h2,h3⟩:=Ro hb
        have a:=ho 0 o rfl
        simp only[rQ] at a
        rcases h3 with h3|h3
        . exact .one a h1 h2 h3
        . exact .more a h1 h2 rfl (h _ h3)
      . rw[uw (by simp;omega)] at hb
        simp at hb
structure ChkD (ops:Array Oper)(U:List (Nat×Nat)):Prop where
 top:∀j o,ops[j]?=some o->∀e∈o.after,Region.binds .any e=true->e.on<j
 pair:∀i j oi oj,i<j->ops[i]?=some oi->ops[j]?=some oj->Anc ops i j\/(oi.apart ops oj=true/\(freeK oi=true\/freeK oj=true\/(i,j)∈U))
theorem VU {U:List (Nat×Nat)}(h:acj ops U=true):ChkD ops U:=by unfold acj at h;simp only[nO,wX] at h;refine⟨λj o a e he hb=>?_,λi j oi oj d hi a=>?_⟩;have h1:=h j (iW.1 a).1;rw[a] at h1;simp only[dH,nO] at h1;have h2:=h1.1 e (by simpa using he);simpa [hb] using h2;have h1:=h j (iW.1 a).1;rw[a] at h1;simp only[dH,nO,wX] at h1;have h2:=h1.2 i d;rw[hi] at h2;simp only[wO,dH] at h2;rcases h2 with h2|⟨h2,h3⟩;exact .inl (Ic ops.toList [] (λj o a=>by simpa using a) (λj hb=>by simp at hb) j h2);refine .inr ⟨h2,?_⟩;rcases h3 with (h3|h3)|h3;exact .inl h3;exact .inr (.inl h3);exact .inr (.inr (by simpa using h3))
theorem Ie {i:Nat}{o:Oper}{env:Env}{σ:Sto}{x:EX}(hf:freeK o=true)(h:Sp P ops nx i o env σ x):x.key.rd=[]/\x.key.wr=[]/\x.key.det=true/\x.key.isC=false/\∀v G,x.out v G->G=[]:=by
 cases h with
 |skip=>exact ⟨rfl,rfl,rfl,rfl,λv G h=>h.2⟩
 |
  op hg h=>
  rename_i d;have key:d.rd=[]/\d.upd=[]/\d.det=true:=by
   have q:∀ {α:Type} {x:Option α} {f:α->DO},x.map f=some d->(∀a,(f a).rd=[]/\(f a).upd=[]/\(f a).det=true)->d.rd=[]/\d.upd=[]/\d.det=true:=(λhm hf=>by obtain⟨a,_,rfl⟩:=map_some hm;exact hf a);unfold freeK at hf;unfold dop at h;split at hf
   all_goals first
    |(cases hf;done)
    |(
     rename_i ho;simp only[ho] at h
     first
      |exact q h (λ_=>⟨rfl,rfl,rfl⟩)
      |(
       repeat' split at h
       all_goals first
        |(cases h;done)
        |exact q h (λ_=>⟨rfl,rfl,rfl⟩)
        |(injection h with h;subst h;exact⟨rfl,rfl,rfl⟩))
      |(
       obtain⟨a,_,h⟩:=bind_some h;split at h;injection h with h;subst h;exact⟨rfl,rfl,rfl⟩
       . cases h)
      |(
       unfold rP at h;repeat' split at h
       all_goals first
        |(cases h;done)
        |contradiction
        |exact q h (λ_=>⟨rfl,rfl,rfl⟩)
        |(injection h with h;subst h;exact⟨rfl,rfl,rfl⟩)))
  exact⟨key.1,by simp[DO.wr,key.2.1],key.2.2,rfl,λv G h=>h.2.trans key.2.1⟩
 |
  call hg ho=>
  unfold freeK at hf;rw[ho] at hf
  cases hf
def jG (P:Program)(ops:Array Oper)(nx:Nat)(U:List (Nat×Nat))(K:Env->Sto->Prop):List (Nat×Key)->List Nat->Env->Sto->Prop
 |_,[],env,σ=>K env σ
 |
  log,i::l,env,σ=>match ops[i]? with
  |none=>jG P ops nx U K log l env σ
  |some o=>exec P ops nx i o (λenv σ k=>(∀e∈log,(e.1,i)∈U->qW (nx+8*e.1) e.2 k)/\jG P ops nx U K (log++[(i,k)]) l env σ) env σ
theorem zH {U:List (Nat×Nat)}{K:Env->Sto->Prop} :∀(l:List Nat) (log a:List (Nat×Key)) (env:Env) (σ:Sto),(∀e∈a,e∈log)->jG P ops nx U K log l env σ->jG P ops nx U K a l env σ
 | [],_,_,_,_,_,h=>h
 |
  i::l,log,a,env,σ,hs,h=>by
  unfold jG at h|-
  cases hi:ops[i]? with
  |none=>simp only[hi] at h|-;exact zH l log a env σ hs h
  |
   some o=>
   simp only[hi] at h|-
   exact nC h (λe s k hk=>⟨λx hx=>hk.1 x (hs x hx),zH l _ _ e s (λx hx=>by
    rcases ja.1 hx with hx|hx
    . exact Eh _ (hs x hx)
    . exact Ei _ hx) hk.2⟩)
theorem YU {i l:Nat} :YV (nx+8*i) l=own nx i l:=rfl
theorem front {U:List (Nat×Nat)}{K:Env->Sto->Prop}{j:Nat}{oj:Oper}(J:ops[j]?=some oj)(l2:List Nat):∀(l1:List Nat) (log:List (Nat×Key)) (env:Env) (σ:Sto),
 (∀i∈l1,i≠j/\∀oi,ops[i]?=some oi->oi.apart ops oj=true/\(freeK oi=true\/freeK oj=true\/(i,j)∈U))->(∀i,(i=j\/i∈l1)->∀l,own nx i l=true->σ l=none)->l1.Nodup->
 jG P ops nx U K log (l1++j::l2) env σ->exec P ops nx j oj (λe s k=>(∀x∈log,(x.1,j)∈U->qW (nx+8*x.1) x.2 k)/\jG P ops nx U K log (l1++l2) e s) env σ
 |
  [],log,env,σ,_,_,_,h=>by
  simp only[kN] at h|-
  unfold jG at h
  simp only[J] at h
  exact nC h (λe s k hk=>⟨hk.1,zH l2 _ _ e s (λx hx=>Eh _ hx) hk.2⟩)
 |
  i::l1,log,env,σ,hp,hf,hnd,h=>by
  obtain⟨E,L⟩:=hp i (by simp)
  simp only[xu] at h|-
  unfold jG at h
  cases hi:ops[i]? with
  |
   none=>
   simp only[hi] at h
   refine nC (front J l2 l1 log env σ (λq u=>hp q (by simp[u])) (λq u=>hf q (by rcases u with h|h<;>simp[h])) (vY.1 hnd).2 h) (λe s k hk=>⟨hk.1,?_⟩)
   unfold jG
   simp only[hi]
   exact hk.2
  |
   some oi=>
   simp only[hi] at h
   obtain⟨M,B⟩:=L oi hi
   have N:=swap (P:=P) (ops:=ops) (nx:=nx) (K:=λe s O X=>(∀x∈log,(x.1,i)∈U->qW (nx+8*x.1) x.2 O)/\(∀x∈log,(x.1,j)∈U->qW (nx+8*x.1) x.2 X)/\jG P ops nx U K (log++[(i,O)]) (l1++l2) e s) E M (hf i (by simp)) (hf j (by simp))
    (Oj h (λY v G Z ho hk=>?_))
   . refine nC N (λe s X hk=>?_)
     have R:=hk
     obtain⟨x,_,_,⟨v0,G0,h0⟩,hx⟩:=R
     refine⟨(hx v0 G0 h0).2.1,?_⟩
     unfold jG
     simp only[hi]
     exact nC hk (λe s O hk=>⟨hk.1,hk.2.2⟩)
   . have y:∀q,(q=j\/q∈l1)->∀l,own nx q l=true->(σ.upds G) l=none:=λq u l d=>by
      have a6:q≠i:=by
       rcases u with rfl|u
       . exact xC E
       . exactλe=>(vY.1 hnd).1 (e▸u)
      have h0:=hf q (by rcases u with h|h<;>simp[h]) l d
      rw[fE _ _ _ (λhm=>?_)]
      . exact h0
      . rcases uZ Z ho l hm with h1|⟨_,h1|h1⟩
        . have a:=kP.1 h1;have b:=kP.1 d;omega
        . have a:=kP.1 h1;have b:=kP.1 d;omega
        . exact h1 h0
     have ih:=front J l2 l1 (log++[(i,Y.key)]) (env.put oi.dst v) (σ.upds G) (λq u=>hp q (by simp[u])) y (vY.1 hnd).2 hk.2
     refine Oj ih (λxj vj Gj H a7 D=>⟨?_,hk.1,λx hx=>D.1 x (Eh _ hx),D.2⟩)
     rcases B with B|B|B
     . obtain⟨r1,I,r3,r4,r5⟩:=Ie B Z
       have hG:=r5 v G ho
       subst hG
       refine⟨(λl d=>by rw[I] at d;cases d),(λl d=>by rw[r1];simp),(λ_ l d=>?_),.inr r3⟩
       have V:σ l≠none:=yF H l (ja.1 d)
       rw[YU]
       cases hown:own nx i l with
       |false=>rfl
       |true=>exact absurd (hf i (by simp) l hown) V
     . obtain⟨r1,I,r3,r4,_⟩:=Ie B H
       exact⟨(λl d=>by rw[r1,I];simp),(λl d=>by rw[I] at d;cases d),(λ_ l d=>by rw[r1,I] at d;simp at d),.inl r4⟩
     . exact D.1 (i,Y.key) (Ei _ (by simp)) B
def ajB (fr:Fr)(nt nx:Nat)(K:Env->Sto->Prop)(a:Act)(w:World):Prop:=
 ∃env σ Ψ loc,Rel fr Ψ loc nt env σ a w/\(∀l,nx<=l->loc l=none/\σ l=none)/\K env σ
def Ig (nx:Nat)(done:Nat->Prop)(loc:Loc)(σ:Sto):Prop:=∀l,nx<=l->(∀i,done i->own nx i l=false)->loc l=none/\σ l=none
theorem Ol {i l:Nat}{done:Nat->Prop}(a:¬done i)(h:own nx i l=true):nx<=l/\∀q,done q->own nx q l=false:=by have h1:=kP.1 h;refine⟨by omega,λq d=>?_⟩;have u:q≠i:=λe=>a (e▸d);exact yG.2 (by omega)
theorem Ej {i:Nat}{done:Nat->Prop}{loc d:Loc}{σ σ':Sto}(h:Ig nx done loc σ)(h1:∀l,own nx i l=false->d l=loc l)(h2:∀l,own nx i l=false->σ l=none->σ' l=none):Ig nx (λq=>done q\/q=i) d σ':=λl y u=>by
 have h0:=u i (.inr rfl)
 obtain⟨a,b⟩:=h l y (λq B=>u q (.inl B))
 exact⟨by rw[h1 l h0];exact a,h2 l h0 b⟩
def Om (P:Program)(ops:Array Oper)(nx:Nat)(K:Env->Sto->Prop):List Nat->Env->Sto->Prop
 | [],env,σ=>K env σ
 |
  i::l,env,σ=>match ops[i]? with
  |none=>Om P ops nx K l env σ
  |some o=>X8 P ops nx i o (λenv σ _=>Om P ops nx K l env σ) env σ
theorem YW {nt i:Nat}{o:Oper}(h:Eg nt ops=true)(hi:ops[i]?=some o):∀d,o.dst=some d->d<nt:=λd a=>by
 unfold Eg at h
 have:=nO.1 h o (gU (by simpa using hi))
 rw[a] at this
 simpa using this
theorem zI {Q:Exit->Act->World->Prop}{fr:Fr}{nt:Nat}{K:Env->Sto->Prop}(B:Eg nt ops=true):∀(l:List Nat) (done:Nat->Prop) (env:Env) (σ:Sto) (Ψ:Psi) (loc:Loc) (a:Act) (w:World),
 l.Nodup->(∀i∈l,¬done i)->Rel fr Ψ loc nt env σ a w->Ig nx done loc σ->Om P ops nx K l env σ->(∀env σ Ψ loc a w,Rel fr Ψ loc nt env σ a w->Ig nx (λq=>done q\/q∈l) loc σ->K env σ->Q .normal a w)->wpOps P ops Q l a w
 | [],done,env,σ,Ψ,loc,a,w,_,_,hr,hf,h,hQ=>hQ env σ Ψ loc a w hr (λq d y=>hf q d (λi hi=>y i (.inl hi))) h
 |
  i::l,done,env,σ,Ψ,loc,a,w,hnd,hnot,hr,hf,h,hQ=>by
  rw[wpOps_cons]
  unfold Om at h
  cases hi:ops[i]? with
  |
   none=>
   simp only[hi] at h
   unfold wpOp
   rw[hi]
   exact zI B l done env σ Ψ loc a w (vY.1 hnd).2 (λq d=>hnot q (by simp[d])) hr hf h (λenv σ Ψ loc a w h1 h2 h3=>hQ env σ Ψ loc a w h1 (λq d y=>h2 q d (λj u=>y j (by rcases u with u|u<;>simp[u]))) h3)
  |
   some o=>
   simp only[hi] at h
   refine wpOp_mono (λa' w' hb=>?_) (Em (Q:=Q) hi (YW B hi) hr (λq d=>by
    obtain⟨h1,h2⟩:=Ol (hnot i (by simp)) d
    exact hf q h1 h2) h)
   obtain⟨D,σ',k,Ψ',E,G,hk,h1,h2⟩:=hb
   refine zI B l (λq=>done q\/q=i) D σ' Ψ' E a' w' (vY.1 hnd).2 (λq d y=>?_) G (Ej hf h1 h2) hk (λenv σ Ψ loc a w h1 h2 h3=>hQ env σ Ψ loc a w h1 (λq d y=>h2 q d (λj u=>y j (by
    rcases u with (u|u)|u
    . exact .inl u
    . exact .inr (by simp[u])
    . exact .inr (by simp[u])))) h3)
   rcases y with y|rfl
   . exact hnot q (by simp[d]) y
   . exact (vY.1 hnd).1 d
theorem JS {Q:Exit->Act->World->Prop}{fr:Fr}{nt id:Nat}{K:Env->Sto->Prop}{env:Env}{σ:Sto}{Ψ:Psi}{loc:Loc}{a:Act}{w:World}(u:Eg nt ops=true)(hr:Rel fr Ψ loc nt env σ a w)(hf:∀l,nx<=l->loc l=none/\σ l=none)
 (h:Om P ops nx K (List.range ops.size) env σ) (B:∀a w,ajB fr nt (nx+8*ops.size) K a w->Q .normal a w):(Code.region id ops false).wp P Q a w:=by refine wp_region (zI u _ (λ_=>False) env σ Ψ loc a w List.nodup_range (λ_ _ h=>h) hr (λl y _=>hf l y) h (λenv σ Ψ loc a w h1 h2 h3=>B a w ⟨env,σ,Ψ,loc,h1,λl y=>h2 l (by omega) (λq d=>?_),h3⟩));rcases d with d|d;exact d.elim;have:=wX.1 d;exact yG.2 (by omega)
theorem YX {i j:Nat}(h:Anc ops i j):∃o,ops[j]?=some o:=by
 cases h with
 |one h=>exact ⟨_,h⟩
 |more h=>exact ⟨_,h⟩
theorem Rq {listed:Array Bool}(u:∀j o,ops[j]?=some o->listed.getD j false=true->∀e∈o.after,Region.binds .any e=true->listed.getD e.on false=true){i j:Nat}(h:Anc ops i j):∀o,ops[j]?=some o->(∀e∈o.after,Region.binds .any e=true->listed.getD e.on false=true)->listed.getD i false=true:=by
 induction h with
 |
  one h he hb hi=>
  intro o' a d;rw[h] at a;injection a with a;subst a;rw[<-hi];exact d _ he hb
 |
  more h he hb hk ha ih=>
  intro o' a d;rw[h] at a;injection a with a;subst a;have y:=d _ he hb;rw[hk] at y;obtain⟨ok,q⟩:=YX ha;exact ih ok q (u _ ok q y)
theorem Oo {a:Array Bool}{j:Nat}(h:a.getD j true=false):a.getD j false=false/\j<a.size:=by rcases zB j a.size with h'|h';simp[h'] at h|-;exact h;simp[YY h'] at h
theorem Bh {Q:Exit->Act->World->Prop}{fr:Fr}{nt:Nat}{U:List (Nat×Nat)}{K:Env->Sto->Prop}(H:Eg nt ops=true)(hc:ChkD ops U):∀(fuel:Nat) (listed:Array Bool) (rem:List Nat) (env:Env) (σ:Sto) (Ψ:Psi) (loc:Loc) (a:Act) (w:World),
 rem.length=fuel->rem.Pairwise (· < ·)->(∀i,i∈rem ↔ (i<ops.size/\listed.getD i true=false))->listed.size=ops.size->
 (∀j o,ops[j]?=some o->listed.getD j false=true->∀e∈o.after,Region.binds .any e=true->listed.getD e.on false=true)->
 Rel fr Ψ loc nt env σ a w->Ig nx (λq=>q∉rem/\q<ops.size) loc σ->jG P ops nx U K [] rem env σ->(∀env σ Ψ loc a w,Rel fr Ψ loc nt env σ a w->Ig nx (λq=>q<ops.size) loc σ->K env σ->Q .normal a w)->wpAny P .any ops Q fuel listed a w
 |
  0,listed,rem,env,σ,Ψ,loc,a,w,y,hs,hm,hsz,hcl,hr,hf,h,hQ=>by
  have:rem=[]:=lS y
  subst this
  refine⟨?_,hQ env σ Ψ loc a w hr (λl h1 h2=>hf l h1 (λi hi=>h2 i hi.2)) h⟩
  apply List.eq_nil_iff_forall_not_mem.2
  intro j hj
  obtain⟨h1,o,h2,_⟩:=mem_ready.1 hj
  have:=(hm j).2 ⟨(iW.1 h2).1,h1⟩
  cases this
 |
  fuel+1,listed,rem,env,σ,Ψ,loc,a,w,y,hs,hm,hsz,hcl,hr,hf,h,hQ=>by
  have B:∃i,i∈Region.ready .any ops listed:=by
   cases rem with
   |nil=>cases y
   |
    cons i r=>
    obtain⟨h1,h2⟩:=(hm i).1 (by simp)
    refine⟨i,mem_ready.2 ⟨h2,ops[i],AA h1,λe he hb=>?_⟩⟩
    have ad:=hc.top i _ (AA h1) e he hb
    have I:e.on∉i::r:=λJ=>by
     rcases fV.1 J with h|h
     . omega
     . have:=(JU.1 hs).1 _ h;omega
    have L:listed.getD e.on true=true:=by
     cases u:listed.getD e.on true with
     |true=>rfl
     |false=>exact absurd ((hm e.on).2 ⟨by omega,u⟩) I
    have M:e.on<listed.size:=by omega
    simp[M] at L|-
    exact L
  refine⟨(λh0=>by obtain⟨i,hi⟩:=B;rw[h0] at hi;cases hi),λj hj=>?_⟩
  obtain⟨N,oj,d,D⟩:=mem_ready.1 hj
  have a6:j∈rem:=(hm j).2 ⟨(iW.1 d).1,N⟩
  obtain⟨l1,l2,rfl⟩:=List.append_of_mem a6
  have hnd:(l1++j::l2).Nodup:=hs.imp (λh=>Eo h)
  have E:∀i∈l1,i<j:=λi hi=>(Ep.1 hs).2.2 i hi j (by simp)
  have O:∀i,(i=j\/i∈l1)->∀l,own nx i l=true->loc l=none/\σ l=none:=λi hi l y=>by
   have a7:i∈l1++j::l2:=by
    rcases hi with rfl|hi
    . simp
    . simp[hi]
   obtain⟨h1,h2⟩:=Ol (done:=λq=>q∉l1++j::l2/\q<ops.size) (λh=>h.1 a7) y
   exact hf l h1 h2
  have hex:=front d l2 l1 [] env σ (λi hi=>⟨Eo (E i hi),λoi a8=>by
   rcases hc.pair i j oi oj (E i hi) a8 d with ao1|hp
   . have h1:=Rq hcl ao1 oj d D
     have h2:=((hm i).1 (by simp[hi])).2
     rw[(Oo h2).1] at h1
     cases h1
   . exact hp⟩) (λi hi l y=>(O i hi l y).2) (List.nodup_append.1 hnd).1 h
  refine wpOp_mono (λa' w' hb=>?_) (Em (Q:=Q) d (YW H d) hr (λl y=>O j (.inl rfl) l y) (aeR hex))
  obtain⟨R,σ',k,Ψ',V,aa,hk,h1,h2⟩:=hb
  have ab:j<listed.size:=(Oo N).2
  have X:j∉l1++l2:=λu=>by
   obtain⟨p1,p2,p3⟩:=List.nodup_append.1 hnd
   rcases ja.1 u with u|u
   . exact p3 j u j (by simp) rfl
   . exact (vY.1 p2).1 u
  refine Bh H hc fuel _ (l1++l2) R σ' Ψ' V a' w' (by simp at y|-;omega) (List.Pairwise.sublist (List.Sublist.append_left (List.sublist_cons_self j l2) l1) hs) (λi=>?_) (by simpa using hsz) (λq o u Y e he hb=>?_) aa (λl y hd=>?_) hk.2 hQ
  . by_cases G:i=j
    . subst G
      constructor
      . exactλh=>absurd h X
      . rintro⟨_,h⟩
        simp[ab] at h
    . rw[getD_set_ne true (xC G),<-hm i]
      simp[G]
  . by_cases Z:q=j
    . subst Z
      rw[d] at u
      injection u with u
      subst u
      exact getD_set_true (D e he hb)
    . rw[getD_set_ne false (xC Z)] at Y
      exact getD_set_true (hcl q o u Y e he hb)
  . have:=Ej hf h1 h2 l y (λi hi=>hd i ?_)
    . exact this
    . rcases hi with ⟨h3,h4⟩|rfl
      . exact⟨λh=>h3 (by rcases ja.1 h with h|h<;>simp[h]),h4⟩
      . exact⟨X,by omega⟩
theorem JV {Q:Exit->Act->World->Prop}{fr:Fr}{nt id:Nat}{U:List (Nat×Nat)}{K:Env->Sto->Prop}{env:Env}{σ:Sto}{Ψ:Psi}{loc:Loc}{a:Act}{w:World}(hm:P.follows .mixedOrders=true)(u:Eg nt ops=true)(hc:acj ops U=true)(hr:Rel fr Ψ loc nt env σ a w)(hf:∀l,nx<=l->loc l=none/\σ l=none)
 (h:jG P ops nx U K [] (List.range ops.size) env σ) (B:∀a w,ajB fr nt (nx+8*ops.size) K a w->Q .normal a w):(Code.region id ops true).wp P Q a w:=by refine wp_region_any hm (Bh u (VU hc) ops.size _ (List.range ops.size) env σ Ψ loc a _ (by simp) List.pairwise_lt_range (λi=>?_) (by simp) (λj o D d=>?_) ⟨hr.env,hr.ok.drew,hr.sz,hr.df⟩ (λl d _=>hf l d) h (λenv σ Ψ loc a w h1 h2 h3=>B a w ⟨env,σ,Ψ,loc,h1,λl d=>h2 l (by omega) (λq E=>yG.2 (by omega)),h3⟩));simp;intro h;simp[h];have y:=(iW.1 D).1;simp[y] at d
end
