/- Words. -/
import Derived.Test.YtfbkkgfkhhibfaaGreatAdr
import Derived.BigCall
set_option linter.unusedVariables false
set_option linter.unusedSimpArgs false
namespace AM
open Go Go.RowKit
theorem uq {ops:Array Oper}{o:Oper}{env:Env}{Ψ:Psi}{loc:Loc}{a:Act}{b:Bool}(h:RelE Ψ loc env a.tmps)(hg:gate ops o env=some b):Region.wanted o (yielded ops a.tmps)=b:=by
 unfold gate at hg;unfold Region.wanted;split at hg;rename_i u;rw[u];injection hg
 . rename_i g want u;rw[u];dsimp only;split at hg
   cases hg
   . rename_i d B;split at hg
     . rename_i c hc;injection hg with hg;subst hg;obtain⟨x,y,A⟩:=h.rep d _ hc;obtain⟨rfl,_⟩:=dK A;have:yielded ops a.tmps g=some c:=(by unfold yielded;rw[B];simp[y]);rw[this]
       cases c<;>cases want<;>rfl
     . rename_i hc;injection hg with hg;subst hg;obtain⟨x,y,A⟩:=h.rep d _ hc
       cases A with
       |
        tup f hs hx hr=>
        have:yielded ops a.tmps g=none:=(by unfold yielded;rw[B];simp[y]);rw[this]
        cases want<;>rfl
     cases hg
theorem zC {ls:List Nat}{a l:Nat}(h:l<ls.length):rho ls a l=ls.getD l 0:=by simp[rho,h]
theorem Ff {ls:List Nat}{a l:Nat}(h:ls.length<=l):rho ls a l=a+(l-ls.length):=by simp[rho,Nat.not_lt.2 h]
theorem NU {ls:List Nat}{l:Nat}(h:l<ls.length):ls.getD l 0∈ls:=by rw[pR,aV h];exact dm h
theorem getD_inj {ls:List Nat}(hn:ls.Nodup){i j:Nat}(hi:i<ls.length)(a:j<ls.length)(h:ls.getD i 0=ls.getD j 0):i=j:=by rw[pR,pR,aV hi,aV a] at h;exact (List.getElem_inj hn).1 h
theorem aad {ρ:Nat->Nat}{g:List (Option Obj)}{k:Nat}(h:k<g.length):(ρ k,g[k].map (Obj.ren ρ))∈renG ρ g:=by unfold renG;exact iV.2 ⟨(g[k],k),by rw[Et];simp[h],rfl⟩
theorem aae {ρ:Nat->Nat}{g:List (Option Obj)}{l:Nat} :l∈(renG ρ g).map (·.1) ↔∃k,k<g.length/\ρ k=l:=by unfold renG;rw[vz,iV];constructor;rintro⟨p,a,rfl⟩;exact⟨p.2,by have:=WO a;simpa using this,rfl⟩;rintro⟨k,hk,rfl⟩;exact⟨(g[k],k),by rw[Et];simp[hk],rfl⟩
theorem Sz {ρ:Nat->Nat}{g:List (Option Obj)}(hρ:∀i j,i<g.length->j<g.length->ρ i=ρ j->i=j):((renG ρ g).map (·.1)).Nodup:=by unfold renG;rw[vz];have:((λx=>x.1) ∘ λp:Option Obj×Nat=>(ρ p.2,p.1.map (Obj.ren ρ)))=ρ ∘ Prod.snd:=rfl;rw[this,<-vz];rw[show List.map Prod.snd g.zipIdx=List.range g.length from by rw[ZC];exact (JS).symm];rw[List.Nodup,List.pairwise_map];exact List.Pairwise.imp_of_mem (fun {i j} hi d a h=>a (hρ i j (by simpa using hi) (by simpa using d) h)) List.nodup_range
section
variable {P : Program}
theorem acB {fr:Fr}{Ψ:Psi}{loc:Loc}{σ:Sto}{w:World}{ls:List Nat}{a:Nat}{pre:List Obj}(u:Ok fr Ψ loc σ w)(hls:ls.length=pre.length)(hnd:ls.Nodup)(hno:∀l∈ls,l<a\/a+8<=l)(hbo:pre.all (Obj.lb pre.length)=true)
 (hpre:∀k o,pre[k]?=some o->σ (ls.getD k 0)=some (o.ren (rho ls a))) (G:∀l,a<=l->l<a+8->loc l=none/\σ l=none):
 ∃(E:Fr) (N:Loc),Ok E Ψ N (oZ (pre.map some)) w/\E.n0=pre.length/\(∀l,pre.length<=l->N l=none)/\(∀l,l<pre.length->N l=loc (rho ls a l))/\
  ∀(g:List (Option Obj)) (Ψ':Psi) (A:Loc) (w':World),pre.length<=g.length->g.length<=pre.length+8->Ok E Ψ' A (oZ g) w'->(∀l,g.length<=l->A l=none)->
   ∃O:Loc,Ψ.le Ψ'/\(∀l,(l<a\/a+8<=l)->O l=loc l)/\Loc.le loc O/\(∀l e,A l=some e->O (rho ls a l)=some e)/\Ok fr Ψ' O (σ.upds (renG (rho ls a) g)) w'/\(∀b,fr.pr b->E.pr b):=by
 have B:∀k,k<pre.length->∃o,pre[k]?=some o/\σ (rho ls a k)=some (o.ren (rho ls a))/\o.lb pre.length=true:=λk hk=>
  ⟨pre[k],aV hk,by rw[zC (by omega)];exact hpre k _ (aV hk),mf.1 hbo _ (dm hk)⟩
 let N:Loc:=λl=>if l<pre.length then loc (rho ls a l) else none
 let E:Fr:=⟨w,λb=>b<w.heap.size/\(∀l∈ls,blk loc l≠some b)/\Ψ.tb b=none,Ψ,N,pre.length⟩
 have U:∀l,l<pre.length->N l=loc (rho ls a l):=(λl y=>by show (if _ then _ else _)=_;rw[if_pos y]);have ao:∀l,pre.length<=l->N l=none:=λl y=>by show (if _ then _ else _)=_;rw[if_neg (by omega)]
 have Y:∀l o,oZ (pre.map some) l=some o->l<pre.length/\pre[l]?=some o:=λl o h=>by
  unfold oZ at h;rw[bK] at h
  cases J:pre[l]? with
  |none=>simp [J] at h
  |some o'=>simp [J] at h;subst h;exact⟨(bV.1 J).1,rfl⟩
 have H:∀l,l<pre.length->rho ls a l∈ls:=(λl y=>by rw[zC (by omega)];exact NU (by omega));have a6:∀l l',l<pre.length->l'<pre.length->rho ls a l=rho ls a l'->l=l':=(λl l' y L h=>by rw[zC (by omega),zC (by omega)] at h;exact getD_inj hnd (by omega) (by omega) h);have hblk:∀l,l<pre.length->blk N l=blk loc (rho ls a l):=λl y=>by simp[blk,U l y]
 have a7:∀l,l<pre.length->∃e,N l=some e/\N l=some e:=λl y=>by
  obtain⟨o,_,q2,_⟩:=B l y;have:=u.ob _ _ q2;rw[U l y]
  cases o with
  |box cs=>obtain ⟨_,_,_,_,h1,_⟩:=this;exact⟨_,h1,h1⟩
  |row e k els=>obtain ⟨_,_,h1,_⟩:=this;exact⟨_,h1,h1⟩
  |rov e k els i cs=>obtain ⟨_,_,_,h1,_⟩:=this;exact⟨_,h1,h1⟩
 have V:∀b,fr.pr b->E.pr b:=λb hb=>by
  refine⟨by have:=(u.pr b hb).1;have:=u.sz;omega,λl y e=>?_,?_⟩;obtain⟨k,hk,rfl⟩:=Jy.1 y;obtain⟨o,_,h2,_⟩:=B k (by omega);rw[zC hk,pR,aV hk] at h2;exact (u.ow _ _ b h2 e).1 hb
  . cases ht:Ψ.tb b with
    |none=>rfl
    |some e=>exact absurd hb (u.tf b e ht).1
 refine⟨E,N,?_,rfl,ao,U,?_⟩
 . refine⟨u.fz,u.tb,λl o h=>?_,λl l' o o' b h h' h1 h2=>?_,λl o b h h1=>?_,λb e h=>⟨λJ=>?_,(u.tf b e h).2⟩,λb h=>⟨h.1,rfl⟩,ax _,⟨rfl,rfl,rfl⟩,λ_ _ _=>rfl,.refl _,λl y=>a7 l y⟩;obtain⟨y,J⟩:=Y l o h;obtain⟨o',I,q2,q3⟩:=B l y;rw[J] at I;injection I with I;subst I;exact Lu U y (u.ob _ _ q2) q3;obtain⟨y,_⟩:=Y l o h;obtain⟨L,_⟩:=Y l' o' h';obtain⟨_,_,q2,_⟩:=B l y;obtain⟨_,_,ar,_⟩:=B l' L;rw[hblk l y] at h1;rw[hblk l' L] at h2;exact a6 l l' y L (u.dj _ _ _ _ b q2 ar h1 h2);obtain⟨y,_⟩:=Y l o h;obtain⟨_,_,q2,_⟩:=B l y;rw[hblk l y] at h1;obtain⟨r1,r2,r3⟩:=u.ow _ _ b q2 h1;exact⟨λJ=>J.2.1 _ (H l y) h1,r2,r3⟩
   . have h2:Ψ.tb b=none:=J.2.2;rw[h] at h2
     cases h2
 . intro g Ψ' A w' aw aD d a8;have hΨ:Ψ.le Ψ':=d.le0;have av:∀l,l<pre.length->A l=N l:=λl y=>by obtain⟨e,h1,h2⟩:=d.l0 l y;exact h2.trans h1.symm
   have X:∀b,E.pr b->(∀q,Ψ'.fz b q=Ψ.fz b q)/\Ψ'.tb b=Ψ.tb b:=λb hb=>⟨d.pz b hb,by
    cases ht:Ψ'.tb b with
    |none=>exact hb.2.2.symm
    |some e=>exact absurd hb (d.tf b e ht).1⟩
   let O:Loc:=λl=>if a<=l/\l<a+8 then A (pre.length+(l-a)) else loc l
   have Z:∀l,(l<a\/a+8<=l)->O l=loc l:=λl y=>by show (if _ then _ else _)=_;rw[if_neg (by omega)]
   have al:Loc.le loc O:=λl e h=>by
    by_cases y:a<=l/\l<a+8;rw[(G l y.1 y.2).1] at h;cases h
    rw[Z l (by omega)];exact h
   have an:∀l e,A l=some e->O (rho ls a l)=some e:=λl e h=>by
    by_cases y:l<pre.length;have hm:=H l y;rw[Z _ (hno _ hm)];rw[<-U l y,<-av l y];exact h
    . have aL:l<g.length:=by
       apply NW;intro aM;rw[a8 l (by omega)] at h
       cases h
      rw[Ff (by omega),hls];show (if _ then _ else _)=_;rw[if_pos (by omega),show pre.length+(a+(l-pre.length)-a)=l by omega];exact h
   (have hρ:∀i j,i<g.length->j<g.length->rho ls a i=rho ls a j->i=j:=λi j hi hj h=>by by_cases h1:i<pre.length<;>by_cases h2:j<pre.length;exact a6 i j h1 h2 h;have:=hno _ (H i h1);rw[h,Ff (by omega)] at this;omega;have:=hno _ (H j h2);rw[<-h,Ff (by omega)] at this;omega;rw[Ff (by omega),Ff (by omega)] at h;omega);have aa:∀l o,(σ.upds (renG (rho ls a) g)) l=some o->(∃k,k<g.length/\l=rho ls a k/\∃o',oZ g k=some o'/\o=o'.ren (rho ls a))\/((∀k,k<g.length->rho ls a k≠l)/\σ l=some o):=(λl o h=>by by_cases ab:∃k,k<g.length/\rho ls a k=l;obtain⟨k,hk,rfl⟩:=ab;rw[Lt _ _ _ _ (Sz hρ) (aad hk)] at h;obtain⟨o',h1,rfl⟩:=mX.1 h;exact .inl ⟨k,hk,rfl,o',by simp[oZ,aV hk,h1],rfl⟩;rw[dY _ _ _ (λhm=>ab (aae.1 hm))] at h;exact .inr ⟨λk hk e=>ab ⟨k,hk,e⟩,h⟩);have hold:∀l o b,(∀k,k<g.length->rho ls a k≠l)->σ l=some o->blk loc l=some b->E.pr b:=λl o b D hσ hb=>by refine⟨u.blk_lt hσ hb,λl' L e=>?_,(u.ow l o b hσ hb).2.1⟩;obtain⟨k,hk,rfl⟩:=Jy.1 L;obtain⟨o',_,h2,_⟩:=B k (by omega);have aq:rho ls a k=ls[k]:=(by rw[zC hk,pR,aV hk];rfl);rw[aq] at h2;have:=u.dj _ _ _ _ b hσ h2 hb e;exact D k (by omega) (by rw[aq];exact this.symm)
   have OW:∀l o,(∀k,k<g.length->rho ls a k≠l)->σ l=some o->blk O l=blk loc l:=λl o D hσ=>by
    refine jm (Z l ?_);apply NW;intro ab;rw[(G l (by omega) (by omega)).2] at hσ
    cases hσ
   have OX:∀k o,oZ g k=some o->blk O (rho ls a k)=blk A k:=λk o h=>by
    have hh:=d.ob k o h;have:∃e,A k=some e:=by
     cases o with
     |box cs=>obtain ⟨_,_,_,_,h1,_⟩:=hh;exact⟨_,h1⟩
     |row e k els=>obtain ⟨_,_,h1,_⟩:=hh;exact⟨_,h1⟩
     |rov e k els i cs=>obtain ⟨_,_,_,h1,_⟩:=hh;exact⟨_,h1⟩
    obtain⟨e,he⟩:=this;simp[blk,he,an k e he]
   refine⟨O,hΨ,Z,al,an,?_,V⟩;refine⟨d.fz,d.tb,λl o h=>?_,λl l' o o' b h h' h1 h2=>?_,λl o b h h1=>?_,λb e h=>⟨λJ=>(d.tf b e h).1 (V b J),(d.tf b e h).2⟩,λb h=>⟨(u.pr b h).1,(d.pr b (V b h)).2.trans (u.pr b h).2⟩,aP u.sz d.sz,⟨d.os.1.trans u.os.1,d.os.2.1.trans u.os.2.1,d.os.2.2.trans u.os.2.2⟩,λb hb q=>((X b (V b hb)).1 q).trans (u.pz b hb q),u.le0.trans hΨ,λl y=>by obtain⟨e,h1,h2⟩:=u.l0 l y;exact⟨e,h1,al _ _ h2⟩⟩;rcases aa l o h with ⟨k,hk,rfl,o',I,rfl⟩|⟨D,hσ⟩;exact Uo an (d.ob k o' I);exact (u.ob l o hσ).same hΨ al (λb hb=>(d.pr b (hold l o b D hσ hb)).2);rcases aa l o h with ⟨k,hk,rfl,q,I,rfl⟩|⟨D,hσ⟩<;>rcases aa l' o' h' with ⟨k',aR,rfl,q',ad,rfl⟩|⟨hne',hσ'⟩;rw[OX k q I] at h1;rw[OX k' q' ad] at h2;rw[d.dj k k' _ _ b I ad h1 h2];rw[OX k q I] at h1;rw[OW l' o' hne' hσ'] at h2;exact absurd (hold l' o' b hne' hσ' h2) (d.ow k q b I h1).1;rw[OX k' q' ad] at h2;rw[OW l o D hσ] at h1;exact absurd (hold l o b D hσ h1) (d.ow k' q' b ad h2).1;rw[OW l o D hσ] at h1;rw[OW l' o' hne' hσ'] at h2;exact u.dj l l' o o' b hσ hσ' h1 h2;rcases aa l o h with ⟨k,hk,rfl,q,I,rfl⟩|⟨D,hσ⟩;rw[OX k q I] at h1;obtain⟨r1,r2,r3⟩:=d.ow k q b I h1;exact⟨λJ=>r1 (V b J),r2,r3⟩;rw[OW l o D hσ] at h1;obtain⟨r1,r2,r3⟩:=u.ow l o b hσ h1;obtain⟨s1,s2⟩:=X b (hold l o b D hσ h1);exact⟨r1,by rw[s2];exact r2,λq=>by rw[s1];exact r3 q⟩
end
section
variable {P : Program} {ops : Array Oper} {Q : Exit -> Act -> World -> Prop} {nx i nt : Nat} {o : Oper} {env : Env} {σ : Sto} {K : Env -> Sto -> Key -> Prop}
theorem OY {f:FuncId}(h:isGo P f=true)(args:Array Value)(w:World):(callFunc f args).run P w= .ok (.enter f args) w:=by
 unfold isGo at h;split at h
 . rename_i fn hf;simp only[cZ,kS,ne_eq] at h;obtain⟨h1,h2⟩:=h;(have h3:fn.body.isNone=false:=by cases hb:fn.body<;>simp_all);simp[callFunc,program,Sem.run,Result.andThen,hf,h1,h3];intro hb;rw[hb] at h2
   cases h2
 cases h
theorem kN {l:Nat} :own nx i l=true ↔ nx+8*i<=l/\l<nx+8*i+8:=by simp[own]
theorem xK {l:Nat} :own nx i l=false ↔ l<nx+8*i\/nx+8*i+8<=l:=by
 cases h:own nx i l with
 |true=>have:=kN.1 h;simp;omega
 |
  false=>
  simp only[true_iff];apply NW;intro hn;have:own nx i l=true:=kN.2 (by omega);rw[h] at this
  cases this
def La (fr:Fr)(nt nx i:Nat)(loc:Loc)(σ:Sto)(K:Env->Sto->Key->Prop)(a':Act)(w':World):Prop:=
 ∃env' σ' k Ψ' loc',Rel fr Ψ' loc' nt env' σ' a' w'/\K env' σ' k/\(∀l,own nx i l=false->loc' l=loc l)/\(∀l,own nx i l=false->σ l=none->σ' l=none)
theorem DT (hi:ops[i]?=some o)(V:∀d,o.dst=some d->d<nt){fr:Fr}{Ψ:Psi}{loc:Loc}{a:Act}{w:World}(hr:Rel fr Ψ loc nt env σ a w)(H:∀l,own nx i l=true->loc l=none/\σ l=none)(h:WJ P ops nx i o K env σ):
 wpOp P ops Q i (La fr nt nx i loc σ K) a w:=by
 obtain⟨x,X,al,hK⟩:=h;have Y:∀v G,x.out v G->∀l∈G.map (·.1),own nx i l=true\/(l∈x.key.wr/\(own nx i l=true\/σ l≠none)):=λv G ho=>uw X ho;unfold wpOp;rw[hi];dsimp only;have L:∀d,o.dst=some d->d<a.tmps.size:=(λd hd=>by rw[hr.sz];exact V d hd);have A:∀v:Value,(a.put o.dst v).tmps.size=nt/\(a.put o.dst v).defers=[]:=λv=>by unfold Act.put;split;exact⟨by simpa using hr.sz,hr.df⟩;exact⟨hr.sz,hr.df⟩
 have I:∀v G,x.out v G->∀l,own nx i l=false->σ l=none->(σ.upds G) l=none:=λv G ho l h1 h2=>by
  rw[dY _ _ _ (λhm=>?_)];exact h2
  . rcases Y v G ho l hm with h|⟨_,h|h⟩;rw[h1] at h;cases h
    rw[h1] at h;cases h
    exact h h2
 cases X with
 |
  skip hg=>
  have hw:=uq hr.env hg;rw[hw];simp only[lS,tq];have hk:=hK (.tup []) [] ⟨rfl,rfl⟩;refine⟨_,σ,_,Ψ,loc,⟨hr.env.put (.tup (λ_=>undef) rfl (λj hj=>by simp at hj) (λj v Z=>by simp at Z)) L,hr.ok,(A undef).1,(A undef).2⟩,hk,λ_ _=>rfl,λ_ _ h=>h⟩
 |
  op hg aqf=>
  rename_i d;have hw:=uq hr.env hg;rw[hw];simp only[su];left;obtain⟨f1,f2⟩:=H (nx+8*i) (kN.2 (by omega));obtain⟨r,w',Ψ',B,v,D,E,J,hle,hl,_⟩:=VS aqf fr Ψ loc w a.eval hr.env.ev hr.ok f1 f2 al
  have aa:Loc.le loc B:=λl e he=>by
   by_cases hq:l=nx+8*i;rw[hq,f1] at he;cases he
   rw[hl l hq];exact he
  have hk:=hK v d.upd ⟨E,rfl⟩
  have fin:RepA Ψ' B v r\/(o.dst=none)->La fr nt nx i loc σ K (a.put o.dst r) w':=λu=>
   ⟨_,_,_,Ψ',B,⟨by
    rcases u with u|hn;exact (hr.env.mono hle aa).put u L
    . rw[hn];exact hr.env.mono hle aa,J,(A r).1,(A r).2⟩,hk,λl ho=>hl l (λe=>by subst e;simp[own] at ho),I v d.upd ⟨E,rfl⟩⟩
  unfold Oper.wp;rcases D with ⟨D,u⟩|⟨D,hn⟩;rw[D];exact fin (.inl u);rw[D];show La fr nt nx i loc σ K (a.put o.dst undef) w';have:=fin (.inr hn);rw[hn] at this|-;exact this
 |
  call hg ho hgo hc ha hb hbo hls hnd hno hpre=>
  rename_i f args ats as pre post ls;have hw:=uq hr.env hg;rw[hw];simp only[su];left;have a6:∀l∈ls,l<nx+8*i\/nx+8*i+8<=l:=(λl hl=>by have:=mf.1 hno l hl;exact xK.1 (by simpa using this));obtain⟨an,wX,ao,aq,a7,ar,N⟩:=acB hr.ok hls hnd a6 hbo hpre (λl h1 h2=>H l (kN.2 ⟨h1,h2⟩));have nR:(execOp a.eval o).run P w= .ok (.enter f (args.map a.eval)) w:=(by obtain⟨dst,op,ty,pos,yg,gd⟩:=o;dsimp only at ho;subst ho;rw[execOp_call_go,OY hgo];simp);have TF:WQ Ψ wX as (args.map a.eval).toList:=by
   have hlen:=jW List.length ha;simp only[gy,nH,eP] at hlen;refine⟨by simp[hlen],λj v Z=>?_⟩;have hj:j<as.length:=(bV.1 Z).1;have h1:=jW (λl=>l[j]?) ha;simp only[bK,pU,Z,ng] at h1
   cases hx:args.toList[j]? with
   |none=>simp [hx] at h1
   |
    some y=>
    simp[hx] at h1;have h2:=hr.env.ev y _ h1;refine⟨a.eval y,by rw[Jm,bK,hx];rfl,rep_in (n:=pre.length) ar v _ h2 (BC hb Z)⟩
  unfold Oper.wp;rw[nR];show Calls P f (args.map a.eval) w _;refine (hc an Ψ wX w _ ao aq a7 TF).mono ?_;rintro e w' ⟨r,v,g,Ψ',B,rfl,O,ab,ad,u,J,U⟩;obtain⟨zD,hle,av,aw,aD,a8,_⟩:=N g Ψ' B w' ab ad J U;have E:∃r' g',post r' g'/\pre.length<=g'.length/\g'.length<=pre.length+8/\v.ren (rho ls (nx+8*i))=r'.ren (rho ls (nx+8*i))/\renG (rho ls (nx+8*i)) g=renG (rho ls (nx+8*i)) g':=⟨v,g,O,ab,ad,rfl,rfl⟩;have hk:=hK (v.ren (rho ls (nx+8*i))) (renG (rho ls (nx+8*i)) g) E;show La fr nt nx i loc σ K (a.put o.dst r) w';exact⟨_,_,_,Ψ',zD,⟨(hr.env.mono hle aw).put (rep_out aD v r u) L,a8,(A r).1,(A r).2⟩,hk,λl ho=>av l (xK.1 ho),I _ _ E⟩
end
def XN (fr l:Nat):Bool:=decide (fr<=l) && decide (l<fr+8)
def qU (fr:Nat)(a b:Key):Prop:=(∀l∈a.wr,l∉b.rd/\l∉b.wr)/\(∀l∈b.wr,l∉a.rd)/\(a.mks=true->∀l∈b.rd++b.wr,XN fr l=false)/\(b.isC=false\/a.det=true)
section
variable {P : Program} {ops : Array Oper} {nx i j : Nat} {o oi oj : Oper} {env env' : Env} {σ σ' : Sto}
theorem MR {K a:Env->Sto->Key->Prop}(h:exec P ops nx i o K env σ)(hk:∀x v G,Sp P ops nx i o env σ x->x.out v G->K (env.put o.dst v) (σ.upds G) x.key->a (env.put o.dst v) (σ.upds G) x.key):exec P ops nx i o a env σ:=
 let ⟨x,h1,h2,h3,h4⟩:=h;⟨x,h1,h2,h3,λv G d=>hk x v G h1 d (h4 v G d)⟩
theorem NS (h:∀t∈o.looksAt ops,env' t=env t):∀x∈o.op.operands,ev env' x=ev env x:=λx hx=>by
 cases x with
 |tmp t=>exact h t (DK _ (List.mem_filterMap.2 ⟨.tmp t,by simpa using hx,rfl⟩))
 |_=>rfl
theorem wP (h:∀t∈o.looksAt ops,env' t=env t):gate ops o env'=gate ops o env:=by
 unfold gate
 cases hg:o.guard with
 |none=>rfl
 |
  some gw=>
  obtain⟨g,want⟩:=gw;dsimp only
  cases hd:(ops[g]?).bind (·.dst) with
  |none=>rfl
  |
   some d=>
   dsimp only;rw[h d (by simp[Oper.looksAt,hg,hd])]
theorem NT {x:EX}(hs:Sp P ops nx i o env σ x)(he:∀t∈o.looksAt ops,env' t=env t)(hσ:∀l,(l∈x.key.rd\/l∈x.key.wr\/own nx i l=true)->σ' l=σ l):Sp P ops nx i o env' σ' x:=by
 cases hs with
 |skip hg=>exact .skip ((wP he).trans hg)
 |
  op hg h=>
  refine .op ((wP he).trans hg) (Vu (NS he) h (λl a=>?_));rcases a with a|a;exact hσ l (.inl a)
  . cases ho:own nx i l with
    |true=>exact hσ l (.inr (.inr ho))
    |false=>exact hσ l (.inr (.inl (Ir.2 ⟨a,by simp[ho]⟩)))
 |
  call hg ho hgo hc ha hb hbo hls hnd hno hpre=>
  rename_i f args ats as pre post ls;refine .call ((wP he).trans hg) ho hgo hc ?_ hb hbo hls hnd hno (λk o' hk=>?_);rw[<-ha];refine QZ (λy d=>NS he y ?_);rw[ho];simp[Op.operands,Call.operands];exact .inr (by simpa using d);rw[hσ _ (.inr (.inl ?_))];exact hpre k o' hk;show ls.getD k 0∈ls;have u:=(bV.1 hk).1;exact NU (by omega)
theorem Vw {x B:EX}(h:Sp P ops nx i o env σ x)(D:Sp P ops nx i o env σ B)(hc:x.key.isC=false):B=x:=by
 have y:∀ {f:FuncId} {args:Array Operand} {ats:Array TypeId} {e:Operand->Option AV} {A:Nat} {d:DO},o.op= .call { callee:= .value (.func f),args:=args,argTypes:=ats } ->dop P o e σ A=some d->False:=λho u=>by
  unfold dop at u;rw[ho] at u
  cases u
 cases h with
 |
  skip hg=>
  cases D with
  |skip=>rfl
  |op hg'=>rw [hg] at hg';cases hg'
  |call hg'=>rw [hg] at hg';cases hg'
 |
  op hg u=>
  cases D with
  |skip hg'=>rw [hg] at hg';cases hg'
  |op hg' a=>rw [u] at a;injection a with a;subst a;rfl
  |call hg' ho=>exact (y ho u).elim
 |call=>cases hc
theorem afm {x:EX}(h:Sp P ops nx i o env σ x)(a:x.key.det=true){v v':AV}{G d:List (Nat×Option Obj)}(h1:x.out v G)(h2:x.out v' d):v=v'/\G=d:=by
 cases h with
 |skip hg=>exact ⟨h1.1.trans h2.1.symm,h1.2.trans h2.2.symm⟩
 |op hg h=>exact ⟨(JQ h).det a _ _ h1.1 h2.1,h1.2.trans h2.2.symm⟩
 |call=>cases a
theorem Zd {t:TypeId}{v:AV}{d:DO}(h:lH P σ t v=some d):∀l∈d.rd,σ l≠none:=by
 unfold lH at h;split at h
 . split at h;rename_i hs;obtain⟨u,_,rfl⟩:=map_some h;intro l a;simp at a;subst a;rw[hs];simp
   cases h
 obtain⟨u,_,rfl⟩:=map_some h;intro l a;simp[DO.val] at a
 . split at h
   . rename_i hs;split at h;injection h with h;subst h;intro l a;simp at a;subst a;rw[hs];simp
     cases h
   . rename_i hs;split at h;obtain⟨u,_,rfl⟩:=map_some h;intro l a;simp at a;subst a;rw[hs];simp
     cases h
   cases h
 . split at h;obtain⟨u,_,rfl⟩:=map_some h;intro l a;simp at a
   . split at h;injection h with h;subst h;intro l a;simp at a
     cases h
 cases h
theorem abU {t:TypeId}{v:AV}{i:Int}{d:DO}(h:uO P σ t v i=some d):∀l∈d.rd,σ l≠none:=by
 unfold uO at h;split at h;injection h with h;subst h;intro l a;simp at a
 . split at h
   . rename_i hs;split at h;injection h with h;subst h;intro l a;simp at a;subst a;rw[hs];simp
     cases h
   . rename_i hs;split at h;injection h with h;subst h;intro l a;simp at a;subst a;rw[hs];simp
     cases h
   cases h
 . split at h;injection h with h;subst h;intro l a;simp at a
   cases h
 cases h
theorem nV {α:Type}{x:Option α}{f:α->DO}{d:DO}(h:x.map f=some d)(hf:∀a,(f a).rd=[]):∀l∈d.rd,σ l≠none:=λl u=>by
 obtain⟨a,_,rfl⟩:=map_some h
 simp[hf] at u
theorem fM {d:DO}(h:d.rd=[]):∀l∈d.rd,σ l≠none:=λl a=>by rw[h] at a;cases a
theorem afn {e:Operand->Option AV}{u:Nat}{d:DO}(h:dop P o e σ u=some d):∀l∈d.rd,σ l≠none:=by
 unfold dop at h;split at h;exact nV h (λ_=>rfl);exact nV h (λ_=>rfl)
 . split at h;exact nV h (λ_=>rfl)
   cases h
 exact nV h (λ_=>rfl)
 . obtain⟨v,y,h⟩:=bind_some h;split at h;injection h with h;subst h;exact fM rfl
   cases h
 . split at h;exact nV h (λ_=>rfl)
   cases h
 . split at h
   . split at h
     . split at h;injection h with h;subst h;exact fM rfl
       cases h
     . split at h;split at h;obtain⟨v,rfl⟩:=BB h;exact fM rfl;exact nV h (λ_=>rfl)
       cases h
   cases h
 obtain⟨v,y,h⟩:=bind_some h;exact Zd h
 . split at h
   . obtain⟨a,ha,h⟩:=bind_some h;obtain⟨v,y,h⟩:=bind_some h;unfold jV at h;split at h
     . split at h
       . split at h;injection h with h;subst h;exact fM rfl
         cases h
       cases h
     . split at h
       . split at h;injection h with h;subst h;exact fM rfl
         cases h
       . split at h;injection h with h;subst h;exact fM rfl
         cases h
       cases h
     . split at h
       . split at h;injection h with h;subst h;exact fM rfl
         cases h
       cases h
     cases h
   cases h
 . obtain⟨v,y,h⟩:=bind_some h;split at h;injection h with h;subst h;exact fM rfl
   cases h
 . split at h;split at h;injection h with h;subst h;exact fM rfl;exact nV h (λ_=>rfl)
   cases h
 . split at h;injection h with h;subst h;exact fM rfl;injection h with h;subst h;exact fM rfl;injection h with h;subst h;exact fM rfl
   cases h
 . split at h;injection h with h;subst h;exact fM rfl
   cases h
 . split at h
   . split at h;exact nV h (λ_=>rfl)
     cases h
   cases h
 . obtain⟨a,ha,h⟩:=bind_some h;unfold mY at h;split at h
   . split at h;injection h with h;subst h;exact fM rfl
     cases h
   . split at h
     . split at h;injection h with h;subst h;exact fM rfl
       cases h
     cases h
   cases h
 . split at h;exact nV h (λ_=>rfl)
   cases h
 . split at h;exact abU h
   cases h
 . split at h
   . split at h;injection h with h;subst h;exact fM rfl
     cases h
   cases h
 . split at h;exact nV h (λ_=>rfl)
   cases h
 . split at h
   . unfold ry at h;split at h
     . split at h;exact nV h (λ_=>rfl)
       cases h
     . split at h
       . split at h;injection h with h;subst h;exact fM rfl
         cases h
       cases h
     . split at h
       . split at h
         . split at h
           . unfold Iq at h;split at h;injection h with h;subst h;exact fM rfl
             cases h
           unfold qH at h;split at h
           . split at h
             . split at h;injection h with h;subst h;exact fM rfl
               cases h
             . split at h;injection h with h;subst h;exact fM rfl
               cases h
             . split at h
               . split at h;injection h with h;subst h;exact fM rfl
                 cases h
               cases h
             cases h
           . split at h;injection h with h;subst h;exact fM rfl
             cases h
           . split at h;injection h with h;subst h;exact fM rfl
             cases h
           cases h
         cases h
       cases h
     cases h
   cases h
 cases h
theorem xJ {x:EX}(h:Sp P ops nx i o env σ x):∀l,l∈x.key.rd\/l∈x.key.wr->σ l≠none:=λl a=>by
 cases h with
 |skip=>simp at a
 |
  op hg h=>
  rcases a with a|a
  . exact afn h l a
  . obtain⟨h1,h2⟩:=Ir.1 a
    rcases WM h l h1 with rfl|h3
    . simp[own] at h2
    . exact h3
 |
  call hg ho hgo hc ha hb hbo hls hnd hno hpre=>
  rename_i f args ats as pre post ls
  rcases a with a|a
  . cases a
  . obtain⟨k,hk,rfl⟩:=Jy.1 (show l∈ls from a)
    have d:k<pre.length:=by omega
    have:=hpre k _ (aV d)
    rw[pR,aV hk] at this
    simp only[Option.getD_some] at this
    rw[this]
    simp
theorem JZ {l:Nat} :∀(G:List (Nat×Option Obj)) (σ σ':Sto),l∈G.map (·.1)->σ.upds G l=σ'.upds G l
 | [],_,_,h=>by cases h
 |
  (r,o)::G,σ,σ',h=>by
  simp only[Sto.upds]
  by_cases hg:l∈G.map (·.1)
  . exact JZ G _ _ hg
  . simp only[kH,dV] at h
    have hr:l=r:=h.resolve_right hg
    rw[dY _ _ _ hg,dY _ _ _ hg,hr,upd_eq,upd_eq]
theorem Vx {G a:List (Nat×Option Obj)}(h:∀l∈G.map (·.1),l∉a.map (·.1))(σ:Sto):(σ.upds G).upds a=(σ.upds a).upds G:=by funext l;by_cases h1:l∈G.map (·.1);rw[dY _ _ _ (h l h1)];exact JZ G _ _ h1;rw[dY l G _ h1];by_cases h2:l∈a.map (·.1);exact JZ a _ _ h2;rw[dY _ _ _ h2,dY _ _ _ h2,dY _ _ _ h1]
theorem put_comm {d a:Option Nat}(h:∀t,d=some t->a≠some t)(v v':AV):(env.put d v).put a v'=(env.put a v').put d v:=by
 cases d with
 |none=>rfl
 |
  some t=>
  cases a with
  |none=>rfl
  |
   some t'=>
   have u:t'≠t:=λe=>h t rfl (by rw[e]);funext q;simp only[Env.put];by_cases h1:q=t;subst h1;rw[if_neg (wB u)];simp;simp[h1]
theorem Hy {d:Option Nat}{t:Nat}{v:AV}(h:d≠some t):(env.put d v) t=env t:=by
 cases d with
 |none=>rfl
 |
  some q=>
  simp only[Env.put];rw[if_neg (λe=>h (by rw[e]))]
theorem swap {K:Env->Sto->Key->Key->Prop}(av:i≠j)(a7:oi.apart ops oj=true)(a8:∀l,own nx i l=true->σ l=none)(B:∀l,own nx j l=true->σ l=none)
 (h:exec P ops nx i oi (λe s ki=>exec P ops nx j oj (λe s kj=>qU (nx+8*i) ki kj/\K e s ki kj) e s) env σ):
 exec P ops nx j oj (λe s kj=>exec P ops nx i oi (λe s ki=>K e s ki kj) e s) env σ:=by
 obtain⟨a1,a2,a3⟩:=Oper.apart_spec a7;have u:∀l,own nx i l=true->own nx j l=true->False:=(λl h1 h2=>by have h1:=kN.1 h1;have h2:=kN.1 h2;omega);have I:∀l,XN (nx+8*i) l=own nx i l:=λl=>rfl;obtain⟨U,D,aa,⟨J,L,E⟩,hi⟩:=h;have V:∀v G,U.out v G->∀l∈G.map (·.1),own nx i l=true\/(l∈U.key.wr/\(own nx i l=true\/σ l≠none)):=λv G ho=>uw D ho
 have back:∀(y:AV) (A:List (Nat×Option Obj)) (N:EX),U.out y A->Sp P ops nx j oj (env.put oi.dst y) (σ.upds A) N->qU (nx+8*i) U.key N.key->Sp P ops nx j oj env σ N:=λy A N ho sp d=>by
  refine NT sp (λt ht=>(Hy (λe=>a1 t e ht)).symm) (λl a=>(dY _ _ _ (λhm=>?_)).symm);rcases V y A ho l hm with h1|⟨h1,h2⟩
  . rcases a with a|a|a;have:=d.2.2.1 (WN D ho hm) l (DK _ a);rw[I,h1] at this;cases this
    have:=d.2.2.1 (WN D ho hm) l (DL _ a);rw[I,h1] at this;cases this
    exact u l h1 a
  rcases a with a|a|a;exact (d.1 l h1).1 a;exact (d.1 l h1).2 a;rcases h2 with h2|h2;exact u l h2 a;exact h2 (B l a)
 obtain⟨N,ab,ad,⟨X,Y,Z⟩,hj⟩:=hi J L E;have d:=(hj X Y Z).1;have H:=back J L N E ab d;refine⟨N,H,ad,⟨X,Y,Z⟩,λvj Gj O=>?_⟩;have a6:=uw H O
 have al:∀y A,U.out y A->∀l∈A.map (·.1),l∉Gj.map (·.1):=λy A ho l h1 h2=>by
  rcases V y A ho l h1 with p|⟨p,q⟩<;>rcases a6 l h2 with p'|⟨p',q'⟩;exact u l p p';have:=d.2.2.1 (WN D ho h1) l (DL _ p');rw[I,p] at this;cases this
  exact xJ D l (.inr p) (B l p');exact (d.1 l p).2 p'
 refine⟨U,NT D (λt ht=>Hy (λe=>a3 t e ht)) (λl a=>dY _ _ _ (λhm=>?_)),aa,⟨J,L,E⟩,λy A ho=>?_⟩;rcases a6 l hm with p|⟨p,q⟩;rcases a with a|a|a;exact xJ D l (.inl a) (B l p);exact xJ D l (.inr a) (B l p);exact u l a p;rcases a with a|a|a;exact d.2.1 l p a;exact (d.1 l a).2 p;exact xJ H l (.inr p) (a8 l a);rw[<-put_comm (λt e=>a2 t e) y vj,<-Vx (al y A ho) σ];rcases d.2.2.2 with hD|apw;obtain⟨an,ao,_,⟨v1,G1,aq⟩,hj'⟩:=hi y A ho;have ar:=(hj' v1 G1 aq).1;have e:=Vw H (back y A an ho ao ar) hD;subst e;exact (hj' vj Gj O).2;obtain⟨rfl,rfl⟩:=afm D apw ho E;exact (hj vj Gj O).2
end
def freeK (o:Oper):Bool:=
 match o.op with
 | .move _ | .assign _ | .pick .. | .build .. | .buildSlice .. | .nilCheck _ | .binOp .. | .unOp .. | .convert .. | .makeSlice .. | .fieldAddr .. | .index .. | .extract .. =>true
 | .call { callee:= .builtin .len,.. } | .call { callee:= .builtin .max,.. } =>true
 |_=>false
def Ql (o:Oper)(acc:List Nat):Nat:=o.after.toList.foldl (λm e=>if Region.binds .any e then m ||| (1 <<< e.on) ||| acc.getD e.on 0 else m) 0
def masks:List Oper->List Nat->List Nat
 | [],acc=>acc
 |o::r,acc=>masks r (acc++[Ql o acc])
def aaX (ops:Array Oper)(U:List (Nat×Nat)):Bool:=
 let m:=masks ops.toList []
 (List.range ops.size).all λj=>match ops[j]? with
  |none=>false
  |
   some oj=>oj.after.toList.all (λe=>!Region.binds .any e || decide (e.on<j)) &&
   (List.range j).all λi=>(m.getD j 0).testBit i || match ops[i]? with
    |none=>false
    |some oi=>oi.apart ops oj &&(freeK oi || freeK oj || U.contains (i,j))
def DJ (nt:Nat)(ops:Array Oper):Bool:=ops.toList.all λo=>match o.dst with
 |none=>true
 |some d=>decide (d<nt)
section
variable {P : Program} {ops : Array Oper} {nx : Nat}
inductive Anc (ops:Array Oper):Nat->Nat->Prop
 |one {i j:Nat} {o:Oper} {e:Edge} (h:ops[j]?=some o) (he:e∈o.after) (hb:Region.binds .any e=true) (hi:e.on=i):Anc ops i j
 |more {i k j:Nat} {o:Oper} {e:Edge} (h:ops[j]?=some o) (he:e∈o.after) (hb:Region.binds .any e=true) (hk:e.on=k) (ha:Anc ops i k):Anc ops i j
theorem Qm {o:Oper}{acc:List Nat}{i:Nat}(h:(Ql o acc).testBit i=true):∃e∈o.after,Region.binds .any e=true/\(e.on=i\/(acc.getD e.on 0).testBit i=true):=by
 have key:∀(es:List Edge) (m:Nat),(es.foldl (λm e=>if Region.binds .any e then m ||| (1 <<< e.on) ||| acc.getD e.on 0 else m) m).testBit i=true->m.testBit i=true\/∃e∈es,Region.binds .any e=true/\(e.on=i\/(acc.getD e.on 0).testBit i=true):=by
  intro es;induction es with
  |nil=>intro m h;exact .inl h
  |
   cons e r ih=>
   intro m h;rcases ih _ h with h|⟨e',h1,h2⟩;dsimp only at h;split at h;rename_i hb;rw[Nat.testBit_or,Nat.testBit_or] at h;simp only[xH] at h;rcases h with (h|h)|h;exact .inl h;right;refine⟨e,by simp,hb,.inl ?_⟩;rw[Nat.one_shiftLeft,Nat.testBit_two_pow] at h;simpa using h;exact .inr ⟨e,by simp,hb,.inr h⟩;exact .inl h;exact .inr ⟨e',by simp[h1],h2⟩
 rcases key o.after.toList 0 h with h|⟨e,h1,h2⟩;simp at h;exact⟨e,by simpa using h1,h2⟩
theorem G9 {i:Nat} :∀(os:List Oper) (acc:List Nat),(∀j o,os[j]?=some o->ops[acc.length+j]?=some o)->(∀j,(acc.getD j 0).testBit i=true->Anc ops i j)->∀j,((masks os acc).getD j 0).testBit i=true->Anc ops i j
 | [],acc,_,h,j,hb=>h j hb
 |
  o::r,acc,ho,h,j,hb=>by
  refine G9 r (acc++[Ql o acc]) (λj o' d=>?_) (λj hb=>?_) j hb
  . have:=ho (j+1) o' (by simpa using d)
    rw[<-this]
    congr 1
    simp
    omega
  . rw[pR] at hb
    by_cases d:j<acc.length
    . rw[jI d,<-pR] at hb
      exact h j hb
    . by_cases u:j=acc.length
      . subst u
        simp at hb
        obtain⟨e,h1,h2,h3⟩:=Qm hb
        have a:=ho 0 o rfl
        simp only[oD] at a
        rcases h3 with h3|h3
        . exact .one a h1 h2 h3
        . exact .more a h1 h2 rfl (h _ h3)
      . rw[rF (by simp;omega)] at hb
        simp at hb
structure ChkD (ops:Array Oper)(U:List (Nat×Nat)):Prop where
 top:∀j o,ops[j]?=some o->∀e∈o.after,Region.binds .any e=true->e.on<j
 pair:∀i j oi oj,i<j->ops[i]?=some oi->ops[j]?=some oj->Anc ops i j\/(oi.apart ops oj=true/\(freeK oi=true\/freeK oj=true\/(i,j)∈U))
theorem UJ {U:List (Nat×Nat)}(h:aaX ops U=true):ChkD ops U:=by unfold aaX at h;simp only[mf,yB] at h;refine⟨λj o a e he hb=>?_,λi j oi oj d hi a=>?_⟩;have h1:=h j (iU.1 a).1;rw[a] at h1;simp only[cZ,mf] at h1;have h2:=h1.1 e (by simpa using he);simpa [hb] using h2;have h1:=h j (iU.1 a).1;rw[a] at h1;simp only[cZ,mf,yB] at h1;have h2:=h1.2 i d;rw[hi] at h2;simp only[xH,cZ] at h2;rcases h2 with h2|⟨h2,h3⟩;exact .inl (G9 ops.toList [] (λj o a=>by simpa using a) (λj hb=>by simp at hb) j h2);refine .inr ⟨h2,?_⟩;rcases h3 with (h3|h3)|h3;exact .inl h3;exact .inr (.inl h3);exact .inr (.inr (by simpa using h3))
theorem Ha {i:Nat}{o:Oper}{env:Env}{σ:Sto}{x:EX}(hf:freeK o=true)(h:Sp P ops nx i o env σ x):x.key.rd=[]/\x.key.wr=[]/\x.key.det=true/\x.key.isC=false/\∀v G,x.out v G->G=[]:=by
 cases h with
 |skip=>exact ⟨rfl,rfl,rfl,rfl,λv G h=>h.2⟩
 |
  op hg h=>
  rename_i d;have key:d.rd=[]/\d.upd=[]/\d.det=true:=by
   have u:∀ {α:Type} {x:Option α} {f:α->DO},x.map f=some d->(∀a,(f a).rd=[]/\(f a).upd=[]/\(f a).det=true)->d.rd=[]/\d.upd=[]/\d.det=true:=(λhm hf=>by obtain⟨a,_,rfl⟩:=map_some hm;exact hf a);unfold freeK at hf;unfold dop at h;split at hf
   all_goals first
    |(cases hf;done)
    |(
     rename_i ho;simp only[ho] at h
     first
      |exact u h (λ_=>⟨rfl,rfl,rfl⟩)
      |(
       repeat' split at h
       all_goals first
        |(cases h;done)
        |exact u h (λ_=>⟨rfl,rfl,rfl⟩)
        |(obtain⟨v,rfl⟩:=BB h;exact⟨rfl,rfl,rfl⟩)
        |(injection h with h;subst h;exact⟨rfl,rfl,rfl⟩))
      |(
       obtain⟨a,_,h⟩:=bind_some h;split at h;injection h with h;subst h;exact⟨rfl,rfl,rfl⟩
       . cases h)
      |(
       unfold ry at h;repeat' split at h
       all_goals first
        |(cases h;done)
        |contradiction
        |exact u h (λ_=>⟨rfl,rfl,rfl⟩)
        |(injection h with h;subst h;exact⟨rfl,rfl,rfl⟩)))
  exact⟨key.1,by simp[DO.wr,key.2.1],key.2.2,rfl,λv G h=>h.2.trans key.2.1⟩
 |
  call hg ho=>
  unfold freeK at hf;rw[ho] at hf
  cases hf
def jB (P:Program)(ops:Array Oper)(nx:Nat)(U:List (Nat×Nat))(K:Env->Sto->Prop):List (Nat×Key)->List Nat->Env->Sto->Prop
 |_,[],env,σ=>K env σ
 |
  log,i::l,env,σ=>match ops[i]? with
  |none=>jB P ops nx U K log l env σ
  |some o=>exec P ops nx i o (λenv σ k=>(∀e∈log,(e.1,i)∈U->qU (nx+8*e.1) e.2 k)/\jB P ops nx U K (log++[(i,k)]) l env σ) env σ
theorem yQ {U:List (Nat×Nat)}{K:Env->Sto->Prop} :∀(l:List Nat) (log a:List (Nat×Key)) (env:Env) (σ:Sto),(∀e∈a,e∈log)->jB P ops nx U K log l env σ->jB P ops nx U K a l env σ
 | [],_,_,_,_,_,h=>h
 |
  i::l,log,a,env,σ,hs,h=>by
  unfold jB at h|-
  cases hi:ops[i]? with
  |none=>simp only[hi] at h|-;exact yQ l log a env σ hs h
  |
   some o=>
   simp only[hi] at h|-
   exact mO h (λe s k hk=>⟨λx hx=>hk.1 x (hs x hx),yQ l _ _ e s (λx hx=>by
    rcases jM.1 hx with hx|hx
    . exact DK _ (hs x hx)
    . exact DL _ hx) hk.2⟩)
theorem XM {i l:Nat} :XN (nx+8*i) l=own nx i l:=rfl
theorem front {U:List (Nat×Nat)}{K:Env->Sto->Prop}{j:Nat}{oj:Oper}(I:ops[j]?=some oj)(l2:List Nat):∀(l1:List Nat) (log:List (Nat×Key)) (env:Env) (σ:Sto),
 (∀i∈l1,i≠j/\∀oi,ops[i]?=some oi->oi.apart ops oj=true/\(freeK oi=true\/freeK oj=true\/(i,j)∈U))->(∀i,(i=j\/i∈l1)->∀l,own nx i l=true->σ l=none)->l1.Nodup->
 jB P ops nx U K log (l1++j::l2) env σ->exec P ops nx j oj (λe s k=>(∀x∈log,(x.1,j)∈U->qU (nx+8*x.1) x.2 k)/\jB P ops nx U K log (l1++l2) e s) env σ
 |
  [],log,env,σ,_,_,_,h=>by
  simp only[lN] at h|-
  unfold jB at h
  simp only[I] at h
  exact mO h (λe s k hk=>⟨hk.1,yQ l2 _ _ e s (λx hx=>DK _ hx) hk.2⟩)
 |
  i::l1,log,env,σ,hp,hf,hnd,h=>by
  obtain⟨D,J⟩:=hp i (by simp)
  simp only[Dy] at h|-
  unfold jB at h
  cases hi:ops[i]? with
  |
   none=>
   simp only[hi] at h
   refine mO (front I l2 l1 log env σ (λq u=>hp q (by simp[u])) (λq u=>hf q (by rcases u with h|h<;>simp[h])) (uS.1 hnd).2 h) (λe s k hk=>⟨hk.1,?_⟩)
   unfold jB
   simp only[hi]
   exact hk.2
  |
   some oi=>
   simp only[hi] at h
   obtain⟨L,A⟩:=J oi hi
   have N:=swap (P:=P) (ops:=ops) (nx:=nx) (K:=λe s O Y=>(∀x∈log,(x.1,i)∈U->qU (nx+8*x.1) x.2 O)/\(∀x∈log,(x.1,j)∈U->qU (nx+8*x.1) x.2 Y)/\jB P ops nx U K (log++[(i,O)]) (l1++l2) e s) D L (hf i (by simp)) (hf j (by simp))
    (MR h (λZ v G Wj ho hk=>?_))
   . refine mO N (λe s Y hk=>?_)
     have V:=hk
     obtain⟨x,_,_,⟨v0,G0,h0⟩,hx⟩:=V
     refine⟨(hx v0 G0 h0).2.1,?_⟩
     unfold jB
     simp only[hi]
     exact mO hk (λe s O hk=>⟨hk.1,hk.2.2⟩)
   . have y:∀q,(q=j\/q∈l1)->∀l,own nx q l=true->(σ.upds G) l=none:=λq u l d=>by
      have a6:q≠i:=by
       rcases u with rfl|u
       . exact wB D
       . exactλe=>(uS.1 hnd).1 (e▸u)
      have h0:=hf q (by rcases u with h|h<;>simp[h]) l d
      rw[dY _ _ _ (λhm=>?_)]
      . exact h0
      . rcases uw Wj ho l hm with h1|⟨_,h1|h1⟩
        . have a:=kN.1 h1;have b:=kN.1 d;omega
        . have a:=kN.1 h1;have b:=kN.1 d;omega
        . exact h1 h0
     have ih:=front I l2 l1 (log++[(i,Z.key)]) (env.put oi.dst v) (σ.upds G) (λq u=>hp q (by simp[u])) y (uS.1 hnd).2 hk.2
     refine MR ih (λxj vj Gj E a7 B=>⟨?_,hk.1,λx hx=>B.1 x (DK _ hx),B.2⟩)
     rcases A with A|A|A
     . obtain⟨r1,H,r3,r4,r5⟩:=Ha A Wj
       have hG:=r5 v G ho
       subst hG
       refine⟨(λl d=>by rw[H] at d;cases d),(λl d=>by rw[r1];simp),(λ_ l d=>?_),.inr r3⟩
       have X:σ l≠none:=xJ E l (jM.1 d)
       rw[XM]
       cases hown:own nx i l with
       |false=>rfl
       |true=>exact absurd (hf i (by simp) l hown) X
     . obtain⟨r1,H,r3,r4,_⟩:=Ha A E
       exact⟨(λl d=>by rw[r1,H];simp),(λl d=>by rw[H] at d;cases d),(λ_ l d=>by rw[r1,H] at d;simp at d),.inl r4⟩
     . exact B.1 (i,Z.key) (DL _ (by simp)) A
def ahG (fr:Fr)(nt nx:Nat)(K:Env->Sto->Prop)(a:Act)(w:World):Prop:=
 ∃env σ Ψ loc,Rel fr Ψ loc nt env σ a w/\(∀l,nx<=l->loc l=none/\σ l=none)/\K env σ
def He (nx:Nat)(done:Nat->Prop)(loc:Loc)(σ:Sto):Prop:=∀l,nx<=l->(∀i,done i->own nx i l=false)->loc l=none/\σ l=none
theorem MV {i l:Nat}{done:Nat->Prop}(a:¬done i)(h:own nx i l=true):nx<=l/\∀q,done q->own nx q l=false:=by have h1:=kN.1 h;refine⟨by omega,λq d=>?_⟩;have u:q≠i:=λe=>a (e▸d);exact xK.2 (by omega)
theorem DN {i:Nat}{done:Nat->Prop}{loc d:Loc}{σ σ':Sto}(h:He nx done loc σ)(h1:∀l,own nx i l=false->d l=loc l)(h2:∀l,own nx i l=false->σ l=none->σ' l=none):He nx (λq=>done q\/q=i) d σ':=λl y u=>by
 have h0:=u i (.inr rfl)
 obtain⟨a,b⟩:=h l y (λq A=>u q (.inl A))
 exact⟨by rw[h1 l h0];exact a,h2 l h0 b⟩
def MW (P:Program)(ops:Array Oper)(nx:Nat)(K:Env->Sto->Prop):List Nat->Env->Sto->Prop
 | [],env,σ=>K env σ
 |
  i::l,env,σ=>match ops[i]? with
  |none=>MW P ops nx K l env σ
  |some o=>WJ P ops nx i o (λenv σ _=>MW P ops nx K l env σ) env σ
theorem XO {nt i:Nat}{o:Oper}(h:DJ nt ops=true)(hi:ops[i]?=some o):∀d,o.dst=some d->d<nt:=λd a=>by
 unfold DJ at h
 have:=mf.1 h o (iC (by simpa using hi))
 rw[a] at this
 simpa using this
theorem yR {Q:Exit->Act->World->Prop}{fr:Fr}{nt:Nat}{K:Env->Sto->Prop}(A:DJ nt ops=true):∀(l:List Nat) (done:Nat->Prop) (env:Env) (σ:Sto) (Ψ:Psi) (loc:Loc) (a:Act) (w:World),
 l.Nodup->(∀i∈l,¬done i)->Rel fr Ψ loc nt env σ a w->He nx done loc σ->MW P ops nx K l env σ->(∀env σ Ψ loc a w,Rel fr Ψ loc nt env σ a w->He nx (λq=>done q\/q∈l) loc σ->K env σ->Q .normal a w)->wpOps P ops Q l a w
 | [],done,env,σ,Ψ,loc,a,w,_,_,hr,hf,h,hQ=>hQ env σ Ψ loc a w hr (λq d y=>hf q d (λi hi=>y i (.inl hi))) h
 |
  i::l,done,env,σ,Ψ,loc,a,w,hnd,hnot,hr,hf,h,hQ=>by
  rw[wpOps_cons]
  unfold MW at h
  cases hi:ops[i]? with
  |
   none=>
   simp only[hi] at h
   unfold wpOp
   rw[hi]
   exact yR A l done env σ Ψ loc a w (uS.1 hnd).2 (λq d=>hnot q (by simp[d])) hr hf h (λenv σ Ψ loc a w h1 h2 h3=>hQ env σ Ψ loc a w h1 (λq d y=>h2 q d (λj u=>y j (by rcases u with u|u<;>simp[u]))) h3)
  |
   some o=>
   simp only[hi] at h
   refine wpOp_mono (λa' w' hb=>?_) (DT (Q:=Q) hi (XO A hi) hr (λq d=>by
    obtain⟨h1,h2⟩:=MV (hnot i (by simp)) d
    exact hf q h1 h2) h)
   obtain⟨B,σ',k,Ψ',D,E,hk,h1,h2⟩:=hb
   refine yR A l (λq=>done q\/q=i) B σ' Ψ' D a' w' (uS.1 hnd).2 (λq d y=>?_) E (DN hf h1 h2) hk (λenv σ Ψ loc a w h1 h2 h3=>hQ env σ Ψ loc a w h1 (λq d y=>h2 q d (λj u=>y j (by
    rcases u with (u|u)|u
    . exact .inl u
    . exact .inr (by simp[u])
    . exact .inr (by simp[u])))) h3)
   rcases y with y|rfl
   . exact hnot q (by simp[d]) y
   . exact (uS.1 hnd).1 d
theorem Jd {Q:Exit->Act->World->Prop}{fr:Fr}{nt id:Nat}{K:Env->Sto->Prop}{env:Env}{σ:Sto}{Ψ:Psi}{loc:Loc}{a:Act}{w:World}(u:DJ nt ops=true)(hr:Rel fr Ψ loc nt env σ a w)(hf:∀l,nx<=l->loc l=none/\σ l=none)
 (h:MW P ops nx K (List.range ops.size) env σ) (A:∀a w,ahG fr nt (nx+8*ops.size) K a w->Q .normal a w):(Code.region id ops false).wp P Q a w:=by refine wp_region (yR u _ (λ_=>False) env σ Ψ loc a w List.nodup_range (λ_ _ h=>h) hr (λl y _=>hf l y) h (λenv σ Ψ loc a w h1 h2 h3=>A a w ⟨env,σ,Ψ,loc,h1,λl y=>h2 l (by omega) (λq d=>?_),h3⟩));rcases d with d|d;exact d.elim;have:=yB.1 d;exact xK.2 (by omega)
theorem XP {i j:Nat}(h:Anc ops i j):∃o,ops[j]?=some o:=by
 cases h with
 |one h=>exact ⟨_,h⟩
 |more h=>exact ⟨_,h⟩
theorem Qn {listed:Array Bool}(y:∀j o,ops[j]?=some o->listed.getD j false=true->∀e∈o.after,Region.binds .any e=true->listed.getD e.on false=true){i j:Nat}(h:Anc ops i j):∀o,ops[j]?=some o->(∀e∈o.after,Region.binds .any e=true->listed.getD e.on false=true)->listed.getD i false=true:=by
 induction h with
 |
  one h he hb hi=>
  intro o' a d;rw[h] at a;injection a with a;subst a;rw[<-hi];exact d _ he hb
 |
  more h he hb hk ha ih=>
  intro o' a d;rw[h] at a;injection a with a;subst a;have A:=d _ he hb;rw[hk] at A;obtain⟨ok,u⟩:=XP ha;exact ih ok u (y _ ok u A)
theorem MX {a:Array Bool}{j:Nat}(h:a.getD j true=false):a.getD j false=false/\j<a.size:=by rcases vT j a.size with h'|h';simp[h'] at h|-;exact h;simp[XQ h'] at h
theorem zZ {Q:Exit->Act->World->Prop}{fr:Fr}{nt:Nat}{U:List (Nat×Nat)}{K:Env->Sto->Prop}(G:DJ nt ops=true)(hc:ChkD ops U):∀(fuel:Nat) (listed:Array Bool) (rem:List Nat) (env:Env) (σ:Sto) (Ψ:Psi) (loc:Loc) (a:Act) (w:World),
 rem.length=fuel->rem.Pairwise (· < ·)->(∀i,i∈rem ↔ (i<ops.size/\listed.getD i true=false))->listed.size=ops.size->
 (∀j o,ops[j]?=some o->listed.getD j false=true->∀e∈o.after,Region.binds .any e=true->listed.getD e.on false=true)->
 Rel fr Ψ loc nt env σ a w->He nx (λq=>q∉rem/\q<ops.size) loc σ->jB P ops nx U K [] rem env σ->(∀env σ Ψ loc a w,Rel fr Ψ loc nt env σ a w->He nx (λq=>q<ops.size) loc σ->K env σ->Q .normal a w)->wpAny P .any ops Q fuel listed a w
 |
  0,listed,rem,env,σ,Ψ,loc,a,w,y,hs,hm,hsz,hcl,hr,hf,h,hQ=>by
  have:rem=[]:=lZ y
  subst this
  refine⟨?_,hQ env σ Ψ loc a w hr (λl h1 h2=>hf l h1 (λi hi=>h2 i hi.2)) h⟩
  apply List.eq_nil_iff_forall_not_mem.2
  intro j hj
  obtain⟨h1,o,h2,_⟩:=mem_ready.1 hj
  have:=(hm j).2 ⟨(iU.1 h2).1,h1⟩
  cases this
 |
  fuel+1,listed,rem,env,σ,Ψ,loc,a,w,y,hs,hm,hsz,hcl,hr,hf,h,hQ=>by
  have A:∃i,i∈Region.ready .any ops listed:=by
   cases rem with
   |nil=>cases y
   |
    cons i r=>
    obtain⟨h1,h2⟩:=(hm i).1 (by simp)
    refine⟨i,mem_ready.2 ⟨h2,ops[i],zG h1,λe he hb=>?_⟩⟩
    have al:=hc.top i _ (zG h1) e he hb
    have H:e.on∉i::r:=λI=>by
     rcases dV.1 I with h|h
     . omega
     . have:=(Je.1 hs).1 _ h;omega
    have J:listed.getD e.on true=true:=by
     cases u:listed.getD e.on true with
     |true=>rfl
     |false=>exact absurd ((hm e.on).2 ⟨by omega,u⟩) H
    have L:e.on<listed.size:=by omega
    simp[L] at J|-
    exact J
  refine⟨(λh0=>by obtain⟨i,hi⟩:=A;rw[h0] at hi;cases hi),λj hj=>?_⟩
  obtain⟨N,oj,d,B⟩:=mem_ready.1 hj
  have a7:j∈rem:=(hm j).2 ⟨(iU.1 d).1,N⟩
  obtain⟨l1,l2,rfl⟩:=List.append_of_mem a7
  have hnd:(l1++j::l2).Nodup:=hs.imp (λh=>yS h)
  have D:∀i∈l1,i<j:=λi hi=>(DU.1 hs).2.2 i hi j (by simp)
  have O:∀i,(i=j\/i∈l1)->∀l,own nx i l=true->loc l=none/\σ l=none:=λi hi l y=>by
   have a8:i∈l1++j::l2:=by
    rcases hi with rfl|hi
    . simp
    . simp[hi]
   obtain⟨h1,h2⟩:=MV (done:=λq=>q∉l1++j::l2/\q<ops.size) (λh=>h.1 a8) y
   exact hf l h1 h2
  have hex:=front d l2 l1 [] env σ (λi hi=>⟨yS (D i hi),λoi aa=>by
   rcases hc.pair i j oi oj (D i hi) aa d with anA|hp
   . have h1:=Qn hcl anA oj d B
     have h2:=((hm i).1 (by simp[hi])).2
     rw[(MX h2).1] at h1
     cases h1
   . exact hp⟩) (λi hi l y=>(O i hi l y).2) (List.nodup_append.1 hnd).1 h
  refine wpOp_mono (λa' w' hb=>?_) (DT (Q:=Q) d (XO G d) hr (λl y=>O j (.inl rfl) l y) (adt hex))
  obtain⟨V,σ',k,Ψ',X,ab,hk,h1,h2⟩:=hb
  have ad:j<listed.size:=(MX N).2
  have Y:j∉l1++l2:=λu=>by
   obtain⟨p1,p2,p3⟩:=List.nodup_append.1 hnd
   rcases jM.1 u with u|u
   . exact p3 j u j (by simp) rfl
   . exact (uS.1 p2).1 u
  refine zZ G hc fuel _ (l1++l2) V σ' Ψ' X a' w' (by simp at y|-;omega) (List.Pairwise.sublist (List.Sublist.append_left (List.sublist_cons_self j l2) l1) hs) (λi=>?_) (by simpa using hsz) (λq o u Z e he hb=>?_) ab (λl y hd=>?_) hk.2 hQ
  . by_cases E:i=j
    . subst E
      constructor
      . exactλh=>absurd h Y
      . rintro⟨_,h⟩
        simp[ad] at h
    . rw[getD_set_ne true (wB E),<-hm i]
      simp[E]
  . by_cases a6:q=j
    . subst a6
      rw[d] at u
      injection u with u
      subst u
      exact getD_set_true (B e he hb)
    . rw[getD_set_ne false (wB a6)] at Z
      exact getD_set_true (hcl q o u Z e he hb)
  . have:=DN hf h1 h2 l y (λi hi=>hd i ?_)
    . exact this
    . rcases hi with ⟨h3,h4⟩|rfl
      . exact⟨λh=>h3 (by rcases jM.1 h with h|h<;>simp[h]),h4⟩
      . exact⟨Y,by omega⟩
theorem Jf {Q:Exit->Act->World->Prop}{fr:Fr}{nt id:Nat}{U:List (Nat×Nat)}{K:Env->Sto->Prop}{env:Env}{σ:Sto}{Ψ:Psi}{loc:Loc}{a:Act}{w:World}(hm:P.follows .mixedOrders=true)(u:DJ nt ops=true)(hc:aaX ops U=true)(hr:Rel fr Ψ loc nt env σ a w)(hf:∀l,nx<=l->loc l=none/\σ l=none)
 (h:jB P ops nx U K [] (List.range ops.size) env σ) (A:∀a w,ahG fr nt (nx+8*ops.size) K a w->Q .normal a w):(Code.region id ops true).wp P Q a w:=by refine wp_region_any hm (zZ u (UJ hc) ops.size _ (List.range ops.size) env σ Ψ loc a _ (by simp) List.pairwise_lt_range (λi=>?_) (by simp) (λj o B d=>?_) ⟨hr.env,hr.ok.drew,hr.sz,hr.df⟩ (λl d _=>hf l d) h (λenv σ Ψ loc a w h1 h2 h3=>A a w ⟨env,σ,Ψ,loc,h1,λl d=>h2 l (by omega) (λq D=>xK.2 (by omega)),h3⟩));simp;intro h;simp[h];have y:=(iU.1 B).1;simp[y] at d
end
