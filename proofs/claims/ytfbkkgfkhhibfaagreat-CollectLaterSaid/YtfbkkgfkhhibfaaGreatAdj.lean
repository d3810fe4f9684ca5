/- Words. -/
import Derived.Test.YtfbkkgfkhhibfaaGreatAda
set_option linter.unusedVariables false
set_option linter.unusedSimpArgs false
namespace AM
open Go Go.RowKit
section
variable {P : Program} {o : Oper} {e : Operand -> Option AV} {σ : Sto} {lab : Nat}
theorem yT {Ψ:Psi}{loc:Loc}{fr:Fr}{w:World}(J:Ok fr Ψ loc σ w){ys:List (List PV)}{k:Nat}(hk:∀row∈ys,row.length=k)(h0:0<k){x:Value}(h:Rep Ψ (.sl ys) x):
 (ys=[]/\∃A c,x= .slice A 0 c)\/∃(O:Addr) (c:Nat) (news:List Value),x= .slice (some O) ys.length c/\0<ys.length/\news.length=ys.length*k/\(∀(j:Nat) u,news[j]?=some u->w.cell? (O.add j)=some u)/\(∀u∈news,u.oneCell'=true)/\∀i j p,cellOf ys i j=some p->∃y,news[i*k+j]?=some y/\Rep Ψ p y:=by
 cases h with
 |nil=>exact .inl ⟨rfl,_,_,rfl⟩
 |
  sl f hn hnc hk' hf hr=>
  rename_i b q c n a;rcases pV ys.length with hz|hz;rw[hz] at hn;subst hn;exact .inl ⟨lZ hz,_,_,rfl⟩
  . have L:a=k:=(hk' ys[0] (dm hz)).symm.trans (hk _ (dm hz));subst L;have B:∀i j,i<ys.length->j<a->∃p,cellOf ys i j=some p:=(λi j hi H=>by have hr:=hk' ys[i] (dm hi);exact⟨ys[i][j],by simp[cellOf,aV hi,aV (show j<ys[i].length by omega)]⟩);have G:∀(d:Nat) u,((List.range (ys.length*a)).map λd=>f (d/a) (d%a))[d]?=some u->d<ys.length*a/\u=f (d/a) (d%a):=(λd u E=>by rw[bK] at E;by_cases D:d<ys.length*a;rw[Ji D] at E;simp at E;exact⟨D,E.symm⟩;rw[rF (by simpa using D)] at E;simp at E);have hdiv:∀d,d<ys.length*a->d/a<ys.length:=λd D=>(YL h0).2 D;refine .inr ⟨⟨b,q,none⟩,c,(List.range (ys.length*a)).map λd=>f (d/a) (d%a),by rw[hn],hz,by simp,λj u E=>?_,λu E=>?_,λi j p hc=>?_⟩;obtain⟨D,rfl⟩:=G j u E;obtain⟨p,N⟩:=B (j/a) (j%a) (hdiv j D) (yE _ h0);have:=J.fz _ _ _ (hf _ _ _ N);rw[sJ,<-this];congr 3;rw[JP];exact (Nat.div_add_mod j a).symm;obtain⟨j,H⟩:=mg.1 E;obtain⟨D,rfl⟩:=G j u H;obtain⟨p,N⟩:=B (j/a) (j%a) (hdiv j D) (yE _ h0);exact (hr _ _ _ N).one
    . have hi:i<ys.length:=by
       apply NW;intro hi;simp[cellOf,rF (Nat.le_of_not_lt hi)] at hc
      have H:j<a:=(by have I:=hk' ys[i] (dm hi);simp[cellOf,aV hi] at hc;rw[<-I];exact (bV.1 hc).1);have D:i*a+j<ys.length*a:=(by have:=iW a (show i+1<=ys.length by omega);rw[iq,qh] at this;omega);refine⟨f i j,?_,hr _ _ _ hc⟩;rw[bK,Ji D];simp only[ng,jA];rw[JP i a,Nat.mul_add_div h0,Nat.div_eq_of_lt H,Nat.mul_add_mod,Dj H,oD]
theorem EZ {fr:Fr}{Ψ:Psi}{loc:Loc}{w w':World}{base G k N:Nat}{v:Value}{dA:List Value}{els:List (List PV)}(E:Ok fr Ψ loc σ w)(d:loc lab=none)(hs:σ lab=none)(a:Same (Free fr Ψ loc σ) w w')(u:w'.ownsRow base G k v N dA)(J:els.length=N)(h0:0<N)(hb:∀g,v.ownBlock=some g->Free fr Ψ loc σ g)
 (hk:∀row∈els,row.length=k) (hr:∀i j p,cellOf els i j=some p->∃y,dA[i*k+j]?=some y/\Rep Ψ p y):
 ∃A c,v= .slice A N c/\N<=c/\Ok fr Ψ (loc.upd lab (A,c)) (σ.upd lab (some (.row G k els))) w':=by
 rcases u.2 with ⟨_,L⟩|⟨g,cap,cur,rfl,hbg,hh,hnc,hcm,hcs,htake⟩;omega
 . refine⟨some ⟨g,0,none⟩,cap,rfl,hnc,?_⟩;have hle:Loc.le loc (loc.upd lab (some ⟨g,0,none⟩,cap)):=Loc.le_upd d;have h1:=(E.chg a).locs hle (λl o e=>Loc.upd_ne (λq=>by rw[q,hs] at e;cases e));refine h1.claim hs ⟨_,cap,Loc.upd_eq,.inr ⟨by omega,g,cur,rfl,hh,by omega,hcm,hcs,hk,λi j p hc=>?_⟩⟩ (λb B=>?_)
   . obtain⟨y,D,I⟩:=hr i j p hc;refine⟨y,?_,I⟩;rw[<-htake,mi] at D;split at D;rw[<-dH];exact D
     cases D
   obtain⟨H,rfl⟩:∃H,cap=H+1:=⟨cap-1,by omega⟩;have:b=g:=(by simp[blk,Loc.upd_eq] at B;exact B.symm);subst this;have hf:=hb b rfl;exact⟨hf.pr,hf.tb,hf.fz,λl o e q=>by rw[jm (Loc.upd_ne (λq=>by rw[q,hs] at e;cases e))] at q;exact hf.ob l o e q⟩
theorem wH {xs ys:List (List PV)}{i j:Nat}{p:PV}(h:cellOf (xs++ys) i j=some p):(i<xs.length/\cellOf xs i j=some p)\/(xs.length<=i/\cellOf ys (i-xs.length) j=some p):=by unfold cellOf at h|-;by_cases hi:i<xs.length;rw[jI hi] at h;exact .inl ⟨hi,h⟩;rw[jJ (by omega)] at h;exact .inr ⟨by omega,h⟩
theorem E5 {t y:TypeId}{k a:Nat}(d:aS P t=some (y,k,a))(A B:Option Addr)(n c u:Nat)(hn:n<=c)(ty:TypeId)(w:World):(Builtin.append_ #[t,t] ty #[.slice A n c,.slice B 0 u]).run P w= .ok (.slice A n c) w:=by
 obtain⟨D,ti,z,E,H,G,_⟩:=dS d;have hf:(Builtin.firstCells k 0 (.slice B 0 u)).run P w= .ok #[] w:=by cases B<;>simp[Builtin.firstCells,loadCells,loadCellsFrom]
 cases A<;>simp[Builtin.append_,jy D,Go.sizeOf,typeInfo,E,G,Builtin.lenOf,hn,hf,storeCells]
theorem afJ {t el:TypeId}{x y:Operand}{k L r n ty E:Nat}{els ys:List (List PV)}(ho:o.op= .call { callee:= .builtin .append,args:=#[x,y],argTypes:=#[t,t] })(al:aS P t=some (el,k,L))(hx:e x=some (.own r n))(hσ:σ r=some (.row ty E els))(aq:E=k/\ty=el)(hn:els.length=n)(hy:(∃p,e y=some p/\toP p=some (.sl ys))):
 DSound P o e σ lab ⟨n+ys.length<=100000000/\∀row∈ys,row.length=k,λu=>u= .own lab (n+ys.length),[],true,[(r,none),(lab,some (.row ty E (els++ys)))]⟩:=by
 intro fr Ψ loc w ρ he N H hs hd;obtain⟨ab,O⟩:n+ys.length<=100000000/\∀row∈ys,row.length=k:=hd;obtain⟨rfl,rfl⟩:=aq;obtain⟨q1,ti,z,q2,q3,q4,q5,q6,q7,q8⟩:=dS al;obtain⟨py,ar,av⟩:=hy;have an:=oI (he y _ ar) av;have ao:=he x _ hx;generalize hq:ρ x=zx at ao;generalize aw:ρ y=zy at an;have nR:∀r' w',(Builtin.append_ #[t,t] o.type #[zx,zy]).run P w= .ok r' w'->(execOp ρ o).run P w= .ok (.value r') w':=(λr' w' h=>by simp[execOp,ho,resolve,invoke,builtin,hq,aw,h]);obtain⟨A,c,h1,h2⟩:mW Ψ loc w r ty E els:=N.ob r _ hσ;have aD:lab≠r:=(λq=>by rw[q,h1] at H;cases H);have I:=N.drop r;have U:(σ.upd r none) lab=none:=(by rw[upd_ne _ _ aD];exact hs);have G:(n+ys.length)* L<=140737488355328:=by
  have:(n+ys.length)* L<=100000000*1000:=wC ab q8
  omega
 have a8:n+ys.length<=maxLen:=by unfold maxLen;omega
 cases ao with
 |
  own Y hnc=>
  rename_i c0 A0;rw[h1] at Y;injection Y with Y;injection Y with aL hl2;subst aL hl2;rcases yT N O q7 an with ⟨rfl,B,Z,rfl⟩|⟨ad,Z,news,rfl,hpos,n1,n2,n3,n4⟩
  ·
   refine⟨.slice A n c,w,Ψ,loc.upd lab (A,c),_,.inl ⟨nR _ _ (E5 al A B n c Z hnc o.type w),.own Loc.upd_eq hnc⟩,rfl,?_,.refl _,λl Y=>Loc.upd_ne Y,Same.refl _ _⟩;show Ok fr Ψ _ ((σ.upd r none).upd lab _) w;rw[pY];have hle:Loc.le loc (loc.upd lab (A,c)):=Loc.le_upd H;have aM:=I.locs hle (λl o e=>Loc.upd_ne (λq=>by rw[q,U] at e;cases e));refine aM.claim U ⟨A,c,Loc.upd_eq,h2⟩ (λb hb=>?_);have aR:blk loc r=some b:=(by have:blk (loc.upd lab (A,c)) lab=blk loc r:=(by simp[blk,Loc.upd_eq,h1]);rw[<-this];exact hb);have hf:=N.free hσ aR;exact⟨hf.pr,hf.tb,hf.fz,λl o e q=>by rw[jm (Loc.upd_ne (λq=>by rw[q,U] at e;cases e))] at q;exact hf.ob l o e q⟩
  . rcases h2 with ⟨rfl,rfl⟩|⟨g0,g,cur,rfl,hh,hec,hcm,hcs,hrk,hcr⟩
    ·
     have b0:n=0:=(by simpa using hn.symm);subst b0
     have fin:∀v' w',(Builtin.append_ #[t,t] o.type #[.slice A 0 0,.slice (some ad) ys.length Z]).run P w= .ok v' w'->w'.ownsRow w.heap.size ty E v' ys.length news->w.grownBy w' none->
      ∃rr w' Ψ' loc' v,((execOp ρ o).run P w= .ok (.value rr) w'/\RepA Ψ' loc' v rr\/(execOp ρ o).run P w= .ok .skip w'/\o.dst=none)/\v= .own lab (0+ys.length)/\Ok fr Ψ' loc' ((σ.upd r none).upd lab (some (.row ty E ([]++ys)))) w'/\Ψ.le Ψ'/\(∀l,l≠lab->loc' l=loc l)/\Same (λk=>¬fr.pr k) w w':=λv' w' d D hg=>by
      obtain⟨A',cap,rfl,V,X⟩:=EZ I H U (Same.of hg nofun) D rfl hpos (λg aa=>(I.new (D.lt g aa).1)) O n4;exact⟨_,w',Ψ,_,_,.inl ⟨nR _ _ d,.own Loc.upd_eq V⟩,by rw[dJ],by rw[lN];exact X,.refl _,λl Y=>Loc.upd_ne Y,Same.of hg nofun⟩
     cases A with
     |
      none=>
      obtain⟨v',w',d,D,hg,_⟩:=(run_append_own (P:=P) w w.heap.size t o.type ty ti z E L q1 q2 q3 q4 q5 q6 q7 (.slice none 0 0) 0 [] (dU _ _ _ _) ad ys.length Z news n1 n2 n3 a8 G (ax _));rw[dJ,lN] at D;exact fin v' w' d D hg
     |
      some ad0=>
      obtain⟨v',w',d,D,hg⟩:=(run_append_arg_grows (P:=P) w t o.type ty ti z E L q1 q2 q3 q4 q5 q6 q7 ad0 0 0 [] (by simp) (λj u h=>by simp at h) ad ys.length Z news n1 n2 (by omega) a8 G);rw[dJ,lN] at D;exact fin v' w' d D hg
    ·
     obtain⟨c1,rfl⟩:∃c1,c=c1+1:=⟨c-1,by omega⟩;have hb:=qg h1;have hf:=N.free hσ hb;have hlen:(cur.toList.take (n*E)).length=n*E:=(by rw[mZ,nH,hcs];exact yA (iW _ hnc));have d:∃v' w',(Builtin.append_ #[t,t] o.type #[.slice (some ⟨g,0,none⟩) n (c1+1),.slice (some ad) ys.length Z]).run P w= .ok v' w'/\w'.ownsRow 0 ty E v' (n+ys.length) (cur.toList.take (n*E)++news)/\w.grownBy w' (some g)/\∀g',v'.ownBlock=some g'->g'=g\/w.heap.size<=g':=by
      by_cases J:n+ys.length<=c1+1;have a6:n*ti.size+news.length<=cur.size:=(by rw[n1,hcs,q4,<-iq];exact iW _ J);have hr:=run_append_room (P:=P) w t o.type ty ti q1 q2 g n (c1+1) cur hh ad ys.length Z news (by rw[q4];exact n1) n2 n3 J a6;refine⟨_,_,hr,⟨by rw[bG,hlen,n1,iq],.inr ⟨g,c1+1,_,rfl,aG _,yw w g cur _ ty _ hh,J,hcm,?_,?_⟩⟩,⟨rfl,rfl,rfl,by simp[World.setRow],λk _ hk=>Py w g k _ (λe=>hk (by rw[e]))⟩,λg' e=> .inl (by injection e with e;exact e.symm)⟩;rw[q4] at a6|-;simp only[uX,bG,mZ,qp,nH];omega;rw[q4];have h3:(n+ys.length)* E=(cur.toList.take (n*E)++news).length:=(by rw[bG,hlen,n1,iq]);rw[h3];exact List.take_left
      . obtain⟨v',w',hr,D,hg⟩:=run_append_arg_grows (P:=P) w t o.type ty ti z E L q1 q2 q3 q4 q5 q6 q7 ⟨g,0,none⟩ n (c1+1) (cur.toList.take (n*E)) hlen (λj u hu=>by
         rw[sJ,dJ,jl hh];rw[mi] at hu;split at hu;rw[<-dH];exact hu
         . cases hu) ad ys.length Z news n1 n2 (by omega) a8 G
        exact⟨v',w',hr,⟨D.1,D.2.imp id (λ⟨g,cap,cur,a,_,b⟩=>⟨g,cap,cur,a,aG _,b⟩)⟩,⟨hg.os,hg.tape,hg.output,hg.size,λk hk _=>hg.block k hk nofun⟩,λg' e=> .inr (D.lt g' e).1⟩
     obtain⟨v',w',d,D,hg,b1⟩:=d;have a7:Same (Free fr Ψ loc (σ.upd r none)) w w':=Same.of hg (λk e=>by injection e with e;rw[<-e];exact hf)
     obtain⟨A',cap,rfl,V,X⟩:=EZ (els:=els++ys) I H U a7 D (by simp[hn]) (by omega) (λg' aa=>by
      rcases b1 g' aa with rfl|h;exact hf
      . exact I.new h) (λrow hm=>by
      rcases jM.1 hm with hm|hm;exact hrk row hm
      . exact O row hm) (λi j p hc=>by
      rcases wH hc with ⟨hi,hc⟩|⟨hi,hc⟩
      . obtain⟨y',s1,s2⟩:=hcr i j p hc;refine⟨y',?_,s2⟩;have hj:j<E:=by
         have b2:=hrk els[i] (dm hi);simp[cellOf,aV hi] at hc;rw[<-b2];exact (bV.1 hc).1
        have b3:i*E+j<n*E:=(by have:=iW E (show i+1<=n by omega);rw[iq,qh] at this;omega);rw[jI (by omega),mi,if_pos b3,dH];exact s1
      . obtain⟨y',s1,s2⟩:=n4 _ j p hc;refine⟨y',?_,s2⟩;have b4:n*E<=i*E:=iW _ (by omega);rw[jJ (by omega),hlen,<-s1];congr 1;rw[hn,Jj];omega)
     exact⟨_,w',Ψ,_,_,.inl ⟨nR _ _ d,.own Loc.upd_eq V⟩,rfl,X,.refl _,λl Y=>Loc.upd_ne Y,Same.of hg (λk e=>by injection e with e;rw[<-e];exact hf.pr)⟩
theorem TW {t J:TypeId}{x y:Operand}{k E:Nat}{ys:List (List PV)}(ho:o.op= .call { callee:= .builtin .append,args:=#[x,y],argTypes:=#[t,t] })(L:aS P t=some (J,k,E))(hx:e x=some .emp)(hy:(∃p,e y=some p/\toP p=some (.sl ys))):
 DSound P o e σ lab ⟨ys.length<=100000000/\∀row∈ys,row.length=k,λu=>u= .own lab ys.length,[],true,[(lab,some (.row J k ys))]⟩:=by
 intro fr Ψ loc w ρ he G H hs hd;obtain⟨ab,I⟩:ys.length<=100000000/\∀row∈ys,row.length=k:=hd;obtain⟨q1,ti,z,q2,q3,q4,q5,q6,Z,q8⟩:=dS L;obtain⟨py,a6,a7⟩:=hy;have N:=oI (he y _ a6) a7;have O:=he x _ hx;generalize hq:ρ x=zx at O;generalize a8:ρ y=zy at N;have nR:∀r' w',(Builtin.append_ #[t,t] o.type #[zx,zy]).run P w= .ok r' w'->(execOp ρ o).run P w= .ok (.value r') w':=(λr' w' h=>by simp[execOp,ho,resolve,invoke,builtin,hq,a8,h]);have D:(0+ys.length)* E<=140737488355328:=by
  have:(0+ys.length)* E<=100000000*1000:=wC (by omega) q8
  omega
 have U:0+ys.length<=maxLen:=by unfold maxLen;omega
 cases O with
 |
  emp=>
  rename_i A;rcases yT G I Z N with ⟨rfl,B,V,rfl⟩|⟨ad,V,news,rfl,hpos,n1,n2,n3,n4⟩
  . refine⟨.slice A 0 0,w,Ψ,loc.upd lab (A,0),_,.inl ⟨nR _ _ (E5 L A B 0 0 V (ax _) o.type w),.own Loc.upd_eq (ax _)⟩,rfl,?_,.refl _,λl hl=>Loc.upd_ne hl,Same.refl _ _⟩;show Ok fr Ψ _ (σ.upd lab _) w;refine (G.locs (Loc.le_upd H) (λl o e=>Loc.upd_ne (λq=>by rw[q,hs] at e;cases e))).claim hs ⟨A,0,Loc.upd_eq,.inl ⟨rfl,rfl⟩⟩ (λb hb=>?_)
    cases A<;>simp[blk,Loc.upd_eq] at hb
  . have fin:∀v' w',(Builtin.append_ #[t,t] o.type #[.slice A 0 0,.slice (some ad) ys.length V]).run P w= .ok v' w'->w'.ownsRow w.heap.size J k v' ys.length news->w.grownBy w' none->
     ∃rr w' Ψ' loc' v,((execOp ρ o).run P w= .ok (.value rr) w'/\RepA Ψ' loc' v rr\/(execOp ρ o).run P w= .ok .skip w'/\o.dst=none)/\v= .own lab ys.length/\Ok fr Ψ' loc' (σ.upd lab (some (.row J k ys))) w'/\Ψ.le Ψ'/\(∀l,l≠lab->loc' l=loc l)/\Same (λk=>¬fr.pr k) w w':=λv' w' a d hg=>by
     obtain⟨A',cap,rfl,X,Y⟩:=EZ G H hs (Same.of hg nofun) d rfl hpos (λg aa=>(G.new (d.lt g aa).1)) I n4;exact⟨_,w',Ψ,_,_,.inl ⟨nR _ _ a,.own Loc.upd_eq X⟩,rfl,Y,.refl _,λl hl=>Loc.upd_ne hl,Same.of hg nofun⟩
    cases A with
    |
     none=>
     obtain⟨v',w',a,d,hg,_⟩:=(run_append_own (P:=P) w w.heap.size t o.type J ti z k E q1 q2 q3 q4 q5 q6 Z (.slice none 0 0) 0 [] (dU _ _ _ _) ad ys.length V news n1 n2 n3 U D (ax _));rw[dJ,lN] at d;exact fin v' w' a d hg
    |
     some ad0=>
     obtain⟨v',w',a,d,hg⟩:=(run_append_arg_grows (P:=P) w t o.type J ti z k E q1 q2 q3 q4 q5 q6 Z ad0 0 0 [] (by simp) (λj u h=>by simp at h) ad ys.length V news n1 n2 (by omega) U D);rw[dJ,lN] at d;exact fin v' w' a d hg
theorem acn {t L:TypeId}{x y:Operand}{k Y:Nat}{ys:List (List PV)}(ho:o.op= .call { callee:= .builtin .append,args:=#[x,y],argTypes:=#[t,t] })(Z:aS P t=some (L,k,Y))(hx:e x=some .emp)(hy:(∃p,e y=some p/\toP p=some (.sl ys))):
 DSound P o e σ lab (.chk (ys.length<=100000000/\∀row∈ys,row.length=k) (.pv (.sl ys))):=by
 intro fr Ψ loc w ρ he a6 N hs hd;obtain⟨r,w',Ψ',E,v,u,O,U,hle,hl,B⟩:=TW ho Z hx hy fr Ψ loc w ρ he a6 N hs hd;have hv:v= .own lab ys.length:=O;subst hv;have G:Ok fr Ψ' E (σ.upd lab (some (.row L k ys))) w':=U;have hσ:(σ.upd lab (some (.row L k ys))) lab=some (.row L k ys):=(by simp[Sto.upd]);have D:(σ.upd lab (some (.row L k ys))).upd lab none=σ:=(by funext l;by_cases h:l=lab;subst h;simp[Sto.upd,hs];simp[Sto.upd,h]);have d:=G.drop lab;rcases u with ⟨u,V⟩|⟨u,hdst⟩
 . obtain⟨A,c,h1,h2⟩:=G.ob lab _ hσ
   cases V with
   |
    own I hn=>
    rw[h1] at I;injection I with I;injection I with e1 e2;subst e1 e2;rcases h2 with ⟨rfl,rfl⟩|⟨h0,g,cur,rfl,hh,hec,hcm,hcs,hrk,hcr⟩;rw[D] at d;have a7:([]:List (List PV)).length=0:=rfl;exact⟨_,w',Ψ',E,_,.inl ⟨u,.pv (.nil λ_=>rfl)⟩,rfl,d,hle,hl,B⟩
    . obtain⟨c',rfl⟩:∃c',c=c'+1:=⟨c-1,by omega⟩;have hb:=qg h1;have hf:=G.free hσ hb;have J:=hf.le_fz cur;have X:=d.freeze hf hh;rw[D] at X
      have hF:∀H j,∃y,∀p,cellOf ys H j=some p->cur[H*k+j]?=some y/\Rep Ψ' p y:=λH j=>by
       cases hc:cellOf ys H j with
       |none=>exact ⟨undef,λp h=>by cases h⟩
       |
        some p0=>
        obtain⟨y,q1,q2⟩:=hcr H j p0 hc;exact⟨y,λp h=>by injection h with h;subst h;exact⟨q1,q2⟩⟩
      refine⟨_,w',Ψ'.addFz g cur,E,_,.inl ⟨u,.pv (.sl (k:=k) (λa b=>(hF a b).choose) rfl hn hrk (λH j p hc=>?_) (λH j p hc=>((hF H j).choose_spec p hc).2.mono J))⟩,rfl,X,hle.trans J,hl,B⟩;show (if g=g then cur[0+(H*k+j)]? else _)=_;rw[if_pos rfl,dJ];exact ((hF H j).choose_spec p hc).1
 rw[D] at d;exact⟨r,w',Ψ',E,_,.inr ⟨u,hdst⟩,rfl,d,hle,hl,B⟩
theorem acm {t el:TypeId}{x y:Operand}{k G n:Nat}{cts:List CT}(ho:o.op= .call { callee:= .builtin .append,args:=#[x,y],argTypes:=#[t,t] })(O:aS P t=some (el,k,G))(hx:e x=some .emp)(hy:e y=some (.pv (.tr cts n)))(hk:cts.length=k):
 DSound P o e σ lab (.chk (n<=100000000) (.pv (.tr cts n))):=by
 intro fr Ψ loc w ρ he H ao hs hd;have aq:n<=100000000:=hd;obtain⟨q1,ti,z,q2,q3,q4,q5,q6,q7,q8⟩:=dS O;have U:=he x _ hx;have I:=he y _ hy;generalize hq:ρ x=zx at U;generalize aa:ρ y=zy at I;have nR:∀r' w',(Builtin.append_ #[t,t] o.type #[zx,zy]).run P w= .ok r' w'->(execOp ρ o).run P w= .ok (.value r') w':=(λr' w' h=>by simp[execOp,ho,resolve,invoke,builtin,hq,aa,h]);have D:(0+n)* G<=140737488355328:=by
  have:(0+n)* G<=100000000*1000:=wC (by omega) q8
  omega
 have V:0+n<=maxLen:=by unfold maxLen;omega
 cases U with
 |
  emp=>
  rename_i A;have zero:∀B c',zy= .slice B 0 c'->n=0->∃rr w' Ψ' loc' v,((execOp ρ o).run P w= .ok (.value rr) w'/\RepA Ψ' loc' v rr\/(execOp ρ o).run P w= .ok .skip w'/\o.dst=none)/\v= .pv (.tr cts n)/\Ok fr Ψ' loc' σ w'/\Ψ.le Ψ'/\(∀l,l≠lab->loc' l=loc l)/\Same (λk=>¬fr.pr k) w w':=λB c' hz hn=>by subst hn;exact⟨.slice A 0 0,w,Ψ,loc,_,.inl ⟨nR _ _ (by rw[hz];exact E5 O A B 0 0 c' (ax _) o.type w),.pv .tr0⟩,rfl,H,.refl _,λ_ _=>rfl,Same.refl _ _⟩
  cases I with
  |
   pv I=>cases I with
   |tr0=>exact zero _ _ rfl rfl
   |
    tr ht h0 hm hnc hle=>
    rename_i b q c m;rcases pV n with hz|hpos;subst hz;exact zero _ _ rfl rfl
    . obtain⟨arr,ty,hh,av,X⟩:=H.tb _ _ _ ht;have ar:q+n*k<=arr.size:=(by rw[<-hk];omega);have n1:((arr.toList.drop q).take (n*k)).length=n*k:=by simp;omega
      have hg:∀(j:Nat) u,((arr.toList.drop q).take (n*k))[j]?=some u->j<n*k/\arr[q+j]?=some u:=λj u J=>by
       rw[mi] at J;split at J;rename_i Y;rw[y9,dH] at J;exact⟨Y,J⟩
       cases J
      have Z:∀j,j<n*k->∀ct,cts[j%k]?=some ct->∃p x,arr[q+j]?=some x/\ct.ok p/\Rep Ψ p x:=(λj Y ct L=>by refine X (q+j) ct (by rw[<-hk] at Y;omega) ?_;rw[hk,IG,<-hk,hm,dJ,II,hk];exact L);have n3:∀u∈(arr.toList.drop q).take (n*k),u.oneCell'=true:=(λu J=>by obtain⟨j,Y⟩:=mg.1 J;obtain⟨ab,ad⟩:=hg j u Y;have al:j%k<cts.length:=(by rw[hk];exact yE _ q7);obtain⟨p,x,r1,_,r3⟩:=Z j ab _ (aV al);rw[ad] at r1;injection r1 with r1;rw[r1];exact r3.one);have n2:∀(j:Nat) u,((arr.toList.drop q).take (n*k))[j]?=some u->w.cell? ((⟨b,q,none⟩:Addr).add j)=some u:=λj u J=>by rw[sJ,jl hh];exact (hg j u J).2
      have fin:∀v' w',(Builtin.append_ #[t,t] o.type #[.slice A 0 0,.slice (some ⟨b,q,none⟩) n c]).run P w= .ok v' w'->w'.ownsRow w.heap.size el k v' n ((arr.toList.drop q).take (n*k))->w.grownBy w' none->
       ∃rr w' Ψ' loc' v,((execOp ρ o).run P w= .ok (.value rr) w'/\RepA Ψ' loc' v rr\/(execOp ρ o).run P w= .ok .skip w'/\o.dst=none)/\v= .pv (.tr cts n)/\Ok fr Ψ' loc' σ w'/\Ψ.le Ψ'/\(∀l,l≠lab->loc' l=loc l)/\Same (λk=>¬fr.pr k) w w':=λv' w' a d E=>by
       have an:=d.2;rcases an with ⟨_,hz⟩|⟨g,cap,cur,rfl,hbg,hh',hnc',hcm,hcs,htake⟩;omega
       . have a8:=H.new hbg;have a6:=H.chg (Same.of (K:=Free fr Ψ loc σ) E nofun);have a7:=a8.le_tb (cts,n*k);refine⟨_,w',Ψ.addTb g (cts,n*k),loc,_,.inl ⟨nR _ _ a,.pv (.tr (m:=n*k) (by simp[Psi.addTb]) h0 (Nat.zero_mod _) hnc' (by rw[hk];omega))⟩,rfl,?_,a7,λ_ _=>rfl,Same.of E nofun⟩;refine a6.typed a8 (by rw[hcs];exact iW _ hnc') hh' (λo2 ct N L=>?_);rw[hk] at L;obtain⟨p,x,r1,r2,r3⟩:=Z o2 N ct L;refine⟨p,x,?_,r2,r3⟩;have h4:((arr.toList.drop q).take (n*k))[o2]?=some x:=by
          rw[mi,if_pos N,y9,dH];exact r1
         rw[<-htake,mi,if_pos N,dH] at h4;exact h4
      cases A with
      |
       none=>
       obtain⟨v',w',a,d,E,_⟩:=(run_append_own (P:=P) w w.heap.size t o.type el ti z k G q1 q2 q3 q4 q5 q6 q7 (.slice none 0 0) 0 [] (dU _ _ _ _) ⟨b,q,none⟩ n c _ n1 n2 n3 V D (ax _));rw[dJ,lN] at d;exact fin v' w' a d E
      |
       some ad0=>
       obtain⟨v',w',a,d,E⟩:=(run_append_arg_grows (P:=P) w t o.type el ti z k G q1 q2 q3 q4 q5 q6 q7 ad0 0 0 [] (by simp) (λj u h=>by simp at h) ⟨b,q,none⟩ n c _ n1 n2 (by omega) V D);rw[dJ,lN] at d;exact fin v' w' a d E
end
section
variable {P : Program} {o : Oper} {e : Operand -> Option AV} {σ : Sto} {lab : Nat}
theorem qW {w:World}{base d k N:Nat}{v:Value}{dA:List Value}(h:w.ownsRow base d k v N dA):w.ownsRow 0 d k v N dA:=⟨h.1,h.2.imp id (λ⟨g,cap,cur,a,_,b⟩=>⟨g,cap,cur,a,aG _,b⟩)⟩
theorem Tu {w:World}{t I:TypeId}{k B n c:Nat}{A:Option Addr}(D:TypeId)(a6:aS P t=some (I,k,B))(hnc:n<=c){H:List Value}
 (hold:(n=0/\c=0/\H=[])\/∃g cur,A=some ⟨g,0,none⟩/\w.heap[g]?=some (.cells cur I (0,0))/\c<=maxLen/\cur.size=c*k/\0<c/\H=cur.toList.take (n*k))
 (O:Addr) (U m:Nat) (news:List Value) (n1:news.length=m*k) (n2:∀(j:Nat) u,news[j]?=some u->w.cell? (O.add j)=some u) (n3:∀u∈news,u.oneCell'=true) (a7:0<m) (V:n+m<=100000000):
 ∃v' w',(Builtin.append_ #[t,t] D #[.slice A n c,.slice (some O) m U]).run P w= .ok v' w'/\w'.ownsRow 0 I k v' (n+m) (H++news)/\H.length=n*k/\(w.grownBy w' none\/∃g,A=some ⟨g,0,none⟩/\0<c/\w.grownBy w' (some g))/\∀G,v'.ownBlock=some G->(A=some ⟨G,0,none⟩/\0<c)\/w.heap.size<=G:=by
 obtain⟨X,ti,z,Y,q3,L,q5,q6,q7,q8⟩:=dS a6;have a:(n+m)* B<=140737488355328:=by
  have:(n+m)* B<=100000000*1000:=wC V q8
  omega
 have N:n+m<=maxLen:=(by unfold maxLen;omega);rcases hold with ⟨rfl,rfl,rfl⟩|⟨g,cur,rfl,hh,hcm,hcs,h0,rfl⟩
 . cases A with
   |
    none=>
    obtain⟨v',w',E,d,hg,_⟩:=(run_append_own (P:=P) w w.heap.size t D I ti z k B X Y q3 L q5 q6 q7 (.slice none 0 0) 0 [] (dU _ _ _ _) O m U news n1 n2 n3 N a (ax _));exact⟨v',w',E,qW d,by simp,.inl hg,λG e=> .inr (d.lt G e).1⟩
   |
    some ad0=>
    obtain⟨v',w',E,d,hg⟩:=(run_append_arg_grows (P:=P) w t D I ti z k B X Y q3 L q5 q6 q7 ad0 0 0 [] (by simp) (λj u h=>by simp at h) O m U news n1 n2 (by omega) N a);exact⟨v',w',E,qW d,by simp,.inl hg,λG e=> .inr (d.lt G e).1⟩
 . obtain⟨c1,rfl⟩:∃c1,c=c1+1:=⟨c-1,by omega⟩;have hlen:(cur.toList.take (n*k)).length=n*k:=by
    rw[mZ,nH,hcs];exact yA (iW _ hnc)
   by_cases y:n+m<=c1+1;have J:n*ti.size+news.length<=cur.size:=(by rw[n1,hcs,L,<-iq];exact iW _ y);have hr:=run_append_room (P:=P) w t D I ti X Y g n (c1+1) cur hh O m U news (by rw[L];exact n1) n2 n3 y J;refine⟨_,_,hr,⟨by rw[bG,hlen,n1,iq],.inr ⟨g,c1+1,_,rfl,aG _,yw w g cur _ I _ hh,y,hcm,?_,?_⟩⟩,hlen,.inr ⟨g,rfl,by omega,⟨rfl,rfl,rfl,by simp[World.setRow],λk _ hk=>Py w g k _ (λe=>hk (by rw[e]))⟩⟩,λG e=> .inl ⟨by injection e with e;subst e;rfl,by omega⟩⟩;rw[L] at J|-;simp only[uX,bG,mZ,qp,nH];omega;rw[L];have h3:(n+m)* k=(cur.toList.take (n*k)++news).length:=(by rw[bG,hlen,n1,iq]);rw[h3];exact List.take_left
   . obtain⟨v',w',hr,d,hg⟩:=run_append_arg_grows (P:=P) w t D I ti z k B X Y q3 L q5 q6 q7 ⟨g,0,none⟩ n (c1+1) (cur.toList.take (n*k)) hlen (λj u Z=>by
      rw[sJ,dJ,jl hh];rw[mi] at Z;split at Z;rw[<-dH];exact Z
      . cases Z) O m U news n1 n2 (by omega) N a
     exact⟨v',w',hr,qW d,hlen,.inl hg,λG e=> .inr (d.lt G e).1⟩
theorem Nc {fr:Fr}{Ψ:Psi}{loc:Loc}{w w':World}{base O k N i:Nat}{v:Value}{dA:List Value}{els:List (List PV)}{cs:List AV}(I:Ok fr Ψ loc σ w)(B:loc lab=none)(hs:σ lab=none)(d:Same (Free fr Ψ loc σ) w w')(D:w'.ownsRow base O k v N dA)(Z:els.length=N)(hi:i<N)(hb:∀g,v.ownBlock=some g->Free fr Ψ loc σ g)
 (hk:∀row∈els,row.length=k) (hr:∀a j p,a≠i->cellOf els a j=some p->∃y,dA[a*k+j]?=some y/\Rep Ψ p y) (J:cs.length=k) (hc:∀(j:Nat) u,cs[j]?=some u->∃y,dA[i*k+j]?=some y/\y.oneCell'=true/\RepA Ψ loc u y):
 ∃A c,v= .slice A N c/\N<=c/\Ok fr Ψ (loc.upd lab (A,c)) (σ.upd lab (some (.rov O k els i cs))) w':=by
 rcases D.2 with ⟨_,hz⟩|⟨g,cap,cur,rfl,hbg,hh,hnc,hcm,hcz,htake⟩;omega
 . obtain⟨E,rfl⟩:∃E,cap=E+1:=⟨cap-1,by omega⟩;refine⟨some ⟨g,0,none⟩,E+1,rfl,hnc,?_⟩;have hle:Loc.le loc (loc.upd lab (some ⟨g,0,none⟩,E+1)):=Loc.le_upd B;have h1:=(I.chg d).locs hle (λl o e=>Loc.upd_ne (λq=>by rw[q,hs] at e;cases e))
   have U:∀q y,dA[q]?=some y->cur[q]?=some y:=λq y H=>by
    rw[<-htake,mi] at H;split at H;rw[<-dH];exact H
    cases H
   refine h1.claim hs ⟨g,E,cur,Loc.upd_eq,hh,by omega,hcm,hcz,hk,λa j p ha V=>?_,by omega,J,λj u X=>?_⟩ (λb G=>?_);obtain⟨y,r1,L⟩:=hr a j p ha V;exact⟨y,U _ _ r1,L⟩;obtain⟨y,r1,L,Y⟩:=hc j u X;exact⟨y,U _ _ r1,L,Y.mono (.refl _) hle⟩;have:b=g:=(by simp[blk,Loc.upd_eq] at G;exact G.symm);subst this;have hf:=hb b rfl;exact⟨hf.pr,hf.tb,hf.fz,λl o e q=>by rw[jm (Loc.upd_ne (λq=>by rw[q,hs] at e;cases e))] at q;exact hf.ob l o e q⟩
theorem xN {a j k n:Nat}(ha:a<n)(d:j<k):a*k+j<n*k:=by have:=iW k (show a+1<=n by omega);rw[iq,qh] at this;omega
theorem xO {els:List (List PV)}{k a j:Nat}{p:PV}(hk:∀r∈els,r.length=k)(h:cellOf els a j=some p):a<els.length/\j<k:=by
 unfold cellOf at h
 cases hr:els[a]? with
 |none=>rw [hr] at h;cases h
 |
  some row=>
  rw[hr] at h;exact⟨(bV.1 hr).1,by rw[<-hk row (iC hr)];exact (bV.1 h).1⟩
theorem Same.wide {K a:Nat->Prop}{w w':World}(h:Same K w w')(hk:∀k,K k->a k):Same a w w':=⟨h.os,h.tape,h.output,h.size,λk h1 h2=>h.block k h1 (λh3=>h2 (hk k h3))⟩
theorem Nh {fr:Fr}{Ψ:Psi}{loc:Loc}{w w':World}{r c:Nat}{A:Option Addr}{ob:Obj}{v':Value}(u:Ok fr Ψ loc σ w)(hσ:σ r=some ob)(h1:loc r=some (A,c))(hg:w.grownBy w' none\/∃g,A=some ⟨g,0,none⟩/\0<c/\w.grownBy w' (some g))(B:∀d,v'.ownBlock=some d->(A=some ⟨d,0,none⟩/\0<c)\/w.heap.size<=d):
 Same (Free fr Ψ loc (σ.upd r none)) w w'/\∀d,v'.ownBlock=some d->Free fr Ψ loc (σ.upd r none) d:=by
 have a:∀g,A=some ⟨g,0,none⟩->0<c->Free fr Ψ loc (σ.upd r none) g:=(λg y h0=>by obtain⟨D,rfl⟩:∃D,c=D+1:=⟨c-1,by omega⟩;exact u.free hσ (by simp[blk,h1,y]));refine⟨?_,λd e=>?_⟩
 . rcases hg with hg|⟨g,y,h0,hg⟩
   . exact Same.of hg nofun
   exact Same.of hg (λk e=>by injection e with e;rw[<-e];exact a g y h0)
 rcases B d e with ⟨y,h0⟩|h;exact a d y h0;exact (u.drop r).new h
theorem aa1 {t el:TypeId}{x y:Operand}{k ab r n ty d:Nat}{els:List (List PV)}{cs:List AV}(ho:o.op= .call { callee:= .builtin .append,args:=#[x,y],argTypes:=#[t,t] })(ad:aS P t=some (el,k,ab))(hx:e x=some (.own r n))(hσ:σ r=some (.row ty d els))(al:d=k/\ty=el)(hn:els.length=n)(hy:e y=some (.tl cs))(an:cs.length=k):
 DSound P o e σ lab ⟨n+1<=100000000,λu=>u= .own lab (n+1),[],true,[(r,none),(lab,some (.rov ty d (els++[List.replicate k (.sl [])]) n cs))]⟩:=by
 intro fr Ψ loc w ρ he J E hs G;obtain⟨rfl,rfl⟩:=al;have G:n+1<=100000000:=G;have Y:=he x _ hx;have Z:=he y _ hy;generalize hq:ρ x=zx at Y;generalize ao:ρ y=zy at Z;have nR:∀r' w',(Builtin.append_ #[t,t] o.type #[zx,zy]).run P w= .ok r' w'->(execOp ρ o).run P w= .ok (.value r') w':=(λr' w' h=>by simp[execOp,ho,resolve,invoke,builtin,hq,ao,h]);obtain⟨A,c,h1,h2⟩:mW Ψ loc w r ty d els:=J.ob r _ hσ;have aq:lab≠r:=(λq=>by rw[q,h1] at E;cases E);have a6:=J.drop r;have ar:(σ.upd r none) lab=none:=by rw[upd_ne _ _ aq];exact hs
 cases Y with
 |
  own V hnc=>
  rename_i c0 A0;rw[h1] at V;injection V with V;injection V with av hl2;subst av hl2
  cases Z with
  |
   @tl _ b q c' f hc1 hfx hfr=>
   have N:∀(j:Nat) u,((List.range d).map f)[j]?=some u->j<d/\u=f j:=(λj u B=>by rw[bK] at B;by_cases D:j<d;rw[Ji D] at B;simp at B;exact⟨D,B.symm⟩;rw[rF (by simpa using D)] at B;simp at B);obtain⟨L,hold,aw,H⟩:∃L:List Value,((n=0/\c=0/\L=[])\/∃g cur,A=some ⟨g,0,none⟩/\w.heap[g]?=some (.cells cur ty (0,0))/\c<=maxLen/\cur.size=c*d/\0<c/\L=cur.toList.take (n*d))/\(∀a j p,cellOf els a j=some p->∃y,L[a*d+j]?=some y/\Rep Ψ p y)/\∀row∈els,row.length=d:=by
    rcases h2 with ⟨rfl,rfl⟩|⟨h0,g,cur,rfl,hh,hec,hcm,hcz,H,hcr⟩
    . exact⟨[],.inl ⟨by simpa using hn.symm,rfl,rfl⟩,(λa j p h=>by simp[cellOf] at h),nofun⟩
    refine⟨_,.inr ⟨g,cur,rfl,hh,hcm,hcz,h0,rfl⟩,λa j p h=>?_,H⟩;obtain⟨y,s1,s2⟩:=hcr a j p h;obtain⟨ha,D⟩:=xO H h;exact⟨y,by rw[mi,if_pos (xN (by omega) D),dH];exact s1,s2⟩
   obtain⟨v',w',a7,aD,O,hg,aL⟩:=Tu o.type ad hnc hold ⟨b,q,none⟩ c' 1 ((List.range d).map f) (by simp) (λj u B=>by
    obtain⟨D,rfl⟩:=N j u B;rw[sJ];exact J.fz _ _ _ (hfx j (by omega)).1) (λu B=>by
    obtain⟨j,D⟩:=mg.1 B;obtain⟨D,rfl⟩:=N j u D;exact (hfx j (by omega)).2) (by omega) G
   obtain⟨I,U⟩:=Nh J hσ h1 hg aL
   obtain⟨A',cap,rfl,a8,aa⟩:=Nc (i:=n) (cs:=cs) (els:=els++[List.replicate d (.sl [])]) a6 E ar I aD (by simp[hn]) (by omega) U (λrow hm=>by
    rcases jM.1 hm with hm|hm;exact H row hm
    . rw[lX.1 hm];simp) (λa j p ha X=>by
    rcases wH X with ⟨_,X⟩|⟨h3,X⟩;obtain⟨y,s1,s2⟩:=aw a j p X;obtain⟨aM,D⟩:=xO H X;exact⟨y,by rw[jI (by rw[O];exact xN (by omega) D)];exact s1,s2⟩
    . exfalso;have:=(xO (k:=d) (λr hr=>by rw[lX.1 hr];simp) X).1;simp at this;omega) an (λj u B=>by
    have D:j<cs.length:=(bV.1 B).1;refine⟨f j,?_,(hfx j D).2,hfr j u B⟩;rw[jJ (by rw[O];omega),O,MB,bK,Ji (by omega)];rfl)
   exact⟨_,w',Ψ,_,_,.inl ⟨nR _ _ a7,.own Loc.upd_eq a8⟩,rfl,aa,.refl _,λl V=>Loc.upd_ne V,I.wide λk h=>h.pr⟩
theorem aa3 {t el:TypeId}{x y:Operand}{k aa r n ty D i:Nat}{els ys:List (List PV)}{cs:List AV}(ho:o.op= .call { callee:= .builtin .append,args:=#[x,y],argTypes:=#[t,t] })(J:aS P t=some (el,k,aa))(hx:e x=some (.own r n))(hσ:σ r=some (.rov ty D els i cs))(ab:D=k/\ty=el)(hn:els.length=n)(hy:(∃p,e y=some p/\toP p=some (.sl ys))):
 DSound P o e σ lab ⟨0<ys.length/\n+ys.length<=100000000/\∀row∈ys,row.length=k,λu=>u= .own lab (n+ys.length),[],true,[(r,none),(lab,some (.rov ty D (els++ys) i cs))]⟩:=by
 intro fr Ψ loc w ρ he B d hs hd;obtain⟨al,L,E⟩:0<ys.length/\n+ys.length<=100000000/\∀row∈ys,row.length=k:=hd;obtain⟨rfl,rfl⟩:=ab;obtain⟨q1,ti,z,q2,q3,q4,q5,q6,q7,q8⟩:=dS J;obtain⟨py,an,ao⟩:=hy;have N:=oI (he y _ an) ao;have O:=he x _ hx;generalize hq:ρ x=zx at O;generalize aq:ρ y=zy at N;have nR:∀r' w',(Builtin.append_ #[t,t] o.type #[zx,zy]).run P w= .ok r' w'->(execOp ρ o).run P w= .ok (.value r') w':=(λr' w' h=>by simp[execOp,ho,resolve,invoke,builtin,hq,aq,h]);obtain⟨g,c,cur,h1,hh,b3,ar,av,U,aw,b4,aD,aL⟩:rW Ψ loc w r ty D els i cs:=B.ob r _ hσ;have aM:lab≠r:=(λq=>by rw[q,h1] at d;cases d);have V:=B.drop r;have aR:(σ.upd r none) lab=none:=by rw[upd_ne _ _ aM];exact hs
 cases O with
 |
  own H hnc=>
  rename_i c0 A0;rw[h1] at H;injection H with H;injection H with b0 hl2;subst b0 hl2;rcases yT B E q7 N with ⟨rfl,_⟩|⟨ad,c',news,rfl,hpos,n1,n2,n3,n4⟩;simp at al
  . obtain⟨v',w',X,b1,Y,hg,b2⟩:=Tu o.type J hnc (.inr ⟨g,cur,rfl,hh,ar,av,by omega,rfl⟩) ad c' ys.length news n1 n2 n3 hpos L;obtain⟨A,G⟩:=Nh B hσ h1 hg b2;have Z:∀q y,cur[q]?=some y->q<n*D->(cur.toList.take (n*D)++news)[q]?=some y:=λq y hy a8=>by rw[jI (by rw[Y];exact a8),mi,if_pos a8,dH];exact hy
    obtain⟨A',cap,rfl,a6,a7⟩:=Nc (i:=i) (cs:=cs) (els:=els++ys) V d aR A b1 (by simp[hn]) (by omega) G (λrow hm=>by
     rcases jM.1 hm with hm|hm;exact U row hm
     . exact E row hm) (λa j p ha I=>by
     rcases wH I with ⟨_,I⟩|⟨h3,I⟩;obtain⟨y',s1,s2⟩:=aw a j p ha I;obtain⟨b5,hj⟩:=xO U I;exact⟨y',Z _ _ s1 (xN (by omega) hj),s2⟩
     . obtain⟨y',s1,s2⟩:=n4 _ j p I;refine⟨y',?_,s2⟩;have b6:n*D<=a*D:=iW _ (by omega);rw[jJ (by omega),Y,<-s1];congr 1;rw[hn,Jj];omega) aD (λj u hu=>by
     obtain⟨y',s1,s2,s3⟩:=aL j u hu;have hj:j<cs.length:=(bV.1 hu).1;exact⟨y',Z _ _ s1 (xN (by omega) (by omega)),s2,s3⟩)
    exact⟨_,w',Ψ,_,_,.inl ⟨nR _ _ X,.own Loc.upd_eq a6⟩,rfl,a7,.refl _,λl H=>Loc.upd_ne H,A.wide λk h=>h.pr⟩
theorem aa4 {t J:TypeId}{x y:Operand}{k d r n ty A H:Nat}{els:List (List PV)}{cs:List AV}{I:IntKind}{i:Int}(ho:o.op= .indexAddr t x y)(B:aS P t=some (J,k,d))(hx:e x=some (.own r n))(hσ:σ r=some (.rov ty A els H cs))(hk:A=k)(hn:els.length=n)(L:e y=some (.pv (.sc (.int I i)))):
 DSound P o e σ lab ⟨0<=i/\i<n,λu=>u= .rp r k i.toNat 0,[r],true,[]⟩:=
 .pure rfl λΨ loc fr w ρ he D N=>by
  obtain⟨h0,hi⟩:0<=i/\i<n:=N
  obtain⟨E,_⟩:=dK (he y _ L)
  have h:=he x _ hx
  generalize O:ρ x=z at h
  obtain⟨g,c,cur,h1,_⟩:rW Ψ loc w r ty A els H cs:=D.ob r _ hσ
  cases h with
  |
   own a hnc=>
   rename_i U A'
   rw[h1] at a
   injection a with a
   injection a with G hl2
   subst G hl2
   exact⟨.pointer (some ⟨g,0+i.toNat*k,none⟩),_,by simp[execOp,ho,O,E,BH B g 0 n _ I i w h0 hi],by rw[dJ];exact .rp (off:=0) h1,rfl⟩
theorem XU {t:TypeId}{x:Operand}{g:Bool}{k r ty a i off:Nat}{els:List (List PV)}{cs:List AV}{v:AV}(ho:o.op= .load t x)(B:lay P t=some (g,k))(hx:e x=some (.rp r a i off))(hσ:σ r=some (.rov ty a els i cs))(D:vk g k cs off=some v):
 DSound P o e σ lab ⟨True,λu=>u=v,[r],true,[]⟩:=
 .pure rfl λΨ loc fr w ρ he d J=>by
  have h:=he x _ hx
  generalize E:ρ x=y at h
  obtain⟨b,c,cur,h1,G,_,_,_,_,_,_,_,A⟩:rW Ψ loc w r ty a els i cs:=d.ob r _ hσ
  cases h with
  |
   rp hp=>
   rw[hp] at h1
   injection h1 with h1
   injection h1 with h1 h2
   injection h1 with h1
   injection h1 with h1
   subst h1
   obtain⟨y,r1,H⟩:=iE (P:=P) (base:=i*a) B D (λj u I=>by
    obtain⟨x,s1,_,s3⟩:=A j u I
    exact⟨x,by rw[jl G];exact s1,s3⟩)
   exact⟨y,v,by simp[execOp,ho,E,r1],H,rfl⟩
theorem UM {t:TypeId}{x y:Operand}{g:Bool}{k r ty i:Nat}{els:List (List PV)}{cs:List AV}{v:AV}{ps:List PV}(ho:o.op= .store t x y)(N:o.dst=none)(hl:lay P t=some (g,k))(hx:e x=some (.rp r k i 0))(hy:e y=some v)(hσ:σ r=some (.rov ty k els i cs))
 (hp:oq (aJ v)=some ps) (hk:ps.length=k):
 DSound P o e σ lab ⟨True,λu=>u= .emp,[],true,[(r,some (.row ty k (els.set i ps)))]⟩:=by
 intro fr Ψ loc w ρ he B aa _ _;have h:=he x _ hx;generalize hq:ρ x=z at h;obtain⟨b,c,cur,h1,hh,H,O,q3,q4,q5,q6,q7,q8⟩:rW Ψ loc w r ty k els i cs:=B.ob r _ hσ;have J:(aJ v).all fB=true:=by
  rw[mf];intro u hu;obtain⟨j,D⟩:=mg.1 hu;have ad:=(gG hp).1;obtain⟨u',H,O⟩:=(gG hp).2 j (ps[j]'(by have:=(bV.1 D).1;omega)) (aV _);rw[D] at H;injection H with H;subst H
  cases u<;>first|rfl|cases O
 obtain⟨c1,c2⟩:=nG (he y v hy) J;have L:(aJ v).length=k:=by rw[<-(gG hp).1];exact hk
 cases h with
 |
  rp d=>
  rw[h1] at d;injection d with d;injection d with d h2;injection d with d;injection d with d;subst d;have a7:(i+1)* k<=(c+1)* k:=iW _ (by omega);rw[iq,qh] at a7;have a8:i*k+k<=cur.size:=(by omega);have U:=oJ (P:=P) (t:=t) (x:=ρ y) hl hh (c1.trans L) (off:=i*k) a8 (λu hu=>by obtain⟨j,D⟩:=mg.1 hu;have V:j<(aJ v).length:=(by have:=(bV.1 D).1;rw[nH,c1] at this;exact this);obtain⟨y',H,O,_⟩:=c2 j _ (aV V);rw[dH,H] at D;injection D with D;rw[<-D];exact O);have hb:=qg h1;have X:=(B.drop r).chg (Same.row (K:=Free fr Ψ loc (σ.upd r none)) (B.free hσ hb) (fG cur.toList (i*k) (ρ y).cells.toList).toArray);refine⟨undef,w.setRow b (fG cur.toList (i*k) (ρ y).cells.toList).toArray,Ψ,loc,.emp,.inr ⟨by simp[execOp,ho,hq,U],N⟩,rfl,?_,.refl _,λ_ _=>rfl,?_⟩
  . show Ok fr Ψ loc (σ.upd r _) _;rw[<-IC σ r none];have Y:i*k+(ρ y).cells.toList.length<=cur.toList.length:=(by simp[c1,L];omega);have hg:∀q,(fG cur.toList (i*k) (ρ y).cells.toList).toArray[q]?=if i*k<=q/\q<i*k+k then (ρ y).cells[q-i*k]? else cur[q]?:=(λq=>by rw[oK,iI Y];simp only[nH,c1,L,dH,oD]);refine X.claim (upd_eq _ _ _) ⟨_,_,h1,.inr ⟨by omega,b,_,rfl,yw w b cur _ ty _ hh,by simpa using H,O,?_,λrow Z=>?_,λa j p A=>?_⟩⟩ (λb' E=>by rw[hb] at E;injection E with E;rw[<-E];exact B.free hσ hb);simp only[uX];rw[lK Y];simpa using q3;rcases XV Z with h|rfl;exact q4 row h;exact hk
    . unfold cellOf at A;rw[Jk] at A;split at A;rename_i G;subst G;have D:j<k:=(by rw[<-hk];exact (bV.1 A).1);obtain⟨u,r1,r2⟩:=(gG hp).2 j p A;obtain⟨y',s1,s2,s3⟩:=c2 j u r1;refine⟨y',?_,oI s3 r2⟩;rw[hg,if_pos (by omega),show i*k+j-i*k=j by omega];exact s1
      . rename_i G;have I:cellOf els a j=some p:=A;obtain⟨y',s1,s2⟩:=q5 a j p (λe=>G e.symm) I;obtain⟨ha,D⟩:=xO q4 I;refine⟨y',?_,s2⟩;have a6:¬(i*k<=a*k+j/\a*k+j<i*k+k):=by
         intro ab;rcases Xn G with V|hgt;have:=iW k (show i+1<=a by omega);rw[iq,qh] at this;omega;have:=xN (k:=k) hgt D;omega
        rw[hg,if_neg a6];exact s1
  exact Same.row (K:=λk=>¬fr.pr k) (B.ow r _ b hσ hb).1 _
theorem UN {t I:TypeId}{k J:Nat}{parts:Array (Nat×Operand)}{x:Operand}{v:AV}(ho:o.op= .buildSlice t 1 parts)(L:aS P t=some (I,k,J))(Z:parts.toList=[(0,x)])(hx:e x=some v)(hk:(aJ v).length=k)(hc:(aJ v).all fB=true)(a6:k<=2^24):
 DSound P o e σ lab (.val (.tl (aJ v))):=by intro fr Ψ loc w ρ he N X hs hd;obtain⟨h1,i,z,h2,h3,h4,h5,h6,h7,h8⟩:=dS L;subst h4;obtain⟨c1,c2⟩:=nG (he x v hx) hc;have A:(ρ x).cells.size=i.size:=(by rw[c1,hk]);obtain⟨xs,E⟩:∃xs,xs=(Array.range (1*i.size)).map (z.cells[· % z.cells.size]!):=⟨_,rfl⟩;have G:xs.size=i.size:=(by rw[E];simp);have O:Instr.fill (λa=>some (a*i.size,i.size)) xs [(0,ρ x)]=some (fG xs.toList 0 (ρ x).cells.toList).toArray:=(by unfold Instr.fill;dsimp only;have hno:((ρ x).cells.size≠i.size || decide (0*i.size+(ρ x).cells.size>xs.size))=false:=(by simp only[DW,lL,ne_eq];refine⟨by simp[A],by omega⟩);rw[hno];simp only[lS,tq];have d:=uF (ρ x).cells.toList 0 0 xs (by simp[A,G]);simp only[oD] at d;rw[show (Array.foldl (λcs x=>match x with|(c,j)=>cs.setIfInBounds (0*i.size+j) c) xs (ρ x).cells.zipIdx)=((ρ x).cells.toList.zipIdx 0).foldl (λcs (c:Value×Nat)=>cs.setIfInBounds (0+c.2) c.1) xs from by rw[<-Qo,Qp,Jl],d];rfl);have H:=run_buildSlice w t I 1 (parts.map λ(i,x)=>(i,ρ x)) _ i z h1 h2 h3 (by omega) (by omega) (by rw[Jm,Z,<-E];exact O);have U:∀j,j<i.size->(fG xs.toList 0 (ρ x).cells.toList).toArray[j]?=(ρ x).cells[j]?:=(λj D=>by rw[oK,iI (by simp[A,G]),if_pos (by simp[A];omega),dH,Qq]);obtain⟨g1,Y⟩:=XW N (fG xs.toList 0 (ρ x).cells.toList).toArray I;have hF:∀j,∃y,j<(aJ v).length->(ρ x).cells[j]?=some y/\y.oneCell'=true/\∀u,(aJ v)[j]?=some u->RepA Ψ loc u y:=(λj=>by by_cases D:j<(aJ v).length;obtain⟨y,r1,V,r3⟩:=c2 j _ (aV D);exact⟨y,λ_=>⟨r1,V,λu B=>by rw[aV D] at B;injection B with B;rw[<-B];exact r3⟩⟩;exact⟨undef,λh=>absurd h D⟩);refine⟨.slice (some ⟨w.heap.size,0,none⟩) 1 1,w.alloc (.cells (fG xs.toList 0 (ρ x).cells.toList).toArray I),_,loc,_,.inl ⟨by simp[execOp,ho,H],.tl (λj=>(hF j).choose) (ax _) (λj D=>?_) (λj u B=>?_)⟩,rfl,g1,Y,λ_ _=>rfl,Same.of (aY w _ none) nofun⟩;obtain⟨r1,V,_⟩:=(hF j).choose_spec D;refine⟨?_,V⟩;show (if w.heap.size=w.heap.size then (fG xs.toList 0 (ρ x).cells.toList).toArray[0+j]? else _)=_;rw[if_pos rfl,dJ,U j (by omega)];exact r1;exact ((hF j).choose_spec (bV.1 B).1).2.2 u B |>.mono Y (.refl _)
end
