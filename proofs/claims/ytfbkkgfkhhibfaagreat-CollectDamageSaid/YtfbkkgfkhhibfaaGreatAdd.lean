/- Words. -/
import Derived.Test.YtfbkkgfkhhibfaaGreatAda
set_option linter.unusedVariables false
set_option linter.unusedSimpArgs false
namespace AM
open Go Go.RowKit
section
variable {P : Program} {o : Oper} {e : Operand -> Option AV} {σ : Sto} {lab : Nat}
theorem I8 {Ψ:Psi}{loc:Loc}{fr:Fr}{w:World}(J:Ok fr Ψ loc σ w){ys:List (List PV)}{k:Nat}(hk:∀row∈ys,row.length=k)(h0:0<k){x:Value}(h:Rep Ψ (.sl ys) x):
 (ys=[]/\∃A c,x= .slice A 0 c)\/∃(N:Addr) (c:Nat) (news:List Value),x= .slice (some N) ys.length c/\0<ys.length/\news.length=ys.length*k/\(∀(j:Nat) u,news[j]?=some u->w.cell? (N.add j)=some u)/\(∀u∈news,u.oneCell'=true)/\∀i j p,cellOf ys i j=some p->∃y,news[i*k+j]?=some y/\Rep Ψ p y:=by
 cases h with
 |nil=>exact .inl ⟨rfl,_,_,rfl⟩
 |
  sl f hn hnc hk' hf hr=>
  rename_i b q c n a;rcases oI ys.length with hz|hz;rw[hz] at hn;subst hn;exact .inl ⟨lS hz,_,_,rfl⟩
  . have L:a=k:=(hk' ys[0] (eu hz)).symm.trans (hk _ (eu hz));subst L;have B:∀i j,i<ys.length->j<a->∃p,cellOf ys i j=some p:=(λi j hi H=>by have hr:=hk' ys[i] (eu hi);exact⟨ys[i][j],by simp[cellOf,aX hi,aX (show j<ys[i].length by omega)]⟩);have G:∀(d:Nat) u,((List.range (ys.length*a)).map λd=>f (d/a) (d%a))[d]?=some u->d<ys.length*a/\u=f (d/a) (d%a):=(λd u E=>by rw[bM] at E;by_cases D:d<ys.length*a;rw[abj D] at E;simp at E;exact⟨D,E.symm⟩;rw[uw (by simpa using D)] at E;simp at E);have hdiv:∀d,d<ys.length*a->d/a<ys.length:=λd D=>(aaj h0).2 D;refine .inr ⟨⟨b,q,none⟩,c,(List.range (ys.length*a)).map λd=>f (d/a) (d%a),by rw[hn],hz,by simp,λj u E=>?_,λu E=>?_,λi j p hc=>?_⟩;obtain⟨D,rfl⟩:=G j u E;obtain⟨p,M⟩:=B (j/a) (j%a) (hdiv j D) (tq _ h0);have:=J.fz _ _ _ (hf _ _ _ M);rw[zn,<-this];congr 3;rw[S9];exact (Nat.div_add_mod j a).symm;obtain⟨j,H⟩:=rM.1 E;obtain⟨D,rfl⟩:=G j u H;obtain⟨p,M⟩:=B (j/a) (j%a) (hdiv j D) (tq _ h0);exact (hr _ _ _ M).one
    . have hi:i<ys.length:=by
       apply O7;intro hi;simp[cellOf,uw (Nat.le_of_not_lt hi)] at hc
      have H:j<a:=(by have I:=hk' ys[i] (eu hi);simp[cellOf,aX hi] at hc;rw[<-I];exact (dD.1 hc).1);have D:i*a+j<ys.length*a:=(by have:=lN a (show i+1<=ys.length by omega);rw[jM,qN] at this;omega);refine⟨f i j,?_,hr _ _ _ hc⟩;rw[bM,abj D];simp only[nJ,gV];rw[S9 i a,Nat.mul_add_div h0,Nat.div_eq_of_lt H,Nat.mul_add_mod,Jt H,rQ]
theorem FT {fr:Fr}{Ψ:Psi}{loc:Loc}{w w':World}{base G k N:Nat}{v:Value}{fD:List Value}{els:List (List PV)}(E:Ok fr Ψ loc σ w)(d:loc lab=none)(hs:σ lab=none)(a:Same (Free fr Ψ loc σ) w w')(u:w'.ownsRow base G k v N fD)(J:els.length=N)(h0:0<N)(hb:∀g,v.ownBlock=some g->Free fr Ψ loc σ g)
 (hk:∀row∈els,row.length=k) (hr:∀i j p,cellOf els i j=some p->∃y,fD[i*k+j]?=some y/\Rep Ψ p y):
 ∃A c,v= .slice A N c/\N<=c/\Ok fr Ψ (loc.upd lab (A,c)) (σ.upd lab (some (.row G k els))) w':=by
 rcases u.2 with ⟨_,L⟩|⟨g,cap,cur,rfl,hbg,hh,hnc,hcm,hcs,htake⟩;omega
 . refine⟨some ⟨g,0,none⟩,cap,rfl,hnc,?_⟩;have hle:Loc.le loc (loc.upd lab (some ⟨g,0,none⟩,cap)):=Loc.le_upd d;have h1:=(E.chg a).locs hle (λl o e=>Loc.upd_ne (λq=>by rw[q,hs] at e;cases e));refine h1.claim hs ⟨_,cap,Loc.upd_eq,.inr ⟨by omega,g,cur,rfl,hh,by omega,hcm,hcs,hk,λi j p hc=>?_⟩⟩ (λb B=>?_)
   . obtain⟨y,D,I⟩:=hr i j p hc;refine⟨y,?_,I⟩;rw[<-htake,rZ] at D;split at D;rw[<-fQ];exact D
     cases D
   obtain⟨H,rfl⟩:∃H,cap=H+1:=⟨cap-1,by omega⟩;have:b=g:=(by simp[blk,Loc.upd_eq] at B;exact B.symm);subst this;have hf:=hb b rfl;exact⟨hf.pr,hf.tb,hf.fz,λl o e q=>by rw[kC (Loc.upd_ne (λq=>by rw[q,hs] at e;cases e))] at q;exact hf.ob l o e q⟩
theorem Ug {xs ys:List (List PV)}{i j:Nat}{p:PV}(h:cellOf (xs++ys) i j=some p):(i<xs.length/\cellOf xs i j=some p)\/(xs.length<=i/\cellOf ys (i-xs.length) j=some p):=by unfold cellOf at h|-;by_cases hi:i<xs.length;rw[jO hi] at h;exact .inl ⟨hi,h⟩;rw[jP (by omega)] at h;exact .inr ⟨by omega,h⟩
theorem FU {t u:TypeId}{k a:Nat}(d:aV P t=some (u,k,a))(A B:Option Addr)(n c q:Nat)(hn:n<=c)(ty:TypeId)(w:World):(Builtin.append_ #[t,t] ty #[.slice A n c,.slice B 0 q]).run P w= .ok (.slice A n c) w:=by
 obtain⟨y,ti,z,D,G,E,_⟩:=iE d;have hf:(Builtin.firstCells k 0 (.slice B 0 q)).run P w= .ok #[] w:=by cases B<;>simp[Builtin.firstCells,loadCells,loadCellsFrom]
 cases A<;>simp[Builtin.append_,jF y,Go.sizeOf,typeInfo,D,E,Builtin.lenOf,hn,hf,storeCells]
theorem ahI {t el:TypeId}{x y:Operand}{k L r n ty E:Nat}{els ys:List (List PV)}(ho:o.op= .call { callee:= .builtin .append,args:=#[x,y],argTypes:=#[t,t] })(ab:aV P t=some (el,k,L))(hx:e x=some (.own r n))(hσ:σ r=some (.row ty E els))(ao:E=k/\ty=el)(hn:els.length=n)(hy:(∃p,e y=some p/\toP p=some (.sl ys))):
 DSound P o e σ lab ⟨n+ys.length<=100000000/\∀row∈ys,row.length=k,λu=>u= .own lab (n+ys.length),[],true,[(r,none),(lab,some (.row ty E (els++ys)))]⟩:=by
 intro fr Ψ loc w ρ he M H hs hd;obtain⟨aa,N⟩:n+ys.length<=100000000/\∀row∈ys,row.length=k:=hd;obtain⟨rfl,rfl⟩:=ao;obtain⟨q1,ti,z,q2,q3,q4,q5,q6,q7,q8⟩:=iE ab;obtain⟨py,aq,ar⟩:=hy;have al:=yu (he y _ aq) ar;have an:=he x _ hx;generalize hq:ρ x=zx at an;generalize av:ρ y=zy at al;have uT:∀r' w',(Builtin.append_ #[t,t] o.type #[zx,zy]).run P w= .ok r' w'->(execOp ρ o).run P w= .ok (.value r') w':=(λr' w' h=>by simp[execOp,ho,resolve,invoke,builtin,hq,av,h]);obtain⟨A,c,h1,h2⟩:qh Ψ loc w r ty E els:=M.ob r _ hσ;have aw:lab≠r:=(λq=>by rw[q,h1] at H;cases H);have I:=M.drop r;have O:(σ.upd r none) lab=none:=(by rw[upd_ne _ _ aw];exact hs);have G:(n+ys.length)* L<=140737488355328:=by
  have:(n+ys.length)* L<=100000000*1000:=zJ aa q8
  omega
 have a7:n+ys.length<=maxLen:=by unfold maxLen;omega
 cases an with
 |
  own V hnc=>
  rename_i c0 A0;rw[h1] at V;injection V with V;injection V with aD hl2;subst aD hl2;rcases I8 M N q7 al with ⟨rfl,B,X,rfl⟩|⟨ad,X,news,rfl,hpos,n1,n2,n3,n4⟩
  ·
   refine⟨.slice A n c,w,Ψ,loc.upd lab (A,c),_,.inl ⟨uT _ _ (FU ab A B n c X hnc o.type w),.own Loc.upd_eq hnc⟩,rfl,?_,.refl _,λl V=>Loc.upd_ne V,Same.refl _ _⟩;show Ok fr Ψ _ ((σ.upd r none).upd lab _) w;rw[nN];have hle:Loc.le loc (loc.upd lab (A,c)):=Loc.le_upd H;have aL:=I.locs hle (λl o e=>Loc.upd_ne (λq=>by rw[q,O] at e;cases e));refine aL.claim O ⟨A,c,Loc.upd_eq,h2⟩ (λb hb=>?_);have aM:blk loc r=some b:=(by have:blk (loc.upd lab (A,c)) lab=blk loc r:=(by simp[blk,Loc.upd_eq,h1]);rw[<-this];exact hb);have hf:=M.free hσ aM;exact⟨hf.pr,hf.tb,hf.fz,λl o e q=>by rw[kC (Loc.upd_ne (λq=>by rw[q,O] at e;cases e))] at q;exact hf.ob l o e q⟩
  . rcases h2 with ⟨rfl,rfl⟩|⟨g0,g,cur,rfl,hh,hec,hcm,hcs,hrk,hcr⟩
    ·
     have aR:n=0:=(by simpa using hn.symm);subst aR
     have fin:∀v' w',(Builtin.append_ #[t,t] o.type #[.slice A 0 0,.slice (some ad) ys.length X]).run P w= .ok v' w'->w'.ownsRow w.heap.size ty E v' ys.length news->w.grownBy w' none->
      ∃rr w' Ψ' loc' v,((execOp ρ o).run P w= .ok (.value rr) w'/\RepA Ψ' loc' v rr\/(execOp ρ o).run P w= .ok .skip w'/\o.dst=none)/\v= .own lab (0+ys.length)/\Ok fr Ψ' loc' ((σ.upd r none).upd lab (some (.row ty E ([]++ys)))) w'/\Ψ.le Ψ'/\(∀l,l≠lab->loc' l=loc l)/\Same (λk=>¬fr.pr k) w w':=λv' w' d D hg=>by
      obtain⟨A',cap,rfl,R,U⟩:=FT I H O (Same.of hg nofun) D rfl hpos (λg a8=>(I.new (D.lt g a8).1)) N n4;exact⟨_,w',Ψ,_,_,.inl ⟨uT _ _ d,.own Loc.upd_eq R⟩,by rw[eX],by rw[kN];exact U,.refl _,λl V=>Loc.upd_ne V,Same.of hg nofun⟩
     cases A with
     |
      none=>
      obtain⟨v',w',d,D,hg,_⟩:=(run_append_own (P:=P) w w.heap.size t o.type ty ti z E L q1 q2 q3 q4 q5 q6 q7 (.slice none 0 0) 0 [] (dw _ _ _ _) ad ys.length X news n1 n2 n3 a7 G (ak _));rw[eX,kN] at D;exact fin v' w' d D hg
     |
      some ad0=>
      obtain⟨v',w',d,D,hg⟩:=(run_append_arg_grows (P:=P) w t o.type ty ti z E L q1 q2 q3 q4 q5 q6 q7 ad0 0 0 [] (by simp) (λj u h=>by simp at h) ad ys.length X news n1 n2 (by omega) a7 G);rw[eX,kN] at D;exact fin v' w' d D hg
    ·
     obtain⟨c1,rfl⟩:∃c1,c=c1+1:=⟨c-1,by omega⟩;have hb:=tK h1;have hf:=M.free hσ hb;have hlen:(cur.toList.take (n*E)).length=n*E:=(by rw[sS,tN,hcs];exact Dz (lN _ hnc));have d:∃v' w',(Builtin.append_ #[t,t] o.type #[.slice (some ⟨g,0,none⟩) n (c1+1),.slice (some ad) ys.length X]).run P w= .ok v' w'/\w'.ownsRow 0 ty E v' (n+ys.length) (cur.toList.take (n*E)++news)/\w.grownBy w' (some g)/\∀Y,v'.ownBlock=some Y->Y=g\/w.heap.size<=Y:=by
      by_cases J:n+ys.length<=c1+1;have Z:n*ti.size+news.length<=cur.size:=(by rw[n1,hcs,q4,<-jM];exact lN _ J);have hr:=run_append_room (P:=P) w t o.type ty ti q1 q2 g n (c1+1) cur hh ad ys.length X news (by rw[q4];exact n1) n2 n3 J Z;refine⟨_,_,hr,⟨by rw[aY,hlen,n1,jM],.inr ⟨g,c1+1,_,rfl,ay _,Jb w g cur _ ty _ hh,J,hcm,?_,?_⟩⟩,⟨rfl,rfl,rfl,by simp[World.setRow],λk _ hk=>setRow_other w g k _ (λe=>hk (by rw[e]))⟩,λY e=> .inl (by injection e with e;exact e.symm)⟩;rw[q4] at Z|-;simp only[AP,aY,sS,pG,tN];omega;rw[q4];have h3:(n+ys.length)* E=(cur.toList.take (n*E)++news).length:=(by rw[aY,hlen,n1,jM]);rw[h3];exact List.take_left
      . obtain⟨v',w',hr,D,hg⟩:=run_append_arg_grows (P:=P) w t o.type ty ti z E L q1 q2 q3 q4 q5 q6 q7 ⟨g,0,none⟩ n (c1+1) (cur.toList.take (n*E)) hlen (λj u hu=>by
         rw[zn,eX,lh hh];rw[rZ] at hu;split at hu;rw[<-fQ];exact hu
         . cases hu) ad ys.length X news n1 n2 (by omega) a7 G
        exact⟨v',w',hr,⟨D.1,D.2.imp id (λ⟨g,cap,cur,a,_,b⟩=>⟨g,cap,cur,a,ay _,b⟩)⟩,⟨hg.os,hg.tape,hg.output,hg.size,λk hk _=>hg.block k hk nofun⟩,λY e=> .inr (D.lt Y e).1⟩
     obtain⟨v',w',d,D,hg,b0⟩:=d;have a6:Same (Free fr Ψ loc (σ.upd r none)) w w':=Same.of hg (λk e=>by injection e with e;rw[<-e];exact hf)
     obtain⟨A',cap,rfl,R,U⟩:=FT (els:=els++ys) I H O a6 D (by simp[hn]) (by omega) (λY a8=>by
      rcases b0 Y a8 with rfl|h;exact hf
      . exact I.new h) (λrow hm=>by
      rcases ja.1 hm with hm|hm;exact hrk row hm
      . exact N row hm) (λi j p hc=>by
      rcases Ug hc with ⟨hi,hc⟩|⟨hi,hc⟩
      . obtain⟨y',s1,s2⟩:=hcr i j p hc;refine⟨y',?_,s2⟩;have hj:j<E:=by
         have b1:=hrk els[i] (eu hi);simp[cellOf,aX hi] at hc;rw[<-b1];exact (dD.1 hc).1
        have b2:i*E+j<n*E:=(by have:=lN E (show i+1<=n by omega);rw[jM,qN] at this;omega);rw[jO (by omega),rZ,if_pos b2,fQ];exact s1
      . obtain⟨y',s1,s2⟩:=n4 _ j p hc;refine⟨y',?_,s2⟩;have b3:n*E<=i*E:=lN _ (by omega);rw[jP (by omega),hlen,<-s1];congr 1;rw[hn,TQ];omega)
     exact⟨_,w',Ψ,_,_,.inl ⟨uT _ _ d,.own Loc.upd_eq R⟩,rfl,U,.refl _,λl V=>Loc.upd_ne V,Same.of hg (λk e=>by injection e with e;rw[<-e];exact hf.pr)⟩
theorem Vl {t J:TypeId}{x y:Operand}{k E:Nat}{ys:List (List PV)}(ho:o.op= .call { callee:= .builtin .append,args:=#[x,y],argTypes:=#[t,t] })(L:aV P t=some (J,k,E))(hx:e x=some .emp)(hy:(∃p,e y=some p/\toP p=some (.sl ys))):
 DSound P o e σ lab ⟨ys.length<=100000000/\∀row∈ys,row.length=k,λu=>u= .own lab ys.length,[],true,[(lab,some (.row J k ys))]⟩:=by
 intro fr Ψ loc w ρ he G H hs hd;obtain⟨a8,I⟩:ys.length<=100000000/\∀row∈ys,row.length=k:=hd;obtain⟨q1,ti,z,q2,q3,q4,q5,q6,X,q8⟩:=iE L;obtain⟨py,Y,Z⟩:=hy;have M:=yu (he y _ Y) Z;have N:=he x _ hx;generalize hq:ρ x=zx at N;generalize a6:ρ y=zy at M;have uT:∀r' w',(Builtin.append_ #[t,t] o.type #[zx,zy]).run P w= .ok r' w'->(execOp ρ o).run P w= .ok (.value r') w':=(λr' w' h=>by simp[execOp,ho,resolve,invoke,builtin,hq,a6,h]);have D:(0+ys.length)* E<=140737488355328:=by
  have:(0+ys.length)* E<=100000000*1000:=zJ (by omega) q8
  omega
 have O:0+ys.length<=maxLen:=by unfold maxLen;omega
 cases N with
 |
  emp=>
  rename_i A;rcases I8 G I X M with ⟨rfl,B,R,rfl⟩|⟨ad,R,news,rfl,hpos,n1,n2,n3,n4⟩
  . refine⟨.slice A 0 0,w,Ψ,loc.upd lab (A,0),_,.inl ⟨uT _ _ (FU L A B 0 0 R (ak _) o.type w),.own Loc.upd_eq (ak _)⟩,rfl,?_,.refl _,λl hl=>Loc.upd_ne hl,Same.refl _ _⟩;show Ok fr Ψ _ (σ.upd lab _) w;refine (G.locs (Loc.le_upd H) (λl o e=>Loc.upd_ne (λq=>by rw[q,hs] at e;cases e))).claim hs ⟨A,0,Loc.upd_eq,.inl ⟨rfl,rfl⟩⟩ (λb hb=>?_)
    cases A<;>simp[blk,Loc.upd_eq] at hb
  . have fin:∀v' w',(Builtin.append_ #[t,t] o.type #[.slice A 0 0,.slice (some ad) ys.length R]).run P w= .ok v' w'->w'.ownsRow w.heap.size J k v' ys.length news->w.grownBy w' none->
     ∃rr w' Ψ' loc' v,((execOp ρ o).run P w= .ok (.value rr) w'/\RepA Ψ' loc' v rr\/(execOp ρ o).run P w= .ok .skip w'/\o.dst=none)/\v= .own lab ys.length/\Ok fr Ψ' loc' (σ.upd lab (some (.row J k ys))) w'/\Ψ.le Ψ'/\(∀l,l≠lab->loc' l=loc l)/\Same (λk=>¬fr.pr k) w w':=λv' w' a d hg=>by
     obtain⟨A',cap,rfl,U,V⟩:=FT G H hs (Same.of hg nofun) d rfl hpos (λg a7=>(G.new (d.lt g a7).1)) I n4;exact⟨_,w',Ψ,_,_,.inl ⟨uT _ _ a,.own Loc.upd_eq U⟩,rfl,V,.refl _,λl hl=>Loc.upd_ne hl,Same.of hg nofun⟩
    cases A with
    |
     none=>
     obtain⟨v',w',a,d,hg,_⟩:=(run_append_own (P:=P) w w.heap.size t o.type J ti z k E q1 q2 q3 q4 q5 q6 X (.slice none 0 0) 0 [] (dw _ _ _ _) ad ys.length R news n1 n2 n3 O D (ak _));rw[eX,kN] at d;exact fin v' w' a d hg
    |
     some ad0=>
     obtain⟨v',w',a,d,hg⟩:=(run_append_arg_grows (P:=P) w t o.type J ti z k E q1 q2 q3 q4 q5 q6 X ad0 0 0 [] (by simp) (λj u h=>by simp at h) ad ys.length R news n1 n2 (by omega) O D);rw[eX,kN] at d;exact fin v' w' a d hg
theorem adN {t J:TypeId}{x y:Operand}{k U:Nat}{ys:List (List PV)}(ho:o.op= .call { callee:= .builtin .append,args:=#[x,y],argTypes:=#[t,t] })(V:aV P t=some (J,k,U))(hx:e x=some .emp)(hy:(∃p,e y=some p/\toP p=some (.sl ys))):
 DSound P o e σ lab (.chk (ys.length<=100000000/\∀row∈ys,row.length=k) (.pv (.sl ys))):=by
 intro fr Ψ loc w ρ he X L hs hd;obtain⟨r,w',Ψ',D,v,q,M,N,hle,Y,u⟩:=Vl ho V hx hy fr Ψ loc w ρ he X L hs hd;have hv:v= .own lab ys.length:=M;subst hv;have E:Ok fr Ψ' D (σ.upd lab (some (.row J k ys))) w':=N;have hσ:(σ.upd lab (some (.row J k ys))) lab=some (.row J k ys):=(by simp[Sto.upd]);have B:(σ.upd lab (some (.row J k ys))).upd lab none=σ:=(by funext l;by_cases h:l=lab;subst h;simp[Sto.upd,hs];simp[Sto.upd,h]);have d:=E.drop lab;rcases q with ⟨q,O⟩|⟨q,hdst⟩
 . obtain⟨A,c,h1,h2⟩:=E.ob lab _ hσ
   cases O with
   |
    own H hn=>
    rw[h1] at H;injection H with H;injection H with e1 e2;subst e1 e2;rcases h2 with ⟨rfl,rfl⟩|⟨h0,g,cur,rfl,hh,hec,hcm,hcs,hrk,hcr⟩;rw[B] at d;have a6:([]:List (List PV)).length=0:=rfl;exact⟨_,w',Ψ',D,_,.inl ⟨q,.pv (.nil λ_=>rfl)⟩,rfl,d,hle,Y,u⟩
    . obtain⟨Z,rfl⟩:∃Z,c=Z+1:=⟨c-1,by omega⟩;have hb:=tK h1;have hf:=E.free hσ hb;have I:=hf.le_fz cur;have R:=d.freeze hf hh;rw[B] at R
      have hF:∀G j,∃y,∀p,cellOf ys G j=some p->cur[G*k+j]?=some y/\Rep Ψ' p y:=λG j=>by
       cases hc:cellOf ys G j with
       |none=>exact ⟨undef,λp h=>by cases h⟩
       |
        some p0=>
        obtain⟨y,q1,q2⟩:=hcr G j p0 hc;exact⟨y,λp h=>by injection h with h;subst h;exact⟨q1,q2⟩⟩
      refine⟨_,w',Ψ'.addFz g cur,D,_,.inl ⟨q,.pv (.sl (k:=k) (λa b=>(hF a b).choose) rfl hn hrk (λG j p hc=>?_) (λG j p hc=>((hF G j).choose_spec p hc).2.mono I))⟩,rfl,R,hle.trans I,Y,u⟩;show (if g=g then cur[0+(G*k+j)]? else _)=_;rw[if_pos rfl,eX];exact ((hF G j).choose_spec p hc).1
 rw[B] at d;exact⟨r,w',Ψ',D,_,.inr ⟨q,hdst⟩,rfl,d,hle,Y,u⟩
theorem adM {t el:TypeId}{x y:Operand}{k G n:Nat}{cts:List CT}(ho:o.op= .call { callee:= .builtin .append,args:=#[x,y],argTypes:=#[t,t] })(N:aV P t=some (el,k,G))(hx:e x=some .emp)(hy:e y=some (.pv (.tr cts n)))(hk:cts.length=k):
 DSound P o e σ lab (.chk (n<=100000000) (.pv (.tr cts n))):=by
 intro fr Ψ loc w ρ he H al hs hd;have an:n<=100000000:=hd;obtain⟨q1,ti,z,q2,q3,q4,q5,q6,q7,q8⟩:=iE N;have O:=he x _ hx;have I:=he y _ hy;generalize hq:ρ x=zx at O;generalize a7:ρ y=zy at I;have uT:∀r' w',(Builtin.append_ #[t,t] o.type #[zx,zy]).run P w= .ok r' w'->(execOp ρ o).run P w= .ok (.value r') w':=(λr' w' h=>by simp[execOp,ho,resolve,invoke,builtin,hq,a7,h]);have D:(0+n)* G<=140737488355328:=by
  have:(0+n)* G<=100000000*1000:=zJ (by omega) q8
  omega
 have R:0+n<=maxLen:=by unfold maxLen;omega
 cases O with
 |
  emp=>
  rename_i A;have zero:∀B c',zy= .slice B 0 c'->n=0->∃rr w' Ψ' loc' v,((execOp ρ o).run P w= .ok (.value rr) w'/\RepA Ψ' loc' v rr\/(execOp ρ o).run P w= .ok .skip w'/\o.dst=none)/\v= .pv (.tr cts n)/\Ok fr Ψ' loc' σ w'/\Ψ.le Ψ'/\(∀l,l≠lab->loc' l=loc l)/\Same (λk=>¬fr.pr k) w w':=λB c' hz hn=>by subst hn;exact⟨.slice A 0 0,w,Ψ,loc,_,.inl ⟨uT _ _ (by rw[hz];exact FU N A B 0 0 c' (ak _) o.type w),.pv .tr0⟩,rfl,H,.refl _,λ_ _=>rfl,Same.refl _ _⟩
  cases I with
  |
   pv I=>cases I with
   |tr0=>exact zero _ _ rfl rfl
   |
    tr ht h0 hm hnc hle=>
    rename_i b q c m;rcases oI n with hz|hpos;subst hz;exact zero _ _ rfl rfl
    . obtain⟨arr,ty,hh,aq,U⟩:=H.tb _ _ _ ht;have ao:q+n*k<=arr.size:=(by rw[<-hk];omega);have n1:((arr.toList.drop q).take (n*k)).length=n*k:=by simp;omega
      have hg:∀(j:Nat) u,((arr.toList.drop q).take (n*k))[j]?=some u->j<n*k/\arr[q+j]?=some u:=λj u J=>by
       rw[rZ] at J;split at J;rename_i V;rw[zY,fQ] at J;exact⟨V,J⟩
       cases J
      have X:∀j,j<n*k->∀ct,cts[j%k]?=some ct->∃p x,arr[q+j]?=some x/\ct.ok p/\Rep Ψ p x:=(λj V ct L=>by refine U (q+j) ct (by rw[<-hk] at V;omega) ?_;rw[hk,Jr,<-hk,hm,eX,Js,hk];exact L);have n3:∀u∈(arr.toList.drop q).take (n*k),u.oneCell'=true:=(λu J=>by obtain⟨j,V⟩:=rM.1 J;obtain⟨a8,aa⟩:=hg j u V;have ab:j%k<cts.length:=(by rw[hk];exact tq _ q7);obtain⟨p,x,r1,_,r3⟩:=X j a8 _ (aX ab);rw[aa] at r1;injection r1 with r1;rw[r1];exact r3.one);have n2:∀(j:Nat) u,((arr.toList.drop q).take (n*k))[j]?=some u->w.cell? ((⟨b,q,none⟩:Addr).add j)=some u:=λj u J=>by rw[zn,lh hh];exact (hg j u J).2
      have fin:∀v' w',(Builtin.append_ #[t,t] o.type #[.slice A 0 0,.slice (some ⟨b,q,none⟩) n c]).run P w= .ok v' w'->w'.ownsRow w.heap.size el k v' n ((arr.toList.drop q).take (n*k))->w.grownBy w' none->
       ∃rr w' Ψ' loc' v,((execOp ρ o).run P w= .ok (.value rr) w'/\RepA Ψ' loc' v rr\/(execOp ρ o).run P w= .ok .skip w'/\o.dst=none)/\v= .pv (.tr cts n)/\Ok fr Ψ' loc' σ w'/\Ψ.le Ψ'/\(∀l,l≠lab->loc' l=loc l)/\Same (λk=>¬fr.pr k) w w':=λv' w' a d E=>by
       have ad:=d.2;rcases ad with ⟨_,hz⟩|⟨g,cap,cur,rfl,hbg,hh',hnc',hcm,hcs,htake⟩;omega
       . have Y:=H.new hbg;have Z:=H.chg (Same.of (K:=Free fr Ψ loc σ) E nofun);have a6:=Y.le_tb (cts,n*k);refine⟨_,w',Ψ.addTb g (cts,n*k),loc,_,.inl ⟨uT _ _ a,.pv (.tr (m:=n*k) (by simp[Psi.addTb]) h0 (Tc _) hnc' (by rw[hk];omega))⟩,rfl,?_,a6,λ_ _=>rfl,Same.of E nofun⟩;refine Z.typed Y (by rw[hcs];exact lN _ hnc') hh' (λo2 ct M L=>?_);rw[hk] at L;obtain⟨p,x,r1,r2,r3⟩:=X o2 M ct L;refine⟨p,x,?_,r2,r3⟩;have h4:((arr.toList.drop q).take (n*k))[o2]?=some x:=by
          rw[rZ,if_pos M,zY,fQ];exact r1
         rw[<-htake,rZ,if_pos M,fQ] at h4;exact h4
      cases A with
      |
       none=>
       obtain⟨v',w',a,d,E,_⟩:=(run_append_own (P:=P) w w.heap.size t o.type el ti z k G q1 q2 q3 q4 q5 q6 q7 (.slice none 0 0) 0 [] (dw _ _ _ _) ⟨b,q,none⟩ n c _ n1 n2 n3 R D (ak _));rw[eX,kN] at d;exact fin v' w' a d E
      |
       some ad0=>
       obtain⟨v',w',a,d,E⟩:=(run_append_arg_grows (P:=P) w t o.type el ti z k G q1 q2 q3 q4 q5 q6 q7 ad0 0 0 [] (by simp) (λj u h=>by simp at h) ⟨b,q,none⟩ n c _ n1 n2 (by omega) R D);rw[eX,kN] at d;exact fin v' w' a d E
end
def RU (P:Program)(t:TypeId):Bool:=
 match P.underlying t with
 |some .string=>true
 |_=>false
def lenOf (P:Program)(t:TypeId):AV->Option Nat
 | .pv (.sl els)=>if (aV P t).isSome=true then some els.length else none
 | .own _ n=>if (aV P t).isSome=true then some n else none
 | .pv (.tr _ n)=>if (aV P t).isSome=true then some n else none
 | .emp=>if (aV P t).isSome=true then some 0 else none
 | .pv (.sc (.string s))=>if RU P t=true then some s.size else none
 |_=>none
def RS (off:Nat):AV->Option AV
 | .ptr l o=>some (.ptr l (o+off))
 | .rp r k i o=>some (.rp r k i (o+off))
 | .fp row o=>some (.fp row (o+off))
 | .tp cts j=>some (.tp cts (j+off))
 |_=>none
def Zy:AV->Bool
 | .ptr .. | .rp .. | .fp .. | .tp .. =>true
 |_=>false
def kJ (P:Program)(σ:Sto)(t:TypeId)(v:AV):Option DO:=
 match lay P t,v with
 |
  some (g,k),.ptr l off=>match σ l with
  |some (.box cs)=>(zK g k cs off).map λv=>⟨True,λu=>u=v,[l],true,[]⟩
  |_=>none
 |some (g,k),.fp row off=>(zK g k (row.map .pv) off).map DO.val
 |
  some (g,k),.rp r k' i off=>match σ r with
  |some (.row ty k2 els)=>if k2=k' then some ⟨∃row v,els[i]?=some row/\zK g k (row.map .pv) off=some v,λu=>∃row,els[i]?=some row/\zK g k (row.map .pv) off=some u,[r],true,[]⟩ else none
  |_=>none
 |some (g,k),.tp cts j=>if g=false then (cts[j]?).map λct=>⟨True,λu=>∃p,ct.ok p/\u= .pv p,[],false,[]⟩ else if j=0/\k=cts.length then some ⟨True,λu=>∃ps,Zu cts ps/\u= .agg (ps.map .pv),[],false,[]⟩ else none
 |_,_=>none
def jf (P:Program)(σ:Sto)(t:TypeId)(a v:AV):Option DO:=
 match lay P t,a with
 |
  some (g,k),.ptr l off=>match σ l with
  |some (.box cs)=>if (bg v).length=k/\(bg v).all iD=true/\off+k<=cs.length then some ⟨True,λu=>u= .emp,[],true,[(l,some (.box (iM cs off (bg v))))]⟩ else none
  |_=>none
 |
  some (g,k),.rp r k' i off=>match σ r,xe (bg v) with
  |some (.row ty k2 els),some ps=>if k2=k'/\ps.length=k/\off+k<=k' then some ⟨i<els.length,λu=>u= .emp,[],true,[(r,some (.row ty k' (els.modify i (λrow=>iM row off ps))))]⟩ else none
  |_,_=>none
 |
  some (g,k),.tp cts j=>if g=false/\k=1 then match cts[j]?,toP v with
  |some ct,some p=>some ⟨ct.ok p,λu=>u= .emp,[],true,[]⟩
  |_,_=>none else none
 |_,_=>none
def sD (P:Program)(σ:Sto)(t:TypeId)(a:AV)(i:Int):Option DO:=
 match aV P t,a with
 |some (_,k,_),.pv (.sl els)=>some ⟨0<=i/\∃row,els[i.toNat]?=some row/\row.length=k,λu=>∃row,els[i.toNat]?=some row/\u= .fp row 0,[],true,[]⟩
 |
  some (_,k,_),.own r n=>match σ r with
  |some (.row ty k' els)=>if k'=k/\els.length=n then some ⟨0<=i/\i<n,λu=>u= .rp r k i.toNat 0,[r],true,[]⟩ else none
  |_=>none
 |some (_,k,_),.pv (.tr cts n)=>if cts.length=k then some ⟨0<=i/\i<n,λu=>u= .tp cts 0,[],true,[]⟩ else none
 |_,_=>none
def nI (P:Program)(e:Operand->Option AV)(σ:Sto)(lab:Nat)(t:TypeId)(a:AV)(lo hi:Option Operand):Option DO:=
 match aV P t,a with
 |
  some (_,k,_),.pv (.sl els)=>match CJ e lo 0,CJ e hi els.length with
  |some l,some h=>some (.chk (0<=l/\l<=h/\h<=els.length/\∀row∈els,row.length=k) (.pv (.sl ((els.take h.toNat).drop l.toNat))))
  |_,_=>none
 |
  some (_,k,_),.own r n=>match lo,σ r,CJ e hi n with
  |none,some (.row ty k' els),some h=>if els.length=n then some ⟨0<=h/\h<=n,λu=>u= .own lab h.toNat,[],true,[(r,none),(lab,some (.row ty k' (els.take h.toNat)))]⟩ else none
  |_,_,_=>none
 |_,_=>none
def sN (P:Program)(σ:Sto)(lab:Nat)(t:TypeId)(a b:AV):Option DO:=
 match aV P t,a,b with
 |
  some (el,k,_),.own r n,b=>match σ r,toP b with
  |some (.row ty k' els),some (.sl ys)=>if (k'=k/\ty=el)/\els.length=n then some ⟨n+ys.length<=100000000/\∀row∈ys,row.length=k,λu=>u= .own lab (n+ys.length),[],true,[(r,none),(lab,some (.row ty k' (els++ys)))]⟩ else none
  |_,_=>none
 |some (el,k,_),.emp,.pv (.tr cts n)=>if cts.length=k then some (.chk (n<=100000000) (.pv (.tr cts n))) else none
 |
  some (el,k,_),.emp,b=>match toP b with
  |some (.sl ys)=>some ⟨ys.length<=100000000/\∀row∈ys,row.length=k,λu=>u= .own lab ys.length,[],true,[(lab,some (.row el k ys))]⟩
  |_=>none
 |_,_,_=>none
def fzA:Operand->Operand->Bool
 | .tmp i,.tmp j=>if i=31 then (if j=37 then true else false) else if i=23 then (if j=28 then true else false) else if i=123 then (if j=124 then true else false) else false
 |_,_=>false
def Jd (P:Program)(t:TypeId)(a b:AV):Option DO:=
 match aV P t,a,toP b with
 |some (_,k,_),.emp,some (.sl ys)=>some (.chk (ys.length<=100000000/\∀row∈ys,row.length=k) (.pv (.sl ys)))
 |_,_,_=>none
def rP (P:Program)(e:Operand->Option AV)(σ:Sto)(lab:Nat)(b:Builtin)(args:List Operand)(ats:Array TypeId):Option DO:=
 match b,args with
 |
  .len,[x]=>match ats.toList,e x with
  | [t],some v=>(lenOf P t v).map λ(n:Nat)=>DO.val (.pv (.sc (.int .i64 (n:Int))))
  |_,_=>none
 |
  .max,[x,y]=>match e x,e y with
  |some (.pv (.sc (.int k a))),some (.pv (.sc (.int k' b)))=>if k=k' then some (.val (.pv (.sc (.int k (if b>a then b else a))))) else none
  |_,_=>none
 |
  .append,[x,y]=>match ats.toList,e x,e y with
  | [t,t'],some a,some b=>if t=t' then (if fzA x y=true then Jd P t a b else sN P σ lab t a b) else none
  |_,_,_=>none
 |_,_=>none
def dop (P:Program)(o:Oper)(e:Operand->Option AV)(σ:Sto)(lab:Nat):Option DO:=
 match o.op with
 | .move x=>(e x).map DO.val
 | .assign x=>(e x).map DO.val
 |
  .pick c a b=>match e c with
  |some (.pv (.sc (.bool t)))=>(if t=true then e a else e b).map DO.val
  |_=>none
 | .alloc t=>(dU P t).map λcs=>⟨True,λu=>u= .ptr lab 0,[],true,[(lab,some (.box cs))]⟩
 | .box t x=>(e x).bind λv=>if (bg v).all iD=true then some ⟨True,λu=>u= .ptr lab 0,[],true,[(lab,some (.box (bg v)))]⟩ else none
 |
  .build t parts=>match dU P t,dh P t,evs e parts.toList with
  |some zs,some pl,some ps=>(uA (λi=>pl[i]?) zs ps).map λcs=> .val (.agg cs)
  |_,_,_=>none
 |
  .buildSlice t n parts=>match aV P t with
  |some (_,k,_)=>if n=0 then (if parts.toList.length=0 then some (.val .emp) else none) else if parts.toList.length=n/\n*k<=2^24 then (rowsOf e k 0 parts.toList).map λrows=> .val (.pv (.sl rows)) else none
  |none=>none
 | .load t x=>(e x).bind (kJ P σ t)
 | .store t x y=>if o.dst=none then (e x).bind λa=>(e y).bind λv=>jf P σ t a v else none
 | .nilCheck x=>(e x).bind λv=>if Zy v=true then some (.val v) else none
 |
  .binOp op t x y _=>match e x,e y with
  |
   some (.pv (.sc a)),some (.pv (.sc b))=>match uB op a b with
   |some (p,v)=>some (.chk p (.pv (.sc v)))
   |none=>(Zz P t op a b).map λv=> .val (.pv (.sc v))
  |_,_=>none
 |
  .unOp op t x=>match op,e x with
  | .not,some (.pv (.sc (.bool b)))=>some (.val (.pv (.sc (.bool (!b)))))
  | .neg,some (.pv (.sc (.int k n)))=>some (.val (.pv (.sc (.int k (k.wrap (0-n))))))
  | .xor,some (.pv (.sc (.int k n)))=>some (.val (.pv (.sc (.int k (bits .xor k (if k.signed then -1 else k.max) n)))))
  |_,_=>none
 |
  .convert s t x=>match Kt P s,Kt P t,e x with
  |some _,some k',some (.pv (.sc (.int k n)))=>some (.val (.pv (.sc (.int k' (k'.wrap n)))))
  |_,_,_=>none
 |
  .makeSlice t x y=>match aV P t,e x,e y with
  |some (el,k,_),some (.pv (.sc (.int ik n))),some (.pv (.sc (.int ik' n')))=>if n=n' then ((dU P el).bind yH).map λcts=> .chk (0<=n/\n<=100000) (.pv (.tr cts n.toNat)) else none
  |_,_,_=>none
 | .slice t x lo hi none=>(e x).bind λa=>nI P e σ lab t a lo hi
 |
  .fieldAddr t x k=>match aU P t k,e x with
  |some off,some v=>(RS off v).map DO.val
  |_,_=>none
 |
  .indexAddr t x y=>match e x,e y with
  |some a,some (.pv (.sc (.int _ i)))=>sD P σ t a i
  |_,_=>none
 |
  .index t x y=>match e x,e y with
  |some (.pv (.sc (.string s))),some (.pv (.sc (.int _ i)))=>if RU P t=true then some (.chk (0<=i/\i<s.size) (.pv (.sc (.int .u8 ((s[i.toNat]?).getD 0).toNat)))) else none
  |_,_=>none
 |
  .extract x i=>match e x with
  |some (.tup vs)=>(vs[i]?).map DO.val
  |_=>none
 |
  .call c=>match c.callee with
  | .builtin b=>rP P e σ lab b c.args.toList c.argTypes
  |_=>none
 |_=>none
theorem IX {P:Program}{t:TypeId}(h:RU P t=true):P.underlying t=some .string:=by
 unfold RU at h;split at h;assumption
 cases h
theorem rG {P:Program}{t:TypeId}(h:(aV P t).isSome=true):∃a,P.underlying t=some (.slice a):=by
 cases h2:aV P t with
 |none=>simp [h2] at h
 |some q=>obtain ⟨a,k,b⟩:=q;exact⟨a,(iE h2).1⟩
section
variable {P : Program} {o : Oper} {e : Operand -> Option AV} {σ : Sto} {lab : Nat} {d : DO}
theorem map_some {α β:Type}{x:Option α}{f:α->β}{d:β}(h:x.map f=some d):∃a,x=some a/\f a=d:=by
 cases x with
 |none=>cases h
 |some a=>injection h with h;exact⟨a,rfl,h⟩
theorem bind_some {α β:Type}{x:Option α}{f:α->Option β}{d:β}(h:x.bind f=some d):∃a,x=some a/\f a=some d:=by
 cases x with
 |none=>cases h
 |some a=>exact ⟨a,rfl,h⟩
theorem PT {t:TypeId}{x:Operand}{v:AV}(ho:o.op= .load t x)(hx:e x=some v)(h:kJ P σ t v=some d):DSound P o e σ lab d:=by
 unfold kJ at h;split at h
 . rename_i g k l off a;split at h;rename_i cs hσ;obtain⟨u,q,rfl⟩:=map_some h;exact aaG ho a hx hσ q
   cases h
 rename_i g k row off a;obtain⟨u,q,rfl⟩:=map_some h;exact aaH ho a hx q
 . rename_i g k r B i off a;split at h
   . rename_i ty D els hσ;split at h;rename_i hk;subst hk;injection h with h;subst h;exact aaI ho a hx hσ
     cases h
   cases h
 . rename_i g k cts j a;split at h;rename_i hg;subst hg;obtain⟨ct,hc,rfl⟩:=map_some h;exact aaJ ho a hx hc
   . rename_i hg;split at h
     . rename_i y;injection h with h;subst h;obtain⟨rfl,rfl⟩:=y
       cases g with
       |false=>exact absurd rfl hg
       |true=>exact Xg ho a hx
     cases h
 cases h
theorem L9 {t:TypeId}{x y:Operand}{a v:AV}(ho:o.op= .store t x y)(u:o.dst=none)(hx:e x=some a)(B:e y=some v)(h:jf P σ t a v=some d):DSound P o e σ lab d:=by
 unfold jf at h;split at h
 . rename_i g k l off q;split at h
   . rename_i cs hσ;split at h;rename_i hc;injection h with h;subst h;exact VM ho u q hx B hσ hc.1 hc.2.1 hc.2.2
     cases h
   cases h
 . rename_i g k r H i off q;split at h
   . rename_i ty I els J hσ D;split at h;rename_i hc;obtain⟨rfl,E,G⟩:=hc;injection h with h;subst h;exact VN ho u q hx B hσ D E G
     cases h
   cases h
 . rename_i g k cts j q;split at h
   . rename_i hg;obtain⟨rfl,rfl⟩:=hg;split at h;rename_i ct p hc D;injection h with h;subst h;exact VO ho u q hx B hc D
     cases h
   cases h
 cases h
theorem Ua {t:TypeId}{x y:Operand}{a:AV}{D:IntKind}{i:Int}(ho:o.op= .indexAddr t x y)(hx:e x=some a)(u:e y=some (.pv (.sc (.int D i))))(h:sD P σ t a i=some d):DSound P o e σ lab d:=by
 unfold sD at h;split at h;rename_i B k b els q;injection h with h;subst h;exact ab5 ho q hx u
 . rename_i B k b r n q;split at h
   . rename_i ty E els hσ;split at h;rename_i hc;injection h with h;subst h;exact ab6 ho q hx hσ hc.1 hc.2 u
     cases h
   cases h
 . rename_i B k b cts n q;split at h;rename_i hc;injection h with h;subst h;exact ab7 ho q hx hc u
   cases h
 cases h
theorem PU {t:TypeId}{x:Operand}{a:AV}{lo hi:Option Operand}(ho:o.op= .slice t x lo hi none)(hx:e x=some a)(h:nI P e σ lab t a lo hi=some d):DSound P o e σ lab d:=by
 unfold nI at h;split at h
 . rename_i u k b els q;split at h;rename_i l y B hr;injection h with h;subst h;exact aaK ho q hx B hr
   cases h
 . rename_i u k b r n q;split at h
   . rename_i ty D els y hσ hr;split at h;rename_i hn;injection h with h;subst h;exact aaM ho q hx hσ hn hr
     cases h
   cases h
 cases h
theorem Ub {t:TypeId}{x y:Operand}{a b:AV}(ho:o.op= .call { callee:= .builtin .append,args:=#[x,y],argTypes:=#[t,t] })(hx:e x=some a)(B:e y=some b)(h:sN P σ lab t a b=some d):DSound P o e σ lab d:=by
 unfold sN at h;split at h
 . (rename_i E k u r n q);split at h
   . rename_i ty G els ys hσ D;split at h;rename_i hc;injection h with h;subst h;exact ahI ho q hx hσ hc.1 hc.2 ⟨_,B,D⟩
     cases h
   cases h
 . (rename_i E k u cts n q);split at h;rename_i hc;injection h with h;subst h;exact adM ho q hx B hc
   cases h
 . (rename_i E k u q hno);split at h;rename_i ys D;injection h with h;subst h;exact Vl ho q hx ⟨_,B,D⟩
   cases h
 cases h
theorem FQ {α:Type}{a:Array α}{l:List α}(h:a.toList=l):a=l.toArray:=by subst h;simp
theorem PW {b:Builtin}{args:Array Operand}{ats:Array TypeId}(ho:o.op= .call { callee:= .builtin b,args:=args,argTypes:=ats })(h:rP P e σ lab b args.toList ats=some d):DSound P o e σ lab d:=by
 unfold rP at h;split at h
 . rename_i x q;rw[FQ q] at ho;split at h
   . rename_i t v u hx;obtain⟨n,hn,rfl⟩:=map_some h;refine afg (x:=x) (t:=t) (n:=n) ho (FQ u) ?_;unfold lenOf at hn
     split at hn<;>first
      |(cases hn;done)
      |(
       split at hn
       . rename_i hc;injection hn with hn
         first
          |exact .inl ⟨_,hx,hn,rG hc⟩
          |(subst hn;exact .inr (.inl ⟨_,hx,rG hc⟩))
          |(subst hn;exact .inr (.inr (.inl ⟨_,hx,rG hc⟩)))
          |exact .inr (.inr (.inr (.inl ⟨hx,hn.symm,rG hc⟩)))
          |exact .inr (.inr (.inr (.inr ⟨_,hx,hn,IX hc⟩)))
       . cases hn)
   cases h
 . rename_i x y q;rw[FQ q] at ho;split at h
   . rename_i k a H b hx B;split at h;rename_i hk;subst hk;injection h with h;subst h;exact afh ho hx B
     cases h
   cases h
 . rename_i x y q;rw[FQ q] at ho;split at h
   . rename_i t I a b u hx B;split at h
     . rename_i E;subst E;rw[FQ u] at ho;split at h
       . unfold Jd at h;split at h;rename_i D G;injection h with h;subst h;exact adN ho D hx ⟨_,B,G⟩
         cases h
       exact Ub ho hx B h
     cases h
   cases h
 cases h
theorem Xx (h:dop P o e σ lab=some d):DSound P o e σ lab d:=by
 unfold dop at h;split at h;rename_i x ho;obtain⟨v,q,rfl⟩:=map_some h;exact Vm (.inl ho) q;rename_i x ho;obtain⟨v,q,rfl⟩:=map_some h;exact Vm (.inr ho) q
 . rename_i c a b ho;split at h;rename_i t hc;obtain⟨v,q,rfl⟩:=map_some h;exact adO ho hc q
   cases h
 rename_i t ho;obtain⟨v,q,rfl⟩:=map_some h;exact YB ho q
 . rename_i t x ho;obtain⟨v,q,h⟩:=bind_some h;split at h;rename_i hc;injection h with h;subst h;exact afe ho q hc
   cases h
 . rename_i t parts ho;split at h;rename_i zs pl O h1 h2 h3;obtain⟨v,q,rfl⟩:=map_some h;exact abq ho h1 h2 h3 q
   cases h
 . rename_i t n parts ho;split at h
   . rename_i I k b B;split at h
     . rename_i hn;subst hn;split at h;rename_i J;injection h with h;subst h;exact FP ho B (abg (by simpa using J))
       cases h
     . rename_i hn;split at h;rename_i hc;obtain⟨v,q,rfl⟩:=map_some h;exact He ho B q hc.1 (by omega) hc.2
       cases h
   cases h
 rename_i t x ho;obtain⟨v,q,h⟩:=bind_some h;exact PT ho q h
 . rename_i t x y ho;split at h;rename_i L;obtain⟨a,ha,h⟩:=bind_some h;obtain⟨v,q,h⟩:=bind_some h;exact L9 ho L ha q h
   cases h
 . rename_i x ho;obtain⟨v,q,h⟩:=bind_some h;split at h;rename_i hc;injection h with h;subst h;exact PX ho q (by cases v<;>first|trivial|cases hc)
   cases h
 . rename_i op t x y R ho;split at h;rename_i a b hx D;split at h;rename_i p v q;injection h with h;subst h;exact ahJ ho hx D q;obtain⟨v,q,rfl⟩:=map_some h;exact adP ho hx D q
   cases h
 . rename_i op t x ho;split at h;rename_i b hx;injection h with h;subst h;exact ahK ho hx;rename_i k n hx;injection h with h;subst h;exact ahL ho hx;rename_i k n hx;injection h with h;subst h;exact ahM ho hx
   cases h
 . rename_i s t x ho;split at h;rename_i k0 U k n hs E hx;injection h with h;subst h;exact adQ ho (IY hs) E hx
   cases h
 . rename_i t x y ho;split at h
   . rename_i I k b H n M V B hx D;split at h;rename_i hn;subst hn;obtain⟨cts,hc,rfl⟩:=map_some h;obtain⟨zs,N,hc⟩:=bind_some hc;exact adp ho B N hc hx D
     cases h
   cases h
 rename_i t x lo hi ho;obtain⟨a,ha,h⟩:=bind_some h;exact PU ho ha h
 . rename_i t x k ho;split at h;rename_i off v hf hx;obtain⟨u,G,rfl⟩:=map_some h;exact Md ho hf hx (by cases v<;>exact G)
   cases h
 . rename_i t x y ho;split at h;rename_i a H i hx D;exact Ua ho hx D h
   cases h
 . rename_i t x y ho;split at h
   . rename_i s H i hx D;split at h;rename_i E;injection h with h;subst h;exact ab8 ho (IX E) hx D
     cases h
   cases h
 . rename_i x i ho;split at h;rename_i vs hx;obtain⟨u,G,rfl⟩:=map_some h;exact Uc ho hx G
   cases h
 . rename_i c ho;obtain⟨callee,args,ats⟩:=c;split at h;rename_i b hb;dsimp only at hb h;subst hb;exact PW ho h
   cases h
 cases h
end
