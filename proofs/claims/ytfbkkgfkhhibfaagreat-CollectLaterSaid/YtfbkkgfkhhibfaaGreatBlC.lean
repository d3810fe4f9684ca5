/- Words. -/
import Derived.Test.YtfbkkgfkhhibfaaGreatBlP
set_option linter.unusedVariables false
set_option linter.unusedSimpArgs false
set_option maxRecDepth 100000
set_option maxHeartbeats 8000000
namespace Iv
open Go Go.RowKit
variable {F : Fence} {N : Nat} {P : Program}
theorem JB (w:World){ops:Array Oper}{rest:List Oper}{o:Oper}{a:Act}{Q:Exit->Act->World->Prop}(hg:o.guard=none)(s x:Operand)(t:TypeId)
 (y:o.op=Op.call { callee:=Callee.builtin Builtin.append,args:=#[s,x],argTypes:=#[t,t] })
 (base:Nat) (e:TypeId) (i:TypeInfo) (z:Value) (size bytes:Nat) (V:P.underlying t=some (.slice e)) (hi:P.info? e=some i) (X:i.zero=some z)
 (A:i.size=size) (G:i.bytes=bytes) (H:z.cells.size=size) (I:0<size)
 (v:Value) (ow:Option Nat) (n:Nat) (xs:List Value) (hs:a.eval s=v) (h:App w base e size v ow n xs)
 (J:Addr) (m c:Nat) (news:List Value) (hx:a.eval x= .slice (some J) m c) (hm:0<m) (hn:news.length=m*size) (hc:∀j u,news[j]?=some u->w.cell? (J.add j)=some u) (h1:∀u∈news,u.oneCell'=true)
 (L:n+m<=maxLen) (d:(n+m)* bytes<=140737488355328) (B:base<=w.heap.size)
 (Y:∀v' w',w'.ownsRow base e size v' (n+m) (xs++news)->w.grownBy w' ow->At w ow v'.ownBlock->wpListIn F N P ops Q rest (a.put o.dst v') w'):
 wpListIn F N P ops Q (o::rest) a w:=by refine wpListIn_plain hg λK O=>?_;obtain⟨v',w',E,r1,Z,r3⟩:=TB (P:=P) w base t o.type e i z size bytes V hi X A G H I v ow n xs h J m c news hm hn hc h1 L d B;unfold Oper.wpIn;refine⟨?_,?_⟩;simp[Oper.about,y,resolve,Target.leads,Ee];rw[Oper.semAt_plain F _ _ (by rw[y];intro c U;cases U)];simp[execOp,y,resolve,invoke,builtin,hs,hx,E,Result.andThen];exact O _ _ (Y v' w' r1 Z r3)
end Iv
namespace Go.Proofs.YtfbkkgfkhhibfaaGreat
open Go Go.RowKit Go.Shelf Iv
attribute [local go_sem] Oper.semAt_some
theorem Yu (v u:Value)(w:World)(a:v.oneCell'=true)(d:u.oneCell'=true):Calls Tryz.prog 52 #[v,u] w λe w'=>e= .returned (.func (.func 85) #[] #[.pointer (some ⟨w.heap.size,0,none⟩),.pointer (some ⟨w.heap.size+1,0,none⟩)])/\w'=(w.alloc (.cells #[v] 22)).alloc (.cells #[u] 3):=by go_enter Tryz.func52,Tryz.ntmps52;go_wp2;go_ret;exact⟨rfl,rfl⟩
theorem Yv {w:World}{base a e sz n:Nat}{v:Value}{xs:List Value}(h:w.ownsRow base e sz v n xs)(hb:a<=base):w.ownsRow a e sz v n xs:=
 ⟨h.1,h.2.imp id λ⟨g,cap,cur,e1,d,r⟩=>⟨g,cap,cur,e1,aP hb d,r⟩⟩
theorem BlksAt.lower {w:World}{lo a:Nat}{o:Option Nat}{css:List Value}{xs:List Blk}(h:BlksAt w lo o css xs)(d:a<=lo):BlksAt w a o css xs:=
 ⟨h.1,λk x hx=>by
  obtain⟨A,n,c,u,y,B⟩:=h.2 k x hx
  exact⟨A,n,c,u,y.lower d,B⟩⟩
structure BlJ (w:World)(lb sb D:Nat)(R:Loop)(pre:List (Blk×Nat))(v:Value)(css:List Value)(W:World):Prop where
 l:Held W lb 45 #[v]
 s:Held W sb 3 #[.int .i64 (sizeB pre:Int)]
 d:W.heap[D]?=some (.deferred (some []))
 r:W.heap[D+1]?=some (.loop R)
 own:W.ownsRow (D+2) 50 3 v pre.length css
 blks:BlksAt W (D+2) v.ownBlock css (pre.map (·.1))
 grown:w.grownBy W none
 o0:w.heap.size<=lb
 o1:lb<sb
 o2:sb<D
variable {w : World} {lb sb D : Nat} {R : Loop} {pre : List (Blk × Nat)} {v : Value} {css : List Value} {W W' : World}
theorem BlJ.keep (h:BlJ w lb sb D R pre v css W){row:Option Nat}(hg:W.grownBy W' row)(hr:∀g,row=some g->sb<g/\g<D):BlJ w lb sb D R pre v css W':=
 ⟨
  h.l.grown hg (λe=>by have:=hr _ e.symm;have:=h.o1;omega),h.s.grown hg (λe=>by have:=hr _ e.symm;omega),
  (hg.block _ (iU.1 h.d).1 (λe=>by have:=hr _ e.symm;omega)).trans h.d,
  (hg.block _ (iU.1 h.r).1 (λe=>by have:=hr _ e.symm;omega)).trans h.r,
  ay h.own hg (λg e1 a=>by have:=hr _ a;have:=(h.own.lt g e1).1;omega),
  h.blks.keep hg (λg e=>by have:=hr _ e;omega),
  af h.grown hg (by
   cases row with
   |none=>exact .inl rfl
   |some g=>exact .inr ⟨g,rfl,by have:=hr _ rfl;have:=h.o0;have:=h.o1;omega⟩),h.o0,h.o1,h.o2⟩
theorem BlJ.round (h:BlJ w lb sb D R pre v css W){R2:Loop}{x:Blk}{k:Nat}{A:Option Addr}{n c:Nat}{U y:World}{v':Value}{ob:Obj}
 (Y:RecsOff W (D+2) v.ownBlock A n x.recs) (hnc:n<=c) (a7:c<=maxLen) (ho:A=none->c=0)
 (h3:U=((W.alloc ob).putObj (D+1) (.loop R2)).alloc (.cells (sU x A n c) 50))
 (G:y.ownsRow (D+2) 50 3 v' (pre.length+1) (css++(sU x A n c).toList)) (u:U.grownBy y v.ownBlock) (a8:At U v.ownBlock v'.ownBlock):
 BlJ w lb sb D R (pre++[(x,k)]) v' (css++(sU x A n c).toList) (((y.setCell ⟨lb,0,none⟩ v').setCell ⟨sb,0,none⟩ (.int .i64 (sizeB (pre++[(x,k)]):Int))).putObj (D+1) (.loop R))/\
 ∀g,g<D+1->g≠lb->g≠sb->(((y.setCell ⟨lb,0,none⟩ v').setCell ⟨sb,0,none⟩ (.int .i64 (sizeB (pre++[(x,k)]):Int))).putObj (D+1) (.loop R)).heap[g]?=W.heap[g]?:=by
 have aa:D+1<W.heap.size:=(iU.1 h.r).1;have o0:=h.o0;have o1:=h.o1;have o2:=h.o2;have g1:W.grownBy (W.alloc ob) none:=aY W _ none;have g2:=grownBy_putObj' (W.alloc ob) (D+1) (.loop R2);have g3:((W.alloc ob).putObj (D+1) (.loop R2)).grownBy U none:=(by rw[h3];exact aY _ _ none);have a:W.grownBy U (some (D+1)):=af (af (fA g1 _) g2 (.inl rfl)) (fA g3 _) (.inl rfl);have H:∀g,v.ownBlock=some g->D+2<=g:=λg e=>(h.own.lt g e).1;have J:∀g,v'.ownBlock=some g->D+2<=g/\g<y.heap.size:=λg e=>G.lt g e;have E:∀g,g<D+2->some g≠v.ownBlock:=(λg hg e=>by have:=H g e.symm;omega);have B:∀g,g<D+2->some g≠v'.ownBlock:=(λg hg e=>by have:=J g e.symm;omega);obtain⟨L,h5⟩:∃L,L=y.setCell ⟨lb,0,none⟩ v':=⟨_,rfl⟩;obtain⟨I,h6⟩:∃I,I=L.setCell ⟨sb,0,none⟩ (.int .i64 (sizeB (pre++[(x,k)]):Int)):=⟨_,rfl⟩;obtain⟨W7,h7⟩:∃W7,W7=I.putObj (D+1) (.loop R):=⟨_,rfl⟩;have O:y.grownBy L (some lb):=(by rw[h5];exact ah y lb 0 _);have V:L.grownBy I (some sb):=(by rw[h6];exact ah L sb 0 _);have X:I.grownBy W7 (some (D+1)):=(by rw[h7];exact grownBy_putObj' I _ _);have s4:W.heap.size<=y.heap.size:=aP a.size u.size;have s6:W.heap.size<=I.heap.size:=aP (aP s4 O.size) V.size
 have keep:∀g,g<W.heap.size->g≠lb->g≠sb->g≠D+1->some g≠v.ownBlock->W7.heap[g]?=W.heap[g]?:=λg a1 a2 a3 a4 a5=>
  (X.block g (by omega) (λe=>a4 (by cases e;rfl))).trans ((V.block g (lJ a1 (aP s4 O.size)) (λe=>a3 (by cases e;rfl))).trans ((O.block g (by omega) (λe=>a2 (by cases e;rfl))).trans ((u.block g (lJ a1 a.size) a5).trans (a.block g a1 (λe=>a4 (by cases e;rfl))))))
 rw[<-h5,<-h6,<-h7];refine⟨⟨?_,?_,(keep D (by omega) (by omega) (by omega) (by omega) (E D (by omega))).trans h.d,?_,?_,?_,?_,o0,o1,o2⟩,λg a1 a2 a3=>keep g (by omega) a2 a3 (by omega) (E g (by omega))⟩;have a4:Held y lb 45 #[v]:=(h.l.grown a (λe=>by cases e;omega)).grown u (E lb (by omega));have a5:Held L lb 45 #[v']:=(by rw[h5];exact a4.store 0 v');exact (a5.grown V (λe=>by cases e;omega)).grown X (λe=>by cases e;omega);have a4:Held y sb 3 #[.int .i64 (sizeB pre:Int)]:=(h.s.grown a (λe=>by cases e;omega)).grown u (E sb (by omega));have a6:Held I sb 3 #[.int .i64 (sizeB (pre++[(x,k)]):Int)]:=(by rw[h6];exact (a4.grown O (λe=>by cases e;omega)).store 0 _);exact a6.grown X (λe=>by cases e;omega);rw[h7];exact World.putObj_heap_same (by omega)
 . rw[bG];refine ay (ay (ay G O (λg e1 Z=>?_)) V (λg e1 Z=>?_)) X (λg e1 Z=>?_)
   cases Z;exact B lb (by omega) e1.symm
   cases Z;exact B sb (by omega) e1.symm
   cases Z;exact B (D+1) (by omega) e1.symm
 rw[eU];have b3:BlksAt U (D+2) v.ownBlock css (pre.map (·.1)):=h.blks.keep a (λg e=>by cases e;omega);have b4:=(b3.snoc (x:=x) (Y.keep a (λg e=>by cases e;omega)) hnc a7 ho).grow u a8;exact ((b4.keep O (λg e=>by cases e;omega)).keep V (λg e=>by cases e;omega)).keep X (λg e=>by cases e;omega);have q3:=af h.grown a (.inr ⟨_,rfl,by omega⟩);have q4:w.grownBy y none:=JC q3 u (λg e=>by have:=H g e;omega);exact af (af (af q4 O (.inr ⟨_,rfl,o0⟩)) V (.inr ⟨_,rfl,by omega⟩)) X (.inr ⟨_,rfl,by omega⟩)
section
variable {F : Fence} {N : Nat} {P : Program}
theorem uP {g:Operand}{H:Array Tmp}{assign body:Code}{Q:Exit->Act->World->Prop}{a:Act}{w:World}(J:F.round=none)(h1:1<=N){gf:Nat}{lb:Array Value}
 (hg:a.eval g= .func (.func gf) #[] lb) (L:F.fn gf) (V:∀args w,(callFunc gf args).run P w= .ok (.enter gf args) w) (I:World->Prop)
 (u:∀(fn:FuncId),F.fn fn->∀(rec:LoopState->Option Code->Loop),(∀st A,rec st A= { state:=st,pending:=A,fn:=fn,tmps:=a.tmps,params:=H,assign:=assign,body:=body,defers:=w.heap.size })->
  CallsIn F (N-1) P gf (#[.func (.yield (w.heap.size+1)) #[] #[]]++lb) ((w.alloc (.deferred (some []))).alloc (.loop (rec .ready none))) λe W=>(∃v,e= .returned v)/\W.heap[w.heap.size+1]?=some (.loop (rec .ready none))/\I W)
 (y:∀(r X:Loop) (W:World),I W->W.heap[w.heap.size+1]?=some (.loop r)->Q .normal { a with defers:= { target:= .collected w.heap.size,args:=#[] } :: a.defers } (W.putObj (w.heap.size+1) (.loop X))):
 (Code.rangeFunc g H assign body).wpIn F N P Q a w:=by
 refine wpIn_rangeFunc ?_;intro fn O;rw[J];obtain⟨rec,d⟩:∃rec:LoopState->Option Code->Loop,rec=λst A=> { state:=st,pending:=A,fn:=fn,tmps:=a.tmps,params:=H,assign:=assign,body:=body,defers:=w.heap.size } :=⟨_,rfl⟩;obtain⟨B,E⟩:∃B,(w.alloc (.deferred (some []))).alloc (.loop (rec .ready none))=B:=⟨_,rfl⟩
 refine⟨w.heap.size+1,[{ target:= .collected w.heap.size,args:=#[] }],B,{ target:= .fn (.func gf) lb,args:=#[.func (.yield (w.heap.size+1)) #[] #[]] },B,gf,
  #[.func (.yield (w.heap.size+1)) #[] #[]]++lb,B,?_,?_,?_,?_,λ_=>h1,?_⟩
 rw[<-E,d];exact run_enterLoop_outer _ _ _ _ _
 . simp only[resolve,hg];simp[go_sem]
 intro Y G;simp[Target.leads] at G;subst G;exact L
 . simp[invoke,go_sem,V]
 rw[<-E];refine (u fn O rec (λst A=>by rw[d])).mono ?_;rintro e Z ⟨⟨v,rfl⟩,U,hi⟩;exact⟨none,_,by have:=run_endLoop (P:=P) U (by rw[d];simp);rw[d] at this;exact this,y _ _ _ hi U⟩
theorem FX {l m:Nat}{args:Array Value}{W:World}{R:Ending->World->Prop}{fn:FuncId}(y:F.fn fn){tmps:Array Value}{A:Array Tmp}{assign body:Code}{D:Nat}{rec:LoopState->Option Code->Loop}
 (d:∀st E,rec st E= { state:=st,pending:=E,fn:=fn,tmps:=tmps,params:=A,assign:=assign,body:=body,defers:=D }) (H:W.heap[l]?=some (.loop (rec .ready none))) (hs:args.size=A.size)
 (h:assign.wpIn (F.inRound l) m P (Exit.then (λa₁ w₁=>w₁.heap[l]?=some (.loop (rec .ready none))/\body.wpIn (F.inRound l) m P (roundPost P l R) a₁ (w₁.putObj l (.loop (rec .busy none)))) (λ_ _ _=>False)) { tmps:=(A.zip args).foldl (λt (p,v)=>t.setIfInBounds p v) tmps,defers:=[] } W):
 YieldAt F m P l args W R:=by
 have G:=run_yield (P:=P) (args:=args) H (by rw[d];exact hs);rw[d] at G;refine⟨fn,_,assign,body,G,roundIn_of_wpIn y (wpIn_mono h ?_)⟩;intro e a' w' u
 cases e with
 |
  normal=>
  obtain⟨B,hb⟩:=u;refine⟨_,run_beginRound B (by rw[d]),?_⟩;have:({ rec .ready none with state:= .busy } :Loop)=rec .busy none:=(by rw[d,d]);rw[this];exact hb
 |exit id=>exact u
 |goto t=>exact u
 |ret=>exact u
 |panic ch=>exact u
 |outgrown=>exact u
end
theorem Am (A:Option Addr)(n c B:Nat)(xs:Bytes)(th:Int)(w:World)(h:Lies w B 1 A n (xs.map bv))(hB:B<=w.heap.size)(hnc:n<=c)(bh:c<=maxLen)(ho:A=none->c=0)(bj:n<=1000000):
 Calls Tryz.prog 30 #[.slice A n c,.int .i64 th] w (aaS (aN th xs 0 (-1)) w):=by
 have HL:=ae h;have ca:=ae h.lenB;have HO:=ae ho;clear h ho;refine (callsIn_wide (n:=3)).1 ?_;refine callsIn_of_wp_marks Tryz.func30 rfl trivial ?_ rfl;simp only[Tryz.ntmps30,uX,iO,yJ,Nat.reduceAdd,Nat.reduceSub,Yw,Yx,List.push_toArray,Yy,lN,Dy];gi_wp2_with fail;refine⟨trivial,?_⟩;refine (callsIn_wide.2 (Yu _ _ _ rfl rfl)).mono ?_;rintro e w1 ⟨rfl,rfl⟩;gi_wp2_with fail;obtain⟨W0,u⟩:∃W0,W0=((((w.alloc (.cells #[.slice none 0 0] 45)).alloc (.cells #[.int .i64 0] 3)).alloc (.cells #[.slice A n c] 22)).alloc (.cells #[.int .i64 th] 3)):=⟨_,rfl⟩;obtain⟨lb,aa⟩:∃lb,lb=w.heap.size:=⟨_,rfl⟩;obtain⟨sb,ab⟩:∃sb,sb=w.heap.size+1:=⟨_,rfl⟩;obtain⟨gb,ad⟩:∃gb,gb=w.heap.size+1+1:=⟨_,rfl⟩;obtain⟨gt,al⟩:∃gt,gt=w.heap.size+1+1+1:=⟨_,rfl⟩;rw[<-u,<-al,<-ad,<-ab,<-aa];have hD:W0.heap.size=w.heap.size+4:=(by rw[u];simp);have q0:Held W0 lb 45 #[.slice none 0 0]:=(by rw[u,aa];exact ((((Held.new w _ _).alloc _).alloc _).alloc _));have q1:Held W0 sb 3 #[.int .i64 0]:=(by rw[u,ab];have:=(((Held.new (w.alloc (.cells #[.slice none 0 0] 45)) 3 #[.int .i64 0]).alloc (.cells #[.slice A n c] 22)).alloc (.cells #[.int .i64 th] 3));rwa [jO] at this);have q2:Held W0 gb 22 #[.slice A n c]:=(by rw[u,ad];have:=((Held.new ((w.alloc (.cells #[.slice none 0 0] 45)).alloc (.cells #[.int .i64 0] 3)) 22 #[.slice A n c]).alloc (.cells #[.int .i64 th] 3));rwa [jO,jO] at this);have q3:Held W0 gt 3 #[.int .i64 th]:=(by rw[u,al];have:=(Held.new (((w.alloc (.cells #[.slice none 0 0] 45)).alloc (.cells #[.int .i64 0] 3)).alloc (.cells #[.slice A n c] 22)) 3 #[.int .i64 th]);rwa [jO,jO,jO] at this);have O:w.grownBy W0 none:=(by rw[u];exact af (af (af (aY w _ none) (aY _ _ none) (.inl rfl)) (aY _ _ none) (.inl rfl)) (aY _ _ none) (.inl rfl));have o1:lb<sb/\sb<gb/\gb<gt/\gt<W0.heap.size/\w.heap.size<=lb/\B<=lb:=(by omega);have bk:=ae (HL.o.grown O hB nofun);obtain⟨o1,o2,o3,o4,o5,o6⟩:=o1;obtain⟨D,cb⟩:∃D,D=W0.heap.size:=⟨_,rfl⟩;have HQ:=ae (And.intro q0 (And.intro q1 (And.intro q2 (And.intro q3 O))));clear u aa ab ad al hD q0 q1 q2 q3 O
 refine uP rfl (by omega) (gf:=85) (lb:=#[.pointer (some ⟨gb,0,none⟩),.pointer (some ⟨gt,0,none⟩)]) rfl trivial (enters_of Tryz.func85 (by kernel_rfl) rfl)
  (λW=>∃v css R,BlJ w lb sb W0.heap.size R (aN th xs 0 (-1)) v css W) ?call ?done
 case call=>
  intro fn bl rec U;obtain⟨q0,q1,q2,q3,O⟩:=HQ.o;obtain⟨W1,Y⟩:∃W1,(W0.alloc (.deferred (some []))).alloc (.loop (rec .ready none))=W1:=⟨_,rfl⟩;have I:W0.grownBy W1 none:=(by rw[<-Y];exact af (aY W0 _ none) (aY _ _ none) (.inl rfl));have bm:W1.heap[W0.heap.size+1]?=some (.loop (rec .ready none)):=(by rw[<-Y];have:=World.alloc_heap_new (W0.alloc (.deferred (some []))) (.loop (rec .ready none));rwa [jO] at this);have bn:W1.heap[W0.heap.size]?=some (.deferred (some [])):=(by rw[<-Y];exact (yV _ _ _ (by simp)).trans (World.alloc_heap_new W0 _));rw[Y]
  refine (Yz (3-1) (by omega) (W0.heap.size+1) gb gt A n c B xs th W1 (bk.o.grown I (by omega) nofun) (by omega) (by omega) hnc bh HO.o bj (q2.grown I nofun) (q3.grown I nofun)
   (λpre W=>∃v css,BlJ w lb sb W0.heap.size (rec .ready none) pre v css W) ?_ ?_ ?_).mono ?_
  rintro p W W' ⟨v,css,a⟩ hg;exact⟨v,css,a.keep hg (λg e=>by cases e;exact⟨o2,by omega⟩)⟩
  . exact⟨.slice none 0 0,[],q0.grown I nofun,q1.grown I nofun,bn,bm,dU _ _ _ _,BlksAt.nil _ _ _,af O I (.inl rfl),o5,o1,by omega⟩
  . rintro pre x k Wp W A' n' c' ⟨v,css,a⟩ hg hr b0 b1 bo cc cg;have an:=a.keep hg (λg e=>by cases e;exact⟨o2,by omega⟩);have a6:RecsOff W (W0.heap.size+2) v.ownBlock A' n' x.recs:=(hr.off (λg e=>(a.own.lt g e).2)).lower (by have:=(iU.1 a.r).1;omega);refine FX bl U an.r rfl ?_;have b2:=ae an;have vU:=ae U;have bp:=ae a6;clear a hg hr a6 U an;gi_wp2_with fail;have a:=b2.o;have bq:W0.heap.size+1<W.heap.size:=(iU.1 a.r).1;refine⟨(yV _ _ _ bq).trans a.r,?_⟩;obtain⟨y,J⟩:∃y,y=((W.alloc (.cells #[.int .i64 x.thread,.int .i64 x.first,.slice A' n' c'] 50)).putObj (W0.heap.size+1) (.loop (rec .busy none))):=⟨_,rfl⟩;rw[<-J];have s2:y.heap.size=W.heap.size+1:=(by rw[J];simp);have Z:W.grownBy y (some (W0.heap.size+1)):=(by rw[J];exact af (fA (aY W _ none) _) (grownBy_putObj' _ _ _) (.inl rfl));have a7:Held y W.heap.size 50 #[.int .i64 x.thread,.int .i64 x.first,.slice A' n' c']:=(by rw[J];exact (Held.new W _ _).grown (grownBy_putObj' _ _ _) (λe=>by injection e with e;omega));have ao:=a.l.grown Z (λe=>by cases e;omega);have b3:=a.s.grown Z (λe=>by cases e;omega);have V:y.ownsRow (W0.heap.size+2) 50 3 v pre.length css:=ay a.own Z (λg e1 e2=>by injection e2 with e2;have:=(a.own.lt _ e1).1;omega);obtain⟨Av,cv,aq,br,bt,_,ar⟩:=ai a.own;have x0:y.cell? ⟨W.heap.size,0,none⟩=some (.int .i64 x.thread):=a7.cell 0;have x1:y.cell? ⟨W.heap.size,1,none⟩=some (.int .i64 x.first):=a7.cell 1;have x2:y.cell? ⟨W.heap.size,2,none⟩=some (.slice A' n' c'):=a7.cell 2;have y0:y.cell? ⟨lb,0,none⟩=some v:=ao.cell 0;have b4:=ae ao;have b5:=ae b3;have b6:=ae V;have b8:=ae J;have cj:pre.length<=n:=(by omega);have b9:∀g,v.ownBlock=some g->g≠lb/\g≠sb:=(λg e=>by have:=(a.own.lt g e).1;omega);have a8:=ae b9;have cm:lb<y.heap.size:=(by omega);have cn:sb<y.heap.size:=(by omega);have cq:W0.heap.size+2<=y.heap.size:=(by omega);have cr:¬lb=sb:=(by omega);have cw:(sizeB pre:Int)+(k:Int)<=1000000:=(by omega);have cx:IntKind.i64.wrap ((sizeB pre:Int)+(k:Int))=(sizeB pre:Int)+(k:Int):=gQ _ (by omega);obtain⟨j0,hi,ba,bc,bd⟩:=info_parts XC;have HI:=ae hi;have bx:=ae ba;have bB:=ae bc;have bF:=ae bd;have av:=ae s2;clear J a7 ao b3 V ar hi ba bc bd a Z b9 s2;subst aq;gi_wp2_with (gi_at_builtin;refine JB _ rfl (.tmp 15) (.tmp 17) _ rfl (W0.heap.size+2) 50 j0 _ 3 40 Tryz.underlying45 HI.o bx.o bB.o bF.o rfl (by omega) _ (Value.slice Av pre.length cv).ownBlock pre.length css rfl (App.own (b6.o.alloc _)) ⟨y.heap.size,0,none⟩ 1 1 (sU x A' n' c').toList rfl (by omega) rfl (abu y x A' n' c') (XB _ _ _ _) (by unfold maxLen;omega) (by omega) (by simp;omega) ?_;intro v4 w4 E L vH;obtain⟨A4,c4,bN,cy,cz,_,cA⟩:=ai E;have cC:w4.cell? ⟨lb,0,none⟩=some (.slice Av pre.length cv):=(((b4.out.alloc _).grown L (λe=>(a8.o _ e.symm).1 rfl)).cell 0);have cD:w4.frozen? ⟨lb,0,none⟩=false:=(((b4.out.alloc _).grown L (λe=>(a8.o _ e.symm).1 rfl)).free 0);have cF:w4.cell? ⟨sb,0,none⟩=some (.int .i64 (sizeB pre:Int)):=(((b5.out.alloc _).grown L (λe=>(a8.o _ e.symm).2 rfl)).cell 0);have cG:w4.frozen? ⟨sb,0,none⟩=false:=(((b5.out.alloc _).grown L (λe=>(a8.o _ e.symm).2 rfl)).free 0);have LZ:=ae E;have SY:=ae L;have bO:=ae vH;clear E L vH;subst bN);have bR:((sizeB (pre++[(x,k)]):Nat):Int)=(sizeB pre:Int)+(k:Int):=(by unfold sizeB;rw[eU,QI];simp);have key:=b2.o.round (k:=k) (R2:=rec .busy none) bp.o b0 b1 bo (by rw[b8.o];rfl) LZ.o SY.o bO.o;rw[bR] at key;have bS:((w4.setCell ⟨lb,0,none⟩ (.slice A4 (pre.length+1) c4)).setCell ⟨sb,0,none⟩ (.int .i64 ((sizeB pre:Int)+(k:Int)))).heap[W0.heap.size+1]?=some (.loop (rec .busy none)):=by
     refine (JD _ _ _ _ (by show W0.heap.size+1≠sb;omega)).trans ((JD _ _ _ _ (by show W0.heap.size+1≠lb;omega)).trans ((SY.o.block _ (by rw[jO,av.o];omega) (λe=>by have:=(b6.o.lt _ e.symm).1;omega)).trans ((yV _ _ _ (by rw[av.o];omega)).trans ?_)));rw[b8.o];exact World.putObj_heap_same (by simp;omega)
    have X:=run_endRound (P:=Tryz.prog) none bS;have b':({ rec .busy none with state:= .ready,pending:=none } :Loop)=rec .ready none:=(by rw[vU.o,vU.o]);simp only[Option.isNone_none,su] at X;rw[b'] at X;refine⟨_,_,X,rfl,⟨_,_,key.1⟩,⟨?_,key.2 gb (by omega) (by omega) (by omega),key.2 gt (by omega) (by omega) (by omega),λg hg=>key.2 g (by omega) (by omega) (by omega)⟩⟩;have:=SY.o.size;simp at this|-;have:=av.o;omega
  rintro e W ⟨⟨v,rfl⟩,v',css,a⟩;exact⟨⟨v,rfl⟩,a.r,v',css,_,a⟩
 case done=>rintro r r' W ⟨v,css,R,a⟩ hl;have gP:=grownBy_putObj' W (W0.heap.size+1) (.loop r');have aw:=a.l.grown gP (λe=>by cases e;omega);have aD:=a.s.grown gP (λe=>by cases e;omega);have aL:(W.putObj (W0.heap.size+1) (.loop r')).heap[W0.heap.size]?=some (.deferred (some [])):=(gP.block _ (iU.1 a.d).1 (λe=>by injection e with e;omega)).trans a.d;have G:=ay a.own gP (λg e1 e2=>by injection e2 with e2;have:=(a.own.lt _ e1).1;omega);have H:=a.blks.keep gP (λg e=>by injection e with e;omega);have aM:=af a.grown gP (.inr ⟨_,rfl,by omega⟩);obtain⟨Av,cv,aq,br,bt,_,ar⟩:=ai a.own;obtain⟨W9,jX⟩:∃W9,W9=W.putObj (W0.heap.size+1) (.loop r'):=⟨_,rfl⟩;rw[<-jX] at aw aD aL G H aM|-;have y0:W9.cell? ⟨lb,0,none⟩=some v:=aw.cell 0;have y1:W9.cell? ⟨sb,0,none⟩=some (.int .i64 (sizeB (aN th xs 0 (-1)):Int)):=aD.cell 0;have c6:=ae aL;have bf:=ae G;have c7:=ae H;have c9:=ae aM;clear jX a gP aw aD aL G H aM ar hl;subst aq;gi_wp2_with fail;refine wpIn_wide.2 ?_;go_region;(all_goals (try gi_wp2_with fail));(all_goals (refine⟨by simp,.inl ⟨_,_,rfl,run_takeDeferred c6.o,?_⟩⟩));(all_goals (refine⟨_,results_tmp2 rfl _ _ _,?_⟩));have aR:W9.grownBy (W9.drew.putObj W0.heap.size (.deferred none)) (some W0.heap.size):=(by have:=grownBy_putObj' W9.drew W0.heap.size (.deferred none);exact au (aI (bI W9 _)) this);exact⟨_,css,rfl,Yv (ay bf.o aR (λg e1 e2=>by injection e2 with e2;have:=(bf.o.lt _ e1).1;omega)) (by omega),(c7.o.keep aR (λg e=>by injection e with e;omega)).lower (by omega),af c9.o aR (.inr ⟨_,rfl,by omega⟩)⟩
