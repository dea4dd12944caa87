/- Code, and functions. -/
import Derived.Test.YthcncnllajfkfaaGreatSfRegion
set_option linter.all false
open Option renaming some->Y,none->W
open Bool renaming true->X,false->T
open List renaming all_eq_true->v5,mem_of_getElem?->v6,mapM_cons->v_,length_eq_one_iff->v!
open Array renaming replicate->v?,getD_eq_getD_getElem?->w_,getElem?_append->w!,getElem?_eq_some_iff->w?,getElem?_eq_getElem->x_
open Nat renaming zero_le->x!,sub_zero->x?
namespace Go.Sf
open Go.RowKit (Below)
def Dz(P:Program)(N:Nat)(D:Ne->Array Oper->List PR->Bool):PC->Code->Bool
 |.skip _,.skip=>X|.ret,.ret=>X|.exit i _,.exit j=>i==j|.seq a b,.seq c d=>Dz P N D a c&&Dz P N D b d|.cond c a b,.cond x p q=>AL x c&&(Dz P N D a p&&Dz P N D b q)|.block i c,.block j d=>i==j&&Dz P N D c d|.loop _ c,.loop d=>Dz P N D c d|.region rs _,.region _ ops draw=>!draw&&Nt P N ops ops.toList rs|.draw ds rs _,.region _ ops draw=>draw&&D ds ops rs|.rls _ a,c=>Dz P N D a c|.bad,_=>X|_,_=>T
def PC.sR:PC->Bool
 |.seq a b=>a.sR&&b.sR|.cond _ a b=>a.sR&&b.sR|.block _ c=>c.sR|.loop _ c=>c.sR|.rls _ c=>c.sR|_=>X
def tl(i:Nat)(rs:List PR):Bool:=rs.all λr=>r.dst !=Y i
def PC.tl(i:Nat):PC->Bool
 |.seq a b=>a.tl i&&b.tl i|.cond _ a b=>a.tl i&&b.tl i|.block _ c=>c.tl i|.loop _ c=>c.tl i|.rls _ c=>c.tl i|.region rs _=>Go.Sf.tl i rs|.draw _ rs _=>Go.Sf.tl i rs|_=>X
variable{i:Nat}
theorem YY{b:List PR}(h:tl i b=X):∀r∈b,r.dst≠Y i:=by
 intro r hr;have:=v5.1 h r hr;simpa using this
section
variable{P:Program}{F0:Nat->Nat->Prop}{w0:W0}{N:Nat}{p:Option (Nat×Value)}{D:Ne->Array Oper->List PR->Bool}
theorem B8.envWF{O:AB}{a:Act}{w:World}(h:B8 F0 w0 O a w):∀s,(O.get s).WF:=by
 obtain ⟨G,h⟩:=h;exact h.wf
def MS(P:Program)(N:Nat)(D:Ne->Array Oper->List PR->Bool):Prop:=
 ∀(F0:Nat->Nat->Prop)(w0:W0)(p:Option (Nat×Value))(id:Nat)(ds:Ne)(ops:Array Oper)(rs:List PR)(live:Ne)(O:AB)(a:Act)(w:World)(K:AB->Prop)(Q:Exit->Act->World->Prop),D ds ops rs=X->(∀i v,p=Y (i,v)->∀r∈rs,r.dst≠Y i)->MT N p a->B8 F0 w0 O a w->TC O ds=X->wpOps (AT P) (λe=>K (e.fq live)) rs O ->
  (∀O a w,K O->MT N p a->B8 F0 w0 O a w->Q .normal a w)->(Code.region id ops X).wp P Q a w
theorem O7(hD:MS P N D):∀(η:PC)(c:Code),Dz P N D η c=X->((∀b o,¬w0.E b o)\/η.sR=X)->(∀i v,p=Y (i,v)->η.tl i=X)->∀(q:Q)(A:Exit->Act->World->Prop),
  (∀O a w,q.normal O->MT N p a->B8 F0 w0 O a w->A .normal a w)->(∀i O a w,q.exit i O->MT N p a->B8 F0 w0 O a w->A (.exit i) a w)->(∀O a w,q.ret O->MT N p a->B8 F0 w0 O a w->A .ret a w) ->
  ∀O a w,MT N p a->B8 F0 w0 O a w->η.wp (AT P) q O->c.wp P A a w:=by
 intro η
 induction η with
 |skip l=>
  intro c g K t q A C H I O a w u m h;cases c<;>simp[Dz]at g<;>first|exact Go.wp_skip (C _ a w h u (m.fq l))|cases g
 |ret=>
  intro c g K t q A C H I O a w u m h;cases c<;>simp[Dz]at g<;>first|exact Go.wp_ret (I O a w h u m)|cases g
 |exit i l=>
  intro c g K t q A C H I O a w u m h;cases c<;>simp only[Dz]at g<;>first|cases g|skip
  simp at g;subst g;exact Go.wp_exit (H i _ a w h u (m.fq l))
 |seq x y ε κ=>
  intro c g K t q A C H I O a w u m h;cases c<;>simp only[Dz]at g<;>first|cases g|skip
  rename_i c d;simp at g;have M:=K.imp id (λe=>(ne _ _▸e:x.sR=X/\y.sR=X));have R:=λi v J=>(ne _ _▸t i v J:x.tl i=X/\y.tl i=X);refine Go.wp_seq (ε c g.1 (M.imp id And.left) (λi v J=>(R i v J).1) _ _ ?_ ?_ ?_ O a w u m h)
  .intro O a w L u m;exact κ d g.2 (M.imp id And.right) (λi v J=>(R i v J).2) q A C H I O a w u m (L m.envWF)
  .exact H
  .exact I
 |cond o x y ε κ=>
  intro c g K t q A C H I O a w u m h;cases c<;>simp only[Dz]at g<;>first|cases g|skip
  rename_i c d e;simp at g;simp[PC.wp]at h;split at h
  .rename_i b hb;have hc:a.eval c=.bool b:=by
    obtain ⟨G,m⟩:=m;have:=(A3 m g.1 hb).1
    grind [As]
   have M:=K.imp id (λe=>(ne _ _▸e:x.sR=X/\y.sR=X));have R:=λi v J=>(ne _ _▸t i v J:x.tl i=X/\y.tl i=X);refine Go.wp_cond_split hc (λhb=>?_) (λhb=>?_)
   .exact ε d g.2.1 (M.imp id And.left) (λi v J=>(R i v J).1) q A C H I O a w u m (h.1 hb)
   .exact κ e g.2.2 (M.imp id And.right) (λi v J=>(R i v J).2) q A C H I O a w u m (h.2 hb)
  .exact h.elim
 |block i x ih=>
  intro c g K t q A C H I O a w u m h;cases c<;>simp only[Dz]at g<;>first|cases g|skip
  rename_i j d;simp at g;obtain⟨rfl,g⟩:=g;refine Go.wp_block (ih d g K t _ _ ?_ ?_ ?_ O a w u m h)
  .exact C
  .intro k O a w L u m;simp[Exit.inBlock];simp only at L;split
   next e=>rw[a6 e]at L;exact C O a w L u m
   next e=>rw[ac e]at L;exact H k O a w L u m
  .exact I
 |loop B x ih=>
  intro c g K t q A C H I O a w u m h;cases c<;>simp[Dz]at g<;>first|cases g|skip
  rename_i c;simp[PC.wp]at h
  let δ:Act->World->Prop:=λa w=>∀(b:Frame)(k:List Item)(cs:List Frame),∃e a' w',A e a' w'/\Arrives P (lone (b.at a (.code c::.inLoop c::k)) cs w) b k cs e a' w'
  have hX:=h (λe=>∀a w,MT N p a->B8 F0 w0 e a w->δ a w) ?_ a w u (m.fq B)
  .intro b k cs;obtain⟨e,a',w',S,z⟩:=hX b k cs;exact⟨e,a',w',S,.of_steps (.one step_loop) z⟩
  .intro e he a w u m;have hb:c.wp P (Exit.then δ A) a w:=by
    refine ih c g K t _ _ ?_ ?_ ?_ e a w u m (he m.envWF)
    .intro O a w L u m;exact L a w u (m.fq B)
    .exact H
    .exact I
   intro b k cs;obtain⟨e,a₁,w₁,S,z⟩:=hb b (.inLoop c::k) cs;cases e with
   |normal=>
    obtain ⟨e₂,a₂,w₂,hq₂,θ⟩:=S b k cs;exact⟨e₂,a₂,w₂,hq₂,.of_steps (Steps.trans z (.one step_inLoop)) θ⟩
   |exit id=>exact⟨_,a₁,w₁,S,.pass (x:=.inLoop c) rfl (λ_ _=>.inl V) z⟩|goto l=>exact⟨_,a₁,w₁,S,.pass (x:=.inLoop c) rfl (λ_ _=>.inl V) z⟩|ret=>exact⟨_,a₁,w₁,S,.pass (x:=.inLoop c) rfl (λ_ _=>.inl V) z⟩|panic ch=>exact⟨_,a₁,w₁,S,.pass (x:=.inLoop c) rfl (λ_ _=>.inl V) z⟩|outgrown=>exact⟨_,a₁,w₁,S,.pass (x:=.inLoop c) rfl (λ_ _=>.inl V) z⟩
 |region rs B=>
  intro c g K t q A C H I O a w u m h;cases c<;>simp only[Dz]at g<;>first|cases g|skip
  rename_i id ops draw;simp[Bool.not_eq_true']at g;obtain⟨rfl,g⟩:=g;exact gq g (λi v J=>YY (t i v J)) u m h λO a w L u m=>C _ a w L u (m.fq B)
 |draw ds rs B=>
  intro c g K t q A C H I O a w u m h;cases c<;>simp only[Dz]at g<;>first|cases g|skip
  rename_i id ops draw;simp at g;obtain⟨rfl,g⟩:=g;exact hD F0 w0 p id ds ops rs B O a w q.normal A g (λi v J=>YY (t i v J)) u m h.1 h.2 C
 |bad=>
  intro c g K t q A C H I O a w u m h;exact h.elim
 |rls s x ih=>
  intro c g K t q A C H I O a w u m h;have ζ:Dz P N D x c=X:=by
   grind [Dz]
  simp [PC.wp]at h;split at h
  next cs hs=>obtain⟨G,m⟩:=m;exact ih c ζ (K.imp id λe=>e) t q A C H I _ a w u (m.rls hs) h
  .exact h.elim
def DW:Nat->Fq->AB
 |_,[]=>[]|k,t::ts=>(k,.tv t)::DW (k+1) ts
theorem K6:∀(ts:Fq)(k n:Nat),AB.get (DW k ts) n=if k<=n then(match ts[n-k]? with|some t=>.tv t|none=>.undef)else .undef
 |[],k,n=>by simp[DW,AB.get]|t::ts,k,n=>by
  rw [DW,AB.d6,K6 ts (k+1) n]
  grind
variable{ts:Fq}{n:Nat}
theorem B8.start{w:World}{F0:Nat->Nat->Prop}{vs:Array Value}(h:AQ w F0 ts vs.toList)(j:TV.p0 ts)(d:Ur w):B8 F0 (W0.mk w λ_ _=>False) (DW 0 ts) {tmps:=vs++v? n undef,defers:=[]} w:=by
 have q:=BO h;simp at q;refine⟨λ_ _=>W,V,V,⟨rfl,rfl,rfl,ae _,λ_ _ _=>rfl,λ_ _ _ _ h=>h,λ_ _ _ h=>h.elim,d,λ_ _ h=>h.elim⟩,rfl,λs k=>?_,λs k=>?_,λs=>?_⟩
 .rw[K6]
  grind
 .rw[K6,a6 (x! _),x?];cases d:ts[s]? with
  |none=>trivial|some t=>
   have e:s<vs.size:=by
    grind
   have hv:vs.toList[s]?=Y (slot {tmps:=vs++v? n undef,defers:=[]} s):=by
    simp [slot,w_,w!,e]
   refine CR (λb o u l m=>⟨l,?_⟩) _ _ (((Bn _ _).1 h).2 s t _ d hv);rintro(g|⟨_,_,_,g,_⟩)
   .exact m g.2
   .cases g
 .rw[K6,a6 (x! _),x?];cases d:ts[s]? with
  |none=>trivial|some t=>exact B6.1 j t (v6 d)
def SA(P:Program):ResultVar->RV->Bool
 |.tmp t,.tmp s=>t==s|.cell x t,.cell s W=>x==s&&CJ P t==Y T|.cell x t,.cell s (Y n)=>x==s&&CJ P t==Y X&&DE P t==Y n|_,_=>T
def HM(P:Program):List ResultVar->List RV->Bool
 |[],[]=>X|x::xs,y::ys=>SA P x y&&HM P xs ys|_,_=>T
def G6(tmps:Array Value):ResultVar->Sem Value
 |.tmp t=>pure (tmps.getD t undef)|.cell a t=>do loadVar t (<-asAddr (tmps.getD a undef))
variable{O:AB}{a:Act}{w:World}{G:Be}
theorem cQ(m:AO F0 w0 O a w G){x:ResultVar}{y:RV}(d:SA P x y=X){t:TV}(h:y.get O=Y t):∃v,(G6 a.tmps x).run P w=.ok v w/\As w (AU w0.heap.size F0 G) t v/\t.WF:=by
 have e:∀s,AL (.tmp s) (.s s)=X:=λs=>p?
 cases x with
 |tmp s=>
  cases y with
  |tmp s'=>
   simp [SA]at d;subst d;have:=A3 m (e s) (t:=t) h;exact⟨slot a s,rfl,this⟩
  |cell s' n=>cases n<;>simp[SA]at d
 |cell s ty=>
  cases y with
  |tmp _=>cases d
  |cell s' n=>
   cases n with
   |none=>
    simp [SA]at d;obtain⟨rfl,z⟩:=d;simp[RV.get]at h;split at h
    next u r o=>simp at h;subst h;obtain⟨b,g,vs,A,l,B,_,C⟩:=SP m (e s) (y:=.s s) o;simp[AQ]at l;obtain⟨v,M,rfl,K,Q⟩:=l;have H:=C 0 v rfl;rw[Addr.add_zero']at H;have k:a.tmps.getD s undef=.pointer (Y ⟨b,g,W⟩):=A;refine⟨v,?_,K,B.1⟩;simp[G6,k,loadVar,Cy z,H,asAddr]
    .cases h
   |some n=>
    simp [SA]at d;obtain⟨⟨rfl,z⟩,L⟩:=d;simp[RV.get]at h;split at h
    .rename_i cs o;split at h
     .rename_i q;simp at h;subst h;obtain⟨b,g,vs,A,l,B,E,C⟩:=SP m (e s) (y:=.s s) o;have J:=BO l;have j:=run_loadCells_list (P:=P) w ⟨b,g,W⟩ vs C;rw[J,q]at j;have k:a.tmps.getD s undef=.pointer (Y ⟨b,g,W⟩):=A;refine⟨.agg vs.toArray,?_,?_,B⟩
      .simp[G6,k,loadVar,Cy z,CP L,j,asAddr]
      .simp only[As];exact⟨_,rfl,l,by rw[v5];exact λx I=>E x I⟩
     .cases h
    .cases h
theorem I0(e:AO F0 w0 O a w G):∀{xs:List ResultVar}{d:List RV},HM P xs d=X->∀{ts:Fq},Eu O d=Y ts->∃vs,(xs.mapM (G6 a.tmps)).run P w=.ok vs w/\AQ w (AU w0.heap.size F0 G) ts vs/\TV.p0 ts
 |[],[],_,ts,h=>by simp[Eu]at h;subst h;exact⟨[],V,rfl,trivial⟩|[],_::_,b,_,_=>by simp[HM]at b|_::_,[],b,_,_=>by simp[HM]at b|x::xs,y::d,b,ts,h=>by
  simp [HM]at b;simp[Eu]at h;split at h
  next t us g j=>simp at h;subst h;obtain⟨v,k,l,m⟩:=cQ e b.1 g;obtain⟨vs,o,q,s⟩:=I0 e b.2 j;exact⟨v::vs,by simp[v_,k,o],⟨v,vs,rfl,l,q⟩,m,s⟩
  .cases h
theorem HC{f:ResultVar->Sem Value}{xs:Array ResultVar}{vs:List Value}{w':World}(h:(xs.toList.mapM f).run P w=.ok vs w'):(xs.mapM f).run P w=.ok vs.toArray w':=by
 rw [<-Array.toArray_toList (xs:=xs),List.mapM_toArray];simp[h]
variable{F:Nat->Nat->Prop}
theorem AQ.toA{vs:List Value}(h:AQ w F ts vs):AQ w F ts vs.toArray.toList:=c?
def Az.lone:Az->Bool
 |.own _=>X|.AaW _ _=>X|_=>T
variable{fn:Func}{r:Az}
theorem Wj(I:AO F0 w0 O a w G){m:List RV}(k:HM P fn.results.toList m=X)(Q:(∀b o,¬w0.E b o)\/r.lone=T)(J:r.plain=X)(h:Ba m r O):
  ∃v,(results fn a.tmps).run P w=.ok v w/\((∀b o,¬w0.E b o)->JS w (λb o=>b<w0.heap.size/\F0 b o) w0.heap.size r v)/\(r.lone=T->cU w (λb o=>b<w0.heap.size/\F0 b o) (λb lo=>w0.heap.size<=b\/∀o,lo<=o->w0.E b o) r v)/\r.WF:=by
 have H:∀ts,Eu O m=Y ts->∃vs:List Value,(fn.results.mapM (G6 a.tmps)).run P w=.ok vs.toArray w/\AQ w (AU w0.heap.size F0 G) ts vs/\TV.p0 ts:=by
  grind [I0,HC]
 have l:(results fn a.tmps)=(fn.results.mapM (G6 a.tmps)>>=λvs=>pure (if h:vs.size=1 then vs[0]else .tuple vs)):=by
  unfold results;congr 1
 have M:Bs w w (AU w0.heap.size F0 G) (λb o=>b<w0.heap.size/\F0 b o):=λb o u κ η=>⟨κ,λhF'=>η (.inl hF')⟩;cases r with
 |sh t=>
  have A:∃x,m=[x]/\x.get O=Y t:=by
   rcases m with _|⟨x,_|⟨y,m⟩⟩<;>simp[Ba]at h;exact⟨x,rfl,h⟩
  obtain ⟨x,rfl,δ⟩:=A;obtain⟨vs,e1,L,e3⟩:=H [t] (by simp[Eu,δ]);simp only[AQ]at L;obtain⟨v,r',rfl,e4,rfl⟩:=L;refine⟨v,?_,λ_=>CR M _ _ e4,λ_=>CR M _ _ e4,e3.1⟩;rw[l];simp[e1]
 |own t=>
  have A:∃s,m=[.tmp s]/\O.get s=.ow t:=by
   rcases m with _|⟨x,_|⟨y,m⟩⟩
   .simp[Ba]at h
   .cases x<;>simp[Ba]at h;exact⟨_,rfl,h⟩
   .simp[Ba]at h
  obtain ⟨s,rfl,K⟩:=A;obtain⟨vs,e1,L,e3⟩:=H [t] (by simp[Eu,RV.get,K,EV.val]);have hr:SA P (.tmp s) (.tmp s)=X:=by simp[SA]
  have B:=AZ I K V;have C:=I.wf s;rw[K]at C;simp[AN]at B;have z:fn.results.toList=[.tmp s]:=by
   rcases δ:fn.results.toList with _|⟨x,_|⟨y,xs⟩⟩<;>rw[δ]at k
   .simp[HM]at k
   .cases x<;>simp[HM,SA]at k;rw[k]
   .simp[HM]at k
  have hv:(results fn a.tmps).run P w=.ok (slot a s) w:=by
   rw [l];have hm:(fn.results.mapM (G6 a.tmps)).run P w=.ok [slot a s].toArray w:=by
    refine HC ?_;rw[z];simp[v_,G6,slot]
   simp [hm]
  replace Q:=Q.resolve_right (by simp[Az.lone]);refine⟨slot a s,hv,λ_=>⟨G s W,B.kept (λb o u κ η=>⟨κ,?_⟩) (λ_ _ _=>rfl),λb lo hb=>?_⟩,λe=>by simp[Az.lone]at e,C⟩
  .rintro(A|⟨lo,A,ζ⟩)
   .exact η (.inl A)
   .exact η (.inr ⟨s,W,lo,A,ζ⟩)
  .have:=I.lt _ _ _ _ hb;exact⟨this.2.resolve_right (λe=>Q _ _ (e _ (ae _))),this.1⟩
 |tp ts=>
  simp [Ba]at h;have hne:m.length≠1:=by
   grind
  have ζ:Eu O m=Y ts:=by
   grind
  obtain ⟨vs,e1,L,e3⟩:=H ts ζ;have hlen:vs.length≠1:=by
   rw [BO L];have:∀(m:List RV)(ts:Fq),Eu O m=Y ts->ts.length=m.length:=by
    intro m
    induction m with
    |nil=>intro ts h;simp[Eu]at h;subst h;rfl|cons y m ih=>
     grind [Eu,q0]
   grind
  refine ⟨.tuple vs.toArray,?_,λ_=>⟨vs.toArray,rfl,(Aw M _ _ L).toA⟩,λ_=>⟨vs.toArray,rfl,(Aw M _ _ L).toA⟩,e3⟩;rw[l];simp[e1,hlen]
 |AaW n es=>
  have A:∃s,m=[.tmp s]/\O.get s=.xo n es:=by
   rcases m with _|⟨x,_|⟨y,m⟩⟩
   .simp[Ba]at h
   .cases x<;>simp[Ba]at h;exact⟨_,rfl,h⟩
   .simp[Ba]at h
  obtain ⟨s,rfl,K⟩:=A;have B:=AZ I K V;have C:=I.wf s;rw[K]at C;simp[AN]at B;obtain⟨xs,⟨z0,k1,k2⟩,k3,k4,k5⟩:=B;have z:fn.results.toList=[.tmp s]:=by
   rcases δ:fn.results.toList with _|⟨x,_|⟨y,xs⟩⟩<;>rw[δ]at k
   .simp[HM]at k
   .cases x<;>simp[HM,SA]at k;rw[k]
   .simp[HM]at k
  have hv:(results fn a.tmps).run P w=.ok (slot a s) w:=by
   rw [l];have hm:(fn.results.mapM (G6 a.tmps)).run P w=.ok [slot a s].toArray w:=by
    refine HC ?_;rw[z];simp[v_,G6,slot]
   simp [hm]
  replace Q:=Q.resolve_right (by simp[Az.lone]);refine⟨slot a s,hv,λ_=>⟨z0,xs,k1,Aw (λb o u κ hf=>⟨κ,λhf'=>hf ?_⟩) _ _ k3,k4,k5,λb lo hb=>?_⟩,λe=>by simp[Az.lone]at e,C⟩
  .rcases hf' with h6|⟨lo,h6⟩
   .exact .inl h6
   .exact .inr ⟨s,W,0,by rw[k2,h6];rfl,x! _⟩
  .have:=I.lt s W b 0 (by rw[k2,hb];rfl);exact⟨this.2.resolve_right (λe=>Q _ _ (e _ (ae _))),this.1⟩
 |turn _ _=>cases J
 |cut zs=>exact h.elim|mpr _ _=>cases J
 |ag _ _ _=>cases J
 |bo _ _ _ _=>cases J
 |ext _=>cases J
 |zl cs=>
  have A:∃s n,m=[.cell s (Y n)]/\O.get s=.bx cs/\cs.length=n:=by
   rcases m with _|⟨x,_|⟨y,m⟩⟩
   .simp[Ba]at h
   .rcases x with s|⟨s,_|n⟩
    .simp[Ba]at h
    .simp[Ba]at h
    .exact⟨s,n,rfl,h⟩
   grind [Ba]
  obtain ⟨s,n,rfl,K,hn⟩:=A;have hbx:=AZ I K V;have C:=I.wf s;rw[K]at C;simp only[AN]at hbx;obtain⟨b,c,θ,k1,k2,k3,k4,k5⟩:=hbx;have z:∃ty,fn.results.toList=[.cell s ty]/\CJ P ty=Y X/\DE P ty=Y n:=by
   rcases δ:fn.results.toList with _|⟨x,_|⟨y,xs⟩⟩<;>rw[δ]at k
   .simp[HM]at k
   .cases x<;>simp[HM,SA]at k;obtain⟨⟨rfl,A⟩,ζ⟩:=k;exact⟨_,rfl,A,ζ⟩
   .simp[HM]at k
  obtain ⟨ty,z,hag',hcn⟩:=z;have hv:(results fn a.tmps).run P w=.ok (.agg c) w:=by
   rw [l];have S:=run_loadCells_list (P:=P) w ⟨b,0,W⟩ c.toList (λj v hv=>by
    have:=cell_of_row w b j c θ (0,0) k2;rw[show((⟨b,0,W⟩:Addr).add j)=⟨b,j,W⟩by simp[Addr.add];omega,this];simpa using hv)
   rw [Array.length_toList,k3,hn]at S;have h1':a.tmps.getD s undef=.pointer (Y ⟨b,0,W⟩):=k1;have hm:(fn.results.mapM (G6 a.tmps)).run P w=.ok [.agg c].toArray w:=by
    refine HC ?_;rw[z];simp[v_,G6,h1',loadVar,Cy hag',CP hcn,S,asAddr]
   simp [hm]
  have hsz:s<a.tmps.size:=Bv I K V
  let Z:Dq:=λq i=>if q=0/\i=W then W else B7 a G s q i
  have hZ:∀{q i b lo},Z q i=Y (b,lo)->B7 a G s q i=Y (b,lo):=by
   intro q i b lo R;simp only[Z]at R;split at R
   .cases R
   .exact R
  have ε:∀N:Nat->Nat->Prop,(∀b lo,b<w.heap.size->(w0.heap.size<=b\/∀o,lo<=o->w0.E b o)->N b lo)->dI w (λb o=>b<w0.heap.size/\F0 b o) N cs (.agg c):=by
   intro N hN;refine⟨Z,⟨c,rfl,k3,λi d hd=>?_⟩,λq i q' i' b lo lo' e1 L=>K3 I hsz _ _ _ _ _ _ _ (hZ e1) (hZ L),by simp[Z],λq i b lo R=>?_⟩
   .obtain⟨x,j1,j2⟩:=k5 i d hd;have hz0:Z 0 (Y i)=G s (Y i):=by simp[Z,DZ]
    refine ⟨x,j1,?_,Hr j2⟩;rw[hz0];refine BN.tg (j2.kept (λb o u κ η=>⟨κ,?_⟩) (λ_ _ _=>rfl) BP.rfl') (λg lo j R=>?_)
    .rintro(A|⟨q,j,lo,A,ζ⟩)
     .exact η (.inl A)
     .obtain⟨p,j',f1,_⟩:=CZ (hZ A);exact η (.inr ⟨p,j',lo,f1,ζ⟩)
    .simp only[Dq.tg,Z];rw[ac U];exact QG R j
   .obtain⟨p,j',f1,_⟩:=CZ (hZ R);have:=I.lt _ _ _ _ f1;exact⟨this.1,hN _ _ this.1 this.2⟩
  refine ⟨.agg c,hv,λQ=>ε _ λb lo _ hb=>hb.resolve_right (λe=>Q _ _ (e _ (ae _))),λ_=>ε _ λb lo _ hb=>hb,C⟩
variable{f:FuncId}{c:Code}{pl:PC}{rv:List RV}
theorem eF(hD:MS P fn.ntmps D)(hf:P.funcs[f]? =Y fn)(hb:fn.body=Y c)(hname:fn.name≠ "runtime.NumGoroutine")(hok:Dz P fn.ntmps D pl c=X)(hrv:HM P fn.results.toList rv=X)
  {args:Fq}(hn:args.length<=fn.ntmps)(hp:r.plain=X)(h:TV.p0 args->pl.wp (AT P) ⟨Ba rv r,λ_ _=>False,Ba rv r⟩ (DW 0 args)):AT P f args r:=by
 refine AT.of0 ?_ hp;intro hw;refine⟨n!,λF0 w vs hrep ht=>?_⟩;have hl:=BO hrep;simp at hl;have hcalls:Calls P f vs w λe w'=>(∃v,e=.returned v/\Below w.heap.size w w'/\JS w' (λb o=>b<w.heap.size/\F0 b o) w.heap.size r v)/\r.WF:=by
  refine calls_of_wp hf hb ?_;have fin:∀(O:AB)(a:Act)(w':World),Ba rv r O->MT fn.ntmps W a->B8 F0 (W0.mk w λ_ _=>False) O a w'->a.defers=[]/\∃v,(results fn a.tmps).run P w'=.ok v w'/\((∃v',Ending.returned v=.returned v'/\Below w.heap.size w w'/\JS w' (λb o=>b<w.heap.size/\F0 b o) w.heap.size r v')/\r.WF):=by
   intro O a w' hr hN ⟨G,hI⟩;obtain⟨v,e1,e2,_,e3⟩:=Wj (P:=P) hI hrv (.inl λ_ _ h=>h) hp hr;exact⟨hI.defers,v,e1,⟨v,rfl,⟨hI.below.os,hI.below.tape,hI.below.output,hI.below.size,λk hk=>hI.below.block k hk (λ_ h=>h)⟩,e2 λ_ _ h=>h⟩,e3⟩
  refine O7 (p:=W) hD pl c hok (.inl λ_ _ h=>h) V _ _ ?_ ?_ ?_ _ _ w ?_ (B8.start hrep hw ht) (h hw)
  .exact λO a w' h1 h2 h3=>fin O a w' h1 h2 h3
  .grind
  .exact λO a w' h1 h2 h3=>fin O a w' h1 h2 h3
  .exact⟨a_,V⟩
 refine ⟨?_,hcalls.mono λe w' h=>h.1⟩;obtain⟨_,_,_,h1,_⟩:=hcalls [];exact h1.2
def Vm(i m:Nat)(Z:Dq):Be:=λs=>if s=i then Z 0 else if m<=s then(λj=>match j with|some j=>Z (s-m+1) (Y j)|none=>W)else λ_=>W
variable{Z:Dq}
theorem jK{i m:Nat}{p:Nat}{j:Option Nat}{b lo:Nat}(h:Vm i m Z p j=Y (b,lo)):(p=i/\Z 0 j=Y (b,lo))\/(p≠i/\m<=p/\Z (p-m+1) j=Y (b,lo)):=by
 simp [Vm]at h
 grind
variable{i:Nat}{v:Value}
theorem B8.startZ{w:World}{F0:Nat->Nat->Prop}{vs:Array Value}{e:EV}(h:AQ w (λb o=>F0 b o\/ZF Z b o) ts vs.toList)(Q:TV.p0 ts)(C:e.WF)
  (hi:vs[i]?=Y v)(E:KM Z)(H:∀q i b lo,Z q i=Y (b,lo)->b<w.heap.size)(I:∀b o R,ZF Z b o->¬F0 b R)(d:Y8 w (ZF Z))
  (hb:∀a:Act,slot a i=v->∀G:Be,G i=Z 0->tg a G=Z.tg->∀L,Bs w w (λb o=>F0 b o\/ZF Z b o) L->AN a w L G ((i,e)::DW 0 ts) i e v):
  B8 F0 (W0.mk w (ZF Z)) ((i,e)::DW 0 ts) {tmps:=vs++v? n undef,defers:=[]} w:=by
 have η:=BO h;simp at η;have l:i<vs.size:=(w?.1 hi).1
 let G:Be:=Vm i (vs.size+n) Z
 have A:∀p j b lo,G p j=Y (b,lo)->∃q,Z q j=Y (b,lo)/\((p=i/\q=0)\/(p≠i/\q=p-(vs.size+n)+1/\vs.size+n<=p)):=by
  intro p j b lo κ;rcases jK κ with⟨z,K⟩|⟨z,K,M⟩
  .grind
  grind
 have m:Bs w w (λb o=>F0 b o\/ZF Z b o) (AU w.heap.size F0 G):=by
  refine λb o u S hf=>⟨S,?_⟩;rintro(⟨_,z⟩|⟨p,j,lo,z,K⟩)
  .exact hf (.inl z)
  .obtain⟨q,M,_⟩:=A _ _ _ _ z;exact hf (.inr ⟨q,j,lo,M,K⟩)
 have x:∀s(k:s<vs.size),slot {tmps:=vs++v? n undef,defers:=[]} s=vs[s]:=by
  intro s k;simp[slot,w_,w!,k]
 refine ⟨G,λp j p' j' b lo θ J ε=>?_,λp j b lo J=>?_,⟨rfl,rfl,rfl,ae _,λ_ _ _=>rfl,λ_ _ _ _ h=>h,I,d⟩,rfl,λs k=>?_,λs k=>?_,λs=>?_⟩
 .obtain⟨q,B,f2⟩:=A _ _ _ _ J;obtain⟨q',δ,f4⟩:=A _ _ _ _ ε;have:=E _ _ _ _ _ _ _ B δ;exact⟨U,this.2⟩
 .obtain⟨q,B,_⟩:=A _ _ _ _ J;exact⟨H _ _ _ _ B,.inr λo ho=>⟨q,j,lo,B,ho⟩⟩
 .simp at k;rw[AB.d6,ac U,K6,a6 (x! _),List.getElem?_eq_none U]
 .rw[AB.d6];by_cases y:i=s
  .subst y;rw[a6 rfl,x i l];have hv:vs[i]=v:=by
    grind
   rw [hv];refine hb _ (by rw[x i l,hv]) G (by simp[G,Vm]) ?_ _ m;funext g j;simp only[tg,G,Vm,Array.size_append,Array.size_replicate,Dq.tg];rw[ac U,a6 U];show Z (vs.size+n+g-(vs.size+n)+1) (Y j)=Z (g+1) (Y j);rw[Nat.add_sub_cancel_left]
  .rw[ac y,K6,a6 (x! _),x?];cases d:ts[s]? with
   |none=>trivial|some t=>
    have ζ:s<vs.size:=by
     grind
    have hv:vs.toList[s]?=Y (slot {tmps:=vs++v? n undef,defers:=[]} s):=by
     grind
    exact CR m _ _ (((Bn _ _).1 h).2 s t _ d hv)
 .rw[AB.d6];split
  .exact C
  .rw[K6,a6 (x! _),x?];cases d:ts[s]? with
   |none=>trivial|some t=>exact B6.1 Q t (v6 d)
theorem B8.startB{w:World}{F0:Nat->Nat->Prop}{vs:Array Value}{cs:List AS}(h:AQ w (λb o=>F0 b o\/ZF Z b o) ts vs.toList)(y:TV.p0 ts)(g:∀c∈cs,c.t.WF)
  (hi:vs[i]?=Y v)(hb:Ow w (λb o=>F0 b o\/ZF Z b o) Z cs v)(k:KM Z)(l:∀q i b lo,Z q i=Y (b,lo)->b<w.heap.size)(m:∀b o A,ZF Z b o->¬F0 b A)(z:Y8 w (ZF Z)):
  B8 F0 (W0.mk w (ZF Z)) ((i,.bx cs)::DW 0 ts) {tmps:=vs++v? n undef,defers:=[]} w:=by
 refine B8.startZ (e:=.bx cs) h y g hi k l m z λa ha G u hr M s=>?_;obtain⟨b,c,θ,C,E,H,I,J⟩:=hb;simp only[AN];refine⟨b,c,θ,C,E,H,by rw[u];exact I,λj d B=>?_⟩;obtain⟨x,K,L⟩:=J j d B;refine⟨x,K,?_⟩;rw[u,hr];exact L.kept s (λ_ _ _=>rfl) BP.rfl'
theorem B8.startA{w:World}{F0:Nat->Nat->Prop}{vs:Array Value}{cs:List AS}(h:AQ w (λb o=>F0 b o\/ZF Z b o) ts vs.toList)(u:TV.p0 ts)(g:∀c∈cs,c.t.WF)
  (hi:vs[i]?=Y v)(hb:Xe w (λb o=>F0 b o\/ZF Z b o) Z cs v)(k:KM Z)(l:∀q i b lo,Z q i=Y (b,lo)->b<w.heap.size)(m:∀b o z,ZF Z b o->¬F0 b z)(y:Y8 w (ZF Z)):
  B8 F0 (W0.mk w (ZF Z)) ((i,.zl cs)::DW 0 ts) {tmps:=vs++v? n undef,defers:=[]} w:=by
 refine B8.startZ (e:=.zl cs) h u g hi k l m y λa ha G A hr K s=>?_;obtain⟨xs,C,E,H⟩:=hb;simp[AN];refine⟨xs,C,E,λj d B=>?_⟩;obtain⟨x,I,J,_⟩:=H j d B;refine⟨x,I,?_⟩;rw[A,hr];exact J.kept s (λ_ _ _=>rfl) BP.rfl'
variable{us:Fq}
theorem nj(hD:MS P fn.ntmps D)(hf:P.funcs[f]? =Y fn)(hb:fn.body=Y c)(hname:fn.name≠ "runtime.NumGoroutine")(hok:Dz P fn.ntmps D pl c=X)(hrv:HM P fn.results.toList rv=X)
  {args:Fq}(hn:args.length<=fn.ntmps){cs cs':List AS}(hcl:pl.sR=X)(hdst:pl.tl i=X)(h:TV.p0 args->(∀c∈cs,c.t.WF)->pl.wp (AT P) ⟨Ba rv (.bo cs cs' i us),λ_ _=>False,Ba rv (.bo cs cs' i us)⟩ ((i,.bx cs)::DW 0 args)):AT P f args (.bo cs cs' i us):=by
 intro hw hwc;refine⟨n!,λF0 w vs v Z hrep hvi hbox hzu hzl hfree ht=>?_⟩;have hl:=BO hrep;simp at hl;have hcalls:Calls P f vs w λe w'=>((∀c∈cs',c.t.WF)/\TV.p0 us)/\∃r Z',e=.returned r/\Hg Z w w'/\Ow w' (λb o=>(b<w.heap.size/\F0 b o)\/ZF Z' b o) Z' cs' v/\
   KM Z'/\(∀q i b lo,Z' q i=Y (b,lo)->b<w'.heap.size/\(w.heap.size<=b\/∃p j lo',Z p j=Y (b,lo')/\lo'<=lo))/\
   RD w' (λb o=>(b<w.heap.size/\F0 b o)\/ZF Z' b o) us r:=by
  refine calls_of_wp hf hb ?_;have fin:∀(O:AB)(a:Act)(w':World),Ba rv (.bo cs cs' i us) O->MT fn.ntmps (Y (i,v)) a->B8 F0 (W0.mk w (ZF Z)) O a w'->a.defers=[]/\∃r,(results fn a.tmps).run P w'=.ok r w'/\(((∀c∈cs',c.t.WF)/\TV.p0 us)/\∃r' Z',Ending.returned r=.returned r'/\Hg Z w w'/\Ow w' (λb o=>(b<w.heap.size/\F0 b o)\/ZF Z' b o) Z' cs' v/\
    KM Z'/\(∀q i b lo,Z' q i=Y (b,lo)->b<w'.heap.size/\(w.heap.size<=b\/∃p j lo',Z p j=Y (b,lo')/\lo'<=lo))/\
    RD w' (λb o=>(b<w.heap.size/\F0 b o)\/ZF Z' b o) us r'):=by
   rintro O a w' ⟨hs,hr⟩ hN ⟨G,hI⟩;have hag:Bs w' w' (AU w.heap.size F0 G) (λb o=>(b<w.heap.size/\F0 b o)\/ZF (B7 a G i) b o):=by
    refine λb o u hc hF=>⟨hc,?_⟩;rintro(h1|⟨q,j,lo,h1,h2⟩)
    .exact hF (.inl h1)
    .obtain⟨p,j',f1,_⟩:=CZ h1;exact hF (.inr ⟨p,j',lo,f1,h2⟩)
   have hisz:i<a.tmps.size:=Bv hI hs V;have hbx:=AZ hI hs V;have hwb:=hI.wf i;rw[hs]at hwb;rw[hN.pin i v rfl]at hbx;simp only[AN]at hbx;obtain⟨b,c,θ,k1,k2,k3,k4,k5⟩:=hbx;obtain⟨vs',e1,e2,e3⟩:=I0 (P:=P) hI hrv hr;have hm:=HC e1;have hshape:(results fn a.tmps)=(fn.results.mapM (G6 a.tmps)>>=λvs=>pure (if h:vs.size=1 then vs[0]else .tuple vs)):=by
    unfold results;congr 1
   have hlen:=BO e2;have hres:∃r,(results fn a.tmps).run P w'=.ok r w'/\RD w' (AU w.heap.size F0 G) us r:=by
    rw [hshape];by_cases h1:vs'.length=1
    .obtain⟨x,rfl⟩:=v!.1 h1;rcases us with _|⟨t,_|⟨t',us⟩⟩
     .simp at hlen
     .simp only[AQ]at e2;obtain⟨v',r',hv',e4,rfl⟩:=e2;simp at hv';subst hv';exact⟨x,by simp[hm],e4⟩
     .simp at hlen
    .refine⟨.tuple vs'.toArray,by simp[hm,h1],?_⟩;rcases us with _|⟨t,_|⟨t',us⟩⟩
     .exact⟨_,rfl,e2.toA⟩
     .grind
     .exact⟨_,rfl,e2.toA⟩
   obtain ⟨r,hr1,hr2⟩:=hres;refine⟨hI.defers,r,hr1,⟨hwb,e3⟩,r,B7 a G i,rfl,?_,⟨b,c,θ,k1,k2,k3,by rw[DZ];exact k4,λj d hj=>?_⟩,K3 hI hisz,λq j b lo f1=>?_,?_⟩
   .exact⟨hI.below.os,hI.below.tape,hI.below.output,hI.below.size,λk hk hz=>hI.below.block k hk (λo⟨q,j,lo,f1,_⟩=>hz q j lo f1),λb o u hz hu=>hI.below.cell b o u hz hu⟩
   .obtain⟨x,f1,f2⟩:=k5 j d hj;refine⟨x,f1,?_⟩;rw[DZ];exact BN.tg (f2.kept hag (λ_ _ _=>rfl) BP.rfl') λg lo j' hz=>QG hz j'
   .obtain⟨p,j',g1,_⟩:=CZ f1;obtain⟨f2,f3⟩:=hI.lt _ _ _ _ g1;refine⟨f2,f3.imp id (λe=>?_)⟩;exact e lo (ae _)
   .rcases us with _|⟨t,_|⟨t',us⟩⟩
    .obtain⟨vs2,f1,f2⟩:=hr2;exact⟨vs2,f1,Aw hag _ _ f2⟩
    .exact CR hag _ _ hr2
    .obtain⟨vs2,f1,f2⟩:=hr2;exact⟨vs2,f1,Aw hag _ _ f2⟩
  refine O7 (p:=Y (i,v)) hD pl c hok (.inr hcl) (λj u hp=>by cases hp;exact hdst) _ _ ?_ ?_ ?_ _ _ w ?_ (B8.startB hrep hw hwc hvi hbox hzu hzl hfree ht) (h hw hwc)
  .exact λO a w' h1 h2 h3=>fin O a w' h1 h2 h3
  .exact λi O a w' h1 _ _=>h1.elim
  .exact λO a w' h1 h2 h3=>fin O a w' h1 h2 h3
  .have hil:i<vs.size:=(w?.1 hvi).1;refine⟨a_,λj u hp=>?_⟩;cases hp;have:=x_ hil;rw[this]at hvi;simp at hvi;simp[slot,w_,w!,hil,hvi]
 refine ⟨?_,hcalls.mono λe w' h=>h.2⟩;obtain⟨_,_,_,h1,_⟩:=hcalls [];exact h1.1
def Wk(cs'' cs':List AS):Prop:=cs''.length=cs'.length/\∀(i:Nat)(d:AS),cs'[i]?=Y d->∃d',cs''[i]?=Y d'/\(d=d'\/d=⟨T,.undef⟩)
theorem Wk.wf{b cs':List AS}(h:Wk b cs')(e:∀c∈b,c.t.WF):∀c∈cs',c.t.WF:=by
 intro c d;obtain⟨i,hi⟩:=List.getElem?_of_mem d;obtain⟨g,j,rfl|rfl⟩:=h.2 i c hi
 .grind
 .exact trivial
theorem Wk.cell{w:World}{ρ:JA}{z:Option (Nat×Nat)}{x:Value}{d b:AS}(h:d=b\/d=⟨T,.undef⟩)(e:BN w F ρ z b x):BN w F ρ z d x:=by
 rcases h with rfl|rfl
 .exact e
 .have:x.oneCell'=X:=by
   obtain ⟨o,t⟩:=b;cases o with
   |true=>exact P6 e|false=>exact e.2
  exact ⟨by simp[As];exact this,this⟩
def g7(rv:List RV)(cs cs':List AS)(i:Nat)(us:Fq)(O:AB):Prop:=∃cs'',Wk cs'' cs'/\Ba rv (.bo cs cs'' i us) O
theorem lc(hD:MS P fn.ntmps D)(hf:P.funcs[f]? =Y fn)(hb:fn.body=Y c)(hname:fn.name≠ "runtime.NumGoroutine")(hok:Dz P fn.ntmps D pl c=X)(hrv:HM P fn.results.toList rv=X)
  {args:Fq}(hn:args.length<=fn.ntmps){cs cs':List AS}(hcl:pl.sR=X)(hdst:pl.tl i=X)(h:TV.p0 args->(∀c∈cs,c.t.WF)->pl.wp (AT P) ⟨g7 rv cs cs' i us,λ_ _=>False,g7 rv cs cs' i us⟩ ((i,.bx cs)::DW 0 args)):AT P f args (.bo cs cs' i us):=by
 intro hw hwc;refine⟨n!,λF0 w vs v Z hrep hvi hbox hzu hzl hfree ht=>?_⟩;have hl:=BO hrep;simp at hl;have hcalls:Calls P f vs w λe w'=>((∀c∈cs',c.t.WF)/\TV.p0 us)/\∃r Z',e=.returned r/\Hg Z w w'/\Ow w' (λb o=>(b<w.heap.size/\F0 b o)\/ZF Z' b o) Z' cs' v/\
   KM Z'/\(∀q i b lo,Z' q i=Y (b,lo)->b<w'.heap.size/\(w.heap.size<=b\/∃p j lo',Z p j=Y (b,lo')/\lo'<=lo))/\
   RD w' (λb o=>(b<w.heap.size/\F0 b o)\/ZF Z' b o) us r:=by
  refine calls_of_wp hf hb ?_;have fin:∀(O:AB)(a:Act)(w':World),g7 rv cs cs' i us O->MT fn.ntmps (Y (i,v)) a->B8 F0 (W0.mk w (ZF Z)) O a w'->a.defers=[]/\∃r,(results fn a.tmps).run P w'=.ok r w'/\(((∀c∈cs',c.t.WF)/\TV.p0 us)/\∃r' Z',Ending.returned r=.returned r'/\Hg Z w w'/\Ow w' (λb o=>(b<w.heap.size/\F0 b o)\/ZF Z' b o) Z' cs' v/\
    KM Z'/\(∀q i b lo,Z' q i=Y (b,lo)->b<w'.heap.size/\(w.heap.size<=b\/∃p j lo',Z p j=Y (b,lo')/\lo'<=lo))/\
    RD w' (λb o=>(b<w.heap.size/\F0 b o)\/ZF Z' b o) us r'):=by
   rintro O a w' ⟨cs'',hwk,hs,hr⟩ hN ⟨G,hI⟩;have hag:Bs w' w' (AU w.heap.size F0 G) (λb o=>(b<w.heap.size/\F0 b o)\/ZF (B7 a G i) b o):=by
    refine λb o u hc hF=>⟨hc,?_⟩;rintro(h1|⟨q,j,lo,h1,h2⟩)
    .exact hF (.inl h1)
    .obtain⟨p,j',f1,_⟩:=CZ h1;exact hF (.inr ⟨p,j',lo,f1,h2⟩)
   have hisz:i<a.tmps.size:=Bv hI hs V;have hbx:=AZ hI hs V;have hwb:=hI.wf i;rw[hs]at hwb;rw[hN.pin i v rfl]at hbx;simp only[AN]at hbx;obtain⟨b,c,θ,k1,k2,k3,k4,k5⟩:=hbx;obtain⟨vs',e1,e2,e3⟩:=I0 (P:=P) hI hrv hr;have hm:=HC e1;have hshape:(results fn a.tmps)=(fn.results.mapM (G6 a.tmps)>>=λvs=>pure (if h:vs.size=1 then vs[0]else .tuple vs)):=by
    unfold results;congr 1
   have hlen:=BO e2;have hres:∃r,(results fn a.tmps).run P w'=.ok r w'/\RD w' (AU w.heap.size F0 G) us r:=by
    rw [hshape];by_cases h1:vs'.length=1
    .obtain⟨x,rfl⟩:=v!.1 h1;rcases us with _|⟨t,_|⟨t',us⟩⟩
     .simp at hlen
     .simp only[AQ]at e2;obtain⟨v',r',hv',e4,rfl⟩:=e2;simp at hv';subst hv';exact⟨x,by simp[hm],e4⟩
     .simp at hlen
    .refine⟨.tuple vs'.toArray,by simp[hm,h1],?_⟩;rcases us with _|⟨t,_|⟨t',us⟩⟩
     .exact⟨_,rfl,e2.toA⟩
     .grind
     .exact⟨_,rfl,e2.toA⟩
   obtain ⟨r,hr1,hr2⟩:=hres;refine⟨hI.defers,r,hr1,⟨hwk.wf hwb,e3⟩,r,B7 a G i,rfl,?_,⟨b,c,θ,k1,k2,k3.trans hwk.1,by rw[DZ];exact k4,λj d hj=>?_⟩,K3 hI hisz,λq j b lo f1=>?_,?_⟩
   .exact⟨hI.below.os,hI.below.tape,hI.below.output,hI.below.size,λk hk hz=>hI.below.block k hk (λo⟨q,j,lo,f1,_⟩=>hz q j lo f1),λb o u hz hu=>hI.below.cell b o u hz hu⟩
   .obtain⟨d',hd',hdd⟩:=hwk.2 j d hj;obtain⟨x,f1,f2⟩:=k5 j d' hd';refine⟨x,f1,Wk.cell hdd ?_⟩;rw[DZ];exact BN.tg (f2.kept hag (λ_ _ _=>rfl) BP.rfl') λg lo j' hz=>QG hz j'
   .obtain⟨p,j',g1,_⟩:=CZ f1;obtain⟨f2,f3⟩:=hI.lt _ _ _ _ g1;refine⟨f2,f3.imp id (λe=>?_)⟩;exact e lo (ae _)
   .rcases us with _|⟨t,_|⟨t',us⟩⟩
    .obtain⟨vs2,f1,f2⟩:=hr2;exact⟨vs2,f1,Aw hag _ _ f2⟩
    .exact CR hag _ _ hr2
    .obtain⟨vs2,f1,f2⟩:=hr2;exact⟨vs2,f1,Aw hag _ _ f2⟩
  refine O7 (p:=Y (i,v)) hD pl c hok (.inr hcl) (λj u hp=>by cases hp;exact hdst) _ _ ?_ ?_ ?_ _ _ w ?_ (B8.startB hrep hw hwc hvi hbox hzu hzl hfree ht) (h hw hwc)
  .exact λO a w' h1 h2 h3=>fin O a w' h1 h2 h3
  .exact λi O a w' h1 _ _=>h1.elim
  .exact λO a w' h1 h2 h3=>fin O a w' h1 h2 h3
  .have hil:i<vs.size:=(w?.1 hvi).1;refine⟨a_,λj u hp=>?_⟩;cases hp;have:=x_ hil;rw[this]at hvi;simp at hvi;simp[slot,w_,w!,hil,hvi]
 refine ⟨?_,hcalls.mono λe w' h=>h.2⟩;obtain⟨_,_,_,h1,_⟩:=hcalls [];exact h1.1
theorem ni(hD:MS P fn.ntmps D)(hf:P.funcs[f]? =Y fn)(hb:fn.body=Y c)(hname:fn.name≠ "runtime.NumGoroutine")(hok:Dz P fn.ntmps D pl c=X)(hrv:HM P fn.results.toList rv=X)
  {args:Fq}(hn:args.length<=fn.ntmps){cs:List AS}(hcl:pl.sR=X)(hp:r.plain=X)(hlo:r.lone=T)(h:TV.p0 args->(∀c∈cs,c.t.WF)->pl.wp (AT P) ⟨Ba rv r,λ_ _=>False,Ba rv r⟩ ((i,.zl cs)::DW 0 args)):AT P f args (.ag cs i r):=by
 intro hw hwc;refine⟨n!,λF0 w vs v Z hrep hvi hbox hzu hzl hfree ht=>?_⟩;have hl:=BO hrep;simp at hl;have hcalls:Calls P f vs w λe w'=>r.WF/\∃v',e=.returned v'/\Hg Z w w'/\cU w' (λb o=>b<w.heap.size/\F0 b o) (λb lo=>w.heap.size<=b\/∃p j lo',Z p j=Y (b,lo')/\lo'<=lo) r v':=by
  refine calls_of_wp hf hb ?_;have fin:∀(O:AB)(a:Act)(w':World),Ba rv r O->MT fn.ntmps W a->B8 F0 (W0.mk w (ZF Z)) O a w'->a.defers=[]/\∃v,(results fn a.tmps).run P w'=.ok v w'/\(r.WF/\∃v',Ending.returned v=.returned v'/\Hg Z w w'/\cU w' (λb o=>b<w.heap.size/\F0 b o) (λb lo=>w.heap.size<=b\/∃p j lo',Z p j=Y (b,lo')/\lo'<=lo) r v'):=by
   intro O a w' hr hN ⟨G,hI⟩;obtain⟨v,e1,_,e2,e3⟩:=Wj (P:=P) hI hrv (.inr hlo) hp hr;refine⟨hI.defers,v,e1,e3,v,rfl,⟨hI.below.os,hI.below.tape,hI.below.output,hI.below.size,λk hk hz=>hI.below.block k hk (λo⟨q,j,lo,f1,_⟩=>hz q j lo f1),λb o u hz hu=>hI.below.cell b o u hz hu⟩,?_⟩;have hN:∀b lo,(w.heap.size<=b\/∀o,lo<=o->ZF Z b o)->w.heap.size<=b\/∃p j lo',Z p j=Y (b,lo')/\lo'<=lo:=λb lo h=>h.imp id λe=>e lo (ae _);have e4:=e2 hlo;cases r with
   |sh t=>exact e4|tp ts=>exact e4|zl ds=>
    obtain ⟨Z',f1,f2,f3,f4⟩:=e4;exact⟨Z',f1,f2,f3,λq i b lo hz=>⟨(f4 q i b lo hz).1,hN _ _ (f4 q i b lo hz).2⟩⟩
   |_=>first|(exact Bool.noConfusion hp)|(exact Bool.noConfusion hlo)
  refine O7 (p:=W) hD pl c hok (.inr hcl) V _ _ ?_ ?_ ?_ _ _ w ?_ (B8.startA hrep hw hwc hvi hbox hzu hzl hfree ht) (h hw hwc)
  .exact λO a w' h1 h2 h3=>fin O a w' h1 h2 h3
  .exact λi O a w' h1 _ _=>h1.elim
  .exact λO a w' h1 h2 h3=>fin O a w' h1 h2 h3
  .exact⟨a_,V⟩
 refine ⟨?_,hcalls.mono λe w' h=>h.2⟩;obtain⟨_,_,_,h1,_⟩:=hcalls [];exact h1.1
theorem nk(hD:MS P fn.ntmps D)(hf:P.funcs[f]? =Y fn)(hb:fn.body=Y c)(hname:fn.name≠ "runtime.NumGoroutine")(hok:Dz P fn.ntmps D pl c=X)(hrv:HM P fn.results.toList rv=X)
  {args:Fq}(hn:args.length<=fn.ntmps){kvs:Bf}(h:TV.p0 args->pl.wp (AT P) ⟨Ba rv (.mpr kvs ts),λ_ _=>False,Ba rv (.mpr kvs ts)⟩ (DW 0 args)):AT P f args (.mpr kvs ts):=by
 intro hw;refine⟨n!,λF0 w vs hrep ht=>?_⟩;have hl:=BO hrep;simp at hl;have hcalls:Calls P f vs w λe w'=>(∃v,e=.returned v/\Below w.heap.size w w'/\JS w' (λb o=>b<w.heap.size/\F0 b o) w.heap.size (.mpr kvs ts) v)/\(Az.mpr kvs ts).WF:=by
  refine calls_of_wp hf hb ?_;have fin:∀(O:AB)(a:Act)(w':World),Ba rv (.mpr kvs ts) O->MT fn.ntmps W a->B8 F0 (W0.mk w λ_ _=>False) O a w'->a.defers=[]/\∃v,(results fn a.tmps).run P w'=.ok v w'/\((∃v',Ending.returned v=.returned v'/\Below w.heap.size w w'/\JS w' (λb o=>b<w.heap.size/\F0 b o) w.heap.size (.mpr kvs ts) v')/\(Az.mpr kvs ts).WF):=by
   intro O a w' hr hN ⟨G,hI⟩;rcases rv with _|⟨⟨s⟩|⟨s,_⟩,rs⟩
   .exact hr.elim
   .obtain⟨hne,⟨b,o,h1,h2⟩,h3⟩:=hr;have hg:Eu O (.tmp s::rs)=Y (.AaF b::ts):=by simp[Eu,RV.get,h1,EV.val,h3]
    obtain ⟨us,e1,e2,e3⟩:=I0 (P:=P) hI hrv hg;have hm:=HC e1;have hshape:(results fn a.tmps)=(fn.results.mapM (G6 a.tmps)>>=λvs=>pure (if h:vs.size=1 then vs[0]else .tuple vs)):=by
     unfold results;congr 1
    simp [AQ]at e2;obtain⟨v0,us',rfl,e4,e5⟩:=e2;simp[As]at e4;subst e4;have hor:=AZ hI h2 V;have how:=hI.wf o;rw[h2]at how;simp[AN]at hor;obtain⟨k1,k2,k3⟩:=hor;have hlt:=hI.lt _ _ _ _ k2;have hus:us'.length≠0:=by
     have h6:=BO e5;have:ts.length=rs.length:=by
      have:∀(ys:List RV)(ts:Fq),Eu O ys=Y ts->ts.length=ys.length:=by
       intro ys
       induction ys with
       |nil=>intro ts h;simp[Eu]at h;subst h;rfl|cons y ys ih=>
        grind [Eu,q0]
      exact this _ _ h3
     grind
    have hag:Bs w' w' (AU w.heap.size F0 G) (λb o=>b<w.heap.size/\F0 b o):=λb o u hc hF=>⟨hc,λhF'=>hF (.inl hF')⟩;refine⟨hI.defers,.tuple (Value.map (Y b)::us').toArray,?_,⟨_,rfl,⟨hI.below.os,hI.below.tape,hI.below.output,hI.below.size,λk hk=>hI.below.block k hk (λ_ h=>h)⟩,b,us',rfl,hlt.2.resolve_right (λe=>e _ (ae _)),hlt.1,k3,Aw hag _ _ e5⟩,how,e3.2⟩;rw[hshape];have:¬us'.length=0:=hus;simp[hm,this]
   .exact hr.elim
  refine O7 (p:=W) hD pl c hok (.inl λ_ _ h=>h) V _ _ ?_ ?_ ?_ _ _ w ?_ (B8.start hrep hw ht) (h hw)
  .exact λO a w' h1 h2 h3=>fin O a w' h1 h2 h3
  .grind
  .exact λO a w' h1 h2 h3=>fin O a w' h1 h2 h3
  .exact⟨a_,V⟩
 refine ⟨?_,hcalls.mono λe w' h=>h.1⟩;obtain⟨_,_,_,h1,_⟩:=hcalls [];exact h1.2
end
end Go.Sf
