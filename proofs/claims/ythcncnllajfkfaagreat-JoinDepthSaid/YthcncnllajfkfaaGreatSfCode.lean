/- Code, and functions. -/
import Derived.Test.YthcncnllajfkfaaGreatSfRegion
set_option linter.all false
open Option renaming some->Y,none->W
open Bool renaming true->X,false->T
open List renaming all_eq_true->w_,mem_of_getElem?->w!,mapM_cons->w?,length_eq_one_iff->x_
open Array renaming replicate->x!,getD_eq_getD_getElem?->x?,getElem?_append->y_,getElem?_eq_some_iff->y!,getElem?_eq_getElem->y?
open Nat renaming zero_le->z_,sub_zero->z!
namespace Go.Sf
open Go.RowKit (Below)
def D1(P:Program)(N:Nat)(D:QQ->Array Oper->List PR->Bool):PC->Code->Bool
 |.skip _,.skip=>X|.ret,.ret=>X|.exit i _,.exit j=>i==j|.seq a b,.seq c d=>D1 P N D a c&&D1 P N D b d|.cond c a b,.cond x p q=>AK x c&&(D1 P N D a p&&D1 P N D b q)|.block i c,.block j d=>i==j&&D1 P N D c d|.loop _ c,.loop d=>D1 P N D c d|.region rs _,.region _ ops draw=>!draw&&N3 P N ops ops.toList rs|.draw ds rs _,.region _ ops draw=>draw&&D ds ops rs|.rls _ a,c=>D1 P N D a c|.bad,_=>X|_,_=>T
def PC.x9:PC->Bool
 |.seq a b=>a.x9&&b.x9|.cond _ a b=>a.x9&&b.x9|.block _ c=>c.x9|.loop _ c=>c.x9|.rls _ c=>c.x9|_=>X
def zt(i:Nat)(rs:List PR):Bool:=rs.all λr=>r.dst !=Y i
def PC.zt(i:Nat):PC->Bool
 |.seq a b=>a.zt i&&b.zt i|.cond _ a b=>a.zt i&&b.zt i|.block _ c=>c.zt i|.loop _ c=>c.zt i|.rls _ c=>c.zt i|.region rs _=>Go.Sf.zt i rs|.draw _ rs _=>Go.Sf.zt i rs|_=>X
variable{i:Nat}
theorem Yf{b:List PR}(h:zt i b=X):∀r∈b,r.dst≠Y i:=by
 intro r hr;have:=w_.1 h r hr;simpa using this
section
variable{P:Program}{F0:Nat->Nat->Prop}{w0:W0}{N:Nat}{p:Option (Nat×Value)}{D:QQ->Array Oper->List PR->Bool}
theorem B9.envWF{O:AB}{a:Act}{w:World}(h:B9 F0 w0 O a w):∀s,(O.get s).WF:=by
 obtain ⟨G,h⟩:=h;exact h.wf
def MS(P:Program)(N:Nat)(D:QQ->Array Oper->List PR->Bool):Prop:=
 ∀(F0:Nat->Nat->Prop)(w0:W0)(p:Option (Nat×Value))(id:Nat)(ds:QQ)(ops:Array Oper)(rs:List PR)(live:QQ)(O:AB)(a:Act)(w:World)(K:AB->Prop)(Q:Exit->Act->World->Prop),D ds ops rs=X->(∀i v,p=Y (i,v)->∀r∈rs,r.dst≠Y i)->MT N p a->B9 F0 w0 O a w->Th O ds=X->wpOps (AV P) (λe=>K (e.fl live)) rs O ->
  (∀O a w,K O->MT N p a->B9 F0 w0 O a w->Q .normal a w)->(Code.region id ops X).wp P Q a w
theorem PG(hD:MS P N D):∀(η:PC)(c:Code),D1 P N D η c=X->((∀b o,¬w0.E b o)\/η.x9=X)->(∀i v,p=Y (i,v)->η.zt i=X)->∀(q:Q)(A:Exit->Act->World->Prop),
  (∀O a w,q.normal O->MT N p a->B9 F0 w0 O a w->A .normal a w)->(∀i O a w,q.exit i O->MT N p a->B9 F0 w0 O a w->A (.exit i) a w)->(∀O a w,q.ret O->MT N p a->B9 F0 w0 O a w->A .ret a w) ->
  ∀O a w,MT N p a->B9 F0 w0 O a w->η.wp (AV P) q O->c.wp P A a w:=by
 intro η
 induction η with
 |skip l=>
  intro c g K t q A C H I O a w u m h;cases c<;>simp[D1]at g<;>first|exact Go.wp_skip (C _ a w h u (m.fl l))|cases g
 |ret=>
  intro c g K t q A C H I O a w u m h;cases c<;>simp[D1]at g<;>first|exact Go.wp_ret (I O a w h u m)|cases g
 |exit i l=>
  intro c g K t q A C H I O a w u m h;cases c<;>simp only[D1]at g<;>first|cases g|skip
  simp at g;subst g;exact Go.wp_exit (H i _ a w h u (m.fl l))
 |seq x y ε κ=>
  intro c g K t q A C H I O a w u m h;cases c<;>simp only[D1]at g<;>first|cases g|skip
  rename_i c d;simp at g;have M:=K.imp id (λe=>(pq _ _▸e:x.x9=X/\y.x9=X));have R:=λi v J=>(pq _ _▸t i v J:x.zt i=X/\y.zt i=X);refine Go.wp_seq (ε c g.1 (M.imp id And.left) (λi v J=>(R i v J).1) _ _ ?_ ?_ ?_ O a w u m h)
  .intro O a w L u m;exact κ d g.2 (M.imp id And.right) (λi v J=>(R i v J).2) q A C H I O a w u m (L m.envWF)
  .exact H
  .exact I
 |cond o x y ε κ=>
  intro c g K t q A C H I O a w u m h;cases c<;>simp only[D1]at g<;>first|cases g|skip
  rename_i c d e;simp at g;simp[PC.wp]at h;split at h
  .rename_i b hb;have hc:a.eval c=.bool b:=by
    obtain ⟨G,m⟩:=m;have:=(BD m g.1 hb).1
    grind [A1]
   have M:=K.imp id (λe=>(pq _ _▸e:x.x9=X/\y.x9=X));have R:=λi v J=>(pq _ _▸t i v J:x.zt i=X/\y.zt i=X);refine Go.wp_cond_split hc (λhb=>?_) (λhb=>?_)
   .exact ε d g.2.1 (M.imp id And.left) (λi v J=>(R i v J).1) q A C H I O a w u m (h.1 hb)
   .exact κ e g.2.2 (M.imp id And.right) (λi v J=>(R i v J).2) q A C H I O a w u m (h.2 hb)
  .exact h.elim
 |block i x ih=>
  intro c g K t q A C H I O a w u m h;cases c<;>simp only[D1]at g<;>first|cases g|skip
  rename_i j d;simp at g;obtain⟨rfl,g⟩:=g;refine Go.wp_block (ih d g K t _ _ ?_ ?_ ?_ O a w u m h)
  .exact C
  .intro k O a w L u m;simp[Exit.inBlock];simp only at L;split
   next e=>rw[ac e]at L;exact C O a w L u m
   next e=>rw[ae e]at L;exact H k O a w L u m
  .exact I
 |loop B x ih=>
  intro c g K t q A C H I O a w u m h;cases c<;>simp[D1]at g<;>first|cases g|skip
  rename_i c;simp[PC.wp]at h
  let δ:Act->World->Prop:=λa w=>∀(b:Frame)(k:List Item)(cs:List Frame),∃e a' w',A e a' w'/\Arrives P (lone (b.at a (.code c::.inLoop c::k)) cs w) b k cs e a' w'
  have hX:=h (λe=>∀a w,MT N p a->B9 F0 w0 e a w->δ a w) ?_ a w u (m.fl B)
  .intro b k cs;obtain⟨e,a',w',S,z⟩:=hX b k cs;exact⟨e,a',w',S,.of_steps (.one step_loop) z⟩
  .intro e he a w u m;have hb:c.wp P (Exit.then δ A) a w:=by
    refine ih c g K t _ _ ?_ ?_ ?_ e a w u m (he m.envWF)
    .intro O a w L u m;exact L a w u (m.fl B)
    .exact H
    .exact I
   intro b k cs;obtain⟨e,a₁,w₁,S,z⟩:=hb b (.inLoop c::k) cs;cases e with
   |normal=>
    obtain ⟨e₂,a₂,w₂,hq₂,θ⟩:=S b k cs;exact⟨e₂,a₂,w₂,hq₂,.of_steps (Steps.trans z (.one step_inLoop)) θ⟩
   |exit id=>exact⟨_,a₁,w₁,S,.pass (x:=.inLoop c) rfl (λ_ _=>.inl V) z⟩|goto l=>exact⟨_,a₁,w₁,S,.pass (x:=.inLoop c) rfl (λ_ _=>.inl V) z⟩|ret=>exact⟨_,a₁,w₁,S,.pass (x:=.inLoop c) rfl (λ_ _=>.inl V) z⟩|panic ch=>exact⟨_,a₁,w₁,S,.pass (x:=.inLoop c) rfl (λ_ _=>.inl V) z⟩|outgrown=>exact⟨_,a₁,w₁,S,.pass (x:=.inLoop c) rfl (λ_ _=>.inl V) z⟩
 |region rs B=>
  intro c g K t q A C H I O a w u m h;cases c<;>simp only[D1]at g<;>first|cases g|skip
  rename_i id ops draw;simp[Bool.not_eq_true']at g;obtain⟨rfl,g⟩:=g;exact fw g (λi v J=>Yf (t i v J)) u m h λO a w L u m=>C _ a w L u (m.fl B)
 |draw ds rs B=>
  intro c g K t q A C H I O a w u m h;cases c<;>simp only[D1]at g<;>first|cases g|skip
  rename_i id ops draw;simp at g;obtain⟨rfl,g⟩:=g;exact hD F0 w0 p id ds ops rs B O a w q.normal A g (λi v J=>Yf (t i v J)) u m h.1 h.2 C
 |bad=>
  intro c g K t q A C H I O a w u m h;exact h.elim
 |rls s x ih=>
  intro c g K t q A C H I O a w u m h;have ζ:D1 P N D x c=X:=by
   grind [D1]
  simp [PC.wp]at h;split at h
  next cs hs=>obtain⟨G,m⟩:=m;exact ih c ζ (K.imp id λe=>e) t q A C H I _ a w u (m.rls hs) h
  .exact h.elim
def DV:Nat->Fq->AB
 |_,[]=>[]|k,t::ts=>(k,.tv t)::DV (k+1) ts
theorem K5:∀(ts:Fq)(k n:Nat),AB.get (DV k ts) n=if k<=n then(match ts[n-k]? with|some t=>.tv t|none=>.undef)else .undef
 |[],k,n=>by simp[DV,AB.get]|t::ts,k,n=>by
  rw [DV,AB.eb,K5 ts (k+1) n]
  grind
variable{ts:Fq}{n:Nat}
theorem B9.start{w:World}{F0:Nat->Nat->Prop}{vs:Array Value}(h:AQ w F0 ts vs.toList)(j:TV.tc ts)(d:VD w):B9 F0 (W0.mk w λ_ _=>False) (DV 0 ts) {tmps:=vs++x! n undef,defers:=[]} w:=by
 have q:=BX h;simp at q;refine⟨λ_ _=>W,V,V,⟨rfl,rfl,rfl,az _,λ_ _ _=>rfl,λ_ _ _ _ h=>h,λ_ _ _ h=>h.elim,d,λ_ _ h=>h.elim⟩,rfl,λs k=>?_,λs k=>?_,λs=>?_⟩
 .rw[K5]
  grind
 .rw[K5,ac (z_ _),z!];cases d:ts[s]? with
  |none=>trivial|some t=>
   have e:s<vs.size:=by
    grind
   have hv:vs.toList[s]?=Y (slot {tmps:=vs++x! n undef,defers:=[]} s):=by
    simp [slot,x?,y_,e]
   refine CR (λb o u l m=>⟨l,?_⟩) _ _ (((Bs _ _).1 h).2 s t _ d hv);rintro(g|⟨_,_,_,g,_⟩)
   .exact m g.2
   .cases g
 .rw[K5,ac (z_ _),z!];cases d:ts[s]? with
  |none=>trivial|some t=>exact B7.1 j t (w! d)
def SW(P:Program):ResultVar->RV->Bool
 |.tmp t,.tmp s=>t==s|.cell x t,.cell s W=>x==s&&CL P t==Y T|.cell x t,.cell s (Y n)=>x==s&&CL P t==Y X&&DB P t==Y n|_,_=>T
def G9(P:Program):List ResultVar->List RV->Bool
 |[],[]=>X|x::xs,y::ys=>SW P x y&&G9 P xs ys|_,_=>T
def Gv(tmps:Array Value):ResultVar->Sem Value
 |.tmp t=>pure (tmps.getD t undef)|.cell a t=>do loadVar t (<-asAddr (tmps.getD a undef))
variable{O:AB}{a:Act}{w:World}{G:Bi}
theorem cU(m:AO F0 w0 O a w G){x:ResultVar}{y:RV}(d:SW P x y=X){t:TV}(h:y.get O=Y t):∃v,(Gv a.tmps x).run P w=.ok v w/\A1 w (AW w0.heap.size F0 G) t v/\t.WF:=by
 have e:∀s,AK (.tmp s) (.s s)=X:=λs=>q_
 cases x with
 |tmp s=>
  cases y with
  |tmp s'=>
   simp [SW]at d;subst d;have:=BD m (e s) (t:=t) h;exact⟨slot a s,rfl,this⟩
  |cell s' n=>cases n<;>simp[SW]at d
 |cell s ty=>
  cases y with
  |tmp _=>cases d
  |cell s' n=>
   cases n with
   |none=>
    simp [SW]at d;obtain⟨rfl,z⟩:=d;simp[RV.get]at h;split at h
    next u r o=>simp at h;subst h;obtain⟨b,g,vs,A,l,B,_,C⟩:=So m (e s) (y:=.s s) o;simp[AQ]at l;obtain⟨v,M,rfl,K,Q⟩:=l;have H:=C 0 v rfl;rw[Addr.add_zero']at H;have k:a.tmps.getD s undef=.pointer (Y ⟨b,g,W⟩):=A;refine⟨v,?_,K,B.1⟩;simp[Gv,k,loadVar,Cz z,H,asAddr]
    .cases h
   |some n=>
    simp [SW]at d;obtain⟨⟨rfl,z⟩,L⟩:=d;simp[RV.get]at h;split at h
    .rename_i cs o;split at h
     .rename_i q;simp at h;subst h;obtain⟨b,g,vs,A,l,B,E,C⟩:=So m (e s) (y:=.s s) o;have J:=BX l;have j:=run_loadCells_list (P:=P) w ⟨b,g,W⟩ vs C;rw[J,q]at j;have k:a.tmps.getD s undef=.pointer (Y ⟨b,g,W⟩):=A;refine⟨.agg vs.toArray,?_,?_,B⟩
      .simp[Gv,k,loadVar,Cz z,CQ L,j,asAddr]
      .simp only[A1];exact⟨_,rfl,l,by rw[w_];exact λx I=>E x I⟩
     .cases h
    .cases h
theorem It(d:AO F0 w0 O a w G):∀{xs:List ResultVar}{ys:List RV},G9 P xs ys=X->∀{ts:Fq},Er O ys=Y ts->∃vs,(xs.mapM (Gv a.tmps)).run P w=.ok vs w/\AQ w (AW w0.heap.size F0 G) ts vs/\TV.tc ts
 |[],[],_,ts,h=>by simp[Er]at h;subst h;exact⟨[],V,rfl,trivial⟩|[],_::_,b,_,_=>by simp[G9]at b|_::_,[],b,_,_=>by simp[G9]at b|x::xs,y::ys,b,ts,h=>by
  simp [G9]at b;simp[Er]at h;split at h
  next t us e g=>simp at h;subst h;obtain⟨v,j,k,l⟩:=cU d b.1 e;obtain⟨vs,m,o,q⟩:=It d b.2 g;exact⟨v::vs,by simp[w?,j,m],⟨v,vs,rfl,k,o⟩,l,q⟩
  .cases h
theorem G0{f:ResultVar->Sem Value}{xs:Array ResultVar}{vs:List Value}{w':World}(h:(xs.toList.mapM f).run P w=.ok vs w'):(xs.mapM f).run P w=.ok vs.toArray w':=by
 rw [<-Array.toArray_toList (xs:=xs),List.mapM_toArray];simp[h]
variable{F:Nat->Nat->Prop}
theorem AQ.toA{vs:List Value}(h:AQ w F ts vs):AQ w F ts vs.toArray.toList:=b?
def A9.lone:A9->Bool
 |.own _=>X|.Aa9 _ _=>X|_=>T
variable{fn:Func}{r:A9}
theorem XA(H:AO F0 w0 O a w G){ys:List RV}(k:G9 P fn.results.toList ys=X)(M:(∀b o,¬w0.E b o)\/r.lone=T)(I:r.plain=X)(h:Bb ys r O):
  ∃v,(results fn a.tmps).run P w=.ok v w/\((∀b o,¬w0.E b o)->JL w (λb o=>b<w0.heap.size/\F0 b o) w0.heap.size r v)/\(r.lone=T->cY w (λb o=>b<w0.heap.size/\F0 b o) (λb lo=>w0.heap.size<=b\/∀o,lo<=o->w0.E b o) r v)/\r.WF:=by
 have C:∀ts,Er O ys=Y ts->∃vs:List Value,(fn.results.mapM (Gv a.tmps)).run P w=.ok vs.toArray w/\AQ w (AW w0.heap.size F0 G) ts vs/\TV.tc ts:=by
  grind [It,G0]
 have l:(results fn a.tmps)=(fn.results.mapM (Gv a.tmps)>>=λvs=>pure (if h:vs.size=1 then vs[0]else .tuple vs)):=by
  unfold results;congr 1
 have L:Bt w w (AW w0.heap.size F0 G) (λb o=>b<w0.heap.size/\F0 b o):=λb o u ε κ=>⟨ε,λhF'=>κ (.inl hF')⟩;cases r with
 |sh t=>
  have z:∃x,ys=[x]/\x.get O=Y t:=by
   rcases ys with _|⟨x,_|⟨y,ys⟩⟩<;>simp[Bb]at h;exact⟨x,rfl,h⟩
  obtain ⟨x,rfl,ζ⟩:=z;obtain⟨vs,δ,K,e3⟩:=C [t] (by simp[Er,ζ]);simp only[AQ]at K;obtain⟨v,r',rfl,e4,rfl⟩:=K;refine⟨v,?_,λ_=>CR L _ _ e4,λ_=>CR L _ _ e4,e3.1⟩;rw[l];simp[δ]
 |own t=>
  have z:∃s,ys=[.tmp s]/\O.get s=.ow t:=by
   rcases ys with _|⟨x,_|⟨y,ys⟩⟩
   .simp[Bb]at h
   .cases x<;>simp[Bb]at h;exact⟨_,rfl,h⟩
   .simp[Bb]at h
  obtain ⟨s,rfl,J⟩:=z;obtain⟨vs,δ,K,e3⟩:=C [t] (by simp[Er,RV.get,J,EV.val]);have hr:SW P (.tmp s) (.tmp s)=X:=by simp[SW]
  have A:=At H J V;have B:=H.wf s;rw[J]at B;simp[AN]at A;have m:fn.results.toList=[.tmp s]:=by
   rcases ζ:fn.results.toList with _|⟨x,_|⟨y,xs⟩⟩<;>rw[ζ]at k
   .simp[G9]at k
   .cases x<;>simp[G9,SW]at k;rw[k]
   .simp[G9]at k
  have hv:(results fn a.tmps).run P w=.ok (slot a s) w:=by
   rw [l];have hm:(fn.results.mapM (Gv a.tmps)).run P w=.ok [slot a s].toArray w:=by
    refine G0 ?_;rw[m];simp[w?,Gv,slot]
   simp [hm]
  replace M:=M.resolve_right (by simp[A9.lone]);refine⟨slot a s,hv,λ_=>⟨G s W,A.kept (λb o u ε κ=>⟨ε,?_⟩) (λ_ _ _=>rfl),λb lo hb=>?_⟩,λe=>by simp[A9.lone]at e,B⟩
  .rintro(z|⟨lo,z,η⟩)
   .exact κ (.inl z)
   .exact κ (.inr ⟨s,W,lo,z,η⟩)
  .have:=H.lt _ _ _ _ hb;exact⟨this.2.resolve_right (λe=>M _ _ (e _ (az _))),this.1⟩
 |tp ts=>
  simp [Bb]at h;have hne:ys.length≠1:=by
   grind
  have η:Er O ys=Y ts:=by
   grind
  obtain ⟨vs,δ,K,e3⟩:=C ts η;have hlen:vs.length≠1:=by
   rw [BX K];have:∀(ys:List RV)(ts:Fq),Er O ys=Y ts->ts.length=ys.length:=by
    intro ys
    induction ys with
    |nil=>intro ts h;simp[Er]at h;subst h;rfl|cons y ys ih=>
     grind [Er,tl]
   grind
  refine ⟨.tuple vs.toArray,?_,λ_=>⟨vs.toArray,rfl,(A7 L _ _ K).toA⟩,λ_=>⟨vs.toArray,rfl,(A7 L _ _ K).toA⟩,e3⟩;rw[l];simp[δ,hlen]
 |Aa9 n es=>
  have z:∃s,ys=[.tmp s]/\O.get s=.xo n es:=by
   rcases ys with _|⟨x,_|⟨y,ys⟩⟩
   .simp[Bb]at h
   .cases x<;>simp[Bb]at h;exact⟨_,rfl,h⟩
   .simp[Bb]at h
  obtain ⟨s,rfl,J⟩:=z;have A:=At H J V;have B:=H.wf s;rw[J]at B;simp[AN]at A;obtain⟨xs,⟨z0,k1,k2⟩,k3,k4,k5⟩:=A;have m:fn.results.toList=[.tmp s]:=by
   rcases ζ:fn.results.toList with _|⟨x,_|⟨y,xs⟩⟩<;>rw[ζ]at k
   .simp[G9]at k
   .cases x<;>simp[G9,SW]at k;rw[k]
   .simp[G9]at k
  have hv:(results fn a.tmps).run P w=.ok (slot a s) w:=by
   rw [l];have hm:(fn.results.mapM (Gv a.tmps)).run P w=.ok [slot a s].toArray w:=by
    refine G0 ?_;rw[m];simp[w?,Gv,slot]
   simp [hm]
  replace M:=M.resolve_right (by simp[A9.lone]);refine⟨slot a s,hv,λ_=>⟨z0,xs,k1,A7 (λb o u ε hf=>⟨ε,λhf'=>hf ?_⟩) _ _ k3,k4,k5,λb lo hb=>?_⟩,λe=>by simp[A9.lone]at e,B⟩
  .rcases hf' with h6|⟨lo,h6⟩
   .exact .inl h6
   .exact .inr ⟨s,W,0,by rw[k2,h6];rfl,z_ _⟩
  .have:=H.lt s W b 0 (by rw[k2,hb];rfl);exact⟨this.2.resolve_right (λe=>M _ _ (e _ (az _))),this.1⟩
 |turn _ _=>cases I
 |cut zs=>exact h.elim|mpr _ _=>cases I
 |ag _ _ _=>cases I
 |bo _ _ _ _=>cases I
 |ext _=>cases I
 |oag cs=>
  have z:∃s n,ys=[.cell s (Y n)]/\O.get s=.bx cs/\cs.length=n:=by
   rcases ys with _|⟨x,_|⟨y,ys⟩⟩
   .simp[Bb]at h
   .rcases x with s|⟨s,_|n⟩
    .simp[Bb]at h
    .simp[Bb]at h
    .exact⟨s,n,rfl,h⟩
   grind [Bb]
  obtain ⟨s,n,rfl,J,hn⟩:=z;have hbx:=At H J V;have B:=H.wf s;rw[J]at B;simp only[AN]at hbx;obtain⟨b,c,θ,k1,k2,k3,k4,k5⟩:=hbx;have m:∃ty,fn.results.toList=[.cell s ty]/\CL P ty=Y X/\DB P ty=Y n:=by
   rcases ζ:fn.results.toList with _|⟨x,_|⟨y,xs⟩⟩<;>rw[ζ]at k
   .simp[G9]at k
   .cases x<;>simp[G9,SW]at k;obtain⟨⟨rfl,z⟩,η⟩:=k;exact⟨_,rfl,z,η⟩
   .simp[G9]at k
  obtain ⟨ty,m,hag',hcn⟩:=m;have hv:(results fn a.tmps).run P w=.ok (.agg c) w:=by
   rw [l];have R:=run_loadCells_list (P:=P) w ⟨b,0,W⟩ c.toList (λj v hv=>by
    have:=cell_of_row w b j c θ (0,0) k2;rw[show((⟨b,0,W⟩:Addr).add j)=⟨b,j,W⟩by simp[Addr.add];omega,this];simpa using hv)
   rw [Array.length_toList,k3,hn]at R;have h1':a.tmps.getD s undef=.pointer (Y ⟨b,0,W⟩):=k1;have hm:(fn.results.mapM (Gv a.tmps)).run P w=.ok [.agg c].toArray w:=by
    refine G0 ?_;rw[m];simp[w?,Gv,h1',loadVar,Cz hag',CQ hcn,R,asAddr]
   simp [hm]
  have hsz:s<a.tmps.size:=Bw H J V
  let Z:Dt:=λq i=>if q=0/\i=W then W else B8 a G s q i
  have hZ:∀{q i b lo},Z q i=Y (b,lo)->B8 a G s q i=Y (b,lo):=by
   intro q i b lo Q;simp only[Z]at Q;split at Q
   .cases Q
   .exact Q
  have S:∀N:Nat->Nat->Prop,(∀b lo,b<w.heap.size->(w0.heap.size<=b\/∀o,lo<=o->w0.E b o)->N b lo)->dH w (λb o=>b<w0.heap.size/\F0 b o) N cs (.agg c):=by
   intro N hN;refine⟨Z,⟨c,rfl,k3,λi d hd=>?_⟩,λq i q' i' b lo lo' δ K=>Kx H hsz _ _ _ _ _ _ _ (hZ δ) (hZ K),by simp[Z],λq i b lo Q=>?_⟩
   .obtain⟨x,j1,j2⟩:=k5 i d hd;have hz0:Z 0 (Y i)=G s (Y i):=by simp[Z,Db]
    refine ⟨x,j1,?_,Hj j2⟩;rw[hz0];refine BW.x7 (j2.kept (λb o u ε κ=>⟨ε,?_⟩) (λ_ _ _=>rfl) BY.rfl') (λg lo j Q=>?_)
    .rintro(z|⟨q,j,lo,z,η⟩)
     .exact κ (.inl z)
     .obtain⟨p,j',f1,_⟩:=Ca (hZ z);exact κ (.inr ⟨p,j',lo,f1,η⟩)
    .simp only[Dt.x7,Z];rw[ae U];exact QY Q j
   .obtain⟨p,j',f1,_⟩:=Ca (hZ Q);have:=H.lt _ _ _ _ f1;exact⟨this.1,hN _ _ this.1 this.2⟩
  refine ⟨.agg c,hv,λM=>S _ λb lo _ hb=>hb.resolve_right (λe=>M _ _ (e _ (az _))),λ_=>S _ λb lo _ hb=>hb,B⟩
variable{f:FuncId}{c:Code}{pl:PC}{rv:List RV}
theorem eD(hD:MS P fn.ntmps D)(hf:P.funcs[f]? =Y fn)(hb:fn.body=Y c)(hname:fn.name≠ "runtime.NumGoroutine")(hok:D1 P fn.ntmps D pl c=X)(hrv:G9 P fn.results.toList rv=X)
  {args:Fq}(hn:args.length<=fn.ntmps)(hp:r.plain=X)(h:TV.tc args->pl.wp (AV P) ⟨Bb rv r,λ_ _=>False,Bb rv r⟩ (DV 0 args)):AV P f args r:=by
 refine AV.of0 ?_ hp;intro hw;refine⟨o1,λF0 w vs hrep ht=>?_⟩;have hl:=BX hrep;simp at hl;have hcalls:Calls P f vs w λe w'=>(∃v,e=.returned v/\Below w.heap.size w w'/\JL w' (λb o=>b<w.heap.size/\F0 b o) w.heap.size r v)/\r.WF:=by
  refine calls_of_wp hf hb ?_;have fin:∀(O:AB)(a:Act)(w':World),Bb rv r O->MT fn.ntmps W a->B9 F0 (W0.mk w λ_ _=>False) O a w'->a.defers=[]/\∃v,(results fn a.tmps).run P w'=.ok v w'/\((∃v',Ending.returned v=.returned v'/\Below w.heap.size w w'/\JL w' (λb o=>b<w.heap.size/\F0 b o) w.heap.size r v')/\r.WF):=by
   intro O a w' hr hN ⟨G,hI⟩;obtain⟨v,e1,e2,_,e3⟩:=XA (P:=P) hI hrv (.inl λ_ _ h=>h) hp hr;exact⟨hI.defers,v,e1,⟨v,rfl,⟨hI.below.os,hI.below.tape,hI.below.output,hI.below.size,λk hk=>hI.below.block k hk (λ_ h=>h)⟩,e2 λ_ _ h=>h⟩,e3⟩
  refine PG (p:=W) hD pl c hok (.inl λ_ _ h=>h) V _ _ ?_ ?_ ?_ _ _ w ?_ (B9.start hrep hw ht) (h hw)
  .exact λO a w' h1 h2 h3=>fin O a w' h1 h2 h3
  .grind
  .exact λO a w' h1 h2 h3=>fin O a w' h1 h2 h3
  .exact⟨an,V⟩
 refine ⟨?_,hcalls.mono λe w' h=>h.1⟩;obtain⟨_,_,_,h1,_⟩:=hcalls [];exact h1.2
def WC(i m:Nat)(Z:Dt):Bi:=λs=>if s=i then Z 0 else if m<=s then(λj=>match j with|some j=>Z (s-m+1) (Y j)|none=>W)else λ_=>W
variable{Z:Dt}
theorem iQ{i m:Nat}{p:Nat}{j:Option Nat}{b lo:Nat}(h:WC i m Z p j=Y (b,lo)):(p=i/\Z 0 j=Y (b,lo))\/(p≠i/\m<=p/\Z (p-m+1) j=Y (b,lo)):=by
 simp [WC]at h
 grind
variable{i:Nat}{v:Value}
theorem B9.startZ{w:World}{F0:Nat->Nat->Prop}{vs:Array Value}{e:EV}(h:AQ w (λb o=>F0 b o\/ZF Z b o) ts vs.toList)(Q:TV.tc ts)(C:e.WF)
  (hi:vs[i]?=Y v)(E:KF Z)(H:∀q i b lo,Z q i=Y (b,lo)->b<w.heap.size)(I:∀b o R,ZF Z b o->¬F0 b R)(d:ZD w (ZF Z))
  (hb:∀a:Act,slot a i=v->∀G:Bi,G i=Z 0->x7 a G=Z.x7->∀L,Bt w w (λb o=>F0 b o\/ZF Z b o) L->AN a w L G ((i,e)::DV 0 ts) i e v):
  B9 F0 (W0.mk w (ZF Z)) ((i,e)::DV 0 ts) {tmps:=vs++x! n undef,defers:=[]} w:=by
 have η:=BX h;simp at η;have l:i<vs.size:=(y!.1 hi).1
 let G:Bi:=WC i (vs.size+n) Z
 have A:∀p j b lo,G p j=Y (b,lo)->∃q,Z q j=Y (b,lo)/\((p=i/\q=0)\/(p≠i/\q=p-(vs.size+n)+1/\vs.size+n<=p)):=by
  intro p j b lo κ;rcases iQ κ with⟨z,K⟩|⟨z,K,M⟩
  .grind
  grind
 have m:Bt w w (λb o=>F0 b o\/ZF Z b o) (AW w.heap.size F0 G):=by
  refine λb o u S hf=>⟨S,?_⟩;rintro(⟨_,z⟩|⟨p,j,lo,z,K⟩)
  .exact hf (.inl z)
  .obtain⟨q,M,_⟩:=A _ _ _ _ z;exact hf (.inr ⟨q,j,lo,M,K⟩)
 have x:∀s(k:s<vs.size),slot {tmps:=vs++x! n undef,defers:=[]} s=vs[s]:=by
  intro s k;simp[slot,x?,y_,k]
 refine ⟨G,λp j p' j' b lo θ J ε=>?_,λp j b lo J=>?_,⟨rfl,rfl,rfl,az _,λ_ _ _=>rfl,λ_ _ _ _ h=>h,I,d⟩,rfl,λs k=>?_,λs k=>?_,λs=>?_⟩
 .obtain⟨q,B,f2⟩:=A _ _ _ _ J;obtain⟨q',δ,f4⟩:=A _ _ _ _ ε;have:=E _ _ _ _ _ _ _ B δ;exact⟨U,this.2⟩
 .obtain⟨q,B,_⟩:=A _ _ _ _ J;exact⟨H _ _ _ _ B,.inr λo ho=>⟨q,j,lo,B,ho⟩⟩
 .simp at k;rw[AB.eb,ae U,K5,ac (z_ _),List.getElem?_eq_none U]
 .rw[AB.eb];by_cases y:i=s
  .subst y;rw[ac rfl,x i l];have hv:vs[i]=v:=by
    grind
   rw [hv];refine hb _ (by rw[x i l,hv]) G (by simp[G,WC]) ?_ _ m;funext g j;simp only[x7,G,WC,Array.size_append,Array.size_replicate,Dt.x7];rw[ae U,ac U];show Z (vs.size+n+g-(vs.size+n)+1) (Y j)=Z (g+1) (Y j);rw[Nat.add_sub_cancel_left]
  .rw[ae y,K5,ac (z_ _),z!];cases d:ts[s]? with
   |none=>trivial|some t=>
    have ζ:s<vs.size:=by
     grind
    have hv:vs.toList[s]?=Y (slot {tmps:=vs++x! n undef,defers:=[]} s):=by
     grind
    exact CR m _ _ (((Bs _ _).1 h).2 s t _ d hv)
 .rw[AB.eb];split
  .exact C
  .rw[K5,ac (z_ _),z!];cases d:ts[s]? with
   |none=>trivial|some t=>exact B7.1 Q t (w! d)
theorem B9.startB{w:World}{F0:Nat->Nat->Prop}{vs:Array Value}{cs:List AR}(h:AQ w (λb o=>F0 b o\/ZF Z b o) ts vs.toList)(y:TV.tc ts)(g:∀c∈cs,c.t.WF)
  (hi:vs[i]?=Y v)(hb:O6 w (λb o=>F0 b o\/ZF Z b o) Z cs v)(k:KF Z)(l:∀q i b lo,Z q i=Y (b,lo)->b<w.heap.size)(m:∀b o A,ZF Z b o->¬F0 b A)(z:ZD w (ZF Z)):
  B9 F0 (W0.mk w (ZF Z)) ((i,.bx cs)::DV 0 ts) {tmps:=vs++x! n undef,defers:=[]} w:=by
 refine B9.startZ (e:=.bx cs) h y g hi k l m z λa ha G u hr M s=>?_;obtain⟨b,c,θ,C,E,H,I,J⟩:=hb;simp only[AN];refine⟨b,c,θ,C,E,H,by rw[u];exact I,λj d B=>?_⟩;obtain⟨x,K,L⟩:=J j d B;refine⟨x,K,?_⟩;rw[u,hr];exact L.kept s (λ_ _ _=>rfl) BY.rfl'
theorem B9.startA{w:World}{F0:Nat->Nat->Prop}{vs:Array Value}{cs:List AR}(h:AQ w (λb o=>F0 b o\/ZF Z b o) ts vs.toList)(u:TV.tc ts)(g:∀c∈cs,c.t.WF)
  (hi:vs[i]?=Y v)(hb:Xu w (λb o=>F0 b o\/ZF Z b o) Z cs v)(k:KF Z)(l:∀q i b lo,Z q i=Y (b,lo)->b<w.heap.size)(m:∀b o z,ZF Z b o->¬F0 b z)(y:ZD w (ZF Z)):
  B9 F0 (W0.mk w (ZF Z)) ((i,.oag cs)::DV 0 ts) {tmps:=vs++x! n undef,defers:=[]} w:=by
 refine B9.startZ (e:=.oag cs) h u g hi k l m y λa ha G A hr K s=>?_;obtain⟨xs,C,E,H⟩:=hb;simp[AN];refine⟨xs,C,E,λj d B=>?_⟩;obtain⟨x,I,J,_⟩:=H j d B;refine⟨x,I,?_⟩;rw[A,hr];exact J.kept s (λ_ _ _=>rfl) BY.rfl'
variable{us:Fq}
theorem nC(hD:MS P fn.ntmps D)(hf:P.funcs[f]? =Y fn)(hb:fn.body=Y c)(hname:fn.name≠ "runtime.NumGoroutine")(hok:D1 P fn.ntmps D pl c=X)(hrv:G9 P fn.results.toList rv=X)
  {args:Fq}(hn:args.length<=fn.ntmps){cs cs':List AR}(hcl:pl.x9=X)(hdst:pl.zt i=X)(h:TV.tc args->(∀c∈cs,c.t.WF)->pl.wp (AV P) ⟨Bb rv (.bo cs cs' i us),λ_ _=>False,Bb rv (.bo cs cs' i us)⟩ ((i,.bx cs)::DV 0 args)):AV P f args (.bo cs cs' i us):=by
 intro hw hwc;refine⟨o1,λF0 w vs v Z hrep hvi hbox hzu hzl hfree ht=>?_⟩;have hl:=BX hrep;simp at hl;have hcalls:Calls P f vs w λe w'=>((∀c∈cs',c.t.WF)/\TV.tc us)/\∃r Z',e=.returned r/\HU Z w w'/\O6 w' (λb o=>(b<w.heap.size/\F0 b o)\/ZF Z' b o) Z' cs' v/\
   KF Z'/\(∀q i b lo,Z' q i=Y (b,lo)->b<w'.heap.size/\(w.heap.size<=b\/∃p j lo',Z p j=Y (b,lo')/\lo'<=lo))/\
   RY w' (λb o=>(b<w.heap.size/\F0 b o)\/ZF Z' b o) us r:=by
  refine calls_of_wp hf hb ?_;have fin:∀(O:AB)(a:Act)(w':World),Bb rv (.bo cs cs' i us) O->MT fn.ntmps (Y (i,v)) a->B9 F0 (W0.mk w (ZF Z)) O a w'->a.defers=[]/\∃r,(results fn a.tmps).run P w'=.ok r w'/\(((∀c∈cs',c.t.WF)/\TV.tc us)/\∃r' Z',Ending.returned r=.returned r'/\HU Z w w'/\O6 w' (λb o=>(b<w.heap.size/\F0 b o)\/ZF Z' b o) Z' cs' v/\
    KF Z'/\(∀q i b lo,Z' q i=Y (b,lo)->b<w'.heap.size/\(w.heap.size<=b\/∃p j lo',Z p j=Y (b,lo')/\lo'<=lo))/\
    RY w' (λb o=>(b<w.heap.size/\F0 b o)\/ZF Z' b o) us r'):=by
   rintro O a w' ⟨hs,hr⟩ hN ⟨G,hI⟩;have hag:Bt w' w' (AW w.heap.size F0 G) (λb o=>(b<w.heap.size/\F0 b o)\/ZF (B8 a G i) b o):=by
    refine λb o u hc hF=>⟨hc,?_⟩;rintro(h1|⟨q,j,lo,h1,h2⟩)
    .exact hF (.inl h1)
    .obtain⟨p,j',f1,_⟩:=Ca h1;exact hF (.inr ⟨p,j',lo,f1,h2⟩)
   have hisz:i<a.tmps.size:=Bw hI hs V;have hbx:=At hI hs V;have hwb:=hI.wf i;rw[hs]at hwb;rw[hN.pin i v rfl]at hbx;simp only[AN]at hbx;obtain⟨b,c,θ,k1,k2,k3,k4,k5⟩:=hbx;obtain⟨vs',e1,e2,e3⟩:=It (P:=P) hI hrv hr;have hm:=G0 e1;have hshape:(results fn a.tmps)=(fn.results.mapM (Gv a.tmps)>>=λvs=>pure (if h:vs.size=1 then vs[0]else .tuple vs)):=by
    unfold results;congr 1
   have hlen:=BX e2;have hres:∃r,(results fn a.tmps).run P w'=.ok r w'/\RY w' (AW w.heap.size F0 G) us r:=by
    rw [hshape];by_cases h1:vs'.length=1
    .obtain⟨x,rfl⟩:=x_.1 h1;rcases us with _|⟨t,_|⟨t',us⟩⟩
     .simp at hlen
     .simp only[AQ]at e2;obtain⟨v',r',hv',e4,rfl⟩:=e2;simp at hv';subst hv';exact⟨x,by simp[hm],e4⟩
     .simp at hlen
    .refine⟨.tuple vs'.toArray,by simp[hm,h1],?_⟩;rcases us with _|⟨t,_|⟨t',us⟩⟩
     .exact⟨_,rfl,e2.toA⟩
     .grind
     .exact⟨_,rfl,e2.toA⟩
   obtain ⟨r,hr1,hr2⟩:=hres;refine⟨hI.defers,r,hr1,⟨hwb,e3⟩,r,B8 a G i,rfl,?_,⟨b,c,θ,k1,k2,k3,by rw[Db];exact k4,λj d hj=>?_⟩,Kx hI hisz,λq j b lo f1=>?_,?_⟩
   .exact⟨hI.below.os,hI.below.tape,hI.below.output,hI.below.size,λk hk hz=>hI.below.block k hk (λo⟨q,j,lo,f1,_⟩=>hz q j lo f1),λb o u hz hu=>hI.below.cell b o u hz hu⟩
   .obtain⟨x,f1,f2⟩:=k5 j d hj;refine⟨x,f1,?_⟩;rw[Db];exact BW.x7 (f2.kept hag (λ_ _ _=>rfl) BY.rfl') λg lo j' hz=>QY hz j'
   .obtain⟨p,j',g1,_⟩:=Ca f1;obtain⟨f2,f3⟩:=hI.lt _ _ _ _ g1;refine⟨f2,f3.imp id (λe=>?_)⟩;exact e lo (az _)
   .rcases us with _|⟨t,_|⟨t',us⟩⟩
    .obtain⟨vs2,f1,f2⟩:=hr2;exact⟨vs2,f1,A7 hag _ _ f2⟩
    .exact CR hag _ _ hr2
    .obtain⟨vs2,f1,f2⟩:=hr2;exact⟨vs2,f1,A7 hag _ _ f2⟩
  refine PG (p:=Y (i,v)) hD pl c hok (.inr hcl) (λj u hp=>by cases hp;exact hdst) _ _ ?_ ?_ ?_ _ _ w ?_ (B9.startB hrep hw hwc hvi hbox hzu hzl hfree ht) (h hw hwc)
  .exact λO a w' h1 h2 h3=>fin O a w' h1 h2 h3
  .exact λi O a w' h1 _ _=>h1.elim
  .exact λO a w' h1 h2 h3=>fin O a w' h1 h2 h3
  .have hil:i<vs.size:=(y!.1 hvi).1;refine⟨an,λj u hp=>?_⟩;cases hp;have:=y? hil;rw[this]at hvi;simp at hvi;simp[slot,x?,y_,hil,hvi]
 refine ⟨?_,hcalls.mono λe w' h=>h.2⟩;obtain⟨_,_,_,h1,_⟩:=hcalls [];exact h1.1
def Wk(cs'' cs':List AR):Prop:=cs''.length=cs'.length/\∀(i:Nat)(d:AR),cs'[i]?=Y d->∃d',cs''[i]?=Y d'/\(d=d'\/d=⟨T,.undef⟩)
theorem Wk.wf{b cs':List AR}(h:Wk b cs')(e:∀c∈b,c.t.WF):∀c∈cs',c.t.WF:=by
 intro c d;obtain⟨i,hi⟩:=List.getElem?_of_mem d;obtain⟨g,j,rfl|rfl⟩:=h.2 i c hi
 .grind
 .exact trivial
theorem Wk.cell{w:World}{ρ:I5}{z:Option (Nat×Nat)}{x:Value}{d b:AR}(h:d=b\/d=⟨T,.undef⟩)(e:BW w F ρ z b x):BW w F ρ z d x:=by
 rcases h with rfl|rfl
 .exact e
 .have:x.oneCell'=X:=by
   obtain ⟨o,t⟩:=b;cases o with
   |true=>exact QM e|false=>exact e.2
  exact ⟨by simp[A1];exact this,this⟩
def gD(rv:List RV)(cs cs':List AR)(i:Nat)(us:Fq)(O:AB):Prop:=∃cs'',Wk cs'' cs'/\Bb rv (.bo cs cs'' i us) O
theorem kj(hD:MS P fn.ntmps D)(hf:P.funcs[f]? =Y fn)(hb:fn.body=Y c)(hname:fn.name≠ "runtime.NumGoroutine")(hok:D1 P fn.ntmps D pl c=X)(hrv:G9 P fn.results.toList rv=X)
  {args:Fq}(hn:args.length<=fn.ntmps){cs cs':List AR}(hcl:pl.x9=X)(hdst:pl.zt i=X)(h:TV.tc args->(∀c∈cs,c.t.WF)->pl.wp (AV P) ⟨gD rv cs cs' i us,λ_ _=>False,gD rv cs cs' i us⟩ ((i,.bx cs)::DV 0 args)):AV P f args (.bo cs cs' i us):=by
 intro hw hwc;refine⟨o1,λF0 w vs v Z hrep hvi hbox hzu hzl hfree ht=>?_⟩;have hl:=BX hrep;simp at hl;have hcalls:Calls P f vs w λe w'=>((∀c∈cs',c.t.WF)/\TV.tc us)/\∃r Z',e=.returned r/\HU Z w w'/\O6 w' (λb o=>(b<w.heap.size/\F0 b o)\/ZF Z' b o) Z' cs' v/\
   KF Z'/\(∀q i b lo,Z' q i=Y (b,lo)->b<w'.heap.size/\(w.heap.size<=b\/∃p j lo',Z p j=Y (b,lo')/\lo'<=lo))/\
   RY w' (λb o=>(b<w.heap.size/\F0 b o)\/ZF Z' b o) us r:=by
  refine calls_of_wp hf hb ?_;have fin:∀(O:AB)(a:Act)(w':World),gD rv cs cs' i us O->MT fn.ntmps (Y (i,v)) a->B9 F0 (W0.mk w (ZF Z)) O a w'->a.defers=[]/\∃r,(results fn a.tmps).run P w'=.ok r w'/\(((∀c∈cs',c.t.WF)/\TV.tc us)/\∃r' Z',Ending.returned r=.returned r'/\HU Z w w'/\O6 w' (λb o=>(b<w.heap.size/\F0 b o)\/ZF Z' b o) Z' cs' v/\
    KF Z'/\(∀q i b lo,Z' q i=Y (b,lo)->b<w'.heap.size/\(w.heap.size<=b\/∃p j lo',Z p j=Y (b,lo')/\lo'<=lo))/\
    RY w' (λb o=>(b<w.heap.size/\F0 b o)\/ZF Z' b o) us r'):=by
   rintro O a w' ⟨cs'',hwk,hs,hr⟩ hN ⟨G,hI⟩;have hag:Bt w' w' (AW w.heap.size F0 G) (λb o=>(b<w.heap.size/\F0 b o)\/ZF (B8 a G i) b o):=by
    refine λb o u hc hF=>⟨hc,?_⟩;rintro(h1|⟨q,j,lo,h1,h2⟩)
    .exact hF (.inl h1)
    .obtain⟨p,j',f1,_⟩:=Ca h1;exact hF (.inr ⟨p,j',lo,f1,h2⟩)
   have hisz:i<a.tmps.size:=Bw hI hs V;have hbx:=At hI hs V;have hwb:=hI.wf i;rw[hs]at hwb;rw[hN.pin i v rfl]at hbx;simp only[AN]at hbx;obtain⟨b,c,θ,k1,k2,k3,k4,k5⟩:=hbx;obtain⟨vs',e1,e2,e3⟩:=It (P:=P) hI hrv hr;have hm:=G0 e1;have hshape:(results fn a.tmps)=(fn.results.mapM (Gv a.tmps)>>=λvs=>pure (if h:vs.size=1 then vs[0]else .tuple vs)):=by
    unfold results;congr 1
   have hlen:=BX e2;have hres:∃r,(results fn a.tmps).run P w'=.ok r w'/\RY w' (AW w.heap.size F0 G) us r:=by
    rw [hshape];by_cases h1:vs'.length=1
    .obtain⟨x,rfl⟩:=x_.1 h1;rcases us with _|⟨t,_|⟨t',us⟩⟩
     .simp at hlen
     .simp only[AQ]at e2;obtain⟨v',r',hv',e4,rfl⟩:=e2;simp at hv';subst hv';exact⟨x,by simp[hm],e4⟩
     .simp at hlen
    .refine⟨.tuple vs'.toArray,by simp[hm,h1],?_⟩;rcases us with _|⟨t,_|⟨t',us⟩⟩
     .exact⟨_,rfl,e2.toA⟩
     .grind
     .exact⟨_,rfl,e2.toA⟩
   obtain ⟨r,hr1,hr2⟩:=hres;refine⟨hI.defers,r,hr1,⟨hwk.wf hwb,e3⟩,r,B8 a G i,rfl,?_,⟨b,c,θ,k1,k2,k3.trans hwk.1,by rw[Db];exact k4,λj d hj=>?_⟩,Kx hI hisz,λq j b lo f1=>?_,?_⟩
   .exact⟨hI.below.os,hI.below.tape,hI.below.output,hI.below.size,λk hk hz=>hI.below.block k hk (λo⟨q,j,lo,f1,_⟩=>hz q j lo f1),λb o u hz hu=>hI.below.cell b o u hz hu⟩
   .obtain⟨d',hd',hdd⟩:=hwk.2 j d hj;obtain⟨x,f1,f2⟩:=k5 j d' hd';refine⟨x,f1,Wk.cell hdd ?_⟩;rw[Db];exact BW.x7 (f2.kept hag (λ_ _ _=>rfl) BY.rfl') λg lo j' hz=>QY hz j'
   .obtain⟨p,j',g1,_⟩:=Ca f1;obtain⟨f2,f3⟩:=hI.lt _ _ _ _ g1;refine⟨f2,f3.imp id (λe=>?_)⟩;exact e lo (az _)
   .rcases us with _|⟨t,_|⟨t',us⟩⟩
    .obtain⟨vs2,f1,f2⟩:=hr2;exact⟨vs2,f1,A7 hag _ _ f2⟩
    .exact CR hag _ _ hr2
    .obtain⟨vs2,f1,f2⟩:=hr2;exact⟨vs2,f1,A7 hag _ _ f2⟩
  refine PG (p:=Y (i,v)) hD pl c hok (.inr hcl) (λj u hp=>by cases hp;exact hdst) _ _ ?_ ?_ ?_ _ _ w ?_ (B9.startB hrep hw hwc hvi hbox hzu hzl hfree ht) (h hw hwc)
  .exact λO a w' h1 h2 h3=>fin O a w' h1 h2 h3
  .exact λi O a w' h1 _ _=>h1.elim
  .exact λO a w' h1 h2 h3=>fin O a w' h1 h2 h3
  .have hil:i<vs.size:=(y!.1 hvi).1;refine⟨an,λj u hp=>?_⟩;cases hp;have:=y? hil;rw[this]at hvi;simp at hvi;simp[slot,x?,y_,hil,hvi]
 refine ⟨?_,hcalls.mono λe w' h=>h.2⟩;obtain⟨_,_,_,h1,_⟩:=hcalls [];exact h1.1
theorem nB(hD:MS P fn.ntmps D)(hf:P.funcs[f]? =Y fn)(hb:fn.body=Y c)(hname:fn.name≠ "runtime.NumGoroutine")(hok:D1 P fn.ntmps D pl c=X)(hrv:G9 P fn.results.toList rv=X)
  {args:Fq}(hn:args.length<=fn.ntmps){cs:List AR}(hcl:pl.x9=X)(hp:r.plain=X)(hlo:r.lone=T)(h:TV.tc args->(∀c∈cs,c.t.WF)->pl.wp (AV P) ⟨Bb rv r,λ_ _=>False,Bb rv r⟩ ((i,.oag cs)::DV 0 args)):AV P f args (.ag cs i r):=by
 intro hw hwc;refine⟨o1,λF0 w vs v Z hrep hvi hbox hzu hzl hfree ht=>?_⟩;have hl:=BX hrep;simp at hl;have hcalls:Calls P f vs w λe w'=>r.WF/\∃v',e=.returned v'/\HU Z w w'/\cY w' (λb o=>b<w.heap.size/\F0 b o) (λb lo=>w.heap.size<=b\/∃p j lo',Z p j=Y (b,lo')/\lo'<=lo) r v':=by
  refine calls_of_wp hf hb ?_;have fin:∀(O:AB)(a:Act)(w':World),Bb rv r O->MT fn.ntmps W a->B9 F0 (W0.mk w (ZF Z)) O a w'->a.defers=[]/\∃v,(results fn a.tmps).run P w'=.ok v w'/\(r.WF/\∃v',Ending.returned v=.returned v'/\HU Z w w'/\cY w' (λb o=>b<w.heap.size/\F0 b o) (λb lo=>w.heap.size<=b\/∃p j lo',Z p j=Y (b,lo')/\lo'<=lo) r v'):=by
   intro O a w' hr hN ⟨G,hI⟩;obtain⟨v,e1,_,e2,e3⟩:=XA (P:=P) hI hrv (.inr hlo) hp hr;refine⟨hI.defers,v,e1,e3,v,rfl,⟨hI.below.os,hI.below.tape,hI.below.output,hI.below.size,λk hk hz=>hI.below.block k hk (λo⟨q,j,lo,f1,_⟩=>hz q j lo f1),λb o u hz hu=>hI.below.cell b o u hz hu⟩,?_⟩;have hN:∀b lo,(w.heap.size<=b\/∀o,lo<=o->ZF Z b o)->w.heap.size<=b\/∃p j lo',Z p j=Y (b,lo')/\lo'<=lo:=λb lo h=>h.imp id λe=>e lo (az _);have e4:=e2 hlo;cases r with
   |sh t=>exact e4|tp ts=>exact e4|oag ds=>
    obtain ⟨Z',f1,f2,f3,f4⟩:=e4;exact⟨Z',f1,f2,f3,λq i b lo hz=>⟨(f4 q i b lo hz).1,hN _ _ (f4 q i b lo hz).2⟩⟩
   |_=>first|(exact Bool.noConfusion hp)|(exact Bool.noConfusion hlo)
  refine PG (p:=W) hD pl c hok (.inr hcl) V _ _ ?_ ?_ ?_ _ _ w ?_ (B9.startA hrep hw hwc hvi hbox hzu hzl hfree ht) (h hw hwc)
  .exact λO a w' h1 h2 h3=>fin O a w' h1 h2 h3
  .exact λi O a w' h1 _ _=>h1.elim
  .exact λO a w' h1 h2 h3=>fin O a w' h1 h2 h3
  .exact⟨an,V⟩
 refine ⟨?_,hcalls.mono λe w' h=>h.2⟩;obtain⟨_,_,_,h1,_⟩:=hcalls [];exact h1.1
theorem nD(hD:MS P fn.ntmps D)(hf:P.funcs[f]? =Y fn)(hb:fn.body=Y c)(hname:fn.name≠ "runtime.NumGoroutine")(hok:D1 P fn.ntmps D pl c=X)(hrv:G9 P fn.results.toList rv=X)
  {args:Fq}(hn:args.length<=fn.ntmps){kvs:Bk}(h:TV.tc args->pl.wp (AV P) ⟨Bb rv (.mpr kvs ts),λ_ _=>False,Bb rv (.mpr kvs ts)⟩ (DV 0 args)):AV P f args (.mpr kvs ts):=by
 intro hw;refine⟨o1,λF0 w vs hrep ht=>?_⟩;have hl:=BX hrep;simp at hl;have hcalls:Calls P f vs w λe w'=>(∃v,e=.returned v/\Below w.heap.size w w'/\JL w' (λb o=>b<w.heap.size/\F0 b o) w.heap.size (.mpr kvs ts) v)/\(A9.mpr kvs ts).WF:=by
  refine calls_of_wp hf hb ?_;have fin:∀(O:AB)(a:Act)(w':World),Bb rv (.mpr kvs ts) O->MT fn.ntmps W a->B9 F0 (W0.mk w λ_ _=>False) O a w'->a.defers=[]/\∃v,(results fn a.tmps).run P w'=.ok v w'/\((∃v',Ending.returned v=.returned v'/\Below w.heap.size w w'/\JL w' (λb o=>b<w.heap.size/\F0 b o) w.heap.size (.mpr kvs ts) v')/\(A9.mpr kvs ts).WF):=by
   intro O a w' hr hN ⟨G,hI⟩;rcases rv with _|⟨⟨s⟩|⟨s,_⟩,rs⟩
   .exact hr.elim
   .obtain⟨hne,⟨b,o,h1,h2⟩,h3⟩:=hr;have hg:Er O (.tmp s::rs)=Y (.AaV b::ts):=by simp[Er,RV.get,h1,EV.val,h3]
    obtain ⟨us,e1,e2,e3⟩:=It (P:=P) hI hrv hg;have hm:=G0 e1;have hshape:(results fn a.tmps)=(fn.results.mapM (Gv a.tmps)>>=λvs=>pure (if h:vs.size=1 then vs[0]else .tuple vs)):=by
     unfold results;congr 1
    simp [AQ]at e2;obtain⟨v0,us',rfl,e4,e5⟩:=e2;simp[A1]at e4;subst e4;have hor:=At hI h2 V;have how:=hI.wf o;rw[h2]at how;simp[AN]at hor;obtain⟨k1,k2,k3⟩:=hor;have hlt:=hI.lt _ _ _ _ k2;have hus:us'.length≠0:=by
     have h6:=BX e5;have:ts.length=rs.length:=by
      have:∀(ys:List RV)(ts:Fq),Er O ys=Y ts->ts.length=ys.length:=by
       intro ys
       induction ys with
       |nil=>intro ts h;simp[Er]at h;subst h;rfl|cons y ys ih=>
        grind [Er,tl]
      exact this _ _ h3
     grind
    have hag:Bt w' w' (AW w.heap.size F0 G) (λb o=>b<w.heap.size/\F0 b o):=λb o u hc hF=>⟨hc,λhF'=>hF (.inl hF')⟩;refine⟨hI.defers,.tuple (Value.map (Y b)::us').toArray,?_,⟨_,rfl,⟨hI.below.os,hI.below.tape,hI.below.output,hI.below.size,λk hk=>hI.below.block k hk (λ_ h=>h)⟩,b,us',rfl,hlt.2.resolve_right (λe=>e _ (az _)),hlt.1,k3,A7 hag _ _ e5⟩,how,e3.2⟩;rw[hshape];have:¬us'.length=0:=hus;simp[hm,this]
   .exact hr.elim
  refine PG (p:=W) hD pl c hok (.inl λ_ _ h=>h) V _ _ ?_ ?_ ?_ _ _ w ?_ (B9.start hrep hw ht) (h hw)
  .exact λO a w' h1 h2 h3=>fin O a w' h1 h2 h3
  .grind
  .exact λO a w' h1 h2 h3=>fin O a w' h1 h2 h3
  .exact⟨an,V⟩
 refine ⟨?_,hcalls.mono λe w' h=>h.1⟩;obtain⟨_,_,_,h1,_⟩:=hcalls [];exact h1.2
end
end Go.Sf
