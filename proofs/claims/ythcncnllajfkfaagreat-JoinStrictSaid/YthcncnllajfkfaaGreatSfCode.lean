/- Code, and functions. -/
import Derived.Test.YthcncnllajfkfaaGreatSfRegion
set_option linter.all false
open Option renaming some->Y,none->W
open Bool renaming true->X,false->T
open List renaming all_eq_true->v1,mem_of_getElem?->v5,mapM_cons->v6,length_eq_one_iff->v_
open Array renaming replicate->v!,getD_eq_getD_getElem?->v?,getElem?_append->w_,getElem?_eq_some_iff->w!,getElem?_eq_getElem->w?
open Nat renaming zero_le->x_,sub_zero->x!
namespace Go.Sf
open Go.RowKit (Below)
def D9(P:Program)(N:Nat)(D:Ne->Array Oper->List PR->Bool):PC->Code->Bool
 |.skip _,.skip=>X|.ret,.ret=>X|.exit i _,.exit j=>i==j|.seq a b,.seq c d=>D9 P N D a c&&D9 P N D b d|.cond c a b,.cond x p q=>AL x c&&(D9 P N D a p&&D9 P N D b q)|.block i c,.block j d=>i==j&&D9 P N D c d|.loop _ c,.loop d=>D9 P N D c d|.region rs _,.region _ ops draw=>!draw&&N3 P N ops ops.toList rs|.draw ds rs _,.region _ ops draw=>draw&&D ds ops rs|.rls _ a,c=>D9 P N D a c|.bad,_=>X|_,_=>T
def PC.sB:PC->Bool
 |.seq a b=>a.sB&&b.sB|.cond _ a b=>a.sB&&b.sB|.block _ c=>c.sB|.loop _ c=>c.sB|.rls _ c=>c.sB|_=>X
def tn(i:Nat)(rs:List PR):Bool:=rs.all λr=>r.dst !=Y i
def PC.tn(i:Nat):PC->Bool
 |.seq a b=>a.tn i&&b.tn i|.cond _ a b=>a.tn i&&b.tn i|.block _ c=>c.tn i|.loop _ c=>c.tn i|.rls _ c=>c.tn i|.region rs _=>Go.Sf.tn i rs|.draw _ rs _=>Go.Sf.tn i rs|_=>X
variable{i:Nat}
theorem Yd{b:List PR}(h:tn i b=X):∀r∈b,r.dst≠Y i:=by
 intro r hr;have:=v1.1 h r hr;simpa using this
section
variable{P:Program}{F0:Nat->Nat->Prop}{w0:W0}{N:Nat}{p:Option (Nat×Value)}{D:Ne->Array Oper->List PR->Bool}
theorem CI.envWF{O:AB}{a:Act}{w:World}(h:CI F0 w0 O a w):∀s,(O.get s).WF:=by
 obtain ⟨G,h⟩:=h;exact h.wf
def Md(P:Program)(N:Nat)(D:Ne->Array Oper->List PR->Bool):Prop:=
 ∀(F0:Nat->Nat->Prop)(w0:W0)(p:Option (Nat×Value))(id:Nat)(ds:Ne)(ops:Array Oper)(rs:List PR)(live:Ne)(O:AB)(a:Act)(w:World)(K:AB->Prop)(Q:Exit->Act->World->Prop),D ds ops rs=X->(∀i v,p=Y (i,v)->∀r∈rs,r.dst≠Y i)->Me N p a->CI F0 w0 O a w->TM O ds=X->wpOps (AT P) (λe=>K (e.fq live)) rs O ->
  (∀O a w,K O->Me N p a->CI F0 w0 O a w->Q .normal a w)->(Code.region id ops X).wp P Q a w
theorem PI(hD:Md P N D):∀(η:PC)(c:Code),D9 P N D η c=X->((∀b o,¬w0.E b o)\/η.sB=X)->(∀i v,p=Y (i,v)->η.tn i=X)->∀(q:Q)(A:Exit->Act->World->Prop),
  (∀O a w,q.normal O->Me N p a->CI F0 w0 O a w->A .normal a w)->(∀i O a w,q.exit i O->Me N p a->CI F0 w0 O a w->A (.exit i) a w)->(∀O a w,q.ret O->Me N p a->CI F0 w0 O a w->A .ret a w) ->
  ∀O a w,Me N p a->CI F0 w0 O a w->η.wp (AT P) q O->c.wp P A a w:=by
 intro η
 induction η with
 |skip l=>
  intro c g K t q A C H I O a w u m h;cases c<;>simp[D9]at g<;>first|exact Go.wp_skip (C _ a w h u (m.fq l))|cases g
 |ret=>
  intro c g K t q A C H I O a w u m h;cases c<;>simp[D9]at g<;>first|exact Go.wp_ret (I O a w h u m)|cases g
 |exit i l=>
  intro c g K t q A C H I O a w u m h;cases c<;>simp only[D9]at g<;>first|cases g|skip
  simp at g;subst g;exact Go.wp_exit (H i _ a w h u (m.fq l))
 |seq x y ε κ=>
  intro c g K t q A C H I O a w u m h;cases c<;>simp only[D9]at g<;>first|cases g|skip
  rename_i c d;simp at g;have M:=K.imp id (λe=>(ne _ _▸e:x.sB=X/\y.sB=X));have R:=λi v J=>(ne _ _▸t i v J:x.tn i=X/\y.tn i=X);refine Go.wp_seq (ε c g.1 (M.imp id And.left) (λi v J=>(R i v J).1) _ _ ?_ ?_ ?_ O a w u m h)
  .intro O a w L u m;exact κ d g.2 (M.imp id And.right) (λi v J=>(R i v J).2) q A C H I O a w u m (L m.envWF)
  .exact H
  .exact I
 |cond o x y ε κ=>
  intro c g K t q A C H I O a w u m h;cases c<;>simp only[D9]at g<;>first|cases g|skip
  rename_i c d e;simp at g;simp[PC.wp]at h;split at h
  .rename_i b hb;have hc:a.eval c=.bool b:=by
    obtain ⟨G,m⟩:=m;have:=(BD m g.1 hb).1
    grind [A2]
   have M:=K.imp id (λe=>(ne _ _▸e:x.sB=X/\y.sB=X));have R:=λi v J=>(ne _ _▸t i v J:x.tn i=X/\y.tn i=X);refine Go.wp_cond_split hc (λhb=>?_) (λhb=>?_)
   .exact ε d g.2.1 (M.imp id And.left) (λi v J=>(R i v J).1) q A C H I O a w u m (h.1 hb)
   .exact κ e g.2.2 (M.imp id And.right) (λi v J=>(R i v J).2) q A C H I O a w u m (h.2 hb)
  .exact h.elim
 |block i x ih=>
  intro c g K t q A C H I O a w u m h;cases c<;>simp only[D9]at g<;>first|cases g|skip
  rename_i j d;simp at g;obtain⟨rfl,g⟩:=g;refine Go.wp_block (ih d g K t _ _ ?_ ?_ ?_ O a w u m h)
  .exact C
  .intro k O a w L u m;simp[Exit.inBlock];simp only at L;split
   next e=>rw[a6 e]at L;exact C O a w L u m
   next e=>rw[ac e]at L;exact H k O a w L u m
  .exact I
 |loop B x ih=>
  intro c g K t q A C H I O a w u m h;cases c<;>simp[D9]at g<;>first|cases g|skip
  rename_i c;simp[PC.wp]at h
  let δ:Act->World->Prop:=λa w=>∀(b:Frame)(k:List Item)(cs:List Frame),∃e a' w',A e a' w'/\Arrives P (lone (b.at a (.code c::.inLoop c::k)) cs w) b k cs e a' w'
  have hX:=h (λe=>∀a w,Me N p a->CI F0 w0 e a w->δ a w) ?_ a w u (m.fq B)
  .intro b k cs;obtain⟨e,a',w',S,z⟩:=hX b k cs;exact⟨e,a',w',S,.of_steps (.one step_loop) z⟩
  .intro e he a w u m;have hb:c.wp P (Exit.then δ A) a w:=by
    refine ih c g K t _ _ ?_ ?_ ?_ e a w u m (he m.envWF)
    .intro O a w L u m;exact L a w u (m.fq B)
    .exact H
    .exact I
   intro b k cs;obtain⟨e,a₁,w₁,S,z⟩:=hb b (.inLoop c::k) cs;cases e with
   |normal=>
    obtain ⟨e₂,a₂,w₂,hq₂,θ⟩:=S b k cs;exact⟨e₂,a₂,w₂,hq₂,.of_steps (Steps.trans z (.one step_inLoop)) θ⟩
   |exit id=>exact⟨_,a₁,w₁,S,.pass (x:=.inLoop c) rfl (λ_ _=>.inl V) z⟩|goto l=>exact⟨_,a₁,w₁,S,.pass (x:=.inLoop c) rfl (λ_ _=>.inl V) z⟩|ret=>exact⟨_,a₁,w₁,S,.pass (x:=.inLoop c) rfl (λ_ _=>.inl V) z⟩|panic ch=>exact⟨_,a₁,w₁,S,.pass (x:=.inLoop c) rfl (λ_ _=>.inl V) z⟩|outgrown=>exact⟨_,a₁,w₁,S,.pass (x:=.inLoop c) rfl (λ_ _=>.inl V) z⟩
 |region rs B=>
  intro c g K t q A C H I O a w u m h;cases c<;>simp only[D9]at g<;>first|cases g|skip
  rename_i id ops draw;simp[Bool.not_eq_true']at g;obtain⟨rfl,g⟩:=g;exact g8 g (λi v J=>Yd (t i v J)) u m h λO a w L u m=>C _ a w L u (m.fq B)
 |draw ds rs B=>
  intro c g K t q A C H I O a w u m h;cases c<;>simp only[D9]at g<;>first|cases g|skip
  rename_i id ops draw;simp at g;obtain⟨rfl,g⟩:=g;exact hD F0 w0 p id ds ops rs B O a w q.normal A g (λi v J=>Yd (t i v J)) u m h.1 h.2 C
 |bad=>
  intro c g K t q A C H I O a w u m h;exact h.elim
 |rls s x ih=>
  intro c g K t q A C H I O a w u m h;have ζ:D9 P N D x c=X:=by
   grind [D9]
  simp [PC.wp]at h;split at h
  next cs hs=>obtain⟨G,m⟩:=m;exact ih c ζ (K.imp id λe=>e) t q A C H I _ a w u (m.rls hs) h
  .exact h.elim
def Dg:Nat->Fq->AB
 |_,[]=>[]|k,t::ts=>(k,.tv t)::Dg (k+1) ts
theorem LG:∀(ts:Fq)(k n:Nat),AB.get (Dg k ts) n=if k<=n then(match ts[n-k]? with|some t=>.tv t|none=>.undef)else .undef
 |[],k,n=>by simp[Dg,AB.get]|t::ts,k,n=>by
  rw [Dg,AB.d6,LG ts (k+1) n]
  grind
variable{ts:Fq}{n:Nat}
theorem CI.start{w:World}{F0:Nat->Nat->Prop}{vs:Array Value}(h:AQ w F0 ts vs.toList)(j:TV.p0 ts)(d:U1 w):CI F0 (W0.mk w λ_ _=>False) (Dg 0 ts) {tmps:=vs++v! n undef,defers:=[]} w:=by
 have q:=BY h;simp at q;refine⟨λ_ _=>W,V,V,⟨rfl,rfl,rfl,ae _,λ_ _ _=>rfl,λ_ _ _ _ h=>h,λ_ _ _ h=>h.elim,d,λ_ _ h=>h.elim⟩,rfl,λs k=>?_,λs k=>?_,λs=>?_⟩
 .rw[LG]
  grind
 .rw[LG,a6 (x_ _),x!];cases d:ts[s]? with
  |none=>trivial|some t=>
   have e:s<vs.size:=by
    grind
   have hv:vs.toList[s]?=Y (slot {tmps:=vs++v! n undef,defers:=[]} s):=by
    simp [slot,v?,w_,e]
   refine Cd (λb o u l m=>⟨l,?_⟩) _ _ (((Bx _ _).1 h).2 s t _ d hv);rintro(g|⟨_,_,_,g,_⟩)
   .exact m g.2
   .cases g
 .rw[LG,a6 (x_ _),x!];cases d:ts[s]? with
  |none=>trivial|some t=>exact CG.1 j t (v5 d)
def SK(P:Program):ResultVar->RV->Bool
 |.tmp t,.tmp s=>t==s|.cell x t,.cell s W=>x==s&&CW P t==Y T|.cell x t,.cell s (Y n)=>x==s&&CW P t==Y X&&DO P t==Y n|_,_=>T
def Hb(P:Program):List ResultVar->List RV->Bool
 |[],[]=>X|x::xs,y::ys=>SK P x y&&Hb P xs ys|_,_=>T
def HK(tmps:Array Value):ResultVar->Sem Value
 |.tmp t=>pure (tmps.getD t undef)|.cell a t=>do loadVar t (<-asAddr (tmps.getD a undef))
variable{O:AB}{a:Act}{w:World}{G:Bp}
theorem cX(m:AO F0 w0 O a w G){x:ResultVar}{y:RV}(d:SK P x y=X){t:TV}(h:y.get O=Y t):∃v,(HK a.tmps x).run P w=.ok v w/\A2 w (AU w0.heap.size F0 G) t v/\t.WF:=by
 have e:∀s,AL (.tmp s) (.s s)=X:=λs=>p!
 cases x with
 |tmp s=>
  cases y with
  |tmp s'=>
   simp [SK]at d;subst d;have:=BD m (e s) (t:=t) h;exact⟨slot a s,rfl,this⟩
  |cell s' n=>cases n<;>simp[SK]at d
 |cell s ty=>
  cases y with
  |tmp _=>cases d
  |cell s' n=>
   cases n with
   |none=>
    simp [SK]at d;obtain⟨rfl,z⟩:=d;simp[RV.get]at h;split at h
    next u r o=>simp at h;subst h;obtain⟨b,g,vs,A,l,B,_,C⟩:=SZ m (e s) (y:=.s s) o;simp[AQ]at l;obtain⟨v,M,rfl,K,Q⟩:=l;have H:=C 0 v rfl;rw[Addr.add_zero']at H;have k:a.tmps.getD s undef=.pointer (Y ⟨b,g,W⟩):=A;refine⟨v,?_,K,B.1⟩;simp[HK,k,loadVar,C8 z,H,asAddr]
    .cases h
   |some n=>
    simp [SK]at d;obtain⟨⟨rfl,z⟩,L⟩:=d;simp[RV.get]at h;split at h
    .rename_i cs o;split at h
     .rename_i q;simp at h;subst h;obtain⟨b,g,vs,A,l,B,E,C⟩:=SZ m (e s) (y:=.s s) o;have J:=BY l;have j:=run_loadCells_list (P:=P) w ⟨b,g,W⟩ vs C;rw[J,q]at j;have k:a.tmps.getD s undef=.pointer (Y ⟨b,g,W⟩):=A;refine⟨.agg vs.toArray,?_,?_,B⟩
      .simp[HK,k,loadVar,C8 z,Cb L,j,asAddr]
      .simp only[A2];exact⟨_,rfl,l,by rw[v1];exact λx I=>E x I⟩
     .cases h
    .cases h
theorem JA(e:AO F0 w0 O a w G):∀{xs:List ResultVar}{d:List RV},Hb P xs d=X->∀{ts:Fq},E6 O d=Y ts->∃vs,(xs.mapM (HK a.tmps)).run P w=.ok vs w/\AQ w (AU w0.heap.size F0 G) ts vs/\TV.p0 ts
 |[],[],_,ts,h=>by simp[E6]at h;subst h;exact⟨[],V,rfl,trivial⟩|[],_::_,b,_,_=>by simp[Hb]at b|_::_,[],b,_,_=>by simp[Hb]at b|x::xs,y::d,b,ts,h=>by
  simp [Hb]at b;simp[E6]at h;split at h
  next t us g j=>simp at h;subst h;obtain⟨v,k,l,m⟩:=cX e b.1 g;obtain⟨vs,o,q,s⟩:=JA e b.2 j;exact⟨v::vs,by simp[v6,k,o],⟨v,vs,rfl,l,q⟩,m,s⟩
  .cases h
theorem HO{f:ResultVar->Sem Value}{xs:Array ResultVar}{vs:List Value}{w':World}(h:(xs.toList.mapM f).run P w=.ok vs w'):(xs.mapM f).run P w=.ok vs.toArray w':=by
 rw [<-Array.toArray_toList (xs:=xs),List.mapM_toArray];simp[h]
variable{F:Nat->Nat->Prop}
theorem AQ.toA{vs:List Value}(h:AQ w F ts vs):AQ w F ts vs.toArray.toList:=c?
def A9.lone:A9->Bool
 |.own _=>X|.AaX _ _=>X|_=>T
variable{fn:Func}{r:A9}
theorem Wq(I:AO F0 w0 O a w G){m:List RV}(k:Hb P fn.results.toList m=X)(Q:(∀b o,¬w0.E b o)\/r.lone=T)(J:r.plain=X)(h:Bm m r O):
  ∃v,(results fn a.tmps).run P w=.ok v w/\((∀b o,¬w0.E b o)->Jc w (λb o=>b<w0.heap.size/\F0 b o) w0.heap.size r v)/\(r.lone=T->cc w (λb o=>b<w0.heap.size/\F0 b o) (λb lo=>w0.heap.size<=b\/∀o,lo<=o->w0.E b o) r v)/\r.WF:=by
 have H:∀ts,E6 O m=Y ts->∃vs:List Value,(fn.results.mapM (HK a.tmps)).run P w=.ok vs.toArray w/\AQ w (AU w0.heap.size F0 G) ts vs/\TV.p0 ts:=by
  grind [JA,HO]
 have l:(results fn a.tmps)=(fn.results.mapM (HK a.tmps)>>=λvs=>pure (if h:vs.size=1 then vs[0]else .tuple vs)):=by
  unfold results;congr 1
 have M:B2 w w (AU w0.heap.size F0 G) (λb o=>b<w0.heap.size/\F0 b o):=λb o u κ η=>⟨κ,λhF'=>η (.inl hF')⟩;cases r with
 |sh t=>
  have A:∃x,m=[x]/\x.get O=Y t:=by
   rcases m with _|⟨x,_|⟨y,m⟩⟩<;>simp[Bm]at h;exact⟨x,rfl,h⟩
  obtain ⟨x,rfl,δ⟩:=A;obtain⟨vs,e1,L,e3⟩:=H [t] (by simp[E6,δ]);simp only[AQ]at L;obtain⟨v,r',rfl,e4,rfl⟩:=L;refine⟨v,?_,λ_=>Cd M _ _ e4,λ_=>Cd M _ _ e4,e3.1⟩;rw[l];simp[e1]
 |own t=>
  have A:∃s,m=[.tmp s]/\O.get s=.ow t:=by
   rcases m with _|⟨x,_|⟨y,m⟩⟩
   .simp[Bm]at h
   .cases x<;>simp[Bm]at h;exact⟨_,rfl,h⟩
   .simp[Bm]at h
  obtain ⟨s,rfl,K⟩:=A;obtain⟨vs,e1,L,e3⟩:=H [t] (by simp[E6,RV.get,K,EV.val]);have hr:SK P (.tmp s) (.tmp s)=X:=by simp[SK]
  have B:=AZ I K V;have C:=I.wf s;rw[K]at C;simp[AN]at B;have z:fn.results.toList=[.tmp s]:=by
   rcases δ:fn.results.toList with _|⟨x,_|⟨y,xs⟩⟩<;>rw[δ]at k
   .simp[Hb]at k
   .cases x<;>simp[Hb,SK]at k;rw[k]
   .simp[Hb]at k
  have hv:(results fn a.tmps).run P w=.ok (slot a s) w:=by
   rw [l];have hm:(fn.results.mapM (HK a.tmps)).run P w=.ok [slot a s].toArray w:=by
    refine HO ?_;rw[z];simp[v6,HK,slot]
   simp [hm]
  replace Q:=Q.resolve_right (by simp[A9.lone]);refine⟨slot a s,hv,λ_=>⟨G s W,B.kept (λb o u κ η=>⟨κ,?_⟩) (λ_ _ _=>rfl),λb lo hb=>?_⟩,λe=>by simp[A9.lone]at e,C⟩
  .rintro(A|⟨lo,A,ζ⟩)
   .exact η (.inl A)
   .exact η (.inr ⟨s,W,lo,A,ζ⟩)
  .have:=I.lt _ _ _ _ hb;exact⟨this.2.resolve_right (λe=>Q _ _ (e _ (ae _))),this.1⟩
 |tp ts=>
  simp [Bm]at h;have hne:m.length≠1:=by
   grind
  have ζ:E6 O m=Y ts:=by
   grind
  obtain ⟨vs,e1,L,e3⟩:=H ts ζ;have hlen:vs.length≠1:=by
   rw [BY L];have:∀(m:List RV)(ts:Fq),E6 O m=Y ts->ts.length=m.length:=by
    intro m
    induction m with
    |nil=>intro ts h;simp[E6]at h;subst h;rfl|cons y m ih=>
     grind [E6,q0]
   grind
  refine ⟨.tuple vs.toArray,?_,λ_=>⟨vs.toArray,rfl,(A6 M _ _ L).toA⟩,λ_=>⟨vs.toArray,rfl,(A6 M _ _ L).toA⟩,e3⟩;rw[l];simp[e1,hlen]
 |AaX n es=>
  have A:∃s,m=[.tmp s]/\O.get s=.xo n es:=by
   rcases m with _|⟨x,_|⟨y,m⟩⟩
   .simp[Bm]at h
   .cases x<;>simp[Bm]at h;exact⟨_,rfl,h⟩
   .simp[Bm]at h
  obtain ⟨s,rfl,K⟩:=A;have B:=AZ I K V;have C:=I.wf s;rw[K]at C;simp[AN]at B;obtain⟨xs,⟨z0,k1,k2⟩,k3,k4,k5⟩:=B;have z:fn.results.toList=[.tmp s]:=by
   rcases δ:fn.results.toList with _|⟨x,_|⟨y,xs⟩⟩<;>rw[δ]at k
   .simp[Hb]at k
   .cases x<;>simp[Hb,SK]at k;rw[k]
   .simp[Hb]at k
  have hv:(results fn a.tmps).run P w=.ok (slot a s) w:=by
   rw [l];have hm:(fn.results.mapM (HK a.tmps)).run P w=.ok [slot a s].toArray w:=by
    refine HO ?_;rw[z];simp[v6,HK,slot]
   simp [hm]
  replace Q:=Q.resolve_right (by simp[A9.lone]);refine⟨slot a s,hv,λ_=>⟨z0,xs,k1,A6 (λb o u κ hf=>⟨κ,λhf'=>hf ?_⟩) _ _ k3,k4,k5,λb lo hb=>?_⟩,λe=>by simp[A9.lone]at e,C⟩
  .rcases hf' with h6|⟨lo,h6⟩
   .exact .inl h6
   .exact .inr ⟨s,W,0,by rw[k2,h6];rfl,x_ _⟩
  .have:=I.lt s W b 0 (by rw[k2,hb];rfl);exact⟨this.2.resolve_right (λe=>Q _ _ (e _ (ae _))),this.1⟩
 |turn _ _=>cases J
 |cut zs=>exact h.elim|mpr _ _=>cases J
 |ag _ _ _=>cases J
 |bo _ _ _ _=>cases J
 |ext _=>cases J
 |z5 cs=>
  have A:∃s n,m=[.cell s (Y n)]/\O.get s=.bx cs/\cs.length=n:=by
   rcases m with _|⟨x,_|⟨y,m⟩⟩
   .simp[Bm]at h
   .rcases x with s|⟨s,_|n⟩
    .simp[Bm]at h
    .simp[Bm]at h
    .exact⟨s,n,rfl,h⟩
   grind [Bm]
  obtain ⟨s,n,rfl,K,hn⟩:=A;have hbx:=AZ I K V;have C:=I.wf s;rw[K]at C;simp only[AN]at hbx;obtain⟨b,c,θ,k1,k2,k3,k4,k5⟩:=hbx;have z:∃ty,fn.results.toList=[.cell s ty]/\CW P ty=Y X/\DO P ty=Y n:=by
   rcases δ:fn.results.toList with _|⟨x,_|⟨y,xs⟩⟩<;>rw[δ]at k
   .simp[Hb]at k
   .cases x<;>simp[Hb,SK]at k;obtain⟨⟨rfl,A⟩,ζ⟩:=k;exact⟨_,rfl,A,ζ⟩
   .simp[Hb]at k
  obtain ⟨ty,z,hag',hcn⟩:=z;have hv:(results fn a.tmps).run P w=.ok (.agg c) w:=by
   rw [l];have S:=run_loadCells_list (P:=P) w ⟨b,0,W⟩ c.toList (λj v hv=>by
    have:=cell_of_row w b j c θ (0,0) k2;rw[show((⟨b,0,W⟩:Addr).add j)=⟨b,j,W⟩by simp[Addr.add];omega,this];simpa using hv)
   rw [Array.length_toList,k3,hn]at S;have h1':a.tmps.getD s undef=.pointer (Y ⟨b,0,W⟩):=k1;have hm:(fn.results.mapM (HK a.tmps)).run P w=.ok [.agg c].toArray w:=by
    refine HO ?_;rw[z];simp[v6,HK,h1',loadVar,C8 hag',Cb hcn,S,asAddr]
   simp [hm]
  have hsz:s<a.tmps.size:=B5 I K V
  let Z:D1:=λq i=>if q=0/\i=W then W else CH a G s q i
  have hZ:∀{q i b lo},Z q i=Y (b,lo)->CH a G s q i=Y (b,lo):=by
   intro q i b lo R;simp only[Z]at R;split at R
   .cases R
   .exact R
  have ε:∀N:Nat->Nat->Prop,(∀b lo,b<w.heap.size->(w0.heap.size<=b\/∀o,lo<=o->w0.E b o)->N b lo)->dO w (λb o=>b<w0.heap.size/\F0 b o) N cs (.agg c):=by
   intro N hN;refine⟨Z,⟨c,rfl,k3,λi d hd=>?_⟩,λq i q' i' b lo lo' e1 L=>LD I hsz _ _ _ _ _ _ _ (hZ e1) (hZ L),by simp[Z],λq i b lo R=>?_⟩
   .obtain⟨x,j1,j2⟩:=k5 i d hd;have hz0:Z 0 (Y i)=G s (Y i):=by simp[Z,Dj]
    refine ⟨x,j1,?_,H4 j2⟩;rw[hz0];refine BX.tg (j2.kept (λb o u κ η=>⟨κ,?_⟩) (λ_ _ _=>rfl) BZ.rfl') (λg lo j R=>?_)
    .rintro(A|⟨q,j,lo,A,ζ⟩)
     .exact η (.inl A)
     .obtain⟨p,j',f1,_⟩:=Cj (hZ A);exact η (.inr ⟨p,j',lo,f1,ζ⟩)
    .simp only[D1.tg,Z];rw[ac U];exact QR R j
   .obtain⟨p,j',f1,_⟩:=Cj (hZ R);have:=I.lt _ _ _ _ f1;exact⟨this.1,hN _ _ this.1 this.2⟩
  refine ⟨.agg c,hv,λQ=>ε _ λb lo _ hb=>hb.resolve_right (λe=>Q _ _ (e _ (ae _))),λ_=>ε _ λb lo _ hb=>hb,C⟩
variable{f:FuncId}{c:Code}{pl:PC}{rv:List RV}
theorem eP(hD:Md P fn.ntmps D)(hf:P.funcs[f]? =Y fn)(hb:fn.body=Y c)(hname:fn.name≠ "runtime.NumGoroutine")(hok:D9 P fn.ntmps D pl c=X)(hrv:Hb P fn.results.toList rv=X)
  {args:Fq}(hn:args.length<=fn.ntmps)(hp:r.plain=X)(h:TV.p0 args->pl.wp (AT P) ⟨Bm rv r,λ_ _=>False,Bm rv r⟩ (Dg 0 args)):AT P f args r:=by
 refine AT.of0 ?_ hp;intro hw;refine⟨m?,λF0 w vs hrep ht=>?_⟩;have hl:=BY hrep;simp at hl;have hcalls:Calls P f vs w λe w'=>(∃v,e=.returned v/\Below w.heap.size w w'/\Jc w' (λb o=>b<w.heap.size/\F0 b o) w.heap.size r v)/\r.WF:=by
  refine calls_of_wp hf hb ?_;have fin:∀(O:AB)(a:Act)(w':World),Bm rv r O->Me fn.ntmps W a->CI F0 (W0.mk w λ_ _=>False) O a w'->a.defers=[]/\∃v,(results fn a.tmps).run P w'=.ok v w'/\((∃v',Ending.returned v=.returned v'/\Below w.heap.size w w'/\Jc w' (λb o=>b<w.heap.size/\F0 b o) w.heap.size r v')/\r.WF):=by
   intro O a w' hr hN ⟨G,hI⟩;obtain⟨v,e1,e2,_,e3⟩:=Wq (P:=P) hI hrv (.inl λ_ _ h=>h) hp hr;exact⟨hI.defers,v,e1,⟨v,rfl,⟨hI.below.os,hI.below.tape,hI.below.output,hI.below.size,λk hk=>hI.below.block k hk (λ_ h=>h)⟩,e2 λ_ _ h=>h⟩,e3⟩
  refine PI (p:=W) hD pl c hok (.inl λ_ _ h=>h) V _ _ ?_ ?_ ?_ _ _ w ?_ (CI.start hrep hw ht) (h hw)
  .exact λO a w' h1 h2 h3=>fin O a w' h1 h2 h3
  .grind
  .exact λO a w' h1 h2 h3=>fin O a w' h1 h2 h3
  .exact⟨a_,V⟩
 refine ⟨?_,hcalls.mono λe w' h=>h.1⟩;obtain⟨_,_,_,h1,_⟩:=hcalls [];exact h1.2
def Vv(i m:Nat)(Z:D1):Bp:=λs=>if s=i then Z 0 else if m<=s then(λj=>match j with|some j=>Z (s-m+1) (Y j)|none=>W)else λ_=>W
variable{Z:D1}
theorem jR{i m:Nat}{p:Nat}{j:Option Nat}{b lo:Nat}(h:Vv i m Z p j=Y (b,lo)):(p=i/\Z 0 j=Y (b,lo))\/(p≠i/\m<=p/\Z (p-m+1) j=Y (b,lo)):=by
 simp [Vv]at h
 grind
variable{i:Nat}{v:Value}
theorem CI.startZ{w:World}{F0:Nat->Nat->Prop}{vs:Array Value}{e:EV}(h:AQ w (λb o=>F0 b o\/ZF Z b o) ts vs.toList)(Q:TV.p0 ts)(C:e.WF)
  (hi:vs[i]?=Y v)(E:KX Z)(H:∀q i b lo,Z q i=Y (b,lo)->b<w.heap.size)(I:∀b o R,ZF Z b o->¬F0 b R)(d:ZD w (ZF Z))
  (hb:∀a:Act,slot a i=v->∀G:Bp,G i=Z 0->tg a G=Z.tg->∀L,B2 w w (λb o=>F0 b o\/ZF Z b o) L->AN a w L G ((i,e)::Dg 0 ts) i e v):
  CI F0 (W0.mk w (ZF Z)) ((i,e)::Dg 0 ts) {tmps:=vs++v! n undef,defers:=[]} w:=by
 have η:=BY h;simp at η;have l:i<vs.size:=(w!.1 hi).1
 let G:Bp:=Vv i (vs.size+n) Z
 have A:∀p j b lo,G p j=Y (b,lo)->∃q,Z q j=Y (b,lo)/\((p=i/\q=0)\/(p≠i/\q=p-(vs.size+n)+1/\vs.size+n<=p)):=by
  intro p j b lo κ;rcases jR κ with⟨z,K⟩|⟨z,K,M⟩
  .grind
  grind
 have m:B2 w w (λb o=>F0 b o\/ZF Z b o) (AU w.heap.size F0 G):=by
  refine λb o u S hf=>⟨S,?_⟩;rintro(⟨_,z⟩|⟨p,j,lo,z,K⟩)
  .exact hf (.inl z)
  .obtain⟨q,M,_⟩:=A _ _ _ _ z;exact hf (.inr ⟨q,j,lo,M,K⟩)
 have x:∀s(k:s<vs.size),slot {tmps:=vs++v! n undef,defers:=[]} s=vs[s]:=by
  intro s k;simp[slot,v?,w_,k]
 refine ⟨G,λp j p' j' b lo θ J ε=>?_,λp j b lo J=>?_,⟨rfl,rfl,rfl,ae _,λ_ _ _=>rfl,λ_ _ _ _ h=>h,I,d⟩,rfl,λs k=>?_,λs k=>?_,λs=>?_⟩
 .obtain⟨q,B,f2⟩:=A _ _ _ _ J;obtain⟨q',δ,f4⟩:=A _ _ _ _ ε;have:=E _ _ _ _ _ _ _ B δ;exact⟨U,this.2⟩
 .obtain⟨q,B,_⟩:=A _ _ _ _ J;exact⟨H _ _ _ _ B,.inr λo ho=>⟨q,j,lo,B,ho⟩⟩
 .simp at k;rw[AB.d6,ac U,LG,a6 (x_ _),List.getElem?_eq_none U]
 .rw[AB.d6];by_cases y:i=s
  .subst y;rw[a6 rfl,x i l];have hv:vs[i]=v:=by
    grind
   rw [hv];refine hb _ (by rw[x i l,hv]) G (by simp[G,Vv]) ?_ _ m;funext g j;simp only[tg,G,Vv,Array.size_append,Array.size_replicate,D1.tg];rw[ac U,a6 U];show Z (vs.size+n+g-(vs.size+n)+1) (Y j)=Z (g+1) (Y j);rw[Nat.add_sub_cancel_left]
  .rw[ac y,LG,a6 (x_ _),x!];cases d:ts[s]? with
   |none=>trivial|some t=>
    have ζ:s<vs.size:=by
     grind
    have hv:vs.toList[s]?=Y (slot {tmps:=vs++v! n undef,defers:=[]} s):=by
     grind
    exact Cd m _ _ (((Bx _ _).1 h).2 s t _ d hv)
 .rw[AB.d6];split
  .exact C
  .rw[LG,a6 (x_ _),x!];cases d:ts[s]? with
   |none=>trivial|some t=>exact CG.1 Q t (v5 d)
theorem CI.startB{w:World}{F0:Nat->Nat->Prop}{vs:Array Value}{cs:List AS}(h:AQ w (λb o=>F0 b o\/ZF Z b o) ts vs.toList)(y:TV.p0 ts)(g:∀c∈cs,c.t.WF)
  (hi:vs[i]?=Y v)(hb:O6 w (λb o=>F0 b o\/ZF Z b o) Z cs v)(k:KX Z)(l:∀q i b lo,Z q i=Y (b,lo)->b<w.heap.size)(m:∀b o A,ZF Z b o->¬F0 b A)(z:ZD w (ZF Z)):
  CI F0 (W0.mk w (ZF Z)) ((i,.bx cs)::Dg 0 ts) {tmps:=vs++v! n undef,defers:=[]} w:=by
 refine CI.startZ (e:=.bx cs) h y g hi k l m z λa ha G u hr M s=>?_;obtain⟨b,c,θ,C,E,H,I,J⟩:=hb;simp only[AN];refine⟨b,c,θ,C,E,H,by rw[u];exact I,λj d B=>?_⟩;obtain⟨x,K,L⟩:=J j d B;refine⟨x,K,?_⟩;rw[u,hr];exact L.kept s (λ_ _ _=>rfl) BZ.rfl'
theorem CI.startA{w:World}{F0:Nat->Nat->Prop}{vs:Array Value}{cs:List AS}(h:AQ w (λb o=>F0 b o\/ZF Z b o) ts vs.toList)(u:TV.p0 ts)(g:∀c∈cs,c.t.WF)
  (hi:vs[i]?=Y v)(hb:Xk w (λb o=>F0 b o\/ZF Z b o) Z cs v)(k:KX Z)(l:∀q i b lo,Z q i=Y (b,lo)->b<w.heap.size)(m:∀b o z,ZF Z b o->¬F0 b z)(y:ZD w (ZF Z)):
  CI F0 (W0.mk w (ZF Z)) ((i,.z5 cs)::Dg 0 ts) {tmps:=vs++v! n undef,defers:=[]} w:=by
 refine CI.startZ (e:=.z5 cs) h u g hi k l m y λa ha G A hr K s=>?_;obtain⟨xs,C,E,H⟩:=hb;simp[AN];refine⟨xs,C,E,λj d B=>?_⟩;obtain⟨x,I,J,_⟩:=H j d B;refine⟨x,I,?_⟩;rw[A,hr];exact J.kept s (λ_ _ _=>rfl) BZ.rfl'
variable{us:Fq}
theorem ny(hD:Md P fn.ntmps D)(hf:P.funcs[f]? =Y fn)(hb:fn.body=Y c)(hname:fn.name≠ "runtime.NumGoroutine")(hok:D9 P fn.ntmps D pl c=X)(hrv:Hb P fn.results.toList rv=X)
  {args:Fq}(hn:args.length<=fn.ntmps){cs cs':List AS}(hcl:pl.sB=X)(hdst:pl.tn i=X)(h:TV.p0 args->(∀c∈cs,c.t.WF)->pl.wp (AT P) ⟨Bm rv (.bo cs cs' i us),λ_ _=>False,Bm rv (.bo cs cs' i us)⟩ ((i,.bx cs)::Dg 0 args)):AT P f args (.bo cs cs' i us):=by
 intro hw hwc;refine⟨m?,λF0 w vs v Z hrep hvi hbox hzu hzl hfree ht=>?_⟩;have hl:=BY hrep;simp at hl;have hcalls:Calls P f vs w λe w'=>((∀c∈cs',c.t.WF)/\TV.p0 us)/\∃r Z',e=.returned r/\Hq Z w w'/\O6 w' (λb o=>(b<w.heap.size/\F0 b o)\/ZF Z' b o) Z' cs' v/\
   KX Z'/\(∀q i b lo,Z' q i=Y (b,lo)->b<w'.heap.size/\(w.heap.size<=b\/∃p j lo',Z p j=Y (b,lo')/\lo'<=lo))/\
   RN w' (λb o=>(b<w.heap.size/\F0 b o)\/ZF Z' b o) us r:=by
  refine calls_of_wp hf hb ?_;have fin:∀(O:AB)(a:Act)(w':World),Bm rv (.bo cs cs' i us) O->Me fn.ntmps (Y (i,v)) a->CI F0 (W0.mk w (ZF Z)) O a w'->a.defers=[]/\∃r,(results fn a.tmps).run P w'=.ok r w'/\(((∀c∈cs',c.t.WF)/\TV.p0 us)/\∃r' Z',Ending.returned r=.returned r'/\Hq Z w w'/\O6 w' (λb o=>(b<w.heap.size/\F0 b o)\/ZF Z' b o) Z' cs' v/\
    KX Z'/\(∀q i b lo,Z' q i=Y (b,lo)->b<w'.heap.size/\(w.heap.size<=b\/∃p j lo',Z p j=Y (b,lo')/\lo'<=lo))/\
    RN w' (λb o=>(b<w.heap.size/\F0 b o)\/ZF Z' b o) us r'):=by
   rintro O a w' ⟨hs,hr⟩ hN ⟨G,hI⟩;have hag:B2 w' w' (AU w.heap.size F0 G) (λb o=>(b<w.heap.size/\F0 b o)\/ZF (CH a G i) b o):=by
    refine λb o u hc hF=>⟨hc,?_⟩;rintro(h1|⟨q,j,lo,h1,h2⟩)
    .exact hF (.inl h1)
    .obtain⟨p,j',f1,_⟩:=Cj h1;exact hF (.inr ⟨p,j',lo,f1,h2⟩)
   have hisz:i<a.tmps.size:=B5 hI hs V;have hbx:=AZ hI hs V;have hwb:=hI.wf i;rw[hs]at hwb;rw[hN.pin i v rfl]at hbx;simp only[AN]at hbx;obtain⟨b,c,θ,k1,k2,k3,k4,k5⟩:=hbx;obtain⟨vs',e1,e2,e3⟩:=JA (P:=P) hI hrv hr;have hm:=HO e1;have hshape:(results fn a.tmps)=(fn.results.mapM (HK a.tmps)>>=λvs=>pure (if h:vs.size=1 then vs[0]else .tuple vs)):=by
    unfold results;congr 1
   have hlen:=BY e2;have hres:∃r,(results fn a.tmps).run P w'=.ok r w'/\RN w' (AU w.heap.size F0 G) us r:=by
    rw [hshape];by_cases h1:vs'.length=1
    .obtain⟨x,rfl⟩:=v_.1 h1;rcases us with _|⟨t,_|⟨t',us⟩⟩
     .simp at hlen
     .simp only[AQ]at e2;obtain⟨v',r',hv',e4,rfl⟩:=e2;simp at hv';subst hv';exact⟨x,by simp[hm],e4⟩
     .simp at hlen
    .refine⟨.tuple vs'.toArray,by simp[hm,h1],?_⟩;rcases us with _|⟨t,_|⟨t',us⟩⟩
     .exact⟨_,rfl,e2.toA⟩
     .grind
     .exact⟨_,rfl,e2.toA⟩
   obtain ⟨r,hr1,hr2⟩:=hres;refine⟨hI.defers,r,hr1,⟨hwb,e3⟩,r,CH a G i,rfl,?_,⟨b,c,θ,k1,k2,k3,by rw[Dj];exact k4,λj d hj=>?_⟩,LD hI hisz,λq j b lo f1=>?_,?_⟩
   .exact⟨hI.below.os,hI.below.tape,hI.below.output,hI.below.size,λk hk hz=>hI.below.block k hk (λo⟨q,j,lo,f1,_⟩=>hz q j lo f1),λb o u hz hu=>hI.below.cell b o u hz hu⟩
   .obtain⟨x,f1,f2⟩:=k5 j d hj;refine⟨x,f1,?_⟩;rw[Dj];exact BX.tg (f2.kept hag (λ_ _ _=>rfl) BZ.rfl') λg lo j' hz=>QR hz j'
   .obtain⟨p,j',g1,_⟩:=Cj f1;obtain⟨f2,f3⟩:=hI.lt _ _ _ _ g1;refine⟨f2,f3.imp id (λe=>?_)⟩;exact e lo (ae _)
   .rcases us with _|⟨t,_|⟨t',us⟩⟩
    .obtain⟨vs2,f1,f2⟩:=hr2;exact⟨vs2,f1,A6 hag _ _ f2⟩
    .exact Cd hag _ _ hr2
    .obtain⟨vs2,f1,f2⟩:=hr2;exact⟨vs2,f1,A6 hag _ _ f2⟩
  refine PI (p:=Y (i,v)) hD pl c hok (.inr hcl) (λj u hp=>by cases hp;exact hdst) _ _ ?_ ?_ ?_ _ _ w ?_ (CI.startB hrep hw hwc hvi hbox hzu hzl hfree ht) (h hw hwc)
  .exact λO a w' h1 h2 h3=>fin O a w' h1 h2 h3
  .exact λi O a w' h1 _ _=>h1.elim
  .exact λO a w' h1 h2 h3=>fin O a w' h1 h2 h3
  .have hil:i<vs.size:=(w!.1 hvi).1;refine⟨a_,λj u hp=>?_⟩;cases hp;have:=w? hil;rw[this]at hvi;simp at hvi;simp[slot,v?,w_,hil,hvi]
 refine ⟨?_,hcalls.mono λe w' h=>h.2⟩;obtain⟨_,_,_,h1,_⟩:=hcalls [];exact h1.1
def Wk(cs'' cs':List AS):Prop:=cs''.length=cs'.length/\∀(i:Nat)(d:AS),cs'[i]?=Y d->∃d',cs''[i]?=Y d'/\(d=d'\/d=⟨T,.undef⟩)
theorem Wk.wf{b cs':List AS}(h:Wk b cs')(e:∀c∈b,c.t.WF):∀c∈cs',c.t.WF:=by
 intro c d;obtain⟨i,hi⟩:=List.getElem?_of_mem d;obtain⟨g,j,rfl|rfl⟩:=h.2 i c hi
 .grind
 .exact trivial
theorem Wk.cell{w:World}{ρ:JL}{z:Option (Nat×Nat)}{x:Value}{d b:AS}(h:d=b\/d=⟨T,.undef⟩)(e:BX w F ρ z b x):BX w F ρ z d x:=by
 rcases h with rfl|rfl
 .exact e
 .have:x.oneCell'=X:=by
   obtain ⟨o,t⟩:=b;cases o with
   |true=>exact QG e|false=>exact e.2
  exact ⟨by simp[A2];exact this,this⟩
def iC(rv:List RV)(cs cs':List AS)(i:Nat)(us:Fq)(O:AB):Prop:=∃cs'',Wk cs'' cs'/\Bm rv (.bo cs cs'' i us) O
theorem lu(hD:Md P fn.ntmps D)(hf:P.funcs[f]? =Y fn)(hb:fn.body=Y c)(hname:fn.name≠ "runtime.NumGoroutine")(hok:D9 P fn.ntmps D pl c=X)(hrv:Hb P fn.results.toList rv=X)
  {args:Fq}(hn:args.length<=fn.ntmps){cs cs':List AS}(hcl:pl.sB=X)(hdst:pl.tn i=X)(h:TV.p0 args->(∀c∈cs,c.t.WF)->pl.wp (AT P) ⟨iC rv cs cs' i us,λ_ _=>False,iC rv cs cs' i us⟩ ((i,.bx cs)::Dg 0 args)):AT P f args (.bo cs cs' i us):=by
 intro hw hwc;refine⟨m?,λF0 w vs v Z hrep hvi hbox hzu hzl hfree ht=>?_⟩;have hl:=BY hrep;simp at hl;have hcalls:Calls P f vs w λe w'=>((∀c∈cs',c.t.WF)/\TV.p0 us)/\∃r Z',e=.returned r/\Hq Z w w'/\O6 w' (λb o=>(b<w.heap.size/\F0 b o)\/ZF Z' b o) Z' cs' v/\
   KX Z'/\(∀q i b lo,Z' q i=Y (b,lo)->b<w'.heap.size/\(w.heap.size<=b\/∃p j lo',Z p j=Y (b,lo')/\lo'<=lo))/\
   RN w' (λb o=>(b<w.heap.size/\F0 b o)\/ZF Z' b o) us r:=by
  refine calls_of_wp hf hb ?_;have fin:∀(O:AB)(a:Act)(w':World),iC rv cs cs' i us O->Me fn.ntmps (Y (i,v)) a->CI F0 (W0.mk w (ZF Z)) O a w'->a.defers=[]/\∃r,(results fn a.tmps).run P w'=.ok r w'/\(((∀c∈cs',c.t.WF)/\TV.p0 us)/\∃r' Z',Ending.returned r=.returned r'/\Hq Z w w'/\O6 w' (λb o=>(b<w.heap.size/\F0 b o)\/ZF Z' b o) Z' cs' v/\
    KX Z'/\(∀q i b lo,Z' q i=Y (b,lo)->b<w'.heap.size/\(w.heap.size<=b\/∃p j lo',Z p j=Y (b,lo')/\lo'<=lo))/\
    RN w' (λb o=>(b<w.heap.size/\F0 b o)\/ZF Z' b o) us r'):=by
   rintro O a w' ⟨cs'',hwk,hs,hr⟩ hN ⟨G,hI⟩;have hag:B2 w' w' (AU w.heap.size F0 G) (λb o=>(b<w.heap.size/\F0 b o)\/ZF (CH a G i) b o):=by
    refine λb o u hc hF=>⟨hc,?_⟩;rintro(h1|⟨q,j,lo,h1,h2⟩)
    .exact hF (.inl h1)
    .obtain⟨p,j',f1,_⟩:=Cj h1;exact hF (.inr ⟨p,j',lo,f1,h2⟩)
   have hisz:i<a.tmps.size:=B5 hI hs V;have hbx:=AZ hI hs V;have hwb:=hI.wf i;rw[hs]at hwb;rw[hN.pin i v rfl]at hbx;simp only[AN]at hbx;obtain⟨b,c,θ,k1,k2,k3,k4,k5⟩:=hbx;obtain⟨vs',e1,e2,e3⟩:=JA (P:=P) hI hrv hr;have hm:=HO e1;have hshape:(results fn a.tmps)=(fn.results.mapM (HK a.tmps)>>=λvs=>pure (if h:vs.size=1 then vs[0]else .tuple vs)):=by
    unfold results;congr 1
   have hlen:=BY e2;have hres:∃r,(results fn a.tmps).run P w'=.ok r w'/\RN w' (AU w.heap.size F0 G) us r:=by
    rw [hshape];by_cases h1:vs'.length=1
    .obtain⟨x,rfl⟩:=v_.1 h1;rcases us with _|⟨t,_|⟨t',us⟩⟩
     .simp at hlen
     .simp only[AQ]at e2;obtain⟨v',r',hv',e4,rfl⟩:=e2;simp at hv';subst hv';exact⟨x,by simp[hm],e4⟩
     .simp at hlen
    .refine⟨.tuple vs'.toArray,by simp[hm,h1],?_⟩;rcases us with _|⟨t,_|⟨t',us⟩⟩
     .exact⟨_,rfl,e2.toA⟩
     .grind
     .exact⟨_,rfl,e2.toA⟩
   obtain ⟨r,hr1,hr2⟩:=hres;refine⟨hI.defers,r,hr1,⟨hwk.wf hwb,e3⟩,r,CH a G i,rfl,?_,⟨b,c,θ,k1,k2,k3.trans hwk.1,by rw[Dj];exact k4,λj d hj=>?_⟩,LD hI hisz,λq j b lo f1=>?_,?_⟩
   .exact⟨hI.below.os,hI.below.tape,hI.below.output,hI.below.size,λk hk hz=>hI.below.block k hk (λo⟨q,j,lo,f1,_⟩=>hz q j lo f1),λb o u hz hu=>hI.below.cell b o u hz hu⟩
   .obtain⟨d',hd',hdd⟩:=hwk.2 j d hj;obtain⟨x,f1,f2⟩:=k5 j d' hd';refine⟨x,f1,Wk.cell hdd ?_⟩;rw[Dj];exact BX.tg (f2.kept hag (λ_ _ _=>rfl) BZ.rfl') λg lo j' hz=>QR hz j'
   .obtain⟨p,j',g1,_⟩:=Cj f1;obtain⟨f2,f3⟩:=hI.lt _ _ _ _ g1;refine⟨f2,f3.imp id (λe=>?_)⟩;exact e lo (ae _)
   .rcases us with _|⟨t,_|⟨t',us⟩⟩
    .obtain⟨vs2,f1,f2⟩:=hr2;exact⟨vs2,f1,A6 hag _ _ f2⟩
    .exact Cd hag _ _ hr2
    .obtain⟨vs2,f1,f2⟩:=hr2;exact⟨vs2,f1,A6 hag _ _ f2⟩
  refine PI (p:=Y (i,v)) hD pl c hok (.inr hcl) (λj u hp=>by cases hp;exact hdst) _ _ ?_ ?_ ?_ _ _ w ?_ (CI.startB hrep hw hwc hvi hbox hzu hzl hfree ht) (h hw hwc)
  .exact λO a w' h1 h2 h3=>fin O a w' h1 h2 h3
  .exact λi O a w' h1 _ _=>h1.elim
  .exact λO a w' h1 h2 h3=>fin O a w' h1 h2 h3
  .have hil:i<vs.size:=(w!.1 hvi).1;refine⟨a_,λj u hp=>?_⟩;cases hp;have:=w? hil;rw[this]at hvi;simp at hvi;simp[slot,v?,w_,hil,hvi]
 refine ⟨?_,hcalls.mono λe w' h=>h.2⟩;obtain⟨_,_,_,h1,_⟩:=hcalls [];exact h1.1
theorem nx(hD:Md P fn.ntmps D)(hf:P.funcs[f]? =Y fn)(hb:fn.body=Y c)(hname:fn.name≠ "runtime.NumGoroutine")(hok:D9 P fn.ntmps D pl c=X)(hrv:Hb P fn.results.toList rv=X)
  {args:Fq}(hn:args.length<=fn.ntmps){cs:List AS}(hcl:pl.sB=X)(hp:r.plain=X)(hlo:r.lone=T)(h:TV.p0 args->(∀c∈cs,c.t.WF)->pl.wp (AT P) ⟨Bm rv r,λ_ _=>False,Bm rv r⟩ ((i,.z5 cs)::Dg 0 args)):AT P f args (.ag cs i r):=by
 intro hw hwc;refine⟨m?,λF0 w vs v Z hrep hvi hbox hzu hzl hfree ht=>?_⟩;have hl:=BY hrep;simp at hl;have hcalls:Calls P f vs w λe w'=>r.WF/\∃v',e=.returned v'/\Hq Z w w'/\cc w' (λb o=>b<w.heap.size/\F0 b o) (λb lo=>w.heap.size<=b\/∃p j lo',Z p j=Y (b,lo')/\lo'<=lo) r v':=by
  refine calls_of_wp hf hb ?_;have fin:∀(O:AB)(a:Act)(w':World),Bm rv r O->Me fn.ntmps W a->CI F0 (W0.mk w (ZF Z)) O a w'->a.defers=[]/\∃v,(results fn a.tmps).run P w'=.ok v w'/\(r.WF/\∃v',Ending.returned v=.returned v'/\Hq Z w w'/\cc w' (λb o=>b<w.heap.size/\F0 b o) (λb lo=>w.heap.size<=b\/∃p j lo',Z p j=Y (b,lo')/\lo'<=lo) r v'):=by
   intro O a w' hr hN ⟨G,hI⟩;obtain⟨v,e1,_,e2,e3⟩:=Wq (P:=P) hI hrv (.inr hlo) hp hr;refine⟨hI.defers,v,e1,e3,v,rfl,⟨hI.below.os,hI.below.tape,hI.below.output,hI.below.size,λk hk hz=>hI.below.block k hk (λo⟨q,j,lo,f1,_⟩=>hz q j lo f1),λb o u hz hu=>hI.below.cell b o u hz hu⟩,?_⟩;have hN:∀b lo,(w.heap.size<=b\/∀o,lo<=o->ZF Z b o)->w.heap.size<=b\/∃p j lo',Z p j=Y (b,lo')/\lo'<=lo:=λb lo h=>h.imp id λe=>e lo (ae _);have e4:=e2 hlo;cases r with
   |sh t=>exact e4|tp ts=>exact e4|z5 ds=>
    obtain ⟨Z',f1,f2,f3,f4⟩:=e4;exact⟨Z',f1,f2,f3,λq i b lo hz=>⟨(f4 q i b lo hz).1,hN _ _ (f4 q i b lo hz).2⟩⟩
   |_=>first|(exact Bool.noConfusion hp)|(exact Bool.noConfusion hlo)
  refine PI (p:=W) hD pl c hok (.inr hcl) V _ _ ?_ ?_ ?_ _ _ w ?_ (CI.startA hrep hw hwc hvi hbox hzu hzl hfree ht) (h hw hwc)
  .exact λO a w' h1 h2 h3=>fin O a w' h1 h2 h3
  .exact λi O a w' h1 _ _=>h1.elim
  .exact λO a w' h1 h2 h3=>fin O a w' h1 h2 h3
  .exact⟨a_,V⟩
 refine ⟨?_,hcalls.mono λe w' h=>h.2⟩;obtain⟨_,_,_,h1,_⟩:=hcalls [];exact h1.1
theorem n7(hD:Md P fn.ntmps D)(hf:P.funcs[f]? =Y fn)(hb:fn.body=Y c)(hname:fn.name≠ "runtime.NumGoroutine")(hok:D9 P fn.ntmps D pl c=X)(hrv:Hb P fn.results.toList rv=X)
  {args:Fq}(hn:args.length<=fn.ntmps){kvs:Bq}(h:TV.p0 args->pl.wp (AT P) ⟨Bm rv (.mpr kvs ts),λ_ _=>False,Bm rv (.mpr kvs ts)⟩ (Dg 0 args)):AT P f args (.mpr kvs ts):=by
 intro hw;refine⟨m?,λF0 w vs hrep ht=>?_⟩;have hl:=BY hrep;simp at hl;have hcalls:Calls P f vs w λe w'=>(∃v,e=.returned v/\Below w.heap.size w w'/\Jc w' (λb o=>b<w.heap.size/\F0 b o) w.heap.size (.mpr kvs ts) v)/\(A9.mpr kvs ts).WF:=by
  refine calls_of_wp hf hb ?_;have fin:∀(O:AB)(a:Act)(w':World),Bm rv (.mpr kvs ts) O->Me fn.ntmps W a->CI F0 (W0.mk w λ_ _=>False) O a w'->a.defers=[]/\∃v,(results fn a.tmps).run P w'=.ok v w'/\((∃v',Ending.returned v=.returned v'/\Below w.heap.size w w'/\Jc w' (λb o=>b<w.heap.size/\F0 b o) w.heap.size (.mpr kvs ts) v')/\(A9.mpr kvs ts).WF):=by
   intro O a w' hr hN ⟨G,hI⟩;rcases rv with _|⟨⟨s⟩|⟨s,_⟩,rs⟩
   .exact hr.elim
   .obtain⟨hne,⟨b,o,h1,h2⟩,h3⟩:=hr;have hg:E6 O (.tmp s::rs)=Y (.AaG b::ts):=by simp[E6,RV.get,h1,EV.val,h3]
    obtain ⟨us,e1,e2,e3⟩:=JA (P:=P) hI hrv hg;have hm:=HO e1;have hshape:(results fn a.tmps)=(fn.results.mapM (HK a.tmps)>>=λvs=>pure (if h:vs.size=1 then vs[0]else .tuple vs)):=by
     unfold results;congr 1
    simp [AQ]at e2;obtain⟨v0,us',rfl,e4,e5⟩:=e2;simp[A2]at e4;subst e4;have hor:=AZ hI h2 V;have how:=hI.wf o;rw[h2]at how;simp[AN]at hor;obtain⟨k1,k2,k3⟩:=hor;have hlt:=hI.lt _ _ _ _ k2;have hus:us'.length≠0:=by
     have h6:=BY e5;have:ts.length=rs.length:=by
      have:∀(ys:List RV)(ts:Fq),E6 O ys=Y ts->ts.length=ys.length:=by
       intro ys
       induction ys with
       |nil=>intro ts h;simp[E6]at h;subst h;rfl|cons y ys ih=>
        grind [E6,q0]
      exact this _ _ h3
     grind
    have hag:B2 w' w' (AU w.heap.size F0 G) (λb o=>b<w.heap.size/\F0 b o):=λb o u hc hF=>⟨hc,λhF'=>hF (.inl hF')⟩;refine⟨hI.defers,.tuple (Value.map (Y b)::us').toArray,?_,⟨_,rfl,⟨hI.below.os,hI.below.tape,hI.below.output,hI.below.size,λk hk=>hI.below.block k hk (λ_ h=>h)⟩,b,us',rfl,hlt.2.resolve_right (λe=>e _ (ae _)),hlt.1,k3,A6 hag _ _ e5⟩,how,e3.2⟩;rw[hshape];have:¬us'.length=0:=hus;simp[hm,this]
   .exact hr.elim
  refine PI (p:=W) hD pl c hok (.inl λ_ _ h=>h) V _ _ ?_ ?_ ?_ _ _ w ?_ (CI.start hrep hw ht) (h hw)
  .exact λO a w' h1 h2 h3=>fin O a w' h1 h2 h3
  .grind
  .exact λO a w' h1 h2 h3=>fin O a w' h1 h2 h3
  .exact⟨a_,V⟩
 refine ⟨?_,hcalls.mono λe w' h=>h.1⟩;obtain⟨_,_,_,h1,_⟩:=hcalls [];exact h1.2
end
end Go.Sf
