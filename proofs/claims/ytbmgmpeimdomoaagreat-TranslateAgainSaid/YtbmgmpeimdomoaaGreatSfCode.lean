/- Code, and functions. -/
import Derived.Test.YtbmgmpeimdomoaaGreatSfRegion
set_option linter.all false
open Option renaming some->Y,none->W
open Bool renaming true->X,false->T
open List renaming all_eq_true->w_,mem_of_getElem?->w!,mapM_cons->w?,length_eq_one_iff->x_
open Array renaming replicate->x!,getD_eq_getD_getElem?->x?,getElem?_append->y_,getElem?_eq_some_iff->y!,getElem?_eq_getElem->y?
open Nat renaming zero_le->z_,sub_zero->z!
namespace Go.Sf
open Go.RowKit (Below)
def D2(P:Program)(N:Nat)(D:I2->Array Oper->List PR->Bool):PC->Code->Bool
 |.skip _,.skip=>X|.ret,.ret=>X|.exit i _,.exit j=>i==j|.seq a b,.seq c d=>D2 P N D a c&&D2 P N D b d|.cond c a b,.cond x p q=>AK x c&&(D2 P N D a p&&D2 P N D b q)|.block i c,.block j d=>i==j&&D2 P N D c d|.loop _ c,.loop d=>D2 P N D c d|.region rs _,.region _ ops draw=>!draw&&NG P N ops ops.toList rs|.draw ds rs _,.region _ ops draw=>draw&&D ds ops rs|.rls _ a,c=>D2 P N D a c|.bad,_=>X|_,_=>T
def PC.p0:PC->Bool
 |.seq a b=>a.p0&&b.p0|.cond _ a b=>a.p0&&b.p0|.block _ c=>c.p0|.loop _ c=>c.p0|.rls _ c=>c.p0|_=>X
def r0(i:Nat)(rs:List PR):Bool:=rs.all λr=>r.dst !=Y i
def PC.r0(i:Nat):PC->Bool
 |.seq a b=>a.r0 i&&b.r0 i|.cond _ a b=>a.r0 i&&b.r0 i|.block _ c=>c.r0 i|.loop _ c=>c.r0 i|.rls _ c=>c.r0 i|.region rs _=>Go.Sf.r0 i rs|.draw _ rs _=>Go.Sf.r0 i rs|_=>X
variable{i:Nat}
theorem Y2{rs:List PR}(h:r0 i rs=X):∀r∈rs,r.dst≠Y i:=by
 intro r b;have:=w_.1 h r b;simpa using this
section
variable{P:Program}{F0:Nat->Nat->Prop}{w0:W0}{N:Nat}{p:Option (Nat×Value)}{D:I2->Array Oper->List PR->Bool}
theorem Bw.envWF{ε:AB}{a:Act}{w:World}(h:Bw F0 w0 ε a w):∀s,(ε.get s).WF:=by
 obtain ⟨G,h⟩:=h;exact h.wf
def Lp(P:Program)(N:Nat)(D:I2->Array Oper->List PR->Bool):Prop:=
 ∀(F0:Nat->Nat->Prop)(w0:W0)(p:Option (Nat×Value))(id:Nat)(ds:I2)(ops:Array Oper)(rs:List PR)(live:I2)(ε:AB)(a:Act)(w:World)(K:AB->Prop)(Q:Exit->Act->World->Prop),D ds ops rs=X->(∀i v,p=Y (i,v)->∀r∈rs,r.dst≠Y i)->Lq N p a->Bw F0 w0 ε a w->S0 ε ds=X->wpOps (AT P) (λe=>K (e.ek live)) rs ε ->
  (∀ε a w,K ε->Lq N p a->Bw F0 w0 ε a w->Q .normal a w)->(Code.region id ops X).wp P Q a w
theorem Oa(hD:Lp P N D):∀(ζ:PC)(c:Code),D2 P N D ζ c=X->((∀b o,¬w0.E b o)\/ζ.p0=X)->(∀i v,p=Y (i,v)->ζ.r0 i=X)->∀(q:Q)(A:Exit->Act->World->Prop),
  (∀ε a w,q.normal ε->Lq N p a->Bw F0 w0 ε a w->A .normal a w)->(∀i ε a w,q.exit i ε->Lq N p a->Bw F0 w0 ε a w->A (.exit i) a w)->(∀ε a w,q.ret ε->Lq N p a->Bw F0 w0 ε a w->A .ret a w) ->
  ∀ε a w,Lq N p a->Bw F0 w0 ε a w->ζ.wp (AT P) q ε->c.wp P A a w:=by
 intro ζ
 induction ζ with
 |skip l=>
  intro c g K t q A C H I ε a w u m h;cases c<;>simp[D2]at g<;>first|exact Go.wp_skip (C _ a w h u (m.ek l))|cases g
 |ret=>
  intro c g K t q A C H I ε a w u m h;cases c<;>simp[D2]at g<;>first|exact Go.wp_ret (I ε a w h u m)|cases g
 |exit i l=>
  intro c g K t q A C H I ε a w u m h;cases c<;>simp only[D2]at g<;>first|cases g|skip
  simp at g;subst g;exact Go.wp_exit (H i _ a w h u (m.ek l))
 |seq x y κ η=>
  intro c g K t q A C H I ε a w u m h;cases c<;>simp only[D2]at g<;>first|cases g|skip
  rename_i c d;simp at g;have M:=K.imp id (λe=>(gR _ _▸e:x.p0=X/\y.p0=X));have O:=λi v J=>(gR _ _▸t i v J:x.r0 i=X/\y.r0 i=X);refine Go.wp_seq (κ c g.1 (M.imp id And.left) (λi v J=>(O i v J).1) _ _ ?_ ?_ ?_ ε a w u m h)
  .intro ε a w L u m;exact η d g.2 (M.imp id And.right) (λi v J=>(O i v J).2) q A C H I ε a w u m (L m.envWF)
  .exact H
  .exact I
 |cond o x y κ η=>
  intro c g K t q A C H I ε a w u m h;cases c<;>simp only[D2]at g<;>first|cases g|skip
  rename_i c d e;simp at g;simp[PC.wp]at h;split at h
  .rename_i b S;have hc:a.eval c=.bool b:=by
    obtain ⟨G,m⟩:=m;have:=(Az m g.1 S).1
    grind [Aq]
   have M:=K.imp id (λe=>(gR _ _▸e:x.p0=X/\y.p0=X));have O:=λi v J=>(gR _ _▸t i v J:x.r0 i=X/\y.r0 i=X);refine Go.wp_cond_split hc (λS=>?_) (λS=>?_)
   .exact κ d g.2.1 (M.imp id And.left) (λi v J=>(O i v J).1) q A C H I ε a w u m (h.1 S)
   .exact η e g.2.2 (M.imp id And.right) (λi v J=>(O i v J).2) q A C H I ε a w u m (h.2 S)
  .exact h.elim
 |block i x ih=>
  intro c g K t q A C H I ε a w u m h;cases c<;>simp only[D2]at g<;>first|cases g|skip
  rename_i j d;simp at g;obtain⟨rfl,g⟩:=g;refine Go.wp_block (ih d g K t _ _ ?_ ?_ ?_ ε a w u m h)
  .exact C
  .intro k ε a w L u m;simp[Exit.inBlock];simp only at L;split
   next e=>rw[Ne e]at L;exact C ε a w L u m
   next e=>rw[QQ e]at L;exact H k ε a w L u m
  .exact I
 |loop B x ih=>
  intro c g K t q A C H I ε a w u m h;cases c<;>simp[D2]at g<;>first|cases g|skip
  rename_i c;simp[PC.wp]at h
  let δ:Act->World->Prop:=λa w=>∀(b:Frame)(k:List Item)(cs:List Frame),∃e a' w',A e a' w'/\Arrives P (lone (b.at a (.code c::.inLoop c::k)) cs w) b k cs e a' w'
  have hX:=h (λe=>∀a w,Lq N p a->Bw F0 w0 e a w->δ a w) ?_ a w u (m.ek B)
  .intro b k cs;obtain⟨e,a',w',R,z⟩:=hX b k cs;exact⟨e,a',w',R,.of_steps (.one step_loop) z⟩
  .intro e he a w u m;have S:c.wp P (Exit.then δ A) a w:=by
    refine ih c g K t _ _ ?_ ?_ ?_ e a w u m (he m.envWF)
    .intro ε a w L u m;exact L a w u (m.ek B)
    .exact H
    .exact I
   intro b k cs;obtain⟨e,a₁,w₁,R,z⟩:=S b (.inLoop c::k) cs;cases e with
   |normal=>
    obtain ⟨e₂,a₂,w₂,hq₂,θ⟩:=R b k cs;exact⟨e₂,a₂,w₂,hq₂,.of_steps (Steps.trans z (.one step_inLoop)) θ⟩
   |exit id=>exact⟨_,a₁,w₁,R,.pass (x:=.inLoop c) rfl (λ_ _=>.inl V) z⟩|goto l=>exact⟨_,a₁,w₁,R,.pass (x:=.inLoop c) rfl (λ_ _=>.inl V) z⟩|ret=>exact⟨_,a₁,w₁,R,.pass (x:=.inLoop c) rfl (λ_ _=>.inl V) z⟩|panic ch=>exact⟨_,a₁,w₁,R,.pass (x:=.inLoop c) rfl (λ_ _=>.inl V) z⟩|outgrown=>exact⟨_,a₁,w₁,R,.pass (x:=.inLoop c) rfl (λ_ _=>.inl V) z⟩
 |region rs B=>
  intro c g K t q A C H I ε a w u m h;cases c<;>simp only[D2]at g<;>first|cases g|skip
  rename_i id ops draw;simp[Bool.not_eq_true']at g;obtain⟨rfl,g⟩:=g;exact fF g (λi v J=>Y2 (t i v J)) u m h λε a w L u m=>C _ a w L u (m.ek B)
 |draw ds rs B=>
  intro c g K t q A C H I ε a w u m h;cases c<;>simp only[D2]at g<;>first|cases g|skip
  rename_i id ops draw;simp at g;obtain⟨rfl,g⟩:=g;exact hD F0 w0 p id ds ops rs B ε a w q.normal A g (λi v J=>Y2 (t i v J)) u m h.1 h.2 C
 |bad=>
  intro c g K t q A C H I ε a w u m h;exact h.elim
 |rls s x ih=>
  intro c g K t q A C H I ε a w u m h;have hok':D2 P N D x c=X:=by
   grind [D2]
  simp [PC.wp]at h;split at h
  next cs hs=>obtain⟨G,m⟩:=m;exact ih c hok' (K.imp id λe=>e) t q A C H I _ a w u (m.rls hs) h
  .exact h.elim
def DU:Nat->Fq->AB
 |_,[]=>[]|k,t::ts=>(k,.tv t)::DU (k+1) ts
theorem Kb:∀(ts:Fq)(k n:Nat),AB.get (DU k ts) n=if k<=n then(match ts[n-k]? with|some t=>.tv t|none=>.undef)else .undef
 |[],k,n=>by simp[DU,AB.get]|t::ts,k,n=>by
  rw [DU,AB.bq,Kb ts (k+1) n]
  grind
variable{ts:Fq}{n:Nat}
theorem Bw.start{w:World}{F0:Nat->Nat->Prop}{vs:Array Value}(h:AR w F0 ts vs.toList)(j:TV.nm ts)(d:UQ w):Bw F0 (W0.mk w λ_ _=>False) (DU 0 ts) {tmps:=vs++x! n undef,defers:=[]} w:=by
 have q:=BM h;simp at q;refine⟨λ_ _=>W,V,V,⟨rfl,rfl,rfl,R0 _,λ_ _ _=>rfl,λ_ _ _ _ h=>h,λ_ _ _ h=>h.elim,d,λ_ _ h=>h.elim⟩,rfl,λs k=>?_,λs k=>?_,λs=>?_⟩
 .rw[Kb]
  grind
 .rw[Kb,Ne (z_ _),z!];cases d:ts[s]? with
  |none=>trivial|some t=>
   have e:s<vs.size:=by
    grind
   have hv:vs.toList[s]?=Y (slot {tmps:=vs++x! n undef,defers:=[]} s):=by
    simp [slot,x?,y_,e]
   refine CM (λb o u l m=>⟨l,?_⟩) _ _ (((Bm _ _).1 h).2 s t _ d hv);rintro(g|⟨_,_,_,g,_⟩)
   .exact m g.2
   .cases g
 .rw[Kb,Ne (z_ _),z!];cases d:ts[s]? with
  |none=>trivial|some t=>exact Bt.1 j t (w! d)
def RW(P:Program):ResultVar->RV->Bool
 |.tmp t,.tmp s=>t==s|.cell x t,.cell s W=>x==s&&CF P t==Y T|.cell x t,.cell s (Y n)=>x==s&&CF P t==Y X&&DF P t==Y n|_,_=>T
def HD(P:Program):List ResultVar->List RV->Bool
 |[],[]=>X|x::xs,y::ys=>RW P x y&&HD P xs ys|_,_=>T
def G2(tmps:Array Value):ResultVar->Sem Value
 |.tmp t=>pure (tmps.getD t undef)|.cell a t=>do loadVar t (<-asAddr (tmps.getD a undef))
variable{ε:AB}{a:Act}{w:World}{G:BX}
theorem b7(m:AP F0 w0 ε a w G){x:ResultVar}{y:RV}(d:RW P x y=X){t:TV}(h:y.get ε=Y t):∃v,(G2 a.tmps x).run P w=.ok v w/\Aq w (AV w0.heap.size F0 G) t v/\t.WF:=by
 have e:∀s,AK (.tmp s) (.s s)=X:=λs=>so
 cases x with
 |tmp s=>
  cases y with
  |tmp s'=>
   simp [RW]at d;subst d;have:=Az m (e s) (t:=t) h;exact⟨slot a s,rfl,this⟩
  |cell s' n=>cases n<;>simp[RW]at d
 |cell s ty=>
  cases y with
  |tmp _=>cases d
  |cell s' n=>
   cases n with
   |none=>
    simp [RW]at d;obtain⟨rfl,z⟩:=d;simp[RV.get]at h;split at h
    next u r o=>simp at h;subst h;obtain⟨b,g,vs,A,l,B,_,C⟩:=Rt m (e s) (y:=.s s) o;simp[AR]at l;obtain⟨v,M,rfl,K,O⟩:=l;have H:=C 0 v rfl;rw[Addr.add_zero']at H;have k:a.tmps.getD s undef=.pointer (Y ⟨b,g,W⟩):=A;refine⟨v,?_,K,B.1⟩;simp[G2,k,loadVar,C1 z,H,asAddr]
    .cases h
   |some n=>
    simp [RW]at d;obtain⟨⟨rfl,z⟩,L⟩:=d;simp[RV.get]at h;split at h
    .rename_i cs o;split at h
     .rename_i q;simp at h;subst h;obtain⟨b,g,vs,A,l,B,E,C⟩:=Rt m (e s) (y:=.s s) o;have J:=BM l;have j:=run_loadCells_list (P:=P) w ⟨b,g,W⟩ vs C;rw[J,q]at j;have k:a.tmps.getD s undef=.pointer (Y ⟨b,g,W⟩):=A;refine⟨.agg vs.toArray,?_,?_,B⟩
      .simp[G2,k,loadVar,C1 z,CL L,j,asAddr]
      .simp only[Aq];exact⟨_,rfl,l,by rw[w_];exact λx I=>E x I⟩
     .cases h
    .cases h
theorem Ip(e:AP F0 w0 ε a w G):∀{xs:List ResultVar}{d:List RV},HD P xs d=X->∀{ts:Fq},Et ε d=Y ts->∃vs,(xs.mapM (G2 a.tmps)).run P w=.ok vs w/\AR w (AV w0.heap.size F0 G) ts vs/\TV.nm ts
 |[],[],_,ts,h=>by simp[Et]at h;subst h;exact⟨[],V,rfl,trivial⟩|[],_::_,b,_,_=>by simp[HD]at b|_::_,[],b,_,_=>by simp[HD]at b|x::xs,y::d,b,ts,h=>by
  simp [HD]at b;simp[Et]at h;split at h
  next t us g j=>simp at h;subst h;obtain⟨v,k,l,m⟩:=b7 e b.1 g;obtain⟨vs,o,q,s⟩:=Ip e b.2 j;exact⟨v::vs,by simp[w?,k,o],⟨v,vs,rfl,l,q⟩,m,s⟩
  .cases h
theorem G4{f:ResultVar->Sem Value}{xs:Array ResultVar}{vs:List Value}{w':World}(h:(xs.toList.mapM f).run P w=.ok vs w'):(xs.mapM f).run P w=.ok vs.toArray w':=by
 rw [<-Array.toArray_toList (xs:=xs),List.mapM_toArray];simp[h]
variable{F:Nat->Nat->Prop}
theorem AR.toA{vs:List Value}(h:AR w F ts vs):AR w F ts vs.toArray.toList:=c!
def As.lone:As->Bool
 |.own _=>X|.Aa6 _ _=>X|_=>T
variable{fn:Func}{r:As}
theorem XX(I:AP F0 w0 ε a w G){m:List RV}(k:HD P fn.results.toList m=X)(O:(∀b o,¬w0.E b o)\/r.lone=T)(J:r.plain=X)(h:BT m r ε):
  ∃v,(results fn a.tmps).run P w=.ok v w/\((∀b o,¬w0.E b o)->JE w (λb o=>b<w0.heap.size/\F0 b o) w0.heap.size r v)/\(r.lone=T->cA w (λb o=>b<w0.heap.size/\F0 b o) (λb lo=>w0.heap.size<=b\/∀o,lo<=o->w0.E b o) r v)/\r.WF:=by
 have H:∀ts,Et ε m=Y ts->∃vs:List Value,(fn.results.mapM (G2 a.tmps)).run P w=.ok vs.toArray w/\AR w (AV w0.heap.size F0 G) ts vs/\TV.nm ts:=by
  grind [Ip,G4]
 have l:(results fn a.tmps)=(fn.results.mapM (G2 a.tmps)>>=λvs=>pure (if h:vs.size=1 then vs[0]else .tuple vs)):=by
  unfold results;congr 1
 have M:Bk w w (AV w0.heap.size F0 G) (λb o=>b<w0.heap.size/\F0 b o):=λb o u κ η=>⟨κ,λhF'=>η (.inl hF')⟩;cases r with
 |sh t=>
  have A:∃x,m=[x]/\x.get ε=Y t:=by
   rcases m with _|⟨x,_|⟨y,m⟩⟩<;>simp[BT]at h;exact⟨x,rfl,h⟩
  obtain ⟨x,rfl,hx⟩:=A;obtain⟨vs,e1,L,e3⟩:=H [t] (by simp[Et,hx]);simp only[AR]at L;obtain⟨v,r',rfl,e4,rfl⟩:=L;refine⟨v,?_,λ_=>CM M _ _ e4,λ_=>CM M _ _ e4,e3.1⟩;rw[l];simp[e1]
 |own t=>
  have A:∃s,m=[.tmp s]/\ε.get s=.ow t:=by
   rcases m with _|⟨x,_|⟨y,m⟩⟩
   .simp[BT]at h
   .cases x<;>simp[BT]at h;exact⟨_,rfl,h⟩
   .simp[BT]at h
  obtain ⟨s,rfl,K⟩:=A;obtain⟨vs,e1,L,e3⟩:=H [t] (by simp[Et,RV.get,K,EV.val]);have hr:RW P (.tmp s) (.tmp s)=X:=by simp[RW]
  have B:=Ah I K V;have C:=I.wf s;rw[K]at C;simp[AM]at B;have z:fn.results.toList=[.tmp s]:=by
   rcases hx:fn.results.toList with _|⟨x,_|⟨y,xs⟩⟩<;>rw[hx]at k
   .simp[HD]at k
   .cases x<;>simp[HD,RW]at k;rw[k]
   .simp[HD]at k
  have hv:(results fn a.tmps).run P w=.ok (slot a s) w:=by
   rw [l];have hm:(fn.results.mapM (G2 a.tmps)).run P w=.ok [slot a s].toArray w:=by
    refine G4 ?_;rw[z];simp[w?,G2,slot]
   simp [hm]
  replace O:=O.resolve_right (by simp[As.lone]);refine⟨slot a s,hv,λ_=>⟨G s W,B.kept (λb o u κ η=>⟨κ,?_⟩) (λ_ _ _=>rfl),λb lo ζ=>?_⟩,λe=>by simp[As.lone]at e,C⟩
  .rintro(A|⟨lo,A,δ⟩)
   .exact η (.inl A)
   .exact η (.inr ⟨s,W,lo,A,δ⟩)
  .have:=I.lt _ _ _ _ ζ;exact⟨this.2.resolve_right (λe=>O _ _ (e _ (R0 _))),this.1⟩
 |tp ts=>
  simp [BT]at h;have hne:m.length≠1:=by
   grind
  have δ:Et ε m=Y ts:=by
   grind
  obtain ⟨vs,e1,L,e3⟩:=H ts δ;have hlen:vs.length≠1:=by
   rw [BM L];have:∀(m:List RV)(ts:Fq),Et ε m=Y ts->ts.length=m.length:=by
    intro m
    induction m with
    |nil=>intro ts h;simp[Et]at h;subst h;rfl|cons y m ih=>
     grind [Et,mE]
   grind
  refine ⟨.tuple vs.toArray,?_,λ_=>⟨vs.toArray,rfl,(Ar M _ _ L).toA⟩,λ_=>⟨vs.toArray,rfl,(Ar M _ _ L).toA⟩,e3⟩;rw[l];simp[e1,hlen]
 |Aa6 n es=>
  have A:∃s,m=[.tmp s]/\ε.get s=.xo n es:=by
   rcases m with _|⟨x,_|⟨y,m⟩⟩
   .simp[BT]at h
   .cases x<;>simp[BT]at h;exact⟨_,rfl,h⟩
   .simp[BT]at h
  obtain ⟨s,rfl,K⟩:=A;have B:=Ah I K V;have C:=I.wf s;rw[K]at C;simp[AM]at B;obtain⟨xs,⟨z0,k1,k2⟩,k3,k4,k5⟩:=B;have z:fn.results.toList=[.tmp s]:=by
   rcases hx:fn.results.toList with _|⟨x,_|⟨y,xs⟩⟩<;>rw[hx]at k
   .simp[HD]at k
   .cases x<;>simp[HD,RW]at k;rw[k]
   .simp[HD]at k
  have hv:(results fn a.tmps).run P w=.ok (slot a s) w:=by
   rw [l];have hm:(fn.results.mapM (G2 a.tmps)).run P w=.ok [slot a s].toArray w:=by
    refine G4 ?_;rw[z];simp[w?,G2,slot]
   simp [hm]
  replace O:=O.resolve_right (by simp[As.lone]);refine⟨slot a s,hv,λ_=>⟨z0,xs,k1,Ar (λb o u κ hf=>⟨κ,λhf'=>hf ?_⟩) _ _ k3,k4,k5,λb lo ζ=>?_⟩,λe=>by simp[As.lone]at e,C⟩
  .rcases hf' with h6|⟨lo,h6⟩
   .exact .inl h6
   .exact .inr ⟨s,W,0,by rw[k2,h6];rfl,z_ _⟩
  .have:=I.lt s W b 0 (by rw[k2,ζ];rfl);exact⟨this.2.resolve_right (λe=>O _ _ (e _ (R0 _))),this.1⟩
 |turn _ _=>cases J
 |cut zs=>exact h.elim|mpr _ _=>cases J
 |ag _ _ _=>cases J
 |bo _ _ _ _=>cases J
 |ext _=>cases J
 |oag cs=>
  have A:∃s n,m=[.cell s (Y n)]/\ε.get s=.bx cs/\cs.length=n:=by
   rcases m with _|⟨x,_|⟨y,m⟩⟩
   .simp[BT]at h
   .rcases x with s|⟨s,_|n⟩
    .simp[BT]at h
    .simp[BT]at h
    .exact⟨s,n,rfl,h⟩
   grind [BT]
  obtain ⟨s,n,rfl,K,hn⟩:=A;have hbx:=Ah I K V;have C:=I.wf s;rw[K]at C;simp only[AM]at hbx;obtain⟨b,c,θ,k1,k2,k3,k4,k5⟩:=hbx;have z:∃ty,fn.results.toList=[.cell s ty]/\CF P ty=Y X/\DF P ty=Y n:=by
   rcases hx:fn.results.toList with _|⟨x,_|⟨y,xs⟩⟩<;>rw[hx]at k
   .simp[HD]at k
   .cases x<;>simp[HD,RW]at k;obtain⟨⟨rfl,A⟩,δ⟩:=k;exact⟨_,rfl,A,δ⟩
   .simp[HD]at k
  obtain ⟨ty,z,hag',hcn⟩:=z;have hv:(results fn a.tmps).run P w=.ok (.agg c) w:=by
   rw [l];have R:=run_loadCells_list (P:=P) w ⟨b,0,W⟩ c.toList (λj v hv=>by
    have:=cell_of_row w b j c θ (0,0) k2;rw[show((⟨b,0,W⟩:Addr).add j)=⟨b,j,W⟩by simp[Addr.add];omega,this];simpa using hv)
   rw [Array.length_toList,k3,hn]at R;have h1':a.tmps.getD s undef=.pointer (Y ⟨b,0,W⟩):=k1;have hm:(fn.results.mapM (G2 a.tmps)).run P w=.ok [.agg c].toArray w:=by
    refine G4 ?_;rw[z];simp[w?,G2,h1',loadVar,C1 hag',CL hcn,R,asAddr]
   simp [hm]
  have hsz:s<a.tmps.size:=Bn I K V
  let Z:Dn:=λq i=>if q=0/\i=W then W else Bv a G s q i
  have hZ:∀{q i b lo},Z q i=Y (b,lo)->Bv a G s q i=Y (b,lo):=by
   intro q i b lo Q;simp only[Z]at Q;split at Q
   .cases Q
   .exact Q
  have S:∀N:Nat->Nat->Prop,(∀b lo,b<w.heap.size->(w0.heap.size<=b\/∀o,lo<=o->w0.E b o)->N b lo)->Sn w (λb o=>b<w0.heap.size/\F0 b o) N cs (.agg c):=by
   intro N hN;refine⟨Z,⟨c,rfl,k3,λi d hd=>?_⟩,λq i q' i' b lo lo' e1 L=>KY I hsz _ _ _ _ _ _ _ (hZ e1) (hZ L),by simp[Z],λq i b lo Q=>?_⟩
   .obtain⟨x,j1,j2⟩:=k5 i d hd;have hz0:Z 0 (Y i)=G s (Y i):=by simp[Z,DY]
    refine ⟨x,j1,?_,Hj j2⟩;rw[hz0];refine BF.pN (j2.kept (λb o u κ η=>⟨κ,?_⟩) (λ_ _ _=>rfl) BJ.rfl') (λg lo j Q=>?_)
    .rintro(A|⟨q,j,lo,A,δ⟩)
     .exact η (.inl A)
     .obtain⟨p,j',f1,_⟩:=CQ (hZ A);exact η (.inr ⟨p,j',lo,f1,δ⟩)
    .simp only[Dn.pN,Z];rw[QQ U];exact Po Q j
   .obtain⟨p,j',f1,_⟩:=CQ (hZ Q);have:=I.lt _ _ _ _ f1;exact⟨this.1,hN _ _ this.1 this.2⟩
  refine ⟨.agg c,hv,λO=>S _ λb lo _ ζ=>ζ.resolve_right (λe=>O _ _ (e _ (R0 _))),λ_=>S _ λb lo _ ζ=>ζ,C⟩
variable{f:FuncId}{c:Code}{pl:PC}{rv:List RV}
theorem dc(hD:Lp P fn.ntmps D)(hf:P.funcs[f]? =Y fn)(hb:fn.body=Y c)(hname:fn.name≠ "runtime.NumGoroutine")(hok:D2 P fn.ntmps D pl c=X)(hrv:HD P fn.results.toList rv=X)
  {args:Fq}(hn:args.length<=fn.ntmps)(hp:r.plain=X)(h:TV.nm args->pl.wp (AT P) ⟨BT rv r,λ_ _=>False,BT rv r⟩ (DU 0 args)):AT P f args r:=by
 refine AT.of0 ?_ hp;intro hw;refine⟨q_,λF0 w vs hrep ht=>?_⟩;have hl:=BM hrep;simp at hl;have hcalls:Calls P f vs w λe w'=>(∃v,e=.returned v/\Below w.heap.size w w'/\JE w' (λb o=>b<w.heap.size/\F0 b o) w.heap.size r v)/\r.WF:=by
  refine calls_of_wp hf hb ?_;have fin:∀(ε:AB)(a:Act)(w':World),BT rv r ε->Lq fn.ntmps W a->Bw F0 (W0.mk w λ_ _=>False) ε a w'->a.defers=[]/\∃v,(results fn a.tmps).run P w'=.ok v w'/\((∃v',Ending.returned v=.returned v'/\Below w.heap.size w w'/\JE w' (λb o=>b<w.heap.size/\F0 b o) w.heap.size r v')/\r.WF):=by
   intro ε a w' hr hN ⟨G,hI⟩;obtain⟨v,e1,e2,_,e3⟩:=XX (P:=P) hI hrv (.inl λ_ _ h=>h) hp hr;exact⟨hI.defers,v,e1,⟨v,rfl,⟨hI.below.os,hI.below.tape,hI.below.output,hI.below.size,λk hk=>hI.below.block k hk (λ_ h=>h)⟩,e2 λ_ _ h=>h⟩,e3⟩
  refine Oa (p:=W) hD pl c hok (.inl λ_ _ h=>h) V _ _ ?_ ?_ ?_ _ _ w ?_ (Bw.start hrep hw ht) (h hw)
  .exact λε a w' h1 h2 h3=>fin ε a w' h1 h2 h3
  .grind
  .exact λε a w' h1 h2 h3=>fin ε a w' h1 h2 h3
  .exact⟨an,V⟩
 refine ⟨?_,hcalls.mono λe w' h=>h.1⟩;obtain⟨_,_,_,h1,_⟩:=hcalls [];exact h1.2
def WZ(i m:Nat)(Z:Dn):BX:=λs=>if s=i then Z 0 else if m<=s then(λj=>match j with|some j=>Z (s-m+1) (Y j)|none=>W)else λ_=>W
variable{Z:Dn}
theorem gc{i m:Nat}{p:Nat}{j:Option Nat}{b lo:Nat}(h:WZ i m Z p j=Y (b,lo)):(p=i/\Z 0 j=Y (b,lo))\/(p≠i/\m<=p/\Z (p-m+1) j=Y (b,lo)):=by
 simp [WZ]at h
 grind
variable{i:Nat}{v:Value}
theorem Bw.startZ{w:World}{F0:Nat->Nat->Prop}{vs:Array Value}{e:EV}(h:AR w (λb o=>F0 b o\/ZF Z b o) ts vs.toList)(O:TV.nm ts)(C:e.WF)
  (hi:vs[i]?=Y v)(E:Jz Z)(H:∀q i b lo,Z q i=Y (b,lo)->b<w.heap.size)(I:∀b o R,ZF Z b o->¬F0 b R)(d:Za w (ZF Z))
  (Q:∀a:Act,slot a i=v->∀G:BX,G i=Z 0->pN a G=Z.pN->∀L,Bk w w (λb o=>F0 b o\/ZF Z b o) L->AM a w L G ((i,e)::DU 0 ts) i e v):
  Bw F0 (W0.mk w (ZF Z)) ((i,e)::DU 0 ts) {tmps:=vs++x! n undef,defers:=[]} w:=by
 have ζ:=BM h;simp at ζ;have l:i<vs.size:=(y!.1 hi).1
 let G:BX:=WZ i (vs.size+n) Z
 have A:∀p j b lo,G p j=Y (b,lo)->∃q,Z q j=Y (b,lo)/\((p=i/\q=0)\/(p≠i/\q=p-(vs.size+n)+1/\vs.size+n<=p)):=by
  intro p j b lo η;rcases gc η with⟨z,K⟩|⟨z,K,M⟩
  .grind
  grind
 have m:Bk w w (λb o=>F0 b o\/ZF Z b o) (AV w.heap.size F0 G):=by
  refine λb o u S hf=>⟨S,?_⟩;rintro(⟨_,z⟩|⟨p,j,lo,z,K⟩)
  .exact hf (.inl z)
  .obtain⟨q,M,_⟩:=A _ _ _ _ z;exact hf (.inr ⟨q,j,lo,M,K⟩)
 have x:∀s(k:s<vs.size),slot {tmps:=vs++x! n undef,defers:=[]} s=vs[s]:=by
  intro s k;simp[slot,x?,y_,k]
 refine ⟨G,λp j p' j' b lo θ J κ=>?_,λp j b lo J=>?_,⟨rfl,rfl,rfl,R0 _,λ_ _ _=>rfl,λ_ _ _ _ h=>h,I,d⟩,rfl,λs k=>?_,λs k=>?_,λs=>?_⟩
 .obtain⟨q,B,f2⟩:=A _ _ _ _ J;obtain⟨q',f3,f4⟩:=A _ _ _ _ κ;have:=E _ _ _ _ _ _ _ B f3;exact⟨U,this.2⟩
 .obtain⟨q,B,_⟩:=A _ _ _ _ J;exact⟨H _ _ _ _ B,.inr λo ho=>⟨q,j,lo,B,ho⟩⟩
 .simp at k;rw[AB.bq,QQ U,Kb,Ne (z_ _),List.getElem?_eq_none U]
 .rw[AB.bq];by_cases y:i=s
  .subst y;rw[Ne rfl,x i l];have hv:vs[i]=v:=by
    grind
   rw [hv];refine Q _ (by rw[x i l,hv]) G (by simp[G,WZ]) ?_ _ m;funext g j;simp only[pN,G,WZ,Array.size_append,Array.size_replicate,Dn.pN];rw[QQ U,Ne U];show Z (vs.size+n+g-(vs.size+n)+1) (Y j)=Z (g+1) (Y j);rw[Nat.add_sub_cancel_left]
  .rw[QQ y,Kb,Ne (z_ _),z!];cases d:ts[s]? with
   |none=>trivial|some t=>
    have δ:s<vs.size:=by
     grind
    have hv:vs.toList[s]?=Y (slot {tmps:=vs++x! n undef,defers:=[]} s):=by
     grind
    exact CM m _ _ (((Bm _ _).1 h).2 s t _ d hv)
 .rw[AB.bq];split
  .exact C
  .rw[Kb,Ne (z_ _),z!];cases d:ts[s]? with
   |none=>trivial|some t=>exact Bt.1 O t (w! d)
theorem Bw.startB{w:World}{F0:Nat->Nat->Prop}{vs:Array Value}{cs:List AO}(h:AR w (λb o=>F0 b o\/ZF Z b o) ts vs.toList)(y:TV.nm ts)(g:∀c∈cs,c.t.WF)
  (hi:vs[i]?=Y v)(z:OR w (λb o=>F0 b o\/ZF Z b o) Z cs v)(k:Jz Z)(l:∀q i b lo,Z q i=Y (b,lo)->b<w.heap.size)(m:∀b o B,ZF Z b o->¬F0 b B)(A:Za w (ZF Z)):
  Bw F0 (W0.mk w (ZF Z)) ((i,.bx cs)::DU 0 ts) {tmps:=vs++x! n undef,defers:=[]} w:=by
 refine Bw.startZ (e:=.bx cs) h y g hi k l m A λa Q G u C R s=>?_;obtain⟨b,c,θ,H,I,J,K,L⟩:=z;simp only[AM];refine⟨b,c,θ,H,I,J,by rw[u];exact K,λj d E=>?_⟩;obtain⟨x,M,O⟩:=L j d E;refine⟨x,M,?_⟩;rw[u,C];exact O.kept s (λ_ _ _=>rfl) BJ.rfl'
theorem Bw.startA{w:World}{F0:Nat->Nat->Prop}{vs:Array Value}{cs:List AO}(h:AR w (λb o=>F0 b o\/ZF Z b o) ts vs.toList)(u:TV.nm ts)(g:∀c∈cs,c.t.WF)
  (hi:vs[i]?=Y v)(y:YI w (λb o=>F0 b o\/ZF Z b o) Z cs v)(k:Jz Z)(l:∀q i b lo,Z q i=Y (b,lo)->b<w.heap.size)(m:∀b o A,ZF Z b o->¬F0 b A)(z:Za w (ZF Z)):
  Bw F0 (W0.mk w (ZF Z)) ((i,.oag cs)::DU 0 ts) {tmps:=vs++x! n undef,defers:=[]} w:=by
 refine Bw.startZ (e:=.oag cs) h u g hi k l m z λa M G B C O s=>?_;obtain⟨xs,H,I,J⟩:=y;simp[AM];refine⟨xs,H,I,λj d E=>?_⟩;obtain⟨x,K,L,_⟩:=J j d E;refine⟨x,K,?_⟩;rw[B,C];exact L.kept s (λ_ _ _=>rfl) BJ.rfl'
variable{us:Fq}
theorem mL(hD:Lp P fn.ntmps D)(hf:P.funcs[f]? =Y fn)(hb:fn.body=Y c)(hname:fn.name≠ "runtime.NumGoroutine")(hok:D2 P fn.ntmps D pl c=X)(hrv:HD P fn.results.toList rv=X)
  {args:Fq}(hn:args.length<=fn.ntmps){cs cs':List AO}(hcl:pl.p0=X)(hdst:pl.r0 i=X)(h:TV.nm args->(∀c∈cs,c.t.WF)->pl.wp (AT P) ⟨BT rv (.bo cs cs' i us),λ_ _=>False,BT rv (.bo cs cs' i us)⟩ ((i,.bx cs)::DU 0 args)):AT P f args (.bo cs cs' i us):=by
 intro hw hwc;refine⟨q_,λF0 w vs v Z hrep hvi hbox hzu hzl hfree ht=>?_⟩;have hl:=BM hrep;simp at hl;have hcalls:Calls P f vs w λe w'=>((∀c∈cs',c.t.WF)/\TV.nm us)/\∃r Z',e=.returned r/\Hc Z w w'/\OR w' (λb o=>(b<w.heap.size/\F0 b o)\/ZF Z' b o) Z' cs' v/\
   Jz Z'/\(∀q i b lo,Z' q i=Y (b,lo)->b<w'.heap.size/\(w.heap.size<=b\/∃p j lo',Z p j=Y (b,lo')/\lo'<=lo))/\
   Qo w' (λb o=>(b<w.heap.size/\F0 b o)\/ZF Z' b o) us r:=by
  refine calls_of_wp hf hb ?_;have fin:∀(ε:AB)(a:Act)(w':World),BT rv (.bo cs cs' i us) ε->Lq fn.ntmps (Y (i,v)) a->Bw F0 (W0.mk w (ZF Z)) ε a w'->a.defers=[]/\∃r,(results fn a.tmps).run P w'=.ok r w'/\(((∀c∈cs',c.t.WF)/\TV.nm us)/\∃r' Z',Ending.returned r=.returned r'/\Hc Z w w'/\OR w' (λb o=>(b<w.heap.size/\F0 b o)\/ZF Z' b o) Z' cs' v/\
    Jz Z'/\(∀q i b lo,Z' q i=Y (b,lo)->b<w'.heap.size/\(w.heap.size<=b\/∃p j lo',Z p j=Y (b,lo')/\lo'<=lo))/\
    Qo w' (λb o=>(b<w.heap.size/\F0 b o)\/ZF Z' b o) us r'):=by
   rintro ε a w' ⟨hs,hr⟩ hN ⟨G,hI⟩;have hag:Bk w' w' (AV w.heap.size F0 G) (λb o=>(b<w.heap.size/\F0 b o)\/ZF (Bv a G i) b o):=by
    refine λb o u hc hF=>⟨hc,?_⟩;rintro(h1|⟨q,j,lo,h1,h2⟩)
    .exact hF (.inl h1)
    .obtain⟨p,j',f1,_⟩:=CQ h1;exact hF (.inr ⟨p,j',lo,f1,h2⟩)
   have hisz:i<a.tmps.size:=Bn hI hs V;have hbx:=Ah hI hs V;have hwb:=hI.wf i;rw[hs]at hwb;rw[hN.pin i v rfl]at hbx;simp only[AM]at hbx;obtain⟨b,c,θ,k1,k2,k3,k4,k5⟩:=hbx;obtain⟨vs',e1,e2,e3⟩:=Ip (P:=P) hI hrv hr;have hm:=G4 e1;have hshape:(results fn a.tmps)=(fn.results.mapM (G2 a.tmps)>>=λvs=>pure (if h:vs.size=1 then vs[0]else .tuple vs)):=by
    unfold results;congr 1
   have hlen:=BM e2;have hres:∃r,(results fn a.tmps).run P w'=.ok r w'/\Qo w' (AV w.heap.size F0 G) us r:=by
    rw [hshape];by_cases h1:vs'.length=1
    .obtain⟨x,rfl⟩:=x_.1 h1;rcases us with _|⟨t,_|⟨t',us⟩⟩
     .simp at hlen
     .simp only[AR]at e2;obtain⟨v',r',hv',e4,rfl⟩:=e2;simp at hv';subst hv';exact⟨x,by simp[hm],e4⟩
     .simp at hlen
    .refine⟨.tuple vs'.toArray,by simp[hm,h1],?_⟩;rcases us with _|⟨t,_|⟨t',us⟩⟩
     .exact⟨_,rfl,e2.toA⟩
     .grind
     .exact⟨_,rfl,e2.toA⟩
   obtain ⟨r,hr1,hr2⟩:=hres;refine⟨hI.defers,r,hr1,⟨hwb,e3⟩,r,Bv a G i,rfl,?_,⟨b,c,θ,k1,k2,k3,by rw[DY];exact k4,λj d hj=>?_⟩,KY hI hisz,λq j b lo f1=>?_,?_⟩
   .exact⟨hI.below.os,hI.below.tape,hI.below.output,hI.below.size,λk hk hz=>hI.below.block k hk (λo⟨q,j,lo,f1,_⟩=>hz q j lo f1),λb o u hz hu=>hI.below.cell b o u hz hu⟩
   .obtain⟨x,f1,f2⟩:=k5 j d hj;refine⟨x,f1,?_⟩;rw[DY];exact BF.pN (f2.kept hag (λ_ _ _=>rfl) BJ.rfl') λg lo j' hz=>Po hz j'
   .obtain⟨p,j',g1,_⟩:=CQ f1;obtain⟨f2,f3⟩:=hI.lt _ _ _ _ g1;refine⟨f2,f3.imp id (λe=>?_)⟩;exact e lo (R0 _)
   .rcases us with _|⟨t,_|⟨t',us⟩⟩
    .obtain⟨vs2,f1,f2⟩:=hr2;exact⟨vs2,f1,Ar hag _ _ f2⟩
    .exact CM hag _ _ hr2
    .obtain⟨vs2,f1,f2⟩:=hr2;exact⟨vs2,f1,Ar hag _ _ f2⟩
  refine Oa (p:=Y (i,v)) hD pl c hok (.inr hcl) (λj u hp=>by cases hp;exact hdst) _ _ ?_ ?_ ?_ _ _ w ?_ (Bw.startB hrep hw hwc hvi hbox hzu hzl hfree ht) (h hw hwc)
  .exact λε a w' h1 h2 h3=>fin ε a w' h1 h2 h3
  .exact λi ε a w' h1 _ _=>h1.elim
  .exact λε a w' h1 h2 h3=>fin ε a w' h1 h2 h3
  .have hil:i<vs.size:=(y!.1 hvi).1;refine⟨an,λj u hp=>?_⟩;cases hp;have:=y? hil;rw[this]at hvi;simp at hvi;simp[slot,x?,y_,hil,hvi]
 refine ⟨?_,hcalls.mono λe w' h=>h.2⟩;obtain⟨_,_,_,h1,_⟩:=hcalls [];exact h1.1
def Wk(cs'' cs':List AO):Prop:=cs''.length=cs'.length/\∀(i:Nat)(d:AO),cs'[i]?=Y d->∃d',cs''[i]?=Y d'/\(d=d'\/d=⟨T,.undef⟩)
theorem Wk.wf{b cs':List AO}(h:Wk b cs')(e:∀c∈b,c.t.WF):∀c∈cs',c.t.WF:=by
 intro c d;obtain⟨i,hi⟩:=List.getElem?_of_mem d;obtain⟨g,j,rfl|rfl⟩:=h.2 i c hi
 .grind
 .exact trivial
theorem Wk.cell{w:World}{ρ:IV}{z:Option (Nat×Nat)}{x:Value}{d b:AO}(h:d=b\/d=⟨T,.undef⟩)(e:BF w F ρ z b x):BF w F ρ z d x:=by
 rcases h with rfl|rfl
 .exact e
 .have:x.oneCell'=X:=by
   obtain ⟨o,t⟩:=b;cases o with
   |true=>exact PZ e|false=>exact e.2
  exact ⟨by simp[Aq];exact this,this⟩
def fJ(rv:List RV)(cs cs':List AO)(i:Nat)(us:Fq)(ε:AB):Prop:=∃cs'',Wk cs'' cs'/\BT rv (.bo cs cs'' i us) ε
theorem kB(hD:Lp P fn.ntmps D)(hf:P.funcs[f]? =Y fn)(hb:fn.body=Y c)(hname:fn.name≠ "runtime.NumGoroutine")(hok:D2 P fn.ntmps D pl c=X)(hrv:HD P fn.results.toList rv=X)
  {args:Fq}(hn:args.length<=fn.ntmps){cs cs':List AO}(hcl:pl.p0=X)(hdst:pl.r0 i=X)(h:TV.nm args->(∀c∈cs,c.t.WF)->pl.wp (AT P) ⟨fJ rv cs cs' i us,λ_ _=>False,fJ rv cs cs' i us⟩ ((i,.bx cs)::DU 0 args)):AT P f args (.bo cs cs' i us):=by
 intro hw hwc;refine⟨q_,λF0 w vs v Z hrep hvi hbox hzu hzl hfree ht=>?_⟩;have hl:=BM hrep;simp at hl;have hcalls:Calls P f vs w λe w'=>((∀c∈cs',c.t.WF)/\TV.nm us)/\∃r Z',e=.returned r/\Hc Z w w'/\OR w' (λb o=>(b<w.heap.size/\F0 b o)\/ZF Z' b o) Z' cs' v/\
   Jz Z'/\(∀q i b lo,Z' q i=Y (b,lo)->b<w'.heap.size/\(w.heap.size<=b\/∃p j lo',Z p j=Y (b,lo')/\lo'<=lo))/\
   Qo w' (λb o=>(b<w.heap.size/\F0 b o)\/ZF Z' b o) us r:=by
  refine calls_of_wp hf hb ?_;have fin:∀(ε:AB)(a:Act)(w':World),fJ rv cs cs' i us ε->Lq fn.ntmps (Y (i,v)) a->Bw F0 (W0.mk w (ZF Z)) ε a w'->a.defers=[]/\∃r,(results fn a.tmps).run P w'=.ok r w'/\(((∀c∈cs',c.t.WF)/\TV.nm us)/\∃r' Z',Ending.returned r=.returned r'/\Hc Z w w'/\OR w' (λb o=>(b<w.heap.size/\F0 b o)\/ZF Z' b o) Z' cs' v/\
    Jz Z'/\(∀q i b lo,Z' q i=Y (b,lo)->b<w'.heap.size/\(w.heap.size<=b\/∃p j lo',Z p j=Y (b,lo')/\lo'<=lo))/\
    Qo w' (λb o=>(b<w.heap.size/\F0 b o)\/ZF Z' b o) us r'):=by
   rintro ε a w' ⟨cs'',hwk,hs,hr⟩ hN ⟨G,hI⟩;have hag:Bk w' w' (AV w.heap.size F0 G) (λb o=>(b<w.heap.size/\F0 b o)\/ZF (Bv a G i) b o):=by
    refine λb o u hc hF=>⟨hc,?_⟩;rintro(h1|⟨q,j,lo,h1,h2⟩)
    .exact hF (.inl h1)
    .obtain⟨p,j',f1,_⟩:=CQ h1;exact hF (.inr ⟨p,j',lo,f1,h2⟩)
   have hisz:i<a.tmps.size:=Bn hI hs V;have hbx:=Ah hI hs V;have hwb:=hI.wf i;rw[hs]at hwb;rw[hN.pin i v rfl]at hbx;simp only[AM]at hbx;obtain⟨b,c,θ,k1,k2,k3,k4,k5⟩:=hbx;obtain⟨vs',e1,e2,e3⟩:=Ip (P:=P) hI hrv hr;have hm:=G4 e1;have hshape:(results fn a.tmps)=(fn.results.mapM (G2 a.tmps)>>=λvs=>pure (if h:vs.size=1 then vs[0]else .tuple vs)):=by
    unfold results;congr 1
   have hlen:=BM e2;have hres:∃r,(results fn a.tmps).run P w'=.ok r w'/\Qo w' (AV w.heap.size F0 G) us r:=by
    rw [hshape];by_cases h1:vs'.length=1
    .obtain⟨x,rfl⟩:=x_.1 h1;rcases us with _|⟨t,_|⟨t',us⟩⟩
     .simp at hlen
     .simp only[AR]at e2;obtain⟨v',r',hv',e4,rfl⟩:=e2;simp at hv';subst hv';exact⟨x,by simp[hm],e4⟩
     .simp at hlen
    .refine⟨.tuple vs'.toArray,by simp[hm,h1],?_⟩;rcases us with _|⟨t,_|⟨t',us⟩⟩
     .exact⟨_,rfl,e2.toA⟩
     .grind
     .exact⟨_,rfl,e2.toA⟩
   obtain ⟨r,hr1,hr2⟩:=hres;refine⟨hI.defers,r,hr1,⟨hwk.wf hwb,e3⟩,r,Bv a G i,rfl,?_,⟨b,c,θ,k1,k2,k3.trans hwk.1,by rw[DY];exact k4,λj d hj=>?_⟩,KY hI hisz,λq j b lo f1=>?_,?_⟩
   .exact⟨hI.below.os,hI.below.tape,hI.below.output,hI.below.size,λk hk hz=>hI.below.block k hk (λo⟨q,j,lo,f1,_⟩=>hz q j lo f1),λb o u hz hu=>hI.below.cell b o u hz hu⟩
   .obtain⟨d',hd',hdd⟩:=hwk.2 j d hj;obtain⟨x,f1,f2⟩:=k5 j d' hd';refine⟨x,f1,Wk.cell hdd ?_⟩;rw[DY];exact BF.pN (f2.kept hag (λ_ _ _=>rfl) BJ.rfl') λg lo j' hz=>Po hz j'
   .obtain⟨p,j',g1,_⟩:=CQ f1;obtain⟨f2,f3⟩:=hI.lt _ _ _ _ g1;refine⟨f2,f3.imp id (λe=>?_)⟩;exact e lo (R0 _)
   .rcases us with _|⟨t,_|⟨t',us⟩⟩
    .obtain⟨vs2,f1,f2⟩:=hr2;exact⟨vs2,f1,Ar hag _ _ f2⟩
    .exact CM hag _ _ hr2
    .obtain⟨vs2,f1,f2⟩:=hr2;exact⟨vs2,f1,Ar hag _ _ f2⟩
  refine Oa (p:=Y (i,v)) hD pl c hok (.inr hcl) (λj u hp=>by cases hp;exact hdst) _ _ ?_ ?_ ?_ _ _ w ?_ (Bw.startB hrep hw hwc hvi hbox hzu hzl hfree ht) (h hw hwc)
  .exact λε a w' h1 h2 h3=>fin ε a w' h1 h2 h3
  .exact λi ε a w' h1 _ _=>h1.elim
  .exact λε a w' h1 h2 h3=>fin ε a w' h1 h2 h3
  .have hil:i<vs.size:=(y!.1 hvi).1;refine⟨an,λj u hp=>?_⟩;cases hp;have:=y? hil;rw[this]at hvi;simp at hvi;simp[slot,x?,y_,hil,hvi]
 refine ⟨?_,hcalls.mono λe w' h=>h.2⟩;obtain⟨_,_,_,h1,_⟩:=hcalls [];exact h1.1
theorem mK(hD:Lp P fn.ntmps D)(hf:P.funcs[f]? =Y fn)(hb:fn.body=Y c)(hname:fn.name≠ "runtime.NumGoroutine")(hok:D2 P fn.ntmps D pl c=X)(hrv:HD P fn.results.toList rv=X)
  {args:Fq}(hn:args.length<=fn.ntmps){cs:List AO}(hcl:pl.p0=X)(hp:r.plain=X)(hlo:r.lone=T)(h:TV.nm args->(∀c∈cs,c.t.WF)->pl.wp (AT P) ⟨BT rv r,λ_ _=>False,BT rv r⟩ ((i,.oag cs)::DU 0 args)):AT P f args (.ag cs i r):=by
 intro hw hwc;refine⟨q_,λF0 w vs v Z hrep hvi hbox hzu hzl hfree ht=>?_⟩;have hl:=BM hrep;simp at hl;have hcalls:Calls P f vs w λe w'=>r.WF/\∃v',e=.returned v'/\Hc Z w w'/\cA w' (λb o=>b<w.heap.size/\F0 b o) (λb lo=>w.heap.size<=b\/∃p j lo',Z p j=Y (b,lo')/\lo'<=lo) r v':=by
  refine calls_of_wp hf hb ?_;have fin:∀(ε:AB)(a:Act)(w':World),BT rv r ε->Lq fn.ntmps W a->Bw F0 (W0.mk w (ZF Z)) ε a w'->a.defers=[]/\∃v,(results fn a.tmps).run P w'=.ok v w'/\(r.WF/\∃v',Ending.returned v=.returned v'/\Hc Z w w'/\cA w' (λb o=>b<w.heap.size/\F0 b o) (λb lo=>w.heap.size<=b\/∃p j lo',Z p j=Y (b,lo')/\lo'<=lo) r v'):=by
   intro ε a w' hr hN ⟨G,hI⟩;obtain⟨v,e1,_,e2,e3⟩:=XX (P:=P) hI hrv (.inr hlo) hp hr;refine⟨hI.defers,v,e1,e3,v,rfl,⟨hI.below.os,hI.below.tape,hI.below.output,hI.below.size,λk hk hz=>hI.below.block k hk (λo⟨q,j,lo,f1,_⟩=>hz q j lo f1),λb o u hz hu=>hI.below.cell b o u hz hu⟩,?_⟩;have hN:∀b lo,(w.heap.size<=b\/∀o,lo<=o->ZF Z b o)->w.heap.size<=b\/∃p j lo',Z p j=Y (b,lo')/\lo'<=lo:=λb lo h=>h.imp id λe=>e lo (R0 _);have e4:=e2 hlo;cases r with
   |sh t=>exact e4|tp ts=>exact e4|oag ds=>
    obtain ⟨Z',f1,f2,f3,f4⟩:=e4;exact⟨Z',f1,f2,f3,λq i b lo hz=>⟨(f4 q i b lo hz).1,hN _ _ (f4 q i b lo hz).2⟩⟩
   |_=>first|(exact Bool.noConfusion hp)|(exact Bool.noConfusion hlo)
  refine Oa (p:=W) hD pl c hok (.inr hcl) V _ _ ?_ ?_ ?_ _ _ w ?_ (Bw.startA hrep hw hwc hvi hbox hzu hzl hfree ht) (h hw hwc)
  .exact λε a w' h1 h2 h3=>fin ε a w' h1 h2 h3
  .exact λi ε a w' h1 _ _=>h1.elim
  .exact λε a w' h1 h2 h3=>fin ε a w' h1 h2 h3
  .exact⟨an,V⟩
 refine ⟨?_,hcalls.mono λe w' h=>h.2⟩;obtain⟨_,_,_,h1,_⟩:=hcalls [];exact h1.1
theorem mM(hD:Lp P fn.ntmps D)(hf:P.funcs[f]? =Y fn)(hb:fn.body=Y c)(hname:fn.name≠ "runtime.NumGoroutine")(hok:D2 P fn.ntmps D pl c=X)(hrv:HD P fn.results.toList rv=X)
  {args:Fq}(hn:args.length<=fn.ntmps){kvs:Be}(h:TV.nm args->pl.wp (AT P) ⟨BT rv (.mpr kvs ts),λ_ _=>False,BT rv (.mpr kvs ts)⟩ (DU 0 args)):AT P f args (.mpr kvs ts):=by
 intro hw;refine⟨q_,λF0 w vs hrep ht=>?_⟩;have hl:=BM hrep;simp at hl;have hcalls:Calls P f vs w λe w'=>(∃v,e=.returned v/\Below w.heap.size w w'/\JE w' (λb o=>b<w.heap.size/\F0 b o) w.heap.size (.mpr kvs ts) v)/\(As.mpr kvs ts).WF:=by
  refine calls_of_wp hf hb ?_;have fin:∀(ε:AB)(a:Act)(w':World),BT rv (.mpr kvs ts) ε->Lq fn.ntmps W a->Bw F0 (W0.mk w λ_ _=>False) ε a w'->a.defers=[]/\∃v,(results fn a.tmps).run P w'=.ok v w'/\((∃v',Ending.returned v=.returned v'/\Below w.heap.size w w'/\JE w' (λb o=>b<w.heap.size/\F0 b o) w.heap.size (.mpr kvs ts) v')/\(As.mpr kvs ts).WF):=by
   intro ε a w' hr hN ⟨G,hI⟩;rcases rv with _|⟨⟨s⟩|⟨s,_⟩,rs⟩
   .exact hr.elim
   .obtain⟨hne,⟨b,o,h1,h2⟩,h3⟩:=hr;have hg:Et ε (.tmp s::rs)=Y (.AaK b::ts):=by simp[Et,RV.get,h1,EV.val,h3]
    obtain ⟨us,e1,e2,e3⟩:=Ip (P:=P) hI hrv hg;have hm:=G4 e1;have hshape:(results fn a.tmps)=(fn.results.mapM (G2 a.tmps)>>=λvs=>pure (if h:vs.size=1 then vs[0]else .tuple vs)):=by
     unfold results;congr 1
    simp [AR]at e2;obtain⟨v0,us',rfl,e4,e5⟩:=e2;simp[Aq]at e4;subst e4;have hor:=Ah hI h2 V;have how:=hI.wf o;rw[h2]at how;simp[AM]at hor;obtain⟨k1,k2,k3⟩:=hor;have hlt:=hI.lt _ _ _ _ k2;have hus:us'.length≠0:=by
     have h6:=BM e5;have:ts.length=rs.length:=by
      have:∀(ys:List RV)(ts:Fq),Et ε ys=Y ts->ts.length=ys.length:=by
       intro ys
       induction ys with
       |nil=>intro ts h;simp[Et]at h;subst h;rfl|cons y ys ih=>
        grind [Et,mE]
      exact this _ _ h3
     grind
    have hag:Bk w' w' (AV w.heap.size F0 G) (λb o=>b<w.heap.size/\F0 b o):=λb o u hc hF=>⟨hc,λhF'=>hF (.inl hF')⟩;refine⟨hI.defers,.tuple (Value.map (Y b)::us').toArray,?_,⟨_,rfl,⟨hI.below.os,hI.below.tape,hI.below.output,hI.below.size,λk hk=>hI.below.block k hk (λ_ h=>h)⟩,b,us',rfl,hlt.2.resolve_right (λe=>e _ (R0 _)),hlt.1,k3,Ar hag _ _ e5⟩,how,e3.2⟩;rw[hshape];have:¬us'.length=0:=hus;simp[hm,this]
   .exact hr.elim
  refine Oa (p:=W) hD pl c hok (.inl λ_ _ h=>h) V _ _ ?_ ?_ ?_ _ _ w ?_ (Bw.start hrep hw ht) (h hw)
  .exact λε a w' h1 h2 h3=>fin ε a w' h1 h2 h3
  .grind
  .exact λε a w' h1 h2 h3=>fin ε a w' h1 h2 h3
  .exact⟨an,V⟩
 refine ⟨?_,hcalls.mono λe w' h=>h.1⟩;obtain⟨_,_,_,h1,_⟩:=hcalls [];exact h1.2
end
end Go.Sf
