/- Code, and functions. -/
import Derived.Test.YtbmgmpeimdomoaaGreatSfRegion
set_option linter.all false
open Option renaming some->Y,none->W
open Bool renaming true->X,false->T
open List renaming all_eq_true->w!,mem_of_getElem?->w?,mapM_cons->x_,length_eq_one_iff->x!
open Array renaming replicate->x?,getD_eq_getD_getElem?->y_,getElem?_append->y!,getElem?_eq_some_iff->y?,getElem?_eq_getElem->z_
open Nat renaming zero_le->z!,sub_zero->z?
namespace Go.Sf
open Go.RowKit (Below)
def Ds(P:Program)(N:Nat)(D:I2->Array Oper->List PR->Bool):PC->Code->Bool
 |.skip _,.skip=>X|.ret,.ret=>X|.exit i _,.exit j=>i==j|.seq a b,.seq c d=>Ds P N D a c&&Ds P N D b d|.cond c a b,.cond x p q=>AK x c&&(Ds P N D a p&&Ds P N D b q)|.block i c,.block j d=>i==j&&Ds P N D c d|.loop _ c,.loop d=>Ds P N D c d|.region rs _,.region _ ops draw=>!draw&&Mx P N ops ops.toList rs|.draw ds rs _,.region _ ops draw=>draw&&D ds ops rs|.rls _ a,c=>Ds P N D a c|.bad,_=>X|_,_=>T
def PC.sx:PC->Bool
 |.seq a b=>a.sx&&b.sx|.cond _ a b=>a.sx&&b.sx|.block _ c=>c.sx|.loop _ c=>c.sx|.rls _ c=>c.sx|_=>X
def tl(i:Nat)(rs:List PR):Bool:=rs.all λr=>r.dst !=Y i
def PC.tl(i:Nat):PC->Bool
 |.seq a b=>a.tl i&&b.tl i|.cond _ a b=>a.tl i&&b.tl i|.block _ c=>c.tl i|.loop _ c=>c.tl i|.rls _ c=>c.tl i|.region rs _=>Go.Sf.tl i rs|.draw _ rs _=>Go.Sf.tl i rs|_=>X
variable{i:Nat}
theorem X3{rs:List PR}(h:tl i rs=X):∀r∈rs,r.dst≠Y i:=by
 intro r b;have:=w!.1 h r b;simpa using this
section
variable{P:Program}{F0:Nat->Nat->Prop}{w0:W0}{N:Nat}{p:Option (Nat×Value)}{D:I2->Array Oper->List PR->Bool}
theorem Bt.envWF{ε:AB}{a:Act}{w:World}(h:Bt F0 w0 ε a w):∀s,(ε.get s).WF:=by
 obtain ⟨G,h⟩:=h;exact h.wf
def LS(P:Program)(N:Nat)(D:I2->Array Oper->List PR->Bool):Prop:=
 ∀(F0:Nat->Nat->Prop)(w0:W0)(p:Option (Nat×Value))(id:Nat)(ds:I2)(ops:Array Oper)(rs:List PR)(live:I2)(ε:AB)(a:Act)(w:World)(K:AB->Prop)(Q:Exit->Act->World->Prop),D ds ops rs=X->(∀i v,p=Y (i,v)->∀r∈rs,r.dst≠Y i)->LT N p a->Bt F0 w0 ε a w->Sd ε ds=X->wpOps (AS P) (λe=>K (e.ei live)) rs ε ->
  (∀ε a w,K ε->LT N p a->Bt F0 w0 ε a w->Q .normal a w)->(Code.region id ops X).wp P Q a w
theorem OG(hD:LS P N D):∀(ζ:PC)(c:Code),Ds P N D ζ c=X->((∀b o,¬w0.E b o)\/ζ.sx=X)->(∀i v,p=Y (i,v)->ζ.tl i=X)->∀(q:Q)(A:Exit->Act->World->Prop),
  (∀ε a w,q.normal ε->LT N p a->Bt F0 w0 ε a w->A .normal a w)->(∀i ε a w,q.exit i ε->LT N p a->Bt F0 w0 ε a w->A (.exit i) a w)->(∀ε a w,q.ret ε->LT N p a->Bt F0 w0 ε a w->A .ret a w) ->
  ∀ε a w,LT N p a->Bt F0 w0 ε a w->ζ.wp (AS P) q ε->c.wp P A a w:=by
 intro ζ
 induction ζ with
 |skip l=>
  intro c g K t q A C H I ε a w u m h;cases c<;>simp[Ds]at g<;>first|exact Go.wp_skip (C _ a w h u (m.ei l))|cases g
 |ret=>
  intro c g K t q A C H I ε a w u m h;cases c<;>simp[Ds]at g<;>first|exact Go.wp_ret (I ε a w h u m)|cases g
 |exit i l=>
  intro c g K t q A C H I ε a w u m h;cases c<;>simp only[Ds]at g<;>first|cases g|skip
  simp at g;subst g;exact Go.wp_exit (H i _ a w h u (m.ei l))
 |seq x y κ η=>
  intro c g K t q A C H I ε a w u m h;cases c<;>simp only[Ds]at g<;>first|cases g|skip
  rename_i c d;simp at g;have M:=K.imp id (λe=>(gN _ _▸e:x.sx=X/\y.sx=X));have O:=λi v J=>(gN _ _▸t i v J:x.tl i=X/\y.tl i=X);refine Go.wp_seq (κ c g.1 (M.imp id And.left) (λi v J=>(O i v J).1) _ _ ?_ ?_ ?_ ε a w u m h)
  .intro ε a w L u m;exact η d g.2 (M.imp id And.right) (λi v J=>(O i v J).2) q A C H I ε a w u m (L m.envWF)
  .exact H
  .exact I
 |cond o x y κ η=>
  intro c g K t q A C H I ε a w u m h;cases c<;>simp only[Ds]at g<;>first|cases g|skip
  rename_i c d e;simp at g;simp[PC.wp]at h;split at h
  .rename_i b S;have hc:a.eval c=.bool b:=by
    obtain ⟨G,m⟩:=m;have:=(Ay m g.1 S).1
    grind [Aq]
   have M:=K.imp id (λe=>(gN _ _▸e:x.sx=X/\y.sx=X));have O:=λi v J=>(gN _ _▸t i v J:x.tl i=X/\y.tl i=X);refine Go.wp_cond_split hc (λS=>?_) (λS=>?_)
   .exact κ d g.2.1 (M.imp id And.left) (λi v J=>(O i v J).1) q A C H I ε a w u m (h.1 S)
   .exact η e g.2.2 (M.imp id And.right) (λi v J=>(O i v J).2) q A C H I ε a w u m (h.2 S)
  .exact h.elim
 |block i x ih=>
  intro c g K t q A C H I ε a w u m h;cases c<;>simp only[Ds]at g<;>first|cases g|skip
  rename_i j d;simp at g;obtain⟨rfl,g⟩:=g;refine Go.wp_block (ih d g K t _ _ ?_ ?_ ?_ ε a w u m h)
  .exact C
  .intro k ε a w L u m;simp[Exit.inBlock];simp only at L;split
   next e=>rw[Ne e]at L;exact C ε a w L u m
   next e=>rw[QQ e]at L;exact H k ε a w L u m
  .exact I
 |loop B x ih=>
  intro c g K t q A C H I ε a w u m h;cases c<;>simp[Ds]at g<;>first|cases g|skip
  rename_i c;simp[PC.wp]at h
  let δ:Act->World->Prop:=λa w=>∀(b:Frame)(k:List Item)(cs:List Frame),∃e a' w',A e a' w'/\Arrives P (lone (b.at a (.code c::.inLoop c::k)) cs w) b k cs e a' w'
  have hX:=h (λe=>∀a w,LT N p a->Bt F0 w0 e a w->δ a w) ?_ a w u (m.ei B)
  .intro b k cs;obtain⟨e,a',w',R,z⟩:=hX b k cs;exact⟨e,a',w',R,.of_steps (.one step_loop) z⟩
  .intro e he a w u m;have S:c.wp P (Exit.then δ A) a w:=by
    refine ih c g K t _ _ ?_ ?_ ?_ e a w u m (he m.envWF)
    .intro ε a w L u m;exact L a w u (m.ei B)
    .exact H
    .exact I
   intro b k cs;obtain⟨e,a₁,w₁,R,z⟩:=S b (.inLoop c::k) cs;cases e with
   |normal=>
    obtain ⟨e₂,a₂,w₂,hq₂,θ⟩:=R b k cs;exact⟨e₂,a₂,w₂,hq₂,.of_steps (Steps.trans z (.one step_inLoop)) θ⟩
   |exit id=>exact⟨_,a₁,w₁,R,.pass (x:=.inLoop c) rfl (λ_ _=>.inl V) z⟩|goto l=>exact⟨_,a₁,w₁,R,.pass (x:=.inLoop c) rfl (λ_ _=>.inl V) z⟩|ret=>exact⟨_,a₁,w₁,R,.pass (x:=.inLoop c) rfl (λ_ _=>.inl V) z⟩|panic ch=>exact⟨_,a₁,w₁,R,.pass (x:=.inLoop c) rfl (λ_ _=>.inl V) z⟩|outgrown=>exact⟨_,a₁,w₁,R,.pass (x:=.inLoop c) rfl (λ_ _=>.inl V) z⟩
 |region rs B=>
  intro c g K t q A C H I ε a w u m h;cases c<;>simp only[Ds]at g<;>first|cases g|skip
  rename_i id ops draw;simp[Bool.not_eq_true']at g;obtain⟨rfl,g⟩:=g;exact dM g (λi v J=>X3 (t i v J)) u m h λε a w L u m=>C _ a w L u (m.ei B)
 |draw ds rs B=>
  intro c g K t q A C H I ε a w u m h;cases c<;>simp only[Ds]at g<;>first|cases g|skip
  rename_i id ops draw;simp at g;obtain⟨rfl,g⟩:=g;exact hD F0 w0 p id ds ops rs B ε a w q.normal A g (λi v J=>X3 (t i v J)) u m h.1 h.2 C
 |bad=>
  intro c g K t q A C H I ε a w u m h;exact h.elim
 |rls s x ih=>
  intro c g K t q A C H I ε a w u m h;have hok':Ds P N D x c=X:=by
   grind [Ds]
  simp [PC.wp]at h;split at h
  next cs hs=>obtain⟨G,m⟩:=m;exact ih c hok' (K.imp id λe=>e) t q A C H I _ a w u (m.rls hs) h
  .exact h.elim
def DL:Nat->Fq->AB
 |_,[]=>[]|k,t::ts=>(k,.tv t)::DL (k+1) ts
theorem KF:∀(ts:Fq)(k n:Nat),AB.get (DL k ts) n=if k<=n then(match ts[n-k]? with|some t=>.tv t|none=>.undef)else .undef
 |[],k,n=>by simp[DL,AB.get]|t::ts,k,n=>by
  rw [DL,AB.bn,KF ts (k+1) n]
  grind
variable{ts:Fq}{n:Nat}
theorem Bt.start{w:World}{F0:Nat->Nat->Prop}{vs:Array Value}(h:AR w F0 ts vs.toList)(j:TV.ns ts)(d:Tz w):Bt F0 (W0.mk w λ_ _=>False) (DL 0 ts) {tmps:=vs++x? n undef,defers:=[]} w:=by
 have q:=BL h;simp at q;refine⟨λ_ _=>W,V,V,⟨rfl,rfl,rfl,R0 _,λ_ _ _=>rfl,λ_ _ _ _ h=>h,λ_ _ _ h=>h.elim,d,λ_ _ h=>h.elim⟩,rfl,λs k=>?_,λs k=>?_,λs=>?_⟩
 .rw[KF]
  grind
 .rw[KF,Ne (z! _),z?];cases d:ts[s]? with
  |none=>trivial|some t=>
   have e:s<vs.size:=by
    grind
   have hv:vs.toList[s]?=Y (slot {tmps:=vs++x? n undef,defers:=[]} s):=by
    simp [slot,y_,y!,e]
   refine CH (λb o u l m=>⟨l,?_⟩) _ _ (((Bh _ _).1 h).2 s t _ d hv);rintro(g|⟨_,_,_,g,_⟩)
   .exact m g.2
   .cases g
 .rw[KF,Ne (z! _),z?];cases d:ts[s]? with
  |none=>trivial|some t=>exact Bp.1 j t (w? d)
def RJ(P:Program):ResultVar->RV->Bool
 |.tmp t,.tmp s=>t==s|.cell x t,.cell s W=>x==s&&B9 P t==Y T|.cell x t,.cell s (Y n)=>x==s&&B9 P t==Y X&&C7 P t==Y n|_,_=>T
def Gr(P:Program):List ResultVar->List RV->Bool
 |[],[]=>X|x::xs,y::ys=>RJ P x y&&Gr P xs ys|_,_=>T
def Gk(tmps:Array Value):ResultVar->Sem Value
 |.tmp t=>pure (tmps.getD t undef)|.cell a t=>do loadVar t (<-asAddr (tmps.getD a undef))
variable{ε:AB}{a:Act}{w:World}{G:BR}
theorem aO(m:AP F0 w0 ε a w G){x:ResultVar}{y:RV}(d:RJ P x y=X){t:TV}(h:y.get ε=Y t):∃v,(Gk a.tmps x).run P w=.ok v w/\Aq w (AU w0.heap.size F0 G) t v/\t.WF:=by
 have e:∀s,AK (.tmp s) (.s s)=X:=λs=>r!
 cases x with
 |tmp s=>
  cases y with
  |tmp s'=>
   simp [RJ]at d;subst d;have:=Ay m (e s) (t:=t) h;exact⟨slot a s,rfl,this⟩
  |cell s' n=>cases n<;>simp[RJ]at d
 |cell s ty=>
  cases y with
  |tmp _=>cases d
  |cell s' n=>
   cases n with
   |none=>
    simp [RJ]at d;obtain⟨rfl,z⟩:=d;simp[RV.get]at h;split at h
    next u r o=>simp at h;subst h;obtain⟨b,g,vs,A,l,B,_,C⟩:=Rc m (e s) (y:=.s s) o;simp[AR]at l;obtain⟨v,M,rfl,K,O⟩:=l;have H:=C 0 v rfl;rw[Addr.add_zero']at H;have k:a.tmps.getD s undef=.pointer (Y ⟨b,g,W⟩):=A;refine⟨v,?_,K,B.1⟩;simp[Gk,k,loadVar,Cs z,H,asAddr]
    .cases h
   |some n=>
    simp [RJ]at d;obtain⟨⟨rfl,z⟩,L⟩:=d;simp[RV.get]at h;split at h
    .rename_i cs o;split at h
     .rename_i q;simp at h;subst h;obtain⟨b,g,vs,A,l,B,E,C⟩:=Rc m (e s) (y:=.s s) o;have J:=BL l;have j:=run_loadCells_list (P:=P) w ⟨b,g,W⟩ vs C;rw[J,q]at j;have k:a.tmps.getD s undef=.pointer (Y ⟨b,g,W⟩):=A;refine⟨.agg vs.toArray,?_,?_,B⟩
      .simp[Gk,k,loadVar,Cs z,CG L,j,asAddr]
      .simp only[Aq];exact⟨_,rfl,l,by rw[w!];exact λx I=>E x I⟩
     .cases h
    .cases h
theorem IR(e:AP F0 w0 ε a w G):∀{xs:List ResultVar}{d:List RV},Gr P xs d=X->∀{ts:Fq},Ee ε d=Y ts->∃vs,(xs.mapM (Gk a.tmps)).run P w=.ok vs w/\AR w (AU w0.heap.size F0 G) ts vs/\TV.ns ts
 |[],[],_,ts,h=>by simp[Ee]at h;subst h;exact⟨[],V,rfl,trivial⟩|[],_::_,b,_,_=>by simp[Gr]at b|_::_,[],b,_,_=>by simp[Gr]at b|x::xs,y::d,b,ts,h=>by
  simp [Gr]at b;simp[Ee]at h;split at h
  next t us g j=>simp at h;subst h;obtain⟨v,k,l,m⟩:=aO e b.1 g;obtain⟨vs,o,q,s⟩:=IR e b.2 j;exact⟨v::vs,by simp[x_,k,o],⟨v,vs,rfl,l,q⟩,m,s⟩
  .cases h
theorem Gm{f:ResultVar->Sem Value}{xs:Array ResultVar}{vs:List Value}{w':World}(h:(xs.toList.mapM f).run P w=.ok vs w'):(xs.mapM f).run P w=.ok vs.toArray w':=by
 rw [<-Array.toArray_toList (xs:=xs),List.mapM_toArray];simp[h]
variable{F:Nat->Nat->Prop}
theorem AR.toA{vs:List Value}(h:AR w F ts vs):AR w F ts vs.toArray.toList:=c_
def As.lone:As->Bool
 |.own _=>X|.Aa5 _ _=>X|_=>T
variable{fn:Func}{r:As}
theorem WR(I:AP F0 w0 ε a w G){m:List RV}(k:Gr P fn.results.toList m=X)(O:(∀b o,¬w0.E b o)\/r.lone=T)(J:r.plain=X)(h:BQ m r ε):
  ∃v,(results fn a.tmps).run P w=.ok v w/\((∀b o,¬w0.E b o)->Ir w (λb o=>b<w0.heap.size/\F0 b o) w0.heap.size r v)/\(r.lone=T->aR w (λb o=>b<w0.heap.size/\F0 b o) (λb lo=>w0.heap.size<=b\/∀o,lo<=o->w0.E b o) r v)/\r.WF:=by
 have H:∀ts,Ee ε m=Y ts->∃vs:List Value,(fn.results.mapM (Gk a.tmps)).run P w=.ok vs.toArray w/\AR w (AU w0.heap.size F0 G) ts vs/\TV.ns ts:=by
  grind [IR,Gm]
 have l:(results fn a.tmps)=(fn.results.mapM (Gk a.tmps)>>=λvs=>pure (if h:vs.size=1 then vs[0]else .tuple vs)):=by
  unfold results;congr 1
 have M:Bf w w (AU w0.heap.size F0 G) (λb o=>b<w0.heap.size/\F0 b o):=λb o u κ η=>⟨κ,λhF'=>η (.inl hF')⟩;cases r with
 |sh t=>
  have A:∃x,m=[x]/\x.get ε=Y t:=by
   rcases m with _|⟨x,_|⟨y,m⟩⟩<;>simp[BQ]at h;exact⟨x,rfl,h⟩
  obtain ⟨x,rfl,hx⟩:=A;obtain⟨vs,e1,L,e3⟩:=H [t] (by simp[Ee,hx]);simp only[AR]at L;obtain⟨v,r',rfl,e4,rfl⟩:=L;refine⟨v,?_,λ_=>CH M _ _ e4,λ_=>CH M _ _ e4,e3.1⟩;rw[l];simp[e1]
 |own t=>
  have A:∃s,m=[.tmp s]/\ε.get s=.ow t:=by
   rcases m with _|⟨x,_|⟨y,m⟩⟩
   .simp[BQ]at h
   .cases x<;>simp[BQ]at h;exact⟨_,rfl,h⟩
   .simp[BQ]at h
  obtain ⟨s,rfl,K⟩:=A;obtain⟨vs,e1,L,e3⟩:=H [t] (by simp[Ee,RV.get,K,EV.val]);have hr:RJ P (.tmp s) (.tmp s)=X:=by simp[RJ]
  have B:=Ag I K V;have C:=I.wf s;rw[K]at C;simp[AM]at B;have z:fn.results.toList=[.tmp s]:=by
   rcases hx:fn.results.toList with _|⟨x,_|⟨y,xs⟩⟩<;>rw[hx]at k
   .simp[Gr]at k
   .cases x<;>simp[Gr,RJ]at k;rw[k]
   .simp[Gr]at k
  have hv:(results fn a.tmps).run P w=.ok (slot a s) w:=by
   rw [l];have hm:(fn.results.mapM (Gk a.tmps)).run P w=.ok [slot a s].toArray w:=by
    refine Gm ?_;rw[z];simp[x_,Gk,slot]
   simp [hm]
  replace O:=O.resolve_right (by simp[As.lone]);refine⟨slot a s,hv,λ_=>⟨G s W,B.kept (λb o u κ η=>⟨κ,?_⟩) (λ_ _ _=>rfl),λb lo ζ=>?_⟩,λe=>by simp[As.lone]at e,C⟩
  .rintro(A|⟨lo,A,δ⟩)
   .exact η (.inl A)
   .exact η (.inr ⟨s,W,lo,A,δ⟩)
  .have:=I.lt _ _ _ _ ζ;exact⟨this.2.resolve_right (λe=>O _ _ (e _ (R0 _))),this.1⟩
 |tp ts=>
  simp [BQ]at h;have hne:m.length≠1:=by
   grind
  have δ:Ee ε m=Y ts:=by
   grind
  obtain ⟨vs,e1,L,e3⟩:=H ts δ;have hlen:vs.length≠1:=by
   rw [BL L];have:∀(m:List RV)(ts:Fq),Ee ε m=Y ts->ts.length=m.length:=by
    intro m
    induction m with
    |nil=>intro ts h;simp[Ee]at h;subst h;rfl|cons y m ih=>
     grind [Ee,nm]
   grind
  refine ⟨.tuple vs.toArray,?_,λ_=>⟨vs.toArray,rfl,(Ar M _ _ L).toA⟩,λ_=>⟨vs.toArray,rfl,(Ar M _ _ L).toA⟩,e3⟩;rw[l];simp[e1,hlen]
 |Aa5 n es=>
  have A:∃s,m=[.tmp s]/\ε.get s=.xo n es:=by
   rcases m with _|⟨x,_|⟨y,m⟩⟩
   .simp[BQ]at h
   .cases x<;>simp[BQ]at h;exact⟨_,rfl,h⟩
   .simp[BQ]at h
  obtain ⟨s,rfl,K⟩:=A;have B:=Ag I K V;have C:=I.wf s;rw[K]at C;simp[AM]at B;obtain⟨xs,⟨z0,k1,k2⟩,k3,k4,k5⟩:=B;have z:fn.results.toList=[.tmp s]:=by
   rcases hx:fn.results.toList with _|⟨x,_|⟨y,xs⟩⟩<;>rw[hx]at k
   .simp[Gr]at k
   .cases x<;>simp[Gr,RJ]at k;rw[k]
   .simp[Gr]at k
  have hv:(results fn a.tmps).run P w=.ok (slot a s) w:=by
   rw [l];have hm:(fn.results.mapM (Gk a.tmps)).run P w=.ok [slot a s].toArray w:=by
    refine Gm ?_;rw[z];simp[x_,Gk,slot]
   simp [hm]
  replace O:=O.resolve_right (by simp[As.lone]);refine⟨slot a s,hv,λ_=>⟨z0,xs,k1,Ar (λb o u κ hf=>⟨κ,λhf'=>hf ?_⟩) _ _ k3,k4,k5,λb lo ζ=>?_⟩,λe=>by simp[As.lone]at e,C⟩
  .rcases hf' with h6|⟨lo,h6⟩
   .exact .inl h6
   .exact .inr ⟨s,W,0,by rw[k2,h6];rfl,z! _⟩
  .have:=I.lt s W b 0 (by rw[k2,ζ];rfl);exact⟨this.2.resolve_right (λe=>O _ _ (e _ (R0 _))),this.1⟩
 |turn _ _=>cases J
 |cut zs=>exact h.elim|mpr _ _=>cases J
 |ag _ _ _=>cases J
 |bo _ _ _ _=>cases J
 |ext _=>cases J
 |oag cs=>
  have A:∃s n,m=[.cell s (Y n)]/\ε.get s=.bx cs/\cs.length=n:=by
   rcases m with _|⟨x,_|⟨y,m⟩⟩
   .simp[BQ]at h
   .rcases x with s|⟨s,_|n⟩
    .simp[BQ]at h
    .simp[BQ]at h
    .exact⟨s,n,rfl,h⟩
   grind [BQ]
  obtain ⟨s,n,rfl,K,hn⟩:=A;have hbx:=Ag I K V;have C:=I.wf s;rw[K]at C;simp only[AM]at hbx;obtain⟨b,c,θ,k1,k2,k3,k4,k5⟩:=hbx;have z:∃ty,fn.results.toList=[.cell s ty]/\B9 P ty=Y X/\C7 P ty=Y n:=by
   rcases hx:fn.results.toList with _|⟨x,_|⟨y,xs⟩⟩<;>rw[hx]at k
   .simp[Gr]at k
   .cases x<;>simp[Gr,RJ]at k;obtain⟨⟨rfl,A⟩,δ⟩:=k;exact⟨_,rfl,A,δ⟩
   .simp[Gr]at k
  obtain ⟨ty,z,hag',hcn⟩:=z;have hv:(results fn a.tmps).run P w=.ok (.agg c) w:=by
   rw [l];have R:=run_loadCells_list (P:=P) w ⟨b,0,W⟩ c.toList (λj v hv=>by
    have:=cell_of_row w b j c θ (0,0) k2;rw[show((⟨b,0,W⟩:Addr).add j)=⟨b,j,W⟩by simp[Addr.add];omega,this];simpa using hv)
   rw [Array.length_toList,k3,hn]at R;have h1':a.tmps.getD s undef=.pointer (Y ⟨b,0,W⟩):=k1;have hm:(fn.results.mapM (Gk a.tmps)).run P w=.ok [.agg c].toArray w:=by
    refine Gm ?_;rw[z];simp[x_,Gk,h1',loadVar,Cs hag',CG hcn,R,asAddr]
   simp [hm]
  have hsz:s<a.tmps.size:=Bi I K V
  let Z:Dg:=λq i=>if q=0/\i=W then W else Bs a G s q i
  have hZ:∀{q i b lo},Z q i=Y (b,lo)->Bs a G s q i=Y (b,lo):=by
   intro q i b lo Q;simp only[Z]at Q;split at Q
   .cases Q
   .exact Q
  have S:∀N:Nat->Nat->Prop,(∀b lo,b<w.heap.size->(w0.heap.size<=b\/∀o,lo<=o->w0.E b o)->N b lo)->SR w (λb o=>b<w0.heap.size/\F0 b o) N cs (.agg c):=by
   intro N hN;refine⟨Z,⟨c,rfl,k3,λi d hd=>?_⟩,λq i q' i' b lo lo' e1 L=>KC I hsz _ _ _ _ _ _ _ (hZ e1) (hZ L),by simp[Z],λq i b lo Q=>?_⟩
   .obtain⟨x,j1,j2⟩:=k5 i d hd;have hz0:Z 0 (Y i)=G s (Y i):=by simp[Z,DO]
    refine ⟨x,j1,?_,HK j2⟩;rw[hz0];refine BF.sr (j2.kept (λb o u κ η=>⟨κ,?_⟩) (λ_ _ _=>rfl) BJ.rfl') (λg lo j Q=>?_)
    .rintro(A|⟨q,j,lo,A,δ⟩)
     .exact η (.inl A)
     .obtain⟨p,j',f1,_⟩:=CM (hZ A);exact η (.inr ⟨p,j',lo,f1,δ⟩)
    .simp only[Dg.sr,Z];rw[QQ U];exact Pb Q j
   .obtain⟨p,j',f1,_⟩:=CM (hZ Q);have:=I.lt _ _ _ _ f1;exact⟨this.1,hN _ _ this.1 this.2⟩
  refine ⟨.agg c,hv,λO=>S _ λb lo _ ζ=>ζ.resolve_right (λe=>O _ _ (e _ (R0 _))),λ_=>S _ λb lo _ ζ=>ζ,C⟩
variable{f:FuncId}{c:Code}{pl:PC}{rv:List RV}
theorem b9(hD:LS P fn.ntmps D)(hf:P.funcs[f]? =Y fn)(hb:fn.body=Y c)(hname:fn.name≠ "runtime.NumGoroutine")(hok:Ds P fn.ntmps D pl c=X)(hrv:Gr P fn.results.toList rv=X)
  {args:Fq}(hn:args.length<=fn.ntmps)(hp:r.plain=X)(h:TV.ns args->pl.wp (AS P) ⟨BQ rv r,λ_ _=>False,BQ rv r⟩ (DL 0 args)):AS P f args r:=by
 refine AS.of0 ?_ hp;intro hw;refine⟨p_,λF0 w vs hrep ht=>?_⟩;have hl:=BL hrep;simp at hl;have hcalls:Calls P f vs w λe w'=>(∃v,e=.returned v/\Below w.heap.size w w'/\Ir w' (λb o=>b<w.heap.size/\F0 b o) w.heap.size r v)/\r.WF:=by
  refine calls_of_wp hf hb ?_;have fin:∀(ε:AB)(a:Act)(w':World),BQ rv r ε->LT fn.ntmps W a->Bt F0 (W0.mk w λ_ _=>False) ε a w'->a.defers=[]/\∃v,(results fn a.tmps).run P w'=.ok v w'/\((∃v',Ending.returned v=.returned v'/\Below w.heap.size w w'/\Ir w' (λb o=>b<w.heap.size/\F0 b o) w.heap.size r v')/\r.WF):=by
   intro ε a w' hr hN ⟨G,hI⟩;obtain⟨v,e1,e2,_,e3⟩:=WR (P:=P) hI hrv (.inl λ_ _ h=>h) hp hr;exact⟨hI.defers,v,e1,⟨v,rfl,⟨hI.below.os,hI.below.tape,hI.below.output,hI.below.size,λk hk=>hI.below.block k hk (λ_ h=>h)⟩,e2 λ_ _ h=>h⟩,e3⟩
  refine OG (p:=W) hD pl c hok (.inl λ_ _ h=>h) V _ _ ?_ ?_ ?_ _ _ w ?_ (Bt.start hrep hw ht) (h hw)
  .exact λε a w' h1 h2 h3=>fin ε a w' h1 h2 h3
  .grind
  .exact λε a w' h1 h2 h3=>fin ε a w' h1 h2 h3
  .exact⟨an,V⟩
 refine ⟨?_,hcalls.mono λe w' h=>h.1⟩;obtain⟨_,_,_,h1,_⟩:=hcalls [];exact h1.2
def VX(i m:Nat)(Z:Dg):BR:=λs=>if s=i then Z 0 else if m<=s then(λj=>match j with|some j=>Z (s-m+1) (Y j)|none=>W)else λ_=>W
variable{Z:Dg}
theorem ex{i m:Nat}{p:Nat}{j:Option Nat}{b lo:Nat}(h:VX i m Z p j=Y (b,lo)):(p=i/\Z 0 j=Y (b,lo))\/(p≠i/\m<=p/\Z (p-m+1) j=Y (b,lo)):=by
 simp [VX]at h
 grind
variable{i:Nat}{v:Value}
theorem Bt.startZ{w:World}{F0:Nat->Nat->Prop}{vs:Array Value}{e:EV}(h:AR w (λb o=>F0 b o\/ZF Z b o) ts vs.toList)(O:TV.ns ts)(C:e.WF)
  (hi:vs[i]?=Y v)(E:Jf Z)(H:∀q i b lo,Z q i=Y (b,lo)->b<w.heap.size)(I:∀b o R,ZF Z b o->¬F0 b R)(d:YZ w (ZF Z))
  (Q:∀a:Act,slot a i=v->∀G:BR,G i=Z 0->sr a G=Z.sr->∀L,Bf w w (λb o=>F0 b o\/ZF Z b o) L->AM a w L G ((i,e)::DL 0 ts) i e v):
  Bt F0 (W0.mk w (ZF Z)) ((i,e)::DL 0 ts) {tmps:=vs++x? n undef,defers:=[]} w:=by
 have ζ:=BL h;simp at ζ;have l:i<vs.size:=(y?.1 hi).1
 let G:BR:=VX i (vs.size+n) Z
 have A:∀p j b lo,G p j=Y (b,lo)->∃q,Z q j=Y (b,lo)/\((p=i/\q=0)\/(p≠i/\q=p-(vs.size+n)+1/\vs.size+n<=p)):=by
  intro p j b lo η;rcases ex η with⟨z,K⟩|⟨z,K,M⟩
  .grind
  grind
 have m:Bf w w (λb o=>F0 b o\/ZF Z b o) (AU w.heap.size F0 G):=by
  refine λb o u S hf=>⟨S,?_⟩;rintro(⟨_,z⟩|⟨p,j,lo,z,K⟩)
  .exact hf (.inl z)
  .obtain⟨q,M,_⟩:=A _ _ _ _ z;exact hf (.inr ⟨q,j,lo,M,K⟩)
 have x:∀s(k:s<vs.size),slot {tmps:=vs++x? n undef,defers:=[]} s=vs[s]:=by
  intro s k;simp[slot,y_,y!,k]
 refine ⟨G,λp j p' j' b lo θ J κ=>?_,λp j b lo J=>?_,⟨rfl,rfl,rfl,R0 _,λ_ _ _=>rfl,λ_ _ _ _ h=>h,I,d⟩,rfl,λs k=>?_,λs k=>?_,λs=>?_⟩
 .obtain⟨q,B,f2⟩:=A _ _ _ _ J;obtain⟨q',f3,f4⟩:=A _ _ _ _ κ;have:=E _ _ _ _ _ _ _ B f3;exact⟨U,this.2⟩
 .obtain⟨q,B,_⟩:=A _ _ _ _ J;exact⟨H _ _ _ _ B,.inr λo ho=>⟨q,j,lo,B,ho⟩⟩
 .simp at k;rw[AB.bn,QQ U,KF,Ne (z! _),List.getElem?_eq_none U]
 .rw[AB.bn];by_cases y:i=s
  .subst y;rw[Ne rfl,x i l];have hv:vs[i]=v:=by
    grind
   rw [hv];refine Q _ (by rw[x i l,hv]) G (by simp[G,VX]) ?_ _ m;funext g j;simp only[sr,G,VX,Array.size_append,Array.size_replicate,Dg.sr];rw[QQ U,Ne U];show Z (vs.size+n+g-(vs.size+n)+1) (Y j)=Z (g+1) (Y j);rw[Nat.add_sub_cancel_left]
  .rw[QQ y,KF,Ne (z! _),z?];cases d:ts[s]? with
   |none=>trivial|some t=>
    have δ:s<vs.size:=by
     grind
    have hv:vs.toList[s]?=Y (slot {tmps:=vs++x? n undef,defers:=[]} s):=by
     grind
    exact CH m _ _ (((Bh _ _).1 h).2 s t _ d hv)
 .rw[AB.bn];split
  .exact C
  .rw[KF,Ne (z! _),z?];cases d:ts[s]? with
   |none=>trivial|some t=>exact Bp.1 O t (w? d)
theorem Bt.startB{w:World}{F0:Nat->Nat->Prop}{vs:Array Value}{cs:List AO}(h:AR w (λb o=>F0 b o\/ZF Z b o) ts vs.toList)(y:TV.ns ts)(g:∀c∈cs,c.t.WF)
  (hi:vs[i]?=Y v)(z:N7 w (λb o=>F0 b o\/ZF Z b o) Z cs v)(k:Jf Z)(l:∀q i b lo,Z q i=Y (b,lo)->b<w.heap.size)(m:∀b o B,ZF Z b o->¬F0 b B)(A:YZ w (ZF Z)):
  Bt F0 (W0.mk w (ZF Z)) ((i,.bx cs)::DL 0 ts) {tmps:=vs++x? n undef,defers:=[]} w:=by
 refine Bt.startZ (e:=.bx cs) h y g hi k l m A λa Q G u C R s=>?_;obtain⟨b,c,θ,H,I,J,K,L⟩:=z;simp only[AM];refine⟨b,c,θ,H,I,J,by rw[u];exact K,λj d E=>?_⟩;obtain⟨x,M,O⟩:=L j d E;refine⟨x,M,?_⟩;rw[u,C];exact O.kept s (λ_ _ _=>rfl) BJ.rfl'
theorem Bt.startA{w:World}{F0:Nat->Nat->Prop}{vs:Array Value}{cs:List AO}(h:AR w (λb o=>F0 b o\/ZF Z b o) ts vs.toList)(u:TV.ns ts)(g:∀c∈cs,c.t.WF)
  (hi:vs[i]?=Y v)(y:XG w (λb o=>F0 b o\/ZF Z b o) Z cs v)(k:Jf Z)(l:∀q i b lo,Z q i=Y (b,lo)->b<w.heap.size)(m:∀b o A,ZF Z b o->¬F0 b A)(z:YZ w (ZF Z)):
  Bt F0 (W0.mk w (ZF Z)) ((i,.oag cs)::DL 0 ts) {tmps:=vs++x? n undef,defers:=[]} w:=by
 refine Bt.startZ (e:=.oag cs) h u g hi k l m z λa M G B C O s=>?_;obtain⟨xs,H,I,J⟩:=y;simp[AM];refine⟨xs,H,I,λj d E=>?_⟩;obtain⟨x,K,L,_⟩:=J j d E;refine⟨x,K,?_⟩;rw[B,C];exact L.kept s (λ_ _ _=>rfl) BJ.rfl'
variable{us:Fq}
theorem kU(hD:LS P fn.ntmps D)(hf:P.funcs[f]? =Y fn)(hb:fn.body=Y c)(hname:fn.name≠ "runtime.NumGoroutine")(hok:Ds P fn.ntmps D pl c=X)(hrv:Gr P fn.results.toList rv=X)
  {args:Fq}(hn:args.length<=fn.ntmps){cs cs':List AO}(hcl:pl.sx=X)(hdst:pl.tl i=X)(h:TV.ns args->(∀c∈cs,c.t.WF)->pl.wp (AS P) ⟨BQ rv (.bo cs cs' i us),λ_ _=>False,BQ rv (.bo cs cs' i us)⟩ ((i,.bx cs)::DL 0 args)):AS P f args (.bo cs cs' i us):=by
 intro hw hwc;refine⟨p_,λF0 w vs v Z hrep hvi hbox hzu hzl hfree ht=>?_⟩;have hl:=BL hrep;simp at hl;have hcalls:Calls P f vs w λe w'=>((∀c∈cs',c.t.WF)/\TV.ns us)/\∃r Z',e=.returned r/\G9 Z w w'/\N7 w' (λb o=>(b<w.heap.size/\F0 b o)\/ZF Z' b o) Z' cs' v/\
   Jf Z'/\(∀q i b lo,Z' q i=Y (b,lo)->b<w'.heap.size/\(w.heap.size<=b\/∃p j lo',Z p j=Y (b,lo')/\lo'<=lo))/\
   Qc w' (λb o=>(b<w.heap.size/\F0 b o)\/ZF Z' b o) us r:=by
  refine calls_of_wp hf hb ?_;have fin:∀(ε:AB)(a:Act)(w':World),BQ rv (.bo cs cs' i us) ε->LT fn.ntmps (Y (i,v)) a->Bt F0 (W0.mk w (ZF Z)) ε a w'->a.defers=[]/\∃r,(results fn a.tmps).run P w'=.ok r w'/\(((∀c∈cs',c.t.WF)/\TV.ns us)/\∃r' Z',Ending.returned r=.returned r'/\G9 Z w w'/\N7 w' (λb o=>(b<w.heap.size/\F0 b o)\/ZF Z' b o) Z' cs' v/\
    Jf Z'/\(∀q i b lo,Z' q i=Y (b,lo)->b<w'.heap.size/\(w.heap.size<=b\/∃p j lo',Z p j=Y (b,lo')/\lo'<=lo))/\
    Qc w' (λb o=>(b<w.heap.size/\F0 b o)\/ZF Z' b o) us r'):=by
   rintro ε a w' ⟨hs,hr⟩ hN ⟨G,hI⟩;have hag:Bf w' w' (AU w.heap.size F0 G) (λb o=>(b<w.heap.size/\F0 b o)\/ZF (Bs a G i) b o):=by
    refine λb o u hc hF=>⟨hc,?_⟩;rintro(h1|⟨q,j,lo,h1,h2⟩)
    .exact hF (.inl h1)
    .obtain⟨p,j',f1,_⟩:=CM h1;exact hF (.inr ⟨p,j',lo,f1,h2⟩)
   have hisz:i<a.tmps.size:=Bi hI hs V;have hbx:=Ag hI hs V;have hwb:=hI.wf i;rw[hs]at hwb;rw[hN.pin i v rfl]at hbx;simp only[AM]at hbx;obtain⟨b,c,θ,k1,k2,k3,k4,k5⟩:=hbx;obtain⟨vs',e1,e2,e3⟩:=IR (P:=P) hI hrv hr;have hm:=Gm e1;have hshape:(results fn a.tmps)=(fn.results.mapM (Gk a.tmps)>>=λvs=>pure (if h:vs.size=1 then vs[0]else .tuple vs)):=by
    unfold results;congr 1
   have hlen:=BL e2;have hres:∃r,(results fn a.tmps).run P w'=.ok r w'/\Qc w' (AU w.heap.size F0 G) us r:=by
    rw [hshape];by_cases h1:vs'.length=1
    .obtain⟨x,rfl⟩:=x!.1 h1;rcases us with _|⟨t,_|⟨t',us⟩⟩
     .simp at hlen
     .simp only[AR]at e2;obtain⟨v',r',hv',e4,rfl⟩:=e2;simp at hv';subst hv';exact⟨x,by simp[hm],e4⟩
     .simp at hlen
    .refine⟨.tuple vs'.toArray,by simp[hm,h1],?_⟩;rcases us with _|⟨t,_|⟨t',us⟩⟩
     .exact⟨_,rfl,e2.toA⟩
     .grind
     .exact⟨_,rfl,e2.toA⟩
   obtain ⟨r,hr1,hr2⟩:=hres;refine⟨hI.defers,r,hr1,⟨hwb,e3⟩,r,Bs a G i,rfl,?_,⟨b,c,θ,k1,k2,k3,by rw[DO];exact k4,λj d hj=>?_⟩,KC hI hisz,λq j b lo f1=>?_,?_⟩
   .exact⟨hI.below.os,hI.below.tape,hI.below.output,hI.below.size,λk hk hz=>hI.below.block k hk (λo⟨q,j,lo,f1,_⟩=>hz q j lo f1),λb o u hz hu=>hI.below.cell b o u hz hu⟩
   .obtain⟨x,f1,f2⟩:=k5 j d hj;refine⟨x,f1,?_⟩;rw[DO];exact BF.sr (f2.kept hag (λ_ _ _=>rfl) BJ.rfl') λg lo j' hz=>Pb hz j'
   .obtain⟨p,j',g1,_⟩:=CM f1;obtain⟨f2,f3⟩:=hI.lt _ _ _ _ g1;refine⟨f2,f3.imp id (λe=>?_)⟩;exact e lo (R0 _)
   .rcases us with _|⟨t,_|⟨t',us⟩⟩
    .obtain⟨vs2,f1,f2⟩:=hr2;exact⟨vs2,f1,Ar hag _ _ f2⟩
    .exact CH hag _ _ hr2
    .obtain⟨vs2,f1,f2⟩:=hr2;exact⟨vs2,f1,Ar hag _ _ f2⟩
  refine OG (p:=Y (i,v)) hD pl c hok (.inr hcl) (λj u hp=>by cases hp;exact hdst) _ _ ?_ ?_ ?_ _ _ w ?_ (Bt.startB hrep hw hwc hvi hbox hzu hzl hfree ht) (h hw hwc)
  .exact λε a w' h1 h2 h3=>fin ε a w' h1 h2 h3
  .exact λi ε a w' h1 _ _=>h1.elim
  .exact λε a w' h1 h2 h3=>fin ε a w' h1 h2 h3
  .have hil:i<vs.size:=(y?.1 hvi).1;refine⟨an,λj u hp=>?_⟩;cases hp;have:=z_ hil;rw[this]at hvi;simp at hvi;simp[slot,y_,y!,hil,hvi]
 refine ⟨?_,hcalls.mono λe w' h=>h.2⟩;obtain⟨_,_,_,h1,_⟩:=hcalls [];exact h1.1
def Wk(cs'' cs':List AO):Prop:=cs''.length=cs'.length/\∀(i:Nat)(d:AO),cs'[i]?=Y d->∃d',cs''[i]?=Y d'/\(d=d'\/d=⟨T,.undef⟩)
theorem Wk.wf{b cs':List AO}(h:Wk b cs')(e:∀c∈b,c.t.WF):∀c∈cs',c.t.WF:=by
 intro c d;obtain⟨i,hi⟩:=List.getElem?_of_mem d;obtain⟨g,j,rfl|rfl⟩:=h.2 i c hi
 .grind
 .exact trivial
theorem Wk.cell{w:World}{ρ:IA}{z:Option (Nat×Nat)}{x:Value}{d b:AO}(h:d=b\/d=⟨T,.undef⟩)(e:BF w F ρ z b x):BF w F ρ z d x:=by
 rcases h with rfl|rfl
 .exact e
 .have:x.oneCell'=X:=by
   obtain ⟨o,t⟩:=b;cases o with
   |true=>exact PK e|false=>exact e.2
  exact ⟨by simp[Aq];exact this,this⟩
def dQ(rv:List RV)(cs cs':List AO)(i:Nat)(us:Fq)(ε:AB):Prop:=∃cs'',Wk cs'' cs'/\BQ rv (.bo cs cs'' i us) ε
theorem ig(hD:LS P fn.ntmps D)(hf:P.funcs[f]? =Y fn)(hb:fn.body=Y c)(hname:fn.name≠ "runtime.NumGoroutine")(hok:Ds P fn.ntmps D pl c=X)(hrv:Gr P fn.results.toList rv=X)
  {args:Fq}(hn:args.length<=fn.ntmps){cs cs':List AO}(hcl:pl.sx=X)(hdst:pl.tl i=X)(h:TV.ns args->(∀c∈cs,c.t.WF)->pl.wp (AS P) ⟨dQ rv cs cs' i us,λ_ _=>False,dQ rv cs cs' i us⟩ ((i,.bx cs)::DL 0 args)):AS P f args (.bo cs cs' i us):=by
 intro hw hwc;refine⟨p_,λF0 w vs v Z hrep hvi hbox hzu hzl hfree ht=>?_⟩;have hl:=BL hrep;simp at hl;have hcalls:Calls P f vs w λe w'=>((∀c∈cs',c.t.WF)/\TV.ns us)/\∃r Z',e=.returned r/\G9 Z w w'/\N7 w' (λb o=>(b<w.heap.size/\F0 b o)\/ZF Z' b o) Z' cs' v/\
   Jf Z'/\(∀q i b lo,Z' q i=Y (b,lo)->b<w'.heap.size/\(w.heap.size<=b\/∃p j lo',Z p j=Y (b,lo')/\lo'<=lo))/\
   Qc w' (λb o=>(b<w.heap.size/\F0 b o)\/ZF Z' b o) us r:=by
  refine calls_of_wp hf hb ?_;have fin:∀(ε:AB)(a:Act)(w':World),dQ rv cs cs' i us ε->LT fn.ntmps (Y (i,v)) a->Bt F0 (W0.mk w (ZF Z)) ε a w'->a.defers=[]/\∃r,(results fn a.tmps).run P w'=.ok r w'/\(((∀c∈cs',c.t.WF)/\TV.ns us)/\∃r' Z',Ending.returned r=.returned r'/\G9 Z w w'/\N7 w' (λb o=>(b<w.heap.size/\F0 b o)\/ZF Z' b o) Z' cs' v/\
    Jf Z'/\(∀q i b lo,Z' q i=Y (b,lo)->b<w'.heap.size/\(w.heap.size<=b\/∃p j lo',Z p j=Y (b,lo')/\lo'<=lo))/\
    Qc w' (λb o=>(b<w.heap.size/\F0 b o)\/ZF Z' b o) us r'):=by
   rintro ε a w' ⟨cs'',hwk,hs,hr⟩ hN ⟨G,hI⟩;have hag:Bf w' w' (AU w.heap.size F0 G) (λb o=>(b<w.heap.size/\F0 b o)\/ZF (Bs a G i) b o):=by
    refine λb o u hc hF=>⟨hc,?_⟩;rintro(h1|⟨q,j,lo,h1,h2⟩)
    .exact hF (.inl h1)
    .obtain⟨p,j',f1,_⟩:=CM h1;exact hF (.inr ⟨p,j',lo,f1,h2⟩)
   have hisz:i<a.tmps.size:=Bi hI hs V;have hbx:=Ag hI hs V;have hwb:=hI.wf i;rw[hs]at hwb;rw[hN.pin i v rfl]at hbx;simp only[AM]at hbx;obtain⟨b,c,θ,k1,k2,k3,k4,k5⟩:=hbx;obtain⟨vs',e1,e2,e3⟩:=IR (P:=P) hI hrv hr;have hm:=Gm e1;have hshape:(results fn a.tmps)=(fn.results.mapM (Gk a.tmps)>>=λvs=>pure (if h:vs.size=1 then vs[0]else .tuple vs)):=by
    unfold results;congr 1
   have hlen:=BL e2;have hres:∃r,(results fn a.tmps).run P w'=.ok r w'/\Qc w' (AU w.heap.size F0 G) us r:=by
    rw [hshape];by_cases h1:vs'.length=1
    .obtain⟨x,rfl⟩:=x!.1 h1;rcases us with _|⟨t,_|⟨t',us⟩⟩
     .simp at hlen
     .simp only[AR]at e2;obtain⟨v',r',hv',e4,rfl⟩:=e2;simp at hv';subst hv';exact⟨x,by simp[hm],e4⟩
     .simp at hlen
    .refine⟨.tuple vs'.toArray,by simp[hm,h1],?_⟩;rcases us with _|⟨t,_|⟨t',us⟩⟩
     .exact⟨_,rfl,e2.toA⟩
     .grind
     .exact⟨_,rfl,e2.toA⟩
   obtain ⟨r,hr1,hr2⟩:=hres;refine⟨hI.defers,r,hr1,⟨hwk.wf hwb,e3⟩,r,Bs a G i,rfl,?_,⟨b,c,θ,k1,k2,k3.trans hwk.1,by rw[DO];exact k4,λj d hj=>?_⟩,KC hI hisz,λq j b lo f1=>?_,?_⟩
   .exact⟨hI.below.os,hI.below.tape,hI.below.output,hI.below.size,λk hk hz=>hI.below.block k hk (λo⟨q,j,lo,f1,_⟩=>hz q j lo f1),λb o u hz hu=>hI.below.cell b o u hz hu⟩
   .obtain⟨d',hd',hdd⟩:=hwk.2 j d hj;obtain⟨x,f1,f2⟩:=k5 j d' hd';refine⟨x,f1,Wk.cell hdd ?_⟩;rw[DO];exact BF.sr (f2.kept hag (λ_ _ _=>rfl) BJ.rfl') λg lo j' hz=>Pb hz j'
   .obtain⟨p,j',g1,_⟩:=CM f1;obtain⟨f2,f3⟩:=hI.lt _ _ _ _ g1;refine⟨f2,f3.imp id (λe=>?_)⟩;exact e lo (R0 _)
   .rcases us with _|⟨t,_|⟨t',us⟩⟩
    .obtain⟨vs2,f1,f2⟩:=hr2;exact⟨vs2,f1,Ar hag _ _ f2⟩
    .exact CH hag _ _ hr2
    .obtain⟨vs2,f1,f2⟩:=hr2;exact⟨vs2,f1,Ar hag _ _ f2⟩
  refine OG (p:=Y (i,v)) hD pl c hok (.inr hcl) (λj u hp=>by cases hp;exact hdst) _ _ ?_ ?_ ?_ _ _ w ?_ (Bt.startB hrep hw hwc hvi hbox hzu hzl hfree ht) (h hw hwc)
  .exact λε a w' h1 h2 h3=>fin ε a w' h1 h2 h3
  .exact λi ε a w' h1 _ _=>h1.elim
  .exact λε a w' h1 h2 h3=>fin ε a w' h1 h2 h3
  .have hil:i<vs.size:=(y?.1 hvi).1;refine⟨an,λj u hp=>?_⟩;cases hp;have:=z_ hil;rw[this]at hvi;simp at hvi;simp[slot,y_,y!,hil,hvi]
 refine ⟨?_,hcalls.mono λe w' h=>h.2⟩;obtain⟨_,_,_,h1,_⟩:=hcalls [];exact h1.1
theorem kT(hD:LS P fn.ntmps D)(hf:P.funcs[f]? =Y fn)(hb:fn.body=Y c)(hname:fn.name≠ "runtime.NumGoroutine")(hok:Ds P fn.ntmps D pl c=X)(hrv:Gr P fn.results.toList rv=X)
  {args:Fq}(hn:args.length<=fn.ntmps){cs:List AO}(hcl:pl.sx=X)(hp:r.plain=X)(hlo:r.lone=T)(h:TV.ns args->(∀c∈cs,c.t.WF)->pl.wp (AS P) ⟨BQ rv r,λ_ _=>False,BQ rv r⟩ ((i,.oag cs)::DL 0 args)):AS P f args (.ag cs i r):=by
 intro hw hwc;refine⟨p_,λF0 w vs v Z hrep hvi hbox hzu hzl hfree ht=>?_⟩;have hl:=BL hrep;simp at hl;have hcalls:Calls P f vs w λe w'=>r.WF/\∃v',e=.returned v'/\G9 Z w w'/\aR w' (λb o=>b<w.heap.size/\F0 b o) (λb lo=>w.heap.size<=b\/∃p j lo',Z p j=Y (b,lo')/\lo'<=lo) r v':=by
  refine calls_of_wp hf hb ?_;have fin:∀(ε:AB)(a:Act)(w':World),BQ rv r ε->LT fn.ntmps W a->Bt F0 (W0.mk w (ZF Z)) ε a w'->a.defers=[]/\∃v,(results fn a.tmps).run P w'=.ok v w'/\(r.WF/\∃v',Ending.returned v=.returned v'/\G9 Z w w'/\aR w' (λb o=>b<w.heap.size/\F0 b o) (λb lo=>w.heap.size<=b\/∃p j lo',Z p j=Y (b,lo')/\lo'<=lo) r v'):=by
   intro ε a w' hr hN ⟨G,hI⟩;obtain⟨v,e1,_,e2,e3⟩:=WR (P:=P) hI hrv (.inr hlo) hp hr;refine⟨hI.defers,v,e1,e3,v,rfl,⟨hI.below.os,hI.below.tape,hI.below.output,hI.below.size,λk hk hz=>hI.below.block k hk (λo⟨q,j,lo,f1,_⟩=>hz q j lo f1),λb o u hz hu=>hI.below.cell b o u hz hu⟩,?_⟩;have hN:∀b lo,(w.heap.size<=b\/∀o,lo<=o->ZF Z b o)->w.heap.size<=b\/∃p j lo',Z p j=Y (b,lo')/\lo'<=lo:=λb lo h=>h.imp id λe=>e lo (R0 _);have e4:=e2 hlo;cases r with
   |sh t=>exact e4|tp ts=>exact e4|oag ds=>
    obtain ⟨Z',f1,f2,f3,f4⟩:=e4;exact⟨Z',f1,f2,f3,λq i b lo hz=>⟨(f4 q i b lo hz).1,hN _ _ (f4 q i b lo hz).2⟩⟩
   |_=>first|(exact Bool.noConfusion hp)|(exact Bool.noConfusion hlo)
  refine OG (p:=W) hD pl c hok (.inr hcl) V _ _ ?_ ?_ ?_ _ _ w ?_ (Bt.startA hrep hw hwc hvi hbox hzu hzl hfree ht) (h hw hwc)
  .exact λε a w' h1 h2 h3=>fin ε a w' h1 h2 h3
  .exact λi ε a w' h1 _ _=>h1.elim
  .exact λε a w' h1 h2 h3=>fin ε a w' h1 h2 h3
  .exact⟨an,V⟩
 refine ⟨?_,hcalls.mono λe w' h=>h.2⟩;obtain⟨_,_,_,h1,_⟩:=hcalls [];exact h1.1
theorem kV(hD:LS P fn.ntmps D)(hf:P.funcs[f]? =Y fn)(hb:fn.body=Y c)(hname:fn.name≠ "runtime.NumGoroutine")(hok:Ds P fn.ntmps D pl c=X)(hrv:Gr P fn.results.toList rv=X)
  {args:Fq}(hn:args.length<=fn.ntmps){kvs:BW}(h:TV.ns args->pl.wp (AS P) ⟨BQ rv (.mpr kvs ts),λ_ _=>False,BQ rv (.mpr kvs ts)⟩ (DL 0 args)):AS P f args (.mpr kvs ts):=by
 intro hw;refine⟨p_,λF0 w vs hrep ht=>?_⟩;have hl:=BL hrep;simp at hl;have hcalls:Calls P f vs w λe w'=>(∃v,e=.returned v/\Below w.heap.size w w'/\Ir w' (λb o=>b<w.heap.size/\F0 b o) w.heap.size (.mpr kvs ts) v)/\(As.mpr kvs ts).WF:=by
  refine calls_of_wp hf hb ?_;have fin:∀(ε:AB)(a:Act)(w':World),BQ rv (.mpr kvs ts) ε->LT fn.ntmps W a->Bt F0 (W0.mk w λ_ _=>False) ε a w'->a.defers=[]/\∃v,(results fn a.tmps).run P w'=.ok v w'/\((∃v',Ending.returned v=.returned v'/\Below w.heap.size w w'/\Ir w' (λb o=>b<w.heap.size/\F0 b o) w.heap.size (.mpr kvs ts) v')/\(As.mpr kvs ts).WF):=by
   intro ε a w' hr hN ⟨G,hI⟩;rcases rv with _|⟨⟨s⟩|⟨s,_⟩,rs⟩
   .exact hr.elim
   .obtain⟨hne,⟨b,o,h1,h2⟩,h3⟩:=hr;have hg:Ee ε (.tmp s::rs)=Y (.AaK b::ts):=by simp[Ee,RV.get,h1,EV.val,h3]
    obtain ⟨us,e1,e2,e3⟩:=IR (P:=P) hI hrv hg;have hm:=Gm e1;have hshape:(results fn a.tmps)=(fn.results.mapM (Gk a.tmps)>>=λvs=>pure (if h:vs.size=1 then vs[0]else .tuple vs)):=by
     unfold results;congr 1
    simp [AR]at e2;obtain⟨v0,us',rfl,e4,e5⟩:=e2;simp[Aq]at e4;subst e4;have hor:=Ag hI h2 V;have how:=hI.wf o;rw[h2]at how;simp[AM]at hor;obtain⟨k1,k2,k3⟩:=hor;have hlt:=hI.lt _ _ _ _ k2;have hus:us'.length≠0:=by
     have h6:=BL e5;have:ts.length=rs.length:=by
      have:∀(ys:List RV)(ts:Fq),Ee ε ys=Y ts->ts.length=ys.length:=by
       intro ys
       induction ys with
       |nil=>intro ts h;simp[Ee]at h;subst h;rfl|cons y ys ih=>
        grind [Ee,nm]
      exact this _ _ h3
     grind
    have hag:Bf w' w' (AU w.heap.size F0 G) (λb o=>b<w.heap.size/\F0 b o):=λb o u hc hF=>⟨hc,λhF'=>hF (.inl hF')⟩;refine⟨hI.defers,.tuple (Value.map (Y b)::us').toArray,?_,⟨_,rfl,⟨hI.below.os,hI.below.tape,hI.below.output,hI.below.size,λk hk=>hI.below.block k hk (λ_ h=>h)⟩,b,us',rfl,hlt.2.resolve_right (λe=>e _ (R0 _)),hlt.1,k3,Ar hag _ _ e5⟩,how,e3.2⟩;rw[hshape];have:¬us'.length=0:=hus;simp[hm,this]
   .exact hr.elim
  refine OG (p:=W) hD pl c hok (.inl λ_ _ h=>h) V _ _ ?_ ?_ ?_ _ _ w ?_ (Bt.start hrep hw ht) (h hw)
  .exact λε a w' h1 h2 h3=>fin ε a w' h1 h2 h3
  .grind
  .exact λε a w' h1 h2 h3=>fin ε a w' h1 h2 h3
  .exact⟨an,V⟩
 refine ⟨?_,hcalls.mono λe w' h=>h.1⟩;obtain⟨_,_,_,h1,_⟩:=hcalls [];exact h1.2
end
end Go.Sf
