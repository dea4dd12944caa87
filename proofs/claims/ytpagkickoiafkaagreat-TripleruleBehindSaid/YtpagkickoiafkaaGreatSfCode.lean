/- Code, and functions. -/
import Derived.Test.YtpagkickoiafkaaGreatSfRegion
set_option linter.all false
open Option renaming some->Y,none->W
open Bool renaming true->X,false->T
open List renaming all_eq_true->v?,mem_of_getElem?->w_,mapM_cons->w!,length_eq_one_iff->w?
open Array renaming replicate->x_,getD_eq_getD_getElem?->x!,getElem?_append->x?,getElem?_eq_some_iff->y_,getElem?_eq_getElem->y!
open Nat renaming zero_le->y?,sub_zero->z_
namespace Go.Sf
open Go.RowKit (Below)
def DW(P:Program)(N:Nat)(D:I2->Array Oper->List PR->Bool):PC->Code->Bool
 |.skip _,.skip=>X|.ret,.ret=>X|.exit i _,.exit j=>i==j|.seq a b,.seq c d=>DW P N D a c&&DW P N D b d|.cond c a b,.cond x p q=>AJ x c&&(DW P N D a p&&DW P N D b q)|.block i c,.block j d=>i==j&&DW P N D c d|.loop _ c,.loop d=>DW P N D c d|.region rs _,.region _ ops draw=>!draw&&MP P N ops ops.toList rs|.draw ds rs _,.region _ ops draw=>draw&&D ds ops rs|.rls _ a,c=>DW P N D a c|.bad,_=>X|_,_=>T
def PC.pE:PC->Bool
 |.seq a b=>a.pE&&b.pE|.cond _ a b=>a.pE&&b.pE|.block _ c=>c.pE|.loop _ c=>c.pE|.rls _ c=>c.pE|_=>X
def r0(i:Nat)(rs:List PR):Bool:=rs.all λr=>r.dst !=Y i
def PC.r0(i:Nat):PC->Bool
 |.seq a b=>a.r0 i&&b.r0 i|.cond _ a b=>a.r0 i&&b.r0 i|.block _ c=>c.r0 i|.loop _ c=>c.r0 i|.rls _ c=>c.r0 i|.region rs _=>Go.Sf.r0 i rs|.draw _ rs _=>Go.Sf.r0 i rs|_=>X
variable{i:Nat}
theorem Xq{rs:List PR}(h:r0 i rs=X):∀r∈rs,r.dst≠Y i:=by
 intro r b;have:=v?.1 h r b;simpa using this
section
variable{P:Program}{F0:Nat->Nat->Prop}{w0:W0}{N:Nat}{p:Option (Nat×Value)}{D:I2->Array Oper->List PR->Bool}
theorem Bs.envWF{O:AB}{a:Act}{w:World}(h:Bs F0 w0 O a w):∀s,(O.get s).WF:=by
 obtain ⟨G,h⟩:=h;exact h.wf
def K8(P:Program)(N:Nat)(D:I2->Array Oper->List PR->Bool):Prop:=
 ∀(F0:Nat->Nat->Prop)(w0:W0)(p:Option (Nat×Value))(id:Nat)(ds:I2)(ops:Array Oper)(rs:List PR)(live:I2)(O:AB)(a:Act)(w:World)(K:AB->Prop)(Q:Exit->Act->World->Prop),D ds ops rs=X->(∀i v,p=Y (i,v)->∀r∈rs,r.dst≠Y i)->K9 N p a->Bs F0 w0 O a w->SY O ds=X->wpOps (AV P) (λe=>K (e.em live)) rs O ->
  (∀O a w,K O->K9 N p a->Bs F0 w0 O a w->Q .normal a w)->(Code.region id ops X).wp P Q a w
theorem Nk(hD:K8 P N D):∀(ζ:PC)(c:Code),DW P N D ζ c=X->((∀b o,¬w0.E b o)\/ζ.pE=X)->(∀i v,p=Y (i,v)->ζ.r0 i=X)->∀(q:Q)(A:Exit->Act->World->Prop),
  (∀O a w,q.normal O->K9 N p a->Bs F0 w0 O a w->A .normal a w)->(∀i O a w,q.exit i O->K9 N p a->Bs F0 w0 O a w->A (.exit i) a w)->(∀O a w,q.ret O->K9 N p a->Bs F0 w0 O a w->A .ret a w) ->
  ∀O a w,K9 N p a->Bs F0 w0 O a w->ζ.wp (AV P) q O->c.wp P A a w:=by
 intro ζ
 induction ζ with
 |skip l=>
  intro c g K t q A C H I O a w u m h;cases c<;>simp[DW]at g<;>first|exact Go.wp_skip (C _ a w h u (m.em l))|cases g
 |ret=>
  intro c g K t q A C H I O a w u m h;cases c<;>simp[DW]at g<;>first|exact Go.wp_ret (I O a w h u m)|cases g
 |exit i l=>
  intro c g K t q A C H I O a w u m h;cases c<;>simp only[DW]at g<;>first|cases g|skip
  simp at g;subst g;exact Go.wp_exit (H i _ a w h u (m.em l))
 |seq x y κ η=>
  intro c g K t q A C H I O a w u m h;cases c<;>simp only[DW]at g<;>first|cases g|skip
  rename_i c d;simp at g;have M:=K.imp id (λe=>(gN _ _▸e:x.pE=X/\y.pE=X));have R:=λi v J=>(gN _ _▸t i v J:x.r0 i=X/\y.r0 i=X);refine Go.wp_seq (κ c g.1 (M.imp id And.left) (λi v J=>(R i v J).1) _ _ ?_ ?_ ?_ O a w u m h)
  .intro O a w L u m;exact η d g.2 (M.imp id And.right) (λi v J=>(R i v J).2) q A C H I O a w u m (L m.envWF)
  .exact H
  .exact I
 |cond o x y κ η=>
  intro c g K t q A C H I O a w u m h;cases c<;>simp only[DW]at g<;>first|cases g|skip
  rename_i c d e;simp at g;simp[PC.wp]at h;split at h
  .rename_i b θ;have hc:a.eval c=.bool b:=by
    obtain ⟨G,m⟩:=m;have:=(Ax m g.1 θ).1
    grind [Ap]
   have M:=K.imp id (λe=>(gN _ _▸e:x.pE=X/\y.pE=X));have R:=λi v J=>(gN _ _▸t i v J:x.r0 i=X/\y.r0 i=X);refine Go.wp_cond_split hc (λθ=>?_) (λθ=>?_)
   .exact κ d g.2.1 (M.imp id And.left) (λi v J=>(R i v J).1) q A C H I O a w u m (h.1 θ)
   .exact η e g.2.2 (M.imp id And.right) (λi v J=>(R i v J).2) q A C H I O a w u m (h.2 θ)
  .exact h.elim
 |block i x ih=>
  intro c g K t q A C H I O a w u m h;cases c<;>simp only[DW]at g<;>first|cases g|skip
  rename_i j d;simp at g;obtain⟨rfl,g⟩:=g;refine Go.wp_block (ih d g K t _ _ ?_ ?_ ?_ O a w u m h)
  .exact C
  .intro k O a w L u m;simp[Exit.inBlock];simp only at L;split
   next e=>rw[QQ e]at L;exact C O a w L u m
   next e=>rw[aE e]at L;exact H k O a w L u m
  .exact I
 |loop B x ih=>
  intro c g K t q A C H I O a w u m h;cases c<;>simp[DW]at g<;>first|cases g|skip
  rename_i c;simp[PC.wp]at h
  let δ:Act->World->Prop:=λa w=>∀(b:Frame)(k:List Item)(cs:List Frame),∃e a' w',A e a' w'/\Arrives P (lone (b.at a (.code c::.inLoop c::k)) cs w) b k cs e a' w'
  have hX:=h (λe=>∀a w,K9 N p a->Bs F0 w0 e a w->δ a w) ?_ a w u (m.em B)
  .intro b k cs;obtain⟨e,a',w',S,z⟩:=hX b k cs;exact⟨e,a',w',S,.of_steps (.one step_loop) z⟩
  .intro e he a w u m;have θ:c.wp P (Exit.then δ A) a w:=by
    refine ih c g K t _ _ ?_ ?_ ?_ e a w u m (he m.envWF)
    .intro O a w L u m;exact L a w u (m.em B)
    .exact H
    .exact I
   intro b k cs;obtain⟨e,a₁,w₁,S,z⟩:=θ b (.inLoop c::k) cs;cases e with
   |normal=>
    obtain ⟨e₂,a₂,w₂,hq₂,ε⟩:=S b k cs;exact⟨e₂,a₂,w₂,hq₂,.of_steps (Steps.trans z (.one step_inLoop)) ε⟩
   |exit id=>exact⟨_,a₁,w₁,S,.pass (x:=.inLoop c) rfl (λ_ _=>.inl V) z⟩|goto l=>exact⟨_,a₁,w₁,S,.pass (x:=.inLoop c) rfl (λ_ _=>.inl V) z⟩|ret=>exact⟨_,a₁,w₁,S,.pass (x:=.inLoop c) rfl (λ_ _=>.inl V) z⟩|panic ch=>exact⟨_,a₁,w₁,S,.pass (x:=.inLoop c) rfl (λ_ _=>.inl V) z⟩|outgrown=>exact⟨_,a₁,w₁,S,.pass (x:=.inLoop c) rfl (λ_ _=>.inl V) z⟩
 |region rs B=>
  intro c g K t q A C H I O a w u m h;cases c<;>simp only[DW]at g<;>first|cases g|skip
  rename_i id ops draw;simp[Bool.not_eq_true']at g;obtain⟨rfl,g⟩:=g;exact dO g (λi v J=>Xq (t i v J)) u m h λO a w L u m=>C _ a w L u (m.em B)
 |draw ds rs B=>
  intro c g K t q A C H I O a w u m h;cases c<;>simp only[DW]at g<;>first|cases g|skip
  rename_i id ops draw;simp at g;obtain⟨rfl,g⟩:=g;exact hD F0 w0 p id ds ops rs B O a w q.normal A g (λi v J=>Xq (t i v J)) u m h.1 h.2 C
 |bad=>
  intro c g K t q A C H I O a w u m h;exact h.elim
 |rls s x ih=>
  intro c g K t q A C H I O a w u m h;have hok':DW P N D x c=X:=by
   grind [DW]
  simp [PC.wp]at h;split at h
  next cs hs=>obtain⟨G,m⟩:=m;exact ih c hok' (K.imp id λe=>e) t q A C H I _ a w u (m.rls hs) h
  .exact h.elim
def C6:Nat->Fq->AB
 |_,[]=>[]|k,t::ts=>(k,.tv t)::C6 (k+1) ts
theorem Ju:∀(ts:Fq)(k n:Nat),AB.get (C6 k ts) n=if k<=n then(match ts[n-k]? with|some t=>.tv t|none=>.undef)else .undef
 |[],k,n=>by simp[C6,AB.get]|t::ts,k,n=>by
  rw [C6,AB.d3,Ju ts (k+1) n]
  grind
variable{ts:Fq}{n:Nat}
theorem Bs.start{w:World}{F0:Nat->Nat->Prop}{vs:Array Value}(h:AT w F0 ts vs.toList)(j:TV.k7 ts)(d:UQ w):Bs F0 (W0.mk w λ_ _=>False) (C6 0 ts) {tmps:=vs++x_ n undef,defers:=[]} w:=by
 have q:=BJ h;simp at q;refine⟨λ_ _=>W,V,V,⟨rfl,rfl,rfl,aN _,λ_ _ _=>rfl,λ_ _ _ _ h=>h,λ_ _ _ h=>h.elim,d,λ_ _ h=>h.elim⟩,rfl,λs k=>?_,λs k=>?_,λs=>?_⟩
 .rw[Ju]
  grind
 .rw[Ju,QQ (y? _),z_];cases d:ts[s]? with
  |none=>trivial|some t=>
   have e:s<vs.size:=by
    grind
   have hv:vs.toList[s]?=Y (slot {tmps:=vs++x_ n undef,defers:=[]} s):=by
    simp [slot,x!,x?,e]
   refine B8 (λb o u l m=>⟨l,?_⟩) _ _ (((Bf _ _).1 h).2 s t _ d hv);rintro(g|⟨_,_,_,g,_⟩)
   .exact m g.2
   .cases g
 .rw[Ju,QQ (y? _),z_];cases d:ts[s]? with
  |none=>trivial|some t=>exact Bn.1 j t (w_ d)
def RI(P:Program):ResultVar->RV->Bool
 |.tmp t,.tmp s=>t==s|.cell x t,.cell s W=>x==s&&B2 P t==Y T|.cell x t,.cell s (Y n)=>x==s&&B2 P t==Y X&&Cx P t==Y n|_,_=>T
def GK(P:Program):List ResultVar->List RV->Bool
 |[],[]=>X|x::xs,y::ys=>RI P x y&&GK P xs ys|_,_=>T
def GA(tmps:Array Value):ResultVar->Sem Value
 |.tmp t=>pure (tmps.getD t undef)|.cell a t=>do loadVar t (<-asAddr (tmps.getD a undef))
variable{O:AB}{a:Act}{w:World}{G:BV}
theorem aa(m:AR F0 w0 O a w G){x:ResultVar}{y:RV}(d:RI P x y=X){t:TV}(h:y.get O=Y t):∃v,(GA a.tmps x).run P w=.ok v w/\Ap w (AW w0.heap.size F0 G) t v/\t.WF:=by
 have e:∀s,AJ (.tmp s) (.s s)=X:=λs=>p?
 cases x with
 |tmp s=>
  cases y with
  |tmp s'=>
   simp [RI]at d;subst d;have:=Ax m (e s) (t:=t) h;exact⟨slot a s,rfl,this⟩
  |cell s' n=>cases n<;>simp[RI]at d
 |cell s ty=>
  cases y with
  |tmp _=>cases d
  |cell s' n=>
   cases n with
   |none=>
    simp [RI]at d;obtain⟨rfl,z⟩:=d;simp[RV.get]at h;split at h
    next u r o=>simp at h;subst h;obtain⟨b,g,vs,A,l,B,_,C⟩:=Ra m (e s) (y:=.s s) o;simp[AT]at l;obtain⟨v,L,rfl,K,M⟩:=l;have H:=C 0 v rfl;rw[Addr.add_zero']at H;have k:a.tmps.getD s undef=.pointer (Y ⟨b,g,W⟩):=A;refine⟨v,?_,K,B.1⟩;simp[GA,k,loadVar,Cg z,H,asAddr]
    .cases h
   |some n=>
    simp [RI]at d;obtain⟨⟨rfl,z⟩,hn⟩:=d;simp[RV.get]at h;split at h
    .rename_i cs o;split at h
     .rename_i q;simp at h;subst h;obtain⟨b,g,vs,A,l,B,E,C⟩:=Ra m (e s) (y:=.s s) o;have J:=BJ l;have j:=run_loadCells_list (P:=P) w ⟨b,g,W⟩ vs C;rw[J,q]at j;have k:a.tmps.getD s undef=.pointer (Y ⟨b,g,W⟩):=A;refine⟨.agg vs.toArray,?_,?_,B⟩
      .simp[GA,k,loadVar,Cg z,B7 hn,j,asAddr]
      .simp only[Ap];exact⟨_,rfl,l,by rw[v?];exact λx I=>E x I⟩
     .cases h
    .cases h
theorem Hq(e:AR F0 w0 O a w G):∀{xs:List ResultVar}{d:List RV},GK P xs d=X->∀{ts:Fq},EH O d=Y ts->∃vs,(xs.mapM (GA a.tmps)).run P w=.ok vs w/\AT w (AW w0.heap.size F0 G) ts vs/\TV.k7 ts
 |[],[],_,ts,h=>by simp[EH]at h;subst h;exact⟨[],V,rfl,trivial⟩|[],_::_,b,_,_=>by simp[GK]at b|_::_,[],b,_,_=>by simp[GK]at b|x::xs,y::d,b,ts,h=>by
  simp [GK]at b;simp[EH]at h;split at h
  next t us g j=>simp at h;subst h;obtain⟨v,k,l,m⟩:=aa e b.1 g;obtain⟨vs,o,q,s⟩:=Hq e b.2 j;exact⟨v::vs,by simp[w!,k,o],⟨v,vs,rfl,l,q⟩,m,s⟩
  .cases h
theorem GE{f:ResultVar->Sem Value}{xs:Array ResultVar}{vs:List Value}{w':World}(h:(xs.toList.mapM f).run P w=.ok vs w'):(xs.mapM f).run P w=.ok vs.toArray w':=by
 rw [<-Array.toArray_toList (xs:=xs),List.mapM_toArray];simp[h]
variable{F:Nat->Nat->Prop}
theorem AT.toA{vs:List Value}(h:AT w F ts vs):AT w F ts vs.toArray.toList:=c?
def At.lone:At->Bool
 |.own _=>X|.AaO _ _=>X|_=>T
variable{fn:Func}{r:At}
theorem WM(I:AR F0 w0 O a w G){m:List RV}(k:GK P fn.results.toList m=X)(Q:(∀b o,¬w0.E b o)\/r.lone=T)(J:r.plain=X)(h:BU m r O):
  ∃v,(results fn a.tmps).run P w=.ok v w/\((∀b o,¬w0.E b o)->IJ w (λb o=>b<w0.heap.size/\F0 b o) w0.heap.size r v)/\(r.lone=T->ah w (λb o=>b<w0.heap.size/\F0 b o) (λb lo=>w0.heap.size<=b\/∀o,lo<=o->w0.E b o) r v)/\r.WF:=by
 have H:∀ts,EH O m=Y ts->∃vs:List Value,(fn.results.mapM (GA a.tmps)).run P w=.ok vs.toArray w/\AT w (AW w0.heap.size F0 G) ts vs/\TV.k7 ts:=by
  grind [Hq,GE]
 have l:(results fn a.tmps)=(fn.results.mapM (GA a.tmps)>>=λvs=>pure (if h:vs.size=1 then vs[0]else .tuple vs)):=by
  unfold results;congr 1
 have M:Be w w (AW w0.heap.size F0 G) (λb o=>b<w0.heap.size/\F0 b o):=λb o u κ η=>⟨κ,λhF'=>η (.inl hF')⟩;cases r with
 |sh t=>
  have A:∃x,m=[x]/\x.get O=Y t:=by
   rcases m with _|⟨x,_|⟨y,m⟩⟩<;>simp[BU]at h;exact⟨x,rfl,h⟩
  obtain ⟨x,rfl,hx⟩:=A;obtain⟨vs,e1,L,e3⟩:=H [t] (by simp[EH,hx]);simp only[AT]at L;obtain⟨v,r',rfl,e4,rfl⟩:=L;refine⟨v,?_,λ_=>B8 M _ _ e4,λ_=>B8 M _ _ e4,e3.1⟩;rw[l];simp[e1]
 |own t=>
  have A:∃s,m=[.tmp s]/\O.get s=.ow t:=by
   rcases m with _|⟨x,_|⟨y,m⟩⟩
   .simp[BU]at h
   .cases x<;>simp[BU]at h;exact⟨_,rfl,h⟩
   .simp[BU]at h
  obtain ⟨s,rfl,K⟩:=A;obtain⟨vs,e1,L,e3⟩:=H [t] (by simp[EH,RV.get,K,EV.val]);have hr:RI P (.tmp s) (.tmp s)=X:=by simp[RI]
  have B:=Ah I K V;have C:=I.wf s;rw[K]at C;simp[AK]at B;have z:fn.results.toList=[.tmp s]:=by
   rcases hx:fn.results.toList with _|⟨x,_|⟨y,xs⟩⟩<;>rw[hx]at k
   .simp[GK]at k
   .cases x<;>simp[GK,RI]at k;rw[k]
   .simp[GK]at k
  have hv:(results fn a.tmps).run P w=.ok (slot a s) w:=by
   rw [l];have hm:(fn.results.mapM (GA a.tmps)).run P w=.ok [slot a s].toArray w:=by
    refine GE ?_;rw[z];simp[w!,GA,slot]
   simp [hm]
  replace Q:=Q.resolve_right (by simp[At.lone]);refine⟨slot a s,hv,λ_=>⟨G s W,B.kept (λb o u κ η=>⟨κ,?_⟩) (λ_ _ _=>rfl),λb lo ζ=>?_⟩,λe=>by simp[At.lone]at e,C⟩
  .rintro(A|⟨lo,A,δ⟩)
   .exact η (.inl A)
   .exact η (.inr ⟨s,W,lo,A,δ⟩)
  .have:=I.lt _ _ _ _ ζ;exact⟨this.2.resolve_right (λe=>Q _ _ (e _ (aN _))),this.1⟩
 |tp ts=>
  simp [BU]at h;have hne:m.length≠1:=by
   grind
  have δ:EH O m=Y ts:=by
   grind
  obtain ⟨vs,e1,L,e3⟩:=H ts δ;have hlen:vs.length≠1:=by
   rw [BJ L];have:∀(m:List RV)(ts:Fq),EH O m=Y ts->ts.length=m.length:=by
    intro m
    induction m with
    |nil=>intro ts h;simp[EH]at h;subst h;rfl|cons y m ih=>
     grind [EH,kx]
   grind
  refine ⟨.tuple vs.toArray,?_,λ_=>⟨vs.toArray,rfl,(As M _ _ L).toA⟩,λ_=>⟨vs.toArray,rfl,(As M _ _ L).toA⟩,e3⟩;rw[l];simp[e1,hlen]
 |AaO n es=>
  have A:∃s,m=[.tmp s]/\O.get s=.xo n es:=by
   rcases m with _|⟨x,_|⟨y,m⟩⟩
   .simp[BU]at h
   .cases x<;>simp[BU]at h;exact⟨_,rfl,h⟩
   .simp[BU]at h
  obtain ⟨s,rfl,K⟩:=A;have B:=Ah I K V;have C:=I.wf s;rw[K]at C;simp[AK]at B;obtain⟨xs,⟨z0,k1,k2⟩,k3,k4,k5⟩:=B;have z:fn.results.toList=[.tmp s]:=by
   rcases hx:fn.results.toList with _|⟨x,_|⟨y,xs⟩⟩<;>rw[hx]at k
   .simp[GK]at k
   .cases x<;>simp[GK,RI]at k;rw[k]
   .simp[GK]at k
  have hv:(results fn a.tmps).run P w=.ok (slot a s) w:=by
   rw [l];have hm:(fn.results.mapM (GA a.tmps)).run P w=.ok [slot a s].toArray w:=by
    refine GE ?_;rw[z];simp[w!,GA,slot]
   simp [hm]
  replace Q:=Q.resolve_right (by simp[At.lone]);refine⟨slot a s,hv,λ_=>⟨z0,xs,k1,As (λb o u κ hf=>⟨κ,λhf'=>hf ?_⟩) _ _ k3,k4,k5,λb lo ζ=>?_⟩,λe=>by simp[At.lone]at e,C⟩
  .rcases hf' with h6|⟨lo,h6⟩
   .exact .inl h6
   .exact .inr ⟨s,W,0,by rw[k2,h6];rfl,y? _⟩
  .have:=I.lt s W b 0 (by rw[k2,ζ];rfl);exact⟨this.2.resolve_right (λe=>Q _ _ (e _ (aN _))),this.1⟩
 |turn _ _=>cases J
 |cut zs=>exact h.elim|mpr _ _=>cases J
 |ag _ _ _=>cases J
 |bo _ _ _ _=>cases J
 |ext _=>cases J
 |vS cs=>
  have A:∃s n,m=[.cell s (Y n)]/\O.get s=.bx cs/\cs.length=n:=by
   rcases m with _|⟨x,_|⟨y,m⟩⟩
   .simp[BU]at h
   .rcases x with s|⟨s,_|n⟩
    .simp[BU]at h
    .simp[BU]at h
    .exact⟨s,n,rfl,h⟩
   grind [BU]
  obtain ⟨s,n,rfl,K,hn⟩:=A;have hbx:=Ah I K V;have C:=I.wf s;rw[K]at C;simp only[AK]at hbx;obtain⟨b,c,θ,k1,k2,k3,k4,k5⟩:=hbx;have z:∃ty,fn.results.toList=[.cell s ty]/\B2 P ty=Y X/\Cx P ty=Y n:=by
   rcases hx:fn.results.toList with _|⟨x,_|⟨y,xs⟩⟩<;>rw[hx]at k
   .simp[GK]at k
   .cases x<;>simp[GK,RI]at k;obtain⟨⟨rfl,A⟩,δ⟩:=k;exact⟨_,rfl,A,δ⟩
   .simp[GK]at k
  obtain ⟨ty,z,hag',hcn⟩:=z;have hv:(results fn a.tmps).run P w=.ok (.agg c) w:=by
   rw [l];have S:=run_loadCells_list (P:=P) w ⟨b,0,W⟩ c.toList (λj v hv=>by
    have:=cell_of_row w b j c θ (0,0) k2;rw[show((⟨b,0,W⟩:Addr).add j)=⟨b,j,W⟩by simp[Addr.add];omega,this];simpa using hv)
   rw [Array.length_toList,k3,hn]at S;have h1':a.tmps.getD s undef=.pointer (Y ⟨b,0,W⟩):=k1;have hm:(fn.results.mapM (GA a.tmps)).run P w=.ok [.agg c].toArray w:=by
    refine GE ?_;rw[z];simp[w!,GA,h1',loadVar,Cg hag',B7 hcn,S,asAddr]
   simp [hm]
  have hsz:s<a.tmps.size:=Bg I K V
  let Z:DK:=λq i=>if q=0/\i=W then W else Br a G s q i
  have hZ:∀{q i b lo},Z q i=Y (b,lo)->Br a G s q i=Y (b,lo):=by
   intro q i b lo R;simp only[Z]at R;split at R
   .cases R
   .exact R
  have ε:∀N:Nat->Nat->Prop,(∀b lo,b<w.heap.size->(w0.heap.size<=b\/∀o,lo<=o->w0.E b o)->N b lo)->SS w (λb o=>b<w0.heap.size/\F0 b o) N cs (.agg c):=by
   intro N hN;refine⟨Z,⟨c,rfl,k3,λi d hd=>?_⟩,λq i q' i' b lo lo' e1 L=>Jr I hsz _ _ _ _ _ _ _ (hZ e1) (hZ L),by simp[Z],λq i b lo R=>?_⟩
   .obtain⟨x,j1,j2⟩:=k5 i d hd;have hz0:Z 0 (Y i)=G s (Y i):=by simp[Z,C9]
    refine ⟨x,j1,?_,Gn j2⟩;rw[hz0];refine BE.po (j2.kept (λb o u κ η=>⟨κ,?_⟩) (λ_ _ _=>rfl) BI.rfl') (λg lo j R=>?_)
    .rintro(A|⟨q,j,lo,A,δ⟩)
     .exact η (.inl A)
     .obtain⟨p,j',f1,_⟩:=CG (hZ A);exact η (.inr ⟨p,j',lo,f1,δ⟩)
    .simp only[DK.po,Z];rw[aE U];exact O8 R j
   .obtain⟨p,j',f1,_⟩:=CG (hZ R);have:=I.lt _ _ _ _ f1;exact⟨this.1,hN _ _ this.1 this.2⟩
  refine ⟨.agg c,hv,λQ=>ε _ λb lo _ ζ=>ζ.resolve_right (λe=>Q _ _ (e _ (aN _))),λ_=>ε _ λb lo _ ζ=>ζ,C⟩
variable{f:FuncId}{c:Code}{pl:PC}{rv:List RV}
theorem b6(hD:K8 P fn.ntmps D)(hf:P.funcs[f]? =Y fn)(hb:fn.body=Y c)(hname:fn.name≠ "runtime.NumGoroutine")(hok:DW P fn.ntmps D pl c=X)(hrv:GK P fn.results.toList rv=X)
  {args:Fq}(hn:args.length<=fn.ntmps)(hp:r.plain=X)(h:TV.k7 args->pl.wp (AV P) ⟨BU rv r,λ_ _=>False,BU rv r⟩ (C6 0 args)):AV P f args r:=by
 refine AV.of0 ?_ hp;intro hw;refine⟨o1,λF0 w vs hrep ht=>?_⟩;have hl:=BJ hrep;simp at hl;have hcalls:Calls P f vs w λe w'=>(∃v,e=.returned v/\Below w.heap.size w w'/\IJ w' (λb o=>b<w.heap.size/\F0 b o) w.heap.size r v)/\r.WF:=by
  refine calls_of_wp hf hb ?_;have fin:∀(O:AB)(a:Act)(w':World),BU rv r O->K9 fn.ntmps W a->Bs F0 (W0.mk w λ_ _=>False) O a w'->a.defers=[]/\∃v,(results fn a.tmps).run P w'=.ok v w'/\((∃v',Ending.returned v=.returned v'/\Below w.heap.size w w'/\IJ w' (λb o=>b<w.heap.size/\F0 b o) w.heap.size r v')/\r.WF):=by
   intro O a w' hr hN ⟨G,hI⟩;obtain⟨v,e1,e2,_,e3⟩:=WM (P:=P) hI hrv (.inl λ_ _ h=>h) hp hr;exact⟨hI.defers,v,e1,⟨v,rfl,⟨hI.below.os,hI.below.tape,hI.below.output,hI.below.size,λk hk=>hI.below.block k hk (λ_ h=>h)⟩,e2 λ_ _ h=>h⟩,e3⟩
  refine Nk (p:=W) hD pl c hok (.inl λ_ _ h=>h) V _ _ ?_ ?_ ?_ _ _ w ?_ (Bs.start hrep hw ht) (h hw)
  .exact λO a w' h1 h2 h3=>fin O a w' h1 h2 h3
  .grind
  .exact λO a w' h1 h2 h3=>fin O a w' h1 h2 h3
  .exact⟨an,V⟩
 refine ⟨?_,hcalls.mono λe w' h=>h.1⟩;obtain⟨_,_,_,h1,_⟩:=hcalls [];exact h1.2
def VV(i m:Nat)(Z:DK):BV:=λs=>if s=i then Z 0 else if m<=s then(λj=>match j with|some j=>Z (s-m+1) (Y j)|none=>W)else λ_=>W
variable{Z:DK}
theorem fC{i m:Nat}{p:Nat}{j:Option Nat}{b lo:Nat}(h:VV i m Z p j=Y (b,lo)):(p=i/\Z 0 j=Y (b,lo))\/(p≠i/\m<=p/\Z (p-m+1) j=Y (b,lo)):=by
 simp [VV]at h
 grind
variable{i:Nat}{v:Value}
theorem Bs.startZ{w:World}{F0:Nat->Nat->Prop}{vs:Array Value}{e:EV}(h:AT w (λb o=>F0 b o\/ZF Z b o) ts vs.toList)(Q:TV.k7 ts)(C:e.WF)
  (hi:vs[i]?=Y v)(E:JA Z)(H:∀q i b lo,Z q i=Y (b,lo)->b<w.heap.size)(I:∀b o S,ZF Z b o->¬F0 b S)(d:YS w (ZF Z))
  (R:∀a:Act,slot a i=v->∀G:BV,G i=Z 0->po a G=Z.po->∀L,Be w w (λb o=>F0 b o\/ZF Z b o) L->AK a w L G ((i,e)::C6 0 ts) i e v):
  Bs F0 (W0.mk w (ZF Z)) ((i,e)::C6 0 ts) {tmps:=vs++x_ n undef,defers:=[]} w:=by
 have ζ:=BJ h;simp at ζ;have l:i<vs.size:=(y_.1 hi).1
 let G:BV:=VV i (vs.size+n) Z
 have A:∀p j b lo,G p j=Y (b,lo)->∃q,Z q j=Y (b,lo)/\((p=i/\q=0)\/(p≠i/\q=p-(vs.size+n)+1/\vs.size+n<=p)):=by
  intro p j b lo η;rcases fC η with⟨z,K⟩|⟨z,K,M⟩
  .grind
  grind
 have m:Be w w (λb o=>F0 b o\/ZF Z b o) (AW w.heap.size F0 G):=by
  refine λb o u θ hf=>⟨θ,?_⟩;rintro(⟨_,z⟩|⟨p,j,lo,z,K⟩)
  .exact hf (.inl z)
  .obtain⟨q,M,_⟩:=A _ _ _ _ z;exact hf (.inr ⟨q,j,lo,M,K⟩)
 have x:∀s(k:s<vs.size),slot {tmps:=vs++x_ n undef,defers:=[]} s=vs[s]:=by
  intro s k;simp[slot,x!,x?,k]
 refine ⟨G,λp j p' j' b lo ε J κ=>?_,λp j b lo J=>?_,⟨rfl,rfl,rfl,aN _,λ_ _ _=>rfl,λ_ _ _ _ h=>h,I,d⟩,rfl,λs k=>?_,λs k=>?_,λs=>?_⟩
 .obtain⟨q,B,f2⟩:=A _ _ _ _ J;obtain⟨q',f3,f4⟩:=A _ _ _ _ κ;have:=E _ _ _ _ _ _ _ B f3;exact⟨U,this.2⟩
 .obtain⟨q,B,_⟩:=A _ _ _ _ J;exact⟨H _ _ _ _ B,.inr λo ho=>⟨q,j,lo,B,ho⟩⟩
 .simp at k;rw[AB.d3,aE U,Ju,QQ (y? _),List.getElem?_eq_none U]
 .rw[AB.d3];by_cases y:i=s
  .subst y;rw[QQ rfl,x i l];have hv:vs[i]=v:=by
    grind
   rw [hv];refine R _ (by rw[x i l,hv]) G (by simp[G,VV]) ?_ _ m;funext g j;simp only[po,G,VV,Array.size_append,Array.size_replicate,DK.po];rw[aE U,QQ U];show Z (vs.size+n+g-(vs.size+n)+1) (Y j)=Z (g+1) (Y j);rw[Nat.add_sub_cancel_left]
  .rw[aE y,Ju,QQ (y? _),z_];cases d:ts[s]? with
   |none=>trivial|some t=>
    have δ:s<vs.size:=by
     grind
    have hv:vs.toList[s]?=Y (slot {tmps:=vs++x_ n undef,defers:=[]} s):=by
     grind
    exact B8 m _ _ (((Bf _ _).1 h).2 s t _ d hv)
 .rw[AB.d3];split
  .exact C
  .rw[Ju,QQ (y? _),z_];cases d:ts[s]? with
   |none=>trivial|some t=>exact Bn.1 Q t (w_ d)
theorem Bs.startB{w:World}{F0:Nat->Nat->Prop}{vs:Array Value}{cs:List AQ}(h:AT w (λb o=>F0 b o\/ZF Z b o) ts vs.toList)(y:TV.k7 ts)(g:∀c∈cs,c.t.WF)
  (hi:vs[i]?=Y v)(z:NZ w (λb o=>F0 b o\/ZF Z b o) Z cs v)(k:JA Z)(l:∀q i b lo,Z q i=Y (b,lo)->b<w.heap.size)(m:∀b o B,ZF Z b o->¬F0 b B)(A:YS w (ZF Z)):
  Bs F0 (W0.mk w (ZF Z)) ((i,.bx cs)::C6 0 ts) {tmps:=vs++x_ n undef,defers:=[]} w:=by
 refine Bs.startZ (e:=.bx cs) h y g hi k l m A λa R G u C S s=>?_;obtain⟨b,c,θ,H,I,J,K,L⟩:=z;simp only[AK];refine⟨b,c,θ,H,I,J,by rw[u];exact K,λj d E=>?_⟩;obtain⟨x,M,Q⟩:=L j d E;refine⟨x,M,?_⟩;rw[u,C];exact Q.kept s (λ_ _ _=>rfl) BI.rfl'
theorem Bs.startA{w:World}{F0:Nat->Nat->Prop}{vs:Array Value}{cs:List AQ}(h:AT w (λb o=>F0 b o\/ZF Z b o) ts vs.toList)(u:TV.k7 ts)(g:∀c∈cs,c.t.WF)
  (hi:vs[i]?=Y v)(y:Wz w (λb o=>F0 b o\/ZF Z b o) Z cs v)(k:JA Z)(l:∀q i b lo,Z q i=Y (b,lo)->b<w.heap.size)(m:∀b o A,ZF Z b o->¬F0 b A)(z:YS w (ZF Z)):
  Bs F0 (W0.mk w (ZF Z)) ((i,.vS cs)::C6 0 ts) {tmps:=vs++x_ n undef,defers:=[]} w:=by
 refine Bs.startZ (e:=.vS cs) h u g hi k l m z λa M G B C Q s=>?_;obtain⟨xs,H,I,J⟩:=y;simp[AK];refine⟨xs,H,I,λj d E=>?_⟩;obtain⟨x,K,L,_⟩:=J j d E;refine⟨x,K,?_⟩;rw[B,C];exact L.kept s (λ_ _ _=>rfl) BI.rfl'
variable{us:Fq}
theorem kj(hD:K8 P fn.ntmps D)(hf:P.funcs[f]? =Y fn)(hb:fn.body=Y c)(hname:fn.name≠ "runtime.NumGoroutine")(hok:DW P fn.ntmps D pl c=X)(hrv:GK P fn.results.toList rv=X)
  {args:Fq}(hn:args.length<=fn.ntmps){cs cs':List AQ}(hcl:pl.pE=X)(hdst:pl.r0 i=X)(h:TV.k7 args->(∀c∈cs,c.t.WF)->pl.wp (AV P) ⟨BU rv (.bo cs cs' i us),λ_ _=>False,BU rv (.bo cs cs' i us)⟩ ((i,.bx cs)::C6 0 args)):AV P f args (.bo cs cs' i us):=by
 intro hw hwc;refine⟨o1,λF0 w vs v Z hrep hvi hbox hzu hzl hfree ht=>?_⟩;have hl:=BJ hrep;simp at hl;have hcalls:Calls P f vs w λe w'=>((∀c∈cs',c.t.WF)/\TV.k7 us)/\∃r Z',e=.returned r/\Gd Z w w'/\NZ w' (λb o=>(b<w.heap.size/\F0 b o)\/ZF Z' b o) Z' cs' v/\
   JA Z'/\(∀q i b lo,Z' q i=Y (b,lo)->b<w'.heap.size/\(w.heap.size<=b\/∃p j lo',Z p j=Y (b,lo')/\lo'<=lo))/\
   QL w' (λb o=>(b<w.heap.size/\F0 b o)\/ZF Z' b o) us r:=by
  refine calls_of_wp hf hb ?_;have fin:∀(O:AB)(a:Act)(w':World),BU rv (.bo cs cs' i us) O->K9 fn.ntmps (Y (i,v)) a->Bs F0 (W0.mk w (ZF Z)) O a w'->a.defers=[]/\∃r,(results fn a.tmps).run P w'=.ok r w'/\(((∀c∈cs',c.t.WF)/\TV.k7 us)/\∃r' Z',Ending.returned r=.returned r'/\Gd Z w w'/\NZ w' (λb o=>(b<w.heap.size/\F0 b o)\/ZF Z' b o) Z' cs' v/\
    JA Z'/\(∀q i b lo,Z' q i=Y (b,lo)->b<w'.heap.size/\(w.heap.size<=b\/∃p j lo',Z p j=Y (b,lo')/\lo'<=lo))/\
    QL w' (λb o=>(b<w.heap.size/\F0 b o)\/ZF Z' b o) us r'):=by
   rintro O a w' ⟨hs,hr⟩ hN ⟨G,hI⟩;have hag:Be w' w' (AW w.heap.size F0 G) (λb o=>(b<w.heap.size/\F0 b o)\/ZF (Br a G i) b o):=by
    refine λb o u hc hF=>⟨hc,?_⟩;rintro(h1|⟨q,j,lo,h1,h2⟩)
    .exact hF (.inl h1)
    .obtain⟨p,j',f1,_⟩:=CG h1;exact hF (.inr ⟨p,j',lo,f1,h2⟩)
   have hisz:i<a.tmps.size:=Bg hI hs V;have hbx:=Ah hI hs V;have hwb:=hI.wf i;rw[hs]at hwb;rw[hN.pin i v rfl]at hbx;simp only[AK]at hbx;obtain⟨b,c,θ,k1,k2,k3,k4,k5⟩:=hbx;obtain⟨vs',e1,e2,e3⟩:=Hq (P:=P) hI hrv hr;have hm:=GE e1;have hshape:(results fn a.tmps)=(fn.results.mapM (GA a.tmps)>>=λvs=>pure (if h:vs.size=1 then vs[0]else .tuple vs)):=by
    unfold results;congr 1
   have hlen:=BJ e2;have hres:∃r,(results fn a.tmps).run P w'=.ok r w'/\QL w' (AW w.heap.size F0 G) us r:=by
    rw [hshape];by_cases h1:vs'.length=1
    .obtain⟨x,rfl⟩:=w?.1 h1;rcases us with _|⟨t,_|⟨t',us⟩⟩
     .simp at hlen
     .simp only[AT]at e2;obtain⟨v',r',hv',e4,rfl⟩:=e2;simp at hv';subst hv';exact⟨x,by simp[hm],e4⟩
     .simp at hlen
    .refine⟨.tuple vs'.toArray,by simp[hm,h1],?_⟩;rcases us with _|⟨t,_|⟨t',us⟩⟩
     .exact⟨_,rfl,e2.toA⟩
     .grind
     .exact⟨_,rfl,e2.toA⟩
   obtain ⟨r,hr1,hr2⟩:=hres;refine⟨hI.defers,r,hr1,⟨hwb,e3⟩,r,Br a G i,rfl,?_,⟨b,c,θ,k1,k2,k3,by rw[C9];exact k4,λj d hj=>?_⟩,Jr hI hisz,λq j b lo f1=>?_,?_⟩
   .exact⟨hI.below.os,hI.below.tape,hI.below.output,hI.below.size,λk hk hz=>hI.below.block k hk (λo⟨q,j,lo,f1,_⟩=>hz q j lo f1),λb o u hz hu=>hI.below.cell b o u hz hu⟩
   .obtain⟨x,f1,f2⟩:=k5 j d hj;refine⟨x,f1,?_⟩;rw[C9];exact BE.po (f2.kept hag (λ_ _ _=>rfl) BI.rfl') λg lo j' hz=>O8 hz j'
   .obtain⟨p,j',g1,_⟩:=CG f1;obtain⟨f2,f3⟩:=hI.lt _ _ _ _ g1;refine⟨f2,f3.imp id (λe=>?_)⟩;exact e lo (aN _)
   .rcases us with _|⟨t,_|⟨t',us⟩⟩
    .obtain⟨vs2,f1,f2⟩:=hr2;exact⟨vs2,f1,As hag _ _ f2⟩
    .exact B8 hag _ _ hr2
    .obtain⟨vs2,f1,f2⟩:=hr2;exact⟨vs2,f1,As hag _ _ f2⟩
  refine Nk (p:=Y (i,v)) hD pl c hok (.inr hcl) (λj u hp=>by cases hp;exact hdst) _ _ ?_ ?_ ?_ _ _ w ?_ (Bs.startB hrep hw hwc hvi hbox hzu hzl hfree ht) (h hw hwc)
  .exact λO a w' h1 h2 h3=>fin O a w' h1 h2 h3
  .exact λi O a w' h1 _ _=>h1.elim
  .exact λO a w' h1 h2 h3=>fin O a w' h1 h2 h3
  .have hil:i<vs.size:=(y_.1 hvi).1;refine⟨an,λj u hp=>?_⟩;cases hp;have:=y! hil;rw[this]at hvi;simp at hvi;simp[slot,x!,x?,hil,hvi]
 refine ⟨?_,hcalls.mono λe w' h=>h.2⟩;obtain⟨_,_,_,h1,_⟩:=hcalls [];exact h1.1
def Wk(cs'' cs':List AQ):Prop:=cs''.length=cs'.length/\∀(i:Nat)(d:AQ),cs'[i]?=Y d->∃d',cs''[i]?=Y d'/\(d=d'\/d=⟨T,.undef⟩)
theorem Wk.wf{b cs':List AQ}(h:Wk b cs')(e:∀c∈b,c.t.WF):∀c∈cs',c.t.WF:=by
 intro c d;obtain⟨i,hi⟩:=List.getElem?_of_mem d;obtain⟨g,j,rfl|rfl⟩:=h.2 i c hi
 .grind
 .exact trivial
theorem Wk.cell{w:World}{ρ:Hc}{z:Option (Nat×Nat)}{x:Value}{d b:AQ}(h:d=b\/d=⟨T,.undef⟩)(e:BE w F ρ z b x):BE w F ρ z d x:=by
 rcases h with rfl|rfl
 .exact e
 .have:x.oneCell'=X:=by
   obtain ⟨o,t⟩:=b;cases o with
   |true=>exact Ot e|false=>exact e.2
  exact ⟨by simp[Ap];exact this,this⟩
def dT(rv:List RV)(cs cs':List AQ)(i:Nat)(us:Fq)(O:AB):Prop:=∃cs'',Wk cs'' cs'/\BU rv (.bo cs cs'' i us) O
theorem jB(hD:K8 P fn.ntmps D)(hf:P.funcs[f]? =Y fn)(hb:fn.body=Y c)(hname:fn.name≠ "runtime.NumGoroutine")(hok:DW P fn.ntmps D pl c=X)(hrv:GK P fn.results.toList rv=X)
  {args:Fq}(hn:args.length<=fn.ntmps){cs cs':List AQ}(hcl:pl.pE=X)(hdst:pl.r0 i=X)(h:TV.k7 args->(∀c∈cs,c.t.WF)->pl.wp (AV P) ⟨dT rv cs cs' i us,λ_ _=>False,dT rv cs cs' i us⟩ ((i,.bx cs)::C6 0 args)):AV P f args (.bo cs cs' i us):=by
 intro hw hwc;refine⟨o1,λF0 w vs v Z hrep hvi hbox hzu hzl hfree ht=>?_⟩;have hl:=BJ hrep;simp at hl;have hcalls:Calls P f vs w λe w'=>((∀c∈cs',c.t.WF)/\TV.k7 us)/\∃r Z',e=.returned r/\Gd Z w w'/\NZ w' (λb o=>(b<w.heap.size/\F0 b o)\/ZF Z' b o) Z' cs' v/\
   JA Z'/\(∀q i b lo,Z' q i=Y (b,lo)->b<w'.heap.size/\(w.heap.size<=b\/∃p j lo',Z p j=Y (b,lo')/\lo'<=lo))/\
   QL w' (λb o=>(b<w.heap.size/\F0 b o)\/ZF Z' b o) us r:=by
  refine calls_of_wp hf hb ?_;have fin:∀(O:AB)(a:Act)(w':World),dT rv cs cs' i us O->K9 fn.ntmps (Y (i,v)) a->Bs F0 (W0.mk w (ZF Z)) O a w'->a.defers=[]/\∃r,(results fn a.tmps).run P w'=.ok r w'/\(((∀c∈cs',c.t.WF)/\TV.k7 us)/\∃r' Z',Ending.returned r=.returned r'/\Gd Z w w'/\NZ w' (λb o=>(b<w.heap.size/\F0 b o)\/ZF Z' b o) Z' cs' v/\
    JA Z'/\(∀q i b lo,Z' q i=Y (b,lo)->b<w'.heap.size/\(w.heap.size<=b\/∃p j lo',Z p j=Y (b,lo')/\lo'<=lo))/\
    QL w' (λb o=>(b<w.heap.size/\F0 b o)\/ZF Z' b o) us r'):=by
   rintro O a w' ⟨cs'',hwk,hs,hr⟩ hN ⟨G,hI⟩;have hag:Be w' w' (AW w.heap.size F0 G) (λb o=>(b<w.heap.size/\F0 b o)\/ZF (Br a G i) b o):=by
    refine λb o u hc hF=>⟨hc,?_⟩;rintro(h1|⟨q,j,lo,h1,h2⟩)
    .exact hF (.inl h1)
    .obtain⟨p,j',f1,_⟩:=CG h1;exact hF (.inr ⟨p,j',lo,f1,h2⟩)
   have hisz:i<a.tmps.size:=Bg hI hs V;have hbx:=Ah hI hs V;have hwb:=hI.wf i;rw[hs]at hwb;rw[hN.pin i v rfl]at hbx;simp only[AK]at hbx;obtain⟨b,c,θ,k1,k2,k3,k4,k5⟩:=hbx;obtain⟨vs',e1,e2,e3⟩:=Hq (P:=P) hI hrv hr;have hm:=GE e1;have hshape:(results fn a.tmps)=(fn.results.mapM (GA a.tmps)>>=λvs=>pure (if h:vs.size=1 then vs[0]else .tuple vs)):=by
    unfold results;congr 1
   have hlen:=BJ e2;have hres:∃r,(results fn a.tmps).run P w'=.ok r w'/\QL w' (AW w.heap.size F0 G) us r:=by
    rw [hshape];by_cases h1:vs'.length=1
    .obtain⟨x,rfl⟩:=w?.1 h1;rcases us with _|⟨t,_|⟨t',us⟩⟩
     .simp at hlen
     .simp only[AT]at e2;obtain⟨v',r',hv',e4,rfl⟩:=e2;simp at hv';subst hv';exact⟨x,by simp[hm],e4⟩
     .simp at hlen
    .refine⟨.tuple vs'.toArray,by simp[hm,h1],?_⟩;rcases us with _|⟨t,_|⟨t',us⟩⟩
     .exact⟨_,rfl,e2.toA⟩
     .grind
     .exact⟨_,rfl,e2.toA⟩
   obtain ⟨r,hr1,hr2⟩:=hres;refine⟨hI.defers,r,hr1,⟨hwk.wf hwb,e3⟩,r,Br a G i,rfl,?_,⟨b,c,θ,k1,k2,k3.trans hwk.1,by rw[C9];exact k4,λj d hj=>?_⟩,Jr hI hisz,λq j b lo f1=>?_,?_⟩
   .exact⟨hI.below.os,hI.below.tape,hI.below.output,hI.below.size,λk hk hz=>hI.below.block k hk (λo⟨q,j,lo,f1,_⟩=>hz q j lo f1),λb o u hz hu=>hI.below.cell b o u hz hu⟩
   .obtain⟨d',hd',hdd⟩:=hwk.2 j d hj;obtain⟨x,f1,f2⟩:=k5 j d' hd';refine⟨x,f1,Wk.cell hdd ?_⟩;rw[C9];exact BE.po (f2.kept hag (λ_ _ _=>rfl) BI.rfl') λg lo j' hz=>O8 hz j'
   .obtain⟨p,j',g1,_⟩:=CG f1;obtain⟨f2,f3⟩:=hI.lt _ _ _ _ g1;refine⟨f2,f3.imp id (λe=>?_)⟩;exact e lo (aN _)
   .rcases us with _|⟨t,_|⟨t',us⟩⟩
    .obtain⟨vs2,f1,f2⟩:=hr2;exact⟨vs2,f1,As hag _ _ f2⟩
    .exact B8 hag _ _ hr2
    .obtain⟨vs2,f1,f2⟩:=hr2;exact⟨vs2,f1,As hag _ _ f2⟩
  refine Nk (p:=Y (i,v)) hD pl c hok (.inr hcl) (λj u hp=>by cases hp;exact hdst) _ _ ?_ ?_ ?_ _ _ w ?_ (Bs.startB hrep hw hwc hvi hbox hzu hzl hfree ht) (h hw hwc)
  .exact λO a w' h1 h2 h3=>fin O a w' h1 h2 h3
  .exact λi O a w' h1 _ _=>h1.elim
  .exact λO a w' h1 h2 h3=>fin O a w' h1 h2 h3
  .have hil:i<vs.size:=(y_.1 hvi).1;refine⟨an,λj u hp=>?_⟩;cases hp;have:=y! hil;rw[this]at hvi;simp at hvi;simp[slot,x!,x?,hil,hvi]
 refine ⟨?_,hcalls.mono λe w' h=>h.2⟩;obtain⟨_,_,_,h1,_⟩:=hcalls [];exact h1.1
theorem ki(hD:K8 P fn.ntmps D)(hf:P.funcs[f]? =Y fn)(hb:fn.body=Y c)(hname:fn.name≠ "runtime.NumGoroutine")(hok:DW P fn.ntmps D pl c=X)(hrv:GK P fn.results.toList rv=X)
  {args:Fq}(hn:args.length<=fn.ntmps){cs:List AQ}(hcl:pl.pE=X)(hp:r.plain=X)(hlo:r.lone=T)(h:TV.k7 args->(∀c∈cs,c.t.WF)->pl.wp (AV P) ⟨BU rv r,λ_ _=>False,BU rv r⟩ ((i,.vS cs)::C6 0 args)):AV P f args (.ag cs i r):=by
 intro hw hwc;refine⟨o1,λF0 w vs v Z hrep hvi hbox hzu hzl hfree ht=>?_⟩;have hl:=BJ hrep;simp at hl;have hcalls:Calls P f vs w λe w'=>r.WF/\∃v',e=.returned v'/\Gd Z w w'/\ah w' (λb o=>b<w.heap.size/\F0 b o) (λb lo=>w.heap.size<=b\/∃p j lo',Z p j=Y (b,lo')/\lo'<=lo) r v':=by
  refine calls_of_wp hf hb ?_;have fin:∀(O:AB)(a:Act)(w':World),BU rv r O->K9 fn.ntmps W a->Bs F0 (W0.mk w (ZF Z)) O a w'->a.defers=[]/\∃v,(results fn a.tmps).run P w'=.ok v w'/\(r.WF/\∃v',Ending.returned v=.returned v'/\Gd Z w w'/\ah w' (λb o=>b<w.heap.size/\F0 b o) (λb lo=>w.heap.size<=b\/∃p j lo',Z p j=Y (b,lo')/\lo'<=lo) r v'):=by
   intro O a w' hr hN ⟨G,hI⟩;obtain⟨v,e1,_,e2,e3⟩:=WM (P:=P) hI hrv (.inr hlo) hp hr;refine⟨hI.defers,v,e1,e3,v,rfl,⟨hI.below.os,hI.below.tape,hI.below.output,hI.below.size,λk hk hz=>hI.below.block k hk (λo⟨q,j,lo,f1,_⟩=>hz q j lo f1),λb o u hz hu=>hI.below.cell b o u hz hu⟩,?_⟩;have hN:∀b lo,(w.heap.size<=b\/∀o,lo<=o->ZF Z b o)->w.heap.size<=b\/∃p j lo',Z p j=Y (b,lo')/\lo'<=lo:=λb lo h=>h.imp id λe=>e lo (aN _);have e4:=e2 hlo;cases r with
   |sh t=>exact e4|tp ts=>exact e4|vS ds=>
    obtain ⟨Z',f1,f2,f3,f4⟩:=e4;exact⟨Z',f1,f2,f3,λq i b lo hz=>⟨(f4 q i b lo hz).1,hN _ _ (f4 q i b lo hz).2⟩⟩
   |_=>first|(exact Bool.noConfusion hp)|(exact Bool.noConfusion hlo)
  refine Nk (p:=W) hD pl c hok (.inr hcl) V _ _ ?_ ?_ ?_ _ _ w ?_ (Bs.startA hrep hw hwc hvi hbox hzu hzl hfree ht) (h hw hwc)
  .exact λO a w' h1 h2 h3=>fin O a w' h1 h2 h3
  .exact λi O a w' h1 _ _=>h1.elim
  .exact λO a w' h1 h2 h3=>fin O a w' h1 h2 h3
  .exact⟨an,V⟩
 refine ⟨?_,hcalls.mono λe w' h=>h.2⟩;obtain⟨_,_,_,h1,_⟩:=hcalls [];exact h1.1
theorem km(hD:K8 P fn.ntmps D)(hf:P.funcs[f]? =Y fn)(hb:fn.body=Y c)(hname:fn.name≠ "runtime.NumGoroutine")(hok:DW P fn.ntmps D pl c=X)(hrv:GK P fn.results.toList rv=X)
  {args:Fq}(hn:args.length<=fn.ntmps){kvs:BZ}(h:TV.k7 args->pl.wp (AV P) ⟨BU rv (.mpr kvs ts),λ_ _=>False,BU rv (.mpr kvs ts)⟩ (C6 0 args)):AV P f args (.mpr kvs ts):=by
 intro hw;refine⟨o1,λF0 w vs hrep ht=>?_⟩;have hl:=BJ hrep;simp at hl;have hcalls:Calls P f vs w λe w'=>(∃v,e=.returned v/\Below w.heap.size w w'/\IJ w' (λb o=>b<w.heap.size/\F0 b o) w.heap.size (.mpr kvs ts) v)/\(At.mpr kvs ts).WF:=by
  refine calls_of_wp hf hb ?_;have fin:∀(O:AB)(a:Act)(w':World),BU rv (.mpr kvs ts) O->K9 fn.ntmps W a->Bs F0 (W0.mk w λ_ _=>False) O a w'->a.defers=[]/\∃v,(results fn a.tmps).run P w'=.ok v w'/\((∃v',Ending.returned v=.returned v'/\Below w.heap.size w w'/\IJ w' (λb o=>b<w.heap.size/\F0 b o) w.heap.size (.mpr kvs ts) v')/\(At.mpr kvs ts).WF):=by
   intro O a w' hr hN ⟨G,hI⟩;rcases rv with _|⟨⟨s⟩|⟨s,_⟩,rs⟩
   .exact hr.elim
   .obtain⟨hne,⟨b,o,h1,h2⟩,h3⟩:=hr;have hg:EH O (.tmp s::rs)=Y (.Aau b::ts):=by simp[EH,RV.get,h1,EV.val,h3]
    obtain ⟨us,e1,e2,e3⟩:=Hq (P:=P) hI hrv hg;have hm:=GE e1;have hshape:(results fn a.tmps)=(fn.results.mapM (GA a.tmps)>>=λvs=>pure (if h:vs.size=1 then vs[0]else .tuple vs)):=by
     unfold results;congr 1
    simp [AT]at e2;obtain⟨v0,us',rfl,e4,e5⟩:=e2;simp[Ap]at e4;subst e4;have hor:=Ah hI h2 V;have how:=hI.wf o;rw[h2]at how;simp[AK]at hor;obtain⟨k1,k2,k3⟩:=hor;have hlt:=hI.lt _ _ _ _ k2;have hus:us'.length≠0:=by
     have h6:=BJ e5;have:ts.length=rs.length:=by
      have:∀(ys:List RV)(ts:Fq),EH O ys=Y ts->ts.length=ys.length:=by
       intro ys
       induction ys with
       |nil=>intro ts h;simp[EH]at h;subst h;rfl|cons y ys ih=>
        grind [EH,kx]
      exact this _ _ h3
     grind
    have hag:Be w' w' (AW w.heap.size F0 G) (λb o=>b<w.heap.size/\F0 b o):=λb o u hc hF=>⟨hc,λhF'=>hF (.inl hF')⟩;refine⟨hI.defers,.tuple (Value.map (Y b)::us').toArray,?_,⟨_,rfl,⟨hI.below.os,hI.below.tape,hI.below.output,hI.below.size,λk hk=>hI.below.block k hk (λ_ h=>h)⟩,b,us',rfl,hlt.2.resolve_right (λe=>e _ (aN _)),hlt.1,k3,As hag _ _ e5⟩,how,e3.2⟩;rw[hshape];have:¬us'.length=0:=hus;simp[hm,this]
   .exact hr.elim
  refine Nk (p:=W) hD pl c hok (.inl λ_ _ h=>h) V _ _ ?_ ?_ ?_ _ _ w ?_ (Bs.start hrep hw ht) (h hw)
  .exact λO a w' h1 h2 h3=>fin O a w' h1 h2 h3
  .grind
  .exact λO a w' h1 h2 h3=>fin O a w' h1 h2 h3
  .exact⟨an,V⟩
 refine ⟨?_,hcalls.mono λe w' h=>h.1⟩;obtain⟨_,_,_,h1,_⟩:=hcalls [];exact h1.2
end
end Go.Sf
