/- Code, and functions. -/
import Derived.Test.YtfcfkigfmofniaaGreatSfRegion
set_option linter.all false
open Option renaming some->Y,none->W
open Bool renaming true->X,false->T
open List renaming all_eq_true->u!,mem_of_getElem?->u?,mapM_cons->v1,length_eq_one_iff->v5
open Array renaming replicate->v6,getD_eq_getD_getElem?->v9,getElem?_append->v_,getElem?_eq_some_iff->v!,getElem?_eq_getElem->v?
open Nat renaming zero_le->w_,sub_zero->w!
namespace Go.Sf
open Go.RowKit (Below)
def DG(P:Program)(N:Nat)(D:QQ->Array Oper->List PR->Bool):PC->Code->Bool
 |.skip _,.skip=>X|.ret,.ret=>X|.exit i _,.exit j=>i==j|.seq a b,.seq c d=>DG P N D a c&&DG P N D b d|.cond c a b,.cond x p q=>AK x c&&(DG P N D a p&&DG P N D b q)|.block i c,.block j d=>i==j&&DG P N D c d|.loop _ c,.loop d=>DG P N D c d|.region rs _,.region _ ops draw=>!draw&&MA P N ops ops.toList rs|.draw ds rs _,.region _ ops draw=>draw&&D ds ops rs|.rls _ a,c=>DG P N D a c|.bad,_=>X|_,_=>T
def PC.yh:PC->Bool
 |.seq a b=>a.yh&&b.yh|.cond _ a b=>a.yh&&b.yh|.block _ c=>c.yh|.loop _ c=>c.yh|.rls _ c=>c.yh|_=>X
def yj(i:Nat)(rs:List PR):Bool:=rs.all λr=>r.dst !=Y i
def PC.yj(i:Nat):PC->Bool
 |.seq a b=>a.yj i&&b.yj i|.cond _ a b=>a.yj i&&b.yj i|.block _ c=>c.yj i|.loop _ c=>c.yj i|.rls _ c=>c.yj i|.region rs _=>Go.Sf.yj i rs|.draw _ rs _=>Go.Sf.yj i rs|_=>X
variable{i:Nat}
theorem Wq{b:List PR}(h:yj i b=X):∀r∈b,r.dst≠Y i:=by
 intro r d;have:=u!.1 h r d;simpa using this
section
variable{P:Program}{F0:Nat->Nat->Prop}{w0:W0}{N:Nat}{p:Option (Nat×Value)}{D:QQ->Array Oper->List PR->Bool}
theorem Bj.envWF{O:AB}{a:Act}{w:World}(h:Bj F0 w0 O a w):∀s,(O.get s).WF:=by
 obtain ⟨G,h⟩:=h;exact h.wf
def Kq(P:Program)(N:Nat)(D:QQ->Array Oper->List PR->Bool):Prop:=
 ∀(F0:Nat->Nat->Prop)(w0:W0)(p:Option (Nat×Value))(id:Nat)(ds:QQ)(ops:Array Oper)(rs:List PR)(live:QQ)(O:AB)(a:Act)(w:World)(K:AB->Prop)(Q:Exit->Act->World->Prop),D ds ops rs=X->(∀i v,p=Y (i,v)->∀r∈rs,r.dst≠Y i)->Kr N p a->Bj F0 w0 O a w->Rs O ds=X->wpOps (AX P) (λe=>K (e.fu live)) rs O ->
  (∀O a w,K O->Kr N p a->Bj F0 w0 O a w->Q .normal a w)->(Code.region id ops X).wp P Q a w
theorem NW(hD:Kq P N D):∀(ζ:PC)(c:Code),DG P N D ζ c=X->((∀b o,¬w0.E b o)\/ζ.yh=X)->(∀i v,p=Y (i,v)->ζ.yj i=X)->∀(q:Q)(A:Exit->Act->World->Prop),
  (∀O a w,q.normal O->Kr N p a->Bj F0 w0 O a w->A .normal a w)->(∀i O a w,q.exit i O->Kr N p a->Bj F0 w0 O a w->A (.exit i) a w)->(∀O a w,q.ret O->Kr N p a->Bj F0 w0 O a w->A .ret a w) ->
  ∀O a w,Kr N p a->Bj F0 w0 O a w->ζ.wp (AX P) q O->c.wp P A a w:=by
 intro ζ
 induction ζ with
 |skip l=>
  intro c g K t q A C H I O a w u m h;cases c<;>simp[DG]at g<;>first|exact Go.wp_skip (C _ a w h u (m.fu l))|cases g
 |ret=>
  intro c g K t q A C H I O a w u m h;cases c<;>simp[DG]at g<;>first|exact Go.wp_ret (I O a w h u m)|cases g
 |exit i l=>
  intro c g K t q A C H I O a w u m h;cases c<;>simp only[DG]at g<;>first|cases g|skip
  simp at g;subst g;exact Go.wp_exit (H i _ a w h u (m.fu l))
 |seq x y κ η=>
  intro c g K t q A C H I O a w u m h;cases c<;>simp only[DG]at g<;>first|cases g|skip
  rename_i c d;simp at g;have M:=K.imp id (λe=>(sx _ _▸e:x.yh=X/\y.yh=X));have R:=λi v J=>(sx _ _▸t i v J:x.yj i=X/\y.yj i=X);refine Go.wp_seq (κ c g.1 (M.imp id And.left) (λi v J=>(R i v J).1) _ _ ?_ ?_ ?_ O a w u m h)
  .intro O a w L u m;exact η d g.2 (M.imp id And.right) (λi v J=>(R i v J).2) q A C H I O a w u m (L m.envWF)
  .exact H
  .exact I
 |cond o x y κ η=>
  intro c g K t q A C H I O a w u m h;cases c<;>simp only[DG]at g<;>first|cases g|skip
  rename_i c d e;simp at g;simp[PC.wp]at h;split at h
  .rename_i b θ;have hc:a.eval c=.bool b:=by
    obtain ⟨G,m⟩:=m;have:=(Ar m g.1 θ).1
    grind [Af]
   have M:=K.imp id (λe=>(sx _ _▸e:x.yh=X/\y.yh=X));have R:=λi v J=>(sx _ _▸t i v J:x.yj i=X/\y.yj i=X);refine Go.wp_cond_split hc (λθ=>?_) (λθ=>?_)
   .exact κ d g.2.1 (M.imp id And.left) (λi v J=>(R i v J).1) q A C H I O a w u m (h.1 θ)
   .exact η e g.2.2 (M.imp id And.right) (λi v J=>(R i v J).2) q A C H I O a w u m (h.2 θ)
  .exact h.elim
 |block i x ih=>
  intro c g K t q A C H I O a w u m h;cases c<;>simp only[DG]at g<;>first|cases g|skip
  rename_i j d;simp at g;obtain⟨rfl,g⟩:=g;refine Go.wp_block (ih d g K t _ _ ?_ ?_ ?_ O a w u m h)
  .exact C
  .intro k O a w L u m;simp[Exit.inBlock];simp only at L;split
   next e=>rw[ae e]at L;exact C O a w L u m
   next e=>rw[az e]at L;exact H k O a w L u m
  .exact I
 |loop B x ih=>
  intro c g K t q A C H I O a w u m h;cases c<;>simp[DG]at g<;>first|cases g|skip
  rename_i c;simp[PC.wp]at h
  let δ:Act->World->Prop:=λa w=>∀(b:Frame)(k:List Item)(cs:List Frame),∃e a' w',A e a' w'/\Arrives P (lone (b.at a (.code c::.inLoop c::k)) cs w) b k cs e a' w'
  have hX:=h (λe=>∀a w,Kr N p a->Bj F0 w0 e a w->δ a w) ?_ a w u (m.fu B)
  .intro b k cs;obtain⟨e,a',w',S,z⟩:=hX b k cs;exact⟨e,a',w',S,.of_steps (.one step_loop) z⟩
  .intro e he a w u m;have θ:c.wp P (Exit.then δ A) a w:=by
    refine ih c g K t _ _ ?_ ?_ ?_ e a w u m (he m.envWF)
    .intro O a w L u m;exact L a w u (m.fu B)
    .exact H
    .exact I
   intro b k cs;obtain⟨e,a₁,w₁,S,z⟩:=θ b (.inLoop c::k) cs;cases e with
   |normal=>
    obtain ⟨e₂,a₂,w₂,hq₂,ε⟩:=S b k cs;exact⟨e₂,a₂,w₂,hq₂,.of_steps (Steps.trans z (.one step_inLoop)) ε⟩
   |exit id=>exact⟨_,a₁,w₁,S,.pass (x:=.inLoop c) rfl (λ_ _=>.inl V) z⟩|goto l=>exact⟨_,a₁,w₁,S,.pass (x:=.inLoop c) rfl (λ_ _=>.inl V) z⟩|ret=>exact⟨_,a₁,w₁,S,.pass (x:=.inLoop c) rfl (λ_ _=>.inl V) z⟩|panic ch=>exact⟨_,a₁,w₁,S,.pass (x:=.inLoop c) rfl (λ_ _=>.inl V) z⟩|outgrown=>exact⟨_,a₁,w₁,S,.pass (x:=.inLoop c) rfl (λ_ _=>.inl V) z⟩
 |region rs B=>
  intro c g K t q A C H I O a w u m h;cases c<;>simp only[DG]at g<;>first|cases g|skip
  rename_i id ops draw;simp[Bool.not_eq_true']at g;obtain⟨rfl,g⟩:=g;exact bP g (λi v J=>Wq (t i v J)) u m h λO a w L u m=>C _ a w L u (m.fu B)
 |draw ds rs B=>
  intro c g K t q A C H I O a w u m h;cases c<;>simp only[DG]at g<;>first|cases g|skip
  rename_i id ops draw;simp at g;obtain⟨rfl,g⟩:=g;exact hD F0 w0 p id ds ops rs B O a w q.normal A g (λi v J=>Wq (t i v J)) u m h.1 h.2 C
 |bad=>
  intro c g K t q A C H I O a w u m h;exact h.elim
 |rls s x ih=>
  intro c g K t q A C H I O a w u m h;have hok':DG P N D x c=X:=by
   grind [DG]
  simp [PC.wp]at h;split at h
  next cs hs=>obtain⟨G,m⟩:=m;exact ih c hok' (K.imp id λe=>e) t q A C H I _ a w u (m.rls hs) h
  .exact h.elim
def Cx:Nat->Fq->AB
 |_,[]=>[]|k,t::ts=>(k,.tv t)::Cx (k+1) ts
theorem Je:∀(ts:Fq)(k n:Nat),AB.get (Cx k ts) n=if k<=n then(match ts[n-k]? with|some t=>.tv t|none=>.undef)else .undef
 |[],k,n=>by simp[Cx,AB.get]|t::ts,k,n=>by
  rw [Cx,AB.d6,Je ts (k+1) n]
  grind
variable{ts:Fq}{n:Nat}
theorem Bj.start{w:World}{F0:Nat->Nat->Prop}{vs:Array Value}(h:AP w F0 ts vs.toList)(j:TV.tl ts)(d:Tp w):Bj F0 (W0.mk w λ_ _=>False) (Cx 0 ts) {tmps:=vs++v6 n undef,defers:=[]} w:=by
 have q:=A9 h;simp at q;refine⟨λ_ _=>W,V,V,⟨rfl,rfl,rfl,b6 _,λ_ _ _=>rfl,λ_ _ _ _ h=>h,λ_ _ _ h=>h.elim,d,λ_ _ h=>h.elim⟩,rfl,λs k=>?_,λs k=>?_,λs=>?_⟩
 .rw[Je]
  grind
 .rw[Je,ae (w_ _),w!];cases d:ts[s]? with
  |none=>trivial|some t=>
   have e:s<vs.size:=by
    grind
   have hv:vs.toList[s]?=Y (slot {tmps:=vs++v6 n undef,defers:=[]} s):=by
    simp [slot,v9,v_,e]
   refine By (λb o u l m=>⟨l,?_⟩) _ _ (((BQ _ _).1 h).2 s t _ d hv);rintro(g|⟨_,_,_,g,_⟩)
   .exact m g.2
   .cases g
 .rw[Je,ae (w_ _),w!];cases d:ts[s]? with
  |none=>trivial|some t=>exact Bg.1 j t (u? d)
def Qo(P:Program):ResultVar->RV->Bool
 |.tmp t,.tmp s=>t==s|.cell x t,.cell s W=>x==s&&Bs P t==Y T|.cell x t,.cell s (Y n)=>x==s&&Bs P t==Y X&&Ce P t==Y n|_,_=>T
def F9(P:Program):List ResultVar->List RV->Bool
 |[],[]=>X|x::xs,y::ys=>Qo P x y&&F9 P xs ys|_,_=>T
def F2(tmps:Array Value):ResultVar->Sem Value
 |.tmp t=>pure (tmps.getD t undef)|.cell a t=>do loadVar t (<-asAddr (tmps.getD a undef))
variable{O:AB}{a:Act}{w:World}{G:BH}
theorem ZJ(m:AN F0 w0 O a w G){x:ResultVar}{y:RV}(d:Qo P x y=X){t:TV}(h:y.get O=Y t):∃v,(F2 a.tmps x).run P w=.ok v w/\Af w (AW w0.heap.size F0 G) t v/\t.WF:=by
 have e:∀s,AK (.tmp s) (.s s)=X:=λs=>o2
 cases x with
 |tmp s=>
  cases y with
  |tmp s'=>
   simp [Qo]at d;subst d;have:=Ar m (e s) (t:=t) h;exact⟨slot a s,rfl,this⟩
  |cell s' n=>cases n<;>simp[Qo]at d
 |cell s ty=>
  cases y with
  |tmp _=>cases d
  |cell s' n=>
   cases n with
   |none=>
    simp [Qo]at d;obtain⟨rfl,z⟩:=d;simp[RV.get]at h;split at h
    next u r o=>simp at h;subst h;obtain⟨b,g,vs,A,l,B,_,C⟩:=Q2 m (e s) (y:=.s s) o;simp[AP]at l;obtain⟨v,M,rfl,K,Q⟩:=l;have H:=C 0 v rfl;rw[Addr.add_zero']at H;have k:a.tmps.getD s undef=.pointer (Y ⟨b,g,W⟩):=A;refine⟨v,?_,K,B.1⟩;simp[F2,k,loadVar,CO z,H,asAddr]
    .cases h
   |some n=>
    simp [Qo]at d;obtain⟨⟨rfl,z⟩,L⟩:=d;simp[RV.get]at h;split at h
    .rename_i cs o;split at h
     .rename_i q;simp at h;subst h;obtain⟨b,g,vs,A,l,B,E,C⟩:=Q2 m (e s) (y:=.s s) o;have J:=A9 l;have j:=run_loadCells_list (P:=P) w ⟨b,g,W⟩ vs C;rw[J,q]at j;have k:a.tmps.getD s undef=.pointer (Y ⟨b,g,W⟩):=A;refine⟨.agg vs.toArray,?_,?_,B⟩
      .simp[F2,k,loadVar,CO z,Bv L,j,asAddr]
      .simp only[Af];exact⟨_,rfl,l,by rw[u!];exact λx I=>E x I⟩
     .cases h
    .cases h
theorem HZ(d:AN F0 w0 O a w G):∀{xs:List ResultVar}{ys:List RV},F9 P xs ys=X->∀{ts:Fq},D4 O ys=Y ts->∃vs,(xs.mapM (F2 a.tmps)).run P w=.ok vs w/\AP w (AW w0.heap.size F0 G) ts vs/\TV.tl ts
 |[],[],_,ts,h=>by simp[D4]at h;subst h;exact⟨[],V,rfl,trivial⟩|[],_::_,b,_,_=>by simp[F9]at b|_::_,[],b,_,_=>by simp[F9]at b|x::xs,y::ys,b,ts,h=>by
  simp [F9]at b;simp[D4]at h;split at h
  next t us e g=>simp at h;subst h;obtain⟨v,j,k,l⟩:=ZJ d b.1 e;obtain⟨vs,m,o,q⟩:=HZ d b.2 g;exact⟨v::vs,by simp[v1,j,m],⟨v,vs,rfl,k,o⟩,l,q⟩
  .cases h
theorem F4{f:ResultVar->Sem Value}{xs:Array ResultVar}{vs:List Value}{w':World}(h:(xs.toList.mapM f).run P w=.ok vs w'):(xs.mapM f).run P w=.ok vs.toArray w':=by
 rw [<-Array.toArray_toList (xs:=xs),List.mapM_toArray];simp[h]
variable{F:Nat->Nat->Prop}
theorem AP.toA{vs:List Value}(h:AP w F ts vs):AP w F ts vs.toArray.toList:=c_
def Al.lone:Al->Bool
 |.own _=>X|.Aai _ _=>X|_=>T
variable{fn:Func}{r:Al}
theorem VX(H:AN F0 w0 O a w G){ys:List RV}(k:F9 P fn.results.toList ys=X)(M:(∀b o,¬w0.E b o)\/r.lone=T)(I:r.plain=X)(h:BE ys r O):
  ∃v,(results fn a.tmps).run P w=.ok v w/\((∀b o,¬w0.E b o)->H5 w (λb o=>b<w0.heap.size/\F0 b o) w0.heap.size r v)/\(r.lone=T->ZM w (λb o=>b<w0.heap.size/\F0 b o) (λb lo=>w0.heap.size<=b\/∀o,lo<=o->w0.E b o) r v)/\r.WF:=by
 have C:∀ts,D4 O ys=Y ts->∃vs:List Value,(fn.results.mapM (F2 a.tmps)).run P w=.ok vs.toArray w/\AP w (AW w0.heap.size F0 G) ts vs/\TV.tl ts:=by
  grind [HZ,F4]
 have l:(results fn a.tmps)=(fn.results.mapM (F2 a.tmps)>>=λvs=>pure (if h:vs.size=1 then vs[0]else .tuple vs)):=by
  unfold results;congr 1
 have L:BS w w (AW w0.heap.size F0 G) (λb o=>b<w0.heap.size/\F0 b o):=λb o u ε κ=>⟨ε,λhF'=>κ (.inl hF')⟩;cases r with
 |sh t=>
  have z:∃x,ys=[x]/\x.get O=Y t:=by
   rcases ys with _|⟨x,_|⟨y,ys⟩⟩<;>simp[BE]at h;exact⟨x,rfl,h⟩
  obtain ⟨x,rfl,δ⟩:=z;obtain⟨vs,e1,K,e3⟩:=C [t] (by simp[D4,δ]);simp only[AP]at K;obtain⟨v,r',rfl,e4,rfl⟩:=K;refine⟨v,?_,λ_=>By L _ _ e4,λ_=>By L _ _ e4,e3.1⟩;rw[l];simp[e1]
 |own t=>
  have z:∃s,ys=[.tmp s]/\O.get s=.ow t:=by
   rcases ys with _|⟨x,_|⟨y,ys⟩⟩
   .simp[BE]at h
   .cases x<;>simp[BE]at h;exact⟨_,rfl,h⟩
   .simp[BE]at h
  obtain ⟨s,rfl,J⟩:=z;obtain⟨vs,e1,K,e3⟩:=C [t] (by simp[D4,RV.get,J,EV.val]);have hr:Qo P (.tmp s) (.tmp s)=X:=by simp[Qo]
  have A:=AZ H J V;have B:=H.wf s;rw[J]at B;simp[AL]at A;have m:fn.results.toList=[.tmp s]:=by
   rcases δ:fn.results.toList with _|⟨x,_|⟨y,xs⟩⟩<;>rw[δ]at k
   .simp[F9]at k
   .cases x<;>simp[F9,Qo]at k;rw[k]
   .simp[F9]at k
  have hv:(results fn a.tmps).run P w=.ok (slot a s) w:=by
   rw [l];have hm:(fn.results.mapM (F2 a.tmps)).run P w=.ok [slot a s].toArray w:=by
    refine F4 ?_;rw[m];simp[v1,F2,slot]
   simp [hm]
  replace M:=M.resolve_right (by simp[Al.lone]);refine⟨slot a s,hv,λ_=>⟨G s W,A.kept (λb o u ε κ=>⟨ε,?_⟩) (λ_ _ _=>rfl),λb lo η=>?_⟩,λe=>by simp[Al.lone]at e,B⟩
  .rintro(z|⟨lo,z,ζ⟩)
   .exact κ (.inl z)
   .exact κ (.inr ⟨s,W,lo,z,ζ⟩)
  .have:=H.lt _ _ _ _ η;exact⟨this.2.resolve_right (λe=>M _ _ (e _ (b6 _))),this.1⟩
 |tp ts=>
  simp [BE]at h;have hne:ys.length≠1:=by
   grind
  have ζ:D4 O ys=Y ts:=by
   grind
  obtain ⟨vs,e1,K,e3⟩:=C ts ζ;have hlen:vs.length≠1:=by
   rw [A9 K];have:∀(ys:List RV)(ts:Fq),D4 O ys=Y ts->ts.length=ys.length:=by
    intro ys
    induction ys with
    |nil=>intro ts h;simp[D4]at h;subst h;rfl|cons y ys ih=>
     grind [D4,t5]
   grind
  refine ⟨.tuple vs.toArray,?_,λ_=>⟨vs.toArray,rfl,(Aj L _ _ K).toA⟩,λ_=>⟨vs.toArray,rfl,(Aj L _ _ K).toA⟩,e3⟩;rw[l];simp[e1,hlen]
 |Aai n es=>
  have z:∃s,ys=[.tmp s]/\O.get s=.xo n es:=by
   rcases ys with _|⟨x,_|⟨y,ys⟩⟩
   .simp[BE]at h
   .cases x<;>simp[BE]at h;exact⟨_,rfl,h⟩
   .simp[BE]at h
  obtain ⟨s,rfl,J⟩:=z;have A:=AZ H J V;have B:=H.wf s;rw[J]at B;simp[AL]at A;obtain⟨xs,⟨z0,k1,k2⟩,k3,k4,k5⟩:=A;have m:fn.results.toList=[.tmp s]:=by
   rcases δ:fn.results.toList with _|⟨x,_|⟨y,xs⟩⟩<;>rw[δ]at k
   .simp[F9]at k
   .cases x<;>simp[F9,Qo]at k;rw[k]
   .simp[F9]at k
  have hv:(results fn a.tmps).run P w=.ok (slot a s) w:=by
   rw [l];have hm:(fn.results.mapM (F2 a.tmps)).run P w=.ok [slot a s].toArray w:=by
    refine F4 ?_;rw[m];simp[v1,F2,slot]
   simp [hm]
  replace M:=M.resolve_right (by simp[Al.lone]);refine⟨slot a s,hv,λ_=>⟨z0,xs,k1,Aj (λb o u ε hf=>⟨ε,λhf'=>hf ?_⟩) _ _ k3,k4,k5,λb lo η=>?_⟩,λe=>by simp[Al.lone]at e,B⟩
  .rcases hf' with h6|⟨lo,h6⟩
   .exact .inl h6
   .exact .inr ⟨s,W,0,by rw[k2,h6];rfl,w_ _⟩
  .have:=H.lt s W b 0 (by rw[k2,η];rfl);exact⟨this.2.resolve_right (λe=>M _ _ (e _ (b6 _))),this.1⟩
 |turn _ _=>cases I
 |cut zs=>exact h.elim|mpr _ _=>cases I
 |ag _ _ _=>cases I
 |bo _ _ _ _=>cases I
 |ext _=>cases I
 |yy cs=>
  have z:∃s n,ys=[.cell s (Y n)]/\O.get s=.bx cs/\cs.length=n:=by
   rcases ys with _|⟨x,_|⟨y,ys⟩⟩
   .simp[BE]at h
   .rcases x with s|⟨s,_|n⟩
    .simp[BE]at h
    .simp[BE]at h
    .exact⟨s,n,rfl,h⟩
   grind [BE]
  obtain ⟨s,n,rfl,J,hn⟩:=z;have hbx:=AZ H J V;have B:=H.wf s;rw[J]at B;simp only[AL]at hbx;obtain⟨b,c,θ,k1,k2,k3,k4,k5⟩:=hbx;have m:∃ty,fn.results.toList=[.cell s ty]/\Bs P ty=Y X/\Ce P ty=Y n:=by
   rcases δ:fn.results.toList with _|⟨x,_|⟨y,xs⟩⟩<;>rw[δ]at k
   .simp[F9]at k
   .cases x<;>simp[F9,Qo]at k;obtain⟨⟨rfl,z⟩,ζ⟩:=k;exact⟨_,rfl,z,ζ⟩
   .simp[F9]at k
  obtain ⟨ty,m,hag',hcn⟩:=m;have hv:(results fn a.tmps).run P w=.ok (.agg c) w:=by
   rw [l];have R:=run_loadCells_list (P:=P) w ⟨b,0,W⟩ c.toList (λj v hv=>by
    have:=cell_of_row w b j c θ (0,0) k2;rw[show((⟨b,0,W⟩:Addr).add j)=⟨b,j,W⟩by simp[Addr.add];omega,this];simpa using hv)
   rw [Array.length_toList,k3,hn]at R;have h1':a.tmps.getD s undef=.pointer (Y ⟨b,0,W⟩):=k1;have hm:(fn.results.mapM (F2 a.tmps)).run P w=.ok [.agg c].toArray w:=by
    refine F4 ?_;rw[m];simp[v1,F2,h1',loadVar,CO hag',Bv hcn,R,asAddr]
   simp [hm]
  have hsz:s<a.tmps.size:=BV H J V
  let Z:DC:=λq i=>if q=0/\i=W then W else Bh a G s q i
  have hZ:∀{q i b lo},Z q i=Y (b,lo)->Bh a G s q i=Y (b,lo):=by
   intro q i b lo Q;simp only[Z]at Q;split at Q
   .cases Q
   .exact Q
  have S:∀N:Nat->Nat->Prop,(∀b lo,b<w.heap.size->(w0.heap.size<=b\/∀o,lo<=o->w0.E b o)->N b lo)->Zf w (λb o=>b<w0.heap.size/\F0 b o) N cs (.agg c):=by
   intro N hN;refine⟨Z,⟨c,rfl,k3,λi d hd=>?_⟩,λq i q' i' b lo lo' e1 K=>Ja H hsz _ _ _ _ _ _ _ (hZ e1) (hZ K),by simp[Z],λq i b lo Q=>?_⟩
   .obtain⟨x,j1,j2⟩:=k5 i d hd;have hz0:Z 0 (Y i)=G s (Y i):=by simp[Z,Cz]
    refine ⟨x,j1,?_,GW j2⟩;rw[hz0];refine A8.x9 (j2.kept (λb o u ε κ=>⟨ε,?_⟩) (λ_ _ _=>rfl) BA.rfl') (λg lo j Q=>?_)
    .rintro(z|⟨q,j,lo,z,ζ⟩)
     .exact κ (.inl z)
     .obtain⟨p,j',f1,_⟩:=B2 (hZ z);exact κ (.inr ⟨p,j',lo,f1,ζ⟩)
    .simp only[DC.x9,Z];rw[az U];exact Ou Q j
   .obtain⟨p,j',f1,_⟩:=B2 (hZ Q);have:=H.lt _ _ _ _ f1;exact⟨this.1,hN _ _ this.1 this.2⟩
  refine ⟨.agg c,hv,λM=>S _ λb lo _ η=>η.resolve_right (λe=>M _ _ (e _ (b6 _))),λ_=>S _ λb lo _ η=>η,B⟩
variable{f:FuncId}{c:Code}{pl:PC}{rv:List RV}
theorem aF(hD:Kq P fn.ntmps D)(hf:P.funcs[f]? =Y fn)(hb:fn.body=Y c)(hname:fn.name≠ "runtime.NumGoroutine")(hok:DG P fn.ntmps D pl c=X)(hrv:F9 P fn.results.toList rv=X)
  {args:Fq}(hn:args.length<=fn.ntmps)(hp:r.plain=X)(h:TV.tl args->pl.wp (AX P) ⟨BE rv r,λ_ _=>False,BE rv r⟩ (Cx 0 args)):AX P f args r:=by
 refine AX.of0 ?_ hp;intro hw;refine⟨l?,λF0 w vs hrep ht=>?_⟩;have hl:=A9 hrep;simp at hl;have hcalls:Calls P f vs w λe w'=>(∃v,e=.returned v/\Below w.heap.size w w'/\H5 w' (λb o=>b<w.heap.size/\F0 b o) w.heap.size r v)/\r.WF:=by
  refine calls_of_wp hf hb ?_;have fin:∀(O:AB)(a:Act)(w':World),BE rv r O->Kr fn.ntmps W a->Bj F0 (W0.mk w λ_ _=>False) O a w'->a.defers=[]/\∃v,(results fn a.tmps).run P w'=.ok v w'/\((∃v',Ending.returned v=.returned v'/\Below w.heap.size w w'/\H5 w' (λb o=>b<w.heap.size/\F0 b o) w.heap.size r v')/\r.WF):=by
   intro O a w' hr hN ⟨G,hI⟩;obtain⟨v,e1,e2,_,e3⟩:=VX (P:=P) hI hrv (.inl λ_ _ h=>h) hp hr;exact⟨hI.defers,v,e1,⟨v,rfl,⟨hI.below.os,hI.below.tape,hI.below.output,hI.below.size,λk hk=>hI.below.block k hk (λ_ h=>h)⟩,e2 λ_ _ h=>h⟩,e3⟩
  refine NW (p:=W) hD pl c hok (.inl λ_ _ h=>h) V _ _ ?_ ?_ ?_ _ _ w ?_ (Bj.start hrep hw ht) (h hw)
  .exact λO a w' h1 h2 h3=>fin O a w' h1 h2 h3
  .grind
  .exact λO a w' h1 h2 h3=>fin O a w' h1 h2 h3
  .exact⟨an,V⟩
 refine ⟨?_,hcalls.mono λe w' h=>h.1⟩;obtain⟨_,_,_,h1,_⟩:=hcalls [];exact h1.2
def Uq(i m:Nat)(Z:DC):BH:=λs=>if s=i then Z 0 else if m<=s then(λj=>match j with|some j=>Z (s-m+1) (Y j)|none=>W)else λ_=>W
variable{Z:DC}
theorem cc{i m:Nat}{p:Nat}{j:Option Nat}{b lo:Nat}(h:Uq i m Z p j=Y (b,lo)):(p=i/\Z 0 j=Y (b,lo))\/(p≠i/\m<=p/\Z (p-m+1) j=Y (b,lo)):=by
 simp [Uq]at h
 grind
variable{i:Nat}{v:Value}
theorem Bj.startZ{w:World}{F0:Nat->Nat->Prop}{vs:Array Value}{e:EV}(h:AP w (λb o=>F0 b o\/ZF Z b o) ts vs.toList)(Q:TV.tl ts)(C:e.WF)
  (hi:vs[i]?=Y v)(E:Iw Z)(H:∀q i b lo,Z q i=Y (b,lo)->b<w.heap.size)(I:∀b o S,ZF Z b o->¬F0 b S)(d:XT w (ZF Z))
  (R:∀a:Act,slot a i=v->∀G:BH,G i=Z 0->x9 a G=Z.x9->∀L,BS w w (λb o=>F0 b o\/ZF Z b o) L->AL a w L G ((i,e)::Cx 0 ts) i e v):
  Bj F0 (W0.mk w (ZF Z)) ((i,e)::Cx 0 ts) {tmps:=vs++v6 n undef,defers:=[]} w:=by
 have ζ:=A9 h;simp at ζ;have l:i<vs.size:=(v!.1 hi).1
 let G:BH:=Uq i (vs.size+n) Z
 have A:∀p j b lo,G p j=Y (b,lo)->∃q,Z q j=Y (b,lo)/\((p=i/\q=0)\/(p≠i/\q=p-(vs.size+n)+1/\vs.size+n<=p)):=by
  intro p j b lo η;rcases cc η with⟨z,K⟩|⟨z,K,M⟩
  .grind
  grind
 have m:BS w w (λb o=>F0 b o\/ZF Z b o) (AW w.heap.size F0 G):=by
  refine λb o u θ hf=>⟨θ,?_⟩;rintro(⟨_,z⟩|⟨p,j,lo,z,K⟩)
  .exact hf (.inl z)
  .obtain⟨q,M,_⟩:=A _ _ _ _ z;exact hf (.inr ⟨q,j,lo,M,K⟩)
 have x:∀s(k:s<vs.size),slot {tmps:=vs++v6 n undef,defers:=[]} s=vs[s]:=by
  intro s k;simp[slot,v9,v_,k]
 refine ⟨G,λp j p' j' b lo ε J κ=>?_,λp j b lo J=>?_,⟨rfl,rfl,rfl,b6 _,λ_ _ _=>rfl,λ_ _ _ _ h=>h,I,d⟩,rfl,λs k=>?_,λs k=>?_,λs=>?_⟩
 .obtain⟨q,B,f2⟩:=A _ _ _ _ J;obtain⟨q',f3,f4⟩:=A _ _ _ _ κ;have:=E _ _ _ _ _ _ _ B f3;exact⟨U,this.2⟩
 .obtain⟨q,B,_⟩:=A _ _ _ _ J;exact⟨H _ _ _ _ B,.inr λo ho=>⟨q,j,lo,B,ho⟩⟩
 .simp at k;rw[AB.d6,az U,Je,ae (w_ _),List.getElem?_eq_none U]
 .rw[AB.d6];by_cases y:i=s
  .subst y;rw[ae rfl,x i l];have hv:vs[i]=v:=by
    grind
   rw [hv];refine R _ (by rw[x i l,hv]) G (by simp[G,Uq]) ?_ _ m;funext g j;simp only[x9,G,Uq,Array.size_append,Array.size_replicate,DC.x9];rw[az U,ae U];show Z (vs.size+n+g-(vs.size+n)+1) (Y j)=Z (g+1) (Y j);rw[Nat.add_sub_cancel_left]
  .rw[az y,Je,ae (w_ _),w!];cases d:ts[s]? with
   |none=>trivial|some t=>
    have δ:s<vs.size:=by
     grind
    have hv:vs.toList[s]?=Y (slot {tmps:=vs++v6 n undef,defers:=[]} s):=by
     grind
    exact By m _ _ (((BQ _ _).1 h).2 s t _ d hv)
 .rw[AB.d6];split
  .exact C
  .rw[Je,ae (w_ _),w!];cases d:ts[s]? with
   |none=>trivial|some t=>exact Bg.1 Q t (u? d)
theorem Bj.startB{w:World}{F0:Nat->Nat->Prop}{vs:Array Value}{cs:List AR}(h:AP w (λb o=>F0 b o\/ZF Z b o) ts vs.toList)(y:TV.tl ts)(g:∀c∈cs,c.t.WF)
  (hi:vs[i]?=Y v)(z:NO w (λb o=>F0 b o\/ZF Z b o) Z cs v)(k:Iw Z)(l:∀q i b lo,Z q i=Y (b,lo)->b<w.heap.size)(m:∀b o B,ZF Z b o->¬F0 b B)(A:XT w (ZF Z)):
  Bj F0 (W0.mk w (ZF Z)) ((i,.bx cs)::Cx 0 ts) {tmps:=vs++v6 n undef,defers:=[]} w:=by
 refine Bj.startZ (e:=.bx cs) h y g hi k l m A λa R G u C S s=>?_;obtain⟨b,c,θ,H,I,J,K,L⟩:=z;simp only[AL];refine⟨b,c,θ,H,I,J,by rw[u];exact K,λj d E=>?_⟩;obtain⟨x,M,Q⟩:=L j d E;refine⟨x,M,?_⟩;rw[u,C];exact Q.kept s (λ_ _ _=>rfl) BA.rfl'
theorem Bj.startA{w:World}{F0:Nat->Nat->Prop}{vs:Array Value}{cs:List AR}(h:AP w (λb o=>F0 b o\/ZF Z b o) ts vs.toList)(u:TV.tl ts)(g:∀c∈cs,c.t.WF)
  (hi:vs[i]?=Y v)(y:V5 w (λb o=>F0 b o\/ZF Z b o) Z cs v)(k:Iw Z)(l:∀q i b lo,Z q i=Y (b,lo)->b<w.heap.size)(m:∀b o A,ZF Z b o->¬F0 b A)(z:XT w (ZF Z)):
  Bj F0 (W0.mk w (ZF Z)) ((i,.yy cs)::Cx 0 ts) {tmps:=vs++v6 n undef,defers:=[]} w:=by
 refine Bj.startZ (e:=.yy cs) h u g hi k l m z λa M G B C Q s=>?_;obtain⟨xs,H,I,J⟩:=y;simp[AL];refine⟨xs,H,I,λj d E=>?_⟩;obtain⟨x,K,L,_⟩:=J j d E;refine⟨x,K,?_⟩;rw[B,C];exact L.kept s (λ_ _ _=>rfl) BA.rfl'
variable{us:Fq}
theorem iE(hD:Kq P fn.ntmps D)(hf:P.funcs[f]? =Y fn)(hb:fn.body=Y c)(hname:fn.name≠ "runtime.NumGoroutine")(hok:DG P fn.ntmps D pl c=X)(hrv:F9 P fn.results.toList rv=X)
  {args:Fq}(hn:args.length<=fn.ntmps){cs cs':List AR}(hcl:pl.yh=X)(hdst:pl.yj i=X)(h:TV.tl args->(∀c∈cs,c.t.WF)->pl.wp (AX P) ⟨BE rv (.bo cs cs' i us),λ_ _=>False,BE rv (.bo cs cs' i us)⟩ ((i,.bx cs)::Cx 0 args)):AX P f args (.bo cs cs' i us):=by
 intro hw hwc;refine⟨l?,λF0 w vs v Z hrep hvi hbox hzu hzl hfree ht=>?_⟩;have hl:=A9 hrep;simp at hl;have hcalls:Calls P f vs w λe w'=>((∀c∈cs',c.t.WF)/\TV.tl us)/\∃r Z',e=.returned r/\GK Z w w'/\NO w' (λb o=>(b<w.heap.size/\F0 b o)\/ZF Z' b o) Z' cs' v/\
   Iw Z'/\(∀q i b lo,Z' q i=Y (b,lo)->b<w'.heap.size/\(w.heap.size<=b\/∃p j lo',Z p j=Y (b,lo')/\lo'<=lo))/\
   P5 w' (λb o=>(b<w.heap.size/\F0 b o)\/ZF Z' b o) us r:=by
  refine calls_of_wp hf hb ?_;have fin:∀(O:AB)(a:Act)(w':World),BE rv (.bo cs cs' i us) O->Kr fn.ntmps (Y (i,v)) a->Bj F0 (W0.mk w (ZF Z)) O a w'->a.defers=[]/\∃r,(results fn a.tmps).run P w'=.ok r w'/\(((∀c∈cs',c.t.WF)/\TV.tl us)/\∃r' Z',Ending.returned r=.returned r'/\GK Z w w'/\NO w' (λb o=>(b<w.heap.size/\F0 b o)\/ZF Z' b o) Z' cs' v/\
    Iw Z'/\(∀q i b lo,Z' q i=Y (b,lo)->b<w'.heap.size/\(w.heap.size<=b\/∃p j lo',Z p j=Y (b,lo')/\lo'<=lo))/\
    P5 w' (λb o=>(b<w.heap.size/\F0 b o)\/ZF Z' b o) us r'):=by
   rintro O a w' ⟨hs,hr⟩ hN ⟨G,hI⟩;have hag:BS w' w' (AW w.heap.size F0 G) (λb o=>(b<w.heap.size/\F0 b o)\/ZF (Bh a G i) b o):=by
    refine λb o u hc hF=>⟨hc,?_⟩;rintro(h1|⟨q,j,lo,h1,h2⟩)
    .exact hF (.inl h1)
    .obtain⟨p,j',f1,_⟩:=B2 h1;exact hF (.inr ⟨p,j',lo,f1,h2⟩)
   have hisz:i<a.tmps.size:=BV hI hs V;have hbx:=AZ hI hs V;have hwb:=hI.wf i;rw[hs]at hwb;rw[hN.pin i v rfl]at hbx;simp only[AL]at hbx;obtain⟨b,c,θ,k1,k2,k3,k4,k5⟩:=hbx;obtain⟨vs',e1,e2,e3⟩:=HZ (P:=P) hI hrv hr;have hm:=F4 e1;have hshape:(results fn a.tmps)=(fn.results.mapM (F2 a.tmps)>>=λvs=>pure (if h:vs.size=1 then vs[0]else .tuple vs)):=by
    unfold results;congr 1
   have hlen:=A9 e2;have hres:∃r,(results fn a.tmps).run P w'=.ok r w'/\P5 w' (AW w.heap.size F0 G) us r:=by
    rw [hshape];by_cases h1:vs'.length=1
    .obtain⟨x,rfl⟩:=v5.1 h1;rcases us with _|⟨t,_|⟨t',us⟩⟩
     .simp at hlen
     .simp only[AP]at e2;obtain⟨v',r',hv',e4,rfl⟩:=e2;simp at hv';subst hv';exact⟨x,by simp[hm],e4⟩
     .simp at hlen
    .refine⟨.tuple vs'.toArray,by simp[hm,h1],?_⟩;rcases us with _|⟨t,_|⟨t',us⟩⟩
     .exact⟨_,rfl,e2.toA⟩
     .grind
     .exact⟨_,rfl,e2.toA⟩
   obtain ⟨r,hr1,hr2⟩:=hres;refine⟨hI.defers,r,hr1,⟨hwb,e3⟩,r,Bh a G i,rfl,?_,⟨b,c,θ,k1,k2,k3,by rw[Cz];exact k4,λj d hj=>?_⟩,Ja hI hisz,λq j b lo f1=>?_,?_⟩
   .exact⟨hI.below.os,hI.below.tape,hI.below.output,hI.below.size,λk hk hz=>hI.below.block k hk (λo⟨q,j,lo,f1,_⟩=>hz q j lo f1),λb o u hz hu=>hI.below.cell b o u hz hu⟩
   .obtain⟨x,f1,f2⟩:=k5 j d hj;refine⟨x,f1,?_⟩;rw[Cz];exact A8.x9 (f2.kept hag (λ_ _ _=>rfl) BA.rfl') λg lo j' hz=>Ou hz j'
   .obtain⟨p,j',g1,_⟩:=B2 f1;obtain⟨f2,f3⟩:=hI.lt _ _ _ _ g1;refine⟨f2,f3.imp id (λe=>?_)⟩;exact e lo (b6 _)
   .rcases us with _|⟨t,_|⟨t',us⟩⟩
    .obtain⟨vs2,f1,f2⟩:=hr2;exact⟨vs2,f1,Aj hag _ _ f2⟩
    .exact By hag _ _ hr2
    .obtain⟨vs2,f1,f2⟩:=hr2;exact⟨vs2,f1,Aj hag _ _ f2⟩
  refine NW (p:=Y (i,v)) hD pl c hok (.inr hcl) (λj u hp=>by cases hp;exact hdst) _ _ ?_ ?_ ?_ _ _ w ?_ (Bj.startB hrep hw hwc hvi hbox hzu hzl hfree ht) (h hw hwc)
  .exact λO a w' h1 h2 h3=>fin O a w' h1 h2 h3
  .exact λi O a w' h1 _ _=>h1.elim
  .exact λO a w' h1 h2 h3=>fin O a w' h1 h2 h3
  .have hil:i<vs.size:=(v!.1 hvi).1;refine⟨an,λj u hp=>?_⟩;cases hp;have:=v? hil;rw[this]at hvi;simp at hvi;simp[slot,v9,v_,hil,hvi]
 refine ⟨?_,hcalls.mono λe w' h=>h.2⟩;obtain⟨_,_,_,h1,_⟩:=hcalls [];exact h1.1
def Wk(cs'' cs':List AR):Prop:=cs''.length=cs'.length/\∀(i:Nat)(d:AR),cs'[i]?=Y d->∃d',cs''[i]?=Y d'/\(d=d'\/d=⟨T,.undef⟩)
theorem Wk.wf{b cs':List AR}(h:Wk b cs')(e:∀c∈b,c.t.WF):∀c∈cs',c.t.WF:=by
 intro c d;obtain⟨i,hi⟩:=List.getElem?_of_mem d;obtain⟨g,j,rfl|rfl⟩:=h.2 i c hi
 .grind
 .exact trivial
theorem Wk.cell{w:World}{ρ:Hn}{z:Option (Nat×Nat)}{x:Value}{d b:AR}(h:d=b\/d=⟨T,.undef⟩)(e:A8 w F ρ z b x):A8 w F ρ z d x:=by
 rcases h with rfl|rfl
 .exact e
 .have:x.oneCell'=X:=by
   obtain ⟨o,t⟩:=b;cases o with
   |true=>exact Od e|false=>exact e.2
  exact ⟨by simp[Af];exact this,this⟩
def bV(rv:List RV)(cs cs':List AR)(i:Nat)(us:Fq)(O:AB):Prop:=∃cs'',Wk cs'' cs'/\BE rv (.bo cs cs'' i us) O
theorem eu(hD:Kq P fn.ntmps D)(hf:P.funcs[f]? =Y fn)(hb:fn.body=Y c)(hname:fn.name≠ "runtime.NumGoroutine")(hok:DG P fn.ntmps D pl c=X)(hrv:F9 P fn.results.toList rv=X)
  {args:Fq}(hn:args.length<=fn.ntmps){cs cs':List AR}(hcl:pl.yh=X)(hdst:pl.yj i=X)(h:TV.tl args->(∀c∈cs,c.t.WF)->pl.wp (AX P) ⟨bV rv cs cs' i us,λ_ _=>False,bV rv cs cs' i us⟩ ((i,.bx cs)::Cx 0 args)):AX P f args (.bo cs cs' i us):=by
 intro hw hwc;refine⟨l?,λF0 w vs v Z hrep hvi hbox hzu hzl hfree ht=>?_⟩;have hl:=A9 hrep;simp at hl;have hcalls:Calls P f vs w λe w'=>((∀c∈cs',c.t.WF)/\TV.tl us)/\∃r Z',e=.returned r/\GK Z w w'/\NO w' (λb o=>(b<w.heap.size/\F0 b o)\/ZF Z' b o) Z' cs' v/\
   Iw Z'/\(∀q i b lo,Z' q i=Y (b,lo)->b<w'.heap.size/\(w.heap.size<=b\/∃p j lo',Z p j=Y (b,lo')/\lo'<=lo))/\
   P5 w' (λb o=>(b<w.heap.size/\F0 b o)\/ZF Z' b o) us r:=by
  refine calls_of_wp hf hb ?_;have fin:∀(O:AB)(a:Act)(w':World),bV rv cs cs' i us O->Kr fn.ntmps (Y (i,v)) a->Bj F0 (W0.mk w (ZF Z)) O a w'->a.defers=[]/\∃r,(results fn a.tmps).run P w'=.ok r w'/\(((∀c∈cs',c.t.WF)/\TV.tl us)/\∃r' Z',Ending.returned r=.returned r'/\GK Z w w'/\NO w' (λb o=>(b<w.heap.size/\F0 b o)\/ZF Z' b o) Z' cs' v/\
    Iw Z'/\(∀q i b lo,Z' q i=Y (b,lo)->b<w'.heap.size/\(w.heap.size<=b\/∃p j lo',Z p j=Y (b,lo')/\lo'<=lo))/\
    P5 w' (λb o=>(b<w.heap.size/\F0 b o)\/ZF Z' b o) us r'):=by
   rintro O a w' ⟨cs'',hwk,hs,hr⟩ hN ⟨G,hI⟩;have hag:BS w' w' (AW w.heap.size F0 G) (λb o=>(b<w.heap.size/\F0 b o)\/ZF (Bh a G i) b o):=by
    refine λb o u hc hF=>⟨hc,?_⟩;rintro(h1|⟨q,j,lo,h1,h2⟩)
    .exact hF (.inl h1)
    .obtain⟨p,j',f1,_⟩:=B2 h1;exact hF (.inr ⟨p,j',lo,f1,h2⟩)
   have hisz:i<a.tmps.size:=BV hI hs V;have hbx:=AZ hI hs V;have hwb:=hI.wf i;rw[hs]at hwb;rw[hN.pin i v rfl]at hbx;simp only[AL]at hbx;obtain⟨b,c,θ,k1,k2,k3,k4,k5⟩:=hbx;obtain⟨vs',e1,e2,e3⟩:=HZ (P:=P) hI hrv hr;have hm:=F4 e1;have hshape:(results fn a.tmps)=(fn.results.mapM (F2 a.tmps)>>=λvs=>pure (if h:vs.size=1 then vs[0]else .tuple vs)):=by
    unfold results;congr 1
   have hlen:=A9 e2;have hres:∃r,(results fn a.tmps).run P w'=.ok r w'/\P5 w' (AW w.heap.size F0 G) us r:=by
    rw [hshape];by_cases h1:vs'.length=1
    .obtain⟨x,rfl⟩:=v5.1 h1;rcases us with _|⟨t,_|⟨t',us⟩⟩
     .simp at hlen
     .simp only[AP]at e2;obtain⟨v',r',hv',e4,rfl⟩:=e2;simp at hv';subst hv';exact⟨x,by simp[hm],e4⟩
     .simp at hlen
    .refine⟨.tuple vs'.toArray,by simp[hm,h1],?_⟩;rcases us with _|⟨t,_|⟨t',us⟩⟩
     .exact⟨_,rfl,e2.toA⟩
     .grind
     .exact⟨_,rfl,e2.toA⟩
   obtain ⟨r,hr1,hr2⟩:=hres;refine⟨hI.defers,r,hr1,⟨hwk.wf hwb,e3⟩,r,Bh a G i,rfl,?_,⟨b,c,θ,k1,k2,k3.trans hwk.1,by rw[Cz];exact k4,λj d hj=>?_⟩,Ja hI hisz,λq j b lo f1=>?_,?_⟩
   .exact⟨hI.below.os,hI.below.tape,hI.below.output,hI.below.size,λk hk hz=>hI.below.block k hk (λo⟨q,j,lo,f1,_⟩=>hz q j lo f1),λb o u hz hu=>hI.below.cell b o u hz hu⟩
   .obtain⟨d',hd',hdd⟩:=hwk.2 j d hj;obtain⟨x,f1,f2⟩:=k5 j d' hd';refine⟨x,f1,Wk.cell hdd ?_⟩;rw[Cz];exact A8.x9 (f2.kept hag (λ_ _ _=>rfl) BA.rfl') λg lo j' hz=>Ou hz j'
   .obtain⟨p,j',g1,_⟩:=B2 f1;obtain⟨f2,f3⟩:=hI.lt _ _ _ _ g1;refine⟨f2,f3.imp id (λe=>?_)⟩;exact e lo (b6 _)
   .rcases us with _|⟨t,_|⟨t',us⟩⟩
    .obtain⟨vs2,f1,f2⟩:=hr2;exact⟨vs2,f1,Aj hag _ _ f2⟩
    .exact By hag _ _ hr2
    .obtain⟨vs2,f1,f2⟩:=hr2;exact⟨vs2,f1,Aj hag _ _ f2⟩
  refine NW (p:=Y (i,v)) hD pl c hok (.inr hcl) (λj u hp=>by cases hp;exact hdst) _ _ ?_ ?_ ?_ _ _ w ?_ (Bj.startB hrep hw hwc hvi hbox hzu hzl hfree ht) (h hw hwc)
  .exact λO a w' h1 h2 h3=>fin O a w' h1 h2 h3
  .exact λi O a w' h1 _ _=>h1.elim
  .exact λO a w' h1 h2 h3=>fin O a w' h1 h2 h3
  .have hil:i<vs.size:=(v!.1 hvi).1;refine⟨an,λj u hp=>?_⟩;cases hp;have:=v? hil;rw[this]at hvi;simp at hvi;simp[slot,v9,v_,hil,hvi]
 refine ⟨?_,hcalls.mono λe w' h=>h.2⟩;obtain⟨_,_,_,h1,_⟩:=hcalls [];exact h1.1
theorem iD(hD:Kq P fn.ntmps D)(hf:P.funcs[f]? =Y fn)(hb:fn.body=Y c)(hname:fn.name≠ "runtime.NumGoroutine")(hok:DG P fn.ntmps D pl c=X)(hrv:F9 P fn.results.toList rv=X)
  {args:Fq}(hn:args.length<=fn.ntmps){cs:List AR}(hcl:pl.yh=X)(hp:r.plain=X)(hlo:r.lone=T)(h:TV.tl args->(∀c∈cs,c.t.WF)->pl.wp (AX P) ⟨BE rv r,λ_ _=>False,BE rv r⟩ ((i,.yy cs)::Cx 0 args)):AX P f args (.ag cs i r):=by
 intro hw hwc;refine⟨l?,λF0 w vs v Z hrep hvi hbox hzu hzl hfree ht=>?_⟩;have hl:=A9 hrep;simp at hl;have hcalls:Calls P f vs w λe w'=>r.WF/\∃v',e=.returned v'/\GK Z w w'/\ZM w' (λb o=>b<w.heap.size/\F0 b o) (λb lo=>w.heap.size<=b\/∃p j lo',Z p j=Y (b,lo')/\lo'<=lo) r v':=by
  refine calls_of_wp hf hb ?_;have fin:∀(O:AB)(a:Act)(w':World),BE rv r O->Kr fn.ntmps W a->Bj F0 (W0.mk w (ZF Z)) O a w'->a.defers=[]/\∃v,(results fn a.tmps).run P w'=.ok v w'/\(r.WF/\∃v',Ending.returned v=.returned v'/\GK Z w w'/\ZM w' (λb o=>b<w.heap.size/\F0 b o) (λb lo=>w.heap.size<=b\/∃p j lo',Z p j=Y (b,lo')/\lo'<=lo) r v'):=by
   intro O a w' hr hN ⟨G,hI⟩;obtain⟨v,e1,_,e2,e3⟩:=VX (P:=P) hI hrv (.inr hlo) hp hr;refine⟨hI.defers,v,e1,e3,v,rfl,⟨hI.below.os,hI.below.tape,hI.below.output,hI.below.size,λk hk hz=>hI.below.block k hk (λo⟨q,j,lo,f1,_⟩=>hz q j lo f1),λb o u hz hu=>hI.below.cell b o u hz hu⟩,?_⟩;have hN:∀b lo,(w.heap.size<=b\/∀o,lo<=o->ZF Z b o)->w.heap.size<=b\/∃p j lo',Z p j=Y (b,lo')/\lo'<=lo:=λb lo h=>h.imp id λe=>e lo (b6 _);have e4:=e2 hlo;cases r with
   |sh t=>exact e4|tp ts=>exact e4|yy ds=>
    obtain ⟨Z',f1,f2,f3,f4⟩:=e4;exact⟨Z',f1,f2,f3,λq i b lo hz=>⟨(f4 q i b lo hz).1,hN _ _ (f4 q i b lo hz).2⟩⟩
   |_=>first|(exact Bool.noConfusion hp)|(exact Bool.noConfusion hlo)
  refine NW (p:=W) hD pl c hok (.inr hcl) V _ _ ?_ ?_ ?_ _ _ w ?_ (Bj.startA hrep hw hwc hvi hbox hzu hzl hfree ht) (h hw hwc)
  .exact λO a w' h1 h2 h3=>fin O a w' h1 h2 h3
  .exact λi O a w' h1 _ _=>h1.elim
  .exact λO a w' h1 h2 h3=>fin O a w' h1 h2 h3
  .exact⟨an,V⟩
 refine ⟨?_,hcalls.mono λe w' h=>h.2⟩;obtain⟨_,_,_,h1,_⟩:=hcalls [];exact h1.1
theorem iF(hD:Kq P fn.ntmps D)(hf:P.funcs[f]? =Y fn)(hb:fn.body=Y c)(hname:fn.name≠ "runtime.NumGoroutine")(hok:DG P fn.ntmps D pl c=X)(hrv:F9 P fn.results.toList rv=X)
  {args:Fq}(hn:args.length<=fn.ntmps){kvs:BM}(h:TV.tl args->pl.wp (AX P) ⟨BE rv (.mpr kvs ts),λ_ _=>False,BE rv (.mpr kvs ts)⟩ (Cx 0 args)):AX P f args (.mpr kvs ts):=by
 intro hw;refine⟨l?,λF0 w vs hrep ht=>?_⟩;have hl:=A9 hrep;simp at hl;have hcalls:Calls P f vs w λe w'=>(∃v,e=.returned v/\Below w.heap.size w w'/\H5 w' (λb o=>b<w.heap.size/\F0 b o) w.heap.size (.mpr kvs ts) v)/\(Al.mpr kvs ts).WF:=by
  refine calls_of_wp hf hb ?_;have fin:∀(O:AB)(a:Act)(w':World),BE rv (.mpr kvs ts) O->Kr fn.ntmps W a->Bj F0 (W0.mk w λ_ _=>False) O a w'->a.defers=[]/\∃v,(results fn a.tmps).run P w'=.ok v w'/\((∃v',Ending.returned v=.returned v'/\Below w.heap.size w w'/\H5 w' (λb o=>b<w.heap.size/\F0 b o) w.heap.size (.mpr kvs ts) v')/\(Al.mpr kvs ts).WF):=by
   intro O a w' hr hN ⟨G,hI⟩;rcases rv with _|⟨⟨s⟩|⟨s,_⟩,rs⟩
   .exact hr.elim
   .obtain⟨hne,⟨b,o,h1,h2⟩,h3⟩:=hr;have hg:D4 O (.tmp s::rs)=Y (.zW b::ts):=by simp[D4,RV.get,h1,EV.val,h3]
    obtain ⟨us,e1,e2,e3⟩:=HZ (P:=P) hI hrv hg;have hm:=F4 e1;have hshape:(results fn a.tmps)=(fn.results.mapM (F2 a.tmps)>>=λvs=>pure (if h:vs.size=1 then vs[0]else .tuple vs)):=by
     unfold results;congr 1
    simp [AP]at e2;obtain⟨v0,us',rfl,e4,e5⟩:=e2;simp[Af]at e4;subst e4;have hor:=AZ hI h2 V;have how:=hI.wf o;rw[h2]at how;simp[AL]at hor;obtain⟨k1,k2,k3⟩:=hor;have hlt:=hI.lt _ _ _ _ k2;have hus:us'.length≠0:=by
     have h6:=A9 e5;have:ts.length=rs.length:=by
      have:∀(ys:List RV)(ts:Fq),D4 O ys=Y ts->ts.length=ys.length:=by
       intro ys
       induction ys with
       |nil=>intro ts h;simp[D4]at h;subst h;rfl|cons y ys ih=>
        grind [D4,t5]
      exact this _ _ h3
     grind
    have hag:BS w' w' (AW w.heap.size F0 G) (λb o=>b<w.heap.size/\F0 b o):=λb o u hc hF=>⟨hc,λhF'=>hF (.inl hF')⟩;refine⟨hI.defers,.tuple (Value.map (Y b)::us').toArray,?_,⟨_,rfl,⟨hI.below.os,hI.below.tape,hI.below.output,hI.below.size,λk hk=>hI.below.block k hk (λ_ h=>h)⟩,b,us',rfl,hlt.2.resolve_right (λe=>e _ (b6 _)),hlt.1,k3,Aj hag _ _ e5⟩,how,e3.2⟩;rw[hshape];have:¬us'.length=0:=hus;simp[hm,this]
   .exact hr.elim
  refine NW (p:=W) hD pl c hok (.inl λ_ _ h=>h) V _ _ ?_ ?_ ?_ _ _ w ?_ (Bj.start hrep hw ht) (h hw)
  .exact λO a w' h1 h2 h3=>fin O a w' h1 h2 h3
  .grind
  .exact λO a w' h1 h2 h3=>fin O a w' h1 h2 h3
  .exact⟨an,V⟩
 refine ⟨?_,hcalls.mono λe w' h=>h.1⟩;obtain⟨_,_,_,h1,_⟩:=hcalls [];exact h1.2
end
end Go.Sf
