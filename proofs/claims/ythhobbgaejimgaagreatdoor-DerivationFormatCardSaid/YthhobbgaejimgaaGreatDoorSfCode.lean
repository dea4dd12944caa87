/- Code, and functions. -/
import Derived.Test.YthhobbgaejimgaaGreatDoorSfRegion
set_option linter.all false
namespace Go.Sf
open Go.RowKit (Below)
def Ce(P:Program)(N:Nat)(D:Ne->Array Oper->List PR->Bool):PC->Code->Bool
 |.skip _,.skip=>true|.ret,.ret=>true|.exit i _,.exit j=>i==j|.seq a b,.seq c d=>Ce P N D a c&&Ce P N D b d|.cond c a b,.cond x p q=>AF x c&&(Ce P N D a p&&Ce P N D b q)|.block i c,.block j d=>i==j&&Ce P N D c d|.loop _ c,.loop d=>Ce P N D c d|.region rs _,.region _ ops draw=>!draw&&Hw P N ops ops.toList rs|.draw ds rs _,.region _ ops draw=>draw&&D ds ops rs|.uN _ a,c=>Ce P N D a c|.bad,_=>true|_,_=>false
def PC.rQ:PC->Bool
 |.seq a b=>a.rQ&&b.rQ|.cond _ a b=>a.rQ&&b.rQ|.block _ c=>c.rQ|.loop _ c=>c.rQ|.uN _ c=>c.rQ|_=>true
def rM(i:Nat)(rs:List PR):Bool:=rs.all fun r=>r.dst !=some i
def PC.rM(i:Nat):PC->Bool
 |.seq a b=>a.rM i&&b.rM i|.cond _ a b=>a.rM i&&b.rM i|.block _ c=>c.rM i|.loop _ c=>c.rM i|.uN _ c=>c.rM i|.region rs _=>Go.Sf.rM i rs|.draw _ rs _=>Go.Sf.rM i rs|_=>true
variable{i:Nat}
theorem P0{b:List PR}(h:rM i b=true):∀r∈b,r.dst≠some i:=by
 intro r d;have:=List.all_eq_true.1 h r d;simpa using this
section
variable{P:Program}{F0:Nat->Nat->Prop}{w0:W0}{N:Nat}{p:Option (Nat×Value)}{D:Ne->Array Oper->List PR->Bool}
theorem BG.envWF{O:AA}{a:Act}{w:World}(h:BG F0 w0 O a w):∀s,(O.get s).WF:=by
 obtain ⟨G,h⟩:=h;exact h.wf
def IA(P:Program)(N:Nat)(D:Ne->Array Oper->List PR->Bool):Prop:=
 ∀(F0:Nat->Nat->Prop)(w0:W0)(p:Option (Nat×Value))(id:Nat)(ds:Ne)(ops:Array Oper)(rs:List PR)(live:Ne)(O:AA)(a:Act)(w:World)(K:AA->Prop)(Q:Exit->Act->World->Prop),D ds ops rs=true->(∀i v,p=some (i,v)->∀r∈rs,r.dst≠some i)->Hj N p a->BG F0 w0 O a w->Ll O ds=true->wpOps (AH P) (fun e=>K (e.pr live)) rs O ->
  (∀O a w,K O->Hj N p a->BG F0 w0 O a w->Q .normal a w)->(Code.region id ops true).wp P Q a w
theorem J2(hD:IA P N D):∀(X:PC)(c:Code),Ce P N D X c=true->((∀b o,¬w0.E b o)\/X.rQ=true)->(∀i v,p=some (i,v)->X.rM i=true)->∀(q:Q)(A:Exit->Act->World->Prop),
  (∀O a w,q.normal O->Hj N p a->BG F0 w0 O a w->A .normal a w)->(∀i O a w,q.exit i O->Hj N p a->BG F0 w0 O a w->A (.exit i) a w)->(∀O a w,q.ret O->Hj N p a->BG F0 w0 O a w->A .ret a w) ->
  ∀O a w,Hj N p a->BG F0 w0 O a w->X.wp (AH P) q O->c.wp P A a w:=by
 intro X
 induction X with
 |skip l=>
  intro c g K t q A C H I O a w u m h;cases c<;>simp[Ce]at g<;>first|exact Go.wp_skip (C _ a w h u (m.pr l))|cases g
 |ret=>
  intro c g K t q A C H I O a w u m h;cases c<;>simp[Ce]at g<;>first|exact Go.wp_ret (I O a w h u m)|cases g
 |exit i l=>
  intro c g K t q A C H I O a w u m h;cases c<;>simp only[Ce]at g<;>first|cases g|skip
  simp at g;subst g;exact Go.wp_exit (H i _ a w h u (m.pr l))
 |seq x y V W=>
  intro c g K t q A C H I O a w u m h;cases c<;>simp only[Ce]at g<;>first|cases g|skip
  rename_i c d;simp at g;have M:=K.imp id (fun e=>(rt _ _▸e:x.rQ=true/\y.rQ=true));have R:=fun i v J=>(rt _ _▸t i v J:x.rM i=true/\y.rM i=true);refine Go.wp_seq (V c g.1 (M.imp id And.left) (fun i v J=>(R i v J).1) _ _ ?_ ?_ ?_ O a w u m h)
  .intro O a w L u m;exact W d g.2 (M.imp id And.right) (fun i v J=>(R i v J).2) q A C H I O a w u m (L m.envWF)
  .exact H
  .exact I
 |cond o x y V W=>
  intro c g K t q A C H I O a w u m h;cases c<;>simp only[Ce]at g<;>first|cases g|skip
  rename_i c d e;simp at g;simp[PC.wp]at h;split at h
  .rename_i b T;have hc:a.eval c=.bool b:=by
    obtain ⟨G,m⟩:=m;have:=(Ad m g.1 T).1
    grind [AS]
   have M:=K.imp id (fun e=>(rt _ _▸e:x.rQ=true/\y.rQ=true));have R:=fun i v J=>(rt _ _▸t i v J:x.rM i=true/\y.rM i=true);refine Go.wp_cond_split hc (fun T=>?_) (fun T=>?_)
   .exact V d g.2.1 (M.imp id And.left) (fun i v J=>(R i v J).1) q A C H I O a w u m (h.1 T)
   .exact W e g.2.2 (M.imp id And.right) (fun i v J=>(R i v J).2) q A C H I O a w u m (h.2 T)
  .exact h.elim
 |block i x ih=>
  intro c g K t q A C H I O a w u m h;cases c<;>simp only[Ce]at g<;>first|cases g|skip
  rename_i j d;simp at g;obtain⟨rfl,g⟩:=g;refine Go.wp_block (ih d g K t _ _ ?_ ?_ ?_ O a w u m h)
  .exact C
  .intro k O a w L u m;simp[Exit.inBlock];simp only at L;split
   .rename_i e;rw[az e]at L;exact C O a w L u m
   .rename_i e;rw[bk e]at L;exact H k O a w L u m
  .exact I
 |loop B x ih=>
  intro c g K t q A C H I O a w u m h;cases c<;>simp[Ce]at g<;>first|cases g|skip
  rename_i c;simp[PC.wp]at h
  let Y:Act->World->Prop:=fun a w=>∀(b:Frame)(k:List Item)(cs:List Frame),∃e a' w',A e a' w'/\Arrives P (lone (b.at a (.code c::.inLoop c::k)) cs w) b k cs e a' w'
  have hX:=h (fun e=>∀a w,Hj N p a->BG F0 w0 e a w->Y a w) ?_ a w u (m.pr B)
  .intro b k cs;obtain⟨e,a',w',S,z⟩:=hX b k cs;exact⟨e,a',w',S,.of_steps (.one step_loop) z⟩
  .intro e he a w u m;have T:c.wp P (Exit.then Y A) a w:=by
    refine ih c g K t _ _ ?_ ?_ ?_ e a w u m (he m.envWF)
    .intro O a w L u m;exact L a w u (m.pr B)
    .exact H
    .exact I
   intro b k cs;obtain⟨e,a₁,w₁,S,z⟩:=T b (.inLoop c::k) cs;cases e with
   |normal=>
    obtain ⟨e₂,a₂,w₂,hq₂,U⟩:=S b k cs;exact⟨e₂,a₂,w₂,hq₂,.of_steps (Steps.trans z (.one step_inLoop)) U⟩
   |exit id=>exact⟨_,a₁,w₁,S,.pass (x:=.inLoop c) rfl (fun _ _=>.inl (by simp)) z⟩|goto l=>exact⟨_,a₁,w₁,S,.pass (x:=.inLoop c) rfl (fun _ _=>.inl (by simp)) z⟩|ret=>exact⟨_,a₁,w₁,S,.pass (x:=.inLoop c) rfl (fun _ _=>.inl (by simp)) z⟩|panic ch=>exact⟨_,a₁,w₁,S,.pass (x:=.inLoop c) rfl (fun _ _=>.inl (by simp)) z⟩|outgrown=>exact⟨_,a₁,w₁,S,.pass (x:=.inLoop c) rfl (fun _ _=>.inl (by simp)) z⟩
 |region rs B=>
  intro c g K t q A C H I O a w u m h;cases c<;>simp only[Ce]at g<;>first|cases g|skip
  rename_i id ops draw;simp[Bool.not_eq_true']at g;obtain⟨rfl,g⟩:=g;exact So g (fun i v J=>P0 (t i v J)) u m h fun O a w L u m=>C _ a w L u (m.pr B)
 |draw ds rs B=>
  intro c g K t q A C H I O a w u m h;cases c<;>simp only[Ce]at g<;>first|cases g|skip
  rename_i id ops draw;simp at g;obtain⟨rfl,g⟩:=g;exact hD F0 w0 p id ds ops rs B O a w q.normal A g (fun i v J=>P0 (t i v J)) u m h.1 h.2 C
 |bad=>
  intro c g K t q A C H I O a w u m h;exact h.elim
 |uN s x ih=>
  intro c g K t q A C H I O a w u m h;have hok':Ce P N D x c=true:=by
   grind [Ce]
  simp [PC.wp]at h;split at h
  .rename_i cs hs;obtain⟨G,m⟩:=m;exact ih c hok' (K.imp id fun e=>e) t q A C H I _ a w u (m.uN hs) h
  .exact h.elim
def DT:Nat->Fq->AA
 |_,[]=>[]|k,t::ts=>(k,.tv t)::DT (k+1) ts
theorem GE:∀(ts:Fq)(k n:Nat),AA.get (DT k ts) n=if k<=n then(match ts[n-k]? with|some t=>.tv t|none=>.undef)else .undef
 |[],k,n=>by simp[DT,AA.get]|t::ts,k,n=>by
  rw [DT,AA.hV,GE ts (k+1) n]
  grind
variable{ts:Fq}{n:Nat}
theorem BG.start{w:World}{F0:Nat->Nat->Prop}{vs:Array Value}(h:AI w F0 ts vs.toList)(j:TV.rI ts)(d:IU w):BG F0 (W0.mk w fun _ _=>False) (DT 0 ts) {tmps:=vs++Array.replicate n undef,defers:=[]} w:=by
 have q:=Av h;simp at q;refine⟨fun _ _=>none,by simp,by simp,⟨rfl,rfl,rfl,ca _,fun _ _ _=>rfl,fun _ _ _ _ h=>h,fun _ _ _ h=>h.elim,d,fun _ _ h=>h.elim⟩,rfl,fun s k=>?_,fun s k=>?_,fun s=>?_⟩
 .rw[GE]
  grind
 .rw[GE,az (Nat.zero_le _),Nat.sub_zero];cases d:ts[s]? with
  |none=>trivial|some t=>
   have e:s<vs.size:=by
    grind
   have hv:vs.toList[s]?=some (slot {tmps:=vs++Array.replicate n undef,defers:=[]} s):=by
    simp [slot,Array.getD_eq_getD_getElem?,Array.getElem?_append,e]
   refine BP (fun b o u l m=>⟨l,?_⟩) _ _ (((A1 _ _).1 h).2 s t _ d hv);rintro(g|⟨_,_,_,g,_⟩)
   .exact m g.2
   .cases g
 .rw[GE,az (Nat.zero_le _),Nat.sub_zero];cases d:ts[s]? with
  |none=>trivial|some t=>exact BA.1 j t (List.mem_of_getElem? d)
def KY(P:Program):ResultVar->RV->Bool
 |.tmp t,.tmp s=>t==s|.cell x t,.cell s none=>x==s&&BM P t==some false|.cell x t,.cell s (some n)=>x==s&&BM P t==some true&&Bz P t==some n|_,_=>false
def EN(P:Program):List ResultVar->List RV->Bool
 |[],[]=>true|x::xs,y::ys=>KY P x y&&EN P xs ys|_,_=>false
def Dz(tmps:Array Value):ResultVar->Sem Value
 |.tmp t=>pure (tmps.getD t undef)|.cell a t=>do loadVar t (<-asAddr (tmps.getD a undef))
variable{O:AA}{a:Act}{w:World}{G:Ay}
theorem RN(m:AK F0 w0 O a w G){x:ResultVar}{y:RV}(d:KY P x y=true){t:TV}(h:y.get O=some t):∃v,(Dz a.tmps x).run P w=.ok v w/\AS w (AN w0.heap.size F0 G) t v/\t.WF:=by
 have e:∀s,AF (.tmp s) (.s s)=true:=fun s=>by simp[AF]
 cases x with
 |tmp s=>
  cases y with
  |tmp s'=>
   simp [KY]at d;subst d;have:=Ad m (e s) (t:=t) h;exact⟨slot a s,rfl,this⟩
  |cell s' n=>cases n<;>simp[KY]at d
 |cell s ty=>
  cases y with
  |tmp _=>cases d
  |cell s' n=>
   cases n with
   |none=>
    simp [KY]at d;obtain⟨rfl,z⟩:=d;simp[RV.get]at h;split at h
    .rename_i u r o;simp at h;subst h;obtain⟨b,g,vs,A,l,B,_,C⟩:=Ko m (e s) (y:=.s s) o;simp[AI]at l;obtain⟨v,M,rfl,K,Q⟩:=l;have H:=C 0 v rfl;rw[Addr.add_zero']at H;have k:a.tmps.getD s undef=.pointer (some ⟨b,g,none⟩):=A;refine⟨v,?_,K,B.1⟩;simp[Dz,k,loadVar,Bo z,H,asAddr]
    .cases h
   |some n=>
    simp [KY]at d;obtain⟨⟨rfl,z⟩,L⟩:=d;simp[RV.get]at h;split at h
    .rename_i cs o;split at h
     .rename_i q;simp at h;subst h;obtain⟨b,g,vs,A,l,B,E,C⟩:=Ko m (e s) (y:=.s s) o;have J:=Av l;have j:=run_loadCells_list (P:=P) w ⟨b,g,none⟩ vs C;rw[J,q]at j;have k:a.tmps.getD s undef=.pointer (some ⟨b,g,none⟩):=A;refine⟨.agg vs.toArray,?_,?_,B⟩
      .simp[Dz,k,loadVar,Bo z,BS L,j,asAddr]
      .simp only[AS];exact⟨_,rfl,l,by rw[List.all_eq_true];exact fun x I=>E x I⟩
     .cases h
    .cases h
theorem E1(e:AK F0 w0 O a w G):∀{xs:List ResultVar}{d:List RV},EN P xs d=true->∀{ts:Fq},C9 O d=some ts->∃vs,(xs.mapM (Dz a.tmps)).run P w=.ok vs w/\AI w (AN w0.heap.size F0 G) ts vs/\TV.rI ts
 |[],[],_,ts,h=>by simp[C9]at h;subst h;exact⟨[],by simp,rfl,trivial⟩|[],_::_,b,_,_=>by simp[EN]at b|_::_,[],b,_,_=>by simp[EN]at b|x::xs,y::d,b,ts,h=>by
  simp [EN]at b;simp[C9]at h;split at h
  .rename_i t us g j;simp at h;subst h;obtain⟨v,k,l,m⟩:=RN e b.1 g;obtain⟨vs,o,q,s⟩:=E1 e b.2 j;exact⟨v::vs,by simp[List.mapM_cons,k,o],⟨v,vs,rfl,l,q⟩,m,s⟩
  .cases h
theorem D0{f:ResultVar->Sem Value}{xs:Array ResultVar}{vs:List Value}{w':World}(h:(xs.toList.mapM f).run P w=.ok vs w'):(xs.mapM f).run P w=.ok vs.toArray w':=by
 rw [<-Array.toArray_toList (xs:=xs),List.mapM_toArray];simp[h]
variable{F:Nat->Nat->Prop}
theorem AI.toA{vs:List Value}(h:AI w F ts vs):AI w F ts vs.toArray.toList:=by simpa using h
def Af.lone:Af->Bool
 |.own _=>true|.sZ _ _=>true|_=>false
variable{fn:Func}{r:Af}
theorem Tc(I:AK F0 w0 O a w G){m:List RV}(k:EN P fn.results.toList m=true)(Q:(∀b o,¬w0.E b o)\/r.lone=false)(K:r.plain=true)(h:Bf m r O):
  ∃v,(results fn a.tmps).run P w=.ok v w/\((∀b o,¬w0.E b o)->CJ w (fun b o=>b<w0.heap.size/\F0 b o) w0.heap.size r v)/\(r.lone=false->ZS w (fun b o=>b<w0.heap.size/\F0 b o) (fun b lo=>w0.heap.size<=b\/∀o,lo<=o->w0.E b o) r v)/\r.WF:=by
 have H:∀ts,C9 O m=some ts->∃vs:List Value,(fn.results.mapM (Dz a.tmps)).run P w=.ok vs.toArray w/\AI w (AN w0.heap.size F0 G) ts vs/\TV.rI ts:=by
  grind [E1,D0]
 have l:(results fn a.tmps)=(fn.results.mapM (Dz a.tmps)>>=fun vs=>pure (if h:vs.size=1 then vs[0]else .tuple vs)):=by
  unfold results;congr 1
 have M:A3 w w (AN w0.heap.size F0 G) (fun b o=>b<w0.heap.size/\F0 b o):=fun b o u V W=>⟨V,fun hF'=>W (.inl hF')⟩;cases r with
 |sh t=>
  have A:∃x,m=[x]/\x.get O=some t:=by
   rcases m with _|⟨x,_|⟨y,m⟩⟩<;>simp[Bf]at h;exact⟨x,rfl,h⟩
  obtain ⟨x,rfl,hx⟩:=A;obtain⟨vs,e1,L,e3⟩:=H [t] (by simp[C9,hx]);simp only[AI]at L;obtain⟨v,r',rfl,e4,rfl⟩:=L;refine⟨v,?_,fun _=>BP M _ _ e4,fun _=>BP M _ _ e4,e3.1⟩;rw[l];simp[e1]
 |own t=>
  have A:∃s,m=[.tmp s]/\O.get s=.ow t:=by
   rcases m with _|⟨x,_|⟨y,m⟩⟩
   .simp[Bf]at h
   .cases x<;>simp[Bf]at h;exact⟨_,rfl,h⟩
   .simp[Bf]at h
  obtain ⟨s,rfl,J⟩:=A;obtain⟨vs,e1,L,e3⟩:=H [t] (by simp[C9,RV.get,J,EV.val]);have hr:KY P (.tmp s) (.tmp s)=true:=by simp[KY]
  have B:=AR I J (by simp);have C:=I.wf s;rw[J]at C;simp[AG]at B;have z:fn.results.toList=[.tmp s]:=by
   rcases hx:fn.results.toList with _|⟨x,_|⟨y,xs⟩⟩<;>rw[hx]at k
   .simp[EN]at k
   .cases x<;>simp[EN,KY]at k;rw[k]
   .simp[EN]at k
  have hv:(results fn a.tmps).run P w=.ok (slot a s) w:=by
   rw [l];have hm:(fn.results.mapM (Dz a.tmps)).run P w=.ok [slot a s].toArray w:=by
    refine D0 ?_;rw[z];simp[List.mapM_cons,Dz,slot]
   simp [hm]
  replace Q:=Q.resolve_right (by simp[Af.lone]);refine⟨slot a s,hv,fun _=>⟨G s none,B.kept (fun b o u V W=>⟨V,?_⟩) (fun _ _ _=>rfl),fun b lo X=>?_⟩,fun e=>by simp[Af.lone]at e,C⟩
  .rintro(A|⟨lo,A,Y⟩)
   .exact W (.inl A)
   .exact W (.inr ⟨s,none,lo,A,Y⟩)
  .have:=I.lt _ _ _ _ X;exact⟨this.2.resolve_right (fun e=>Q _ _ (e _ (ca _))),this.1⟩
 |tp ts=>
  simp [Bf]at h;have hne:m.length≠1:=by
   grind
  have Y:C9 O m=some ts:=by
   grind
  obtain ⟨vs,e1,L,e3⟩:=H ts Y;have hlen:vs.length≠1:=by
   rw [Av L];have:∀(m:List RV)(ts:Fq),C9 O m=some ts->ts.length=m.length:=by
    intro m
    induction m with
    |nil=>intro ts h;simp[C9]at h;subst h;rfl|cons y m ih=>
     grind [C9,rC]
   grind
  refine ⟨.tuple vs.toArray,?_,fun _=>⟨vs.toArray,rfl,(AX M _ _ L).toA⟩,fun _=>⟨vs.toArray,rfl,(AX M _ _ L).toA⟩,e3⟩;rw[l];simp[e1,hlen]
 |sZ n es=>
  have A:∃s,m=[.tmp s]/\O.get s=.xo n es:=by
   rcases m with _|⟨x,_|⟨y,m⟩⟩
   .simp[Bf]at h
   .cases x<;>simp[Bf]at h;exact⟨_,rfl,h⟩
   .simp[Bf]at h
  obtain ⟨s,rfl,J⟩:=A;have B:=AR I J (by simp);have C:=I.wf s;rw[J]at C;simp[AG]at B;obtain⟨xs,⟨z0,k1,k2⟩,k3,k4,k5⟩:=B;have z:fn.results.toList=[.tmp s]:=by
   rcases hx:fn.results.toList with _|⟨x,_|⟨y,xs⟩⟩<;>rw[hx]at k
   .simp[EN]at k
   .cases x<;>simp[EN,KY]at k;rw[k]
   .simp[EN]at k
  have hv:(results fn a.tmps).run P w=.ok (slot a s) w:=by
   rw [l];have hm:(fn.results.mapM (Dz a.tmps)).run P w=.ok [slot a s].toArray w:=by
    refine D0 ?_;rw[z];simp[List.mapM_cons,Dz,slot]
   simp [hm]
  replace Q:=Q.resolve_right (by simp[Af.lone]);refine⟨slot a s,hv,fun _=>⟨z0,xs,k1,AX (fun b o u V hf=>⟨V,fun hf'=>hf ?_⟩) _ _ k3,k4,k5,fun b lo X=>?_⟩,fun e=>by simp[Af.lone]at e,C⟩
  .rcases hf' with h6|⟨lo,h6⟩
   .exact .inl h6
   .exact .inr ⟨s,none,0,by rw[k2,h6];rfl,Nat.zero_le _⟩
  .have:=I.lt s none b 0 (by rw[k2,X];rfl);exact⟨this.2.resolve_right (fun e=>Q _ _ (e _ (ca _))),this.1⟩
 |turn zs=>exact h.elim|cut zs=>exact h.elim|mpr _ _=>cases K
 |ag _ _ _=>cases K
 |bo _ _ _ _=>cases K
 |ext _=>cases K
 |sq cs=>
  have A:∃s n,m=[.cell s (some n)]/\O.get s=.bx cs/\cs.length=n:=by
   rcases m with _|⟨x,_|⟨y,m⟩⟩
   .simp[Bf]at h
   .rcases x with s|⟨s,_|n⟩
    .simp[Bf]at h
    .simp[Bf]at h
    .exact⟨s,n,rfl,h⟩
   grind [Bf]
  obtain ⟨s,n,rfl,J,hn⟩:=A;have hbx:=AR I J (by simp);have C:=I.wf s;rw[J]at C;simp only[AG]at hbx;obtain⟨b,c,T,k1,k2,k3,k4,k5⟩:=hbx;have z:∃ty,fn.results.toList=[.cell s ty]/\BM P ty=some true/\Bz P ty=some n:=by
   rcases hx:fn.results.toList with _|⟨x,_|⟨y,xs⟩⟩<;>rw[hx]at k
   .simp[EN]at k
   .cases x<;>simp[EN,KY]at k;obtain⟨⟨rfl,A⟩,Y⟩:=k;exact⟨_,rfl,A,Y⟩
   .simp[EN]at k
  obtain ⟨ty,z,hag',hcn⟩:=z;have hv:(results fn a.tmps).run P w=.ok (.agg c) w:=by
   rw [l];have S:=run_loadCells_list (P:=P) w ⟨b,0,none⟩ c.toList (fun j v hv=>by
    have:=cell_of_row w b j c T (0,0) k2;rw[show((⟨b,0,none⟩:Addr).add j)=⟨b,j,none⟩by simp[Addr.add];omega,this];simpa using hv)
   rw [Array.length_toList,k3,hn]at S;have h1':a.tmps.getD s undef=.pointer (some ⟨b,0,none⟩):=k1;have hm:(fn.results.mapM (Dz a.tmps)).run P w=.ok [.agg c].toArray w:=by
    refine D0 ?_;rw[z];simp[List.mapM_cons,Dz,h1',loadVar,Bo hag',BS hcn,S,asAddr]
   simp [hm]
  have hsz:s<a.tmps.size:=A5 I J (by simp)
  let Z:CP:=fun q i=>if q=0/\i=none then none else BC a G s q i
  have hZ:∀{q i b lo},Z q i=some (b,lo)->BC a G s q i=some (b,lo):=by
   intro q i b lo R;simp only[Z]at R;split at R
   .cases R
   .exact R
  have U:∀N:Nat->Nat->Prop,(∀b lo,b<w.heap.size->(w0.heap.size<=b\/∀o,lo<=o->w0.E b o)->N b lo)->Rr w (fun b o=>b<w0.heap.size/\F0 b o) N cs (.agg c):=by
   intro N hN;refine⟨Z,⟨c,rfl,k3,fun i d hd=>?_⟩,fun q i q' i' b lo lo' e1 L=>F8 I hsz _ _ _ _ _ _ _ (hZ e1) (hZ L),by simp[Z],fun q i b lo R=>?_⟩
   .obtain⟨x,j1,j2⟩:=k5 i d hd;have hz0:Z 0 (some i)=G s (some i):=by simp[Z,CG]
    refine ⟨x,j1,?_,ET j2⟩;rw[hz0];refine As.rO (j2.kept (fun b o u V W=>⟨V,?_⟩) (fun _ _ _=>rfl) Au.rfl') (fun g lo j R=>?_)
    .rintro(A|⟨q,j,lo,A,Y⟩)
     .exact W (.inl A)
     .obtain⟨p,j',f1,_⟩:=BY (hZ A);exact W (.inr ⟨p,j',lo,f1,Y⟩)
    .simp only[CP.rO,Z];rw[bk (by omega)];exact JF R j
   .obtain⟨p,j',f1,_⟩:=BY (hZ R);have:=I.lt _ _ _ _ f1;exact⟨this.1,hN _ _ this.1 this.2⟩
  refine ⟨.agg c,hv,fun Q=>U _ fun b lo _ X=>X.resolve_right (fun e=>Q _ _ (e _ (ca _))),fun _=>U _ fun b lo _ X=>X,C⟩
variable{f:FuncId}{c:Code}{pl:PC}{rv:List RV}
theorem SD(hD:IA P fn.ntmps D)(hf:P.funcs[f]? =some fn)(hb:fn.body=some c)(hname:fn.name≠ "runtime.NumGoroutine")(hok:Ce P fn.ntmps D pl c=true)(hrv:EN P fn.results.toList rv=true)
  {args:Fq}(hn:args.length<=fn.ntmps)(hp:r.plain=true)(h:TV.rI args->pl.wp (AH P) ⟨Bf rv r,fun _ _=>False,Bf rv r⟩ (DT 0 args)):AH P f args r:=by
 refine AH.vg ?_ hp;intro hw;refine⟨by simp[Ca,hf,hb,hname],fun F0 w vs hrep ht=>?_⟩;have hl:=Av hrep;simp at hl;have hcalls:Calls P f vs w fun e w'=>(∃v,e=.returned v/\Below w.heap.size w w'/\CJ w' (fun b o=>b<w.heap.size/\F0 b o) w.heap.size r v)/\r.WF:=by
  refine calls_of_wp hf hb ?_;have fin:∀(O:AA)(a:Act)(w':World),Bf rv r O->Hj fn.ntmps none a->BG F0 (W0.mk w fun _ _=>False) O a w'->a.defers=[]/\∃v,(results fn a.tmps).run P w'=.ok v w'/\((∃v',Ending.returned v=.returned v'/\Below w.heap.size w w'/\CJ w' (fun b o=>b<w.heap.size/\F0 b o) w.heap.size r v')/\r.WF):=by
   intro O a w' hr hN ⟨G,hI⟩;obtain⟨v,e1,e2,_,e3⟩:=Tc (P:=P) hI hrv (.inl fun _ _ h=>h) hp hr;exact⟨hI.defers,v,e1,⟨v,rfl,⟨hI.below.os,hI.below.tape,hI.below.output,hI.below.size,fun k hk=>hI.below.block k hk (fun _ h=>h)⟩,e2 fun _ _ h=>h⟩,e3⟩
  refine J2 (p:=none) hD pl c hok (.inl fun _ _ h=>h) (by simp) _ _ ?_ ?_ ?_ _ _ w ?_ (BG.start hrep hw ht) (h hw)
  .exact fun O a w' h1 h2 h3=>fin O a w' h1 h2 h3
  .grind
  .exact fun O a w' h1 h2 h3=>fin O a w' h1 h2 h3
  .exact⟨by simp;omega,by simp⟩
 refine ⟨?_,hcalls.mono fun e w' h=>h.1⟩;obtain⟨_,_,_,h1,_⟩:=hcalls [];exact h1.2
def OK(i m:Nat)(Z:CP):Ay:=fun s=>if s=i then Z 0 else if m<=s then(fun j=>match j with|some j=>Z (s-m+1) (some j)|none=>none)else fun _=>none
variable{Z:CP}
theorem Tg{i m:Nat}{p:Nat}{j:Option Nat}{b lo:Nat}(h:OK i m Z p j=some (b,lo)):(p=i/\Z 0 j=some (b,lo))\/(p≠i/\m<=p/\Z (p-m+1) j=some (b,lo)):=by
 simp [OK]at h
 grind
variable{i:Nat}{v:Value}
theorem BG.startZ{w:World}{F0:Nat->Nat->Prop}{vs:Array Value}{e:EV}(h:AI w (fun b o=>F0 b o\/ZF Z b o) ts vs.toList)(Q:TV.rI ts)(C:e.WF)
  (hi:vs[i]?=some v)(E:GB Z)(H:∀q i b lo,Z q i=some (b,lo)->b<w.heap.size)(I:∀b o S,ZF Z b o->¬F0 b S)(d:Rv w (ZF Z))
  (R:∀a:Act,slot a i=v->∀G:Ay,G i=Z 0->rO a G=Z.rO->∀L,A3 w w (fun b o=>F0 b o\/ZF Z b o) L->AG a w L G ((i,e)::DT 0 ts) i e v):
  BG F0 (W0.mk w (ZF Z)) ((i,e)::DT 0 ts) {tmps:=vs++Array.replicate n undef,defers:=[]} w:=by
 have X:=Av h;simp at X;have l:i<vs.size:=(Array.getElem?_eq_some_iff.1 hi).1
 let G:Ay:=OK i (vs.size+n) Z
 have A:∀p j b lo,G p j=some (b,lo)->∃q,Z q j=some (b,lo)/\((p=i/\q=0)\/(p≠i/\q=p-(vs.size+n)+1/\vs.size+n<=p)):=by
  intro p j b lo W;rcases Tg W with⟨z,K⟩|⟨z,K,M⟩
  .grind
  grind
 have m:A3 w w (fun b o=>F0 b o\/ZF Z b o) (AN w.heap.size F0 G):=by
  refine fun b o u T hf=>⟨T,?_⟩;rintro(⟨_,z⟩|⟨p,j,lo,z,K⟩)
  .exact hf (.inl z)
  .obtain⟨q,M,_⟩:=A _ _ _ _ z;exact hf (.inr ⟨q,j,lo,M,K⟩)
 have x:∀s(k:s<vs.size),slot {tmps:=vs++Array.replicate n undef,defers:=[]} s=vs[s]:=by
  intro s k;simp[slot,Array.getD_eq_getD_getElem?,Array.getElem?_append,k]
 refine ⟨G,fun p j p' j' b lo U J V=>?_,fun p j b lo J=>?_,⟨rfl,rfl,rfl,ca _,fun _ _ _=>rfl,fun _ _ _ _ h=>h,I,d⟩,rfl,fun s k=>?_,fun s k=>?_,fun s=>?_⟩
 .obtain⟨q,B,f2⟩:=A _ _ _ _ J;obtain⟨q',f3,f4⟩:=A _ _ _ _ V;have:=E _ _ _ _ _ _ _ B f3;exact⟨by omega,this.2⟩
 .obtain⟨q,B,_⟩:=A _ _ _ _ J;exact⟨H _ _ _ _ B,.inr fun o ho=>⟨q,j,lo,B,ho⟩⟩
 .simp at k;rw[AA.hV,bk (by omega),GE,az (Nat.zero_le _),List.getElem?_eq_none (by omega)]
 .rw[AA.hV];by_cases y:i=s
  .subst y;rw[az rfl,x i l];have hv:vs[i]=v:=by
    grind
   rw [hv];refine R _ (by rw[x i l,hv]) G (by simp[G,OK]) ?_ _ m;funext g j;simp only[rO,G,OK,Array.size_append,Array.size_replicate,CP.rO];rw[bk (by omega),az (by omega)];show Z (vs.size+n+g-(vs.size+n)+1) (some j)=Z (g+1) (some j);rw[Nat.add_sub_cancel_left]
  .rw[bk y,GE,az (Nat.zero_le _),Nat.sub_zero];cases d:ts[s]? with
   |none=>trivial|some t=>
    have Y:s<vs.size:=by
     grind
    have hv:vs.toList[s]?=some (slot {tmps:=vs++Array.replicate n undef,defers:=[]} s):=by
     grind
    exact BP m _ _ (((A1 _ _).1 h).2 s t _ d hv)
 .rw[AA.hV];split
  .exact C
  .rw[GE,az (Nat.zero_le _),Nat.sub_zero];cases d:ts[s]? with
   |none=>trivial|some t=>exact BA.1 Q t (List.mem_of_getElem? d)
theorem BG.startB{w:World}{F0:Nat->Nat->Prop}{vs:Array Value}{cs:List AJ}(h:AI w (fun b o=>F0 b o\/ZF Z b o) ts vs.toList)(y:TV.rI ts)(g:∀c∈cs,c.t.WF)
  (hi:vs[i]?=some v)(z:IS w (fun b o=>F0 b o\/ZF Z b o) Z cs v)(k:GB Z)(l:∀q i b lo,Z q i=some (b,lo)->b<w.heap.size)(m:∀b o B,ZF Z b o->¬F0 b B)(A:Rv w (ZF Z)):
  BG F0 (W0.mk w (ZF Z)) ((i,.bx cs)::DT 0 ts) {tmps:=vs++Array.replicate n undef,defers:=[]} w:=by
 refine BG.startZ (e:=.bx cs) h y g hi k l m A fun a R G u C S s=>?_;obtain⟨b,c,T,H,I,J,K,L⟩:=z;simp only[AG];refine⟨b,c,T,H,I,J,by rw[u];exact K,fun j d E=>?_⟩;obtain⟨x,M,Q⟩:=L j d E;refine⟨x,M,?_⟩;rw[u,C];exact Q.kept s (fun _ _ _=>rfl) Au.rfl'
variable{us:Fq}
theorem WD(hD:IA P fn.ntmps D)(hf:P.funcs[f]? =some fn)(hb:fn.body=some c)(hname:fn.name≠ "runtime.NumGoroutine")(hok:Ce P fn.ntmps D pl c=true)(hrv:EN P fn.results.toList rv=true)
  {args:Fq}(hn:args.length<=fn.ntmps){cs cs':List AJ}(hcl:pl.rQ=true)(hdst:pl.rM i=true)(h:TV.rI args->(∀c∈cs,c.t.WF)->pl.wp (AH P) ⟨Bf rv (.bo cs cs' i us),fun _ _=>False,Bf rv (.bo cs cs' i us)⟩ ((i,.bx cs)::DT 0 args)):AH P f args (.bo cs cs' i us):=by
 intro hw hwc;refine⟨by simp[Ca,hf,hb,hname],fun F0 w vs v Z hrep hvi hbox hzu hzl hfree ht=>?_⟩;have hl:=Av hrep;simp at hl;have hcalls:Calls P f vs w fun e w'=>((∀c∈cs',c.t.WF)/\TV.rI us)/\∃r Z',e=.returned r/\FB Z w w'/\IS w' (fun b o=>(b<w.heap.size/\F0 b o)\/ZF Z' b o) Z' cs' v/\
   GB Z'/\(∀q i b lo,Z' q i=some (b,lo)->b<w'.heap.size/\(w.heap.size<=b\/∃p j lo',Z p j=some (b,lo')/\lo'<=lo))/\
   L5 w' (fun b o=>(b<w.heap.size/\F0 b o)\/ZF Z' b o) us r:=by
  refine calls_of_wp hf hb ?_;have fin:∀(O:AA)(a:Act)(w':World),Bf rv (.bo cs cs' i us) O->Hj fn.ntmps (some (i,v)) a->BG F0 (W0.mk w (ZF Z)) O a w'->a.defers=[]/\∃r,(results fn a.tmps).run P w'=.ok r w'/\(((∀c∈cs',c.t.WF)/\TV.rI us)/\∃r' Z',Ending.returned r=.returned r'/\FB Z w w'/\IS w' (fun b o=>(b<w.heap.size/\F0 b o)\/ZF Z' b o) Z' cs' v/\
    GB Z'/\(∀q i b lo,Z' q i=some (b,lo)->b<w'.heap.size/\(w.heap.size<=b\/∃p j lo',Z p j=some (b,lo')/\lo'<=lo))/\
    L5 w' (fun b o=>(b<w.heap.size/\F0 b o)\/ZF Z' b o) us r'):=by
   rintro O a w' ⟨hs,hr⟩ hN ⟨G,hI⟩;have hag:A3 w' w' (AN w.heap.size F0 G) (fun b o=>(b<w.heap.size/\F0 b o)\/ZF (BC a G i) b o):=by
    refine fun b o u hc hF=>⟨hc,?_⟩;rintro(h1|⟨q,j,lo,h1,h2⟩)
    .exact hF (.inl h1)
    .obtain⟨p,j',f1,_⟩:=BY h1;exact hF (.inr ⟨p,j',lo,f1,h2⟩)
   have hisz:i<a.tmps.size:=A5 hI hs (by simp);have hbx:=AR hI hs (by simp);have hwb:=hI.wf i;rw[hs]at hwb;rw[hN.pin i v rfl]at hbx;simp only[AG]at hbx;obtain⟨b,c,T,k1,k2,k3,k4,k5⟩:=hbx;obtain⟨vs',e1,e2,e3⟩:=E1 (P:=P) hI hrv hr;have hm:=D0 e1;have hshape:(results fn a.tmps)=(fn.results.mapM (Dz a.tmps)>>=fun vs=>pure (if h:vs.size=1 then vs[0]else .tuple vs)):=by
    unfold results;congr 1
   have hlen:=Av e2;have hres:∃r,(results fn a.tmps).run P w'=.ok r w'/\L5 w' (AN w.heap.size F0 G) us r:=by
    rw [hshape];by_cases h1:vs'.length=1
    .obtain⟨x,rfl⟩:=List.length_eq_one_iff.1 h1;rcases us with _|⟨t,_|⟨t',us⟩⟩
     .simp at hlen
     .simp only[AI]at e2;obtain⟨v',r',hv',e4,rfl⟩:=e2;simp at hv';subst hv';exact⟨x,by simp[hm],e4⟩
     .simp at hlen
    .refine⟨.tuple vs'.toArray,by simp[hm,h1],?_⟩;rcases us with _|⟨t,_|⟨t',us⟩⟩
     .exact⟨_,rfl,e2.toA⟩
     .grind
     .exact⟨_,rfl,e2.toA⟩
   obtain ⟨r,hr1,hr2⟩:=hres;refine⟨hI.defers,r,hr1,⟨hwb,e3⟩,r,BC a G i,rfl,?_,⟨b,c,T,k1,k2,k3,by rw[CG];exact k4,fun j d hj=>?_⟩,F8 hI hisz,fun q j b lo f1=>?_,?_⟩
   .exact⟨hI.below.os,hI.below.tape,hI.below.output,hI.below.size,fun k hk hz=>hI.below.block k hk (fun o⟨q,j,lo,f1,_⟩=>hz q j lo f1),fun b o u hz hu=>hI.below.cell b o u hz hu⟩
   .obtain⟨x,f1,f2⟩:=k5 j d hj;refine⟨x,f1,?_⟩;rw[CG];exact As.rO (f2.kept hag (fun _ _ _=>rfl) Au.rfl') fun g lo j' hz=>JF hz j'
   .obtain⟨p,j',g1,_⟩:=BY f1;obtain⟨f2,f3⟩:=hI.lt _ _ _ _ g1;refine⟨f2,f3.imp id (fun e=>?_)⟩;exact e lo (ca _)
   .rcases us with _|⟨t,_|⟨t',us⟩⟩
    .obtain⟨vs2,f1,f2⟩:=hr2;exact⟨vs2,f1,AX hag _ _ f2⟩
    .exact BP hag _ _ hr2
    .obtain⟨vs2,f1,f2⟩:=hr2;exact⟨vs2,f1,AX hag _ _ f2⟩
  refine J2 (p:=some (i,v)) hD pl c hok (.inr hcl) (fun j u hp=>by cases hp;exact hdst) _ _ ?_ ?_ ?_ _ _ w ?_ (BG.startB hrep hw hwc hvi hbox hzu hzl hfree ht) (h hw hwc)
  .exact fun O a w' h1 h2 h3=>fin O a w' h1 h2 h3
  .exact fun i O a w' h1 _ _=>h1.elim
  .exact fun O a w' h1 h2 h3=>fin O a w' h1 h2 h3
  .have hil:i<vs.size:=(Array.getElem?_eq_some_iff.1 hvi).1;refine⟨by simp;omega,fun j u hp=>?_⟩;cases hp;have:=Array.getElem?_eq_getElem hil;rw[this]at hvi;simp at hvi;simp[slot,Array.getD_eq_getD_getElem?,Array.getElem?_append,hil,hvi]
 refine ⟨?_,hcalls.mono fun e w' h=>h.2⟩;obtain⟨_,_,_,h1,_⟩:=hcalls [];exact h1.1
def Wk(cs'' cs':List AJ):Prop:=cs''.length=cs'.length/\∀(i:Nat)(d:AJ),cs'[i]?=some d->∃d',cs''[i]?=some d'/\(d=d'\/d=⟨false,.undef⟩)
theorem Wk.wf{b cs':List AJ}(h:Wk b cs')(e:∀c∈b,c.t.WF):∀c∈cs',c.t.WF:=by
 intro c d;obtain⟨i,hi⟩:=List.getElem?_of_mem d;obtain⟨g,j,rfl|rfl⟩:=h.2 i c hi
 .grind
 .exact trivial
theorem Wk.cell{w:World}{ρ:E9}{z:Option (Nat×Nat)}{x:Value}{d b:AJ}(h:d=b\/d=⟨false,.undef⟩)(e:As w F ρ z b x):As w F ρ z d x:=by
 rcases h with rfl|rfl
 .exact e
 .have:x.oneCell'=true:=by
   obtain ⟨o,t⟩:=b;cases o with
   |true=>exact I6 e|false=>exact e.2
  exact ⟨by simp[AS];exact this,this⟩
def Sw(rv:List RV)(cs cs':List AJ)(i:Nat)(us:Fq)(O:AA):Prop:=∃cs'',Wk cs'' cs'/\Bf rv (.bo cs cs'' i us) O
theorem Us(hD:IA P fn.ntmps D)(hf:P.funcs[f]? =some fn)(hb:fn.body=some c)(hname:fn.name≠ "runtime.NumGoroutine")(hok:Ce P fn.ntmps D pl c=true)(hrv:EN P fn.results.toList rv=true)
  {args:Fq}(hn:args.length<=fn.ntmps){cs cs':List AJ}(hcl:pl.rQ=true)(hdst:pl.rM i=true)(h:TV.rI args->(∀c∈cs,c.t.WF)->pl.wp (AH P) ⟨Sw rv cs cs' i us,fun _ _=>False,Sw rv cs cs' i us⟩ ((i,.bx cs)::DT 0 args)):AH P f args (.bo cs cs' i us):=by
 intro hw hwc;refine⟨by simp[Ca,hf,hb,hname],fun F0 w vs v Z hrep hvi hbox hzu hzl hfree ht=>?_⟩;have hl:=Av hrep;simp at hl;have hcalls:Calls P f vs w fun e w'=>((∀c∈cs',c.t.WF)/\TV.rI us)/\∃r Z',e=.returned r/\FB Z w w'/\IS w' (fun b o=>(b<w.heap.size/\F0 b o)\/ZF Z' b o) Z' cs' v/\
   GB Z'/\(∀q i b lo,Z' q i=some (b,lo)->b<w'.heap.size/\(w.heap.size<=b\/∃p j lo',Z p j=some (b,lo')/\lo'<=lo))/\
   L5 w' (fun b o=>(b<w.heap.size/\F0 b o)\/ZF Z' b o) us r:=by
  refine calls_of_wp hf hb ?_;have fin:∀(O:AA)(a:Act)(w':World),Sw rv cs cs' i us O->Hj fn.ntmps (some (i,v)) a->BG F0 (W0.mk w (ZF Z)) O a w'->a.defers=[]/\∃r,(results fn a.tmps).run P w'=.ok r w'/\(((∀c∈cs',c.t.WF)/\TV.rI us)/\∃r' Z',Ending.returned r=.returned r'/\FB Z w w'/\IS w' (fun b o=>(b<w.heap.size/\F0 b o)\/ZF Z' b o) Z' cs' v/\
    GB Z'/\(∀q i b lo,Z' q i=some (b,lo)->b<w'.heap.size/\(w.heap.size<=b\/∃p j lo',Z p j=some (b,lo')/\lo'<=lo))/\
    L5 w' (fun b o=>(b<w.heap.size/\F0 b o)\/ZF Z' b o) us r'):=by
   rintro O a w' ⟨cs'',hwk,hs,hr⟩ hN ⟨G,hI⟩;have hag:A3 w' w' (AN w.heap.size F0 G) (fun b o=>(b<w.heap.size/\F0 b o)\/ZF (BC a G i) b o):=by
    refine fun b o u hc hF=>⟨hc,?_⟩;rintro(h1|⟨q,j,lo,h1,h2⟩)
    .exact hF (.inl h1)
    .obtain⟨p,j',f1,_⟩:=BY h1;exact hF (.inr ⟨p,j',lo,f1,h2⟩)
   have hisz:i<a.tmps.size:=A5 hI hs (by simp);have hbx:=AR hI hs (by simp);have hwb:=hI.wf i;rw[hs]at hwb;rw[hN.pin i v rfl]at hbx;simp only[AG]at hbx;obtain⟨b,c,T,k1,k2,k3,k4,k5⟩:=hbx;obtain⟨vs',e1,e2,e3⟩:=E1 (P:=P) hI hrv hr;have hm:=D0 e1;have hshape:(results fn a.tmps)=(fn.results.mapM (Dz a.tmps)>>=fun vs=>pure (if h:vs.size=1 then vs[0]else .tuple vs)):=by
    unfold results;congr 1
   have hlen:=Av e2;have hres:∃r,(results fn a.tmps).run P w'=.ok r w'/\L5 w' (AN w.heap.size F0 G) us r:=by
    rw [hshape];by_cases h1:vs'.length=1
    .obtain⟨x,rfl⟩:=List.length_eq_one_iff.1 h1;rcases us with _|⟨t,_|⟨t',us⟩⟩
     .simp at hlen
     .simp only[AI]at e2;obtain⟨v',r',hv',e4,rfl⟩:=e2;simp at hv';subst hv';exact⟨x,by simp[hm],e4⟩
     .simp at hlen
    .refine⟨.tuple vs'.toArray,by simp[hm,h1],?_⟩;rcases us with _|⟨t,_|⟨t',us⟩⟩
     .exact⟨_,rfl,e2.toA⟩
     .grind
     .exact⟨_,rfl,e2.toA⟩
   obtain ⟨r,hr1,hr2⟩:=hres;refine⟨hI.defers,r,hr1,⟨hwk.wf hwb,e3⟩,r,BC a G i,rfl,?_,⟨b,c,T,k1,k2,k3.trans hwk.1,by rw[CG];exact k4,fun j d hj=>?_⟩,F8 hI hisz,fun q j b lo f1=>?_,?_⟩
   .exact⟨hI.below.os,hI.below.tape,hI.below.output,hI.below.size,fun k hk hz=>hI.below.block k hk (fun o⟨q,j,lo,f1,_⟩=>hz q j lo f1),fun b o u hz hu=>hI.below.cell b o u hz hu⟩
   .obtain⟨d',hd',hdd⟩:=hwk.2 j d hj;obtain⟨x,f1,f2⟩:=k5 j d' hd';refine⟨x,f1,Wk.cell hdd ?_⟩;rw[CG];exact As.rO (f2.kept hag (fun _ _ _=>rfl) Au.rfl') fun g lo j' hz=>JF hz j'
   .obtain⟨p,j',g1,_⟩:=BY f1;obtain⟨f2,f3⟩:=hI.lt _ _ _ _ g1;refine⟨f2,f3.imp id (fun e=>?_)⟩;exact e lo (ca _)
   .rcases us with _|⟨t,_|⟨t',us⟩⟩
    .obtain⟨vs2,f1,f2⟩:=hr2;exact⟨vs2,f1,AX hag _ _ f2⟩
    .exact BP hag _ _ hr2
    .obtain⟨vs2,f1,f2⟩:=hr2;exact⟨vs2,f1,AX hag _ _ f2⟩
  refine J2 (p:=some (i,v)) hD pl c hok (.inr hcl) (fun j u hp=>by cases hp;exact hdst) _ _ ?_ ?_ ?_ _ _ w ?_ (BG.startB hrep hw hwc hvi hbox hzu hzl hfree ht) (h hw hwc)
  .exact fun O a w' h1 h2 h3=>fin O a w' h1 h2 h3
  .exact fun i O a w' h1 _ _=>h1.elim
  .exact fun O a w' h1 h2 h3=>fin O a w' h1 h2 h3
  .have hil:i<vs.size:=(Array.getElem?_eq_some_iff.1 hvi).1;refine⟨by simp;omega,fun j u hp=>?_⟩;cases hp;have:=Array.getElem?_eq_getElem hil;rw[this]at hvi;simp at hvi;simp[slot,Array.getD_eq_getD_getElem?,Array.getElem?_append,hil,hvi]
 refine ⟨?_,hcalls.mono fun e w' h=>h.2⟩;obtain⟨_,_,_,h1,_⟩:=hcalls [];exact h1.1
theorem WE(hD:IA P fn.ntmps D)(hf:P.funcs[f]? =some fn)(hb:fn.body=some c)(hname:fn.name≠ "runtime.NumGoroutine")(hok:Ce P fn.ntmps D pl c=true)(hrv:EN P fn.results.toList rv=true)
  {args:Fq}(hn:args.length<=fn.ntmps){kvs:Bb}(h:TV.rI args->pl.wp (AH P) ⟨Bf rv (.mpr kvs ts),fun _ _=>False,Bf rv (.mpr kvs ts)⟩ (DT 0 args)):AH P f args (.mpr kvs ts):=by
 intro hw;refine⟨by simp[Ca,hf,hb,hname],fun F0 w vs hrep ht=>?_⟩;have hl:=Av hrep;simp at hl;have hcalls:Calls P f vs w fun e w'=>(∃v,e=.returned v/\Below w.heap.size w w'/\CJ w' (fun b o=>b<w.heap.size/\F0 b o) w.heap.size (.mpr kvs ts) v)/\(Af.mpr kvs ts).WF:=by
  refine calls_of_wp hf hb ?_;have fin:∀(O:AA)(a:Act)(w':World),Bf rv (.mpr kvs ts) O->Hj fn.ntmps none a->BG F0 (W0.mk w fun _ _=>False) O a w'->a.defers=[]/\∃v,(results fn a.tmps).run P w'=.ok v w'/\((∃v',Ending.returned v=.returned v'/\Below w.heap.size w w'/\CJ w' (fun b o=>b<w.heap.size/\F0 b o) w.heap.size (.mpr kvs ts) v')/\(Af.mpr kvs ts).WF):=by
   intro O a w' hr hN ⟨G,hI⟩;rcases rv with _|⟨⟨s⟩|⟨s,_⟩,rs⟩
   .exact hr.elim
   .obtain⟨hne,⟨b,o,h1,h2⟩,h3⟩:=hr;have hg:C9 O (.tmp s::rs)=some (.sK b::ts):=by simp[C9,RV.get,h1,EV.val,h3]
    obtain ⟨us,e1,e2,e3⟩:=E1 (P:=P) hI hrv hg;have hm:=D0 e1;have hshape:(results fn a.tmps)=(fn.results.mapM (Dz a.tmps)>>=fun vs=>pure (if h:vs.size=1 then vs[0]else .tuple vs)):=by
     unfold results;congr 1
    simp [AI]at e2;obtain⟨v0,us',rfl,e4,e5⟩:=e2;simp[AS]at e4;subst e4;have hor:=AR hI h2 (by simp);have how:=hI.wf o;rw[h2]at how;simp[AG]at hor;obtain⟨k1,k2,k3⟩:=hor;have hlt:=hI.lt _ _ _ _ k2;have hus:us'.length≠0:=by
     have h6:=Av e5;have:ts.length=rs.length:=by
      have:∀(ys:List RV)(ts:Fq),C9 O ys=some ts->ts.length=ys.length:=by
       intro ys
       induction ys with
       |nil=>intro ts h;simp[C9]at h;subst h;rfl|cons y ys ih=>
        grind [C9,rC]
      exact this _ _ h3
     grind
    have hag:A3 w' w' (AN w.heap.size F0 G) (fun b o=>b<w.heap.size/\F0 b o):=fun b o u hc hF=>⟨hc,fun hF'=>hF (.inl hF')⟩;refine⟨hI.defers,.tuple (Value.map (some b)::us').toArray,?_,⟨_,rfl,⟨hI.below.os,hI.below.tape,hI.below.output,hI.below.size,fun k hk=>hI.below.block k hk (fun _ h=>h)⟩,b,us',rfl,hlt.2.resolve_right (fun e=>e _ (ca _)),hlt.1,k3,AX hag _ _ e5⟩,how,e3.2⟩;rw[hshape];have:¬us'.length=0:=hus;simp[hm,this]
   .exact hr.elim
  refine J2 (p:=none) hD pl c hok (.inl fun _ _ h=>h) (by simp) _ _ ?_ ?_ ?_ _ _ w ?_ (BG.start hrep hw ht) (h hw)
  .exact fun O a w' h1 h2 h3=>fin O a w' h1 h2 h3
  .grind
  .exact fun O a w' h1 h2 h3=>fin O a w' h1 h2 h3
  .exact⟨by simp;omega,by simp⟩
 refine ⟨?_,hcalls.mono fun e w' h=>h.1⟩;obtain⟨_,_,_,h1,_⟩:=hcalls [];exact h1.2
end
end Go.Sf
