/- Code, and functions. -/
import Derived.Test.YtbgedoajacpdbaaGreatDoorSfRegion
set_option linter.all false
namespace Go.Sf
open Go.RowKit (Below)
def C9(P:Program)(N:Nat)(D:Ne->Array Oper->List PR->Bool):PC->Code->Bool
 |.skip _,.skip=>true|.ret,.ret=>true|.exit i _,.exit j=>i==j|.seq a b,.seq c d=>C9 P N D a c&&C9 P N D b d|.cond c a b,.cond x p q=>AI x c&&(C9 P N D a p&&C9 P N D b q)|.block i c,.block j d=>i==j&&C9 P N D c d|.loop _ c,.loop d=>C9 P N D c d|.region rs _,.region _ ops draw=>!draw&&Kk P N ops ops.toList rs|.draw ds rs _,.region _ ops draw=>draw&&D ds ops rs|.rls _ a,c=>C9 P N D a c|.bad,_=>true|_,_=>false
def PC.Aae:PC->Bool
 |.seq a b=>a.Aae&&b.Aae|.cond _ a b=>a.Aae&&b.Aae|.block _ c=>c.Aae|.loop _ c=>c.Aae|.rls _ c=>c.Aae|_=>true
def Aaf(i:Nat)(rs:List PR):Bool:=rs.all fun r=>r.dst !=some i
def PC.Aaf(i:Nat):PC->Bool
 |.seq a b=>a.Aaf i&&b.Aaf i|.cond _ a b=>a.Aaf i&&b.Aaf i|.block _ c=>c.Aaf i|.loop _ c=>c.Aaf i|.rls _ c=>c.Aaf i|.region rs _=>Go.Sf.Aaf i rs|.draw _ rs _=>Go.Sf.Aaf i rs|_=>true
variable{i:Nat}
theorem Ua{b:List PR}(h:Aaf i b=true):∀r∈b,r.dst≠some i:=by
 intro r d;have:=List.all_eq_true.1 h r d;simpa using this
section
variable{P:Program}{F0:Nat->Nat->Prop}{w0:W0}{N:Nat}{p:Option (Nat×Value)}{D:Ne->Array Oper->List PR->Bool}
theorem Bb.envWF{O:AB}{a:Act}{w:World}(h:Bb F0 w0 O a w):∀s,(O.get s).WF:=by
 obtain ⟨G,h⟩:=h;exact h.wf
def Jn(P:Program)(N:Nat)(D:Ne->Array Oper->List PR->Bool):Prop:=
 ∀(F0:Nat->Nat->Prop)(w0:W0)(p:Option (Nat×Value))(id:Nat)(ds:Ne)(ops:Array Oper)(rs:List PR)(live:Ne)(O:AB)(a:Act)(w:World)(K:AB->Prop)(Q:Exit->Act->World->Prop),D ds ops rs=true->(∀i v,p=some (i,v)->∀r∈rs,r.dst≠some i)->Jp N p a->Bb F0 w0 O a w->Pz O ds=true->wpOps (AN P) (fun e=>K (e.hV live)) rs O ->
  (∀O a w,K O->Jp N p a->Bb F0 w0 O a w->Q .normal a w)->(Code.region id ops true).wp P Q a w
theorem Lx(hD:Jn P N D):∀(X:PC)(c:Code),C9 P N D X c=true->((∀b o,¬w0.E b o)\/X.Aae=true)->(∀i v,p=some (i,v)->X.Aaf i=true)->∀(q:Q)(A:Exit->Act->World->Prop),
  (∀O a w,q.normal O->Jp N p a->Bb F0 w0 O a w->A .normal a w)->(∀i O a w,q.exit i O->Jp N p a->Bb F0 w0 O a w->A (.exit i) a w)->(∀O a w,q.ret O->Jp N p a->Bb F0 w0 O a w->A .ret a w) ->
  ∀O a w,Jp N p a->Bb F0 w0 O a w->X.wp (AN P) q O->c.wp P A a w:=by
 intro X
 induction X with
 |skip l=>
  intro c g K t q A C H I O a w u m h;cases c<;>simp[C9]at g<;>first|exact Go.wp_skip (C _ a w h u (m.hV l))|cases g
 |ret=>
  intro c g K t q A C H I O a w u m h;cases c<;>simp[C9]at g<;>first|exact Go.wp_ret (I O a w h u m)|cases g
 |exit i l=>
  intro c g K t q A C H I O a w u m h;cases c<;>simp only[C9]at g<;>first|cases g|skip
  simp at g;subst g;exact Go.wp_exit (H i _ a w h u (m.hV l))
 |seq x y V W=>
  intro c g K t q A C H I O a w u m h;cases c<;>simp only[C9]at g<;>first|cases g|skip
  rename_i c d;simp at g;have M:=K.imp id (fun e=>(tg _ _▸e:x.Aae=true/\y.Aae=true));have R:=fun i v J=>(tg _ _▸t i v J:x.Aaf i=true/\y.Aaf i=true);refine Go.wp_seq (V c g.1 (M.imp id And.left) (fun i v J=>(R i v J).1) _ _ ?_ ?_ ?_ O a w u m h)
  .intro O a w L u m;exact W d g.2 (M.imp id And.right) (fun i v J=>(R i v J).2) q A C H I O a w u m (L m.envWF)
  .exact H
  .exact I
 |cond o x y V W=>
  intro c g K t q A C H I O a w u m h;cases c<;>simp only[C9]at g<;>first|cases g|skip
  rename_i c d e;simp at g;simp[PC.wp]at h;split at h
  .rename_i b T;have hc:a.eval c=.bool b:=by
    obtain ⟨G,m⟩:=m;have:=(Ar m g.1 T).1
    grind [AY]
   have M:=K.imp id (fun e=>(tg _ _▸e:x.Aae=true/\y.Aae=true));have R:=fun i v J=>(tg _ _▸t i v J:x.Aaf i=true/\y.Aaf i=true);refine Go.wp_cond_split hc (fun T=>?_) (fun T=>?_)
   .exact V d g.2.1 (M.imp id And.left) (fun i v J=>(R i v J).1) q A C H I O a w u m (h.1 T)
   .exact W e g.2.2 (M.imp id And.right) (fun i v J=>(R i v J).2) q A C H I O a w u m (h.2 T)
  .exact h.elim
 |block i x ih=>
  intro c g K t q A C H I O a w u m h;cases c<;>simp only[C9]at g<;>first|cases g|skip
  rename_i j d;simp at g;obtain⟨rfl,g⟩:=g;refine Go.wp_block (ih d g K t _ _ ?_ ?_ ?_ O a w u m h)
  .exact C
  .intro k O a w L u m;simp[Exit.inBlock];simp only at L;split
   .rename_i e;rw[ae e]at L;exact C O a w L u m
   .rename_i e;rw[az e]at L;exact H k O a w L u m
  .exact I
 |loop B x ih=>
  intro c g K t q A C H I O a w u m h;cases c<;>simp[C9]at g<;>first|cases g|skip
  rename_i c;simp[PC.wp]at h
  let Y:Act->World->Prop:=fun a w=>∀(b:Frame)(k:List Item)(cs:List Frame),∃e a' w',A e a' w'/\Arrives P (lone (b.at a (.code c::.inLoop c::k)) cs w) b k cs e a' w'
  have hX:=h (fun e=>∀a w,Jp N p a->Bb F0 w0 e a w->Y a w) ?_ a w u (m.hV B)
  .intro b k cs;obtain⟨e,a',w',S,z⟩:=hX b k cs;exact⟨e,a',w',S,.of_steps (.one step_loop) z⟩
  .intro e he a w u m;have T:c.wp P (Exit.then Y A) a w:=by
    refine ih c g K t _ _ ?_ ?_ ?_ e a w u m (he m.envWF)
    .intro O a w L u m;exact L a w u (m.hV B)
    .exact H
    .exact I
   intro b k cs;obtain⟨e,a₁,w₁,S,z⟩:=T b (.inLoop c::k) cs;cases e with
   |normal=>
    obtain ⟨e₂,a₂,w₂,hq₂,U⟩:=S b k cs;exact⟨e₂,a₂,w₂,hq₂,.of_steps (Steps.trans z (.one step_inLoop)) U⟩
   |exit id=>exact⟨_,a₁,w₁,S,.pass (x:=.inLoop c) rfl (fun _ _=>.inl (by simp)) z⟩|goto l=>exact⟨_,a₁,w₁,S,.pass (x:=.inLoop c) rfl (fun _ _=>.inl (by simp)) z⟩|ret=>exact⟨_,a₁,w₁,S,.pass (x:=.inLoop c) rfl (fun _ _=>.inl (by simp)) z⟩|panic ch=>exact⟨_,a₁,w₁,S,.pass (x:=.inLoop c) rfl (fun _ _=>.inl (by simp)) z⟩|outgrown=>exact⟨_,a₁,w₁,S,.pass (x:=.inLoop c) rfl (fun _ _=>.inl (by simp)) z⟩
 |region rs B=>
  intro c g K t q A C H I O a w u m h;cases c<;>simp only[C9]at g<;>first|cases g|skip
  rename_i id ops draw;simp[Bool.not_eq_true']at g;obtain⟨rfl,g⟩:=g;exact YJ g (fun i v J=>Ua (t i v J)) u m h fun O a w L u m=>C _ a w L u (m.hV B)
 |draw ds rs B=>
  intro c g K t q A C H I O a w u m h;cases c<;>simp only[C9]at g<;>first|cases g|skip
  rename_i id ops draw;simp at g;obtain⟨rfl,g⟩:=g;exact hD F0 w0 p id ds ops rs B O a w q.normal A g (fun i v J=>Ua (t i v J)) u m h.1 h.2 C
 |bad=>
  intro c g K t q A C H I O a w u m h;exact h.elim
 |rls s x ih=>
  intro c g K t q A C H I O a w u m h;have hok':C9 P N D x c=true:=by
   grind [C9]
  simp [PC.wp]at h;split at h
  .rename_i cs hs;obtain⟨G,m⟩:=m;exact ih c hok' (K.imp id fun e=>e) t q A C H I _ a w u (m.rls hs) h
  .exact h.elim
def Dd:Nat->Fq->AB
 |_,[]=>[]|k,t::ts=>(k,.tv t)::Dd (k+1) ts
theorem Ir:∀(ts:Fq)(k n:Nat),AB.get (Dd k ts) n=if k<=n then(match ts[n-k]? with|some t=>.tv t|none=>.undef)else .undef
 |[],k,n=>by simp[Dd,AB.get]|t::ts,k,n=>by
  rw [Dd,AB.ea,Ir ts (k+1) n]
  grind
variable{ts:Fq}{n:Nat}
theorem Bb.start{w:World}{F0:Nat->Nat->Prop}{vs:Array Value}(h:AO w F0 ts vs.toList)(j:TV.x6 ts):Bb F0 (W0.mk w fun _ _=>False) (Dd 0 ts) {tmps:=vs++Array.replicate n undef,defers:=[]} w:=by
 have q:=A5 h;simp at q;refine⟨fun _ _=>none,by simp,by simp,⟨rfl,rfl,rfl,bk _,fun _ _ _=>rfl,fun _ _ _ _ h=>h,fun _ _ _ h=>h.elim⟩,rfl,fun s k=>?_,fun s k=>?_,fun s=>?_⟩
 .rw[Ir]
  grind
 .rw[Ir,ae (Nat.zero_le _),Nat.sub_zero];cases d:ts[s]? with
  |none=>trivial|some t=>
   have e:s<vs.size:=by
    grind
   have hv:vs.toList[s]?=some (slot {tmps:=vs++Array.replicate n undef,defers:=[]} s):=by
    simp [slot,Array.getD_eq_getD_getElem?,Array.getElem?_append,e]
   refine Bv (fun b o u l m=>⟨l,?_⟩) _ _ (((BM _ _).1 h).2 s t _ d hv);rintro(g|⟨_,_,_,g,_⟩)
   .exact m g.2
   .cases g
 .rw[Ir,ae (Nat.zero_le _),Nat.sub_zero];cases d:ts[s]? with
  |none=>trivial|some t=>exact BZ.1 j t (List.mem_of_getElem? d)
def Ow(P:Program):ResultVar->RV->Bool
 |.tmp t,.tmp s=>t==s|.cell x t,.cell s none=>x==s&&Bm P t==some false|.cell x t,.cell s (some n)=>x==s&&Bm P t==some true&&CX P t==some n|_,_=>false
def Fc(P:Program):List ResultVar->List RV->Bool
 |[],[]=>true|x::xs,y::ys=>Ow P x y&&Fc P xs ys|_,_=>false
def FU(tmps:Array Value):ResultVar->Sem Value
 |.tmp t=>pure (tmps.getD t undef)|.cell a t=>do loadVar t (<-asAddr (tmps.getD a undef))
variable{O:AB}{a:Act}{w:World}{G:BH}
theorem WW(m:AR F0 w0 O a w G){x:ResultVar}{y:RV}(d:Ow P x y=true){t:TV}(h:y.get O=some t):∃v,(FU a.tmps x).run P w=.ok v w/\AY w (AS w0.heap.size F0 G) t v/\t.WF:=by
 have e:∀s,AI (.tmp s) (.s s)=true:=fun s=>by simp[AI]
 cases x with
 |tmp s=>
  cases y with
  |tmp s'=>
   simp [Ow]at d;subst d;have:=Ar m (e s) (t:=t) h;exact⟨slot a s,rfl,this⟩
  |cell s' n=>cases n<;>simp[Ow]at d
 |cell s ty=>
  cases y with
  |tmp _=>cases d
  |cell s' n=>
   cases n with
   |none=>
    simp [Ow]at d;obtain⟨rfl,z⟩:=d;simp[RV.get]at h;split at h
    .rename_i u r o;simp at h;subst h;obtain⟨b,g,vs,A,l,B,_,C⟩:=O7 m (e s) (y:=.s s) o;simp[AO]at l;obtain⟨v,M,rfl,K,Q⟩:=l;have H:=C 0 v rfl;rw[Addr.add_zero']at H;have k:a.tmps.getD s undef=.pointer (some ⟨b,g,none⟩):=A;refine⟨v,?_,K,B.1⟩;simp[FU,k,loadVar,CM z,H,asAddr]
    .cases h
   |some n=>
    simp [Ow]at d;obtain⟨⟨rfl,z⟩,L⟩:=d;simp[RV.get]at h;split at h
    .rename_i cs o;split at h
     .rename_i q;simp at h;subst h;obtain⟨b,g,vs,A,l,B,E,C⟩:=O7 m (e s) (y:=.s s) o;have J:=A5 l;have j:=run_loadCells_list (P:=P) w ⟨b,g,none⟩ vs C;rw[J,q]at j;have k:a.tmps.getD s undef=.pointer (some ⟨b,g,none⟩):=A;refine⟨.agg vs.toArray,?_,?_,B⟩
      .simp[FU,k,loadVar,CM z,Bp L,j,asAddr]
      .simp only[AY];exact⟨_,rfl,l,by rw[List.all_eq_true];exact fun x I=>E x I⟩
     .cases h
    .cases h
theorem Gx(e:AR F0 w0 O a w G):∀{xs:List ResultVar}{d:List RV},Fc P xs d=true->∀{ts:Fq},EI O d=some ts->∃vs,(xs.mapM (FU a.tmps)).run P w=.ok vs w/\AO w (AS w0.heap.size F0 G) ts vs/\TV.x6 ts
 |[],[],_,ts,h=>by simp[EI]at h;subst h;exact⟨[],by simp,rfl,trivial⟩|[],_::_,b,_,_=>by simp[Fc]at b|_::_,[],b,_,_=>by simp[Fc]at b|x::xs,y::d,b,ts,h=>by
  simp [Fc]at b;simp[EI]at h;split at h
  .rename_i t us g j;simp at h;subst h;obtain⟨v,k,l,m⟩:=WW e b.1 g;obtain⟨vs,o,q,s⟩:=Gx e b.2 j;exact⟨v::vs,by simp[List.mapM_cons,k,o],⟨v,vs,rfl,l,q⟩,m,s⟩
  .cases h
theorem FX{f:ResultVar->Sem Value}{xs:Array ResultVar}{vs:List Value}{w':World}(h:(xs.toList.mapM f).run P w=.ok vs w'):(xs.mapM f).run P w=.ok vs.toArray w':=by
 rw [<-Array.toArray_toList (xs:=xs),List.mapM_toArray];simp[h]
variable{F:Nat->Nat->Prop}
theorem AO.toA{vs:List Value}(h:AO w F ts vs):AO w F ts vs.toArray.toList:=by simpa using h
def Aq.lone:Aq->Bool
 |.own _=>true|.AaZ _ _=>true|_=>false
variable{fn:Func}{r:Aq}
theorem TF(I:AR F0 w0 O a w G){m:List RV}(k:Fc P fn.results.toList m=true)(Q:(∀b o,¬w0.E b o)\/r.lone=false)(K:r.plain=true)(h:Bi m r O):
  ∃v,(results fn a.tmps).run P w=.ok v w/\((∀b o,¬w0.E b o)->FN w (fun b o=>b<w0.heap.size/\F0 b o) w0.heap.size r v)/\(r.lone=false->WZ w (fun b o=>b<w0.heap.size/\F0 b o) (fun b lo=>w0.heap.size<=b\/∀o,lo<=o->w0.E b o) r v)/\r.WF:=by
 have H:∀ts,EI O m=some ts->∃vs:List Value,(fn.results.mapM (FU a.tmps)).run P w=.ok vs.toArray w/\AO w (AS w0.heap.size F0 G) ts vs/\TV.x6 ts:=by
  grind [Gx,FX]
 have l:(results fn a.tmps)=(fn.results.mapM (FU a.tmps)>>=fun vs=>pure (if h:vs.size=1 then vs[0]else .tuple vs)):=by
  unfold results;congr 1
 have M:BO w w (AS w0.heap.size F0 G) (fun b o=>b<w0.heap.size/\F0 b o):=fun b o u V W=>⟨V,fun hF'=>W (.inl hF')⟩;cases r with
 |sh t=>
  have A:∃x,m=[x]/\x.get O=some t:=by
   rcases m with _|⟨x,_|⟨y,m⟩⟩<;>simp[Bi]at h;exact⟨x,rfl,h⟩
  obtain ⟨x,rfl,hx⟩:=A;obtain⟨vs,e1,L,e3⟩:=H [t] (by simp[EI,hx]);simp only[AO]at L;obtain⟨v,r',rfl,e4,rfl⟩:=L;refine⟨v,?_,fun _=>Bv M _ _ e4,fun _=>Bv M _ _ e4,e3.1⟩;rw[l];simp[e1]
 |own t=>
  have A:∃s,m=[.tmp s]/\O.get s=.ow t:=by
   rcases m with _|⟨x,_|⟨y,m⟩⟩
   .simp[Bi]at h
   .cases x<;>simp[Bi]at h;exact⟨_,rfl,h⟩
   .simp[Bi]at h
  obtain ⟨s,rfl,J⟩:=A;obtain⟨vs,e1,L,e3⟩:=H [t] (by simp[EI,RV.get,J,EV.val]);have hr:Ow P (.tmp s) (.tmp s)=true:=by simp[Ow]
  have B:=AW I J (by simp);have C:=I.wf s;rw[J]at C;simp[AM]at B;have z:fn.results.toList=[.tmp s]:=by
   rcases hx:fn.results.toList with _|⟨x,_|⟨y,xs⟩⟩<;>rw[hx]at k
   .simp[Fc]at k
   .cases x<;>simp[Fc,Ow]at k;rw[k]
   .simp[Fc]at k
  have hv:(results fn a.tmps).run P w=.ok (slot a s) w:=by
   rw [l];have hm:(fn.results.mapM (FU a.tmps)).run P w=.ok [slot a s].toArray w:=by
    refine FX ?_;rw[z];simp[List.mapM_cons,FU,slot]
   simp [hm]
  replace Q:=Q.resolve_right (by simp[Aq.lone]);refine⟨slot a s,hv,fun _=>⟨G s none,B.kept (fun b o u V W=>⟨V,?_⟩) (fun _ _ _=>rfl),fun b lo X=>?_⟩,fun e=>by simp[Aq.lone]at e,C⟩
  .rintro(A|⟨lo,A,Y⟩)
   .exact W (.inl A)
   .exact W (.inr ⟨s,none,lo,A,Y⟩)
  .have:=I.lt _ _ _ _ X;exact⟨this.2.resolve_right (fun e=>Q _ _ (e _ (bk _))),this.1⟩
 |tp ts=>
  simp [Bi]at h;have hne:m.length≠1:=by
   grind
  have Y:EI O m=some ts:=by
   grind
  obtain ⟨vs,e1,L,e3⟩:=H ts Y;have hlen:vs.length≠1:=by
   rw [A5 L];have:∀(m:List RV)(ts:Fq),EI O m=some ts->ts.length=m.length:=by
    intro m
    induction m with
    |nil=>intro ts h;simp[EI]at h;subst h;rfl|cons y m ih=>
     grind [EI,x4]
   grind
  refine ⟨.tuple vs.toArray,?_,fun _=>⟨vs.toArray,rfl,(Ag M _ _ L).toA⟩,fun _=>⟨vs.toArray,rfl,(Ag M _ _ L).toA⟩,e3⟩;rw[l];simp[e1,hlen]
 |AaZ n es=>
  have A:∃s,m=[.tmp s]/\O.get s=.xo n es:=by
   rcases m with _|⟨x,_|⟨y,m⟩⟩
   .simp[Bi]at h
   .cases x<;>simp[Bi]at h;exact⟨_,rfl,h⟩
   .simp[Bi]at h
  obtain ⟨s,rfl,J⟩:=A;have B:=AW I J (by simp);have C:=I.wf s;rw[J]at C;simp[AM]at B;obtain⟨xs,⟨z0,k1,k2⟩,k3,k4,k5⟩:=B;have z:fn.results.toList=[.tmp s]:=by
   rcases hx:fn.results.toList with _|⟨x,_|⟨y,xs⟩⟩<;>rw[hx]at k
   .simp[Fc]at k
   .cases x<;>simp[Fc,Ow]at k;rw[k]
   .simp[Fc]at k
  have hv:(results fn a.tmps).run P w=.ok (slot a s) w:=by
   rw [l];have hm:(fn.results.mapM (FU a.tmps)).run P w=.ok [slot a s].toArray w:=by
    refine FX ?_;rw[z];simp[List.mapM_cons,FU,slot]
   simp [hm]
  replace Q:=Q.resolve_right (by simp[Aq.lone]);refine⟨slot a s,hv,fun _=>⟨z0,xs,k1,Ag (fun b o u V hf=>⟨V,fun hf'=>hf ?_⟩) _ _ k3,k4,k5,fun b lo X=>?_⟩,fun e=>by simp[Aq.lone]at e,C⟩
  .rcases hf' with h6|⟨lo,h6⟩
   .exact .inl h6
   .exact .inr ⟨s,none,0,by rw[k2,h6];rfl,Nat.zero_le _⟩
  .have:=I.lt s none b 0 (by rw[k2,X];rfl);exact⟨this.2.resolve_right (fun e=>Q _ _ (e _ (bk _))),this.1⟩
 |turn zs=>exact h.elim|cut zs=>exact h.elim|mpr _ _=>cases K
 |ag _ _ _=>cases K
 |bo _ _ _ _=>cases K
 |ext _=>cases K
 |oag cs=>
  have A:∃s n,m=[.cell s (some n)]/\O.get s=.bx cs/\cs.length=n:=by
   rcases m with _|⟨x,_|⟨y,m⟩⟩
   .simp[Bi]at h
   .rcases x with s|⟨s,_|n⟩
    .simp[Bi]at h
    .simp[Bi]at h
    .exact⟨s,n,rfl,h⟩
   grind [Bi]
  obtain ⟨s,n,rfl,J,hn⟩:=A;have hbx:=AW I J (by simp);have C:=I.wf s;rw[J]at C;simp only[AM]at hbx;obtain⟨b,c,T,k1,k2,k3,k4,k5⟩:=hbx;have z:∃ty,fn.results.toList=[.cell s ty]/\Bm P ty=some true/\CX P ty=some n:=by
   rcases hx:fn.results.toList with _|⟨x,_|⟨y,xs⟩⟩<;>rw[hx]at k
   .simp[Fc]at k
   .cases x<;>simp[Fc,Ow]at k;obtain⟨⟨rfl,A⟩,Y⟩:=k;exact⟨_,rfl,A,Y⟩
   .simp[Fc]at k
  obtain ⟨ty,z,hag',hcn⟩:=z;have hv:(results fn a.tmps).run P w=.ok (.agg c) w:=by
   rw [l];have S:=run_loadCells_list (P:=P) w ⟨b,0,none⟩ c.toList (fun j v hv=>by
    have:=cell_of_row w b j c T (0,0) k2;rw[show((⟨b,0,none⟩:Addr).add j)=⟨b,j,none⟩by simp[Addr.add];omega,this];simpa using hv)
   rw [Array.length_toList,k3,hn]at S;have h1':a.tmps.getD s undef=.pointer (some ⟨b,0,none⟩):=k1;have hm:(fn.results.mapM (FU a.tmps)).run P w=.ok [.agg c].toArray w:=by
    refine FX ?_;rw[z];simp[List.mapM_cons,FU,h1',loadVar,CM hag',Bp hcn,S,asAddr]
   simp [hm]
  have hsz:s<a.tmps.size:=BQ I J (by simp)
  let Z:C3:=fun q i=>if q=0/\i=none then none else Ba a G s q i
  have hZ:∀{q i b lo},Z q i=some (b,lo)->Ba a G s q i=some (b,lo):=by
   intro q i b lo R;simp only[Z]at R;split at R
   .cases R
   .exact R
  have U:∀N:Nat->Nat->Prop,(∀b lo,b<w.heap.size->(w0.heap.size<=b\/∀o,lo<=o->w0.E b o)->N b lo)->Wv w (fun b o=>b<w0.heap.size/\F0 b o) N cs (.agg c):=by
   intro N hN;refine⟨Z,⟨c,rfl,k3,fun i d hd=>?_⟩,fun q i q' i' b lo lo' e1 L=>Io I hsz _ _ _ _ _ _ _ (hZ e1) (hZ L),by simp[Z],fun q i b lo R=>?_⟩
   .obtain⟨x,j1,j2⟩:=k5 i d hd;have hz0:Z 0 (some i)=G s (some i):=by simp[Z,Cr]
    refine ⟨x,j1,?_,F8 j2⟩;rw[hz0];refine A4.rho (j2.kept (fun b o u V W=>⟨V,?_⟩) (fun _ _ _=>rfl) A6.rfl') (fun g lo j R=>?_)
    .rintro(A|⟨q,j,lo,A,Y⟩)
     .exact W (.inl A)
     .obtain⟨p,j',f1,_⟩:=CD (hZ A);exact W (.inr ⟨p,j',lo,f1,Y⟩)
    .simp only[C3.rho,Z];rw[az (by omega)];exact M7 R j
   .obtain⟨p,j',f1,_⟩:=CD (hZ R);have:=I.lt _ _ _ _ f1;exact⟨this.1,hN _ _ this.1 this.2⟩
  refine ⟨.agg c,hv,fun Q=>U _ fun b lo _ X=>X.resolve_right (fun e=>Q _ _ (e _ (bk _))),fun _=>U _ fun b lo _ X=>X,C⟩
variable{f:FuncId}{c:Code}{pl:PC}{rv:List RV}
theorem XX(hD:Jn P fn.ntmps D)(hf:P.funcs[f]? =some fn)(hb:fn.body=some c)(hname:fn.name≠ "runtime.NumGoroutine")(hok:C9 P fn.ntmps D pl c=true)(hrv:Fc P fn.results.toList rv=true)
  {args:Fq}(hn:args.length<=fn.ntmps)(hp:r.plain=true)(h:TV.x6 args->pl.wp (AN P) ⟨Bi rv r,fun _ _=>False,Bi rv r⟩ (Dd 0 args)):AN P f args r:=by
 refine AN.of0 ?_ hp;intro hw;refine⟨by simp[DL,hf,hb,hname],fun F0 w vs hrep=>?_⟩;have hl:=A5 hrep;simp at hl;have hcalls:Calls P f vs w fun e w'=>(∃v,e=.returned v/\Below w.heap.size w w'/\FN w' (fun b o=>b<w.heap.size/\F0 b o) w.heap.size r v)/\r.WF:=by
  refine calls_of_wp hf hb ?_;have fin:∀(O:AB)(a:Act)(w':World),Bi rv r O->Jp fn.ntmps none a->Bb F0 (W0.mk w fun _ _=>False) O a w'->a.defers=[]/\∃v,(results fn a.tmps).run P w'=.ok v w'/\((∃v',Ending.returned v=.returned v'/\Below w.heap.size w w'/\FN w' (fun b o=>b<w.heap.size/\F0 b o) w.heap.size r v')/\r.WF):=by
   intro O a w' hr hN ⟨G,hI⟩;obtain⟨v,e1,e2,_,e3⟩:=TF (P:=P) hI hrv (.inl fun _ _ h=>h) hp hr;exact⟨hI.defers,v,e1,⟨v,rfl,⟨hI.below.os,hI.below.tape,hI.below.output,hI.below.size,fun k hk=>hI.below.block k hk (fun _ h=>h)⟩,e2 fun _ _ h=>h⟩,e3⟩
  refine Lx (p:=none) hD pl c hok (.inl fun _ _ h=>h) (by simp) _ _ ?_ ?_ ?_ _ _ w ?_ (Bb.start hrep hw) (h hw)
  .exact fun O a w' h1 h2 h3=>fin O a w' h1 h2 h3
  .grind
  .exact fun O a w' h1 h2 h3=>fin O a w' h1 h2 h3
  .exact⟨by simp;omega,by simp⟩
 refine ⟨?_,hcalls.mono fun e w' h=>h.1⟩;obtain⟨_,_,_,h1,_⟩:=hcalls [];exact h1.2
def SY(i m:Nat)(Z:C3):BH:=fun s=>if s=i then Z 0 else if m<=s then(fun j=>match j with|some j=>Z (s-m+1) (some j)|none=>none)else fun _=>none
variable{Z:C3}
theorem Y9{i m:Nat}{p:Nat}{j:Option Nat}{b lo:Nat}(h:SY i m Z p j=some (b,lo)):(p=i/\Z 0 j=some (b,lo))\/(p≠i/\m<=p/\Z (p-m+1) j=some (b,lo)):=by
 simp [SY]at h
 grind
variable{i:Nat}{v:Value}
theorem Bb.startZ{w:World}{F0:Nat->Nat->Prop}{vs:Array Value}{e:EV}(h:AO w (fun b o=>F0 b o\/ZF Z b o) ts vs.toList)(Q:TV.x6 ts)(B:e.WF)
  (hi:vs[i]?=some v)(C:H9 Z)(E:∀q i b lo,Z q i=some (b,lo)->b<w.heap.size)(H:∀b o S,ZF Z b o->¬F0 b S)
  (R:∀a:Act,slot a i=v->∀G:BH,G i=Z 0->rho a G=Z.rho->∀L,BO w w (fun b o=>F0 b o\/ZF Z b o) L->AM a w L G ((i,e)::Dd 0 ts) i e v):
  Bb F0 (W0.mk w (ZF Z)) ((i,e)::Dd 0 ts) {tmps:=vs++Array.replicate n undef,defers:=[]} w:=by
 have X:=A5 h;simp at X;have k:i<vs.size:=(Array.getElem?_eq_some_iff.1 hi).1
 let G:BH:=SY i (vs.size+n) Z
 have z:∀p j b lo,G p j=some (b,lo)->∃q,Z q j=some (b,lo)/\((p=i/\q=0)\/(p≠i/\q=p-(vs.size+n)+1/\vs.size+n<=p)):=by
  intro p j b lo W;rcases Y9 W with⟨y,K⟩|⟨y,K,M⟩
  .grind
  grind
 have l:BO w w (fun b o=>F0 b o\/ZF Z b o) (AS w.heap.size F0 G):=by
  refine fun b o u T hf=>⟨T,?_⟩;rintro(⟨_,y⟩|⟨p,j,lo,y,K⟩)
  .exact hf (.inl y)
  .obtain⟨q,M,_⟩:=z _ _ _ _ y;exact hf (.inr ⟨q,j,lo,M,K⟩)
 have m:∀s(d:s<vs.size),slot {tmps:=vs++Array.replicate n undef,defers:=[]} s=vs[s]:=by
  intro s d;simp[slot,Array.getD_eq_getD_getElem?,Array.getElem?_append,d]
 refine ⟨G,fun p j p' j' b lo U I V=>?_,fun p j b lo I=>?_,⟨rfl,rfl,rfl,bk _,fun _ _ _=>rfl,fun _ _ _ _ h=>h,H⟩,rfl,fun s d=>?_,fun s d=>?_,fun s=>?_⟩
 .obtain⟨q,A,f2⟩:=z _ _ _ _ I;obtain⟨q',f3,f4⟩:=z _ _ _ _ V;have:=C _ _ _ _ _ _ _ A f3;exact⟨by omega,this.2⟩
 .obtain⟨q,A,_⟩:=z _ _ _ _ I;exact⟨E _ _ _ _ A,.inr fun o ho=>⟨q,j,lo,A,ho⟩⟩
 .simp at d;rw[AB.ea,az (by omega),Ir,ae (Nat.zero_le _),List.getElem?_eq_none (by omega)]
 .rw[AB.ea];by_cases x:i=s
  .subst x;rw[ae rfl,m i k];have hv:vs[i]=v:=by
    grind
   rw [hv];refine R _ (by rw[m i k,hv]) G (by simp[G,SY]) ?_ _ l;funext g j;simp only[rho,G,SY,Array.size_append,Array.size_replicate,C3.rho];rw[az (by omega),ae (by omega)];show Z (vs.size+n+g-(vs.size+n)+1) (some j)=Z (g+1) (some j);rw[Nat.add_sub_cancel_left]
  .rw[az x,Ir,ae (Nat.zero_le _),Nat.sub_zero];cases J:ts[s]? with
   |none=>trivial|some t=>
    have Y:s<vs.size:=by
     grind
    have hv:vs.toList[s]?=some (slot {tmps:=vs++Array.replicate n undef,defers:=[]} s):=by
     grind
    exact Bv l _ _ (((BM _ _).1 h).2 s t _ J hv)
 .rw[AB.ea];split
  .exact B
  .rw[Ir,ae (Nat.zero_le _),Nat.sub_zero];cases J:ts[s]? with
   |none=>trivial|some t=>exact BZ.1 Q t (List.mem_of_getElem? J)
theorem Bb.startB{w:World}{F0:Nat->Nat->Prop}{vs:Array Value}{cs:List AQ}(h:AO w (fun b o=>F0 b o\/ZF Z b o) ts vs.toList)(y:TV.x6 ts)(g:∀c∈cs,c.t.WF)
  (hi:vs[i]?=some v)(z:Lq w (fun b o=>F0 b o\/ZF Z b o) Z cs v)(k:H9 Z)(l:∀q i b lo,Z q i=some (b,lo)->b<w.heap.size)(m:∀b o A,ZF Z b o->¬F0 b A):
  Bb F0 (W0.mk w (ZF Z)) ((i,.bx cs)::Dd 0 ts) {tmps:=vs++Array.replicate n undef,defers:=[]} w:=by
 refine Bb.startZ (e:=.bx cs) h y g hi k l m fun a Q G u B R s=>?_;obtain⟨b,c,T,E,H,I,J,K⟩:=z;simp only[AM];refine⟨b,c,T,E,H,I,by rw[u];exact J,fun j d C=>?_⟩;obtain⟨x,L,M⟩:=K j d C;refine⟨x,L,?_⟩;rw[u,B];exact M.kept s (fun _ _ _=>rfl) A6.rfl'
theorem Bb.startA{w:World}{F0:Nat->Nat->Prop}{vs:Array Value}{cs:List AQ}(h:AO w (fun b o=>F0 b o\/ZF Z b o) ts vs.toList)(u:TV.x6 ts)(g:∀c∈cs,c.t.WF)
  (hi:vs[i]?=some v)(y:Tq w (fun b o=>F0 b o\/ZF Z b o) Z cs v)(k:H9 Z)(l:∀q i b lo,Z q i=some (b,lo)->b<w.heap.size)(m:∀b o z,ZF Z b o->¬F0 b z):
  Bb F0 (W0.mk w (ZF Z)) ((i,.oag cs)::Dd 0 ts) {tmps:=vs++Array.replicate n undef,defers:=[]} w:=by
 refine Bb.startZ (e:=.oag cs) h u g hi k l m fun a L G A B M s=>?_;obtain⟨xs,E,H,I⟩:=y;simp[AM];refine⟨xs,E,H,fun j d C=>?_⟩;obtain⟨x,J,K,_⟩:=I j d C;refine⟨x,J,?_⟩;rw[A,B];exact K.kept s (fun _ _ _=>rfl) A6.rfl'
variable{us:Fq}
theorem cR(hD:Jn P fn.ntmps D)(hf:P.funcs[f]? =some fn)(hb:fn.body=some c)(hname:fn.name≠ "runtime.NumGoroutine")(hok:C9 P fn.ntmps D pl c=true)(hrv:Fc P fn.results.toList rv=true)
  {args:Fq}(hn:args.length<=fn.ntmps){cs cs':List AQ}(hcl:pl.Aae=true)(hdst:pl.Aaf i=true)(h:TV.x6 args->(∀c∈cs,c.t.WF)->pl.wp (AN P) ⟨Bi rv (.bo cs cs' i us),fun _ _=>False,Bi rv (.bo cs cs' i us)⟩ ((i,.bx cs)::Dd 0 args)):AN P f args (.bo cs cs' i us):=by
 intro hw hwc;refine⟨by simp[DL,hf,hb,hname],fun F0 w vs v Z hrep hvi hbox hzu hzl hfree=>?_⟩;have hl:=A5 hrep;simp at hl;have hcalls:Calls P f vs w fun e w'=>((∀c∈cs',c.t.WF)/\TV.x6 us)/\∃r Z',e=.returned r/\Fy Z w w'/\Lq w' (fun b o=>(b<w.heap.size/\F0 b o)\/ZF Z' b o) Z' cs' v/\
   H9 Z'/\(∀q i b lo,Z' q i=some (b,lo)->b<w'.heap.size/\(w.heap.size<=b\/∃p j lo',Z p j=some (b,lo')/\lo'<=lo))/\
   QI w' (fun b o=>(b<w.heap.size/\F0 b o)\/ZF Z' b o) us r:=by
  refine calls_of_wp hf hb ?_;have fin:∀(O:AB)(a:Act)(w':World),Bi rv (.bo cs cs' i us) O->Jp fn.ntmps (some (i,v)) a->Bb F0 (W0.mk w (ZF Z)) O a w'->a.defers=[]/\∃r,(results fn a.tmps).run P w'=.ok r w'/\(((∀c∈cs',c.t.WF)/\TV.x6 us)/\∃r' Z',Ending.returned r=.returned r'/\Fy Z w w'/\Lq w' (fun b o=>(b<w.heap.size/\F0 b o)\/ZF Z' b o) Z' cs' v/\
    H9 Z'/\(∀q i b lo,Z' q i=some (b,lo)->b<w'.heap.size/\(w.heap.size<=b\/∃p j lo',Z p j=some (b,lo')/\lo'<=lo))/\
    QI w' (fun b o=>(b<w.heap.size/\F0 b o)\/ZF Z' b o) us r'):=by
   rintro O a w' ⟨hs,hr⟩ hN ⟨G,hI⟩;have hag:BO w' w' (AS w.heap.size F0 G) (fun b o=>(b<w.heap.size/\F0 b o)\/ZF (Ba a G i) b o):=by
    refine fun b o u hc hF=>⟨hc,?_⟩;rintro(h1|⟨q,j,lo,h1,h2⟩)
    .exact hF (.inl h1)
    .obtain⟨p,j',f1,_⟩:=CD h1;exact hF (.inr ⟨p,j',lo,f1,h2⟩)
   have hisz:i<a.tmps.size:=BQ hI hs (by simp);have hbx:=AW hI hs (by simp);have hwb:=hI.wf i;rw[hs]at hwb;rw[hN.pin i v rfl]at hbx;simp only[AM]at hbx;obtain⟨b,c,T,k1,k2,k3,k4,k5⟩:=hbx;obtain⟨vs',e1,e2,e3⟩:=Gx (P:=P) hI hrv hr;have hm:=FX e1;have hshape:(results fn a.tmps)=(fn.results.mapM (FU a.tmps)>>=fun vs=>pure (if h:vs.size=1 then vs[0]else .tuple vs)):=by
    unfold results;congr 1
   have hlen:=A5 e2;have hres:∃r,(results fn a.tmps).run P w'=.ok r w'/\QI w' (AS w.heap.size F0 G) us r:=by
    rw [hshape];by_cases h1:vs'.length=1
    .obtain⟨x,rfl⟩:=List.length_eq_one_iff.1 h1;rcases us with _|⟨t,_|⟨t',us⟩⟩
     .simp at hlen
     .simp only[AO]at e2;obtain⟨v',r',hv',e4,rfl⟩:=e2;simp at hv';subst hv';exact⟨x,by simp[hm],e4⟩
     .simp at hlen
    .refine⟨.tuple vs'.toArray,by simp[hm,h1],?_⟩;rcases us with _|⟨t,_|⟨t',us⟩⟩
     .exact⟨_,rfl,e2.toA⟩
     .grind
     .exact⟨_,rfl,e2.toA⟩
   obtain ⟨r,hr1,hr2⟩:=hres;refine⟨hI.defers,r,hr1,⟨hwb,e3⟩,r,Ba a G i,rfl,?_,⟨b,c,T,k1,k2,k3,by rw[Cr];exact k4,fun j d hj=>?_⟩,Io hI hisz,fun q j b lo f1=>?_,?_⟩
   .exact⟨hI.below.os,hI.below.tape,hI.below.output,hI.below.size,fun k hk hz=>hI.below.block k hk (fun o⟨q,j,lo,f1,_⟩=>hz q j lo f1),fun b o u hz hu=>hI.below.cell b o u hz hu⟩
   .obtain⟨x,f1,f2⟩:=k5 j d hj;refine⟨x,f1,?_⟩;rw[Cr];exact A4.rho (f2.kept hag (fun _ _ _=>rfl) A6.rfl') fun g lo j' hz=>M7 hz j'
   .obtain⟨p,j',g1,_⟩:=CD f1;obtain⟨f2,f3⟩:=hI.lt _ _ _ _ g1;refine⟨f2,f3.imp id (fun e=>?_)⟩;exact e lo (bk _)
   .rcases us with _|⟨t,_|⟨t',us⟩⟩
    .obtain⟨vs2,f1,f2⟩:=hr2;exact⟨vs2,f1,Ag hag _ _ f2⟩
    .exact Bv hag _ _ hr2
    .obtain⟨vs2,f1,f2⟩:=hr2;exact⟨vs2,f1,Ag hag _ _ f2⟩
  refine Lx (p:=some (i,v)) hD pl c hok (.inr hcl) (fun j u hp=>by cases hp;exact hdst) _ _ ?_ ?_ ?_ _ _ w ?_ (Bb.startB hrep hw hwc hvi hbox hzu hzl hfree) (h hw hwc)
  .exact fun O a w' h1 h2 h3=>fin O a w' h1 h2 h3
  .exact fun i O a w' h1 _ _=>h1.elim
  .exact fun O a w' h1 h2 h3=>fin O a w' h1 h2 h3
  .have hil:i<vs.size:=(Array.getElem?_eq_some_iff.1 hvi).1;refine⟨by simp;omega,fun j u hp=>?_⟩;cases hp;have:=Array.getElem?_eq_getElem hil;rw[this]at hvi;simp at hvi;simp[slot,Array.getD_eq_getD_getElem?,Array.getElem?_append,hil,hvi]
 refine ⟨?_,hcalls.mono fun e w' h=>h.2⟩;obtain⟨_,_,_,h1,_⟩:=hcalls [];exact h1.1
def Wk(cs'' cs':List AQ):Prop:=cs''.length=cs'.length/\∀(i:Nat)(d:AQ),cs'[i]?=some d->∃d',cs''[i]?=some d'/\(d=d'\/d=⟨false,.undef⟩)
theorem Wk.wf{b cs':List AQ}(h:Wk b cs')(e:∀c∈b,c.t.WF):∀c∈cs',c.t.WF:=by
 intro c d;obtain⟨i,hi⟩:=List.getElem?_of_mem d;obtain⟨g,j,rfl|rfl⟩:=h.2 i c hi
 .grind
 .exact trivial
theorem Wk.cell{w:World}{ρ:G7}{z:Option (Nat×Nat)}{x:Value}{d b:AQ}(h:d=b\/d=⟨false,.undef⟩)(e:A4 w F ρ z b x):A4 w F ρ z d x:=by
 rcases h with rfl|rfl
 .exact e
 .have:x.oneCell'=true:=by
   obtain ⟨o,t⟩:=b;cases o with
   |true=>exact Mw e|false=>exact e.2
  exact ⟨by simp[AY];exact this,this⟩
def YN(rv:List RV)(cs cs':List AQ)(i:Nat)(us:Fq)(O:AB):Prop:=∃cs'',Wk cs'' cs'/\Bi rv (.bo cs cs'' i us) O
theorem aT(hD:Jn P fn.ntmps D)(hf:P.funcs[f]? =some fn)(hb:fn.body=some c)(hname:fn.name≠ "runtime.NumGoroutine")(hok:C9 P fn.ntmps D pl c=true)(hrv:Fc P fn.results.toList rv=true)
  {args:Fq}(hn:args.length<=fn.ntmps){cs cs':List AQ}(hcl:pl.Aae=true)(hdst:pl.Aaf i=true)(h:TV.x6 args->(∀c∈cs,c.t.WF)->pl.wp (AN P) ⟨YN rv cs cs' i us,fun _ _=>False,YN rv cs cs' i us⟩ ((i,.bx cs)::Dd 0 args)):AN P f args (.bo cs cs' i us):=by
 intro hw hwc;refine⟨by simp[DL,hf,hb,hname],fun F0 w vs v Z hrep hvi hbox hzu hzl hfree=>?_⟩;have hl:=A5 hrep;simp at hl;have hcalls:Calls P f vs w fun e w'=>((∀c∈cs',c.t.WF)/\TV.x6 us)/\∃r Z',e=.returned r/\Fy Z w w'/\Lq w' (fun b o=>(b<w.heap.size/\F0 b o)\/ZF Z' b o) Z' cs' v/\
   H9 Z'/\(∀q i b lo,Z' q i=some (b,lo)->b<w'.heap.size/\(w.heap.size<=b\/∃p j lo',Z p j=some (b,lo')/\lo'<=lo))/\
   QI w' (fun b o=>(b<w.heap.size/\F0 b o)\/ZF Z' b o) us r:=by
  refine calls_of_wp hf hb ?_;have fin:∀(O:AB)(a:Act)(w':World),YN rv cs cs' i us O->Jp fn.ntmps (some (i,v)) a->Bb F0 (W0.mk w (ZF Z)) O a w'->a.defers=[]/\∃r,(results fn a.tmps).run P w'=.ok r w'/\(((∀c∈cs',c.t.WF)/\TV.x6 us)/\∃r' Z',Ending.returned r=.returned r'/\Fy Z w w'/\Lq w' (fun b o=>(b<w.heap.size/\F0 b o)\/ZF Z' b o) Z' cs' v/\
    H9 Z'/\(∀q i b lo,Z' q i=some (b,lo)->b<w'.heap.size/\(w.heap.size<=b\/∃p j lo',Z p j=some (b,lo')/\lo'<=lo))/\
    QI w' (fun b o=>(b<w.heap.size/\F0 b o)\/ZF Z' b o) us r'):=by
   rintro O a w' ⟨cs'',hwk,hs,hr⟩ hN ⟨G,hI⟩;have hag:BO w' w' (AS w.heap.size F0 G) (fun b o=>(b<w.heap.size/\F0 b o)\/ZF (Ba a G i) b o):=by
    refine fun b o u hc hF=>⟨hc,?_⟩;rintro(h1|⟨q,j,lo,h1,h2⟩)
    .exact hF (.inl h1)
    .obtain⟨p,j',f1,_⟩:=CD h1;exact hF (.inr ⟨p,j',lo,f1,h2⟩)
   have hisz:i<a.tmps.size:=BQ hI hs (by simp);have hbx:=AW hI hs (by simp);have hwb:=hI.wf i;rw[hs]at hwb;rw[hN.pin i v rfl]at hbx;simp only[AM]at hbx;obtain⟨b,c,T,k1,k2,k3,k4,k5⟩:=hbx;obtain⟨vs',e1,e2,e3⟩:=Gx (P:=P) hI hrv hr;have hm:=FX e1;have hshape:(results fn a.tmps)=(fn.results.mapM (FU a.tmps)>>=fun vs=>pure (if h:vs.size=1 then vs[0]else .tuple vs)):=by
    unfold results;congr 1
   have hlen:=A5 e2;have hres:∃r,(results fn a.tmps).run P w'=.ok r w'/\QI w' (AS w.heap.size F0 G) us r:=by
    rw [hshape];by_cases h1:vs'.length=1
    .obtain⟨x,rfl⟩:=List.length_eq_one_iff.1 h1;rcases us with _|⟨t,_|⟨t',us⟩⟩
     .simp at hlen
     .simp only[AO]at e2;obtain⟨v',r',hv',e4,rfl⟩:=e2;simp at hv';subst hv';exact⟨x,by simp[hm],e4⟩
     .simp at hlen
    .refine⟨.tuple vs'.toArray,by simp[hm,h1],?_⟩;rcases us with _|⟨t,_|⟨t',us⟩⟩
     .exact⟨_,rfl,e2.toA⟩
     .grind
     .exact⟨_,rfl,e2.toA⟩
   obtain ⟨r,hr1,hr2⟩:=hres;refine⟨hI.defers,r,hr1,⟨hwk.wf hwb,e3⟩,r,Ba a G i,rfl,?_,⟨b,c,T,k1,k2,k3.trans hwk.1,by rw[Cr];exact k4,fun j d hj=>?_⟩,Io hI hisz,fun q j b lo f1=>?_,?_⟩
   .exact⟨hI.below.os,hI.below.tape,hI.below.output,hI.below.size,fun k hk hz=>hI.below.block k hk (fun o⟨q,j,lo,f1,_⟩=>hz q j lo f1),fun b o u hz hu=>hI.below.cell b o u hz hu⟩
   .obtain⟨d',hd',hdd⟩:=hwk.2 j d hj;obtain⟨x,f1,f2⟩:=k5 j d' hd';refine⟨x,f1,Wk.cell hdd ?_⟩;rw[Cr];exact A4.rho (f2.kept hag (fun _ _ _=>rfl) A6.rfl') fun g lo j' hz=>M7 hz j'
   .obtain⟨p,j',g1,_⟩:=CD f1;obtain⟨f2,f3⟩:=hI.lt _ _ _ _ g1;refine⟨f2,f3.imp id (fun e=>?_)⟩;exact e lo (bk _)
   .rcases us with _|⟨t,_|⟨t',us⟩⟩
    .obtain⟨vs2,f1,f2⟩:=hr2;exact⟨vs2,f1,Ag hag _ _ f2⟩
    .exact Bv hag _ _ hr2
    .obtain⟨vs2,f1,f2⟩:=hr2;exact⟨vs2,f1,Ag hag _ _ f2⟩
  refine Lx (p:=some (i,v)) hD pl c hok (.inr hcl) (fun j u hp=>by cases hp;exact hdst) _ _ ?_ ?_ ?_ _ _ w ?_ (Bb.startB hrep hw hwc hvi hbox hzu hzl hfree) (h hw hwc)
  .exact fun O a w' h1 h2 h3=>fin O a w' h1 h2 h3
  .exact fun i O a w' h1 _ _=>h1.elim
  .exact fun O a w' h1 h2 h3=>fin O a w' h1 h2 h3
  .have hil:i<vs.size:=(Array.getElem?_eq_some_iff.1 hvi).1;refine⟨by simp;omega,fun j u hp=>?_⟩;cases hp;have:=Array.getElem?_eq_getElem hil;rw[this]at hvi;simp at hvi;simp[slot,Array.getD_eq_getD_getElem?,Array.getElem?_append,hil,hvi]
 refine ⟨?_,hcalls.mono fun e w' h=>h.2⟩;obtain⟨_,_,_,h1,_⟩:=hcalls [];exact h1.1
theorem cQ(hD:Jn P fn.ntmps D)(hf:P.funcs[f]? =some fn)(hb:fn.body=some c)(hname:fn.name≠ "runtime.NumGoroutine")(hok:C9 P fn.ntmps D pl c=true)(hrv:Fc P fn.results.toList rv=true)
  {args:Fq}(hn:args.length<=fn.ntmps){cs:List AQ}(hcl:pl.Aae=true)(hp:r.plain=true)(hlo:r.lone=false)(h:TV.x6 args->(∀c∈cs,c.t.WF)->pl.wp (AN P) ⟨Bi rv r,fun _ _=>False,Bi rv r⟩ ((i,.oag cs)::Dd 0 args)):AN P f args (.ag cs i r):=by
 intro hw hwc;refine⟨by simp[DL,hf,hb,hname],fun F0 w vs v Z hrep hvi hbox hzu hzl hfree=>?_⟩;have hl:=A5 hrep;simp at hl;have hcalls:Calls P f vs w fun e w'=>r.WF/\∃v',e=.returned v'/\Fy Z w w'/\WZ w' (fun b o=>b<w.heap.size/\F0 b o) (fun b lo=>w.heap.size<=b\/∃p j lo',Z p j=some (b,lo')/\lo'<=lo) r v':=by
  refine calls_of_wp hf hb ?_;have fin:∀(O:AB)(a:Act)(w':World),Bi rv r O->Jp fn.ntmps none a->Bb F0 (W0.mk w (ZF Z)) O a w'->a.defers=[]/\∃v,(results fn a.tmps).run P w'=.ok v w'/\(r.WF/\∃v',Ending.returned v=.returned v'/\Fy Z w w'/\WZ w' (fun b o=>b<w.heap.size/\F0 b o) (fun b lo=>w.heap.size<=b\/∃p j lo',Z p j=some (b,lo')/\lo'<=lo) r v'):=by
   intro O a w' hr hN ⟨G,hI⟩;obtain⟨v,e1,_,e2,e3⟩:=TF (P:=P) hI hrv (.inr hlo) hp hr;refine⟨hI.defers,v,e1,e3,v,rfl,⟨hI.below.os,hI.below.tape,hI.below.output,hI.below.size,fun k hk hz=>hI.below.block k hk (fun o⟨q,j,lo,f1,_⟩=>hz q j lo f1),fun b o u hz hu=>hI.below.cell b o u hz hu⟩,?_⟩;have hN:∀b lo,(w.heap.size<=b\/∀o,lo<=o->ZF Z b o)->w.heap.size<=b\/∃p j lo',Z p j=some (b,lo')/\lo'<=lo:=fun b lo h=>h.imp id fun e=>e lo (bk _);have e4:=e2 hlo;cases r with
   |sh t=>exact e4|tp ts=>exact e4|oag ds=>
    obtain ⟨Z',f1,f2,f3,f4⟩:=e4;exact⟨Z',f1,f2,f3,fun q i b lo hz=>⟨(f4 q i b lo hz).1,hN _ _ (f4 q i b lo hz).2⟩⟩
   |_=>first|(exact Bool.noConfusion hp)|(exact Bool.noConfusion hlo)
  refine Lx (p:=none) hD pl c hok (.inr hcl) (by simp) _ _ ?_ ?_ ?_ _ _ w ?_ (Bb.startA hrep hw hwc hvi hbox hzu hzl hfree) (h hw hwc)
  .exact fun O a w' h1 h2 h3=>fin O a w' h1 h2 h3
  .exact fun i O a w' h1 _ _=>h1.elim
  .exact fun O a w' h1 h2 h3=>fin O a w' h1 h2 h3
  .exact⟨by simp;omega,by simp⟩
 refine ⟨?_,hcalls.mono fun e w' h=>h.2⟩;obtain⟨_,_,_,h1,_⟩:=hcalls [];exact h1.1
theorem cT(hD:Jn P fn.ntmps D)(hf:P.funcs[f]? =some fn)(hb:fn.body=some c)(hname:fn.name≠ "runtime.NumGoroutine")(hok:C9 P fn.ntmps D pl c=true)(hrv:Fc P fn.results.toList rv=true)
  {args:Fq}(hn:args.length<=fn.ntmps){kvs:BD}(h:TV.x6 args->pl.wp (AN P) ⟨Bi rv (.mpr kvs ts),fun _ _=>False,Bi rv (.mpr kvs ts)⟩ (Dd 0 args)):AN P f args (.mpr kvs ts):=by
 intro hw;refine⟨by simp[DL,hf,hb,hname],fun F0 w vs hrep=>?_⟩;have hl:=A5 hrep;simp at hl;have hcalls:Calls P f vs w fun e w'=>(∃v,e=.returned v/\Below w.heap.size w w'/\FN w' (fun b o=>b<w.heap.size/\F0 b o) w.heap.size (.mpr kvs ts) v)/\(Aq.mpr kvs ts).WF:=by
  refine calls_of_wp hf hb ?_;have fin:∀(O:AB)(a:Act)(w':World),Bi rv (.mpr kvs ts) O->Jp fn.ntmps none a->Bb F0 (W0.mk w fun _ _=>False) O a w'->a.defers=[]/\∃v,(results fn a.tmps).run P w'=.ok v w'/\((∃v',Ending.returned v=.returned v'/\Below w.heap.size w w'/\FN w' (fun b o=>b<w.heap.size/\F0 b o) w.heap.size (.mpr kvs ts) v')/\(Aq.mpr kvs ts).WF):=by
   intro O a w' hr hN ⟨G,hI⟩;rcases rv with _|⟨⟨s⟩|⟨s,_⟩,rs⟩
   .exact hr.elim
   .obtain⟨hne,⟨b,o,h1,h2⟩,h3⟩:=hr;have hg:EI O (.tmp s::rs)=some (.AaJ b::ts):=by simp[EI,RV.get,h1,EV.val,h3]
    obtain ⟨us,e1,e2,e3⟩:=Gx (P:=P) hI hrv hg;have hm:=FX e1;have hshape:(results fn a.tmps)=(fn.results.mapM (FU a.tmps)>>=fun vs=>pure (if h:vs.size=1 then vs[0]else .tuple vs)):=by
     unfold results;congr 1
    simp [AO]at e2;obtain⟨v0,us',rfl,e4,e5⟩:=e2;simp[AY]at e4;subst e4;have hor:=AW hI h2 (by simp);have how:=hI.wf o;rw[h2]at how;simp[AM]at hor;obtain⟨k1,k2,k3⟩:=hor;have hlt:=hI.lt _ _ _ _ k2;have hus:us'.length≠0:=by
     have h6:=A5 e5;have:ts.length=rs.length:=by
      have:∀(ys:List RV)(ts:Fq),EI O ys=some ts->ts.length=ys.length:=by
       intro ys
       induction ys with
       |nil=>intro ts h;simp[EI]at h;subst h;rfl|cons y ys ih=>
        grind [EI,x4]
      exact this _ _ h3
     grind
    have hag:BO w' w' (AS w.heap.size F0 G) (fun b o=>b<w.heap.size/\F0 b o):=fun b o u hc hF=>⟨hc,fun hF'=>hF (.inl hF')⟩;refine⟨hI.defers,.tuple (Value.map (some b)::us').toArray,?_,⟨_,rfl,⟨hI.below.os,hI.below.tape,hI.below.output,hI.below.size,fun k hk=>hI.below.block k hk (fun _ h=>h)⟩,b,us',rfl,hlt.2.resolve_right (fun e=>e _ (bk _)),hlt.1,k3,Ag hag _ _ e5⟩,how,e3.2⟩;rw[hshape];have:¬us'.length=0:=hus;simp[hm,this]
   .exact hr.elim
  refine Lx (p:=none) hD pl c hok (.inl fun _ _ h=>h) (by simp) _ _ ?_ ?_ ?_ _ _ w ?_ (Bb.start hrep hw) (h hw)
  .exact fun O a w' h1 h2 h3=>fin O a w' h1 h2 h3
  .grind
  .exact fun O a w' h1 h2 h3=>fin O a w' h1 h2 h3
  .exact⟨by simp;omega,by simp⟩
 refine ⟨?_,hcalls.mono fun e w' h=>h.1⟩;obtain⟨_,_,_,h1,_⟩:=hcalls [];exact h1.2
end
end Go.Sf
