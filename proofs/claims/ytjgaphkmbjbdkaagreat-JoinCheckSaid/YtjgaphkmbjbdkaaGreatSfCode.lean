/- Code, and functions. -/
import Derived.Test.YtjgaphkmbjbdkaaGreatSfRegion
set_option linter.all false
namespace Go.Sf
open Go.RowKit (Below)
def De(P:Program)(N:Nat)(D:Ne->Array Oper->List PR->Bool):PC->Code->Bool
 |.skip _,.skip=>true|.ret,.ret=>true|.exit i _,.exit j=>i==j|.seq a b,.seq c d=>De P N D a c&&De P N D b d|.cond c a b,.cond x p q=>AJ x c&&(De P N D a p&&De P N D b q)|.block i c,.block j d=>i==j&&De P N D c d|.loop _ c,.loop d=>De P N D c d|.region rs _,.region _ ops draw=>!draw&&Mf P N ops ops.toList rs|.draw ds rs _,.region _ ops draw=>draw&&D ds ops rs|.rls _ a,c=>De P N D a c|.bad,_=>true|_,_=>false
def PC.t1:PC->Bool
 |.seq a b=>a.t1&&b.t1|.cond _ a b=>a.t1&&b.t1|.block _ c=>c.t1|.loop _ c=>c.t1|.rls _ c=>c.t1|_=>true
def t5(i:Nat)(rs:List PR):Bool:=rs.all fun r=>r.dst !=some i
def PC.t5(i:Nat):PC->Bool
 |.seq a b=>a.t5 i&&b.t5 i|.cond _ a b=>a.t5 i&&b.t5 i|.block _ c=>c.t5 i|.loop _ c=>c.t5 i|.rls _ c=>c.t5 i|.region rs _=>Go.Sf.t5 i rs|.draw _ rs _=>Go.Sf.t5 i rs|_=>true
variable{i:Nat}
theorem V7{b:List PR}(h:t5 i b=true):∀r∈b,r.dst≠some i:=by
 intro r d;have:=List.all_eq_true.1 h r d;simpa using this
section
variable{P:Program}{F0:Nat->Nat->Prop}{w0:W0}{N:Nat}{p:Option (Nat×Value)}{D:Ne->Array Oper->List PR->Bool}
theorem Bu.envWF{O:AB}{a:Act}{w:World}(h:Bu F0 w0 O a w):∀s,(O.get s).WF:=by
 obtain ⟨G,h⟩:=h;exact h.wf
def LJ(P:Program)(N:Nat)(D:Ne->Array Oper->List PR->Bool):Prop:=
 ∀(F0:Nat->Nat->Prop)(w0:W0)(p:Option (Nat×Value))(id:Nat)(ds:Ne)(ops:Array Oper)(rs:List PR)(live:Ne)(O:AB)(a:Act)(w:World)(K:AB->Prop)(Q:Exit->Act->World->Prop),D ds ops rs=true->(∀i v,p=some (i,v)->∀r∈rs,r.dst≠some i)->LK N p a->Bu F0 w0 O a w->Ri O ds=true->wpOps (AU P) (fun e=>K (e.ff live)) rs O ->
  (∀O a w,K O->LK N p a->Bu F0 w0 O a w->Q .normal a w)->(Code.region id ops true).wp P Q a w
theorem Np(hD:LJ P N D):∀(X:PC)(c:Code),De P N D X c=true->((∀b o,¬w0.E b o)\/X.t1=true)->(∀i v,p=some (i,v)->X.t5 i=true)->∀(q:Q)(A:Exit->Act->World->Prop),
  (∀O a w,q.normal O->LK N p a->Bu F0 w0 O a w->A .normal a w)->(∀i O a w,q.exit i O->LK N p a->Bu F0 w0 O a w->A (.exit i) a w)->(∀O a w,q.ret O->LK N p a->Bu F0 w0 O a w->A .ret a w) ->
  ∀O a w,LK N p a->Bu F0 w0 O a w->X.wp (AU P) q O->c.wp P A a w:=by
 intro X
 induction X with
 |skip l=>
  intro c g K t q A C H I O a w u m h;cases c<;>simp[De]at g<;>first|exact Go.wp_skip (C _ a w h u (m.ff l))|cases g
 |ret=>
  intro c g K t q A C H I O a w u m h;cases c<;>simp[De]at g<;>first|exact Go.wp_ret (I O a w h u m)|cases g
 |exit i l=>
  intro c g K t q A C H I O a w u m h;cases c<;>simp only[De]at g<;>first|cases g|skip
  simp at g;subst g;exact Go.wp_exit (H i _ a w h u (m.ff l))
 |seq x y V W=>
  intro c g K t q A C H I O a w u m h;cases c<;>simp only[De]at g<;>first|cases g|skip
  rename_i c d;simp at g;have M:=K.imp id (fun e=>(o4 _ _▸e:x.t1=true/\y.t1=true));have R:=fun i v J=>(o4 _ _▸t i v J:x.t5 i=true/\y.t5 i=true);refine Go.wp_seq (V c g.1 (M.imp id And.left) (fun i v J=>(R i v J).1) _ _ ?_ ?_ ?_ O a w u m h)
  .intro O a w L u m;exact W d g.2 (M.imp id And.right) (fun i v J=>(R i v J).2) q A C H I O a w u m (L m.envWF)
  .exact H
  .exact I
 |cond o x y V W=>
  intro c g K t q A C H I O a w u m h;cases c<;>simp only[De]at g<;>first|cases g|skip
  rename_i c d e;simp at g;simp[PC.wp]at h;split at h
  .rename_i b T;have hc:a.eval c=.bool b:=by
    obtain ⟨G,m⟩:=m;have:=(A0 m g.1 T).1
    grind [An]
   have M:=K.imp id (fun e=>(o4 _ _▸e:x.t1=true/\y.t1=true));have R:=fun i v J=>(o4 _ _▸t i v J:x.t5 i=true/\y.t5 i=true);refine Go.wp_cond_split hc (fun T=>?_) (fun T=>?_)
   .exact V d g.2.1 (M.imp id And.left) (fun i v J=>(R i v J).1) q A C H I O a w u m (h.1 T)
   .exact W e g.2.2 (M.imp id And.right) (fun i v J=>(R i v J).2) q A C H I O a w u m (h.2 T)
  .exact h.elim
 |block i x ih=>
  intro c g K t q A C H I O a w u m h;cases c<;>simp only[De]at g<;>first|cases g|skip
  rename_i j d;simp at g;obtain⟨rfl,g⟩:=g;refine Go.wp_block (ih d g K t _ _ ?_ ?_ ?_ O a w u m h)
  .exact C
  .intro k O a w L u m;simp[Exit.inBlock];simp only at L;split
   .rename_i e;rw[a6 e]at L;exact C O a w L u m
   .rename_i e;rw[ae e]at L;exact H k O a w L u m
  .exact I
 |loop B x ih=>
  intro c g K t q A C H I O a w u m h;cases c<;>simp[De]at g<;>first|cases g|skip
  rename_i c;simp[PC.wp]at h
  let Y:Act->World->Prop:=fun a w=>∀(b:Frame)(k:List Item)(cs:List Frame),∃e a' w',A e a' w'/\Arrives P (lone (b.at a (.code c::.inLoop c::k)) cs w) b k cs e a' w'
  have hX:=h (fun e=>∀a w,LK N p a->Bu F0 w0 e a w->Y a w) ?_ a w u (m.ff B)
  .intro b k cs;obtain⟨e,a',w',S,z⟩:=hX b k cs;exact⟨e,a',w',S,.of_steps (.one step_loop) z⟩
  .intro e he a w u m;have T:c.wp P (Exit.then Y A) a w:=by
    refine ih c g K t _ _ ?_ ?_ ?_ e a w u m (he m.envWF)
    .intro O a w L u m;exact L a w u (m.ff B)
    .exact H
    .exact I
   intro b k cs;obtain⟨e,a₁,w₁,S,z⟩:=T b (.inLoop c::k) cs;cases e with
   |normal=>
    obtain ⟨e₂,a₂,w₂,hq₂,U⟩:=S b k cs;exact⟨e₂,a₂,w₂,hq₂,.of_steps (Steps.trans z (.one step_inLoop)) U⟩
   |exit id=>exact⟨_,a₁,w₁,S,.pass (x:=.inLoop c) rfl (fun _ _=>.inl (by simp)) z⟩|goto l=>exact⟨_,a₁,w₁,S,.pass (x:=.inLoop c) rfl (fun _ _=>.inl (by simp)) z⟩|ret=>exact⟨_,a₁,w₁,S,.pass (x:=.inLoop c) rfl (fun _ _=>.inl (by simp)) z⟩|panic ch=>exact⟨_,a₁,w₁,S,.pass (x:=.inLoop c) rfl (fun _ _=>.inl (by simp)) z⟩|outgrown=>exact⟨_,a₁,w₁,S,.pass (x:=.inLoop c) rfl (fun _ _=>.inl (by simp)) z⟩
 |region rs B=>
  intro c g K t q A C H I O a w u m h;cases c<;>simp only[De]at g<;>first|cases g|skip
  rename_i id ops draw;simp[Bool.not_eq_true']at g;obtain⟨rfl,g⟩:=g;exact bA g (fun i v J=>V7 (t i v J)) u m h fun O a w L u m=>C _ a w L u (m.ff B)
 |draw ds rs B=>
  intro c g K t q A C H I O a w u m h;cases c<;>simp only[De]at g<;>first|cases g|skip
  rename_i id ops draw;simp at g;obtain⟨rfl,g⟩:=g;exact hD F0 w0 p id ds ops rs B O a w q.normal A g (fun i v J=>V7 (t i v J)) u m h.1 h.2 C
 |bad=>
  intro c g K t q A C H I O a w u m h;exact h.elim
 |rls s x ih=>
  intro c g K t q A C H I O a w u m h;have hok':De P N D x c=true:=by
   grind [De]
  simp [PC.wp]at h;split at h
  .rename_i cs hs;obtain⟨G,m⟩:=m;exact ih c hok' (K.imp id fun e=>e) t q A C H I _ a w u (m.rls hs) h
  .exact h.elim
def Du:Nat->Fq->AB
 |_,[]=>[]|k,t::ts=>(k,.tv t)::Du (k+1) ts
theorem Jz:∀(ts:Fq)(k n:Nat),AB.get (Du k ts) n=if k<=n then(match ts[n-k]? with|some t=>.tv t|none=>.undef)else .undef
 |[],k,n=>by simp[Du,AB.get]|t::ts,k,n=>by
  rw [Du,AB.eb,Jz ts (k+1) n]
  grind
variable{ts:Fq}{n:Nat}
theorem Bu.start{w:World}{F0:Nat->Nat->Prop}{vs:Array Value}(h:AQ w F0 ts vs.toList)(j:TV.sc ts)(d:Sz w):Bu F0 (W0.mk w fun _ _=>False) (Du 0 ts) {tmps:=vs++Array.replicate n undef,defers:=[]} w:=by
 have q:=BH h;simp at q;refine⟨fun _ _=>none,by simp,by simp,⟨rfl,rfl,rfl,az _,fun _ _ _=>rfl,fun _ _ _ _ h=>h,fun _ _ _ h=>h.elim,d,fun _ _ h=>h.elim⟩,rfl,fun s k=>?_,fun s k=>?_,fun s=>?_⟩
 .rw[Jz]
  grind
 .rw[Jz,a6 (Nat.zero_le _),Nat.sub_zero];cases d:ts[s]? with
  |none=>trivial|some t=>
   have e:s<vs.size:=by
    grind
   have hv:vs.toList[s]?=some (slot {tmps:=vs++Array.replicate n undef,defers:=[]} s):=by
    simp [slot,Array.getD_eq_getD_getElem?,Array.getElem?_append,e]
   refine CG (fun b o u l m=>⟨l,?_⟩) _ _ (((Bf _ _).1 h).2 s t _ d hv);rintro(g|⟨_,_,_,g,_⟩)
   .exact m g.2
   .cases g
 .rw[Jz,a6 (Nat.zero_le _),Nat.sub_zero];cases d:ts[s]? with
  |none=>trivial|some t=>exact Br.1 j t (List.mem_of_getElem? d)
def Qj(P:Program):ResultVar->RV->Bool
 |.tmp t,.tmp s=>t==s|.cell x t,.cell s none=>x==s&&B9 P t==some false|.cell x t,.cell s (some n)=>x==s&&B9 P t==some true&&C0 P t==some n|_,_=>false
def GJ(P:Program):List ResultVar->List RV->Bool
 |[],[]=>true|x::xs,y::ys=>Qj P x y&&GJ P xs ys|_,_=>false
def F7(tmps:Array Value):ResultVar->Sem Value
 |.tmp t=>pure (tmps.getD t undef)|.cell a t=>do loadVar t (<-asAddr (tmps.getD a undef))
variable{O:AB}{a:Act}{w:World}{G:BU}
theorem Y2(m:AO F0 w0 O a w G){x:ResultVar}{y:RV}(d:Qj P x y=true){t:TV}(h:y.get O=some t):∃v,(F7 a.tmps x).run P w=.ok v w/\An w (AT w0.heap.size F0 G) t v/\t.WF:=by
 have e:∀s,AJ (.tmp s) (.s s)=true:=fun s=>by simp[AJ]
 cases x with
 |tmp s=>
  cases y with
  |tmp s'=>
   simp [Qj]at d;subst d;have:=A0 m (e s) (t:=t) h;exact⟨slot a s,rfl,this⟩
  |cell s' n=>cases n<;>simp[Qj]at d
 |cell s ty=>
  cases y with
  |tmp _=>cases d
  |cell s' n=>
   cases n with
   |none=>
    simp [Qj]at d;obtain⟨rfl,z⟩:=d;simp[RV.get]at h;split at h
    .rename_i u r o;simp at h;subst h;obtain⟨b,g,vs,A,l,B,_,C⟩:=Q1 m (e s) (y:=.s s) o;simp[AQ]at l;obtain⟨v,M,rfl,K,Q⟩:=l;have H:=C 0 v rfl;rw[Addr.add_zero']at H;have k:a.tmps.getD s undef=.pointer (some ⟨b,g,none⟩):=A;refine⟨v,?_,K,B.1⟩;simp[F7,k,loadVar,Cp z,H,asAddr]
    .cases h
   |some n=>
    simp [Qj]at d;obtain⟨⟨rfl,z⟩,L⟩:=d;simp[RV.get]at h;split at h
    .rename_i cs o;split at h
     .rename_i q;simp at h;subst h;obtain⟨b,g,vs,A,l,B,E,C⟩:=Q1 m (e s) (y:=.s s) o;have J:=BH l;have j:=run_loadCells_list (P:=P) w ⟨b,g,none⟩ vs C;rw[J,q]at j;have k:a.tmps.getD s undef=.pointer (some ⟨b,g,none⟩):=A;refine⟨.agg vs.toArray,?_,?_,B⟩
      .simp[F7,k,loadVar,Cp z,CE L,j,asAddr]
      .simp only[An];exact⟨_,rfl,l,by rw[List.all_eq_true];exact fun x I=>E x I⟩
     .cases h
    .cases h
theorem H2(e:AO F0 w0 O a w G):∀{xs:List ResultVar}{d:List RV},GJ P xs d=true->∀{ts:Fq},EM O d=some ts->∃vs,(xs.mapM (F7 a.tmps)).run P w=.ok vs w/\AQ w (AT w0.heap.size F0 G) ts vs/\TV.sc ts
 |[],[],_,ts,h=>by simp[EM]at h;subst h;exact⟨[],by simp,rfl,trivial⟩|[],_::_,b,_,_=>by simp[GJ]at b|_::_,[],b,_,_=>by simp[GJ]at b|x::xs,y::d,b,ts,h=>by
  simp [GJ]at b;simp[EM]at h;split at h
  .rename_i t us g j;simp at h;subst h;obtain⟨v,k,l,m⟩:=Y2 e b.1 g;obtain⟨vs,o,q,s⟩:=H2 e b.2 j;exact⟨v::vs,by simp[List.mapM_cons,k,o],⟨v,vs,rfl,l,q⟩,m,s⟩
  .cases h
theorem GB{f:ResultVar->Sem Value}{xs:Array ResultVar}{vs:List Value}{w':World}(h:(xs.toList.mapM f).run P w=.ok vs w'):(xs.mapM f).run P w=.ok vs.toArray w':=by
 rw [<-Array.toArray_toList (xs:=xs),List.mapM_toArray];simp[h]
variable{F:Nat->Nat->Prop}
theorem AQ.toA{vs:List Value}(h:AQ w F ts vs):AQ w F ts vs.toArray.toList:=by simpa using h
def Ax.lone:Ax->Bool
 |.own _=>true|.AaV _ _=>true|_=>false
variable{fn:Func}{r:Ax}
theorem Ul(I:AO F0 w0 O a w G){m:List RV}(k:GJ P fn.results.toList m=true)(Q:(∀b o,¬w0.E b o)\/r.lone=false)(J:r.plain=true)(h:Bx m r O):
  ∃v,(results fn a.tmps).run P w=.ok v w/\((∀b o,¬w0.E b o)->IQ w (fun b o=>b<w0.heap.size/\F0 b o) w0.heap.size r v)/\(r.lone=false->Y5 w (fun b o=>b<w0.heap.size/\F0 b o) (fun b lo=>w0.heap.size<=b\/∀o,lo<=o->w0.E b o) r v)/\r.WF:=by
 have H:∀ts,EM O m=some ts->∃vs:List Value,(fn.results.mapM (F7 a.tmps)).run P w=.ok vs.toArray w/\AQ w (AT w0.heap.size F0 G) ts vs/\TV.sc ts:=by
  grind [H2,GB]
 have l:(results fn a.tmps)=(fn.results.mapM (F7 a.tmps)>>=fun vs=>pure (if h:vs.size=1 then vs[0]else .tuple vs)):=by
  unfold results;congr 1
 have M:Bg w w (AT w0.heap.size F0 G) (fun b o=>b<w0.heap.size/\F0 b o):=fun b o u V W=>⟨V,fun hF'=>W (.inl hF')⟩;cases r with
 |sh t=>
  have A:∃x,m=[x]/\x.get O=some t:=by
   rcases m with _|⟨x,_|⟨y,m⟩⟩<;>simp[Bx]at h;exact⟨x,rfl,h⟩
  obtain ⟨x,rfl,hx⟩:=A;obtain⟨vs,e1,L,e3⟩:=H [t] (by simp[EM,hx]);simp only[AQ]at L;obtain⟨v,r',rfl,e4,rfl⟩:=L;refine⟨v,?_,fun _=>CG M _ _ e4,fun _=>CG M _ _ e4,e3.1⟩;rw[l];simp[e1]
 |own t=>
  have A:∃s,m=[.tmp s]/\O.get s=.ow t:=by
   rcases m with _|⟨x,_|⟨y,m⟩⟩
   .simp[Bx]at h
   .cases x<;>simp[Bx]at h;exact⟨_,rfl,h⟩
   .simp[Bx]at h
  obtain ⟨s,rfl,K⟩:=A;obtain⟨vs,e1,L,e3⟩:=H [t] (by simp[EM,RV.get,K,EV.val]);have hr:Qj P (.tmp s) (.tmp s)=true:=by simp[Qj]
  have B:=AW I K (by simp);have C:=I.wf s;rw[K]at C;simp[AN]at B;have z:fn.results.toList=[.tmp s]:=by
   rcases hx:fn.results.toList with _|⟨x,_|⟨y,xs⟩⟩<;>rw[hx]at k
   .simp[GJ]at k
   .cases x<;>simp[GJ,Qj]at k;rw[k]
   .simp[GJ]at k
  have hv:(results fn a.tmps).run P w=.ok (slot a s) w:=by
   rw [l];have hm:(fn.results.mapM (F7 a.tmps)).run P w=.ok [slot a s].toArray w:=by
    refine GB ?_;rw[z];simp[List.mapM_cons,F7,slot]
   simp [hm]
  replace Q:=Q.resolve_right (by simp[Ax.lone]);refine⟨slot a s,hv,fun _=>⟨G s none,B.kept (fun b o u V W=>⟨V,?_⟩) (fun _ _ _=>rfl),fun b lo X=>?_⟩,fun e=>by simp[Ax.lone]at e,C⟩
  .rintro(A|⟨lo,A,Y⟩)
   .exact W (.inl A)
   .exact W (.inr ⟨s,none,lo,A,Y⟩)
  .have:=I.lt _ _ _ _ X;exact⟨this.2.resolve_right (fun e=>Q _ _ (e _ (az _))),this.1⟩
 |tp ts=>
  simp [Bx]at h;have hne:m.length≠1:=by
   grind
  have Y:EM O m=some ts:=by
   grind
  obtain ⟨vs,e1,L,e3⟩:=H ts Y;have hlen:vs.length≠1:=by
   rw [BH L];have:∀(m:List RV)(ts:Fq),EM O m=some ts->ts.length=m.length:=by
    intro m
    induction m with
    |nil=>intro ts h;simp[EM]at h;subst h;rfl|cons y m ih=>
     grind [EM,sr]
   grind
  refine ⟨.tuple vs.toArray,?_,fun _=>⟨vs.toArray,rfl,(As M _ _ L).toA⟩,fun _=>⟨vs.toArray,rfl,(As M _ _ L).toA⟩,e3⟩;rw[l];simp[e1,hlen]
 |AaV n es=>
  have A:∃s,m=[.tmp s]/\O.get s=.xo n es:=by
   rcases m with _|⟨x,_|⟨y,m⟩⟩
   .simp[Bx]at h
   .cases x<;>simp[Bx]at h;exact⟨_,rfl,h⟩
   .simp[Bx]at h
  obtain ⟨s,rfl,K⟩:=A;have B:=AW I K (by simp);have C:=I.wf s;rw[K]at C;simp[AN]at B;obtain⟨xs,⟨z0,k1,k2⟩,k3,k4,k5⟩:=B;have z:fn.results.toList=[.tmp s]:=by
   rcases hx:fn.results.toList with _|⟨x,_|⟨y,xs⟩⟩<;>rw[hx]at k
   .simp[GJ]at k
   .cases x<;>simp[GJ,Qj]at k;rw[k]
   .simp[GJ]at k
  have hv:(results fn a.tmps).run P w=.ok (slot a s) w:=by
   rw [l];have hm:(fn.results.mapM (F7 a.tmps)).run P w=.ok [slot a s].toArray w:=by
    refine GB ?_;rw[z];simp[List.mapM_cons,F7,slot]
   simp [hm]
  replace Q:=Q.resolve_right (by simp[Ax.lone]);refine⟨slot a s,hv,fun _=>⟨z0,xs,k1,As (fun b o u V hf=>⟨V,fun hf'=>hf ?_⟩) _ _ k3,k4,k5,fun b lo X=>?_⟩,fun e=>by simp[Ax.lone]at e,C⟩
  .rcases hf' with h6|⟨lo,h6⟩
   .exact .inl h6
   .exact .inr ⟨s,none,0,by rw[k2,h6];rfl,Nat.zero_le _⟩
  .have:=I.lt s none b 0 (by rw[k2,X];rfl);exact⟨this.2.resolve_right (fun e=>Q _ _ (e _ (az _))),this.1⟩
 |turn _ _=>cases J
 |cut zs=>exact h.elim|mpr _ _=>cases J
 |ag _ _ _=>cases J
 |bo _ _ _ _=>cases J
 |ext _=>cases J
 |x8 cs=>
  have A:∃s n,m=[.cell s (some n)]/\O.get s=.bx cs/\cs.length=n:=by
   rcases m with _|⟨x,_|⟨y,m⟩⟩
   .simp[Bx]at h
   .rcases x with s|⟨s,_|n⟩
    .simp[Bx]at h
    .simp[Bx]at h
    .exact⟨s,n,rfl,h⟩
   grind [Bx]
  obtain ⟨s,n,rfl,K,hn⟩:=A;have hbx:=AW I K (by simp);have C:=I.wf s;rw[K]at C;simp only[AN]at hbx;obtain⟨b,c,T,k1,k2,k3,k4,k5⟩:=hbx;have z:∃ty,fn.results.toList=[.cell s ty]/\B9 P ty=some true/\C0 P ty=some n:=by
   rcases hx:fn.results.toList with _|⟨x,_|⟨y,xs⟩⟩<;>rw[hx]at k
   .simp[GJ]at k
   .cases x<;>simp[GJ,Qj]at k;obtain⟨⟨rfl,A⟩,Y⟩:=k;exact⟨_,rfl,A,Y⟩
   .simp[GJ]at k
  obtain ⟨ty,z,hag',hcn⟩:=z;have hv:(results fn a.tmps).run P w=.ok (.agg c) w:=by
   rw [l];have S:=run_loadCells_list (P:=P) w ⟨b,0,none⟩ c.toList (fun j v hv=>by
    have:=cell_of_row w b j c T (0,0) k2;rw[show((⟨b,0,none⟩:Addr).add j)=⟨b,j,none⟩by simp[Addr.add];omega,this];simpa using hv)
   rw [Array.length_toList,k3,hn]at S;have h1':a.tmps.getD s undef=.pointer (some ⟨b,0,none⟩):=k1;have hm:(fn.results.mapM (F7 a.tmps)).run P w=.ok [.agg c].toArray w:=by
    refine GB ?_;rw[z];simp[List.mapM_cons,F7,h1',loadVar,Cp hag',CE hcn,S,asAddr]
   simp [hm]
  have hsz:s<a.tmps.size:=Bi I K (by simp)
  let Z:DX:=fun q i=>if q=0/\i=none then none else Bs a G s q i
  have hZ:∀{q i b lo},Z q i=some (b,lo)->Bs a G s q i=some (b,lo):=by
   intro q i b lo R;simp only[Z]at R;split at R
   .cases R
   .exact R
  have U:∀N:Nat->Nat->Prop,(∀b lo,b<w.heap.size->(w0.heap.size<=b\/∀o,lo<=o->w0.E b o)->N b lo)->ZR w (fun b o=>b<w0.heap.size/\F0 b o) N cs (.agg c):=by
   intro N hN;refine⟨Z,⟨c,rfl,k3,fun i d hd=>?_⟩,fun q i q' i' b lo lo' e1 L=>Ju I hsz _ _ _ _ _ _ _ (hZ e1) (hZ L),by simp[Z],fun q i b lo R=>?_⟩
   .obtain⟨x,j1,j2⟩:=k5 i d hd;have hz0:Z 0 (some i)=G s (some i):=by simp[Z,DK]
    refine ⟨x,j1,?_,Gr j2⟩;rw[hz0];refine BG.tg (j2.kept (fun b o u V W=>⟨V,?_⟩) (fun _ _ _=>rfl) BI.rfl') (fun g lo j R=>?_)
    .rintro(A|⟨q,j,lo,A,Y⟩)
     .exact W (.inl A)
     .obtain⟨p,j',f1,_⟩:=CM (hZ A);exact W (.inr ⟨p,j',lo,f1,Y⟩)
    .simp only[DX.tg,Z];rw[ae (by omega)];exact Ov R j
   .obtain⟨p,j',f1,_⟩:=CM (hZ R);have:=I.lt _ _ _ _ f1;exact⟨this.1,hN _ _ this.1 this.2⟩
  refine ⟨.agg c,hv,fun Q=>U _ fun b lo _ X=>X.resolve_right (fun e=>Q _ _ (e _ (az _))),fun _=>U _ fun b lo _ X=>X,C⟩
variable{f:FuncId}{c:Code}{pl:PC}{rv:List RV}
theorem Zz(hD:LJ P fn.ntmps D)(hf:P.funcs[f]? =some fn)(hb:fn.body=some c)(hname:fn.name≠ "runtime.NumGoroutine")(hok:De P fn.ntmps D pl c=true)(hrv:GJ P fn.results.toList rv=true)
  {args:Fq}(hn:args.length<=fn.ntmps)(hp:r.plain=true)(h:TV.sc args->pl.wp (AU P) ⟨Bx rv r,fun _ _=>False,Bx rv r⟩ (Du 0 args)):AU P f args r:=by
 refine AU.of0 ?_ hp;intro hw;refine⟨by simp[Do,hf,hb,hname],fun F0 w vs hrep ht=>?_⟩;have hl:=BH hrep;simp at hl;have hcalls:Calls P f vs w fun e w'=>(∃v,e=.returned v/\Below w.heap.size w w'/\IQ w' (fun b o=>b<w.heap.size/\F0 b o) w.heap.size r v)/\r.WF:=by
  refine calls_of_wp hf hb ?_;have fin:∀(O:AB)(a:Act)(w':World),Bx rv r O->LK fn.ntmps none a->Bu F0 (W0.mk w fun _ _=>False) O a w'->a.defers=[]/\∃v,(results fn a.tmps).run P w'=.ok v w'/\((∃v',Ending.returned v=.returned v'/\Below w.heap.size w w'/\IQ w' (fun b o=>b<w.heap.size/\F0 b o) w.heap.size r v')/\r.WF):=by
   intro O a w' hr hN ⟨G,hI⟩;obtain⟨v,e1,e2,_,e3⟩:=Ul (P:=P) hI hrv (.inl fun _ _ h=>h) hp hr;exact⟨hI.defers,v,e1,⟨v,rfl,⟨hI.below.os,hI.below.tape,hI.below.output,hI.below.size,fun k hk=>hI.below.block k hk (fun _ h=>h)⟩,e2 fun _ _ h=>h⟩,e3⟩
  refine Np (p:=none) hD pl c hok (.inl fun _ _ h=>h) (by simp) _ _ ?_ ?_ ?_ _ _ w ?_ (Bu.start hrep hw ht) (h hw)
  .exact fun O a w' h1 h2 h3=>fin O a w' h1 h2 h3
  .grind
  .exact fun O a w' h1 h2 h3=>fin O a w' h1 h2 h3
  .exact⟨by simp;omega,by simp⟩
 refine ⟨?_,hcalls.mono fun e w' h=>h.1⟩;obtain⟨_,_,_,h1,_⟩:=hcalls [];exact h1.2
def T5(i m:Nat)(Z:DX):BU:=fun s=>if s=i then Z 0 else if m<=s then(fun j=>match j with|some j=>Z (s-m+1) (some j)|none=>none)else fun _=>none
variable{Z:DX}
theorem cQ{i m:Nat}{p:Nat}{j:Option Nat}{b lo:Nat}(h:T5 i m Z p j=some (b,lo)):(p=i/\Z 0 j=some (b,lo))\/(p≠i/\m<=p/\Z (p-m+1) j=some (b,lo)):=by
 simp [T5]at h
 grind
variable{i:Nat}{v:Value}
theorem Bu.startZ{w:World}{F0:Nat->Nat->Prop}{vs:Array Value}{e:EV}(h:AQ w (fun b o=>F0 b o\/ZF Z b o) ts vs.toList)(Q:TV.sc ts)(C:e.WF)
  (hi:vs[i]?=some v)(E:JG Z)(H:∀q i b lo,Z q i=some (b,lo)->b<w.heap.size)(I:∀b o S,ZF Z b o->¬F0 b S)(d:We w (ZF Z))
  (R:∀a:Act,slot a i=v->∀G:BU,G i=Z 0->tg a G=Z.tg->∀L,Bg w w (fun b o=>F0 b o\/ZF Z b o) L->AN a w L G ((i,e)::Du 0 ts) i e v):
  Bu F0 (W0.mk w (ZF Z)) ((i,e)::Du 0 ts) {tmps:=vs++Array.replicate n undef,defers:=[]} w:=by
 have X:=BH h;simp at X;have l:i<vs.size:=(Array.getElem?_eq_some_iff.1 hi).1
 let G:BU:=T5 i (vs.size+n) Z
 have A:∀p j b lo,G p j=some (b,lo)->∃q,Z q j=some (b,lo)/\((p=i/\q=0)\/(p≠i/\q=p-(vs.size+n)+1/\vs.size+n<=p)):=by
  intro p j b lo W;rcases cQ W with⟨z,K⟩|⟨z,K,M⟩
  .grind
  grind
 have m:Bg w w (fun b o=>F0 b o\/ZF Z b o) (AT w.heap.size F0 G):=by
  refine fun b o u T hf=>⟨T,?_⟩;rintro(⟨_,z⟩|⟨p,j,lo,z,K⟩)
  .exact hf (.inl z)
  .obtain⟨q,M,_⟩:=A _ _ _ _ z;exact hf (.inr ⟨q,j,lo,M,K⟩)
 have x:∀s(k:s<vs.size),slot {tmps:=vs++Array.replicate n undef,defers:=[]} s=vs[s]:=by
  intro s k;simp[slot,Array.getD_eq_getD_getElem?,Array.getElem?_append,k]
 refine ⟨G,fun p j p' j' b lo U J V=>?_,fun p j b lo J=>?_,⟨rfl,rfl,rfl,az _,fun _ _ _=>rfl,fun _ _ _ _ h=>h,I,d⟩,rfl,fun s k=>?_,fun s k=>?_,fun s=>?_⟩
 .obtain⟨q,B,f2⟩:=A _ _ _ _ J;obtain⟨q',f3,f4⟩:=A _ _ _ _ V;have:=E _ _ _ _ _ _ _ B f3;exact⟨by omega,this.2⟩
 .obtain⟨q,B,_⟩:=A _ _ _ _ J;exact⟨H _ _ _ _ B,.inr fun o ho=>⟨q,j,lo,B,ho⟩⟩
 .simp at k;rw[AB.eb,ae (by omega),Jz,a6 (Nat.zero_le _),List.getElem?_eq_none (by omega)]
 .rw[AB.eb];by_cases y:i=s
  .subst y;rw[a6 rfl,x i l];have hv:vs[i]=v:=by
    grind
   rw [hv];refine R _ (by rw[x i l,hv]) G (by simp[G,T5]) ?_ _ m;funext g j;simp only[tg,G,T5,Array.size_append,Array.size_replicate,DX.tg];rw[ae (by omega),a6 (by omega)];show Z (vs.size+n+g-(vs.size+n)+1) (some j)=Z (g+1) (some j);rw[Nat.add_sub_cancel_left]
  .rw[ae y,Jz,a6 (Nat.zero_le _),Nat.sub_zero];cases d:ts[s]? with
   |none=>trivial|some t=>
    have Y:s<vs.size:=by
     grind
    have hv:vs.toList[s]?=some (slot {tmps:=vs++Array.replicate n undef,defers:=[]} s):=by
     grind
    exact CG m _ _ (((Bf _ _).1 h).2 s t _ d hv)
 .rw[AB.eb];split
  .exact C
  .rw[Jz,a6 (Nat.zero_le _),Nat.sub_zero];cases d:ts[s]? with
   |none=>trivial|some t=>exact Br.1 Q t (List.mem_of_getElem? d)
theorem Bu.startB{w:World}{F0:Nat->Nat->Prop}{vs:Array Value}{cs:List AS}(h:AQ w (fun b o=>F0 b o\/ZF Z b o) ts vs.toList)(y:TV.sc ts)(g:∀c∈cs,c.t.WF)
  (hi:vs[i]?=some v)(z:Nb w (fun b o=>F0 b o\/ZF Z b o) Z cs v)(k:JG Z)(l:∀q i b lo,Z q i=some (b,lo)->b<w.heap.size)(m:∀b o B,ZF Z b o->¬F0 b B)(A:We w (ZF Z)):
  Bu F0 (W0.mk w (ZF Z)) ((i,.bx cs)::Du 0 ts) {tmps:=vs++Array.replicate n undef,defers:=[]} w:=by
 refine Bu.startZ (e:=.bx cs) h y g hi k l m A fun a R G u C S s=>?_;obtain⟨b,c,T,H,I,J,K,L⟩:=z;simp only[AN];refine⟨b,c,T,H,I,J,by rw[u];exact K,fun j d E=>?_⟩;obtain⟨x,M,Q⟩:=L j d E;refine⟨x,M,?_⟩;rw[u,C];exact Q.kept s (fun _ _ _=>rfl) BI.rfl'
theorem Bu.startA{w:World}{F0:Nat->Nat->Prop}{vs:Array Value}{cs:List AS}(h:AQ w (fun b o=>F0 b o\/ZF Z b o) ts vs.toList)(u:TV.sc ts)(g:∀c∈cs,c.t.WF)
  (hi:vs[i]?=some v)(y:VO w (fun b o=>F0 b o\/ZF Z b o) Z cs v)(k:JG Z)(l:∀q i b lo,Z q i=some (b,lo)->b<w.heap.size)(m:∀b o A,ZF Z b o->¬F0 b A)(z:We w (ZF Z)):
  Bu F0 (W0.mk w (ZF Z)) ((i,.x8 cs)::Du 0 ts) {tmps:=vs++Array.replicate n undef,defers:=[]} w:=by
 refine Bu.startZ (e:=.x8 cs) h u g hi k l m z fun a M G B C Q s=>?_;obtain⟨xs,H,I,J⟩:=y;simp[AN];refine⟨xs,H,I,fun j d E=>?_⟩;obtain⟨x,K,L,_⟩:=J j d E;refine⟨x,K,?_⟩;rw[B,C];exact L.kept s (fun _ _ _=>rfl) BI.rfl'
variable{us:Fq}
theorem gu(hD:LJ P fn.ntmps D)(hf:P.funcs[f]? =some fn)(hb:fn.body=some c)(hname:fn.name≠ "runtime.NumGoroutine")(hok:De P fn.ntmps D pl c=true)(hrv:GJ P fn.results.toList rv=true)
  {args:Fq}(hn:args.length<=fn.ntmps){cs cs':List AS}(hcl:pl.t1=true)(hdst:pl.t5 i=true)(h:TV.sc args->(∀c∈cs,c.t.WF)->pl.wp (AU P) ⟨Bx rv (.bo cs cs' i us),fun _ _=>False,Bx rv (.bo cs cs' i us)⟩ ((i,.bx cs)::Du 0 args)):AU P f args (.bo cs cs' i us):=by
 intro hw hwc;refine⟨by simp[Do,hf,hb,hname],fun F0 w vs v Z hrep hvi hbox hzu hzl hfree ht=>?_⟩;have hl:=BH hrep;simp at hl;have hcalls:Calls P f vs w fun e w'=>((∀c∈cs',c.t.WF)/\TV.sc us)/\∃r Z',e=.returned r/\Gd Z w w'/\Nb w' (fun b o=>(b<w.heap.size/\F0 b o)\/ZF Z' b o) Z' cs' v/\
   JG Z'/\(∀q i b lo,Z' q i=some (b,lo)->b<w'.heap.size/\(w.heap.size<=b\/∃p j lo',Z p j=some (b,lo')/\lo'<=lo))/\
   Ps w' (fun b o=>(b<w.heap.size/\F0 b o)\/ZF Z' b o) us r:=by
  refine calls_of_wp hf hb ?_;have fin:∀(O:AB)(a:Act)(w':World),Bx rv (.bo cs cs' i us) O->LK fn.ntmps (some (i,v)) a->Bu F0 (W0.mk w (ZF Z)) O a w'->a.defers=[]/\∃r,(results fn a.tmps).run P w'=.ok r w'/\(((∀c∈cs',c.t.WF)/\TV.sc us)/\∃r' Z',Ending.returned r=.returned r'/\Gd Z w w'/\Nb w' (fun b o=>(b<w.heap.size/\F0 b o)\/ZF Z' b o) Z' cs' v/\
    JG Z'/\(∀q i b lo,Z' q i=some (b,lo)->b<w'.heap.size/\(w.heap.size<=b\/∃p j lo',Z p j=some (b,lo')/\lo'<=lo))/\
    Ps w' (fun b o=>(b<w.heap.size/\F0 b o)\/ZF Z' b o) us r'):=by
   rintro O a w' ⟨hs,hr⟩ hN ⟨G,hI⟩;have hag:Bg w' w' (AT w.heap.size F0 G) (fun b o=>(b<w.heap.size/\F0 b o)\/ZF (Bs a G i) b o):=by
    refine fun b o u hc hF=>⟨hc,?_⟩;rintro(h1|⟨q,j,lo,h1,h2⟩)
    .exact hF (.inl h1)
    .obtain⟨p,j',f1,_⟩:=CM h1;exact hF (.inr ⟨p,j',lo,f1,h2⟩)
   have hisz:i<a.tmps.size:=Bi hI hs (by simp);have hbx:=AW hI hs (by simp);have hwb:=hI.wf i;rw[hs]at hwb;rw[hN.pin i v rfl]at hbx;simp only[AN]at hbx;obtain⟨b,c,T,k1,k2,k3,k4,k5⟩:=hbx;obtain⟨vs',e1,e2,e3⟩:=H2 (P:=P) hI hrv hr;have hm:=GB e1;have hshape:(results fn a.tmps)=(fn.results.mapM (F7 a.tmps)>>=fun vs=>pure (if h:vs.size=1 then vs[0]else .tuple vs)):=by
    unfold results;congr 1
   have hlen:=BH e2;have hres:∃r,(results fn a.tmps).run P w'=.ok r w'/\Ps w' (AT w.heap.size F0 G) us r:=by
    rw [hshape];by_cases h1:vs'.length=1
    .obtain⟨x,rfl⟩:=List.length_eq_one_iff.1 h1;rcases us with _|⟨t,_|⟨t',us⟩⟩
     .simp at hlen
     .simp only[AQ]at e2;obtain⟨v',r',hv',e4,rfl⟩:=e2;simp at hv';subst hv';exact⟨x,by simp[hm],e4⟩
     .simp at hlen
    .refine⟨.tuple vs'.toArray,by simp[hm,h1],?_⟩;rcases us with _|⟨t,_|⟨t',us⟩⟩
     .exact⟨_,rfl,e2.toA⟩
     .grind
     .exact⟨_,rfl,e2.toA⟩
   obtain ⟨r,hr1,hr2⟩:=hres;refine⟨hI.defers,r,hr1,⟨hwb,e3⟩,r,Bs a G i,rfl,?_,⟨b,c,T,k1,k2,k3,by rw[DK];exact k4,fun j d hj=>?_⟩,Ju hI hisz,fun q j b lo f1=>?_,?_⟩
   .exact⟨hI.below.os,hI.below.tape,hI.below.output,hI.below.size,fun k hk hz=>hI.below.block k hk (fun o⟨q,j,lo,f1,_⟩=>hz q j lo f1),fun b o u hz hu=>hI.below.cell b o u hz hu⟩
   .obtain⟨x,f1,f2⟩:=k5 j d hj;refine⟨x,f1,?_⟩;rw[DK];exact BG.tg (f2.kept hag (fun _ _ _=>rfl) BI.rfl') fun g lo j' hz=>Ov hz j'
   .obtain⟨p,j',g1,_⟩:=CM f1;obtain⟨f2,f3⟩:=hI.lt _ _ _ _ g1;refine⟨f2,f3.imp id (fun e=>?_)⟩;exact e lo (az _)
   .rcases us with _|⟨t,_|⟨t',us⟩⟩
    .obtain⟨vs2,f1,f2⟩:=hr2;exact⟨vs2,f1,As hag _ _ f2⟩
    .exact CG hag _ _ hr2
    .obtain⟨vs2,f1,f2⟩:=hr2;exact⟨vs2,f1,As hag _ _ f2⟩
  refine Np (p:=some (i,v)) hD pl c hok (.inr hcl) (fun j u hp=>by cases hp;exact hdst) _ _ ?_ ?_ ?_ _ _ w ?_ (Bu.startB hrep hw hwc hvi hbox hzu hzl hfree ht) (h hw hwc)
  .exact fun O a w' h1 h2 h3=>fin O a w' h1 h2 h3
  .exact fun i O a w' h1 _ _=>h1.elim
  .exact fun O a w' h1 h2 h3=>fin O a w' h1 h2 h3
  .have hil:i<vs.size:=(Array.getElem?_eq_some_iff.1 hvi).1;refine⟨by simp;omega,fun j u hp=>?_⟩;cases hp;have:=Array.getElem?_eq_getElem hil;rw[this]at hvi;simp at hvi;simp[slot,Array.getD_eq_getD_getElem?,Array.getElem?_append,hil,hvi]
 refine ⟨?_,hcalls.mono fun e w' h=>h.2⟩;obtain⟨_,_,_,h1,_⟩:=hcalls [];exact h1.1
def Wk(cs'' cs':List AS):Prop:=cs''.length=cs'.length/\∀(i:Nat)(d:AS),cs'[i]?=some d->∃d',cs''[i]?=some d'/\(d=d'\/d=⟨false,.undef⟩)
theorem Wk.wf{b cs':List AS}(h:Wk b cs')(e:∀c∈b,c.t.WF):∀c∈cs',c.t.WF:=by
 intro c d;obtain⟨i,hi⟩:=List.getElem?_of_mem d;obtain⟨g,j,rfl|rfl⟩:=h.2 i c hi
 .grind
 .exact trivial
theorem Wk.cell{w:World}{ρ:IB}{z:Option (Nat×Nat)}{x:Value}{d b:AS}(h:d=b\/d=⟨false,.undef⟩)(e:BG w F ρ z b x):BG w F ρ z d x:=by
 rcases h with rfl|rfl
 .exact e
 .have:x.oneCell'=true:=by
   obtain ⟨o,t⟩:=b;cases o with
   |true=>exact Of e|false=>exact e.2
  exact ⟨by simp[An];exact this,this⟩
def bH(rv:List RV)(cs cs':List AS)(i:Nat)(us:Fq)(O:AB):Prop:=∃cs'',Wk cs'' cs'/\Bx rv (.bo cs cs'' i us) O
theorem ew(hD:LJ P fn.ntmps D)(hf:P.funcs[f]? =some fn)(hb:fn.body=some c)(hname:fn.name≠ "runtime.NumGoroutine")(hok:De P fn.ntmps D pl c=true)(hrv:GJ P fn.results.toList rv=true)
  {args:Fq}(hn:args.length<=fn.ntmps){cs cs':List AS}(hcl:pl.t1=true)(hdst:pl.t5 i=true)(h:TV.sc args->(∀c∈cs,c.t.WF)->pl.wp (AU P) ⟨bH rv cs cs' i us,fun _ _=>False,bH rv cs cs' i us⟩ ((i,.bx cs)::Du 0 args)):AU P f args (.bo cs cs' i us):=by
 intro hw hwc;refine⟨by simp[Do,hf,hb,hname],fun F0 w vs v Z hrep hvi hbox hzu hzl hfree ht=>?_⟩;have hl:=BH hrep;simp at hl;have hcalls:Calls P f vs w fun e w'=>((∀c∈cs',c.t.WF)/\TV.sc us)/\∃r Z',e=.returned r/\Gd Z w w'/\Nb w' (fun b o=>(b<w.heap.size/\F0 b o)\/ZF Z' b o) Z' cs' v/\
   JG Z'/\(∀q i b lo,Z' q i=some (b,lo)->b<w'.heap.size/\(w.heap.size<=b\/∃p j lo',Z p j=some (b,lo')/\lo'<=lo))/\
   Ps w' (fun b o=>(b<w.heap.size/\F0 b o)\/ZF Z' b o) us r:=by
  refine calls_of_wp hf hb ?_;have fin:∀(O:AB)(a:Act)(w':World),bH rv cs cs' i us O->LK fn.ntmps (some (i,v)) a->Bu F0 (W0.mk w (ZF Z)) O a w'->a.defers=[]/\∃r,(results fn a.tmps).run P w'=.ok r w'/\(((∀c∈cs',c.t.WF)/\TV.sc us)/\∃r' Z',Ending.returned r=.returned r'/\Gd Z w w'/\Nb w' (fun b o=>(b<w.heap.size/\F0 b o)\/ZF Z' b o) Z' cs' v/\
    JG Z'/\(∀q i b lo,Z' q i=some (b,lo)->b<w'.heap.size/\(w.heap.size<=b\/∃p j lo',Z p j=some (b,lo')/\lo'<=lo))/\
    Ps w' (fun b o=>(b<w.heap.size/\F0 b o)\/ZF Z' b o) us r'):=by
   rintro O a w' ⟨cs'',hwk,hs,hr⟩ hN ⟨G,hI⟩;have hag:Bg w' w' (AT w.heap.size F0 G) (fun b o=>(b<w.heap.size/\F0 b o)\/ZF (Bs a G i) b o):=by
    refine fun b o u hc hF=>⟨hc,?_⟩;rintro(h1|⟨q,j,lo,h1,h2⟩)
    .exact hF (.inl h1)
    .obtain⟨p,j',f1,_⟩:=CM h1;exact hF (.inr ⟨p,j',lo,f1,h2⟩)
   have hisz:i<a.tmps.size:=Bi hI hs (by simp);have hbx:=AW hI hs (by simp);have hwb:=hI.wf i;rw[hs]at hwb;rw[hN.pin i v rfl]at hbx;simp only[AN]at hbx;obtain⟨b,c,T,k1,k2,k3,k4,k5⟩:=hbx;obtain⟨vs',e1,e2,e3⟩:=H2 (P:=P) hI hrv hr;have hm:=GB e1;have hshape:(results fn a.tmps)=(fn.results.mapM (F7 a.tmps)>>=fun vs=>pure (if h:vs.size=1 then vs[0]else .tuple vs)):=by
    unfold results;congr 1
   have hlen:=BH e2;have hres:∃r,(results fn a.tmps).run P w'=.ok r w'/\Ps w' (AT w.heap.size F0 G) us r:=by
    rw [hshape];by_cases h1:vs'.length=1
    .obtain⟨x,rfl⟩:=List.length_eq_one_iff.1 h1;rcases us with _|⟨t,_|⟨t',us⟩⟩
     .simp at hlen
     .simp only[AQ]at e2;obtain⟨v',r',hv',e4,rfl⟩:=e2;simp at hv';subst hv';exact⟨x,by simp[hm],e4⟩
     .simp at hlen
    .refine⟨.tuple vs'.toArray,by simp[hm,h1],?_⟩;rcases us with _|⟨t,_|⟨t',us⟩⟩
     .exact⟨_,rfl,e2.toA⟩
     .grind
     .exact⟨_,rfl,e2.toA⟩
   obtain ⟨r,hr1,hr2⟩:=hres;refine⟨hI.defers,r,hr1,⟨hwk.wf hwb,e3⟩,r,Bs a G i,rfl,?_,⟨b,c,T,k1,k2,k3.trans hwk.1,by rw[DK];exact k4,fun j d hj=>?_⟩,Ju hI hisz,fun q j b lo f1=>?_,?_⟩
   .exact⟨hI.below.os,hI.below.tape,hI.below.output,hI.below.size,fun k hk hz=>hI.below.block k hk (fun o⟨q,j,lo,f1,_⟩=>hz q j lo f1),fun b o u hz hu=>hI.below.cell b o u hz hu⟩
   .obtain⟨d',hd',hdd⟩:=hwk.2 j d hj;obtain⟨x,f1,f2⟩:=k5 j d' hd';refine⟨x,f1,Wk.cell hdd ?_⟩;rw[DK];exact BG.tg (f2.kept hag (fun _ _ _=>rfl) BI.rfl') fun g lo j' hz=>Ov hz j'
   .obtain⟨p,j',g1,_⟩:=CM f1;obtain⟨f2,f3⟩:=hI.lt _ _ _ _ g1;refine⟨f2,f3.imp id (fun e=>?_)⟩;exact e lo (az _)
   .rcases us with _|⟨t,_|⟨t',us⟩⟩
    .obtain⟨vs2,f1,f2⟩:=hr2;exact⟨vs2,f1,As hag _ _ f2⟩
    .exact CG hag _ _ hr2
    .obtain⟨vs2,f1,f2⟩:=hr2;exact⟨vs2,f1,As hag _ _ f2⟩
  refine Np (p:=some (i,v)) hD pl c hok (.inr hcl) (fun j u hp=>by cases hp;exact hdst) _ _ ?_ ?_ ?_ _ _ w ?_ (Bu.startB hrep hw hwc hvi hbox hzu hzl hfree ht) (h hw hwc)
  .exact fun O a w' h1 h2 h3=>fin O a w' h1 h2 h3
  .exact fun i O a w' h1 _ _=>h1.elim
  .exact fun O a w' h1 h2 h3=>fin O a w' h1 h2 h3
  .have hil:i<vs.size:=(Array.getElem?_eq_some_iff.1 hvi).1;refine⟨by simp;omega,fun j u hp=>?_⟩;cases hp;have:=Array.getElem?_eq_getElem hil;rw[this]at hvi;simp at hvi;simp[slot,Array.getD_eq_getD_getElem?,Array.getElem?_append,hil,hvi]
 refine ⟨?_,hcalls.mono fun e w' h=>h.2⟩;obtain⟨_,_,_,h1,_⟩:=hcalls [];exact h1.1
theorem gq(hD:LJ P fn.ntmps D)(hf:P.funcs[f]? =some fn)(hb:fn.body=some c)(hname:fn.name≠ "runtime.NumGoroutine")(hok:De P fn.ntmps D pl c=true)(hrv:GJ P fn.results.toList rv=true)
  {args:Fq}(hn:args.length<=fn.ntmps){cs:List AS}(hcl:pl.t1=true)(hp:r.plain=true)(hlo:r.lone=false)(h:TV.sc args->(∀c∈cs,c.t.WF)->pl.wp (AU P) ⟨Bx rv r,fun _ _=>False,Bx rv r⟩ ((i,.x8 cs)::Du 0 args)):AU P f args (.ag cs i r):=by
 intro hw hwc;refine⟨by simp[Do,hf,hb,hname],fun F0 w vs v Z hrep hvi hbox hzu hzl hfree ht=>?_⟩;have hl:=BH hrep;simp at hl;have hcalls:Calls P f vs w fun e w'=>r.WF/\∃v',e=.returned v'/\Gd Z w w'/\Y5 w' (fun b o=>b<w.heap.size/\F0 b o) (fun b lo=>w.heap.size<=b\/∃p j lo',Z p j=some (b,lo')/\lo'<=lo) r v':=by
  refine calls_of_wp hf hb ?_;have fin:∀(O:AB)(a:Act)(w':World),Bx rv r O->LK fn.ntmps none a->Bu F0 (W0.mk w (ZF Z)) O a w'->a.defers=[]/\∃v,(results fn a.tmps).run P w'=.ok v w'/\(r.WF/\∃v',Ending.returned v=.returned v'/\Gd Z w w'/\Y5 w' (fun b o=>b<w.heap.size/\F0 b o) (fun b lo=>w.heap.size<=b\/∃p j lo',Z p j=some (b,lo')/\lo'<=lo) r v'):=by
   intro O a w' hr hN ⟨G,hI⟩;obtain⟨v,e1,_,e2,e3⟩:=Ul (P:=P) hI hrv (.inr hlo) hp hr;refine⟨hI.defers,v,e1,e3,v,rfl,⟨hI.below.os,hI.below.tape,hI.below.output,hI.below.size,fun k hk hz=>hI.below.block k hk (fun o⟨q,j,lo,f1,_⟩=>hz q j lo f1),fun b o u hz hu=>hI.below.cell b o u hz hu⟩,?_⟩;have hN:∀b lo,(w.heap.size<=b\/∀o,lo<=o->ZF Z b o)->w.heap.size<=b\/∃p j lo',Z p j=some (b,lo')/\lo'<=lo:=fun b lo h=>h.imp id fun e=>e lo (az _);have e4:=e2 hlo;cases r with
   |sh t=>exact e4|tp ts=>exact e4|x8 ds=>
    obtain ⟨Z',f1,f2,f3,f4⟩:=e4;exact⟨Z',f1,f2,f3,fun q i b lo hz=>⟨(f4 q i b lo hz).1,hN _ _ (f4 q i b lo hz).2⟩⟩
   |_=>first|(exact Bool.noConfusion hp)|(exact Bool.noConfusion hlo)
  refine Np (p:=none) hD pl c hok (.inr hcl) (by simp) _ _ ?_ ?_ ?_ _ _ w ?_ (Bu.startA hrep hw hwc hvi hbox hzu hzl hfree ht) (h hw hwc)
  .exact fun O a w' h1 h2 h3=>fin O a w' h1 h2 h3
  .exact fun i O a w' h1 _ _=>h1.elim
  .exact fun O a w' h1 h2 h3=>fin O a w' h1 h2 h3
  .exact⟨by simp;omega,by simp⟩
 refine ⟨?_,hcalls.mono fun e w' h=>h.2⟩;obtain⟨_,_,_,h1,_⟩:=hcalls [];exact h1.1
theorem gv(hD:LJ P fn.ntmps D)(hf:P.funcs[f]? =some fn)(hb:fn.body=some c)(hname:fn.name≠ "runtime.NumGoroutine")(hok:De P fn.ntmps D pl c=true)(hrv:GJ P fn.results.toList rv=true)
  {args:Fq}(hn:args.length<=fn.ntmps){kvs:BX}(h:TV.sc args->pl.wp (AU P) ⟨Bx rv (.mpr kvs ts),fun _ _=>False,Bx rv (.mpr kvs ts)⟩ (Du 0 args)):AU P f args (.mpr kvs ts):=by
 intro hw;refine⟨by simp[Do,hf,hb,hname],fun F0 w vs hrep ht=>?_⟩;have hl:=BH hrep;simp at hl;have hcalls:Calls P f vs w fun e w'=>(∃v,e=.returned v/\Below w.heap.size w w'/\IQ w' (fun b o=>b<w.heap.size/\F0 b o) w.heap.size (.mpr kvs ts) v)/\(Ax.mpr kvs ts).WF:=by
  refine calls_of_wp hf hb ?_;have fin:∀(O:AB)(a:Act)(w':World),Bx rv (.mpr kvs ts) O->LK fn.ntmps none a->Bu F0 (W0.mk w fun _ _=>False) O a w'->a.defers=[]/\∃v,(results fn a.tmps).run P w'=.ok v w'/\((∃v',Ending.returned v=.returned v'/\Below w.heap.size w w'/\IQ w' (fun b o=>b<w.heap.size/\F0 b o) w.heap.size (.mpr kvs ts) v')/\(Ax.mpr kvs ts).WF):=by
   intro O a w' hr hN ⟨G,hI⟩;rcases rv with _|⟨⟨s⟩|⟨s,_⟩,rs⟩
   .exact hr.elim
   .obtain⟨hne,⟨b,o,h1,h2⟩,h3⟩:=hr;have hg:EM O (.tmp s::rs)=some (.AaE b::ts):=by simp[EM,RV.get,h1,EV.val,h3]
    obtain ⟨us,e1,e2,e3⟩:=H2 (P:=P) hI hrv hg;have hm:=GB e1;have hshape:(results fn a.tmps)=(fn.results.mapM (F7 a.tmps)>>=fun vs=>pure (if h:vs.size=1 then vs[0]else .tuple vs)):=by
     unfold results;congr 1
    simp [AQ]at e2;obtain⟨v0,us',rfl,e4,e5⟩:=e2;simp[An]at e4;subst e4;have hor:=AW hI h2 (by simp);have how:=hI.wf o;rw[h2]at how;simp[AN]at hor;obtain⟨k1,k2,k3⟩:=hor;have hlt:=hI.lt _ _ _ _ k2;have hus:us'.length≠0:=by
     have h6:=BH e5;have:ts.length=rs.length:=by
      have:∀(ys:List RV)(ts:Fq),EM O ys=some ts->ts.length=ys.length:=by
       intro ys
       induction ys with
       |nil=>intro ts h;simp[EM]at h;subst h;rfl|cons y ys ih=>
        grind [EM,sr]
      exact this _ _ h3
     grind
    have hag:Bg w' w' (AT w.heap.size F0 G) (fun b o=>b<w.heap.size/\F0 b o):=fun b o u hc hF=>⟨hc,fun hF'=>hF (.inl hF')⟩;refine⟨hI.defers,.tuple (Value.map (some b)::us').toArray,?_,⟨_,rfl,⟨hI.below.os,hI.below.tape,hI.below.output,hI.below.size,fun k hk=>hI.below.block k hk (fun _ h=>h)⟩,b,us',rfl,hlt.2.resolve_right (fun e=>e _ (az _)),hlt.1,k3,As hag _ _ e5⟩,how,e3.2⟩;rw[hshape];have:¬us'.length=0:=hus;simp[hm,this]
   .exact hr.elim
  refine Np (p:=none) hD pl c hok (.inl fun _ _ h=>h) (by simp) _ _ ?_ ?_ ?_ _ _ w ?_ (Bu.start hrep hw ht) (h hw)
  .exact fun O a w' h1 h2 h3=>fin O a w' h1 h2 h3
  .grind
  .exact fun O a w' h1 h2 h3=>fin O a w' h1 h2 h3
  .exact⟨by simp;omega,by simp⟩
 refine ⟨?_,hcalls.mono fun e w' h=>h.1⟩;obtain⟨_,_,_,h1,_⟩:=hcalls [];exact h1.2
end
end Go.Sf
