/- Code, and functions. -/
import Derived.Test.YtagcclhejecceaaGreatSfRegion
set_option linter.all false
namespace Go.Sf
open Go.RowKit (Below)
def DR(P:Program)(N:Nat)(D:Ne->Array Oper->List PR->Bool):PC->Code->Bool
 |.skip _,.skip=>true|.ret,.ret=>true|.exit i _,.exit j=>i==j|.seq a b,.seq c d=>DR P N D a c&&DR P N D b d|.cond c a b,.cond x p q=>AI x c&&(DR P N D a p&&DR P N D b q)|.block i c,.block j d=>i==j&&DR P N D c d|.loop _ c,.loop d=>DR P N D c d|.region rs _,.region _ ops draw=>!draw&&LS P N ops ops.toList rs|.draw ds rs _,.region _ ops draw=>draw&&D ds ops rs|.zk _ a,c=>DR P N D a c|.bad,_=>true|_,_=>false
def PC.wl:PC->Bool
 |.seq a b=>a.wl&&b.wl|.cond _ a b=>a.wl&&b.wl|.block _ c=>c.wl|.loop _ c=>c.wl|.zk _ c=>c.wl|_=>true
def wm(i:Nat)(rs:List PR):Bool:=rs.all fun r=>r.dst !=some i
def PC.wm(i:Nat):PC->Bool
 |.seq a b=>a.wm i&&b.wm i|.cond _ a b=>a.wm i&&b.wm i|.block _ c=>c.wm i|.loop _ c=>c.wm i|.zk _ c=>c.wm i|.region rs _=>Go.Sf.wm i rs|.draw _ rs _=>Go.Sf.wm i rs|_=>true
variable{i:Nat}
theorem V9{b:List PR}(h:wm i b=true):∀r∈b,r.dst≠some i:=by
 intro r d;have:=List.all_eq_true.1 h r d;simpa using this
section
variable{P:Program}{F0:Nat->Nat->Prop}{w0:W0}{N:Nat}{p:Option (Nat×Value)}{D:Ne->Array Oper->List PR->Bool}
theorem Bm.envWF{U:AB}{a:Act}{w:World}(h:Bm F0 w0 U a w):∀s,(U.get s).WF:=by
 obtain ⟨G,h⟩:=h;exact h.wf
def KG(P:Program)(N:Nat)(D:Ne->Array Oper->List PR->Bool):Prop:=
 ∀(F0:Nat->Nat->Prop)(w0:W0)(p:Option (Nat×Value))(id:Nat)(ds:Ne)(ops:Array Oper)(rs:List PR)(live:Ne)(U:AB)(a:Act)(w:World)(K:AB->Prop)(Q:Exit->Act->World->Prop),D ds ops rs=true->(∀i v,p=some (i,v)->∀r∈rs,r.dst≠some i)->KH N p a->Bm F0 w0 U a w->Qe U ds=true->wpOps (AR P) (fun e=>K (e.ff live)) rs U ->
  (∀U a w,K U->KH N p a->Bm F0 w0 U a w->Q .normal a w)->(Code.region id ops true).wp P Q a w
theorem Mg(hD:KG P N D):∀(X:PC)(c:Code),DR P N D X c=true->((∀b o,¬w0.E b o)\/X.wl=true)->(∀i v,p=some (i,v)->X.wm i=true)->∀(q:Q)(A:Exit->Act->World->Prop),
  (∀U a w,q.normal U->KH N p a->Bm F0 w0 U a w->A .normal a w)->(∀i U a w,q.exit i U->KH N p a->Bm F0 w0 U a w->A (.exit i) a w)->(∀U a w,q.ret U->KH N p a->Bm F0 w0 U a w->A .ret a w) ->
  ∀U a w,KH N p a->Bm F0 w0 U a w->X.wp (AR P) q U->c.wp P A a w:=by
 intro X
 induction X with
 |skip l=>
  intro c g K t q A C H I U a w u m h;cases c<;>simp[DR]at g<;>first|exact Go.wp_skip (C _ a w h u (m.ff l))|cases g
 |ret=>
  intro c g K t q A C H I U a w u m h;cases c<;>simp[DR]at g<;>first|exact Go.wp_ret (I U a w h u m)|cases g
 |exit i l=>
  intro c g K t q A C H I U a w u m h;cases c<;>simp only[DR]at g<;>first|cases g|skip
  simp at g;subst g;exact Go.wp_exit (H i _ a w h u (m.ff l))
 |seq x y V W=>
  intro c g K t q A C H I U a w u m h;cases c<;>simp only[DR]at g<;>first|cases g|skip
  rename_i c d;simp at g;have M:=K.imp id (fun e=>(pr _ _▸e:x.wl=true/\y.wl=true));have O:=fun i v J=>(pr _ _▸t i v J:x.wm i=true/\y.wm i=true);refine Go.wp_seq (V c g.1 (M.imp id And.left) (fun i v J=>(O i v J).1) _ _ ?_ ?_ ?_ U a w u m h)
  .intro U a w L u m;exact W d g.2 (M.imp id And.right) (fun i v J=>(O i v J).2) q A C H I U a w u m (L m.envWF)
  .exact H
  .exact I
 |cond o x y V W=>
  intro c g K t q A C H I U a w u m h;cases c<;>simp only[DR]at g<;>first|cases g|skip
  rename_i c d e;simp at g;simp[PC.wp]at h;split at h
  .rename_i b S;have hc:a.eval c=.bool b:=by
    obtain ⟨G,m⟩:=m;have:=(Au m g.1 S).1
    grind [Ah]
   have M:=K.imp id (fun e=>(pr _ _▸e:x.wl=true/\y.wl=true));have O:=fun i v J=>(pr _ _▸t i v J:x.wm i=true/\y.wm i=true);refine Go.wp_cond_split hc (fun S=>?_) (fun S=>?_)
   .exact V d g.2.1 (M.imp id And.left) (fun i v J=>(O i v J).1) q A C H I U a w u m (h.1 S)
   .exact W e g.2.2 (M.imp id And.right) (fun i v J=>(O i v J).2) q A C H I U a w u m (h.2 S)
  .exact h.elim
 |block i x ih=>
  intro c g K t q A C H I U a w u m h;cases c<;>simp only[DR]at g<;>first|cases g|skip
  rename_i j d;simp at g;obtain⟨rfl,g⟩:=g;refine Go.wp_block (ih d g K t _ _ ?_ ?_ ?_ U a w u m h)
  .exact C
  .intro k U a w L u m;simp[Exit.inBlock];simp only at L;split
   .rename_i e;rw[a6 e]at L;exact C U a w L u m
   .rename_i e;rw[ae e]at L;exact H k U a w L u m
  .exact I
 |loop B x ih=>
  intro c g K t q A C H I U a w u m h;cases c<;>simp[DR]at g<;>first|cases g|skip
  rename_i c;simp[PC.wp]at h
  let Y:Act->World->Prop:=fun a w=>∀(b:Frame)(k:List Item)(cs:List Frame),∃e a' w',A e a' w'/\Arrives P (lone (b.at a (.code c::.inLoop c::k)) cs w) b k cs e a' w'
  have hX:=h (fun e=>∀a w,KH N p a->Bm F0 w0 e a w->Y a w) ?_ a w u (m.ff B)
  .intro b k cs;obtain⟨e,a',w',R,z⟩:=hX b k cs;exact⟨e,a',w',R,.of_steps (.one step_loop) z⟩
  .intro e he a w u m;have S:c.wp P (Exit.then Y A) a w:=by
    refine ih c g K t _ _ ?_ ?_ ?_ e a w u m (he m.envWF)
    .intro U a w L u m;exact L a w u (m.ff B)
    .exact H
    .exact I
   intro b k cs;obtain⟨e,a₁,w₁,R,z⟩:=S b (.inLoop c::k) cs;cases e with
   |normal=>
    obtain ⟨e₂,a₂,w₂,hq₂,T⟩:=R b k cs;exact⟨e₂,a₂,w₂,hq₂,.of_steps (Steps.trans z (.one step_inLoop)) T⟩
   |exit id=>exact⟨_,a₁,w₁,R,.pass (x:=.inLoop c) rfl (fun _ _=>.inl (by simp)) z⟩|goto l=>exact⟨_,a₁,w₁,R,.pass (x:=.inLoop c) rfl (fun _ _=>.inl (by simp)) z⟩|ret=>exact⟨_,a₁,w₁,R,.pass (x:=.inLoop c) rfl (fun _ _=>.inl (by simp)) z⟩|panic ch=>exact⟨_,a₁,w₁,R,.pass (x:=.inLoop c) rfl (fun _ _=>.inl (by simp)) z⟩|outgrown=>exact⟨_,a₁,w₁,R,.pass (x:=.inLoop c) rfl (fun _ _=>.inl (by simp)) z⟩
 |region rs B=>
  intro c g K t q A C H I U a w u m h;cases c<;>simp only[DR]at g<;>first|cases g|skip
  rename_i id ops draw;simp[Bool.not_eq_true']at g;obtain⟨rfl,g⟩:=g;exact Z1 g (fun i v J=>V9 (t i v J)) u m h fun U a w L u m=>C _ a w L u (m.ff B)
 |draw ds rs B=>
  intro c g K t q A C H I U a w u m h;cases c<;>simp only[DR]at g<;>first|cases g|skip
  rename_i id ops draw;simp at g;obtain⟨rfl,g⟩:=g;exact hD F0 w0 p id ds ops rs B U a w q.normal A g (fun i v J=>V9 (t i v J)) u m h.1 h.2 C
 |bad=>
  intro c g K t q A C H I U a w u m h;exact h.elim
 |zk s x ih=>
  intro c g K t q A C H I U a w u m h;have hok':DR P N D x c=true:=by
   grind [DR]
  simp [PC.wp]at h;split at h
  .rename_i cs hs;obtain⟨G,m⟩:=m;exact ih c hok' (K.imp id fun e=>e) t q A C H I _ a w u (m.zk hs) h
  .exact h.elim
def C3:Nat->Fq->AB
 |_,[]=>[]|k,t::ts=>(k,.tv t)::C3 (k+1) ts
theorem I8:∀(ts:Fq)(k n:Nat),AB.get (C3 k ts) n=if k<=n then(match ts[n-k]? with|some t=>.tv t|none=>.undef)else .undef
 |[],k,n=>by simp[C3,AB.get]|t::ts,k,n=>by
  rw [C3,AB.d4,I8 ts (k+1) n]
  grind
variable{ts:Fq}{n:Nat}
theorem Bm.start{w:World}{F0:Nat->Nat->Prop}{vs:Array Value}(h:AQ w F0 ts vs.toList)(j:TV.tn ts)(d:Rv w):Bm F0 (W0.mk w fun _ _=>False) (C3 0 ts) {tmps:=vs++Array.replicate n undef,defers:=[]} w:=by
 have q:=BE h;simp at q;refine⟨fun _ _=>none,by simp,by simp,⟨rfl,rfl,rfl,az _,fun _ _ _=>rfl,fun _ _ _ _ h=>h,fun _ _ _ h=>h.elim,d,fun _ _ h=>h.elim⟩,rfl,fun s k=>?_,fun s k=>?_,fun s=>?_⟩
 .rw[I8]
  grind
 .rw[I8,a6 (Nat.zero_le _),Nat.sub_zero];cases d:ts[s]? with
  |none=>trivial|some t=>
   have e:s<vs.size:=by
    grind
   have hv:vs.toList[s]?=some (slot {tmps:=vs++Array.replicate n undef,defers:=[]} s):=by
    simp [slot,Array.getD_eq_getD_getElem?,Array.getElem?_append,e]
   refine B5 (fun b o u l m=>⟨l,?_⟩) _ _ (((BZ _ _).1 h).2 s t _ d hv);rintro(g|⟨_,_,_,g,_⟩)
   .exact m g.2
   .cases g
 .rw[I8,a6 (Nat.zero_le _),Nat.sub_zero];cases d:ts[s]? with
  |none=>trivial|some t=>exact Bj.1 j t (List.mem_of_getElem? d)
def Pg(P:Program):ResultVar->RV->Bool
 |.tmp t,.tmp s=>t==s|.cell x t,.cell s none=>x==s&&Bv P t==some false|.cell x t,.cell s (some n)=>x==s&&Bv P t==some true&&Cn P t==some n|_,_=>false
def Fw(P:Program):List ResultVar->List RV->Bool
 |[],[]=>true|x::xs,y::ys=>Pg P x y&&Fw P xs ys|_,_=>false
def Fm(tmps:Array Value):ResultVar->Sem Value
 |.tmp t=>pure (tmps.getD t undef)|.cell a t=>do loadVar t (<-asAddr (tmps.getD a undef))
variable{U:AB}{a:Act}{w:World}{G:BP}
theorem YJ(m:AO F0 w0 U a w G){x:ResultVar}{y:RV}(d:Pg P x y=true){t:TV}(h:y.get U=some t):∃v,(Fm a.tmps x).run P w=.ok v w/\Ah w (AS w0.heap.size F0 G) t v/\t.WF:=by
 have e:∀s,AI (.tmp s) (.s s)=true:=fun s=>by simp[AI]
 cases x with
 |tmp s=>
  cases y with
  |tmp s'=>
   simp [Pg]at d;subst d;have:=Au m (e s) (t:=t) h;exact⟨slot a s,rfl,this⟩
  |cell s' n=>cases n<;>simp[Pg]at d
 |cell s ty=>
  cases y with
  |tmp _=>cases d
  |cell s' n=>
   cases n with
   |none=>
    simp [Pg]at d;obtain⟨rfl,z⟩:=d;simp[RV.get]at h;split at h
    .rename_i u r o;simp at h;subst h;obtain⟨b,g,vs,A,l,B,_,C⟩:=Pt m (e s) (y:=.s s) o;simp[AQ]at l;obtain⟨v,M,rfl,K,O⟩:=l;have H:=C 0 v rfl;rw[Addr.add_zero']at H;have k:a.tmps.getD s undef=.pointer (some ⟨b,g,none⟩):=A;refine⟨v,?_,K,B.1⟩;simp[Fm,k,loadVar,Cc z,H,asAddr]
    .cases h
   |some n=>
    simp [Pg]at d;obtain⟨⟨rfl,z⟩,L⟩:=d;simp[RV.get]at h;split at h
    .rename_i cs o;split at h
     .rename_i q;simp at h;subst h;obtain⟨b,g,vs,A,l,B,E,C⟩:=Pt m (e s) (y:=.s s) o;have J:=BE l;have j:=run_loadCells_list (P:=P) w ⟨b,g,none⟩ vs C;rw[J,q]at j;have k:a.tmps.getD s undef=.pointer (some ⟨b,g,none⟩):=A;refine⟨.agg vs.toArray,?_,?_,B⟩
      .simp[Fm,k,loadVar,Cc z,B2 L,j,asAddr]
      .simp only[Ah];exact⟨_,rfl,l,by rw[List.all_eq_true];exact fun x I=>E x I⟩
     .cases h
    .cases h
theorem HP(e:AO F0 w0 U a w G):∀{xs:List ResultVar}{d:List RV},Fw P xs d=true->∀{ts:Fq},D5 U d=some ts->∃vs,(xs.mapM (Fm a.tmps)).run P w=.ok vs w/\AQ w (AS w0.heap.size F0 G) ts vs/\TV.tn ts
 |[],[],_,ts,h=>by simp[D5]at h;subst h;exact⟨[],by simp,rfl,trivial⟩|[],_::_,b,_,_=>by simp[Fw]at b|_::_,[],b,_,_=>by simp[Fw]at b|x::xs,y::d,b,ts,h=>by
  simp [Fw]at b;simp[D5]at h;split at h
  .rename_i t us g j;simp at h;subst h;obtain⟨v,k,l,m⟩:=YJ e b.1 g;obtain⟨vs,o,q,s⟩:=HP e b.2 j;exact⟨v::vs,by simp[List.mapM_cons,k,o],⟨v,vs,rfl,l,q⟩,m,s⟩
  .cases h
theorem Fr{f:ResultVar->Sem Value}{xs:Array ResultVar}{vs:List Value}{w':World}(h:(xs.toList.mapM f).run P w=.ok vs w'):(xs.mapM f).run P w=.ok vs.toArray w':=by
 rw [<-Array.toArray_toList (xs:=xs),List.mapM_toArray];simp[h]
variable{F:Nat->Nat->Prop}
theorem AQ.toA{vs:List Value}(h:AQ w F ts vs):AQ w F ts vs.toArray.toList:=by simpa using h
def Am.lone:Am->Bool
 |.own _=>true|.x5 _ _=>true|_=>false
variable{fn:Func}{r:Am}
theorem Ut(I:AO F0 w0 U a w G){m:List RV}(k:Fw P fn.results.toList m=true)(O:(∀b o,¬w0.E b o)\/r.lone=false)(J:r.plain=true)(h:BO m r U):
  ∃v,(results fn a.tmps).run P w=.ok v w/\((∀b o,¬w0.E b o)->Ht w (fun b o=>b<w0.heap.size/\F0 b o) w0.heap.size r v)/\(r.lone=false->YM w (fun b o=>b<w0.heap.size/\F0 b o) (fun b lo=>w0.heap.size<=b\/∀o,lo<=o->w0.E b o) r v)/\r.WF:=by
 have H:∀ts,D5 U m=some ts->∃vs:List Value,(fn.results.mapM (Fm a.tmps)).run P w=.ok vs.toArray w/\AQ w (AS w0.heap.size F0 G) ts vs/\TV.tn ts:=by
  grind [HP,Fr]
 have l:(results fn a.tmps)=(fn.results.mapM (Fm a.tmps)>>=fun vs=>pure (if h:vs.size=1 then vs[0]else .tuple vs)):=by
  unfold results;congr 1
 have M:BY w w (AS w0.heap.size F0 G) (fun b o=>b<w0.heap.size/\F0 b o):=fun b o u V W=>⟨V,fun hF'=>W (.inl hF')⟩;cases r with
 |sh t=>
  have A:∃x,m=[x]/\x.get U=some t:=by
   rcases m with _|⟨x,_|⟨y,m⟩⟩<;>simp[BO]at h;exact⟨x,rfl,h⟩
  obtain ⟨x,rfl,hx⟩:=A;obtain⟨vs,e1,L,e3⟩:=H [t] (by simp[D5,hx]);simp only[AQ]at L;obtain⟨v,r',rfl,e4,rfl⟩:=L;refine⟨v,?_,fun _=>B5 M _ _ e4,fun _=>B5 M _ _ e4,e3.1⟩;rw[l];simp[e1]
 |own t=>
  have A:∃s,m=[.tmp s]/\U.get s=.ow t:=by
   rcases m with _|⟨x,_|⟨y,m⟩⟩
   .simp[BO]at h
   .cases x<;>simp[BO]at h;exact⟨_,rfl,h⟩
   .simp[BO]at h
  obtain ⟨s,rfl,K⟩:=A;obtain⟨vs,e1,L,e3⟩:=H [t] (by simp[D5,RV.get,K,EV.val]);have hr:Pg P (.tmp s) (.tmp s)=true:=by simp[Pg]
  have B:=AW I K (by simp);have C:=I.wf s;rw[K]at C;simp[AK]at B;have z:fn.results.toList=[.tmp s]:=by
   rcases hx:fn.results.toList with _|⟨x,_|⟨y,xs⟩⟩<;>rw[hx]at k
   .simp[Fw]at k
   .cases x<;>simp[Fw,Pg]at k;rw[k]
   .simp[Fw]at k
  have hv:(results fn a.tmps).run P w=.ok (slot a s) w:=by
   rw [l];have hm:(fn.results.mapM (Fm a.tmps)).run P w=.ok [slot a s].toArray w:=by
    refine Fr ?_;rw[z];simp[List.mapM_cons,Fm,slot]
   simp [hm]
  replace O:=O.resolve_right (by simp[Am.lone]);refine⟨slot a s,hv,fun _=>⟨G s none,B.kept (fun b o u V W=>⟨V,?_⟩) (fun _ _ _=>rfl),fun b lo X=>?_⟩,fun e=>by simp[Am.lone]at e,C⟩
  .rintro(A|⟨lo,A,Y⟩)
   .exact W (.inl A)
   .exact W (.inr ⟨s,none,lo,A,Y⟩)
  .have:=I.lt _ _ _ _ X;exact⟨this.2.resolve_right (fun e=>O _ _ (e _ (az _))),this.1⟩
 |tp ts=>
  simp [BO]at h;have hne:m.length≠1:=by
   grind
  have Y:D5 U m=some ts:=by
   grind
  obtain ⟨vs,e1,L,e3⟩:=H ts Y;have hlen:vs.length≠1:=by
   rw [BE L];have:∀(m:List RV)(ts:Fq),D5 U m=some ts->ts.length=m.length:=by
    intro m
    induction m with
    |nil=>intro ts h;simp[D5]at h;subst h;rfl|cons y m ih=>
     grind [D5,tg]
   grind
  refine ⟨.tuple vs.toArray,?_,fun _=>⟨vs.toArray,rfl,(Ak M _ _ L).toA⟩,fun _=>⟨vs.toArray,rfl,(Ak M _ _ L).toA⟩,e3⟩;rw[l];simp[e1,hlen]
 |x5 n es=>
  have A:∃s,m=[.tmp s]/\U.get s=.xo n es:=by
   rcases m with _|⟨x,_|⟨y,m⟩⟩
   .simp[BO]at h
   .cases x<;>simp[BO]at h;exact⟨_,rfl,h⟩
   .simp[BO]at h
  obtain ⟨s,rfl,K⟩:=A;have B:=AW I K (by simp);have C:=I.wf s;rw[K]at C;simp[AK]at B;obtain⟨xs,⟨z0,k1,k2⟩,k3,k4,k5⟩:=B;have z:fn.results.toList=[.tmp s]:=by
   rcases hx:fn.results.toList with _|⟨x,_|⟨y,xs⟩⟩<;>rw[hx]at k
   .simp[Fw]at k
   .cases x<;>simp[Fw,Pg]at k;rw[k]
   .simp[Fw]at k
  have hv:(results fn a.tmps).run P w=.ok (slot a s) w:=by
   rw [l];have hm:(fn.results.mapM (Fm a.tmps)).run P w=.ok [slot a s].toArray w:=by
    refine Fr ?_;rw[z];simp[List.mapM_cons,Fm,slot]
   simp [hm]
  replace O:=O.resolve_right (by simp[Am.lone]);refine⟨slot a s,hv,fun _=>⟨z0,xs,k1,Ak (fun b o u V hf=>⟨V,fun hf'=>hf ?_⟩) _ _ k3,k4,k5,fun b lo X=>?_⟩,fun e=>by simp[Am.lone]at e,C⟩
  .rcases hf' with h6|⟨lo,h6⟩
   .exact .inl h6
   .exact .inr ⟨s,none,0,by rw[k2,h6];rfl,Nat.zero_le _⟩
  .have:=I.lt s none b 0 (by rw[k2,X];rfl);exact⟨this.2.resolve_right (fun e=>O _ _ (e _ (az _))),this.1⟩
 |turn _ _=>cases J
 |cut zs=>exact h.elim|mpr _ _=>cases J
 |ag _ _ _=>cases J
 |bo _ _ _ _=>cases J
 |ext _=>cases J
 |wQ cs=>
  have A:∃s n,m=[.cell s (some n)]/\U.get s=.bx cs/\cs.length=n:=by
   rcases m with _|⟨x,_|⟨y,m⟩⟩
   .simp[BO]at h
   .rcases x with s|⟨s,_|n⟩
    .simp[BO]at h
    .simp[BO]at h
    .exact⟨s,n,rfl,h⟩
   grind [BO]
  obtain ⟨s,n,rfl,K,hn⟩:=A;have hbx:=AW I K (by simp);have C:=I.wf s;rw[K]at C;simp only[AK]at hbx;obtain⟨b,c,T,k1,k2,k3,k4,k5⟩:=hbx;have z:∃ty,fn.results.toList=[.cell s ty]/\Bv P ty=some true/\Cn P ty=some n:=by
   rcases hx:fn.results.toList with _|⟨x,_|⟨y,xs⟩⟩<;>rw[hx]at k
   .simp[Fw]at k
   .cases x<;>simp[Fw,Pg]at k;obtain⟨⟨rfl,A⟩,Y⟩:=k;exact⟨_,rfl,A,Y⟩
   .simp[Fw]at k
  obtain ⟨ty,z,hag',hcn⟩:=z;have hv:(results fn a.tmps).run P w=.ok (.agg c) w:=by
   rw [l];have R:=run_loadCells_list (P:=P) w ⟨b,0,none⟩ c.toList (fun j v hv=>by
    have:=cell_of_row w b j c T (0,0) k2;rw[show((⟨b,0,none⟩:Addr).add j)=⟨b,j,none⟩by simp[Addr.add];omega,this];simpa using hv)
   rw [Array.length_toList,k3,hn]at R;have h1':a.tmps.getD s undef=.pointer (some ⟨b,0,none⟩):=k1;have hm:(fn.results.mapM (Fm a.tmps)).run P w=.ok [.agg c].toArray w:=by
    refine Fr ?_;rw[z];simp[List.mapM_cons,Fm,h1',loadVar,Cc hag',B2 hcn,R,asAddr]
   simp [hm]
  have hsz:s<a.tmps.size:=Ba I K (by simp)
  let Z:DM:=fun q i=>if q=0/\i=none then none else Bk a G s q i
  have hZ:∀{q i b lo},Z q i=some (b,lo)->Bk a G s q i=some (b,lo):=by
   intro q i b lo Q;simp only[Z]at Q;split at Q
   .cases Q
   .exact Q
  have S:∀N:Nat->Nat->Prop,(∀b lo,b<w.heap.size->(w0.heap.size<=b\/∀o,lo<=o->w0.E b o)->N b lo)->QZ w (fun b o=>b<w0.heap.size/\F0 b o) N cs (.agg c):=by
   intro N hN;refine⟨Z,⟨c,rfl,k3,fun i d hd=>?_⟩,fun q i q' i' b lo lo' e1 L=>I5 I hsz _ _ _ _ _ _ _ (hZ e1) (hZ L),by simp[Z],fun q i b lo Q=>?_⟩
   .obtain⟨x,j1,j2⟩:=k5 i d hd;have hz0:Z 0 (some i)=G s (some i):=by simp[Z,C5]
    refine ⟨x,j1,?_,GU j2⟩;rw[hz0];refine BA.wk (j2.kept (fun b o u V W=>⟨V,?_⟩) (fun _ _ _=>rfl) BD.rfl') (fun g lo j Q=>?_)
    .rintro(A|⟨q,j,lo,A,Y⟩)
     .exact W (.inl A)
     .obtain⟨p,j',f1,_⟩:=CB (hZ A);exact W (.inr ⟨p,j',lo,f1,Y⟩)
    .simp only[DM.wk,Z];rw[ae (by omega)];exact Nz Q j
   .obtain⟨p,j',f1,_⟩:=CB (hZ Q);have:=I.lt _ _ _ _ f1;exact⟨this.1,hN _ _ this.1 this.2⟩
  refine ⟨.agg c,hv,fun O=>S _ fun b lo _ X=>X.resolve_right (fun e=>O _ _ (e _ (az _))),fun _=>S _ fun b lo _ X=>X,C⟩
variable{f:FuncId}{c:Code}{pl:PC}{rv:List RV}
theorem ZK(hD:KG P fn.ntmps D)(hf:P.funcs[f]? =some fn)(hb:fn.body=some c)(hname:fn.name≠ "runtime.NumGoroutine")(hok:DR P fn.ntmps D pl c=true)(hrv:Fw P fn.results.toList rv=true)
  {args:Fq}(hn:args.length<=fn.ntmps)(hp:r.plain=true)(h:TV.tn args->pl.wp (AR P) ⟨BO rv r,fun _ _=>False,BO rv r⟩ (C3 0 args)):AR P f args r:=by
 refine AR.of0 ?_ hp;intro hw;refine⟨by simp[DO,hf,hb,hname],fun F0 w vs hrep ht=>?_⟩;have hl:=BE hrep;simp at hl;have hcalls:Calls P f vs w fun e w'=>(∃v,e=.returned v/\Below w.heap.size w w'/\Ht w' (fun b o=>b<w.heap.size/\F0 b o) w.heap.size r v)/\r.WF:=by
  refine calls_of_wp hf hb ?_;have fin:∀(U:AB)(a:Act)(w':World),BO rv r U->KH fn.ntmps none a->Bm F0 (W0.mk w fun _ _=>False) U a w'->a.defers=[]/\∃v,(results fn a.tmps).run P w'=.ok v w'/\((∃v',Ending.returned v=.returned v'/\Below w.heap.size w w'/\Ht w' (fun b o=>b<w.heap.size/\F0 b o) w.heap.size r v')/\r.WF):=by
   intro U a w' hr hN ⟨G,hI⟩;obtain⟨v,e1,e2,_,e3⟩:=Ut (P:=P) hI hrv (.inl fun _ _ h=>h) hp hr;exact⟨hI.defers,v,e1,⟨v,rfl,⟨hI.below.os,hI.below.tape,hI.below.output,hI.below.size,fun k hk=>hI.below.block k hk (fun _ h=>h)⟩,e2 fun _ _ h=>h⟩,e3⟩
  refine Mg (p:=none) hD pl c hok (.inl fun _ _ h=>h) (by simp) _ _ ?_ ?_ ?_ _ _ w ?_ (Bm.start hrep hw ht) (h hw)
  .exact fun U a w' h1 h2 h3=>fin U a w' h1 h2 h3
  .grind
  .exact fun U a w' h1 h2 h3=>fin U a w' h1 h2 h3
  .exact⟨by simp;omega,by simp⟩
 refine ⟨?_,hcalls.mono fun e w' h=>h.1⟩;obtain⟨_,_,_,h1,_⟩:=hcalls [];exact h1.2
def T6(i m:Nat)(Z:DM):BP:=fun s=>if s=i then Z 0 else if m<=s then(fun j=>match j with|some j=>Z (s-m+1) (some j)|none=>none)else fun _=>none
variable{Z:DM}
theorem a8{i m:Nat}{p:Nat}{j:Option Nat}{b lo:Nat}(h:T6 i m Z p j=some (b,lo)):(p=i/\Z 0 j=some (b,lo))\/(p≠i/\m<=p/\Z (p-m+1) j=some (b,lo)):=by
 simp [T6]at h
 grind
variable{i:Nat}{v:Value}
theorem Bm.startZ{w:World}{F0:Nat->Nat->Prop}{vs:Array Value}{e:EV}(h:AQ w (fun b o=>F0 b o\/ZF Z b o) ts vs.toList)(O:TV.tn ts)(C:e.WF)
  (hi:vs[i]?=some v)(E:IW Z)(H:∀q i b lo,Z q i=some (b,lo)->b<w.heap.size)(I:∀b o R,ZF Z b o->¬F0 b R)(d:Wg w (ZF Z))
  (Q:∀a:Act,slot a i=v->∀G:BP,G i=Z 0->wk a G=Z.wk->∀L,BY w w (fun b o=>F0 b o\/ZF Z b o) L->AK a w L G ((i,e)::C3 0 ts) i e v):
  Bm F0 (W0.mk w (ZF Z)) ((i,e)::C3 0 ts) {tmps:=vs++Array.replicate n undef,defers:=[]} w:=by
 have X:=BE h;simp at X;have l:i<vs.size:=(Array.getElem?_eq_some_iff.1 hi).1
 let G:BP:=T6 i (vs.size+n) Z
 have A:∀p j b lo,G p j=some (b,lo)->∃q,Z q j=some (b,lo)/\((p=i/\q=0)\/(p≠i/\q=p-(vs.size+n)+1/\vs.size+n<=p)):=by
  intro p j b lo W;rcases a8 W with⟨z,K⟩|⟨z,K,M⟩
  .grind
  grind
 have m:BY w w (fun b o=>F0 b o\/ZF Z b o) (AS w.heap.size F0 G):=by
  refine fun b o u S hf=>⟨S,?_⟩;rintro(⟨_,z⟩|⟨p,j,lo,z,K⟩)
  .exact hf (.inl z)
  .obtain⟨q,M,_⟩:=A _ _ _ _ z;exact hf (.inr ⟨q,j,lo,M,K⟩)
 have x:∀s(k:s<vs.size),slot {tmps:=vs++Array.replicate n undef,defers:=[]} s=vs[s]:=by
  intro s k;simp[slot,Array.getD_eq_getD_getElem?,Array.getElem?_append,k]
 refine ⟨G,fun p j p' j' b lo T J V=>?_,fun p j b lo J=>?_,⟨rfl,rfl,rfl,az _,fun _ _ _=>rfl,fun _ _ _ _ h=>h,I,d⟩,rfl,fun s k=>?_,fun s k=>?_,fun s=>?_⟩
 .obtain⟨q,B,f2⟩:=A _ _ _ _ J;obtain⟨q',f3,f4⟩:=A _ _ _ _ V;have:=E _ _ _ _ _ _ _ B f3;exact⟨by omega,this.2⟩
 .obtain⟨q,B,_⟩:=A _ _ _ _ J;exact⟨H _ _ _ _ B,.inr fun o ho=>⟨q,j,lo,B,ho⟩⟩
 .simp at k;rw[AB.d4,ae (by omega),I8,a6 (Nat.zero_le _),List.getElem?_eq_none (by omega)]
 .rw[AB.d4];by_cases y:i=s
  .subst y;rw[a6 rfl,x i l];have hv:vs[i]=v:=by
    grind
   rw [hv];refine Q _ (by rw[x i l,hv]) G (by simp[G,T6]) ?_ _ m;funext g j;simp only[wk,G,T6,Array.size_append,Array.size_replicate,DM.wk];rw[ae (by omega),a6 (by omega)];show Z (vs.size+n+g-(vs.size+n)+1) (some j)=Z (g+1) (some j);rw[Nat.add_sub_cancel_left]
  .rw[ae y,I8,a6 (Nat.zero_le _),Nat.sub_zero];cases d:ts[s]? with
   |none=>trivial|some t=>
    have Y:s<vs.size:=by
     grind
    have hv:vs.toList[s]?=some (slot {tmps:=vs++Array.replicate n undef,defers:=[]} s):=by
     grind
    exact B5 m _ _ (((BZ _ _).1 h).2 s t _ d hv)
 .rw[AB.d4];split
  .exact C
  .rw[I8,a6 (Nat.zero_le _),Nat.sub_zero];cases d:ts[s]? with
   |none=>trivial|some t=>exact Bj.1 O t (List.mem_of_getElem? d)
theorem Bm.startB{w:World}{F0:Nat->Nat->Prop}{vs:Array Value}{cs:List AN}(h:AQ w (fun b o=>F0 b o\/ZF Z b o) ts vs.toList)(y:TV.tn ts)(g:∀c∈cs,c.t.WF)
  (hi:vs[i]?=some v)(z:MY w (fun b o=>F0 b o\/ZF Z b o) Z cs v)(k:IW Z)(l:∀q i b lo,Z q i=some (b,lo)->b<w.heap.size)(m:∀b o B,ZF Z b o->¬F0 b B)(A:Wg w (ZF Z)):
  Bm F0 (W0.mk w (ZF Z)) ((i,.bx cs)::C3 0 ts) {tmps:=vs++Array.replicate n undef,defers:=[]} w:=by
 refine Bm.startZ (e:=.bx cs) h y g hi k l m A fun a Q G u C R s=>?_;obtain⟨b,c,T,H,I,J,K,L⟩:=z;simp only[AK];refine⟨b,c,T,H,I,J,by rw[u];exact K,fun j d E=>?_⟩;obtain⟨x,M,O⟩:=L j d E;refine⟨x,M,?_⟩;rw[u,C];exact O.kept s (fun _ _ _=>rfl) BD.rfl'
theorem Bm.startA{w:World}{F0:Nat->Nat->Prop}{vs:Array Value}{cs:List AN}(h:AQ w (fun b o=>F0 b o\/ZF Z b o) ts vs.toList)(u:TV.tn ts)(g:∀c∈cs,c.t.WF)
  (hi:vs[i]?=some v)(y:VX w (fun b o=>F0 b o\/ZF Z b o) Z cs v)(k:IW Z)(l:∀q i b lo,Z q i=some (b,lo)->b<w.heap.size)(m:∀b o A,ZF Z b o->¬F0 b A)(z:Wg w (ZF Z)):
  Bm F0 (W0.mk w (ZF Z)) ((i,.wQ cs)::C3 0 ts) {tmps:=vs++Array.replicate n undef,defers:=[]} w:=by
 refine Bm.startZ (e:=.wQ cs) h u g hi k l m z fun a M G B C O s=>?_;obtain⟨xs,H,I,J⟩:=y;simp[AK];refine⟨xs,H,I,fun j d E=>?_⟩;obtain⟨x,K,L,_⟩:=J j d E;refine⟨x,K,?_⟩;rw[B,C];exact L.kept s (fun _ _ _=>rfl) BD.rfl'
variable{us:Fq}
theorem e8(hD:KG P fn.ntmps D)(hf:P.funcs[f]? =some fn)(hb:fn.body=some c)(hname:fn.name≠ "runtime.NumGoroutine")(hok:DR P fn.ntmps D pl c=true)(hrv:Fw P fn.results.toList rv=true)
  {args:Fq}(hn:args.length<=fn.ntmps){cs cs':List AN}(hcl:pl.wl=true)(hdst:pl.wm i=true)(h:TV.tn args->(∀c∈cs,c.t.WF)->pl.wp (AR P) ⟨BO rv (.bo cs cs' i us),fun _ _=>False,BO rv (.bo cs cs' i us)⟩ ((i,.bx cs)::C3 0 args)):AR P f args (.bo cs cs' i us):=by
 intro hw hwc;refine⟨by simp[DO,hf,hb,hname],fun F0 w vs v Z hrep hvi hbox hzu hzl hfree ht=>?_⟩;have hl:=BE hrep;simp at hl;have hcalls:Calls P f vs w fun e w'=>((∀c∈cs',c.t.WF)/\TV.tn us)/\∃r Z',e=.returned r/\GI Z w w'/\MY w' (fun b o=>(b<w.heap.size/\F0 b o)\/ZF Z' b o) Z' cs' v/\
   IW Z'/\(∀q i b lo,Z' q i=some (b,lo)->b<w'.heap.size/\(w.heap.size<=b\/∃p j lo',Z p j=some (b,lo')/\lo'<=lo))/\
   Ow w' (fun b o=>(b<w.heap.size/\F0 b o)\/ZF Z' b o) us r:=by
  refine calls_of_wp hf hb ?_;have fin:∀(U:AB)(a:Act)(w':World),BO rv (.bo cs cs' i us) U->KH fn.ntmps (some (i,v)) a->Bm F0 (W0.mk w (ZF Z)) U a w'->a.defers=[]/\∃r,(results fn a.tmps).run P w'=.ok r w'/\(((∀c∈cs',c.t.WF)/\TV.tn us)/\∃r' Z',Ending.returned r=.returned r'/\GI Z w w'/\MY w' (fun b o=>(b<w.heap.size/\F0 b o)\/ZF Z' b o) Z' cs' v/\
    IW Z'/\(∀q i b lo,Z' q i=some (b,lo)->b<w'.heap.size/\(w.heap.size<=b\/∃p j lo',Z p j=some (b,lo')/\lo'<=lo))/\
    Ow w' (fun b o=>(b<w.heap.size/\F0 b o)\/ZF Z' b o) us r'):=by
   rintro U a w' ⟨hs,hr⟩ hN ⟨G,hI⟩;have hag:BY w' w' (AS w.heap.size F0 G) (fun b o=>(b<w.heap.size/\F0 b o)\/ZF (Bk a G i) b o):=by
    refine fun b o u hc hF=>⟨hc,?_⟩;rintro(h1|⟨q,j,lo,h1,h2⟩)
    .exact hF (.inl h1)
    .obtain⟨p,j',f1,_⟩:=CB h1;exact hF (.inr ⟨p,j',lo,f1,h2⟩)
   have hisz:i<a.tmps.size:=Ba hI hs (by simp);have hbx:=AW hI hs (by simp);have hwb:=hI.wf i;rw[hs]at hwb;rw[hN.pin i v rfl]at hbx;simp only[AK]at hbx;obtain⟨b,c,T,k1,k2,k3,k4,k5⟩:=hbx;obtain⟨vs',e1,e2,e3⟩:=HP (P:=P) hI hrv hr;have hm:=Fr e1;have hshape:(results fn a.tmps)=(fn.results.mapM (Fm a.tmps)>>=fun vs=>pure (if h:vs.size=1 then vs[0]else .tuple vs)):=by
    unfold results;congr 1
   have hlen:=BE e2;have hres:∃r,(results fn a.tmps).run P w'=.ok r w'/\Ow w' (AS w.heap.size F0 G) us r:=by
    rw [hshape];by_cases h1:vs'.length=1
    .obtain⟨x,rfl⟩:=List.length_eq_one_iff.1 h1;rcases us with _|⟨t,_|⟨t',us⟩⟩
     .simp at hlen
     .simp only[AQ]at e2;obtain⟨v',r',hv',e4,rfl⟩:=e2;simp at hv';subst hv';exact⟨x,by simp[hm],e4⟩
     .simp at hlen
    .refine⟨.tuple vs'.toArray,by simp[hm,h1],?_⟩;rcases us with _|⟨t,_|⟨t',us⟩⟩
     .exact⟨_,rfl,e2.toA⟩
     .grind
     .exact⟨_,rfl,e2.toA⟩
   obtain ⟨r,hr1,hr2⟩:=hres;refine⟨hI.defers,r,hr1,⟨hwb,e3⟩,r,Bk a G i,rfl,?_,⟨b,c,T,k1,k2,k3,by rw[C5];exact k4,fun j d hj=>?_⟩,I5 hI hisz,fun q j b lo f1=>?_,?_⟩
   .exact⟨hI.below.os,hI.below.tape,hI.below.output,hI.below.size,fun k hk hz=>hI.below.block k hk (fun o⟨q,j,lo,f1,_⟩=>hz q j lo f1),fun b o u hz hu=>hI.below.cell b o u hz hu⟩
   .obtain⟨x,f1,f2⟩:=k5 j d hj;refine⟨x,f1,?_⟩;rw[C5];exact BA.wk (f2.kept hag (fun _ _ _=>rfl) BD.rfl') fun g lo j' hz=>Nz hz j'
   .obtain⟨p,j',g1,_⟩:=CB f1;obtain⟨f2,f3⟩:=hI.lt _ _ _ _ g1;refine⟨f2,f3.imp id (fun e=>?_)⟩;exact e lo (az _)
   .rcases us with _|⟨t,_|⟨t',us⟩⟩
    .obtain⟨vs2,f1,f2⟩:=hr2;exact⟨vs2,f1,Ak hag _ _ f2⟩
    .exact B5 hag _ _ hr2
    .obtain⟨vs2,f1,f2⟩:=hr2;exact⟨vs2,f1,Ak hag _ _ f2⟩
  refine Mg (p:=some (i,v)) hD pl c hok (.inr hcl) (fun j u hp=>by cases hp;exact hdst) _ _ ?_ ?_ ?_ _ _ w ?_ (Bm.startB hrep hw hwc hvi hbox hzu hzl hfree ht) (h hw hwc)
  .exact fun U a w' h1 h2 h3=>fin U a w' h1 h2 h3
  .exact fun i U a w' h1 _ _=>h1.elim
  .exact fun U a w' h1 h2 h3=>fin U a w' h1 h2 h3
  .have hil:i<vs.size:=(Array.getElem?_eq_some_iff.1 hvi).1;refine⟨by simp;omega,fun j u hp=>?_⟩;cases hp;have:=Array.getElem?_eq_getElem hil;rw[this]at hvi;simp at hvi;simp[slot,Array.getD_eq_getD_getElem?,Array.getElem?_append,hil,hvi]
 refine ⟨?_,hcalls.mono fun e w' h=>h.2⟩;obtain⟨_,_,_,h1,_⟩:=hcalls [];exact h1.1
def Wk(cs'' cs':List AN):Prop:=cs''.length=cs'.length/\∀(i:Nat)(d:AN),cs'[i]?=some d->∃d',cs''[i]?=some d'/\(d=d'\/d=⟨false,.undef⟩)
theorem Wk.wf{b cs':List AN}(h:Wk b cs')(e:∀c∈b,c.t.WF):∀c∈cs',c.t.WF:=by
 intro c d;obtain⟨i,hi⟩:=List.getElem?_of_mem d;obtain⟨g,j,rfl|rfl⟩:=h.2 i c hi
 .grind
 .exact trivial
theorem Wk.cell{w:World}{ρ:G6}{z:Option (Nat×Nat)}{x:Value}{d b:AN}(h:d=b\/d=⟨false,.undef⟩)(e:BA w F ρ z b x):BA w F ρ z d x:=by
 rcases h with rfl|rfl
 .exact e
 .have:x.oneCell'=true:=by
   obtain ⟨o,t⟩:=b;cases o with
   |true=>exact Nl e|false=>exact e.2
  exact ⟨by simp[Ah];exact this,this⟩
def Z5(rv:List RV)(cs cs':List AN)(i:Nat)(us:Fq)(U:AB):Prop:=∃cs'',Wk cs'' cs'/\BO rv (.bo cs cs'' i us) U
theorem cx(hD:KG P fn.ntmps D)(hf:P.funcs[f]? =some fn)(hb:fn.body=some c)(hname:fn.name≠ "runtime.NumGoroutine")(hok:DR P fn.ntmps D pl c=true)(hrv:Fw P fn.results.toList rv=true)
  {args:Fq}(hn:args.length<=fn.ntmps){cs cs':List AN}(hcl:pl.wl=true)(hdst:pl.wm i=true)(h:TV.tn args->(∀c∈cs,c.t.WF)->pl.wp (AR P) ⟨Z5 rv cs cs' i us,fun _ _=>False,Z5 rv cs cs' i us⟩ ((i,.bx cs)::C3 0 args)):AR P f args (.bo cs cs' i us):=by
 intro hw hwc;refine⟨by simp[DO,hf,hb,hname],fun F0 w vs v Z hrep hvi hbox hzu hzl hfree ht=>?_⟩;have hl:=BE hrep;simp at hl;have hcalls:Calls P f vs w fun e w'=>((∀c∈cs',c.t.WF)/\TV.tn us)/\∃r Z',e=.returned r/\GI Z w w'/\MY w' (fun b o=>(b<w.heap.size/\F0 b o)\/ZF Z' b o) Z' cs' v/\
   IW Z'/\(∀q i b lo,Z' q i=some (b,lo)->b<w'.heap.size/\(w.heap.size<=b\/∃p j lo',Z p j=some (b,lo')/\lo'<=lo))/\
   Ow w' (fun b o=>(b<w.heap.size/\F0 b o)\/ZF Z' b o) us r:=by
  refine calls_of_wp hf hb ?_;have fin:∀(U:AB)(a:Act)(w':World),Z5 rv cs cs' i us U->KH fn.ntmps (some (i,v)) a->Bm F0 (W0.mk w (ZF Z)) U a w'->a.defers=[]/\∃r,(results fn a.tmps).run P w'=.ok r w'/\(((∀c∈cs',c.t.WF)/\TV.tn us)/\∃r' Z',Ending.returned r=.returned r'/\GI Z w w'/\MY w' (fun b o=>(b<w.heap.size/\F0 b o)\/ZF Z' b o) Z' cs' v/\
    IW Z'/\(∀q i b lo,Z' q i=some (b,lo)->b<w'.heap.size/\(w.heap.size<=b\/∃p j lo',Z p j=some (b,lo')/\lo'<=lo))/\
    Ow w' (fun b o=>(b<w.heap.size/\F0 b o)\/ZF Z' b o) us r'):=by
   rintro U a w' ⟨cs'',hwk,hs,hr⟩ hN ⟨G,hI⟩;have hag:BY w' w' (AS w.heap.size F0 G) (fun b o=>(b<w.heap.size/\F0 b o)\/ZF (Bk a G i) b o):=by
    refine fun b o u hc hF=>⟨hc,?_⟩;rintro(h1|⟨q,j,lo,h1,h2⟩)
    .exact hF (.inl h1)
    .obtain⟨p,j',f1,_⟩:=CB h1;exact hF (.inr ⟨p,j',lo,f1,h2⟩)
   have hisz:i<a.tmps.size:=Ba hI hs (by simp);have hbx:=AW hI hs (by simp);have hwb:=hI.wf i;rw[hs]at hwb;rw[hN.pin i v rfl]at hbx;simp only[AK]at hbx;obtain⟨b,c,T,k1,k2,k3,k4,k5⟩:=hbx;obtain⟨vs',e1,e2,e3⟩:=HP (P:=P) hI hrv hr;have hm:=Fr e1;have hshape:(results fn a.tmps)=(fn.results.mapM (Fm a.tmps)>>=fun vs=>pure (if h:vs.size=1 then vs[0]else .tuple vs)):=by
    unfold results;congr 1
   have hlen:=BE e2;have hres:∃r,(results fn a.tmps).run P w'=.ok r w'/\Ow w' (AS w.heap.size F0 G) us r:=by
    rw [hshape];by_cases h1:vs'.length=1
    .obtain⟨x,rfl⟩:=List.length_eq_one_iff.1 h1;rcases us with _|⟨t,_|⟨t',us⟩⟩
     .simp at hlen
     .simp only[AQ]at e2;obtain⟨v',r',hv',e4,rfl⟩:=e2;simp at hv';subst hv';exact⟨x,by simp[hm],e4⟩
     .simp at hlen
    .refine⟨.tuple vs'.toArray,by simp[hm,h1],?_⟩;rcases us with _|⟨t,_|⟨t',us⟩⟩
     .exact⟨_,rfl,e2.toA⟩
     .grind
     .exact⟨_,rfl,e2.toA⟩
   obtain ⟨r,hr1,hr2⟩:=hres;refine⟨hI.defers,r,hr1,⟨hwk.wf hwb,e3⟩,r,Bk a G i,rfl,?_,⟨b,c,T,k1,k2,k3.trans hwk.1,by rw[C5];exact k4,fun j d hj=>?_⟩,I5 hI hisz,fun q j b lo f1=>?_,?_⟩
   .exact⟨hI.below.os,hI.below.tape,hI.below.output,hI.below.size,fun k hk hz=>hI.below.block k hk (fun o⟨q,j,lo,f1,_⟩=>hz q j lo f1),fun b o u hz hu=>hI.below.cell b o u hz hu⟩
   .obtain⟨d',hd',hdd⟩:=hwk.2 j d hj;obtain⟨x,f1,f2⟩:=k5 j d' hd';refine⟨x,f1,Wk.cell hdd ?_⟩;rw[C5];exact BA.wk (f2.kept hag (fun _ _ _=>rfl) BD.rfl') fun g lo j' hz=>Nz hz j'
   .obtain⟨p,j',g1,_⟩:=CB f1;obtain⟨f2,f3⟩:=hI.lt _ _ _ _ g1;refine⟨f2,f3.imp id (fun e=>?_)⟩;exact e lo (az _)
   .rcases us with _|⟨t,_|⟨t',us⟩⟩
    .obtain⟨vs2,f1,f2⟩:=hr2;exact⟨vs2,f1,Ak hag _ _ f2⟩
    .exact B5 hag _ _ hr2
    .obtain⟨vs2,f1,f2⟩:=hr2;exact⟨vs2,f1,Ak hag _ _ f2⟩
  refine Mg (p:=some (i,v)) hD pl c hok (.inr hcl) (fun j u hp=>by cases hp;exact hdst) _ _ ?_ ?_ ?_ _ _ w ?_ (Bm.startB hrep hw hwc hvi hbox hzu hzl hfree ht) (h hw hwc)
  .exact fun U a w' h1 h2 h3=>fin U a w' h1 h2 h3
  .exact fun i U a w' h1 _ _=>h1.elim
  .exact fun U a w' h1 h2 h3=>fin U a w' h1 h2 h3
  .have hil:i<vs.size:=(Array.getElem?_eq_some_iff.1 hvi).1;refine⟨by simp;omega,fun j u hp=>?_⟩;cases hp;have:=Array.getElem?_eq_getElem hil;rw[this]at hvi;simp at hvi;simp[slot,Array.getD_eq_getD_getElem?,Array.getElem?_append,hil,hvi]
 refine ⟨?_,hcalls.mono fun e w' h=>h.2⟩;obtain⟨_,_,_,h1,_⟩:=hcalls [];exact h1.1
theorem ez(hD:KG P fn.ntmps D)(hf:P.funcs[f]? =some fn)(hb:fn.body=some c)(hname:fn.name≠ "runtime.NumGoroutine")(hok:DR P fn.ntmps D pl c=true)(hrv:Fw P fn.results.toList rv=true)
  {args:Fq}(hn:args.length<=fn.ntmps){cs:List AN}(hcl:pl.wl=true)(hp:r.plain=true)(hlo:r.lone=false)(h:TV.tn args->(∀c∈cs,c.t.WF)->pl.wp (AR P) ⟨BO rv r,fun _ _=>False,BO rv r⟩ ((i,.wQ cs)::C3 0 args)):AR P f args (.ag cs i r):=by
 intro hw hwc;refine⟨by simp[DO,hf,hb,hname],fun F0 w vs v Z hrep hvi hbox hzu hzl hfree ht=>?_⟩;have hl:=BE hrep;simp at hl;have hcalls:Calls P f vs w fun e w'=>r.WF/\∃v',e=.returned v'/\GI Z w w'/\YM w' (fun b o=>b<w.heap.size/\F0 b o) (fun b lo=>w.heap.size<=b\/∃p j lo',Z p j=some (b,lo')/\lo'<=lo) r v':=by
  refine calls_of_wp hf hb ?_;have fin:∀(U:AB)(a:Act)(w':World),BO rv r U->KH fn.ntmps none a->Bm F0 (W0.mk w (ZF Z)) U a w'->a.defers=[]/\∃v,(results fn a.tmps).run P w'=.ok v w'/\(r.WF/\∃v',Ending.returned v=.returned v'/\GI Z w w'/\YM w' (fun b o=>b<w.heap.size/\F0 b o) (fun b lo=>w.heap.size<=b\/∃p j lo',Z p j=some (b,lo')/\lo'<=lo) r v'):=by
   intro U a w' hr hN ⟨G,hI⟩;obtain⟨v,e1,_,e2,e3⟩:=Ut (P:=P) hI hrv (.inr hlo) hp hr;refine⟨hI.defers,v,e1,e3,v,rfl,⟨hI.below.os,hI.below.tape,hI.below.output,hI.below.size,fun k hk hz=>hI.below.block k hk (fun o⟨q,j,lo,f1,_⟩=>hz q j lo f1),fun b o u hz hu=>hI.below.cell b o u hz hu⟩,?_⟩;have hN:∀b lo,(w.heap.size<=b\/∀o,lo<=o->ZF Z b o)->w.heap.size<=b\/∃p j lo',Z p j=some (b,lo')/\lo'<=lo:=fun b lo h=>h.imp id fun e=>e lo (az _);have e4:=e2 hlo;cases r with
   |sh t=>exact e4|tp ts=>exact e4|wQ ds=>
    obtain ⟨Z',f1,f2,f3,f4⟩:=e4;exact⟨Z',f1,f2,f3,fun q i b lo hz=>⟨(f4 q i b lo hz).1,hN _ _ (f4 q i b lo hz).2⟩⟩
   |_=>first|(exact Bool.noConfusion hp)|(exact Bool.noConfusion hlo)
  refine Mg (p:=none) hD pl c hok (.inr hcl) (by simp) _ _ ?_ ?_ ?_ _ _ w ?_ (Bm.startA hrep hw hwc hvi hbox hzu hzl hfree ht) (h hw hwc)
  .exact fun U a w' h1 h2 h3=>fin U a w' h1 h2 h3
  .exact fun i U a w' h1 _ _=>h1.elim
  .exact fun U a w' h1 h2 h3=>fin U a w' h1 h2 h3
  .exact⟨by simp;omega,by simp⟩
 refine ⟨?_,hcalls.mono fun e w' h=>h.2⟩;obtain⟨_,_,_,h1,_⟩:=hcalls [];exact h1.1
theorem fA(hD:KG P fn.ntmps D)(hf:P.funcs[f]? =some fn)(hb:fn.body=some c)(hname:fn.name≠ "runtime.NumGoroutine")(hok:DR P fn.ntmps D pl c=true)(hrv:Fw P fn.results.toList rv=true)
  {args:Fq}(hn:args.length<=fn.ntmps){kvs:BT}(h:TV.tn args->pl.wp (AR P) ⟨BO rv (.mpr kvs ts),fun _ _=>False,BO rv (.mpr kvs ts)⟩ (C3 0 args)):AR P f args (.mpr kvs ts):=by
 intro hw;refine⟨by simp[DO,hf,hb,hname],fun F0 w vs hrep ht=>?_⟩;have hl:=BE hrep;simp at hl;have hcalls:Calls P f vs w fun e w'=>(∃v,e=.returned v/\Below w.heap.size w w'/\Ht w' (fun b o=>b<w.heap.size/\F0 b o) w.heap.size (.mpr kvs ts) v)/\(Am.mpr kvs ts).WF:=by
  refine calls_of_wp hf hb ?_;have fin:∀(U:AB)(a:Act)(w':World),BO rv (.mpr kvs ts) U->KH fn.ntmps none a->Bm F0 (W0.mk w fun _ _=>False) U a w'->a.defers=[]/\∃v,(results fn a.tmps).run P w'=.ok v w'/\((∃v',Ending.returned v=.returned v'/\Below w.heap.size w w'/\Ht w' (fun b o=>b<w.heap.size/\F0 b o) w.heap.size (.mpr kvs ts) v')/\(Am.mpr kvs ts).WF):=by
   intro U a w' hr hN ⟨G,hI⟩;rcases rv with _|⟨⟨s⟩|⟨s,_⟩,rs⟩
   .exact hr.elim
   .obtain⟨hne,⟨b,o,h1,h2⟩,h3⟩:=hr;have hg:D5 U (.tmp s::rs)=some (.xJ b::ts):=by simp[D5,RV.get,h1,EV.val,h3]
    obtain ⟨us,e1,e2,e3⟩:=HP (P:=P) hI hrv hg;have hm:=Fr e1;have hshape:(results fn a.tmps)=(fn.results.mapM (Fm a.tmps)>>=fun vs=>pure (if h:vs.size=1 then vs[0]else .tuple vs)):=by
     unfold results;congr 1
    simp [AQ]at e2;obtain⟨v0,us',rfl,e4,e5⟩:=e2;simp[Ah]at e4;subst e4;have hor:=AW hI h2 (by simp);have how:=hI.wf o;rw[h2]at how;simp[AK]at hor;obtain⟨k1,k2,k3⟩:=hor;have hlt:=hI.lt _ _ _ _ k2;have hus:us'.length≠0:=by
     have h6:=BE e5;have:ts.length=rs.length:=by
      have:∀(ys:List RV)(ts:Fq),D5 U ys=some ts->ts.length=ys.length:=by
       intro ys
       induction ys with
       |nil=>intro ts h;simp[D5]at h;subst h;rfl|cons y ys ih=>
        grind [D5,tg]
      exact this _ _ h3
     grind
    have hag:BY w' w' (AS w.heap.size F0 G) (fun b o=>b<w.heap.size/\F0 b o):=fun b o u hc hF=>⟨hc,fun hF'=>hF (.inl hF')⟩;refine⟨hI.defers,.tuple (Value.map (some b)::us').toArray,?_,⟨_,rfl,⟨hI.below.os,hI.below.tape,hI.below.output,hI.below.size,fun k hk=>hI.below.block k hk (fun _ h=>h)⟩,b,us',rfl,hlt.2.resolve_right (fun e=>e _ (az _)),hlt.1,k3,Ak hag _ _ e5⟩,how,e3.2⟩;rw[hshape];have:¬us'.length=0:=hus;simp[hm,this]
   .exact hr.elim
  refine Mg (p:=none) hD pl c hok (.inl fun _ _ h=>h) (by simp) _ _ ?_ ?_ ?_ _ _ w ?_ (Bm.start hrep hw ht) (h hw)
  .exact fun U a w' h1 h2 h3=>fin U a w' h1 h2 h3
  .grind
  .exact fun U a w' h1 h2 h3=>fin U a w' h1 h2 h3
  .exact⟨by simp;omega,by simp⟩
 refine ⟨?_,hcalls.mono fun e w' h=>h.1⟩;obtain⟨_,_,_,h1,_⟩:=hcalls [];exact h1.2
end
end Go.Sf
