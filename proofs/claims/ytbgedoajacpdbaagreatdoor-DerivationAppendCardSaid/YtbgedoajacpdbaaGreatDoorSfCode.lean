/- Code, and functions. -/
import Derived.Test.YtbgedoajacpdbaaGreatDoorSfRegion
set_option linter.all false
namespace Go.Sf
open Go.RowKit (Below)
def DB(P:Program)(N:Nat)(D:Ne->Array Oper->List PR->Bool):PC->Code->Bool
 |.skip _,.skip=>true|.ret,.ret=>true|.exit i _,.exit j=>i==j|.seq a b,.seq c d=>DB P N D a c&&DB P N D b d|.cond c a b,.cond x p q=>AH x c&&(DB P N D a p&&DB P N D b q)|.block i c,.block j d=>i==j&&DB P N D c d|.loop _ c,.loop d=>DB P N D c d|.region rs _,.region _ ops draw=>!draw&&Ki P N ops ops.toList rs|.draw ds rs _,.region _ ops draw=>draw&&D ds ops rs|.rls _ a,c=>DB P N D a c|.bad,_=>true|_,_=>false
def PC.Aaf:PC->Bool
 |.seq a b=>a.Aaf&&b.Aaf|.cond _ a b=>a.Aaf&&b.Aaf|.block _ c=>c.Aaf|.loop _ c=>c.Aaf|.rls _ c=>c.Aaf|_=>true
def Aag(i:Nat)(rs:List PR):Bool:=rs.all fun r=>r.dst !=some i
def PC.Aag(i:Nat):PC->Bool
 |.seq a b=>a.Aag i&&b.Aag i|.cond _ a b=>a.Aag i&&b.Aag i|.block _ c=>c.Aag i|.loop _ c=>c.Aag i|.rls _ c=>c.Aag i|.region rs _=>Go.Sf.Aag i rs|.draw _ rs _=>Go.Sf.Aag i rs|_=>true
variable{i:Nat}
theorem Ua{b:List PR}(h:Aag i b=true):∀r∈b,r.dst≠some i:=by
 intro r d;have:=List.all_eq_true.1 h r d;simpa using this
section
variable{P:Program}{F0:Nat->Nat->Prop}{w0:W0}{N:Nat}{p:Option (Nat×Value)}{D:Ne->Array Oper->List PR->Bool}
theorem BZ.envWF{O:AB}{a:Act}{w:World}(h:BZ F0 w0 O a w):∀s,(O.get s).WF:=by
 obtain ⟨G,h⟩:=h;exact h.wf
def Jm(P:Program)(N:Nat)(D:Ne->Array Oper->List PR->Bool):Prop:=
 ∀(F0:Nat->Nat->Prop)(w0:W0)(p:Option (Nat×Value))(id:Nat)(ds:Ne)(ops:Array Oper)(rs:List PR)(live:Ne)(O:AB)(a:Act)(w:World)(K:AB->Prop)(Q:Exit->Act->World->Prop),D ds ops rs=true->(∀i v,p=some (i,v)->∀r∈rs,r.dst≠some i)->Jn N p a->BZ F0 w0 O a w->P1 O ds=true->wpOps (AN P) (fun e=>K (e.jj live)) rs O ->
  (∀O a w,K O->Jn N p a->BZ F0 w0 O a w->Q .normal a w)->(Code.region id ops true).wp P Q a w
theorem Lr(hD:Jm P N D):∀(X:PC)(c:Code),DB P N D X c=true->((∀b o,¬w0.E b o)\/X.Aaf=true)->(∀i v,p=some (i,v)->X.Aag i=true)->∀(q:Q)(A:Exit->Act->World->Prop),
  (∀O a w,q.normal O->Jn N p a->BZ F0 w0 O a w->A .normal a w)->(∀i O a w,q.exit i O->Jn N p a->BZ F0 w0 O a w->A (.exit i) a w)->(∀O a w,q.ret O->Jn N p a->BZ F0 w0 O a w->A .ret a w) ->
  ∀O a w,Jn N p a->BZ F0 w0 O a w->X.wp (AN P) q O->c.wp P A a w:=by
 intro X
 induction X with
 |skip l=>
  intro c g K t q A C H I O a w u m h;cases c<;>simp[DB]at g<;>first|exact Go.wp_skip (C _ a w h u (m.jj l))|cases g
 |ret=>
  intro c g K t q A C H I O a w u m h;cases c<;>simp[DB]at g<;>first|exact Go.wp_ret (I O a w h u m)|cases g
 |exit i l=>
  intro c g K t q A C H I O a w u m h;cases c<;>simp only[DB]at g<;>first|cases g|skip
  simp at g;subst g;exact Go.wp_exit (H i _ a w h u (m.jj l))
 |seq x y V W=>
  intro c g K t q A C H I O a w u m h;cases c<;>simp only[DB]at g<;>first|cases g|skip
  rename_i c d;simp at g;have M:=K.imp id (fun e=>(up _ _▸e:x.Aaf=true/\y.Aaf=true));have R:=fun i v J=>(up _ _▸t i v J:x.Aag i=true/\y.Aag i=true);refine Go.wp_seq (V c g.1 (M.imp id And.left) (fun i v J=>(R i v J).1) _ _ ?_ ?_ ?_ O a w u m h)
  .intro O a w L u m;exact W d g.2 (M.imp id And.right) (fun i v J=>(R i v J).2) q A C H I O a w u m (L m.envWF)
  .exact H
  .exact I
 |cond o x y V W=>
  intro c g K t q A C H I O a w u m h;cases c<;>simp only[DB]at g<;>first|cases g|skip
  rename_i c d e;simp at g;simp[PC.wp]at h;split at h
  .rename_i b T;have hc:a.eval c=.bool b:=by
    obtain ⟨G,m⟩:=m;have:=(Aq m g.1 T).1
    grind [AZ]
   have M:=K.imp id (fun e=>(up _ _▸e:x.Aaf=true/\y.Aaf=true));have R:=fun i v J=>(up _ _▸t i v J:x.Aag i=true/\y.Aag i=true);refine Go.wp_cond_split hc (fun T=>?_) (fun T=>?_)
   .exact V d g.2.1 (M.imp id And.left) (fun i v J=>(R i v J).1) q A C H I O a w u m (h.1 T)
   .exact W e g.2.2 (M.imp id And.right) (fun i v J=>(R i v J).2) q A C H I O a w u m (h.2 T)
  .exact h.elim
 |block i x ih=>
  intro c g K t q A C H I O a w u m h;cases c<;>simp only[DB]at g<;>first|cases g|skip
  rename_i j d;simp at g;obtain⟨rfl,g⟩:=g;refine Go.wp_block (ih d g K t _ _ ?_ ?_ ?_ O a w u m h)
  .exact C
  .intro k O a w L u m;simp[Exit.inBlock];simp only at L;split
   .rename_i e;rw[ae e]at L;exact C O a w L u m
   .rename_i e;rw[az e]at L;exact H k O a w L u m
  .exact I
 |loop B x ih=>
  intro c g K t q A C H I O a w u m h;cases c<;>simp[DB]at g<;>first|cases g|skip
  rename_i c;simp[PC.wp]at h
  let Y:Act->World->Prop:=fun a w=>∀(b:Frame)(k:List Item)(cs:List Frame),∃e a' w',A e a' w'/\Arrives P (lone (b.at a (.code c::.inLoop c::k)) cs w) b k cs e a' w'
  have hX:=h (fun e=>∀a w,Jn N p a->BZ F0 w0 e a w->Y a w) ?_ a w u (m.jj B)
  .intro b k cs;obtain⟨e,a',w',S,z⟩:=hX b k cs;exact⟨e,a',w',S,.of_steps (.one step_loop) z⟩
  .intro e he a w u m;have T:c.wp P (Exit.then Y A) a w:=by
    refine ih c g K t _ _ ?_ ?_ ?_ e a w u m (he m.envWF)
    .intro O a w L u m;exact L a w u (m.jj B)
    .exact H
    .exact I
   intro b k cs;obtain⟨e,a₁,w₁,S,z⟩:=T b (.inLoop c::k) cs;cases e with
   |normal=>
    obtain ⟨e₂,a₂,w₂,hq₂,U⟩:=S b k cs;exact⟨e₂,a₂,w₂,hq₂,.of_steps (Steps.trans z (.one step_inLoop)) U⟩
   |exit id=>exact⟨_,a₁,w₁,S,.pass (x:=.inLoop c) rfl (fun _ _=>.inl (by simp)) z⟩|goto l=>exact⟨_,a₁,w₁,S,.pass (x:=.inLoop c) rfl (fun _ _=>.inl (by simp)) z⟩|ret=>exact⟨_,a₁,w₁,S,.pass (x:=.inLoop c) rfl (fun _ _=>.inl (by simp)) z⟩|panic ch=>exact⟨_,a₁,w₁,S,.pass (x:=.inLoop c) rfl (fun _ _=>.inl (by simp)) z⟩|outgrown=>exact⟨_,a₁,w₁,S,.pass (x:=.inLoop c) rfl (fun _ _=>.inl (by simp)) z⟩
 |region rs B=>
  intro c g K t q A C H I O a w u m h;cases c<;>simp only[DB]at g<;>first|cases g|skip
  rename_i id ops draw;simp[Bool.not_eq_true']at g;obtain⟨rfl,g⟩:=g;exact YK g (fun i v J=>Ua (t i v J)) u m h fun O a w L u m=>C _ a w L u (m.jj B)
 |draw ds rs B=>
  intro c g K t q A C H I O a w u m h;cases c<;>simp only[DB]at g<;>first|cases g|skip
  rename_i id ops draw;simp at g;obtain⟨rfl,g⟩:=g;exact hD F0 w0 p id ds ops rs B O a w q.normal A g (fun i v J=>Ua (t i v J)) u m h.1 h.2 C
 |bad=>
  intro c g K t q A C H I O a w u m h;exact h.elim
 |rls s x ih=>
  intro c g K t q A C H I O a w u m h;have hok':DB P N D x c=true:=by
   grind [DB]
  simp [PC.wp]at h;split at h
  .rename_i cs hs;obtain⟨G,m⟩:=m;exact ih c hok' (K.imp id fun e=>e) t q A C H I _ a w u (m.rls hs) h
  .exact h.elim
def Dc:Nat->Fq->AB
 |_,[]=>[]|k,t::ts=>(k,.tv t)::Dc (k+1) ts
theorem Iu:∀(ts:Fq)(k n:Nat),AB.get (Dc k ts) n=if k<=n then(match ts[n-k]? with|some t=>.tv t|none=>.undef)else .undef
 |[],k,n=>by simp[Dc,AB.get]|t::ts,k,n=>by
  rw [Dc,AB.ea,Iu ts (k+1) n]
  grind
variable{ts:Fq}{n:Nat}
theorem BZ.start{w:World}{F0:Nat->Nat->Prop}{vs:Array Value}(h:AP w F0 ts vs.toList)(j:TV.x7 ts):BZ F0 (W0.mk w fun _ _=>False) (Dc 0 ts) {tmps:=vs++Array.replicate n undef,defers:=[]} w:=by
 have q:=A6 h;simp at q;refine⟨fun _ _=>none,by simp,by simp,⟨rfl,rfl,rfl,bk _,fun _ _ _=>rfl,fun _ _ _ _ h=>h,fun _ _ _ h=>h.elim⟩,rfl,fun s k=>?_,fun s k=>?_,fun s=>?_⟩
 .rw[Iu]
  grind
 .rw[Iu,ae (Nat.zero_le _),Nat.sub_zero];cases d:ts[s]? with
  |none=>trivial|some t=>
   have e:s<vs.size:=by
    grind
   have hv:vs.toList[s]?=some (slot {tmps:=vs++Array.replicate n undef,defers:=[]} s):=by
    simp [slot,Array.getD_eq_getD_getElem?,Array.getElem?_append,e]
   refine Bu (fun b o u l m=>⟨l,?_⟩) _ _ (((BN _ _).1 h).2 s t _ d hv);rintro(g|⟨_,_,_,g,_⟩)
   .exact m g.2
   .cases g
 .rw[Iu,ae (Nat.zero_le _),Nat.sub_zero];cases d:ts[s]? with
  |none=>trivial|some t=>exact BX.1 j t (List.mem_of_getElem? d)
def Ok(P:Program):ResultVar->RV->Bool
 |.tmp t,.tmp s=>t==s|.cell x t,.cell s none=>x==s&&Bn P t==some false|.cell x t,.cell s (some n)=>x==s&&Bn P t==some true&&Ca P t==some n|_,_=>false
def FW(P:Program):List ResultVar->List RV->Bool
 |[],[]=>true|x::xs,y::ys=>Ok P x y&&FW P xs ys|_,_=>false
def FN(tmps:Array Value):ResultVar->Sem Value
 |.tmp t=>pure (tmps.getD t undef)|.cell a t=>do loadVar t (<-asAddr (tmps.getD a undef))
variable{O:AB}{a:Act}{w:World}{G:BI}
theorem Wa(m:AS F0 w0 O a w G){x:ResultVar}{y:RV}(d:Ok P x y=true){t:TV}(h:y.get O=some t):∃v,(FN a.tmps x).run P w=.ok v w/\AZ w (AT w0.heap.size F0 G) t v/\t.WF:=by
 have e:∀s,AH (.tmp s) (.s s)=true:=fun s=>by simp[AH]
 cases x with
 |tmp s=>
  cases y with
  |tmp s'=>
   simp [Ok]at d;subst d;have:=Aq m (e s) (t:=t) h;exact⟨slot a s,rfl,this⟩
  |cell s' n=>cases n<;>simp[Ok]at d
 |cell s ty=>
  cases y with
  |tmp _=>cases d
  |cell s' n=>
   cases n with
   |none=>
    simp [Ok]at d;obtain⟨rfl,z⟩:=d;simp[RV.get]at h;split at h
    .rename_i u r o;simp at h;subst h;obtain⟨b,g,vs,A,l,B,_,C⟩:=O3 m (e s) (y:=.s s) o;simp[AP]at l;obtain⟨v,M,rfl,K,Q⟩:=l;have H:=C 0 v rfl;rw[Addr.add_zero']at H;have k:a.tmps.getD s undef=.pointer (some ⟨b,g,none⟩):=A;refine⟨v,?_,K,B.1⟩;simp[FN,k,loadVar,CP z,H,asAddr]
    .cases h
   |some n=>
    simp [Ok]at d;obtain⟨⟨rfl,z⟩,L⟩:=d;simp[RV.get]at h;split at h
    .rename_i cs o;split at h
     .rename_i q;simp at h;subst h;obtain⟨b,g,vs,A,l,B,E,C⟩:=O3 m (e s) (y:=.s s) o;have J:=A6 l;have j:=run_loadCells_list (P:=P) w ⟨b,g,none⟩ vs C;rw[J,q]at j;have k:a.tmps.getD s undef=.pointer (some ⟨b,g,none⟩):=A;refine⟨.agg vs.toArray,?_,?_,B⟩
      .simp[FN,k,loadVar,CP z,Br L,j,asAddr]
      .simp only[AZ];exact⟨_,rfl,l,by rw[List.all_eq_true];exact fun x I=>E x I⟩
     .cases h
    .cases h
theorem Gv(e:AS F0 w0 O a w G):∀{xs:List ResultVar}{d:List RV},FW P xs d=true->∀{ts:Fq},EI O d=some ts->∃vs,(xs.mapM (FN a.tmps)).run P w=.ok vs w/\AP w (AT w0.heap.size F0 G) ts vs/\TV.x7 ts
 |[],[],_,ts,h=>by simp[EI]at h;subst h;exact⟨[],by simp,rfl,trivial⟩|[],_::_,b,_,_=>by simp[FW]at b|_::_,[],b,_,_=>by simp[FW]at b|x::xs,y::d,b,ts,h=>by
  simp [FW]at b;simp[EI]at h;split at h
  .rename_i t us g j;simp at h;subst h;obtain⟨v,k,l,m⟩:=Wa e b.1 g;obtain⟨vs,o,q,s⟩:=Gv e b.2 j;exact⟨v::vs,by simp[List.mapM_cons,k,o],⟨v,vs,rfl,l,q⟩,m,s⟩
  .cases h
theorem FR{f:ResultVar->Sem Value}{xs:Array ResultVar}{vs:List Value}{w':World}(h:(xs.toList.mapM f).run P w=.ok vs w'):(xs.mapM f).run P w=.ok vs.toArray w':=by
 rw [<-Array.toArray_toList (xs:=xs),List.mapM_toArray];simp[h]
variable{F:Nat->Nat->Prop}
theorem AP.toA{vs:List Value}(h:AP w F ts vs):AP w F ts vs.toArray.toList:=by simpa using h
def An.lone:An->Bool
 |.own _=>true|.Aa2 _ _=>true|_=>false
variable{fn:Func}{r:An}
theorem TH(I:AS F0 w0 O a w G){m:List RV}(k:FW P fn.results.toList m=true)(Q:(∀b o,¬w0.E b o)\/r.lone=false)(K:r.plain=true)(h:Bi m r O):
  ∃v,(results fn a.tmps).run P w=.ok v w/\((∀b o,¬w0.E b o)->FE w (fun b o=>b<w0.heap.size/\F0 b o) w0.heap.size r v)/\(r.lone=false->Wd w (fun b o=>b<w0.heap.size/\F0 b o) (fun b lo=>w0.heap.size<=b\/∀o,lo<=o->w0.E b o) r v)/\r.WF:=by
 have H:∀ts,EI O m=some ts->∃vs:List Value,(fn.results.mapM (FN a.tmps)).run P w=.ok vs.toArray w/\AP w (AT w0.heap.size F0 G) ts vs/\TV.x7 ts:=by
  grind [Gv,FR]
 have l:(results fn a.tmps)=(fn.results.mapM (FN a.tmps)>>=fun vs=>pure (if h:vs.size=1 then vs[0]else .tuple vs)):=by
  unfold results;congr 1
 have M:BP w w (AT w0.heap.size F0 G) (fun b o=>b<w0.heap.size/\F0 b o):=fun b o u V W=>⟨V,fun hF'=>W (.inl hF')⟩;cases r with
 |sh t=>
  have A:∃x,m=[x]/\x.get O=some t:=by
   rcases m with _|⟨x,_|⟨y,m⟩⟩<;>simp[Bi]at h;exact⟨x,rfl,h⟩
  obtain ⟨x,rfl,hx⟩:=A;obtain⟨vs,e1,L,e3⟩:=H [t] (by simp[EI,hx]);simp only[AP]at L;obtain⟨v,r',rfl,e4,rfl⟩:=L;refine⟨v,?_,fun _=>Bu M _ _ e4,fun _=>Bu M _ _ e4,e3.1⟩;rw[l];simp[e1]
 |own t=>
  have A:∃s,m=[.tmp s]/\O.get s=.ow t:=by
   rcases m with _|⟨x,_|⟨y,m⟩⟩
   .simp[Bi]at h
   .cases x<;>simp[Bi]at h;exact⟨_,rfl,h⟩
   .simp[Bi]at h
  obtain ⟨s,rfl,J⟩:=A;obtain⟨vs,e1,L,e3⟩:=H [t] (by simp[EI,RV.get,J,EV.val]);have hr:Ok P (.tmp s) (.tmp s)=true:=by simp[Ok]
  have B:=AX I J (by simp);have C:=I.wf s;rw[J]at C;simp[AM]at B;have z:fn.results.toList=[.tmp s]:=by
   rcases hx:fn.results.toList with _|⟨x,_|⟨y,xs⟩⟩<;>rw[hx]at k
   .simp[FW]at k
   .cases x<;>simp[FW,Ok]at k;rw[k]
   .simp[FW]at k
  have hv:(results fn a.tmps).run P w=.ok (slot a s) w:=by
   rw [l];have hm:(fn.results.mapM (FN a.tmps)).run P w=.ok [slot a s].toArray w:=by
    refine FR ?_;rw[z];simp[List.mapM_cons,FN,slot]
   simp [hm]
  replace Q:=Q.resolve_right (by simp[An.lone]);refine⟨slot a s,hv,fun _=>⟨G s none,B.kept (fun b o u V W=>⟨V,?_⟩) (fun _ _ _=>rfl),fun b lo X=>?_⟩,fun e=>by simp[An.lone]at e,C⟩
  .rintro(A|⟨lo,A,Y⟩)
   .exact W (.inl A)
   .exact W (.inr ⟨s,none,lo,A,Y⟩)
  .have:=I.lt _ _ _ _ X;exact⟨this.2.resolve_right (fun e=>Q _ _ (e _ (bk _))),this.1⟩
 |tp ts=>
  simp [Bi]at h;have hne:m.length≠1:=by
   grind
  have Y:EI O m=some ts:=by
   grind
  obtain ⟨vs,e1,L,e3⟩:=H ts Y;have hlen:vs.length≠1:=by
   rw [A6 L];have:∀(m:List RV)(ts:Fq),EI O m=some ts->ts.length=m.length:=by
    intro m
    induction m with
    |nil=>intro ts h;simp[EI]at h;subst h;rfl|cons y m ih=>
     grind [EI,x5]
   grind
  refine ⟨.tuple vs.toArray,?_,fun _=>⟨vs.toArray,rfl,(Ah M _ _ L).toA⟩,fun _=>⟨vs.toArray,rfl,(Ah M _ _ L).toA⟩,e3⟩;rw[l];simp[e1,hlen]
 |Aa2 n es=>
  have A:∃s,m=[.tmp s]/\O.get s=.xo n es:=by
   rcases m with _|⟨x,_|⟨y,m⟩⟩
   .simp[Bi]at h
   .cases x<;>simp[Bi]at h;exact⟨_,rfl,h⟩
   .simp[Bi]at h
  obtain ⟨s,rfl,J⟩:=A;have B:=AX I J (by simp);have C:=I.wf s;rw[J]at C;simp[AM]at B;obtain⟨xs,⟨z0,k1,k2⟩,k3,k4,k5⟩:=B;have z:fn.results.toList=[.tmp s]:=by
   rcases hx:fn.results.toList with _|⟨x,_|⟨y,xs⟩⟩<;>rw[hx]at k
   .simp[FW]at k
   .cases x<;>simp[FW,Ok]at k;rw[k]
   .simp[FW]at k
  have hv:(results fn a.tmps).run P w=.ok (slot a s) w:=by
   rw [l];have hm:(fn.results.mapM (FN a.tmps)).run P w=.ok [slot a s].toArray w:=by
    refine FR ?_;rw[z];simp[List.mapM_cons,FN,slot]
   simp [hm]
  replace Q:=Q.resolve_right (by simp[An.lone]);refine⟨slot a s,hv,fun _=>⟨z0,xs,k1,Ah (fun b o u V hf=>⟨V,fun hf'=>hf ?_⟩) _ _ k3,k4,k5,fun b lo X=>?_⟩,fun e=>by simp[An.lone]at e,C⟩
  .rcases hf' with h6|⟨lo,h6⟩
   .exact .inl h6
   .exact .inr ⟨s,none,0,by rw[k2,h6];rfl,Nat.zero_le _⟩
  .have:=I.lt s none b 0 (by rw[k2,X];rfl);exact⟨this.2.resolve_right (fun e=>Q _ _ (e _ (bk _))),this.1⟩
 |turn zs=>exact h.elim|cut zs=>exact h.elim|mpr _ _=>cases K
 |ag _ _ _=>cases K
 |bo _ _ _ _=>cases K
 |ext _=>cases K
 |oag cs=>
  have A:∃s n,m=[.cell s (some n)]/\O.get s=.bx cs/\cs.length=n:=by
   rcases m with _|⟨x,_|⟨y,m⟩⟩
   .simp[Bi]at h
   .rcases x with s|⟨s,_|n⟩
    .simp[Bi]at h
    .simp[Bi]at h
    .exact⟨s,n,rfl,h⟩
   grind [Bi]
  obtain ⟨s,n,rfl,J,hn⟩:=A;have hbx:=AX I J (by simp);have C:=I.wf s;rw[J]at C;simp only[AM]at hbx;obtain⟨b,c,T,k1,k2,k3,k4,k5⟩:=hbx;have z:∃ty,fn.results.toList=[.cell s ty]/\Bn P ty=some true/\Ca P ty=some n:=by
   rcases hx:fn.results.toList with _|⟨x,_|⟨y,xs⟩⟩<;>rw[hx]at k
   .simp[FW]at k
   .cases x<;>simp[FW,Ok]at k;obtain⟨⟨rfl,A⟩,Y⟩:=k;exact⟨_,rfl,A,Y⟩
   .simp[FW]at k
  obtain ⟨ty,z,hag',hcn⟩:=z;have hv:(results fn a.tmps).run P w=.ok (.agg c) w:=by
   rw [l];have S:=run_loadCells_list (P:=P) w ⟨b,0,none⟩ c.toList (fun j v hv=>by
    have:=cell_of_row w b j c T (0,0) k2;rw[show((⟨b,0,none⟩:Addr).add j)=⟨b,j,none⟩by simp[Addr.add];omega,this];simpa using hv)
   rw [Array.length_toList,k3,hn]at S;have h1':a.tmps.getD s undef=.pointer (some ⟨b,0,none⟩):=k1;have hm:(fn.results.mapM (FN a.tmps)).run P w=.ok [.agg c].toArray w:=by
    refine FR ?_;rw[z];simp[List.mapM_cons,FN,h1',loadVar,CP hag',Br hcn,S,asAddr]
   simp [hm]
  have hsz:s<a.tmps.size:=BR I J (by simp)
  let Z:C6:=fun q i=>if q=0/\i=none then none else BY a G s q i
  have hZ:∀{q i b lo},Z q i=some (b,lo)->BY a G s q i=some (b,lo):=by
   intro q i b lo R;simp only[Z]at R;split at R
   .cases R
   .exact R
  have U:∀N:Nat->Nat->Prop,(∀b lo,b<w.heap.size->(w0.heap.size<=b\/∀o,lo<=o->w0.E b o)->N b lo)->Wz w (fun b o=>b<w0.heap.size/\F0 b o) N cs (.agg c):=by
   intro N hN;refine⟨Z,⟨c,rfl,k3,fun i d hd=>?_⟩,fun q i q' i' b lo lo' e1 L=>Iq I hsz _ _ _ _ _ _ _ (hZ e1) (hZ L),by simp[Z],fun q i b lo R=>?_⟩
   .obtain⟨x,j1,j2⟩:=k5 i d hd;have hz0:Z 0 (some i)=G s (some i):=by simp[Z,Cx]
    refine ⟨x,j1,?_,F7 j2⟩;rw[hz0];refine A5.rho (j2.kept (fun b o u V W=>⟨V,?_⟩) (fun _ _ _=>rfl) A7.rfl') (fun g lo j R=>?_)
    .rintro(A|⟨q,j,lo,A,Y⟩)
     .exact W (.inl A)
     .obtain⟨p,j',f1,_⟩:=CG (hZ A);exact W (.inr ⟨p,j',lo,f1,Y⟩)
    .simp only[C6.rho,Z];rw[az (by omega)];exact M3 R j
   .obtain⟨p,j',f1,_⟩:=CG (hZ R);have:=I.lt _ _ _ _ f1;exact⟨this.1,hN _ _ this.1 this.2⟩
  refine ⟨.agg c,hv,fun Q=>U _ fun b lo _ X=>X.resolve_right (fun e=>Q _ _ (e _ (bk _))),fun _=>U _ fun b lo _ X=>X,C⟩
variable{f:FuncId}{c:Code}{pl:PC}{rv:List RV}
theorem XZ(hD:Jm P fn.ntmps D)(hf:P.funcs[f]? =some fn)(hb:fn.body=some c)(hname:fn.name≠ "runtime.NumGoroutine")(hok:DB P fn.ntmps D pl c=true)(hrv:FW P fn.results.toList rv=true)
  {args:Fq}(hn:args.length<=fn.ntmps)(hp:r.plain=true)(h:TV.x7 args->pl.wp (AN P) ⟨Bi rv r,fun _ _=>False,Bi rv r⟩ (Dc 0 args)):AN P f args r:=by
 refine AN.of0 ?_ hp;intro hw;refine⟨by simp[DM,hf,hb,hname],fun F0 w vs hrep=>?_⟩;have hl:=A6 hrep;simp at hl;have hcalls:Calls P f vs w fun e w'=>(∃v,e=.returned v/\Below w.heap.size w w'/\FE w' (fun b o=>b<w.heap.size/\F0 b o) w.heap.size r v)/\r.WF:=by
  refine calls_of_wp hf hb ?_;have fin:∀(O:AB)(a:Act)(w':World),Bi rv r O->Jn fn.ntmps none a->BZ F0 (W0.mk w fun _ _=>False) O a w'->a.defers=[]/\∃v,(results fn a.tmps).run P w'=.ok v w'/\((∃v',Ending.returned v=.returned v'/\Below w.heap.size w w'/\FE w' (fun b o=>b<w.heap.size/\F0 b o) w.heap.size r v')/\r.WF):=by
   intro O a w' hr hN ⟨G,hI⟩;obtain⟨v,e1,e2,_,e3⟩:=TH (P:=P) hI hrv (.inl fun _ _ h=>h) hp hr;exact⟨hI.defers,v,e1,⟨v,rfl,⟨hI.below.os,hI.below.tape,hI.below.output,hI.below.size,fun k hk=>hI.below.block k hk (fun _ h=>h)⟩,e2 fun _ _ h=>h⟩,e3⟩
  refine Lr (p:=none) hD pl c hok (.inl fun _ _ h=>h) (by simp) _ _ ?_ ?_ ?_ _ _ w ?_ (BZ.start hrep hw) (h hw)
  .exact fun O a w' h1 h2 h3=>fin O a w' h1 h2 h3
  .grind
  .exact fun O a w' h1 h2 h3=>fin O a w' h1 h2 h3
  .exact⟨by simp;omega,by simp⟩
 refine ⟨?_,hcalls.mono fun e w' h=>h.1⟩;obtain⟨_,_,_,h1,_⟩:=hcalls [];exact h1.2
def Sb(i m:Nat)(Z:C6):BI:=fun s=>if s=i then Z 0 else if m<=s then(fun j=>match j with|some j=>Z (s-m+1) (some j)|none=>none)else fun _=>none
variable{Z:C6}
theorem ZA{i m:Nat}{p:Nat}{j:Option Nat}{b lo:Nat}(h:Sb i m Z p j=some (b,lo)):(p=i/\Z 0 j=some (b,lo))\/(p≠i/\m<=p/\Z (p-m+1) j=some (b,lo)):=by
 simp [Sb]at h
 grind
variable{i:Nat}{v:Value}
theorem BZ.startZ{w:World}{F0:Nat->Nat->Prop}{vs:Array Value}{e:EV}(h:AP w (fun b o=>F0 b o\/ZF Z b o) ts vs.toList)(Q:TV.x7 ts)(B:e.WF)
  (hi:vs[i]?=some v)(C:IA Z)(E:∀q i b lo,Z q i=some (b,lo)->b<w.heap.size)(H:∀b o S,ZF Z b o->¬F0 b S)
  (R:∀a:Act,slot a i=v->∀G:BI,G i=Z 0->rho a G=Z.rho->∀L,BP w w (fun b o=>F0 b o\/ZF Z b o) L->AM a w L G ((i,e)::Dc 0 ts) i e v):
  BZ F0 (W0.mk w (ZF Z)) ((i,e)::Dc 0 ts) {tmps:=vs++Array.replicate n undef,defers:=[]} w:=by
 have X:=A6 h;simp at X;have k:i<vs.size:=(Array.getElem?_eq_some_iff.1 hi).1
 let G:BI:=Sb i (vs.size+n) Z
 have z:∀p j b lo,G p j=some (b,lo)->∃q,Z q j=some (b,lo)/\((p=i/\q=0)\/(p≠i/\q=p-(vs.size+n)+1/\vs.size+n<=p)):=by
  intro p j b lo W;rcases ZA W with⟨y,K⟩|⟨y,K,M⟩
  .grind
  grind
 have l:BP w w (fun b o=>F0 b o\/ZF Z b o) (AT w.heap.size F0 G):=by
  refine fun b o u T hf=>⟨T,?_⟩;rintro(⟨_,y⟩|⟨p,j,lo,y,K⟩)
  .exact hf (.inl y)
  .obtain⟨q,M,_⟩:=z _ _ _ _ y;exact hf (.inr ⟨q,j,lo,M,K⟩)
 have m:∀s(d:s<vs.size),slot {tmps:=vs++Array.replicate n undef,defers:=[]} s=vs[s]:=by
  intro s d;simp[slot,Array.getD_eq_getD_getElem?,Array.getElem?_append,d]
 refine ⟨G,fun p j p' j' b lo U I V=>?_,fun p j b lo I=>?_,⟨rfl,rfl,rfl,bk _,fun _ _ _=>rfl,fun _ _ _ _ h=>h,H⟩,rfl,fun s d=>?_,fun s d=>?_,fun s=>?_⟩
 .obtain⟨q,A,f2⟩:=z _ _ _ _ I;obtain⟨q',f3,f4⟩:=z _ _ _ _ V;have:=C _ _ _ _ _ _ _ A f3;exact⟨by omega,this.2⟩
 .obtain⟨q,A,_⟩:=z _ _ _ _ I;exact⟨E _ _ _ _ A,.inr fun o ho=>⟨q,j,lo,A,ho⟩⟩
 .simp at d;rw[AB.ea,az (by omega),Iu,ae (Nat.zero_le _),List.getElem?_eq_none (by omega)]
 .rw[AB.ea];by_cases x:i=s
  .subst x;rw[ae rfl,m i k];have hv:vs[i]=v:=by
    grind
   rw [hv];refine R _ (by rw[m i k,hv]) G (by simp[G,Sb]) ?_ _ l;funext g j;simp only[rho,G,Sb,Array.size_append,Array.size_replicate,C6.rho];rw[az (by omega),ae (by omega)];show Z (vs.size+n+g-(vs.size+n)+1) (some j)=Z (g+1) (some j);rw[Nat.add_sub_cancel_left]
  .rw[az x,Iu,ae (Nat.zero_le _),Nat.sub_zero];cases J:ts[s]? with
   |none=>trivial|some t=>
    have Y:s<vs.size:=by
     grind
    have hv:vs.toList[s]?=some (slot {tmps:=vs++Array.replicate n undef,defers:=[]} s):=by
     grind
    exact Bu l _ _ (((BN _ _).1 h).2 s t _ J hv)
 .rw[AB.ea];split
  .exact B
  .rw[Iu,ae (Nat.zero_le _),Nat.sub_zero];cases J:ts[s]? with
   |none=>trivial|some t=>exact BX.1 Q t (List.mem_of_getElem? J)
theorem BZ.startB{w:World}{F0:Nat->Nat->Prop}{vs:Array Value}{cs:List AR}(h:AP w (fun b o=>F0 b o\/ZF Z b o) ts vs.toList)(y:TV.x7 ts)(g:∀c∈cs,c.t.WF)
  (hi:vs[i]?=some v)(z:Lj w (fun b o=>F0 b o\/ZF Z b o) Z cs v)(k:IA Z)(l:∀q i b lo,Z q i=some (b,lo)->b<w.heap.size)(m:∀b o A,ZF Z b o->¬F0 b A):
  BZ F0 (W0.mk w (ZF Z)) ((i,.bx cs)::Dc 0 ts) {tmps:=vs++Array.replicate n undef,defers:=[]} w:=by
 refine BZ.startZ (e:=.bx cs) h y g hi k l m fun a Q G u B R s=>?_;obtain⟨b,c,T,E,H,I,J,K⟩:=z;simp only[AM];refine⟨b,c,T,E,H,I,by rw[u];exact J,fun j d C=>?_⟩;obtain⟨x,L,M⟩:=K j d C;refine⟨x,L,?_⟩;rw[u,B];exact M.kept s (fun _ _ _=>rfl) A7.rfl'
theorem BZ.startA{w:World}{F0:Nat->Nat->Prop}{vs:Array Value}{cs:List AR}(h:AP w (fun b o=>F0 b o\/ZF Z b o) ts vs.toList)(u:TV.x7 ts)(g:∀c∈cs,c.t.WF)
  (hi:vs[i]?=some v)(y:Tt w (fun b o=>F0 b o\/ZF Z b o) Z cs v)(k:IA Z)(l:∀q i b lo,Z q i=some (b,lo)->b<w.heap.size)(m:∀b o z,ZF Z b o->¬F0 b z):
  BZ F0 (W0.mk w (ZF Z)) ((i,.oag cs)::Dc 0 ts) {tmps:=vs++Array.replicate n undef,defers:=[]} w:=by
 refine BZ.startZ (e:=.oag cs) h u g hi k l m fun a L G A B M s=>?_;obtain⟨xs,E,H,I⟩:=y;simp[AM];refine⟨xs,E,H,fun j d C=>?_⟩;obtain⟨x,J,K,_⟩:=I j d C;refine⟨x,J,?_⟩;rw[A,B];exact K.kept s (fun _ _ _=>rfl) A7.rfl'
variable{us:Fq}
theorem cY(hD:Jm P fn.ntmps D)(hf:P.funcs[f]? =some fn)(hb:fn.body=some c)(hname:fn.name≠ "runtime.NumGoroutine")(hok:DB P fn.ntmps D pl c=true)(hrv:FW P fn.results.toList rv=true)
  {args:Fq}(hn:args.length<=fn.ntmps){cs cs':List AR}(hcl:pl.Aaf=true)(hdst:pl.Aag i=true)(h:TV.x7 args->(∀c∈cs,c.t.WF)->pl.wp (AN P) ⟨Bi rv (.bo cs cs' i us),fun _ _=>False,Bi rv (.bo cs cs' i us)⟩ ((i,.bx cs)::Dc 0 args)):AN P f args (.bo cs cs' i us):=by
 intro hw hwc;refine⟨by simp[DM,hf,hb,hname],fun F0 w vs v Z hrep hvi hbox hzu hzl hfree=>?_⟩;have hl:=A6 hrep;simp at hl;have hcalls:Calls P f vs w fun e w'=>((∀c∈cs',c.t.WF)/\TV.x7 us)/\∃r Z',e=.returned r/\Ft Z w w'/\Lj w' (fun b o=>(b<w.heap.size/\F0 b o)\/ZF Z' b o) Z' cs' v/\
   IA Z'/\(∀q i b lo,Z' q i=some (b,lo)->b<w'.heap.size/\(w.heap.size<=b\/∃p j lo',Z p j=some (b,lo')/\lo'<=lo))/\
   QL w' (fun b o=>(b<w.heap.size/\F0 b o)\/ZF Z' b o) us r:=by
  refine calls_of_wp hf hb ?_;have fin:∀(O:AB)(a:Act)(w':World),Bi rv (.bo cs cs' i us) O->Jn fn.ntmps (some (i,v)) a->BZ F0 (W0.mk w (ZF Z)) O a w'->a.defers=[]/\∃r,(results fn a.tmps).run P w'=.ok r w'/\(((∀c∈cs',c.t.WF)/\TV.x7 us)/\∃r' Z',Ending.returned r=.returned r'/\Ft Z w w'/\Lj w' (fun b o=>(b<w.heap.size/\F0 b o)\/ZF Z' b o) Z' cs' v/\
    IA Z'/\(∀q i b lo,Z' q i=some (b,lo)->b<w'.heap.size/\(w.heap.size<=b\/∃p j lo',Z p j=some (b,lo')/\lo'<=lo))/\
    QL w' (fun b o=>(b<w.heap.size/\F0 b o)\/ZF Z' b o) us r'):=by
   rintro O a w' ⟨hs,hr⟩ hN ⟨G,hI⟩;have hag:BP w' w' (AT w.heap.size F0 G) (fun b o=>(b<w.heap.size/\F0 b o)\/ZF (BY a G i) b o):=by
    refine fun b o u hc hF=>⟨hc,?_⟩;rintro(h1|⟨q,j,lo,h1,h2⟩)
    .exact hF (.inl h1)
    .obtain⟨p,j',f1,_⟩:=CG h1;exact hF (.inr ⟨p,j',lo,f1,h2⟩)
   have hisz:i<a.tmps.size:=BR hI hs (by simp);have hbx:=AX hI hs (by simp);have hwb:=hI.wf i;rw[hs]at hwb;rw[hN.pin i v rfl]at hbx;simp only[AM]at hbx;obtain⟨b,c,T,k1,k2,k3,k4,k5⟩:=hbx;obtain⟨vs',e1,e2,e3⟩:=Gv (P:=P) hI hrv hr;have hm:=FR e1;have hshape:(results fn a.tmps)=(fn.results.mapM (FN a.tmps)>>=fun vs=>pure (if h:vs.size=1 then vs[0]else .tuple vs)):=by
    unfold results;congr 1
   have hlen:=A6 e2;have hres:∃r,(results fn a.tmps).run P w'=.ok r w'/\QL w' (AT w.heap.size F0 G) us r:=by
    rw [hshape];by_cases h1:vs'.length=1
    .obtain⟨x,rfl⟩:=List.length_eq_one_iff.1 h1;rcases us with _|⟨t,_|⟨t',us⟩⟩
     .simp at hlen
     .simp only[AP]at e2;obtain⟨v',r',hv',e4,rfl⟩:=e2;simp at hv';subst hv';exact⟨x,by simp[hm],e4⟩
     .simp at hlen
    .refine⟨.tuple vs'.toArray,by simp[hm,h1],?_⟩;rcases us with _|⟨t,_|⟨t',us⟩⟩
     .exact⟨_,rfl,e2.toA⟩
     .grind
     .exact⟨_,rfl,e2.toA⟩
   obtain ⟨r,hr1,hr2⟩:=hres;refine⟨hI.defers,r,hr1,⟨hwb,e3⟩,r,BY a G i,rfl,?_,⟨b,c,T,k1,k2,k3,by rw[Cx];exact k4,fun j d hj=>?_⟩,Iq hI hisz,fun q j b lo f1=>?_,?_⟩
   .exact⟨hI.below.os,hI.below.tape,hI.below.output,hI.below.size,fun k hk hz=>hI.below.block k hk (fun o⟨q,j,lo,f1,_⟩=>hz q j lo f1),fun b o u hz hu=>hI.below.cell b o u hz hu⟩
   .obtain⟨x,f1,f2⟩:=k5 j d hj;refine⟨x,f1,?_⟩;rw[Cx];exact A5.rho (f2.kept hag (fun _ _ _=>rfl) A7.rfl') fun g lo j' hz=>M3 hz j'
   .obtain⟨p,j',g1,_⟩:=CG f1;obtain⟨f2,f3⟩:=hI.lt _ _ _ _ g1;refine⟨f2,f3.imp id (fun e=>?_)⟩;exact e lo (bk _)
   .rcases us with _|⟨t,_|⟨t',us⟩⟩
    .obtain⟨vs2,f1,f2⟩:=hr2;exact⟨vs2,f1,Ah hag _ _ f2⟩
    .exact Bu hag _ _ hr2
    .obtain⟨vs2,f1,f2⟩:=hr2;exact⟨vs2,f1,Ah hag _ _ f2⟩
  refine Lr (p:=some (i,v)) hD pl c hok (.inr hcl) (fun j u hp=>by cases hp;exact hdst) _ _ ?_ ?_ ?_ _ _ w ?_ (BZ.startB hrep hw hwc hvi hbox hzu hzl hfree) (h hw hwc)
  .exact fun O a w' h1 h2 h3=>fin O a w' h1 h2 h3
  .exact fun i O a w' h1 _ _=>h1.elim
  .exact fun O a w' h1 h2 h3=>fin O a w' h1 h2 h3
  .have hil:i<vs.size:=(Array.getElem?_eq_some_iff.1 hvi).1;refine⟨by simp;omega,fun j u hp=>?_⟩;cases hp;have:=Array.getElem?_eq_getElem hil;rw[this]at hvi;simp at hvi;simp[slot,Array.getD_eq_getD_getElem?,Array.getElem?_append,hil,hvi]
 refine ⟨?_,hcalls.mono fun e w' h=>h.2⟩;obtain⟨_,_,_,h1,_⟩:=hcalls [];exact h1.1
def Wk(cs'' cs':List AR):Prop:=cs''.length=cs'.length/\∀(i:Nat)(d:AR),cs'[i]?=some d->∃d',cs''[i]?=some d'/\(d=d'\/d=⟨false,.undef⟩)
theorem Wk.wf{b cs':List AR}(h:Wk b cs')(e:∀c∈b,c.t.WF):∀c∈cs',c.t.WF:=by
 intro c d;obtain⟨i,hi⟩:=List.getElem?_of_mem d;obtain⟨g,j,rfl|rfl⟩:=h.2 i c hi
 .grind
 .exact trivial
theorem Wk.cell{w:World}{ρ:G4}{z:Option (Nat×Nat)}{x:Value}{d b:AR}(h:d=b\/d=⟨false,.undef⟩)(e:A5 w F ρ z b x):A5 w F ρ z d x:=by
 rcases h with rfl|rfl
 .exact e
 .have:x.oneCell'=true:=by
   obtain ⟨o,t⟩:=b;cases o with
   |true=>exact Mr e|false=>exact e.2
  exact ⟨by simp[AZ];exact this,this⟩
def YP(rv:List RV)(cs cs':List AR)(i:Nat)(us:Fq)(O:AB):Prop:=∃cs'',Wk cs'' cs'/\Bi rv (.bo cs cs'' i us) O
theorem aW(hD:Jm P fn.ntmps D)(hf:P.funcs[f]? =some fn)(hb:fn.body=some c)(hname:fn.name≠ "runtime.NumGoroutine")(hok:DB P fn.ntmps D pl c=true)(hrv:FW P fn.results.toList rv=true)
  {args:Fq}(hn:args.length<=fn.ntmps){cs cs':List AR}(hcl:pl.Aaf=true)(hdst:pl.Aag i=true)(h:TV.x7 args->(∀c∈cs,c.t.WF)->pl.wp (AN P) ⟨YP rv cs cs' i us,fun _ _=>False,YP rv cs cs' i us⟩ ((i,.bx cs)::Dc 0 args)):AN P f args (.bo cs cs' i us):=by
 intro hw hwc;refine⟨by simp[DM,hf,hb,hname],fun F0 w vs v Z hrep hvi hbox hzu hzl hfree=>?_⟩;have hl:=A6 hrep;simp at hl;have hcalls:Calls P f vs w fun e w'=>((∀c∈cs',c.t.WF)/\TV.x7 us)/\∃r Z',e=.returned r/\Ft Z w w'/\Lj w' (fun b o=>(b<w.heap.size/\F0 b o)\/ZF Z' b o) Z' cs' v/\
   IA Z'/\(∀q i b lo,Z' q i=some (b,lo)->b<w'.heap.size/\(w.heap.size<=b\/∃p j lo',Z p j=some (b,lo')/\lo'<=lo))/\
   QL w' (fun b o=>(b<w.heap.size/\F0 b o)\/ZF Z' b o) us r:=by
  refine calls_of_wp hf hb ?_;have fin:∀(O:AB)(a:Act)(w':World),YP rv cs cs' i us O->Jn fn.ntmps (some (i,v)) a->BZ F0 (W0.mk w (ZF Z)) O a w'->a.defers=[]/\∃r,(results fn a.tmps).run P w'=.ok r w'/\(((∀c∈cs',c.t.WF)/\TV.x7 us)/\∃r' Z',Ending.returned r=.returned r'/\Ft Z w w'/\Lj w' (fun b o=>(b<w.heap.size/\F0 b o)\/ZF Z' b o) Z' cs' v/\
    IA Z'/\(∀q i b lo,Z' q i=some (b,lo)->b<w'.heap.size/\(w.heap.size<=b\/∃p j lo',Z p j=some (b,lo')/\lo'<=lo))/\
    QL w' (fun b o=>(b<w.heap.size/\F0 b o)\/ZF Z' b o) us r'):=by
   rintro O a w' ⟨cs'',hwk,hs,hr⟩ hN ⟨G,hI⟩;have hag:BP w' w' (AT w.heap.size F0 G) (fun b o=>(b<w.heap.size/\F0 b o)\/ZF (BY a G i) b o):=by
    refine fun b o u hc hF=>⟨hc,?_⟩;rintro(h1|⟨q,j,lo,h1,h2⟩)
    .exact hF (.inl h1)
    .obtain⟨p,j',f1,_⟩:=CG h1;exact hF (.inr ⟨p,j',lo,f1,h2⟩)
   have hisz:i<a.tmps.size:=BR hI hs (by simp);have hbx:=AX hI hs (by simp);have hwb:=hI.wf i;rw[hs]at hwb;rw[hN.pin i v rfl]at hbx;simp only[AM]at hbx;obtain⟨b,c,T,k1,k2,k3,k4,k5⟩:=hbx;obtain⟨vs',e1,e2,e3⟩:=Gv (P:=P) hI hrv hr;have hm:=FR e1;have hshape:(results fn a.tmps)=(fn.results.mapM (FN a.tmps)>>=fun vs=>pure (if h:vs.size=1 then vs[0]else .tuple vs)):=by
    unfold results;congr 1
   have hlen:=A6 e2;have hres:∃r,(results fn a.tmps).run P w'=.ok r w'/\QL w' (AT w.heap.size F0 G) us r:=by
    rw [hshape];by_cases h1:vs'.length=1
    .obtain⟨x,rfl⟩:=List.length_eq_one_iff.1 h1;rcases us with _|⟨t,_|⟨t',us⟩⟩
     .simp at hlen
     .simp only[AP]at e2;obtain⟨v',r',hv',e4,rfl⟩:=e2;simp at hv';subst hv';exact⟨x,by simp[hm],e4⟩
     .simp at hlen
    .refine⟨.tuple vs'.toArray,by simp[hm,h1],?_⟩;rcases us with _|⟨t,_|⟨t',us⟩⟩
     .exact⟨_,rfl,e2.toA⟩
     .grind
     .exact⟨_,rfl,e2.toA⟩
   obtain ⟨r,hr1,hr2⟩:=hres;refine⟨hI.defers,r,hr1,⟨hwk.wf hwb,e3⟩,r,BY a G i,rfl,?_,⟨b,c,T,k1,k2,k3.trans hwk.1,by rw[Cx];exact k4,fun j d hj=>?_⟩,Iq hI hisz,fun q j b lo f1=>?_,?_⟩
   .exact⟨hI.below.os,hI.below.tape,hI.below.output,hI.below.size,fun k hk hz=>hI.below.block k hk (fun o⟨q,j,lo,f1,_⟩=>hz q j lo f1),fun b o u hz hu=>hI.below.cell b o u hz hu⟩
   .obtain⟨d',hd',hdd⟩:=hwk.2 j d hj;obtain⟨x,f1,f2⟩:=k5 j d' hd';refine⟨x,f1,Wk.cell hdd ?_⟩;rw[Cx];exact A5.rho (f2.kept hag (fun _ _ _=>rfl) A7.rfl') fun g lo j' hz=>M3 hz j'
   .obtain⟨p,j',g1,_⟩:=CG f1;obtain⟨f2,f3⟩:=hI.lt _ _ _ _ g1;refine⟨f2,f3.imp id (fun e=>?_)⟩;exact e lo (bk _)
   .rcases us with _|⟨t,_|⟨t',us⟩⟩
    .obtain⟨vs2,f1,f2⟩:=hr2;exact⟨vs2,f1,Ah hag _ _ f2⟩
    .exact Bu hag _ _ hr2
    .obtain⟨vs2,f1,f2⟩:=hr2;exact⟨vs2,f1,Ah hag _ _ f2⟩
  refine Lr (p:=some (i,v)) hD pl c hok (.inr hcl) (fun j u hp=>by cases hp;exact hdst) _ _ ?_ ?_ ?_ _ _ w ?_ (BZ.startB hrep hw hwc hvi hbox hzu hzl hfree) (h hw hwc)
  .exact fun O a w' h1 h2 h3=>fin O a w' h1 h2 h3
  .exact fun i O a w' h1 _ _=>h1.elim
  .exact fun O a w' h1 h2 h3=>fin O a w' h1 h2 h3
  .have hil:i<vs.size:=(Array.getElem?_eq_some_iff.1 hvi).1;refine⟨by simp;omega,fun j u hp=>?_⟩;cases hp;have:=Array.getElem?_eq_getElem hil;rw[this]at hvi;simp at hvi;simp[slot,Array.getD_eq_getD_getElem?,Array.getElem?_append,hil,hvi]
 refine ⟨?_,hcalls.mono fun e w' h=>h.2⟩;obtain⟨_,_,_,h1,_⟩:=hcalls [];exact h1.1
theorem cX(hD:Jm P fn.ntmps D)(hf:P.funcs[f]? =some fn)(hb:fn.body=some c)(hname:fn.name≠ "runtime.NumGoroutine")(hok:DB P fn.ntmps D pl c=true)(hrv:FW P fn.results.toList rv=true)
  {args:Fq}(hn:args.length<=fn.ntmps){cs:List AR}(hcl:pl.Aaf=true)(hp:r.plain=true)(hlo:r.lone=false)(h:TV.x7 args->(∀c∈cs,c.t.WF)->pl.wp (AN P) ⟨Bi rv r,fun _ _=>False,Bi rv r⟩ ((i,.oag cs)::Dc 0 args)):AN P f args (.ag cs i r):=by
 intro hw hwc;refine⟨by simp[DM,hf,hb,hname],fun F0 w vs v Z hrep hvi hbox hzu hzl hfree=>?_⟩;have hl:=A6 hrep;simp at hl;have hcalls:Calls P f vs w fun e w'=>r.WF/\∃v',e=.returned v'/\Ft Z w w'/\Wd w' (fun b o=>b<w.heap.size/\F0 b o) (fun b lo=>w.heap.size<=b\/∃p j lo',Z p j=some (b,lo')/\lo'<=lo) r v':=by
  refine calls_of_wp hf hb ?_;have fin:∀(O:AB)(a:Act)(w':World),Bi rv r O->Jn fn.ntmps none a->BZ F0 (W0.mk w (ZF Z)) O a w'->a.defers=[]/\∃v,(results fn a.tmps).run P w'=.ok v w'/\(r.WF/\∃v',Ending.returned v=.returned v'/\Ft Z w w'/\Wd w' (fun b o=>b<w.heap.size/\F0 b o) (fun b lo=>w.heap.size<=b\/∃p j lo',Z p j=some (b,lo')/\lo'<=lo) r v'):=by
   intro O a w' hr hN ⟨G,hI⟩;obtain⟨v,e1,_,e2,e3⟩:=TH (P:=P) hI hrv (.inr hlo) hp hr;refine⟨hI.defers,v,e1,e3,v,rfl,⟨hI.below.os,hI.below.tape,hI.below.output,hI.below.size,fun k hk hz=>hI.below.block k hk (fun o⟨q,j,lo,f1,_⟩=>hz q j lo f1),fun b o u hz hu=>hI.below.cell b o u hz hu⟩,?_⟩;have hN:∀b lo,(w.heap.size<=b\/∀o,lo<=o->ZF Z b o)->w.heap.size<=b\/∃p j lo',Z p j=some (b,lo')/\lo'<=lo:=fun b lo h=>h.imp id fun e=>e lo (bk _);have e4:=e2 hlo;cases r with
   |sh t=>exact e4|tp ts=>exact e4|oag ds=>
    obtain ⟨Z',f1,f2,f3,f4⟩:=e4;exact⟨Z',f1,f2,f3,fun q i b lo hz=>⟨(f4 q i b lo hz).1,hN _ _ (f4 q i b lo hz).2⟩⟩
   |_=>first|(exact Bool.noConfusion hp)|(exact Bool.noConfusion hlo)
  refine Lr (p:=none) hD pl c hok (.inr hcl) (by simp) _ _ ?_ ?_ ?_ _ _ w ?_ (BZ.startA hrep hw hwc hvi hbox hzu hzl hfree) (h hw hwc)
  .exact fun O a w' h1 h2 h3=>fin O a w' h1 h2 h3
  .exact fun i O a w' h1 _ _=>h1.elim
  .exact fun O a w' h1 h2 h3=>fin O a w' h1 h2 h3
  .exact⟨by simp;omega,by simp⟩
 refine ⟨?_,hcalls.mono fun e w' h=>h.2⟩;obtain⟨_,_,_,h1,_⟩:=hcalls [];exact h1.1
theorem cZ(hD:Jm P fn.ntmps D)(hf:P.funcs[f]? =some fn)(hb:fn.body=some c)(hname:fn.name≠ "runtime.NumGoroutine")(hok:DB P fn.ntmps D pl c=true)(hrv:FW P fn.results.toList rv=true)
  {args:Fq}(hn:args.length<=fn.ntmps){kvs:BD}(h:TV.x7 args->pl.wp (AN P) ⟨Bi rv (.mpr kvs ts),fun _ _=>False,Bi rv (.mpr kvs ts)⟩ (Dc 0 args)):AN P f args (.mpr kvs ts):=by
 intro hw;refine⟨by simp[DM,hf,hb,hname],fun F0 w vs hrep=>?_⟩;have hl:=A6 hrep;simp at hl;have hcalls:Calls P f vs w fun e w'=>(∃v,e=.returned v/\Below w.heap.size w w'/\FE w' (fun b o=>b<w.heap.size/\F0 b o) w.heap.size (.mpr kvs ts) v)/\(An.mpr kvs ts).WF:=by
  refine calls_of_wp hf hb ?_;have fin:∀(O:AB)(a:Act)(w':World),Bi rv (.mpr kvs ts) O->Jn fn.ntmps none a->BZ F0 (W0.mk w fun _ _=>False) O a w'->a.defers=[]/\∃v,(results fn a.tmps).run P w'=.ok v w'/\((∃v',Ending.returned v=.returned v'/\Below w.heap.size w w'/\FE w' (fun b o=>b<w.heap.size/\F0 b o) w.heap.size (.mpr kvs ts) v')/\(An.mpr kvs ts).WF):=by
   intro O a w' hr hN ⟨G,hI⟩;rcases rv with _|⟨⟨s⟩|⟨s,_⟩,rs⟩
   .exact hr.elim
   .obtain⟨hne,⟨b,o,h1,h2⟩,h3⟩:=hr;have hg:EI O (.tmp s::rs)=some (.AaO b::ts):=by simp[EI,RV.get,h1,EV.val,h3]
    obtain ⟨us,e1,e2,e3⟩:=Gv (P:=P) hI hrv hg;have hm:=FR e1;have hshape:(results fn a.tmps)=(fn.results.mapM (FN a.tmps)>>=fun vs=>pure (if h:vs.size=1 then vs[0]else .tuple vs)):=by
     unfold results;congr 1
    simp [AP]at e2;obtain⟨v0,us',rfl,e4,e5⟩:=e2;simp[AZ]at e4;subst e4;have hor:=AX hI h2 (by simp);have how:=hI.wf o;rw[h2]at how;simp[AM]at hor;obtain⟨k1,k2,k3⟩:=hor;have hlt:=hI.lt _ _ _ _ k2;have hus:us'.length≠0:=by
     have h6:=A6 e5;have:ts.length=rs.length:=by
      have:∀(ys:List RV)(ts:Fq),EI O ys=some ts->ts.length=ys.length:=by
       intro ys
       induction ys with
       |nil=>intro ts h;simp[EI]at h;subst h;rfl|cons y ys ih=>
        grind [EI,x5]
      exact this _ _ h3
     grind
    have hag:BP w' w' (AT w.heap.size F0 G) (fun b o=>b<w.heap.size/\F0 b o):=fun b o u hc hF=>⟨hc,fun hF'=>hF (.inl hF')⟩;refine⟨hI.defers,.tuple (Value.map (some b)::us').toArray,?_,⟨_,rfl,⟨hI.below.os,hI.below.tape,hI.below.output,hI.below.size,fun k hk=>hI.below.block k hk (fun _ h=>h)⟩,b,us',rfl,hlt.2.resolve_right (fun e=>e _ (bk _)),hlt.1,k3,Ah hag _ _ e5⟩,how,e3.2⟩;rw[hshape];have:¬us'.length=0:=hus;simp[hm,this]
   .exact hr.elim
  refine Lr (p:=none) hD pl c hok (.inl fun _ _ h=>h) (by simp) _ _ ?_ ?_ ?_ _ _ w ?_ (BZ.start hrep hw) (h hw)
  .exact fun O a w' h1 h2 h3=>fin O a w' h1 h2 h3
  .grind
  .exact fun O a w' h1 h2 h3=>fin O a w' h1 h2 h3
  .exact⟨by simp;omega,by simp⟩
 refine ⟨?_,hcalls.mono fun e w' h=>h.1⟩;obtain⟨_,_,_,h1,_⟩:=hcalls [];exact h1.2
end
end Go.Sf
