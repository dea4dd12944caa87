/- Code, and functions. -/
import Derived.Test.YthgbaecihlidaaaGreatDoorSfRegion
set_option linter.all false
namespace Go.Sf
open Go.RowKit (Below)
def DB(P:Program)(N:Nat)(D:QQ->Array Oper->List PR->Bool):PC->Code->Bool
 |.skip _,.skip=>true|.ret,.ret=>true|.exit i _,.exit j=>i==j|.seq a b,.seq c d=>DB P N D a c&&DB P N D b d|.cond c a b,.cond x p q=>AG x c&&(DB P N D a p&&DB P N D b q)|.block i c,.block j d=>i==j&&DB P N D c d|.loop _ c,.loop d=>DB P N D c d|.region rs _,.region _ ops draw=>!draw&&Kx P N ops ops.toList rs|.draw ds rs _,.region _ ops draw=>draw&&D ds ops rs|.rls _ a,c=>DB P N D a c|.bad,_=>true|_,_=>false
def PC.Aal:PC->Bool
 |.seq a b=>a.Aal&&b.Aal|.cond _ a b=>a.Aal&&b.Aal|.block _ c=>c.Aal|.loop _ c=>c.Aal|.rls _ c=>c.Aal|_=>true
def Aad(i:Nat)(rs:List PR):Bool:=rs.all fun r=>r.dst !=some i
def PC.Aad(i:Nat):PC->Bool
 |.seq a b=>a.Aad i&&b.Aad i|.cond _ a b=>a.Aad i&&b.Aad i|.block _ c=>c.Aad i|.loop _ c=>c.Aad i|.rls _ c=>c.Aad i|.region rs _=>Go.Sf.Aad i rs|.draw _ rs _=>Go.Sf.Aad i rs|_=>true
variable{i:Nat}
theorem Uw{b:List PR}(h:Aad i b=true):∀r∈b,r.dst≠some i:=by
 intro r d;have:=List.all_eq_true.1 h r d;simpa using this
section
variable{P:Program}{F0:Nat->Nat->Prop}{w0:W0}{N:Nat}{p:Option (Nat×Value)}{D:QQ->Array Oper->List PR->Bool}
theorem Bi.envWF{O:AB}{a:Act}{w:World}(h:Bi F0 w0 O a w):∀s,(O.get s).WF:=by
 obtain ⟨G,h⟩:=h;exact h.wf
def Jm(P:Program)(N:Nat)(D:QQ->Array Oper->List PR->Bool):Prop:=
 ∀(F0:Nat->Nat->Prop)(w0:W0)(p:Option (Nat×Value))(id:Nat)(ds:QQ)(ops:Array Oper)(rs:List PR)(live:QQ)(O:AB)(a:Act)(w:World)(K:AB->Prop)(Q:Exit->Act->World->Prop),D ds ops rs=true->(∀i v,p=some (i,v)->∀r∈rs,r.dst≠some i)->Jn N p a->Bi F0 w0 O a w->Qh O ds=true->wpOps (AO P) (fun e=>K (e.fu live)) rs O ->
  (∀O a w,K O->Jn N p a->Bi F0 w0 O a w->Q .normal a w)->(Code.region id ops true).wp P Q a w
theorem L8(hD:Jm P N D):∀(X:PC)(c:Code),DB P N D X c=true->((∀b o,¬w0.E b o)\/X.Aal=true)->(∀i v,p=some (i,v)->X.Aad i=true)->∀(q:Q)(A:Exit->Act->World->Prop),
  (∀O a w,q.normal O->Jn N p a->Bi F0 w0 O a w->A .normal a w)->(∀i O a w,q.exit i O->Jn N p a->Bi F0 w0 O a w->A (.exit i) a w)->(∀O a w,q.ret O->Jn N p a->Bi F0 w0 O a w->A .ret a w) ->
  ∀O a w,Jn N p a->Bi F0 w0 O a w->X.wp (AO P) q O->c.wp P A a w:=by
 intro X
 induction X with
 |skip l=>
  intro c g K t q A C H I O a w u m h;cases c<;>simp[DB]at g<;>first|exact Go.wp_skip (C _ a w h u (m.fu l))|cases g
 |ret=>
  intro c g K t q A C H I O a w u m h;cases c<;>simp[DB]at g<;>first|exact Go.wp_ret (I O a w h u m)|cases g
 |exit i l=>
  intro c g K t q A C H I O a w u m h;cases c<;>simp only[DB]at g<;>first|cases g|skip
  simp at g;subst g;exact Go.wp_exit (H i _ a w h u (m.fu l))
 |seq x y V W=>
  intro c g K t q A C H I O a w u m h;cases c<;>simp only[DB]at g<;>first|cases g|skip
  rename_i c d;simp at g;have M:=K.imp id (fun e=>(tg _ _▸e:x.Aal=true/\y.Aal=true));have R:=fun i v J=>(tg _ _▸t i v J:x.Aad i=true/\y.Aad i=true);refine Go.wp_seq (V c g.1 (M.imp id And.left) (fun i v J=>(R i v J).1) _ _ ?_ ?_ ?_ O a w u m h)
  .intro O a w L u m;exact W d g.2 (M.imp id And.right) (fun i v J=>(R i v J).2) q A C H I O a w u m (L m.envWF)
  .exact H
  .exact I
 |cond o x y V W=>
  intro c g K t q A C H I O a w u m h;cases c<;>simp only[DB]at g<;>first|cases g|skip
  rename_i c d e;simp at g;simp[PC.wp]at h;split at h
  .rename_i b T;have hc:a.eval c=.bool b:=by
    obtain ⟨G,m⟩:=m;have:=(A0 m g.1 T).1
    grind [AX]
   have M:=K.imp id (fun e=>(tg _ _▸e:x.Aal=true/\y.Aal=true));have R:=fun i v J=>(tg _ _▸t i v J:x.Aad i=true/\y.Aad i=true);refine Go.wp_cond_split hc (fun T=>?_) (fun T=>?_)
   .exact V d g.2.1 (M.imp id And.left) (fun i v J=>(R i v J).1) q A C H I O a w u m (h.1 T)
   .exact W e g.2.2 (M.imp id And.right) (fun i v J=>(R i v J).2) q A C H I O a w u m (h.2 T)
  .exact h.elim
 |block i x ih=>
  intro c g K t q A C H I O a w u m h;cases c<;>simp only[DB]at g<;>first|cases g|skip
  rename_i j d;simp at g;obtain⟨rfl,g⟩:=g;refine Go.wp_block (ih d g K t _ _ ?_ ?_ ?_ O a w u m h)
  .exact C
  .intro k O a w L u m;simp[Exit.inBlock];simp only at L;split
   .rename_i e;rw[az e]at L;exact C O a w L u m
   .rename_i e;rw[b6 e]at L;exact H k O a w L u m
  .exact I
 |loop B x ih=>
  intro c g K t q A C H I O a w u m h;cases c<;>simp[DB]at g<;>first|cases g|skip
  rename_i c;simp[PC.wp]at h
  let Y:Act->World->Prop:=fun a w=>∀(b:Frame)(k:List Item)(cs:List Frame),∃e a' w',A e a' w'/\Arrives P (lone (b.at a (.code c::.inLoop c::k)) cs w) b k cs e a' w'
  have hX:=h (fun e=>∀a w,Jn N p a->Bi F0 w0 e a w->Y a w) ?_ a w u (m.fu B)
  .intro b k cs;obtain⟨e,a',w',S,z⟩:=hX b k cs;exact⟨e,a',w',S,.of_steps (.one step_loop) z⟩
  .intro e he a w u m;have T:c.wp P (Exit.then Y A) a w:=by
    refine ih c g K t _ _ ?_ ?_ ?_ e a w u m (he m.envWF)
    .intro O a w L u m;exact L a w u (m.fu B)
    .exact H
    .exact I
   intro b k cs;obtain⟨e,a₁,w₁,S,z⟩:=T b (.inLoop c::k) cs;cases e with
   |normal=>
    obtain ⟨e₂,a₂,w₂,hq₂,U⟩:=S b k cs;exact⟨e₂,a₂,w₂,hq₂,.of_steps (Steps.trans z (.one step_inLoop)) U⟩
   |exit id=>exact⟨_,a₁,w₁,S,.pass (x:=.inLoop c) rfl (fun _ _=>.inl (by simp)) z⟩|goto l=>exact⟨_,a₁,w₁,S,.pass (x:=.inLoop c) rfl (fun _ _=>.inl (by simp)) z⟩|ret=>exact⟨_,a₁,w₁,S,.pass (x:=.inLoop c) rfl (fun _ _=>.inl (by simp)) z⟩|panic ch=>exact⟨_,a₁,w₁,S,.pass (x:=.inLoop c) rfl (fun _ _=>.inl (by simp)) z⟩|outgrown=>exact⟨_,a₁,w₁,S,.pass (x:=.inLoop c) rfl (fun _ _=>.inl (by simp)) z⟩
 |region rs B=>
  intro c g K t q A C H I O a w u m h;cases c<;>simp only[DB]at g<;>first|cases g|skip
  rename_i id ops draw;simp[Bool.not_eq_true']at g;obtain⟨rfl,g⟩:=g;exact Yr g (fun i v J=>Uw (t i v J)) u m h fun O a w L u m=>C _ a w L u (m.fu B)
 |draw ds rs B=>
  intro c g K t q A C H I O a w u m h;cases c<;>simp only[DB]at g<;>first|cases g|skip
  rename_i id ops draw;simp at g;obtain⟨rfl,g⟩:=g;exact hD F0 w0 p id ds ops rs B O a w q.normal A g (fun i v J=>Uw (t i v J)) u m h.1 h.2 C
 |bad=>
  intro c g K t q A C H I O a w u m h;exact h.elim
 |rls s x ih=>
  intro c g K t q A C H I O a w u m h;have hok':DB P N D x c=true:=by
   grind [DB]
  simp [PC.wp]at h;split at h
  .rename_i cs hs;obtain⟨G,m⟩:=m;exact ih c hok' (K.imp id fun e=>e) t q A C H I _ a w u (m.rls hs) h
  .exact h.elim
def Dh:Nat->Fq->AB
 |_,[]=>[]|k,t::ts=>(k,.tv t)::Dh (k+1) ts
theorem Ij:∀(ts:Fq)(k n:Nat),AB.get (Dh k ts) n=if k<=n then(match ts[n-k]? with|some t=>.tv t|none=>.undef)else .undef
 |[],k,n=>by simp[Dh,AB.get]|t::ts,k,n=>by
  rw [Dh,AB.ec,Ij ts (k+1) n]
  grind
variable{n:Nat}
theorem Bi.start{w:World}{F0:Nat->Nat->Prop}{ts:Fq}{vs:Array Value}(h:AL w F0 ts vs.toList)(j:TV.tn ts)(d:Rw w):Bi F0 (W0.mk w fun _ _=>False) (Dh 0 ts) {tmps:=vs++Array.replicate n undef,defers:=[]} w:=by
 have q:=BB h;simp at q;refine⟨fun _ _=>none,by simp,by simp,⟨rfl,rfl,rfl,bk _,fun _ _ _=>rfl,fun _ _ _ _ h=>h,fun _ _ _ h=>h.elim,d,fun _ _ h=>h.elim⟩,rfl,fun s k=>?_,fun s k=>?_,fun s=>?_⟩
 .rw[Ij]
  grind
 .rw[Ij,az (Nat.zero_le _),Nat.sub_zero];cases d:ts[s]? with
  |none=>trivial|some t=>
   have e:s<vs.size:=by
    grind
   have hv:vs.toList[s]?=some (slot {tmps:=vs++Array.replicate n undef,defers:=[]} s):=by
    simp [slot,Array.getD_eq_getD_getElem?,Array.getElem?_append,e]
   refine B2 (fun b o u l m=>⟨l,?_⟩) _ _ (((BX _ _).1 h).2 s t _ d hv);rintro(g|⟨_,_,_,g,_⟩)
   .exact m g.2
   .cases g
 .rw[Ij,az (Nat.zero_le _),Nat.sub_zero];cases d:ts[s]? with
  |none=>trivial|some t=>exact Bf.1 j t (List.mem_of_getElem? d)
def O5(P:Program):ResultVar->RV->Bool
 |.tmp t,.tmp s=>t==s|.cell x t,.cell s none=>x==s&&Bw P t==some false|.cell x t,.cell s (some n)=>x==s&&Bw P t==some true&&Ce P t==some n|_,_=>false
def Fw(P:Program):List ResultVar->List RV->Bool
 |[],[]=>true|x::xs,y::ys=>O5 P x y&&Fw P xs ys|_,_=>false
def FA(tmps:Array Value):ResultVar->Sem Value
 |.tmp t=>pure (tmps.getD t undef)|.cell a t=>do loadVar t (<-asAddr (tmps.getD a undef))
variable{O:AB}{a:Act}{w:World}{G:BQ}
theorem XC(m:AM F0 w0 O a w G){x:ResultVar}{y:RV}(d:O5 P x y=true){t:TV}(h:y.get O=some t):∃v,(FA a.tmps x).run P w=.ok v w/\AX w (AR w0.heap.size F0 G) t v/\t.WF:=by
 have e:∀s,AG (.tmp s) (.s s)=true:=fun s=>by simp[AG]
 cases x with
 |tmp s=>
  cases y with
  |tmp s'=>
   simp [O5]at d;subst d;have:=A0 m (e s) (t:=t) h;exact⟨slot a s,rfl,this⟩
  |cell s' n=>cases n<;>simp[O5]at d
 |cell s ty=>
  cases y with
  |tmp _=>cases d
  |cell s' n=>
   cases n with
   |none=>
    simp [O5]at d;obtain⟨rfl,z⟩:=d;simp[RV.get]at h;split at h
    .rename_i u r o;simp at h;subst h;obtain⟨b,g,vs,A,l,B,_,C⟩:=PO m (e s) (y:=.s s) o;simp[AL]at l;obtain⟨v,M,rfl,K,Q⟩:=l;have H:=C 0 v rfl;rw[Addr.add_zero']at H;have k:a.tmps.getD s undef=.pointer (some ⟨b,g,none⟩):=A;refine⟨v,?_,K,B.1⟩;simp[FA,k,loadVar,CU z,H,asAddr]
    .cases h
   |some n=>
    simp [O5]at d;obtain⟨⟨rfl,z⟩,L⟩:=d;simp[RV.get]at h;split at h
    .rename_i cs o;split at h
     .rename_i q;simp at h;subst h;obtain⟨b,g,vs,A,l,B,E,C⟩:=PO m (e s) (y:=.s s) o;have J:=BB l;have j:=run_loadCells_list (P:=P) w ⟨b,g,none⟩ vs C;rw[J,q]at j;have k:a.tmps.getD s undef=.pointer (some ⟨b,g,none⟩):=A;refine⟨.agg vs.toArray,?_,?_,B⟩
      .simp[FA,k,loadVar,CU z,B0 L,j,asAddr]
      .simp only[AX];exact⟨_,rfl,l,by rw[List.all_eq_true];exact fun x I=>E x I⟩
     .cases h
    .cases h
theorem Fh(d:AM F0 w0 O a w G):∀{xs:List ResultVar}{ys:List RV},Fw P xs ys=true->∀{ts:Fq},Dw O ys=some ts->∃vs,(xs.mapM (FA a.tmps)).run P w=.ok vs w/\AL w (AR w0.heap.size F0 G) ts vs/\TV.tn ts
 |[],[],_,ts,h=>by simp[Dw]at h;subst h;exact⟨[],by simp,rfl,trivial⟩|[],_::_,b,_,_=>by simp[Fw]at b|_::_,[],b,_,_=>by simp[Fw]at b|x::xs,y::ys,b,ts,h=>by
  simp [Fw]at b;simp[Dw]at h;split at h
  .rename_i t us e g;simp at h;subst h;obtain⟨v,j,k,l⟩:=XC d b.1 e;obtain⟨vs,m,o,q⟩:=Fh d b.2 g;exact⟨v::vs,by simp[List.mapM_cons,j,m],⟨v,vs,rfl,k,o⟩,l,q⟩
  .cases h
theorem Eb{f:ResultVar->Sem Value}{xs:Array ResultVar}{vs:List Value}{w':World}(h:(xs.toList.mapM f).run P w=.ok vs w'):(xs.mapM f).run P w=.ok vs.toArray w':=by
 rw [<-Array.toArray_toList (xs:=xs),List.mapM_toArray];simp[h]
variable{F:Nat->Nat->Prop}
theorem AL.toA{ts:Fq}{vs:List Value}(h:AL w F ts vs):AL w F ts vs.toArray.toList:=by simpa using h
def Az.lone:Az->Bool
 |.own _=>true|.Abf _ _=>true|_=>false
variable{fn:Func}{r:Az}
theorem Zj(H:AM F0 w0 O a w G){ys:List RV}(k:Fw P fn.results.toList ys=true)(M:(∀b o,¬w0.E b o)\/r.lone=false)(I:r.plain=true)(h:Bp ys r O):
  ∃v,(results fn a.tmps).run P w=.ok v w/\((∀b o,¬w0.E b o)->FP w (fun b o=>b<w0.heap.size/\F0 b o) w0.heap.size r v)/\(r.lone=false->kW w (fun b o=>b<w0.heap.size/\F0 b o) (fun b lo=>w0.heap.size<=b\/∀o,lo<=o->w0.E b o) r v)/\r.WF:=by
 have C:∀ts,Dw O ys=some ts->∃vs:List Value,(fn.results.mapM (FA a.tmps)).run P w=.ok vs.toArray w/\AL w (AR w0.heap.size F0 G) ts vs/\TV.tn ts:=by
  grind [Fh,Eb]
 have l:(results fn a.tmps)=(fn.results.mapM (FA a.tmps)>>=fun vs=>pure (if h:vs.size=1 then vs[0]else .tuple vs)):=by
  unfold results;congr 1
 have L:BW w w (AR w0.heap.size F0 G) (fun b o=>b<w0.heap.size/\F0 b o):=fun b o u U V=>⟨U,fun hF'=>V (.inl hF')⟩;cases r with
 |sh t=>
  have z:∃x,ys=[x]/\x.get O=some t:=by
   rcases ys with _|⟨x,_|⟨y,ys⟩⟩<;>simp[Bp]at h;exact⟨x,rfl,h⟩
  obtain ⟨x,rfl,Y⟩:=z;obtain⟨vs,e1,K,e3⟩:=C [t] (by simp[Dw,Y]);simp only[AL]at K;obtain⟨v,r',rfl,e4,rfl⟩:=K;refine⟨v,?_,fun _=>B2 L _ _ e4,fun _=>B2 L _ _ e4,e3.1⟩;rw[l];simp[e1]
 |own t=>
  have z:∃s,ys=[.tmp s]/\O.get s=.ow t:=by
   rcases ys with _|⟨x,_|⟨y,ys⟩⟩
   .simp[Bp]at h
   .cases x<;>simp[Bp]at h;exact⟨_,rfl,h⟩
   .simp[Bp]at h
  obtain ⟨s,rfl,J⟩:=z;obtain⟨vs,e1,K,e3⟩:=C [t] (by simp[Dw,RV.get,J,EV.val]);have hr:O5 P (.tmp s) (.tmp s)=true:=by simp[O5]
  have A:=AU H J (by simp);have B:=H.wf s;rw[J]at B;simp[AJ]at A;have m:fn.results.toList=[.tmp s]:=by
   rcases Y:fn.results.toList with _|⟨x,_|⟨y,xs⟩⟩<;>rw[Y]at k
   .simp[Fw]at k
   .cases x<;>simp[Fw,O5]at k;rw[k]
   .simp[Fw]at k
  have hv:(results fn a.tmps).run P w=.ok (slot a s) w:=by
   rw [l];have hm:(fn.results.mapM (FA a.tmps)).run P w=.ok [slot a s].toArray w:=by
    refine Eb ?_;rw[m];simp[List.mapM_cons,FA,slot]
   simp [hm]
  replace M:=M.resolve_right (by simp[Az.lone]);refine⟨slot a s,hv,fun _=>⟨G s none,A.kept (fun b o u U V=>⟨U,?_⟩) (fun _ _ _=>rfl),fun b lo W=>?_⟩,fun e=>by simp[Az.lone]at e,B⟩
  .rintro(z|⟨lo,z,X⟩)
   .exact V (.inl z)
   .exact V (.inr ⟨s,none,lo,z,X⟩)
  .have:=H.lt _ _ _ _ W;exact⟨this.2.resolve_right (fun e=>M _ _ (e _ (bk _))),this.1⟩
 |tp ts=>
  simp [Bp]at h;have hne:ys.length≠1:=by
   grind
  have X:Dw O ys=some ts:=by
   grind
  obtain ⟨vs,e1,K,e3⟩:=C ts X;have hlen:vs.length≠1:=by
   rw [BB K];have:∀(ys:List RV)(ts:Fq),Dw O ys=some ts->ts.length=ys.length:=by
    intro ys
    induction ys with
    |nil=>intro ts h;simp[Dw]at h;subst h;rfl|cons y ys ih=>
     grind [Dw,wi]
   grind
  refine ⟨.tuple vs.toArray,?_,fun _=>⟨vs.toArray,rfl,(Av L _ _ K).toA⟩,fun _=>⟨vs.toArray,rfl,(Av L _ _ K).toA⟩,e3⟩;rw[l];simp[e1,hlen]
 |Abf n es=>
  have z:∃s,ys=[.tmp s]/\O.get s=.xo n es:=by
   rcases ys with _|⟨x,_|⟨y,ys⟩⟩
   .simp[Bp]at h
   .cases x<;>simp[Bp]at h;exact⟨_,rfl,h⟩
   .simp[Bp]at h
  obtain ⟨s,rfl,J⟩:=z;have A:=AU H J (by simp);have B:=H.wf s;rw[J]at B;simp[AJ]at A;obtain⟨xs,⟨z0,k1,k2⟩,k3,k4,k5⟩:=A;have m:fn.results.toList=[.tmp s]:=by
   rcases Y:fn.results.toList with _|⟨x,_|⟨y,xs⟩⟩<;>rw[Y]at k
   .simp[Fw]at k
   .cases x<;>simp[Fw,O5]at k;rw[k]
   .simp[Fw]at k
  have hv:(results fn a.tmps).run P w=.ok (slot a s) w:=by
   rw [l];have hm:(fn.results.mapM (FA a.tmps)).run P w=.ok [slot a s].toArray w:=by
    refine Eb ?_;rw[m];simp[List.mapM_cons,FA,slot]
   simp [hm]
  replace M:=M.resolve_right (by simp[Az.lone]);refine⟨slot a s,hv,fun _=>⟨z0,xs,k1,Av (fun b o u U hf=>⟨U,fun hf'=>hf ?_⟩) _ _ k3,k4,k5,fun b lo W=>?_⟩,fun e=>by simp[Az.lone]at e,B⟩
  .rcases hf' with h6|⟨lo,h6⟩
   .exact .inl h6
   .exact .inr ⟨s,none,0,by rw[k2,h6];rfl,Nat.zero_le _⟩
  .have:=H.lt s none b 0 (by rw[k2,W];rfl);exact⟨this.2.resolve_right (fun e=>M _ _ (e _ (bk _))),this.1⟩
 |turn _ _=>cases I
 |cut zs=>exact h.elim|mpr _ _=>cases I
 |ag _ _ _=>cases I
 |bo _ _ _ _=>cases I
 |ext _=>cases I
 |oag cs=>
  have z:∃s n,ys=[.cell s (some n)]/\O.get s=.bx cs/\cs.length=n:=by
   rcases ys with _|⟨x,_|⟨y,ys⟩⟩
   .simp[Bp]at h
   .rcases x with s|⟨s,_|n⟩
    .simp[Bp]at h
    .simp[Bp]at h
    .exact⟨s,n,rfl,h⟩
   grind [Bp]
  obtain ⟨s,n,rfl,J,hn⟩:=z;have hbx:=AU H J (by simp);have B:=H.wf s;rw[J]at B;simp only[AJ]at hbx;obtain⟨b,c,T,k1,k2,k3,k4,k5⟩:=hbx;have m:∃ty,fn.results.toList=[.cell s ty]/\Bw P ty=some true/\Ce P ty=some n:=by
   rcases Y:fn.results.toList with _|⟨x,_|⟨y,xs⟩⟩<;>rw[Y]at k
   .simp[Fw]at k
   .cases x<;>simp[Fw,O5]at k;obtain⟨⟨rfl,z⟩,X⟩:=k;exact⟨_,rfl,z,X⟩
   .simp[Fw]at k
  obtain ⟨ty,m,hag',hcn⟩:=m;have hv:(results fn a.tmps).run P w=.ok (.agg c) w:=by
   rw [l];have R:=run_loadCells_list (P:=P) w ⟨b,0,none⟩ c.toList (fun j v hv=>by
    have:=cell_of_row w b j c T (0,0) k2;rw[show((⟨b,0,none⟩:Addr).add j)=⟨b,j,none⟩by simp[Addr.add];omega,this];simpa using hv)
   rw [Array.length_toList,k3,hn]at R;have h1':a.tmps.getD s undef=.pointer (some ⟨b,0,none⟩):=k1;have hm:(fn.results.mapM (FA a.tmps)).run P w=.ok [.agg c].toArray w:=by
    refine Eb ?_;rw[m];simp[List.mapM_cons,FA,h1',loadVar,CU hag',B0 hcn,R,asAddr]
   simp [hm]
  have hsz:s<a.tmps.size:=BZ H J (by simp)
  let Z:C4:=fun q i=>if q=0/\i=none then none else Bg a G s q i
  have hZ:∀{q i b lo},Z q i=some (b,lo)->Bg a G s q i=some (b,lo):=by
   intro q i b lo Q;simp only[Z]at Q;split at Q
   .cases Q
   .exact Q
  have S:∀N:Nat->Nat->Prop,(∀b lo,b<w.heap.size->(w0.heap.size<=b\/∀o,lo<=o->w0.E b o)->N b lo)->XT w (fun b o=>b<w0.heap.size/\F0 b o) N cs (.agg c):=by
   intro N hN;refine⟨Z,⟨c,rfl,k3,fun i d hd=>?_⟩,fun q i q' i' b lo lo' e1 K=>Ig H hsz _ _ _ _ _ _ _ (hZ e1) (hZ K),by simp[Z],fun q i b lo Q=>?_⟩
   .obtain⟨x,j1,j2⟩:=k5 i d hd;have hz0:Z 0 (some i)=G s (some i):=by simp[Z,Cv]
    refine ⟨x,j1,?_,GG j2⟩;rw[hz0];refine BH.rho (j2.kept (fun b o u U V=>⟨U,?_⟩) (fun _ _ _=>rfl) BM.rfl') (fun g lo j Q=>?_)
    .rintro(z|⟨q,j,lo,z,X⟩)
     .exact V (.inl z)
     .obtain⟨p,j',f1,_⟩:=B7 (hZ z);exact V (.inr ⟨p,j',lo,f1,X⟩)
    .simp only[C4.rho,Z];rw[b6 (by omega)];exact NM Q j
   .obtain⟨p,j',f1,_⟩:=B7 (hZ Q);have:=H.lt _ _ _ _ f1;exact⟨this.1,hN _ _ this.1 this.2⟩
  refine ⟨.agg c,hv,fun M=>S _ fun b lo _ W=>W.resolve_right (fun e=>M _ _ (e _ (bk _))),fun _=>S _ fun b lo _ W=>W,B⟩
variable{f:FuncId}{c:Code}{pl:PC}{rv:List RV}
theorem X4(hD:Jm P fn.ntmps D)(hf:P.funcs[f]? =some fn)(hb:fn.body=some c)(hname:fn.name≠ "runtime.NumGoroutine")(hok:DB P fn.ntmps D pl c=true)(hrv:Fw P fn.results.toList rv=true)
  {args:Fq}(hn:args.length<=fn.ntmps)(hp:r.plain=true)(h:TV.tn args->pl.wp (AO P) ⟨Bp rv r,fun _ _=>False,Bp rv r⟩ (Dh 0 args)):AO P f args r:=by
 refine AO.of0 ?_ hp;intro hw;refine⟨by simp[DO,hf,hb,hname],fun F0 w vs hrep ht=>?_⟩;have hl:=BB hrep;simp at hl;have hcalls:Calls P f vs w fun e w'=>(∃v,e=.returned v/\Below w.heap.size w w'/\FP w' (fun b o=>b<w.heap.size/\F0 b o) w.heap.size r v)/\r.WF:=by
  refine calls_of_wp hf hb ?_;have fin:∀(O:AB)(a:Act)(w':World),Bp rv r O->Jn fn.ntmps none a->Bi F0 (W0.mk w fun _ _=>False) O a w'->a.defers=[]/\∃v,(results fn a.tmps).run P w'=.ok v w'/\((∃v',Ending.returned v=.returned v'/\Below w.heap.size w w'/\FP w' (fun b o=>b<w.heap.size/\F0 b o) w.heap.size r v')/\r.WF):=by
   intro O a w' hr hN ⟨G,hI⟩;obtain⟨v,e1,e2,_,e3⟩:=Zj (P:=P) hI hrv (.inl fun _ _ h=>h) hp hr;exact⟨hI.defers,v,e1,⟨v,rfl,⟨hI.below.os,hI.below.tape,hI.below.output,hI.below.size,fun k hk=>hI.below.block k hk (fun _ h=>h)⟩,e2 fun _ _ h=>h⟩,e3⟩
  refine L8 (p:=none) hD pl c hok (.inl fun _ _ h=>h) (by simp) _ _ ?_ ?_ ?_ _ _ w ?_ (Bi.start hrep hw ht) (h hw)
  .exact fun O a w' h1 h2 h3=>fin O a w' h1 h2 h3
  .grind
  .exact fun O a w' h1 h2 h3=>fin O a w' h1 h2 h3
  .exact⟨by simp;omega,by simp⟩
 refine ⟨?_,hcalls.mono fun e w' h=>h.1⟩;obtain⟨_,_,_,h1,_⟩:=hcalls [];exact h1.2
def Sz(i m:Nat)(Z:C4):BQ:=fun s=>if s=i then Z 0 else if m<=s then(fun j=>match j with|some j=>Z (s-m+1) (some j)|none=>none)else fun _=>none
variable{Z:C4}
theorem Zn{i m:Nat}{p:Nat}{j:Option Nat}{b lo:Nat}(h:Sz i m Z p j=some (b,lo)):(p=i/\Z 0 j=some (b,lo))\/(p≠i/\m<=p/\Z (p-m+1) j=some (b,lo)):=by
 simp [Sz]at h
 grind
variable{i:Nat}{v:Value}
theorem Bi.startZ{w:World}{F0:Nat->Nat->Prop}{ts:Fq}{vs:Array Value}{e:EV}(h:AL w (fun b o=>F0 b o\/ZF Z b o) ts vs.toList)(Q:TV.tn ts)(C:e.WF)
  (hi:vs[i]?=some v)(E:Ih Z)(H:∀q i b lo,Z q i=some (b,lo)->b<w.heap.size)(I:∀b o S,ZF Z b o->¬F0 b S)(d:XZ w (ZF Z))
  (R:∀a:Act,slot a i=v->∀G:BQ,G i=Z 0->rho a G=Z.rho->∀L,BW w w (fun b o=>F0 b o\/ZF Z b o) L->AJ a w L G ((i,e)::Dh 0 ts) i e v):
  Bi F0 (W0.mk w (ZF Z)) ((i,e)::Dh 0 ts) {tmps:=vs++Array.replicate n undef,defers:=[]} w:=by
 have X:=BB h;simp at X;have l:i<vs.size:=(Array.getElem?_eq_some_iff.1 hi).1
 let G:BQ:=Sz i (vs.size+n) Z
 have A:∀p j b lo,G p j=some (b,lo)->∃q,Z q j=some (b,lo)/\((p=i/\q=0)\/(p≠i/\q=p-(vs.size+n)+1/\vs.size+n<=p)):=by
  intro p j b lo W;rcases Zn W with⟨z,K⟩|⟨z,K,M⟩
  .grind
  grind
 have m:BW w w (fun b o=>F0 b o\/ZF Z b o) (AR w.heap.size F0 G):=by
  refine fun b o u T hf=>⟨T,?_⟩;rintro(⟨_,z⟩|⟨p,j,lo,z,K⟩)
  .exact hf (.inl z)
  .obtain⟨q,M,_⟩:=A _ _ _ _ z;exact hf (.inr ⟨q,j,lo,M,K⟩)
 have x:∀s(k:s<vs.size),slot {tmps:=vs++Array.replicate n undef,defers:=[]} s=vs[s]:=by
  intro s k;simp[slot,Array.getD_eq_getD_getElem?,Array.getElem?_append,k]
 refine ⟨G,fun p j p' j' b lo U J V=>?_,fun p j b lo J=>?_,⟨rfl,rfl,rfl,bk _,fun _ _ _=>rfl,fun _ _ _ _ h=>h,I,d⟩,rfl,fun s k=>?_,fun s k=>?_,fun s=>?_⟩
 .obtain⟨q,B,f2⟩:=A _ _ _ _ J;obtain⟨q',f3,f4⟩:=A _ _ _ _ V;have:=E _ _ _ _ _ _ _ B f3;exact⟨by omega,this.2⟩
 .obtain⟨q,B,_⟩:=A _ _ _ _ J;exact⟨H _ _ _ _ B,.inr fun o ho=>⟨q,j,lo,B,ho⟩⟩
 .simp at k;rw[AB.ec,b6 (by omega),Ij,az (Nat.zero_le _),List.getElem?_eq_none (by omega)]
 .rw[AB.ec];by_cases y:i=s
  .subst y;rw[az rfl,x i l];have hv:vs[i]=v:=by
    grind
   rw [hv];refine R _ (by rw[x i l,hv]) G (by simp[G,Sz]) ?_ _ m;funext g j;simp only[rho,G,Sz,Array.size_append,Array.size_replicate,C4.rho];rw[b6 (by omega),az (by omega)];show Z (vs.size+n+g-(vs.size+n)+1) (some j)=Z (g+1) (some j);rw[Nat.add_sub_cancel_left]
  .rw[b6 y,Ij,az (Nat.zero_le _),Nat.sub_zero];cases d:ts[s]? with
   |none=>trivial|some t=>
    have Y:s<vs.size:=by
     grind
    have hv:vs.toList[s]?=some (slot {tmps:=vs++Array.replicate n undef,defers:=[]} s):=by
     grind
    exact B2 m _ _ (((BX _ _).1 h).2 s t _ d hv)
 .rw[AB.ec];split
  .exact C
  .rw[Ij,az (Nat.zero_le _),Nat.sub_zero];cases d:ts[s]? with
   |none=>trivial|some t=>exact Bf.1 Q t (List.mem_of_getElem? d)
theorem Bi.startB{w:World}{F0:Nat->Nat->Prop}{ts:Fq}{vs:Array Value}{cs:List AQ}(h:AL w (fun b o=>F0 b o\/ZF Z b o) ts vs.toList)(y:TV.tn ts)(g:∀c∈cs,c.t.WF)
  (hi:vs[i]?=some v)(z:Lx w (fun b o=>F0 b o\/ZF Z b o) Z cs v)(k:Ih Z)(l:∀q i b lo,Z q i=some (b,lo)->b<w.heap.size)(m:∀b o B,ZF Z b o->¬F0 b B)(A:XZ w (ZF Z)):
  Bi F0 (W0.mk w (ZF Z)) ((i,.bx cs)::Dh 0 ts) {tmps:=vs++Array.replicate n undef,defers:=[]} w:=by
 refine Bi.startZ (e:=.bx cs) h y g hi k l m A fun a R G u C S s=>?_;obtain⟨b,c,T,H,I,J,K,L⟩:=z;simp only[AJ];refine⟨b,c,T,H,I,J,by rw[u];exact K,fun j d E=>?_⟩;obtain⟨x,M,Q⟩:=L j d E;refine⟨x,M,?_⟩;rw[u,C];exact Q.kept s (fun _ _ _=>rfl) BM.rfl'
variable{us:Fq}
theorem dw(hD:Jm P fn.ntmps D)(hf:P.funcs[f]? =some fn)(hb:fn.body=some c)(hname:fn.name≠ "runtime.NumGoroutine")(hok:DB P fn.ntmps D pl c=true)(hrv:Fw P fn.results.toList rv=true)
  {args:Fq}(hn:args.length<=fn.ntmps){cs cs':List AQ}(hcl:pl.Aal=true)(hdst:pl.Aad i=true)(h:TV.tn args->(∀c∈cs,c.t.WF)->pl.wp (AO P) ⟨Bp rv (.bo cs cs' i us),fun _ _=>False,Bp rv (.bo cs cs' i us)⟩ ((i,.bx cs)::Dh 0 args)):AO P f args (.bo cs cs' i us):=by
 intro hw hwc;refine⟨by simp[DO,hf,hb,hname],fun F0 w vs v Z hrep hvi hbox hzu hzl hfree ht=>?_⟩;have hl:=BB hrep;simp at hl;have hcalls:Calls P f vs w fun e w'=>((∀c∈cs',c.t.WF)/\TV.tn us)/\∃r Z',e=.returned r/\HC Z w w'/\Lx w' (fun b o=>(b<w.heap.size/\F0 b o)\/ZF Z' b o) Z' cs' v/\
   Ih Z'/\(∀q i b lo,Z' q i=some (b,lo)->b<w'.heap.size/\(w.heap.size<=b\/∃p j lo',Z p j=some (b,lo')/\lo'<=lo))/\
   NO w' (fun b o=>(b<w.heap.size/\F0 b o)\/ZF Z' b o) us r:=by
  refine calls_of_wp hf hb ?_;have fin:∀(O:AB)(a:Act)(w':World),Bp rv (.bo cs cs' i us) O->Jn fn.ntmps (some (i,v)) a->Bi F0 (W0.mk w (ZF Z)) O a w'->a.defers=[]/\∃r,(results fn a.tmps).run P w'=.ok r w'/\(((∀c∈cs',c.t.WF)/\TV.tn us)/\∃r' Z',Ending.returned r=.returned r'/\HC Z w w'/\Lx w' (fun b o=>(b<w.heap.size/\F0 b o)\/ZF Z' b o) Z' cs' v/\
    Ih Z'/\(∀q i b lo,Z' q i=some (b,lo)->b<w'.heap.size/\(w.heap.size<=b\/∃p j lo',Z p j=some (b,lo')/\lo'<=lo))/\
    NO w' (fun b o=>(b<w.heap.size/\F0 b o)\/ZF Z' b o) us r'):=by
   rintro O a w' ⟨hs,hr⟩ hN ⟨G,hI⟩;have hag:BW w' w' (AR w.heap.size F0 G) (fun b o=>(b<w.heap.size/\F0 b o)\/ZF (Bg a G i) b o):=by
    refine fun b o u hc hF=>⟨hc,?_⟩;rintro(h1|⟨q,j,lo,h1,h2⟩)
    .exact hF (.inl h1)
    .obtain⟨p,j',f1,_⟩:=B7 h1;exact hF (.inr ⟨p,j',lo,f1,h2⟩)
   have hisz:i<a.tmps.size:=BZ hI hs (by simp);have hbx:=AU hI hs (by simp);have hwb:=hI.wf i;rw[hs]at hwb;rw[hN.pin i v rfl]at hbx;simp only[AJ]at hbx;obtain⟨b,c,T,k1,k2,k3,k4,k5⟩:=hbx;obtain⟨vs',e1,e2,e3⟩:=Fh (P:=P) hI hrv hr;have hm:=Eb e1;have hshape:(results fn a.tmps)=(fn.results.mapM (FA a.tmps)>>=fun vs=>pure (if h:vs.size=1 then vs[0]else .tuple vs)):=by
    unfold results;congr 1
   have hlen:=BB e2;have hres:∃r,(results fn a.tmps).run P w'=.ok r w'/\NO w' (AR w.heap.size F0 G) us r:=by
    rw [hshape];by_cases h1:vs'.length=1
    .obtain⟨x,rfl⟩:=List.length_eq_one_iff.1 h1;rcases us with _|⟨t,_|⟨t',us⟩⟩
     .simp at hlen
     .simp only[AL]at e2;obtain⟨v',r',hv',e4,rfl⟩:=e2;simp at hv';subst hv';exact⟨x,by simp[hm],e4⟩
     .simp at hlen
    .refine⟨.tuple vs'.toArray,by simp[hm,h1],?_⟩;rcases us with _|⟨t,_|⟨t',us⟩⟩
     .exact⟨_,rfl,e2.toA⟩
     .grind
     .exact⟨_,rfl,e2.toA⟩
   obtain ⟨r,hr1,hr2⟩:=hres;refine⟨hI.defers,r,hr1,⟨hwb,e3⟩,r,Bg a G i,rfl,?_,⟨b,c,T,k1,k2,k3,by rw[Cv];exact k4,fun j d hj=>?_⟩,Ig hI hisz,fun q j b lo f1=>?_,?_⟩
   .exact⟨hI.below.os,hI.below.tape,hI.below.output,hI.below.size,fun k hk hz=>hI.below.block k hk (fun o⟨q,j,lo,f1,_⟩=>hz q j lo f1),fun b o u hz hu=>hI.below.cell b o u hz hu⟩
   .obtain⟨x,f1,f2⟩:=k5 j d hj;refine⟨x,f1,?_⟩;rw[Cv];exact BH.rho (f2.kept hag (fun _ _ _=>rfl) BM.rfl') fun g lo j' hz=>NM hz j'
   .obtain⟨p,j',g1,_⟩:=B7 f1;obtain⟨f2,f3⟩:=hI.lt _ _ _ _ g1;refine⟨f2,f3.imp id (fun e=>?_)⟩;exact e lo (bk _)
   .rcases us with _|⟨t,_|⟨t',us⟩⟩
    .obtain⟨vs2,f1,f2⟩:=hr2;exact⟨vs2,f1,Av hag _ _ f2⟩
    .exact B2 hag _ _ hr2
    .obtain⟨vs2,f1,f2⟩:=hr2;exact⟨vs2,f1,Av hag _ _ f2⟩
  refine L8 (p:=some (i,v)) hD pl c hok (.inr hcl) (fun j u hp=>by cases hp;exact hdst) _ _ ?_ ?_ ?_ _ _ w ?_ (Bi.startB hrep hw hwc hvi hbox hzu hzl hfree ht) (h hw hwc)
  .exact fun O a w' h1 h2 h3=>fin O a w' h1 h2 h3
  .exact fun i O a w' h1 _ _=>h1.elim
  .exact fun O a w' h1 h2 h3=>fin O a w' h1 h2 h3
  .have hil:i<vs.size:=(Array.getElem?_eq_some_iff.1 hvi).1;refine⟨by simp;omega,fun j u hp=>?_⟩;cases hp;have:=Array.getElem?_eq_getElem hil;rw[this]at hvi;simp at hvi;simp[slot,Array.getD_eq_getD_getElem?,Array.getElem?_append,hil,hvi]
 refine ⟨?_,hcalls.mono fun e w' h=>h.2⟩;obtain⟨_,_,_,h1,_⟩:=hcalls [];exact h1.1
def Wk(cs'' cs':List AQ):Prop:=cs''.length=cs'.length/\∀(i:Nat)(d:AQ),cs'[i]?=some d->∃d',cs''[i]?=some d'/\(d=d'\/d=⟨false,.undef⟩)
theorem Wk.wf{b cs':List AQ}(h:Wk b cs')(e:∀c∈b,c.t.WF):∀c∈cs',c.t.WF:=by
 intro c d;obtain⟨i,hi⟩:=List.getElem?_of_mem d;obtain⟨g,j,rfl|rfl⟩:=h.2 i c hi
 .grind
 .exact trivial
theorem Wk.cell{w:World}{ρ:G7}{z:Option (Nat×Nat)}{x:Value}{d b:AQ}(h:d=b\/d=⟨false,.undef⟩)(e:BH w F ρ z b x):BH w F ρ z d x:=by
 rcases h with rfl|rfl
 .exact e
 .have:x.oneCell'=true:=by
   obtain ⟨o,t⟩:=b;cases o with
   |true=>exact M9 e|false=>exact e.2
  exact ⟨by simp[AX];exact this,this⟩
def Yv(rv:List RV)(cs cs':List AQ)(i:Nat)(us:Fq)(O:AB):Prop:=∃cs'',Wk cs'' cs'/\Bp rv (.bo cs cs'' i us) O
theorem bd(hD:Jm P fn.ntmps D)(hf:P.funcs[f]? =some fn)(hb:fn.body=some c)(hname:fn.name≠ "runtime.NumGoroutine")(hok:DB P fn.ntmps D pl c=true)(hrv:Fw P fn.results.toList rv=true)
  {args:Fq}(hn:args.length<=fn.ntmps){cs cs':List AQ}(hcl:pl.Aal=true)(hdst:pl.Aad i=true)(h:TV.tn args->(∀c∈cs,c.t.WF)->pl.wp (AO P) ⟨Yv rv cs cs' i us,fun _ _=>False,Yv rv cs cs' i us⟩ ((i,.bx cs)::Dh 0 args)):AO P f args (.bo cs cs' i us):=by
 intro hw hwc;refine⟨by simp[DO,hf,hb,hname],fun F0 w vs v Z hrep hvi hbox hzu hzl hfree ht=>?_⟩;have hl:=BB hrep;simp at hl;have hcalls:Calls P f vs w fun e w'=>((∀c∈cs',c.t.WF)/\TV.tn us)/\∃r Z',e=.returned r/\HC Z w w'/\Lx w' (fun b o=>(b<w.heap.size/\F0 b o)\/ZF Z' b o) Z' cs' v/\
   Ih Z'/\(∀q i b lo,Z' q i=some (b,lo)->b<w'.heap.size/\(w.heap.size<=b\/∃p j lo',Z p j=some (b,lo')/\lo'<=lo))/\
   NO w' (fun b o=>(b<w.heap.size/\F0 b o)\/ZF Z' b o) us r:=by
  refine calls_of_wp hf hb ?_;have fin:∀(O:AB)(a:Act)(w':World),Yv rv cs cs' i us O->Jn fn.ntmps (some (i,v)) a->Bi F0 (W0.mk w (ZF Z)) O a w'->a.defers=[]/\∃r,(results fn a.tmps).run P w'=.ok r w'/\(((∀c∈cs',c.t.WF)/\TV.tn us)/\∃r' Z',Ending.returned r=.returned r'/\HC Z w w'/\Lx w' (fun b o=>(b<w.heap.size/\F0 b o)\/ZF Z' b o) Z' cs' v/\
    Ih Z'/\(∀q i b lo,Z' q i=some (b,lo)->b<w'.heap.size/\(w.heap.size<=b\/∃p j lo',Z p j=some (b,lo')/\lo'<=lo))/\
    NO w' (fun b o=>(b<w.heap.size/\F0 b o)\/ZF Z' b o) us r'):=by
   rintro O a w' ⟨cs'',hwk,hs,hr⟩ hN ⟨G,hI⟩;have hag:BW w' w' (AR w.heap.size F0 G) (fun b o=>(b<w.heap.size/\F0 b o)\/ZF (Bg a G i) b o):=by
    refine fun b o u hc hF=>⟨hc,?_⟩;rintro(h1|⟨q,j,lo,h1,h2⟩)
    .exact hF (.inl h1)
    .obtain⟨p,j',f1,_⟩:=B7 h1;exact hF (.inr ⟨p,j',lo,f1,h2⟩)
   have hisz:i<a.tmps.size:=BZ hI hs (by simp);have hbx:=AU hI hs (by simp);have hwb:=hI.wf i;rw[hs]at hwb;rw[hN.pin i v rfl]at hbx;simp only[AJ]at hbx;obtain⟨b,c,T,k1,k2,k3,k4,k5⟩:=hbx;obtain⟨vs',e1,e2,e3⟩:=Fh (P:=P) hI hrv hr;have hm:=Eb e1;have hshape:(results fn a.tmps)=(fn.results.mapM (FA a.tmps)>>=fun vs=>pure (if h:vs.size=1 then vs[0]else .tuple vs)):=by
    unfold results;congr 1
   have hlen:=BB e2;have hres:∃r,(results fn a.tmps).run P w'=.ok r w'/\NO w' (AR w.heap.size F0 G) us r:=by
    rw [hshape];by_cases h1:vs'.length=1
    .obtain⟨x,rfl⟩:=List.length_eq_one_iff.1 h1;rcases us with _|⟨t,_|⟨t',us⟩⟩
     .simp at hlen
     .simp only[AL]at e2;obtain⟨v',r',hv',e4,rfl⟩:=e2;simp at hv';subst hv';exact⟨x,by simp[hm],e4⟩
     .simp at hlen
    .refine⟨.tuple vs'.toArray,by simp[hm,h1],?_⟩;rcases us with _|⟨t,_|⟨t',us⟩⟩
     .exact⟨_,rfl,e2.toA⟩
     .grind
     .exact⟨_,rfl,e2.toA⟩
   obtain ⟨r,hr1,hr2⟩:=hres;refine⟨hI.defers,r,hr1,⟨hwk.wf hwb,e3⟩,r,Bg a G i,rfl,?_,⟨b,c,T,k1,k2,k3.trans hwk.1,by rw[Cv];exact k4,fun j d hj=>?_⟩,Ig hI hisz,fun q j b lo f1=>?_,?_⟩
   .exact⟨hI.below.os,hI.below.tape,hI.below.output,hI.below.size,fun k hk hz=>hI.below.block k hk (fun o⟨q,j,lo,f1,_⟩=>hz q j lo f1),fun b o u hz hu=>hI.below.cell b o u hz hu⟩
   .obtain⟨d',hd',hdd⟩:=hwk.2 j d hj;obtain⟨x,f1,f2⟩:=k5 j d' hd';refine⟨x,f1,Wk.cell hdd ?_⟩;rw[Cv];exact BH.rho (f2.kept hag (fun _ _ _=>rfl) BM.rfl') fun g lo j' hz=>NM hz j'
   .obtain⟨p,j',g1,_⟩:=B7 f1;obtain⟨f2,f3⟩:=hI.lt _ _ _ _ g1;refine⟨f2,f3.imp id (fun e=>?_)⟩;exact e lo (bk _)
   .rcases us with _|⟨t,_|⟨t',us⟩⟩
    .obtain⟨vs2,f1,f2⟩:=hr2;exact⟨vs2,f1,Av hag _ _ f2⟩
    .exact B2 hag _ _ hr2
    .obtain⟨vs2,f1,f2⟩:=hr2;exact⟨vs2,f1,Av hag _ _ f2⟩
  refine L8 (p:=some (i,v)) hD pl c hok (.inr hcl) (fun j u hp=>by cases hp;exact hdst) _ _ ?_ ?_ ?_ _ _ w ?_ (Bi.startB hrep hw hwc hvi hbox hzu hzl hfree ht) (h hw hwc)
  .exact fun O a w' h1 h2 h3=>fin O a w' h1 h2 h3
  .exact fun i O a w' h1 _ _=>h1.elim
  .exact fun O a w' h1 h2 h3=>fin O a w' h1 h2 h3
  .have hil:i<vs.size:=(Array.getElem?_eq_some_iff.1 hvi).1;refine⟨by simp;omega,fun j u hp=>?_⟩;cases hp;have:=Array.getElem?_eq_getElem hil;rw[this]at hvi;simp at hvi;simp[slot,Array.getD_eq_getD_getElem?,Array.getElem?_append,hil,hvi]
 refine ⟨?_,hcalls.mono fun e w' h=>h.2⟩;obtain⟨_,_,_,h1,_⟩:=hcalls [];exact h1.1
theorem dx(hD:Jm P fn.ntmps D)(hf:P.funcs[f]? =some fn)(hb:fn.body=some c)(hname:fn.name≠ "runtime.NumGoroutine")(hok:DB P fn.ntmps D pl c=true)(hrv:Fw P fn.results.toList rv=true)
  {args:Fq}(hn:args.length<=fn.ntmps){kvs:BR}{ts:Fq}(h:TV.tn args->pl.wp (AO P) ⟨Bp rv (.mpr kvs ts),fun _ _=>False,Bp rv (.mpr kvs ts)⟩ (Dh 0 args)):AO P f args (.mpr kvs ts):=by
 intro hw;refine⟨by simp[DO,hf,hb,hname],fun F0 w vs hrep ht=>?_⟩;have hl:=BB hrep;simp at hl;have hcalls:Calls P f vs w fun e w'=>(∃v,e=.returned v/\Below w.heap.size w w'/\FP w' (fun b o=>b<w.heap.size/\F0 b o) w.heap.size (.mpr kvs ts) v)/\(Az.mpr kvs ts).WF:=by
  refine calls_of_wp hf hb ?_;have fin:∀(O:AB)(a:Act)(w':World),Bp rv (.mpr kvs ts) O->Jn fn.ntmps none a->Bi F0 (W0.mk w fun _ _=>False) O a w'->a.defers=[]/\∃v,(results fn a.tmps).run P w'=.ok v w'/\((∃v',Ending.returned v=.returned v'/\Below w.heap.size w w'/\FP w' (fun b o=>b<w.heap.size/\F0 b o) w.heap.size (.mpr kvs ts) v')/\(Az.mpr kvs ts).WF):=by
   intro O a w' hr hN ⟨G,hI⟩;rcases rv with _|⟨⟨s⟩|⟨s,_⟩,rs⟩
   .exact hr.elim
   .obtain⟨hne,⟨b,o,h1,h2⟩,h3⟩:=hr;have hg:Dw O (.tmp s::rs)=some (.Aa1 b::ts):=by simp[Dw,RV.get,h1,EV.val,h3]
    obtain ⟨us,e1,e2,e3⟩:=Fh (P:=P) hI hrv hg;have hm:=Eb e1;have hshape:(results fn a.tmps)=(fn.results.mapM (FA a.tmps)>>=fun vs=>pure (if h:vs.size=1 then vs[0]else .tuple vs)):=by
     unfold results;congr 1
    simp [AL]at e2;obtain⟨v0,us',rfl,e4,e5⟩:=e2;simp[AX]at e4;subst e4;have hor:=AU hI h2 (by simp);have how:=hI.wf o;rw[h2]at how;simp[AJ]at hor;obtain⟨k1,k2,k3⟩:=hor;have hlt:=hI.lt _ _ _ _ k2;have hus:us'.length≠0:=by
     have h6:=BB e5;have:ts.length=rs.length:=by
      have:∀(ys:List RV)(ts:Fq),Dw O ys=some ts->ts.length=ys.length:=by
       intro ys
       induction ys with
       |nil=>intro ts h;simp[Dw]at h;subst h;rfl|cons y ys ih=>
        grind [Dw,wi]
      exact this _ _ h3
     grind
    have hag:BW w' w' (AR w.heap.size F0 G) (fun b o=>b<w.heap.size/\F0 b o):=fun b o u hc hF=>⟨hc,fun hF'=>hF (.inl hF')⟩;refine⟨hI.defers,.tuple (Value.map (some b)::us').toArray,?_,⟨_,rfl,⟨hI.below.os,hI.below.tape,hI.below.output,hI.below.size,fun k hk=>hI.below.block k hk (fun _ h=>h)⟩,b,us',rfl,hlt.2.resolve_right (fun e=>e _ (bk _)),hlt.1,k3,Av hag _ _ e5⟩,how,e3.2⟩;rw[hshape];have:¬us'.length=0:=hus;simp[hm,this]
   .exact hr.elim
  refine L8 (p:=none) hD pl c hok (.inl fun _ _ h=>h) (by simp) _ _ ?_ ?_ ?_ _ _ w ?_ (Bi.start hrep hw ht) (h hw)
  .exact fun O a w' h1 h2 h3=>fin O a w' h1 h2 h3
  .grind
  .exact fun O a w' h1 h2 h3=>fin O a w' h1 h2 h3
  .exact⟨by simp;omega,by simp⟩
 refine ⟨?_,hcalls.mono fun e w' h=>h.1⟩;obtain⟨_,_,_,h1,_⟩:=hcalls [];exact h1.2
theorem dy(hD:Jm P fn.ntmps D)(hf:P.funcs[f]? =some fn)(hb:fn.body=some c)(hname:fn.name≠ "runtime.NumGoroutine")(hok:DB P fn.ntmps D pl c=true)(hrv:Fw P fn.results.toList rv=true)
  {zs zs':Fp}{ts us:Fq}(hn:ts.length+1<=fn.ntmps)(hcl:pl.Aal=true)(hdst:pl.Aad 0=true)(hfl:TV.Aac us=true)(h:TV.tn ts->pl.wp (AO P) ⟨Bp rv (.turn zs' us),fun _ _=>False,Bp rv (.turn zs' us)⟩ ((0,.xo 1 (zs.map (TV.int .i64)))::Dh 0 (.undef::ts))):AO P f (.list 1 (zs.map (TV.int .i64))::ts) (.turn zs' us):=by
 refine ⟨zs,ts,rfl,by simp[DO,hf,hb,hname],hfl,fun F0 w v vs z hwz hw hx hrep hz hzl ht=>?_⟩;have hl:=BB hrep
 let Z:C4:=fun q i=>if q=0/\i=none then z else none
 have hZ:∀{q i b lo},Z q i=some (b,lo)->(q=0/\i=none)/\z=some (b,lo):=fun{q i b lo}e=>by
  simp only[Z]at e;split at e
  .exact⟨by assumption,e⟩
  .cases e
 have hZF:∀{b o},ZF Z b o->F0 b o/\∃lo,z=some (b,lo):=fun⟨q,i,lo,e,hlo⟩=>⟨hz _ _ _ (hZ e).2 hlo,lo,(hZ e).2⟩;refine calls_of_wp hf hb ?_;have fin:∀(O:AB)(a:Act)(w':World),Bp rv (.turn zs' us) O->Jn fn.ntmps (some (0,v)) a->Bi (fun b o=>F0 b o/\∀lo,z≠some (b,lo)) (W0.mk w (ZF Z)) O a w'->a.defers=[]/\∃r,(results fn a.tmps).run P w'=.ok r w'/\((zs'.length=zs.length/\(Az.turn zs' us).WF)/\(∃r',Ending.returned r=.returned r'/\NO w' (fun _ _=>False) us r')/\IC w' 1 v zs.length (zs'.map (Value.int .i64)) z/\Np z w w'):=by
  rintro O a w' ⟨hs,hr⟩ hN ⟨G,hI⟩;have hxr:=AU hI hs (by simp);have hwf:=hI.wf 0;rw[hs]at hwf;rw[hN.pin 0 v rfl]at hxr;simp only[AJ]at hxr;obtain⟨xs,k1,k2,_⟩:=hxr;obtain rfl:=Si zs' xs k2;have same:zs'.length=zs.length/\G 0 none=z:=by
   obtain ⟨z0,⟨_,a1⟩,rfl⟩:=hx;obtain⟨z1,⟨_,a2⟩,a3⟩:=k1;rw[a3];simp only[d3]at a2;rcases a1 with⟨rfl,e1,rfl⟩|⟨g,cap,cur,e,rfl,_,_,_,_,_,rfl⟩<;>rcases a2 with⟨q1,q2,rfl⟩|⟨g',cap',cur',e',q1,_,_,_,_,_,rfl⟩
   .exact⟨by omega,rfl⟩
   .cases q1
   .cases q1
   .simp only[Value.slice.injEq,wi,Addr.mk.injEq]at q1;exact⟨by omega,by simp[q1]⟩
  obtain ⟨vs',e1,e2,e3⟩:=Fh (P:=P) hI hrv hr;have hm:=Eb e1;have hshape:(results fn a.tmps)=(fn.results.mapM (FA a.tmps)>>=fun vs=>pure (if h:vs.size=1 then vs[0]else .tuple vs)):=by
   unfold results;congr 1
  have hlen:=BB e2;refine⟨hI.defers,if h:vs'.length=1 then vs'[0]else .tuple vs'.toArray,by rw[hshape];simp[hm],⟨same.1,hwf,e3⟩,⟨_,rfl,?_⟩,?_,?_⟩
  .rcases us with _|⟨t,_|⟨t',us⟩⟩
   .rw[dif_neg (by simp at hlen;simp[hlen])];exact⟨_,rfl,EH [] rfl _ (by simpa using e2)⟩
   .obtain⟨x,rfl⟩:=List.length_eq_one_iff.1 (show vs'.length=1 by simp at hlen;omega);simp only[AL]at e2;obtain⟨v',r',hv',e4,rfl⟩:=e2;simp at hv';subst hv';exact PA t (by simpa[TV.Aac]using hfl) _ e4
   .rw[dif_neg (by simp at hlen;omega)];exact⟨_,rfl,EH _ hfl _ (by simpa using e2)⟩
  .rw[same.2,d3,same.1]at k1;exact k1
  .exact⟨hI.below.os,hI.below.tape,hI.below.output,hI.below.size,fun k hk hz'=>hI.below.block k hk (fun o⟨q,j,lo,f1,_⟩=>hz' lo (hZ f1).2)⟩
 have hst:Bi (fun b o=>F0 b o/\∀lo,z≠some (b,lo)) (W0.mk w (ZF Z)) ((0,.xo 1 (zs.map (TV.int .i64)))::Dh 0 (.undef::ts)) {tmps:=(v::vs).toArray++Array.replicate (fn.ntmps-(v::vs).toArray.size) undef,defers:=[]} w:=by
  have hone:v.oneCell'=true:=by
   obtain ⟨_,⟨_,h⟩,_⟩:=hx;rcases h with⟨rfl,_⟩|⟨_,_,_,_,rfl,_⟩<;>rfl
  have hag:BW w w F0 (fun b o=>(F0 b o/\∀lo,z≠some (b,lo))\/ZF Z b o):=fun b o u hc hF=>⟨hc,fun h=>hF (h.elim (·.1) fun h=>(hZF h).1)⟩;refine Bi.startZ (Z:=Z) (ts:=.undef::ts) (vs:=(v::vs).toArray) (e:=.xo 1 (zs.map (TV.int .i64))) (i:=0) (v:=v) (show AL w _ (.undef::ts) (v::vs)from⟨v,vs,rfl,by simp only[AX];exact hone,Av hag _ _ hrep⟩) (show TV.tn (.undef::ts)from⟨trivial,hw⟩) hwz (by simp) (fun q i q' i' b lo lo' e1 e2=>?_) (fun q i b lo e=>(hzl _ _ (hZ e).2).1) (fun b o o' h1 h2=>?_) ⟨ht,fun b o⟨q,i,lo,e,_⟩=>(hzl _ _ (hZ e).2).2⟩ fun a ha G hG hr F' hag=>?_
  .have:=(hZ e1).1;have:=(hZ e2).1;exact⟨by omega,by rw[(hZ e1).1.2,(hZ e2).1.2]⟩
  .obtain⟨_,lo,e⟩:=hZF h1;exact h2.2 lo e
  .simp only[AJ];refine⟨zs.map (Value.int .i64),?_,SN zs,by simp[TV.cells],by simp[Value.oneCell']⟩;rw[hG,d3];exact hx
 refine L8 (p:=some (0,v)) hD pl c hok (.inr hcl) (fun j u hp=>by cases hp;exact hdst) _ _ ?_ ?_ ?_ _ _ w ?_ hst (h hw)
 .exact fun O a w' h1 h2 h3=>fin O a w' h1 h2 h3
 .exact fun i O a w' h1 _ _=>h1.elim
 .exact fun O a w' h1 h2 h3=>fin O a w' h1 h2 h3
 .refine⟨by simp;omega,fun j u hp=>?_⟩;cases hp;simp[slot,Array.getD_eq_getD_getElem?,Array.getElem?_append]
end
end Go.Sf
