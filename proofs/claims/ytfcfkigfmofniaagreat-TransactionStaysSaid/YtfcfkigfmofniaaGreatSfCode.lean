/- Code, and functions. -/
import Derived.Test.YtfcfkigfmofniaaGreatSfRegion
set_option linter.all false
namespace Go.Sf
open Go.RowKit (Below)
def DF(P:Program)(N:Nat)(D:QQ->Array Oper->List PR->Bool):PC->Code->Bool
 |.skip _,.skip=>true|.ret,.ret=>true|.exit i _,.exit j=>i==j|.seq a b,.seq c d=>DF P N D a c&&DF P N D b d|.cond c a b,.cond x p q=>AK x c&&(DF P N D a p&&DF P N D b q)|.block i c,.block j d=>i==j&&DF P N D c d|.loop _ c,.loop d=>DF P N D c d|.region rs _,.region _ ops draw=>!draw&&MA P N ops ops.toList rs|.draw ds rs _,.region _ ops draw=>draw&&D ds ops rs|.rls _ a,c=>DF P N D a c|.bad,_=>true|_,_=>false
def PC.yb:PC->Bool
 |.seq a b=>a.yb&&b.yb|.cond _ a b=>a.yb&&b.yb|.block _ c=>c.yb|.loop _ c=>c.yb|.rls _ c=>c.yb|_=>true
def yd(i:Nat)(rs:List PR):Bool:=rs.all fun r=>r.dst !=some i
def PC.yd(i:Nat):PC->Bool
 |.seq a b=>a.yd i&&b.yd i|.cond _ a b=>a.yd i&&b.yd i|.block _ c=>c.yd i|.loop _ c=>c.yd i|.rls _ c=>c.yd i|.region rs _=>Go.Sf.yd i rs|.draw _ rs _=>Go.Sf.yd i rs|_=>true
variable{i:Nat}
theorem We{b:List PR}(h:yd i b=true):∀r∈b,r.dst≠some i:=by
 intro r d;have:=List.all_eq_true.1 h r d;simpa using this
section
variable{P:Program}{F0:Nat->Nat->Prop}{w0:W0}{N:Nat}{p:Option (Nat×Value)}{D:QQ->Array Oper->List PR->Bool}
theorem Bg.envWF{O:AB}{a:Act}{w:World}(h:Bg F0 w0 O a w):∀s,(O.get s).WF:=by
 obtain ⟨G,h⟩:=h;exact h.wf
def Kl(P:Program)(N:Nat)(D:QQ->Array Oper->List PR->Bool):Prop:=
 ∀(F0:Nat->Nat->Prop)(w0:W0)(p:Option (Nat×Value))(id:Nat)(ds:QQ)(ops:Array Oper)(rs:List PR)(live:QQ)(O:AB)(a:Act)(w:World)(K:AB->Prop)(Q:Exit->Act->World->Prop),D ds ops rs=true->(∀i v,p=some (i,v)->∀r∈rs,r.dst≠some i)->Km N p a->Bg F0 w0 O a w->Rl O ds=true->wpOps (AX P) (fun e=>K (e.fm live)) rs O ->
  (∀O a w,K O->Km N p a->Bg F0 w0 O a w->Q .normal a w)->(Code.region id ops true).wp P Q a w
theorem NU(hD:Kl P N D):∀(X:PC)(c:Code),DF P N D X c=true->((∀b o,¬w0.E b o)\/X.yb=true)->(∀i v,p=some (i,v)->X.yd i=true)->∀(q:Q)(A:Exit->Act->World->Prop),
  (∀O a w,q.normal O->Km N p a->Bg F0 w0 O a w->A .normal a w)->(∀i O a w,q.exit i O->Km N p a->Bg F0 w0 O a w->A (.exit i) a w)->(∀O a w,q.ret O->Km N p a->Bg F0 w0 O a w->A .ret a w) ->
  ∀O a w,Km N p a->Bg F0 w0 O a w->X.wp (AX P) q O->c.wp P A a w:=by
 intro X
 induction X with
 |skip l=>
  intro c g K t q A C H I O a w u m h;cases c<;>simp[DF]at g<;>first|exact Go.wp_skip (C _ a w h u (m.fm l))|cases g
 |ret=>
  intro c g K t q A C H I O a w u m h;cases c<;>simp[DF]at g<;>first|exact Go.wp_ret (I O a w h u m)|cases g
 |exit i l=>
  intro c g K t q A C H I O a w u m h;cases c<;>simp only[DF]at g<;>first|cases g|skip
  simp at g;subst g;exact Go.wp_exit (H i _ a w h u (m.fm l))
 |seq x y V W=>
  intro c g K t q A C H I O a w u m h;cases c<;>simp only[DF]at g<;>first|cases g|skip
  rename_i c d;simp at g;have M:=K.imp id (fun e=>(sr _ _▸e:x.yb=true/\y.yb=true));have R:=fun i v J=>(sr _ _▸t i v J:x.yd i=true/\y.yd i=true);refine Go.wp_seq (V c g.1 (M.imp id And.left) (fun i v J=>(R i v J).1) _ _ ?_ ?_ ?_ O a w u m h)
  .intro O a w L u m;exact W d g.2 (M.imp id And.right) (fun i v J=>(R i v J).2) q A C H I O a w u m (L m.envWF)
  .exact H
  .exact I
 |cond o x y V W=>
  intro c g K t q A C H I O a w u m h;cases c<;>simp only[DF]at g<;>first|cases g|skip
  rename_i c d e;simp at g;simp[PC.wp]at h;split at h
  .rename_i b T;have hc:a.eval c=.bool b:=by
    obtain ⟨G,m⟩:=m;have:=(Ar m g.1 T).1
    grind [Af]
   have M:=K.imp id (fun e=>(sr _ _▸e:x.yb=true/\y.yb=true));have R:=fun i v J=>(sr _ _▸t i v J:x.yd i=true/\y.yd i=true);refine Go.wp_cond_split hc (fun T=>?_) (fun T=>?_)
   .exact V d g.2.1 (M.imp id And.left) (fun i v J=>(R i v J).1) q A C H I O a w u m (h.1 T)
   .exact W e g.2.2 (M.imp id And.right) (fun i v J=>(R i v J).2) q A C H I O a w u m (h.2 T)
  .exact h.elim
 |block i x ih=>
  intro c g K t q A C H I O a w u m h;cases c<;>simp only[DF]at g<;>first|cases g|skip
  rename_i j d;simp at g;obtain⟨rfl,g⟩:=g;refine Go.wp_block (ih d g K t _ _ ?_ ?_ ?_ O a w u m h)
  .exact C
  .intro k O a w L u m;simp[Exit.inBlock];simp only at L;split
   .rename_i e;rw[ae e]at L;exact C O a w L u m
   .rename_i e;rw[az e]at L;exact H k O a w L u m
  .exact I
 |loop B x ih=>
  intro c g K t q A C H I O a w u m h;cases c<;>simp[DF]at g<;>first|cases g|skip
  rename_i c;simp[PC.wp]at h
  let Y:Act->World->Prop:=fun a w=>∀(b:Frame)(k:List Item)(cs:List Frame),∃e a' w',A e a' w'/\Arrives P (lone (b.at a (.code c::.inLoop c::k)) cs w) b k cs e a' w'
  have hX:=h (fun e=>∀a w,Km N p a->Bg F0 w0 e a w->Y a w) ?_ a w u (m.fm B)
  .intro b k cs;obtain⟨e,a',w',S,z⟩:=hX b k cs;exact⟨e,a',w',S,.of_steps (.one step_loop) z⟩
  .intro e he a w u m;have T:c.wp P (Exit.then Y A) a w:=by
    refine ih c g K t _ _ ?_ ?_ ?_ e a w u m (he m.envWF)
    .intro O a w L u m;exact L a w u (m.fm B)
    .exact H
    .exact I
   intro b k cs;obtain⟨e,a₁,w₁,S,z⟩:=T b (.inLoop c::k) cs;cases e with
   |normal=>
    obtain ⟨e₂,a₂,w₂,hq₂,U⟩:=S b k cs;exact⟨e₂,a₂,w₂,hq₂,.of_steps (Steps.trans z (.one step_inLoop)) U⟩
   |exit id=>exact⟨_,a₁,w₁,S,.pass (x:=.inLoop c) rfl (fun _ _=>.inl (by simp)) z⟩|goto l=>exact⟨_,a₁,w₁,S,.pass (x:=.inLoop c) rfl (fun _ _=>.inl (by simp)) z⟩|ret=>exact⟨_,a₁,w₁,S,.pass (x:=.inLoop c) rfl (fun _ _=>.inl (by simp)) z⟩|panic ch=>exact⟨_,a₁,w₁,S,.pass (x:=.inLoop c) rfl (fun _ _=>.inl (by simp)) z⟩|outgrown=>exact⟨_,a₁,w₁,S,.pass (x:=.inLoop c) rfl (fun _ _=>.inl (by simp)) z⟩
 |region rs B=>
  intro c g K t q A C H I O a w u m h;cases c<;>simp only[DF]at g<;>first|cases g|skip
  rename_i id ops draw;simp[Bool.not_eq_true']at g;obtain⟨rfl,g⟩:=g;exact a8 g (fun i v J=>We (t i v J)) u m h fun O a w L u m=>C _ a w L u (m.fm B)
 |draw ds rs B=>
  intro c g K t q A C H I O a w u m h;cases c<;>simp only[DF]at g<;>first|cases g|skip
  rename_i id ops draw;simp at g;obtain⟨rfl,g⟩:=g;exact hD F0 w0 p id ds ops rs B O a w q.normal A g (fun i v J=>We (t i v J)) u m h.1 h.2 C
 |bad=>
  intro c g K t q A C H I O a w u m h;exact h.elim
 |rls s x ih=>
  intro c g K t q A C H I O a w u m h;have hok':DF P N D x c=true:=by
   grind [DF]
  simp [PC.wp]at h;split at h
  .rename_i cs hs;obtain⟨G,m⟩:=m;exact ih c hok' (K.imp id fun e=>e) t q A C H I _ a w u (m.rls hs) h
  .exact h.elim
def Cw:Nat->Fq->AB
 |_,[]=>[]|k,t::ts=>(k,.tv t)::Cw (k+1) ts
theorem Ja:∀(ts:Fq)(k n:Nat),AB.get (Cw k ts) n=if k<=n then(match ts[n-k]? with|some t=>.tv t|none=>.undef)else .undef
 |[],k,n=>by simp[Cw,AB.get]|t::ts,k,n=>by
  rw [Cw,AB.d6,Ja ts (k+1) n]
  grind
variable{ts:Fq}{n:Nat}
theorem Bg.start{w:World}{F0:Nat->Nat->Prop}{vs:Array Value}(h:AP w F0 ts vs.toList)(j:TV.tg ts)(d:Ti w):Bg F0 (W0.mk w fun _ _=>False) (Cw 0 ts) {tmps:=vs++Array.replicate n undef,defers:=[]} w:=by
 have q:=A9 h;simp at q;refine⟨fun _ _=>none,by simp,by simp,⟨rfl,rfl,rfl,b6 _,fun _ _ _=>rfl,fun _ _ _ _ h=>h,fun _ _ _ h=>h.elim,d,fun _ _ h=>h.elim⟩,rfl,fun s k=>?_,fun s k=>?_,fun s=>?_⟩
 .rw[Ja]
  grind
 .rw[Ja,ae (Nat.zero_le _),Nat.sub_zero];cases d:ts[s]? with
  |none=>trivial|some t=>
   have e:s<vs.size:=by
    grind
   have hv:vs.toList[s]?=some (slot {tmps:=vs++Array.replicate n undef,defers:=[]} s):=by
    simp [slot,Array.getD_eq_getD_getElem?,Array.getElem?_append,e]
   refine By (fun b o u l m=>⟨l,?_⟩) _ _ (((BQ _ _).1 h).2 s t _ d hv);rintro(g|⟨_,_,_,g,_⟩)
   .exact m g.2
   .cases g
 .rw[Ja,ae (Nat.zero_le _),Nat.sub_zero];cases d:ts[s]? with
  |none=>trivial|some t=>exact Bc.1 j t (List.mem_of_getElem? d)
def Qe(P:Program):ResultVar->RV->Bool
 |.tmp t,.tmp s=>t==s|.cell x t,.cell s none=>x==s&&Br P t==some false|.cell x t,.cell s (some n)=>x==s&&Br P t==some true&&Ce P t==some n|_,_=>false
def F6(P:Program):List ResultVar->List RV->Bool
 |[],[]=>true|x::xs,y::ys=>Qe P x y&&F6 P xs ys|_,_=>false
def Fv(tmps:Array Value):ResultVar->Sem Value
 |.tmp t=>pure (tmps.getD t undef)|.cell a t=>do loadVar t (<-asAddr (tmps.getD a undef))
variable{O:AB}{a:Act}{w:World}{G:BH}
theorem Y4(m:AN F0 w0 O a w G){x:ResultVar}{y:RV}(d:Qe P x y=true){t:TV}(h:y.get O=some t):∃v,(Fv a.tmps x).run P w=.ok v w/\Af w (AW w0.heap.size F0 G) t v/\t.WF:=by
 have e:∀s,AK (.tmp s) (.s s)=true:=fun s=>by simp[AK]
 cases x with
 |tmp s=>
  cases y with
  |tmp s'=>
   simp [Qe]at d;subst d;have:=Ar m (e s) (t:=t) h;exact⟨slot a s,rfl,this⟩
  |cell s' n=>cases n<;>simp[Qe]at d
 |cell s ty=>
  cases y with
  |tmp _=>cases d
  |cell s' n=>
   cases n with
   |none=>
    simp [Qe]at d;obtain⟨rfl,z⟩:=d;simp[RV.get]at h;split at h
    .rename_i u r o;simp at h;subst h;obtain⟨b,g,vs,A,l,B,_,C⟩:=Qt m (e s) (y:=.s s) o;simp[AP]at l;obtain⟨v,M,rfl,K,Q⟩:=l;have H:=C 0 v rfl;rw[Addr.add_zero']at H;have k:a.tmps.getD s undef=.pointer (some ⟨b,g,none⟩):=A;refine⟨v,?_,K,B.1⟩;simp[Fv,k,loadVar,CO z,H,asAddr]
    .cases h
   |some n=>
    simp [Qe]at d;obtain⟨⟨rfl,z⟩,L⟩:=d;simp[RV.get]at h;split at h
    .rename_i cs o;split at h
     .rename_i q;simp at h;subst h;obtain⟨b,g,vs,A,l,B,E,C⟩:=Qt m (e s) (y:=.s s) o;have J:=A9 l;have j:=run_loadCells_list (P:=P) w ⟨b,g,none⟩ vs C;rw[J,q]at j;have k:a.tmps.getD s undef=.pointer (some ⟨b,g,none⟩):=A;refine⟨.agg vs.toArray,?_,?_,B⟩
      .simp[Fv,k,loadVar,CO z,Bv L,j,asAddr]
      .simp only[Af];exact⟨_,rfl,l,by rw[List.all_eq_true];exact fun x I=>E x I⟩
     .cases h
    .cases h
theorem HQ(d:AN F0 w0 O a w G):∀{xs:List ResultVar}{ys:List RV},F6 P xs ys=true->∀{ts:Fq},Dz O ys=some ts->∃vs,(xs.mapM (Fv a.tmps)).run P w=.ok vs w/\AP w (AW w0.heap.size F0 G) ts vs/\TV.tg ts
 |[],[],_,ts,h=>by simp[Dz]at h;subst h;exact⟨[],by simp,rfl,trivial⟩|[],_::_,b,_,_=>by simp[F6]at b|_::_,[],b,_,_=>by simp[F6]at b|x::xs,y::ys,b,ts,h=>by
  simp [F6]at b;simp[Dz]at h;split at h
  .rename_i t us e g;simp at h;subst h;obtain⟨v,j,k,l⟩:=Y4 d b.1 e;obtain⟨vs,m,o,q⟩:=HQ d b.2 g;exact⟨v::vs,by simp[List.mapM_cons,j,m],⟨v,vs,rfl,k,o⟩,l,q⟩
  .cases h
theorem Fx{f:ResultVar->Sem Value}{xs:Array ResultVar}{vs:List Value}{w':World}(h:(xs.toList.mapM f).run P w=.ok vs w'):(xs.mapM f).run P w=.ok vs.toArray w':=by
 rw [<-Array.toArray_toList (xs:=xs),List.mapM_toArray];simp[h]
variable{F:Nat->Nat->Prop}
theorem AP.toA{vs:List Value}(h:AP w F ts vs):AP w F ts vs.toArray.toList:=by simpa using h
def Al.lone:Al->Bool
 |.own _=>true|.zX _ _=>true|_=>false
variable{fn:Func}{r:Al}
theorem VO(H:AN F0 w0 O a w G){ys:List RV}(k:F6 P fn.results.toList ys=true)(M:(∀b o,¬w0.E b o)\/r.lone=false)(I:r.plain=true)(h:BE ys r O):
  ∃v,(results fn a.tmps).run P w=.ok v w/\((∀b o,¬w0.E b o)->Hx w (fun b o=>b<w0.heap.size/\F0 b o) w0.heap.size r v)/\(r.lone=false->Y7 w (fun b o=>b<w0.heap.size/\F0 b o) (fun b lo=>w0.heap.size<=b\/∀o,lo<=o->w0.E b o) r v)/\r.WF:=by
 have C:∀ts,Dz O ys=some ts->∃vs:List Value,(fn.results.mapM (Fv a.tmps)).run P w=.ok vs.toArray w/\AP w (AW w0.heap.size F0 G) ts vs/\TV.tg ts:=by
  grind [HQ,Fx]
 have l:(results fn a.tmps)=(fn.results.mapM (Fv a.tmps)>>=fun vs=>pure (if h:vs.size=1 then vs[0]else .tuple vs)):=by
  unfold results;congr 1
 have L:BS w w (AW w0.heap.size F0 G) (fun b o=>b<w0.heap.size/\F0 b o):=fun b o u U V=>⟨U,fun hF'=>V (.inl hF')⟩;cases r with
 |sh t=>
  have z:∃x,ys=[x]/\x.get O=some t:=by
   rcases ys with _|⟨x,_|⟨y,ys⟩⟩<;>simp[BE]at h;exact⟨x,rfl,h⟩
  obtain ⟨x,rfl,Y⟩:=z;obtain⟨vs,e1,K,e3⟩:=C [t] (by simp[Dz,Y]);simp only[AP]at K;obtain⟨v,r',rfl,e4,rfl⟩:=K;refine⟨v,?_,fun _=>By L _ _ e4,fun _=>By L _ _ e4,e3.1⟩;rw[l];simp[e1]
 |own t=>
  have z:∃s,ys=[.tmp s]/\O.get s=.ow t:=by
   rcases ys with _|⟨x,_|⟨y,ys⟩⟩
   .simp[BE]at h
   .cases x<;>simp[BE]at h;exact⟨_,rfl,h⟩
   .simp[BE]at h
  obtain ⟨s,rfl,J⟩:=z;obtain⟨vs,e1,K,e3⟩:=C [t] (by simp[Dz,RV.get,J,EV.val]);have hr:Qe P (.tmp s) (.tmp s)=true:=by simp[Qe]
  have A:=AZ H J (by simp);have B:=H.wf s;rw[J]at B;simp[AL]at A;have m:fn.results.toList=[.tmp s]:=by
   rcases Y:fn.results.toList with _|⟨x,_|⟨y,xs⟩⟩<;>rw[Y]at k
   .simp[F6]at k
   .cases x<;>simp[F6,Qe]at k;rw[k]
   .simp[F6]at k
  have hv:(results fn a.tmps).run P w=.ok (slot a s) w:=by
   rw [l];have hm:(fn.results.mapM (Fv a.tmps)).run P w=.ok [slot a s].toArray w:=by
    refine Fx ?_;rw[m];simp[List.mapM_cons,Fv,slot]
   simp [hm]
  replace M:=M.resolve_right (by simp[Al.lone]);refine⟨slot a s,hv,fun _=>⟨G s none,A.kept (fun b o u U V=>⟨U,?_⟩) (fun _ _ _=>rfl),fun b lo W=>?_⟩,fun e=>by simp[Al.lone]at e,B⟩
  .rintro(z|⟨lo,z,X⟩)
   .exact V (.inl z)
   .exact V (.inr ⟨s,none,lo,z,X⟩)
  .have:=H.lt _ _ _ _ W;exact⟨this.2.resolve_right (fun e=>M _ _ (e _ (b6 _))),this.1⟩
 |tp ts=>
  simp [BE]at h;have hne:ys.length≠1:=by
   grind
  have X:Dz O ys=some ts:=by
   grind
  obtain ⟨vs,e1,K,e3⟩:=C ts X;have hlen:vs.length≠1:=by
   rw [A9 K];have:∀(ys:List RV)(ts:Fq),Dz O ys=some ts->ts.length=ys.length:=by
    intro ys
    induction ys with
    |nil=>intro ts h;simp[Dz]at h;subst h;rfl|cons y ys ih=>
     grind [Dz,tn]
   grind
  refine ⟨.tuple vs.toArray,?_,fun _=>⟨vs.toArray,rfl,(Aj L _ _ K).toA⟩,fun _=>⟨vs.toArray,rfl,(Aj L _ _ K).toA⟩,e3⟩;rw[l];simp[e1,hlen]
 |zX n es=>
  have z:∃s,ys=[.tmp s]/\O.get s=.xo n es:=by
   rcases ys with _|⟨x,_|⟨y,ys⟩⟩
   .simp[BE]at h
   .cases x<;>simp[BE]at h;exact⟨_,rfl,h⟩
   .simp[BE]at h
  obtain ⟨s,rfl,J⟩:=z;have A:=AZ H J (by simp);have B:=H.wf s;rw[J]at B;simp[AL]at A;obtain⟨xs,⟨z0,k1,k2⟩,k3,k4,k5⟩:=A;have m:fn.results.toList=[.tmp s]:=by
   rcases Y:fn.results.toList with _|⟨x,_|⟨y,xs⟩⟩<;>rw[Y]at k
   .simp[F6]at k
   .cases x<;>simp[F6,Qe]at k;rw[k]
   .simp[F6]at k
  have hv:(results fn a.tmps).run P w=.ok (slot a s) w:=by
   rw [l];have hm:(fn.results.mapM (Fv a.tmps)).run P w=.ok [slot a s].toArray w:=by
    refine Fx ?_;rw[m];simp[List.mapM_cons,Fv,slot]
   simp [hm]
  replace M:=M.resolve_right (by simp[Al.lone]);refine⟨slot a s,hv,fun _=>⟨z0,xs,k1,Aj (fun b o u U hf=>⟨U,fun hf'=>hf ?_⟩) _ _ k3,k4,k5,fun b lo W=>?_⟩,fun e=>by simp[Al.lone]at e,B⟩
  .rcases hf' with h6|⟨lo,h6⟩
   .exact .inl h6
   .exact .inr ⟨s,none,0,by rw[k2,h6];rfl,Nat.zero_le _⟩
  .have:=H.lt s none b 0 (by rw[k2,W];rfl);exact⟨this.2.resolve_right (fun e=>M _ _ (e _ (b6 _))),this.1⟩
 |turn _ _=>cases I
 |cut zs=>exact h.elim|mpr _ _=>cases I
 |ag _ _ _=>cases I
 |bo _ _ _ _=>cases I
 |ext _=>cases I
 |yr cs=>
  have z:∃s n,ys=[.cell s (some n)]/\O.get s=.bx cs/\cs.length=n:=by
   rcases ys with _|⟨x,_|⟨y,ys⟩⟩
   .simp[BE]at h
   .rcases x with s|⟨s,_|n⟩
    .simp[BE]at h
    .simp[BE]at h
    .exact⟨s,n,rfl,h⟩
   grind [BE]
  obtain ⟨s,n,rfl,J,hn⟩:=z;have hbx:=AZ H J (by simp);have B:=H.wf s;rw[J]at B;simp only[AL]at hbx;obtain⟨b,c,T,k1,k2,k3,k4,k5⟩:=hbx;have m:∃ty,fn.results.toList=[.cell s ty]/\Br P ty=some true/\Ce P ty=some n:=by
   rcases Y:fn.results.toList with _|⟨x,_|⟨y,xs⟩⟩<;>rw[Y]at k
   .simp[F6]at k
   .cases x<;>simp[F6,Qe]at k;obtain⟨⟨rfl,z⟩,X⟩:=k;exact⟨_,rfl,z,X⟩
   .simp[F6]at k
  obtain ⟨ty,m,hag',hcn⟩:=m;have hv:(results fn a.tmps).run P w=.ok (.agg c) w:=by
   rw [l];have R:=run_loadCells_list (P:=P) w ⟨b,0,none⟩ c.toList (fun j v hv=>by
    have:=cell_of_row w b j c T (0,0) k2;rw[show((⟨b,0,none⟩:Addr).add j)=⟨b,j,none⟩by simp[Addr.add];omega,this];simpa using hv)
   rw [Array.length_toList,k3,hn]at R;have h1':a.tmps.getD s undef=.pointer (some ⟨b,0,none⟩):=k1;have hm:(fn.results.mapM (Fv a.tmps)).run P w=.ok [.agg c].toArray w:=by
    refine Fx ?_;rw[m];simp[List.mapM_cons,Fv,h1',loadVar,CO hag',Bv hcn,R,asAddr]
   simp [hm]
  have hsz:s<a.tmps.size:=BU H J (by simp)
  let Z:DB:=fun q i=>if q=0/\i=none then none else Be a G s q i
  have hZ:∀{q i b lo},Z q i=some (b,lo)->Be a G s q i=some (b,lo):=by
   intro q i b lo Q;simp only[Z]at Q;split at Q
   .cases Q
   .exact Q
  have S:∀N:Nat->Nat->Prop,(∀b lo,b<w.heap.size->(w0.heap.size<=b\/∀o,lo<=o->w0.E b o)->N b lo)->ZR w (fun b o=>b<w0.heap.size/\F0 b o) N cs (.agg c):=by
   intro N hN;refine⟨Z,⟨c,rfl,k3,fun i d hd=>?_⟩,fun q i q' i' b lo lo' e1 K=>JW H hsz _ _ _ _ _ _ _ (hZ e1) (hZ K),by simp[Z],fun q i b lo Q=>?_⟩
   .obtain⟨x,j1,j2⟩:=k5 i d hd;have hz0:Z 0 (some i)=G s (some i):=by simp[Z,Cy]
    refine ⟨x,j1,?_,GT j2⟩;rw[hz0];refine A8.x8 (j2.kept (fun b o u U V=>⟨U,?_⟩) (fun _ _ _=>rfl) BA.rfl') (fun g lo j Q=>?_)
    .rintro(z|⟨q,j,lo,z,X⟩)
     .exact V (.inl z)
     .obtain⟨p,j',f1,_⟩:=B2 (hZ z);exact V (.inr ⟨p,j',lo,f1,X⟩)
    .simp only[DB.x8,Z];rw[az (by omega)];exact Oo Q j
   .obtain⟨p,j',f1,_⟩:=B2 (hZ Q);have:=H.lt _ _ _ _ f1;exact⟨this.1,hN _ _ this.1 this.2⟩
  refine ⟨.agg c,hv,fun M=>S _ fun b lo _ W=>W.resolve_right (fun e=>M _ _ (e _ (b6 _))),fun _=>S _ fun b lo _ W=>W,B⟩
variable{f:FuncId}{c:Code}{pl:PC}{rv:List RV}
theorem Z2(hD:Kl P fn.ntmps D)(hf:P.funcs[f]? =some fn)(hb:fn.body=some c)(hname:fn.name≠ "runtime.NumGoroutine")(hok:DF P fn.ntmps D pl c=true)(hrv:F6 P fn.results.toList rv=true)
  {args:Fq}(hn:args.length<=fn.ntmps)(hp:r.plain=true)(h:TV.tg args->pl.wp (AX P) ⟨BE rv r,fun _ _=>False,BE rv r⟩ (Cw 0 args)):AX P f args r:=by
 refine AX.of0 ?_ hp;intro hw;refine⟨by simp[Di,hf,hb,hname],fun F0 w vs hrep ht=>?_⟩;have hl:=A9 hrep;simp at hl;have hcalls:Calls P f vs w fun e w'=>(∃v,e=.returned v/\Below w.heap.size w w'/\Hx w' (fun b o=>b<w.heap.size/\F0 b o) w.heap.size r v)/\r.WF:=by
  refine calls_of_wp hf hb ?_;have fin:∀(O:AB)(a:Act)(w':World),BE rv r O->Km fn.ntmps none a->Bg F0 (W0.mk w fun _ _=>False) O a w'->a.defers=[]/\∃v,(results fn a.tmps).run P w'=.ok v w'/\((∃v',Ending.returned v=.returned v'/\Below w.heap.size w w'/\Hx w' (fun b o=>b<w.heap.size/\F0 b o) w.heap.size r v')/\r.WF):=by
   intro O a w' hr hN ⟨G,hI⟩;obtain⟨v,e1,e2,_,e3⟩:=VO (P:=P) hI hrv (.inl fun _ _ h=>h) hp hr;exact⟨hI.defers,v,e1,⟨v,rfl,⟨hI.below.os,hI.below.tape,hI.below.output,hI.below.size,fun k hk=>hI.below.block k hk (fun _ h=>h)⟩,e2 fun _ _ h=>h⟩,e3⟩
  refine NU (p:=none) hD pl c hok (.inl fun _ _ h=>h) (by simp) _ _ ?_ ?_ ?_ _ _ w ?_ (Bg.start hrep hw ht) (h hw)
  .exact fun O a w' h1 h2 h3=>fin O a w' h1 h2 h3
  .grind
  .exact fun O a w' h1 h2 h3=>fin O a w' h1 h2 h3
  .exact⟨by simp;omega,by simp⟩
 refine ⟨?_,hcalls.mono fun e w' h=>h.1⟩;obtain⟨_,_,_,h1,_⟩:=hcalls [];exact h1.2
def Ug(i m:Nat)(Z:DB):BH:=fun s=>if s=i then Z 0 else if m<=s then(fun j=>match j with|some j=>Z (s-m+1) (some j)|none=>none)else fun _=>none
variable{Z:DB}
theorem cK{i m:Nat}{p:Nat}{j:Option Nat}{b lo:Nat}(h:Ug i m Z p j=some (b,lo)):(p=i/\Z 0 j=some (b,lo))\/(p≠i/\m<=p/\Z (p-m+1) j=some (b,lo)):=by
 simp [Ug]at h
 grind
variable{i:Nat}{v:Value}
theorem Bg.startZ{w:World}{F0:Nat->Nat->Prop}{vs:Array Value}{e:EV}(h:AP w (fun b o=>F0 b o\/ZF Z b o) ts vs.toList)(Q:TV.tg ts)(C:e.WF)
  (hi:vs[i]?=some v)(E:Ir Z)(H:∀q i b lo,Z q i=some (b,lo)->b<w.heap.size)(I:∀b o S,ZF Z b o->¬F0 b S)(d:XJ w (ZF Z))
  (R:∀a:Act,slot a i=v->∀G:BH,G i=Z 0->x8 a G=Z.x8->∀L,BS w w (fun b o=>F0 b o\/ZF Z b o) L->AL a w L G ((i,e)::Cw 0 ts) i e v):
  Bg F0 (W0.mk w (ZF Z)) ((i,e)::Cw 0 ts) {tmps:=vs++Array.replicate n undef,defers:=[]} w:=by
 have X:=A9 h;simp at X;have l:i<vs.size:=(Array.getElem?_eq_some_iff.1 hi).1
 let G:BH:=Ug i (vs.size+n) Z
 have A:∀p j b lo,G p j=some (b,lo)->∃q,Z q j=some (b,lo)/\((p=i/\q=0)\/(p≠i/\q=p-(vs.size+n)+1/\vs.size+n<=p)):=by
  intro p j b lo W;rcases cK W with⟨z,K⟩|⟨z,K,M⟩
  .grind
  grind
 have m:BS w w (fun b o=>F0 b o\/ZF Z b o) (AW w.heap.size F0 G):=by
  refine fun b o u T hf=>⟨T,?_⟩;rintro(⟨_,z⟩|⟨p,j,lo,z,K⟩)
  .exact hf (.inl z)
  .obtain⟨q,M,_⟩:=A _ _ _ _ z;exact hf (.inr ⟨q,j,lo,M,K⟩)
 have x:∀s(k:s<vs.size),slot {tmps:=vs++Array.replicate n undef,defers:=[]} s=vs[s]:=by
  intro s k;simp[slot,Array.getD_eq_getD_getElem?,Array.getElem?_append,k]
 refine ⟨G,fun p j p' j' b lo U J V=>?_,fun p j b lo J=>?_,⟨rfl,rfl,rfl,b6 _,fun _ _ _=>rfl,fun _ _ _ _ h=>h,I,d⟩,rfl,fun s k=>?_,fun s k=>?_,fun s=>?_⟩
 .obtain⟨q,B,f2⟩:=A _ _ _ _ J;obtain⟨q',f3,f4⟩:=A _ _ _ _ V;have:=E _ _ _ _ _ _ _ B f3;exact⟨by omega,this.2⟩
 .obtain⟨q,B,_⟩:=A _ _ _ _ J;exact⟨H _ _ _ _ B,.inr fun o ho=>⟨q,j,lo,B,ho⟩⟩
 .simp at k;rw[AB.d6,az (by omega),Ja,ae (Nat.zero_le _),List.getElem?_eq_none (by omega)]
 .rw[AB.d6];by_cases y:i=s
  .subst y;rw[ae rfl,x i l];have hv:vs[i]=v:=by
    grind
   rw [hv];refine R _ (by rw[x i l,hv]) G (by simp[G,Ug]) ?_ _ m;funext g j;simp only[x8,G,Ug,Array.size_append,Array.size_replicate,DB.x8];rw[az (by omega),ae (by omega)];show Z (vs.size+n+g-(vs.size+n)+1) (some j)=Z (g+1) (some j);rw[Nat.add_sub_cancel_left]
  .rw[az y,Ja,ae (Nat.zero_le _),Nat.sub_zero];cases d:ts[s]? with
   |none=>trivial|some t=>
    have Y:s<vs.size:=by
     grind
    have hv:vs.toList[s]?=some (slot {tmps:=vs++Array.replicate n undef,defers:=[]} s):=by
     grind
    exact By m _ _ (((BQ _ _).1 h).2 s t _ d hv)
 .rw[AB.d6];split
  .exact C
  .rw[Ja,ae (Nat.zero_le _),Nat.sub_zero];cases d:ts[s]? with
   |none=>trivial|some t=>exact Bc.1 Q t (List.mem_of_getElem? d)
theorem Bg.startB{w:World}{F0:Nat->Nat->Prop}{vs:Array Value}{cs:List AR}(h:AP w (fun b o=>F0 b o\/ZF Z b o) ts vs.toList)(y:TV.tg ts)(g:∀c∈cs,c.t.WF)
  (hi:vs[i]?=some v)(z:NN w (fun b o=>F0 b o\/ZF Z b o) Z cs v)(k:Ir Z)(l:∀q i b lo,Z q i=some (b,lo)->b<w.heap.size)(m:∀b o B,ZF Z b o->¬F0 b B)(A:XJ w (ZF Z)):
  Bg F0 (W0.mk w (ZF Z)) ((i,.bx cs)::Cw 0 ts) {tmps:=vs++Array.replicate n undef,defers:=[]} w:=by
 refine Bg.startZ (e:=.bx cs) h y g hi k l m A fun a R G u C S s=>?_;obtain⟨b,c,T,H,I,J,K,L⟩:=z;simp only[AL];refine⟨b,c,T,H,I,J,by rw[u];exact K,fun j d E=>?_⟩;obtain⟨x,M,Q⟩:=L j d E;refine⟨x,M,?_⟩;rw[u,C];exact Q.kept s (fun _ _ _=>rfl) BA.rfl'
theorem Bg.startA{w:World}{F0:Nat->Nat->Prop}{vs:Array Value}{cs:List AR}(h:AP w (fun b o=>F0 b o\/ZF Z b o) ts vs.toList)(u:TV.tg ts)(g:∀c∈cs,c.t.WF)
  (hi:vs[i]?=some v)(y:Vv w (fun b o=>F0 b o\/ZF Z b o) Z cs v)(k:Ir Z)(l:∀q i b lo,Z q i=some (b,lo)->b<w.heap.size)(m:∀b o A,ZF Z b o->¬F0 b A)(z:XJ w (ZF Z)):
  Bg F0 (W0.mk w (ZF Z)) ((i,.yr cs)::Cw 0 ts) {tmps:=vs++Array.replicate n undef,defers:=[]} w:=by
 refine Bg.startZ (e:=.yr cs) h u g hi k l m z fun a M G B C Q s=>?_;obtain⟨xs,H,I,J⟩:=y;simp[AL];refine⟨xs,H,I,fun j d E=>?_⟩;obtain⟨x,K,L,_⟩:=J j d E;refine⟨x,K,?_⟩;rw[B,C];exact L.kept s (fun _ _ _=>rfl) BA.rfl'
variable{us:Fq}
theorem gh(hD:Kl P fn.ntmps D)(hf:P.funcs[f]? =some fn)(hb:fn.body=some c)(hname:fn.name≠ "runtime.NumGoroutine")(hok:DF P fn.ntmps D pl c=true)(hrv:F6 P fn.results.toList rv=true)
  {args:Fq}(hn:args.length<=fn.ntmps){cs cs':List AR}(hcl:pl.yb=true)(hdst:pl.yd i=true)(h:TV.tg args->(∀c∈cs,c.t.WF)->pl.wp (AX P) ⟨BE rv (.bo cs cs' i us),fun _ _=>False,BE rv (.bo cs cs' i us)⟩ ((i,.bx cs)::Cw 0 args)):AX P f args (.bo cs cs' i us):=by
 intro hw hwc;refine⟨by simp[Di,hf,hb,hname],fun F0 w vs v Z hrep hvi hbox hzu hzl hfree ht=>?_⟩;have hl:=A9 hrep;simp at hl;have hcalls:Calls P f vs w fun e w'=>((∀c∈cs',c.t.WF)/\TV.tg us)/\∃r Z',e=.returned r/\GI Z w w'/\NN w' (fun b o=>(b<w.heap.size/\F0 b o)\/ZF Z' b o) Z' cs' v/\
   Ir Z'/\(∀q i b lo,Z' q i=some (b,lo)->b<w'.heap.size/\(w.heap.size<=b\/∃p j lo',Z p j=some (b,lo')/\lo'<=lo))/\
   Pz w' (fun b o=>(b<w.heap.size/\F0 b o)\/ZF Z' b o) us r:=by
  refine calls_of_wp hf hb ?_;have fin:∀(O:AB)(a:Act)(w':World),BE rv (.bo cs cs' i us) O->Km fn.ntmps (some (i,v)) a->Bg F0 (W0.mk w (ZF Z)) O a w'->a.defers=[]/\∃r,(results fn a.tmps).run P w'=.ok r w'/\(((∀c∈cs',c.t.WF)/\TV.tg us)/\∃r' Z',Ending.returned r=.returned r'/\GI Z w w'/\NN w' (fun b o=>(b<w.heap.size/\F0 b o)\/ZF Z' b o) Z' cs' v/\
    Ir Z'/\(∀q i b lo,Z' q i=some (b,lo)->b<w'.heap.size/\(w.heap.size<=b\/∃p j lo',Z p j=some (b,lo')/\lo'<=lo))/\
    Pz w' (fun b o=>(b<w.heap.size/\F0 b o)\/ZF Z' b o) us r'):=by
   rintro O a w' ⟨hs,hr⟩ hN ⟨G,hI⟩;have hag:BS w' w' (AW w.heap.size F0 G) (fun b o=>(b<w.heap.size/\F0 b o)\/ZF (Be a G i) b o):=by
    refine fun b o u hc hF=>⟨hc,?_⟩;rintro(h1|⟨q,j,lo,h1,h2⟩)
    .exact hF (.inl h1)
    .obtain⟨p,j',f1,_⟩:=B2 h1;exact hF (.inr ⟨p,j',lo,f1,h2⟩)
   have hisz:i<a.tmps.size:=BU hI hs (by simp);have hbx:=AZ hI hs (by simp);have hwb:=hI.wf i;rw[hs]at hwb;rw[hN.pin i v rfl]at hbx;simp only[AL]at hbx;obtain⟨b,c,T,k1,k2,k3,k4,k5⟩:=hbx;obtain⟨vs',e1,e2,e3⟩:=HQ (P:=P) hI hrv hr;have hm:=Fx e1;have hshape:(results fn a.tmps)=(fn.results.mapM (Fv a.tmps)>>=fun vs=>pure (if h:vs.size=1 then vs[0]else .tuple vs)):=by
    unfold results;congr 1
   have hlen:=A9 e2;have hres:∃r,(results fn a.tmps).run P w'=.ok r w'/\Pz w' (AW w.heap.size F0 G) us r:=by
    rw [hshape];by_cases h1:vs'.length=1
    .obtain⟨x,rfl⟩:=List.length_eq_one_iff.1 h1;rcases us with _|⟨t,_|⟨t',us⟩⟩
     .simp at hlen
     .simp only[AP]at e2;obtain⟨v',r',hv',e4,rfl⟩:=e2;simp at hv';subst hv';exact⟨x,by simp[hm],e4⟩
     .simp at hlen
    .refine⟨.tuple vs'.toArray,by simp[hm,h1],?_⟩;rcases us with _|⟨t,_|⟨t',us⟩⟩
     .exact⟨_,rfl,e2.toA⟩
     .grind
     .exact⟨_,rfl,e2.toA⟩
   obtain ⟨r,hr1,hr2⟩:=hres;refine⟨hI.defers,r,hr1,⟨hwb,e3⟩,r,Be a G i,rfl,?_,⟨b,c,T,k1,k2,k3,by rw[Cy];exact k4,fun j d hj=>?_⟩,JW hI hisz,fun q j b lo f1=>?_,?_⟩
   .exact⟨hI.below.os,hI.below.tape,hI.below.output,hI.below.size,fun k hk hz=>hI.below.block k hk (fun o⟨q,j,lo,f1,_⟩=>hz q j lo f1),fun b o u hz hu=>hI.below.cell b o u hz hu⟩
   .obtain⟨x,f1,f2⟩:=k5 j d hj;refine⟨x,f1,?_⟩;rw[Cy];exact A8.x8 (f2.kept hag (fun _ _ _=>rfl) BA.rfl') fun g lo j' hz=>Oo hz j'
   .obtain⟨p,j',g1,_⟩:=B2 f1;obtain⟨f2,f3⟩:=hI.lt _ _ _ _ g1;refine⟨f2,f3.imp id (fun e=>?_)⟩;exact e lo (b6 _)
   .rcases us with _|⟨t,_|⟨t',us⟩⟩
    .obtain⟨vs2,f1,f2⟩:=hr2;exact⟨vs2,f1,Aj hag _ _ f2⟩
    .exact By hag _ _ hr2
    .obtain⟨vs2,f1,f2⟩:=hr2;exact⟨vs2,f1,Aj hag _ _ f2⟩
  refine NU (p:=some (i,v)) hD pl c hok (.inr hcl) (fun j u hp=>by cases hp;exact hdst) _ _ ?_ ?_ ?_ _ _ w ?_ (Bg.startB hrep hw hwc hvi hbox hzu hzl hfree ht) (h hw hwc)
  .exact fun O a w' h1 h2 h3=>fin O a w' h1 h2 h3
  .exact fun i O a w' h1 _ _=>h1.elim
  .exact fun O a w' h1 h2 h3=>fin O a w' h1 h2 h3
  .have hil:i<vs.size:=(Array.getElem?_eq_some_iff.1 hvi).1;refine⟨by simp;omega,fun j u hp=>?_⟩;cases hp;have:=Array.getElem?_eq_getElem hil;rw[this]at hvi;simp at hvi;simp[slot,Array.getD_eq_getD_getElem?,Array.getElem?_append,hil,hvi]
 refine ⟨?_,hcalls.mono fun e w' h=>h.2⟩;obtain⟨_,_,_,h1,_⟩:=hcalls [];exact h1.1
def Wk(cs'' cs':List AR):Prop:=cs''.length=cs'.length/\∀(i:Nat)(d:AR),cs'[i]?=some d->∃d',cs''[i]?=some d'/\(d=d'\/d=⟨false,.undef⟩)
theorem Wk.wf{b cs':List AR}(h:Wk b cs')(e:∀c∈b,c.t.WF):∀c∈cs',c.t.WF:=by
 intro c d;obtain⟨i,hi⟩:=List.getElem?_of_mem d;obtain⟨g,j,rfl|rfl⟩:=h.2 i c hi
 .grind
 .exact trivial
theorem Wk.cell{w:World}{ρ:Hk}{z:Option (Nat×Nat)}{x:Value}{d b:AR}(h:d=b\/d=⟨false,.undef⟩)(e:A8 w F ρ z b x):A8 w F ρ z d x:=by
 rcases h with rfl|rfl
 .exact e
 .have:x.oneCell'=true:=by
   obtain ⟨o,t⟩:=b;cases o with
   |true=>exact Oa e|false=>exact e.2
  exact ⟨by simp[Af];exact this,this⟩
def bF(rv:List RV)(cs cs':List AR)(i:Nat)(us:Fq)(O:AB):Prop:=∃cs'',Wk cs'' cs'/\BE rv (.bo cs cs'' i us) O
theorem eJ(hD:Kl P fn.ntmps D)(hf:P.funcs[f]? =some fn)(hb:fn.body=some c)(hname:fn.name≠ "runtime.NumGoroutine")(hok:DF P fn.ntmps D pl c=true)(hrv:F6 P fn.results.toList rv=true)
  {args:Fq}(hn:args.length<=fn.ntmps){cs cs':List AR}(hcl:pl.yb=true)(hdst:pl.yd i=true)(h:TV.tg args->(∀c∈cs,c.t.WF)->pl.wp (AX P) ⟨bF rv cs cs' i us,fun _ _=>False,bF rv cs cs' i us⟩ ((i,.bx cs)::Cw 0 args)):AX P f args (.bo cs cs' i us):=by
 intro hw hwc;refine⟨by simp[Di,hf,hb,hname],fun F0 w vs v Z hrep hvi hbox hzu hzl hfree ht=>?_⟩;have hl:=A9 hrep;simp at hl;have hcalls:Calls P f vs w fun e w'=>((∀c∈cs',c.t.WF)/\TV.tg us)/\∃r Z',e=.returned r/\GI Z w w'/\NN w' (fun b o=>(b<w.heap.size/\F0 b o)\/ZF Z' b o) Z' cs' v/\
   Ir Z'/\(∀q i b lo,Z' q i=some (b,lo)->b<w'.heap.size/\(w.heap.size<=b\/∃p j lo',Z p j=some (b,lo')/\lo'<=lo))/\
   Pz w' (fun b o=>(b<w.heap.size/\F0 b o)\/ZF Z' b o) us r:=by
  refine calls_of_wp hf hb ?_;have fin:∀(O:AB)(a:Act)(w':World),bF rv cs cs' i us O->Km fn.ntmps (some (i,v)) a->Bg F0 (W0.mk w (ZF Z)) O a w'->a.defers=[]/\∃r,(results fn a.tmps).run P w'=.ok r w'/\(((∀c∈cs',c.t.WF)/\TV.tg us)/\∃r' Z',Ending.returned r=.returned r'/\GI Z w w'/\NN w' (fun b o=>(b<w.heap.size/\F0 b o)\/ZF Z' b o) Z' cs' v/\
    Ir Z'/\(∀q i b lo,Z' q i=some (b,lo)->b<w'.heap.size/\(w.heap.size<=b\/∃p j lo',Z p j=some (b,lo')/\lo'<=lo))/\
    Pz w' (fun b o=>(b<w.heap.size/\F0 b o)\/ZF Z' b o) us r'):=by
   rintro O a w' ⟨cs'',hwk,hs,hr⟩ hN ⟨G,hI⟩;have hag:BS w' w' (AW w.heap.size F0 G) (fun b o=>(b<w.heap.size/\F0 b o)\/ZF (Be a G i) b o):=by
    refine fun b o u hc hF=>⟨hc,?_⟩;rintro(h1|⟨q,j,lo,h1,h2⟩)
    .exact hF (.inl h1)
    .obtain⟨p,j',f1,_⟩:=B2 h1;exact hF (.inr ⟨p,j',lo,f1,h2⟩)
   have hisz:i<a.tmps.size:=BU hI hs (by simp);have hbx:=AZ hI hs (by simp);have hwb:=hI.wf i;rw[hs]at hwb;rw[hN.pin i v rfl]at hbx;simp only[AL]at hbx;obtain⟨b,c,T,k1,k2,k3,k4,k5⟩:=hbx;obtain⟨vs',e1,e2,e3⟩:=HQ (P:=P) hI hrv hr;have hm:=Fx e1;have hshape:(results fn a.tmps)=(fn.results.mapM (Fv a.tmps)>>=fun vs=>pure (if h:vs.size=1 then vs[0]else .tuple vs)):=by
    unfold results;congr 1
   have hlen:=A9 e2;have hres:∃r,(results fn a.tmps).run P w'=.ok r w'/\Pz w' (AW w.heap.size F0 G) us r:=by
    rw [hshape];by_cases h1:vs'.length=1
    .obtain⟨x,rfl⟩:=List.length_eq_one_iff.1 h1;rcases us with _|⟨t,_|⟨t',us⟩⟩
     .simp at hlen
     .simp only[AP]at e2;obtain⟨v',r',hv',e4,rfl⟩:=e2;simp at hv';subst hv';exact⟨x,by simp[hm],e4⟩
     .simp at hlen
    .refine⟨.tuple vs'.toArray,by simp[hm,h1],?_⟩;rcases us with _|⟨t,_|⟨t',us⟩⟩
     .exact⟨_,rfl,e2.toA⟩
     .grind
     .exact⟨_,rfl,e2.toA⟩
   obtain ⟨r,hr1,hr2⟩:=hres;refine⟨hI.defers,r,hr1,⟨hwk.wf hwb,e3⟩,r,Be a G i,rfl,?_,⟨b,c,T,k1,k2,k3.trans hwk.1,by rw[Cy];exact k4,fun j d hj=>?_⟩,JW hI hisz,fun q j b lo f1=>?_,?_⟩
   .exact⟨hI.below.os,hI.below.tape,hI.below.output,hI.below.size,fun k hk hz=>hI.below.block k hk (fun o⟨q,j,lo,f1,_⟩=>hz q j lo f1),fun b o u hz hu=>hI.below.cell b o u hz hu⟩
   .obtain⟨d',hd',hdd⟩:=hwk.2 j d hj;obtain⟨x,f1,f2⟩:=k5 j d' hd';refine⟨x,f1,Wk.cell hdd ?_⟩;rw[Cy];exact A8.x8 (f2.kept hag (fun _ _ _=>rfl) BA.rfl') fun g lo j' hz=>Oo hz j'
   .obtain⟨p,j',g1,_⟩:=B2 f1;obtain⟨f2,f3⟩:=hI.lt _ _ _ _ g1;refine⟨f2,f3.imp id (fun e=>?_)⟩;exact e lo (b6 _)
   .rcases us with _|⟨t,_|⟨t',us⟩⟩
    .obtain⟨vs2,f1,f2⟩:=hr2;exact⟨vs2,f1,Aj hag _ _ f2⟩
    .exact By hag _ _ hr2
    .obtain⟨vs2,f1,f2⟩:=hr2;exact⟨vs2,f1,Aj hag _ _ f2⟩
  refine NU (p:=some (i,v)) hD pl c hok (.inr hcl) (fun j u hp=>by cases hp;exact hdst) _ _ ?_ ?_ ?_ _ _ w ?_ (Bg.startB hrep hw hwc hvi hbox hzu hzl hfree ht) (h hw hwc)
  .exact fun O a w' h1 h2 h3=>fin O a w' h1 h2 h3
  .exact fun i O a w' h1 _ _=>h1.elim
  .exact fun O a w' h1 h2 h3=>fin O a w' h1 h2 h3
  .have hil:i<vs.size:=(Array.getElem?_eq_some_iff.1 hvi).1;refine⟨by simp;omega,fun j u hp=>?_⟩;cases hp;have:=Array.getElem?_eq_getElem hil;rw[this]at hvi;simp at hvi;simp[slot,Array.getD_eq_getD_getElem?,Array.getElem?_append,hil,hvi]
 refine ⟨?_,hcalls.mono fun e w' h=>h.2⟩;obtain⟨_,_,_,h1,_⟩:=hcalls [];exact h1.1
theorem gf(hD:Kl P fn.ntmps D)(hf:P.funcs[f]? =some fn)(hb:fn.body=some c)(hname:fn.name≠ "runtime.NumGoroutine")(hok:DF P fn.ntmps D pl c=true)(hrv:F6 P fn.results.toList rv=true)
  {args:Fq}(hn:args.length<=fn.ntmps){cs:List AR}(hcl:pl.yb=true)(hp:r.plain=true)(hlo:r.lone=false)(h:TV.tg args->(∀c∈cs,c.t.WF)->pl.wp (AX P) ⟨BE rv r,fun _ _=>False,BE rv r⟩ ((i,.yr cs)::Cw 0 args)):AX P f args (.ag cs i r):=by
 intro hw hwc;refine⟨by simp[Di,hf,hb,hname],fun F0 w vs v Z hrep hvi hbox hzu hzl hfree ht=>?_⟩;have hl:=A9 hrep;simp at hl;have hcalls:Calls P f vs w fun e w'=>r.WF/\∃v',e=.returned v'/\GI Z w w'/\Y7 w' (fun b o=>b<w.heap.size/\F0 b o) (fun b lo=>w.heap.size<=b\/∃p j lo',Z p j=some (b,lo')/\lo'<=lo) r v':=by
  refine calls_of_wp hf hb ?_;have fin:∀(O:AB)(a:Act)(w':World),BE rv r O->Km fn.ntmps none a->Bg F0 (W0.mk w (ZF Z)) O a w'->a.defers=[]/\∃v,(results fn a.tmps).run P w'=.ok v w'/\(r.WF/\∃v',Ending.returned v=.returned v'/\GI Z w w'/\Y7 w' (fun b o=>b<w.heap.size/\F0 b o) (fun b lo=>w.heap.size<=b\/∃p j lo',Z p j=some (b,lo')/\lo'<=lo) r v'):=by
   intro O a w' hr hN ⟨G,hI⟩;obtain⟨v,e1,_,e2,e3⟩:=VO (P:=P) hI hrv (.inr hlo) hp hr;refine⟨hI.defers,v,e1,e3,v,rfl,⟨hI.below.os,hI.below.tape,hI.below.output,hI.below.size,fun k hk hz=>hI.below.block k hk (fun o⟨q,j,lo,f1,_⟩=>hz q j lo f1),fun b o u hz hu=>hI.below.cell b o u hz hu⟩,?_⟩;have hN:∀b lo,(w.heap.size<=b\/∀o,lo<=o->ZF Z b o)->w.heap.size<=b\/∃p j lo',Z p j=some (b,lo')/\lo'<=lo:=fun b lo h=>h.imp id fun e=>e lo (b6 _);have e4:=e2 hlo;cases r with
   |sh t=>exact e4|tp ts=>exact e4|yr ds=>
    obtain ⟨Z',f1,f2,f3,f4⟩:=e4;exact⟨Z',f1,f2,f3,fun q i b lo hz=>⟨(f4 q i b lo hz).1,hN _ _ (f4 q i b lo hz).2⟩⟩
   |_=>first|(exact Bool.noConfusion hp)|(exact Bool.noConfusion hlo)
  refine NU (p:=none) hD pl c hok (.inr hcl) (by simp) _ _ ?_ ?_ ?_ _ _ w ?_ (Bg.startA hrep hw hwc hvi hbox hzu hzl hfree ht) (h hw hwc)
  .exact fun O a w' h1 h2 h3=>fin O a w' h1 h2 h3
  .exact fun i O a w' h1 _ _=>h1.elim
  .exact fun O a w' h1 h2 h3=>fin O a w' h1 h2 h3
  .exact⟨by simp;omega,by simp⟩
 refine ⟨?_,hcalls.mono fun e w' h=>h.2⟩;obtain⟨_,_,_,h1,_⟩:=hcalls [];exact h1.1
theorem gi(hD:Kl P fn.ntmps D)(hf:P.funcs[f]? =some fn)(hb:fn.body=some c)(hname:fn.name≠ "runtime.NumGoroutine")(hok:DF P fn.ntmps D pl c=true)(hrv:F6 P fn.results.toList rv=true)
  {args:Fq}(hn:args.length<=fn.ntmps){kvs:BM}(h:TV.tg args->pl.wp (AX P) ⟨BE rv (.mpr kvs ts),fun _ _=>False,BE rv (.mpr kvs ts)⟩ (Cw 0 args)):AX P f args (.mpr kvs ts):=by
 intro hw;refine⟨by simp[Di,hf,hb,hname],fun F0 w vs hrep ht=>?_⟩;have hl:=A9 hrep;simp at hl;have hcalls:Calls P f vs w fun e w'=>(∃v,e=.returned v/\Below w.heap.size w w'/\Hx w' (fun b o=>b<w.heap.size/\F0 b o) w.heap.size (.mpr kvs ts) v)/\(Al.mpr kvs ts).WF:=by
  refine calls_of_wp hf hb ?_;have fin:∀(O:AB)(a:Act)(w':World),BE rv (.mpr kvs ts) O->Km fn.ntmps none a->Bg F0 (W0.mk w fun _ _=>False) O a w'->a.defers=[]/\∃v,(results fn a.tmps).run P w'=.ok v w'/\((∃v',Ending.returned v=.returned v'/\Below w.heap.size w w'/\Hx w' (fun b o=>b<w.heap.size/\F0 b o) w.heap.size (.mpr kvs ts) v')/\(Al.mpr kvs ts).WF):=by
   intro O a w' hr hN ⟨G,hI⟩;rcases rv with _|⟨⟨s⟩|⟨s,_⟩,rs⟩
   .exact hr.elim
   .obtain⟨hne,⟨b,o,h1,h2⟩,h3⟩:=hr;have hg:Dz O (.tmp s::rs)=some (.zE b::ts):=by simp[Dz,RV.get,h1,EV.val,h3]
    obtain ⟨us,e1,e2,e3⟩:=HQ (P:=P) hI hrv hg;have hm:=Fx e1;have hshape:(results fn a.tmps)=(fn.results.mapM (Fv a.tmps)>>=fun vs=>pure (if h:vs.size=1 then vs[0]else .tuple vs)):=by
     unfold results;congr 1
    simp [AP]at e2;obtain⟨v0,us',rfl,e4,e5⟩:=e2;simp[Af]at e4;subst e4;have hor:=AZ hI h2 (by simp);have how:=hI.wf o;rw[h2]at how;simp[AL]at hor;obtain⟨k1,k2,k3⟩:=hor;have hlt:=hI.lt _ _ _ _ k2;have hus:us'.length≠0:=by
     have h6:=A9 e5;have:ts.length=rs.length:=by
      have:∀(ys:List RV)(ts:Fq),Dz O ys=some ts->ts.length=ys.length:=by
       intro ys
       induction ys with
       |nil=>intro ts h;simp[Dz]at h;subst h;rfl|cons y ys ih=>
        grind [Dz,tn]
      exact this _ _ h3
     grind
    have hag:BS w' w' (AW w.heap.size F0 G) (fun b o=>b<w.heap.size/\F0 b o):=fun b o u hc hF=>⟨hc,fun hF'=>hF (.inl hF')⟩;refine⟨hI.defers,.tuple (Value.map (some b)::us').toArray,?_,⟨_,rfl,⟨hI.below.os,hI.below.tape,hI.below.output,hI.below.size,fun k hk=>hI.below.block k hk (fun _ h=>h)⟩,b,us',rfl,hlt.2.resolve_right (fun e=>e _ (b6 _)),hlt.1,k3,Aj hag _ _ e5⟩,how,e3.2⟩;rw[hshape];have:¬us'.length=0:=hus;simp[hm,this]
   .exact hr.elim
  refine NU (p:=none) hD pl c hok (.inl fun _ _ h=>h) (by simp) _ _ ?_ ?_ ?_ _ _ w ?_ (Bg.start hrep hw ht) (h hw)
  .exact fun O a w' h1 h2 h3=>fin O a w' h1 h2 h3
  .grind
  .exact fun O a w' h1 h2 h3=>fin O a w' h1 h2 h3
  .exact⟨by simp;omega,by simp⟩
 refine ⟨?_,hcalls.mono fun e w' h=>h.1⟩;obtain⟨_,_,_,h1,_⟩:=hcalls [];exact h1.2
end
end Go.Sf
