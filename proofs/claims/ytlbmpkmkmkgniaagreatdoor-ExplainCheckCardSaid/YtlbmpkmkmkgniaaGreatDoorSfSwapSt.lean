/- A store into a box that nobody points at, and an operation in front of it that does not read that box. -/
import Derived.Test.YtlbmpkmkmkgniaaGreatDoorSfSwap
set_option linter.all false
namespace Go.Sf
open Go.RowKit (Below)
def okPairSt (D:ci) (p q:PR):Bool:=
 match q.op,q.guard,q.dst with
 | .stb _ b v,none,none=>PR.movOk D p&&D.contains b&&I1 p.dst.toList (b::v.sl)&&I1 [b] (p.op.slots++p.gsl)&&I1 p.op.dem v.sl
 | .stx _ b s,none,none=>PR.movOk D p&&D.contains b&&I1 p.dst.toList (b::[s])&&I1 [b] (p.op.slots++p.gsl)&&I1 p.op.dem [s]&&I1 [s] p.op.slots&&D.contains s
 | _,_,_=>false
def NS (b:Nat) (cs:List A1) (q:Option (Nat × EV)) (O:AD):AD:=
 (b,.bx cs)::(match q with | some (s,t)=>(s,t)::O | none=>O)
theorem IW (b:Nat) (cs:List A1) (q:Option (Nat × EV)) (O:AD) (n:Nat):AD.get (NS b cs q O) n=if b=n then .bx cs else (match q with | some (s,t)=>if s=n then t else O.get n | none=>O.get n):=by
 cases q with
 | none=>rfl
 | some st=>rfl
theorem Is (b:Nat) (cs:List A1) (q:Option (Nat × EV)) (O:AD) (d:Nat) (h:∀ s e,q=some (s,e)->e.noR d=true):AD.noRef d (NS b cs q O)=AD.noRef d O:=by
 cases q with
 | none=>simp [NS,AD.noRef_cons,EV.noR,EV.ref]
 | some p=>
  obtain ⟨s,e⟩:=p;have a:=h s e rfl;simp only [NS,AD.noRef_cons,a,Bool.true_and];simp [EV.noR,EV.ref]
structure hO (S:FuncId->QQ->CS->Prop) (q:PR) (b:Nat) (v:AL) (O env1:AD) (cs cs':List A1) (o:Option (Nat × EV)):Prop where
 env1:env1=NS b cs' o O
 box:O.get b=.bx cs
 own:∀ s e,o=some (s,e)->v=.s s∧((∃ t,e=.tv t∧O.get s=.ow t)∨(e=.undef∧(∃ ds,O.get s=.oag ds)∧∃ n,q.op=.stx n b s))∧s≠b
 val:∀ cs,v.ev O≠.bx cs
 again:∀ env2,env2.noRef b=true->env2.get b=.bx cs->v.ev env2=v.ev O->∀ K2:AD->Prop,K2 (NS b cs' o env2)->q.wp S env2 K2
theorem iu {S:FuncId->QQ->CS->Prop} {q:PR} {O:AD} {K:AD->Prop} {n b:Nat} {v:AL} (a:q.op=.stb n b v∨∃ s,v=.s s∧q.op=.stx n b s) (g:q.guard=none) (i:q.dst=none) (h:q.wp S O K):∃ env1,K env1∧∃ cs cs' o,hO S q b v O env1 cs cs' o:=by
 rcases a with a | ⟨s,rfl,a⟩
 ·unfold PR.wp at h;rw [g,a,i] at h;simp only [AJ.wp] at h;split at h
  ·rename_i cs l;split at h
   ·rename_i t hv;cases v with
    | c t=>exact h.elim
    | s w=>
     simp only at h;simp only [AL.ev] at hv;refine ⟨_,h.2.2.2,cs,_,some (w,.tv t),rfl,l,?_,?_,fun e m j f p d=>?_⟩
     ·intro s' r k;simp only [zzY,Prod.mk.injEq] at k;obtain ⟨rfl,rfl⟩:=k;exact ⟨rfl,.inl ⟨t,rfl,hv⟩,h.1⟩
     ·intro cs; simp [AL.ev,hv]
     ·simp only [AL.ev] at f;unfold PR.wp;rw [g,a,i];simp only [AJ.wp,j,AL.ev,f,hv];exact ⟨h.1,h.2.1,h.2.2.1,d⟩
   ·rename_i t hv;refine ⟨_,h.2.2,cs,_,none,rfl,l,by simp,by simp [hv],fun e m j f p d=>?_⟩;unfold PR.wp;rw [g,a,i];simp only [AJ.wp,j,f,hv];exact ⟨h.1,h.2.1,d⟩
   ·exact h.elim
  ·exact h.elim
 ·unfold PR.wp at h;rw [g,a,i] at h;simp only [AJ.wp] at h;split at h
  ·rename_i cs u l hv;refine ⟨_,h.2.2.2,cs,_,some (s,.undef),rfl,l,?_,by simp [AL.ev,hv],fun e m j f p d=>?_⟩
   ·intro s' r k;simp only [zzY,Prod.mk.injEq] at k;obtain ⟨rfl,rfl⟩:=k;exact ⟨rfl,.inr ⟨rfl,⟨u,hv⟩,n,a⟩,h.1⟩
   ·simp only [AL.ev] at f;unfold PR.wp;rw [g,a,i];simp only [AJ.wp,j,f,hv];exact ⟨h.1,⟨h.2.1.1,by rw [AD.noX_ref m,Bool.or_true]⟩,h.2.2.1,d⟩
  ·exact h.elim
section
variable {P:Program} {F0:Nat->Nat->Prop} {w0:W0} {N:Nat} {ops:Array Oper} {K:AD->Prop} {D:ci}
theorem gz {O:AD} (hR:Mn F0 w0 N O) (hj:JD D O) {op:Oper} {p q:PR} (hp:Ng P N ops op p=true) (a:okPairSt D p q=true) {rs:List PR} (h:KL (AT P) K (p::q::rs) O):KL (AT P) K (q::p::rs) O:=by
 have key:∃ n b v,(q.op=.stb n b v∨∃ s,v=.s s∧q.op=.stx n b s)∧q.guard=none∧q.dst=none∧(((((PR.movOk D p=true∧D.contains b=true)∧I1 p.dst.toList (b::v.sl)=true)∧I1 [b] (p.op.slots++p.gsl)=true)∧I1 p.op.dem v.sl=true)∧(∀ n s,q.op=.stx n b s->I1 [s] p.op.slots=true∧D.contains s=true)):=by
  unfold okPairSt at a;split at a
  ·rename_i n b v u G V;simp only [zzZ] at a;exact ⟨n,b,v,.inl u,G,V,a,fun n s h=>by rw [u] at h; cases h⟩
  ·rename_i n b s u G V;simp only [zzZ] at a;refine ⟨n,b,.s s,.inr ⟨s,rfl,u⟩,G,V,a.1.1,fun n' s' h=>?_⟩;rw [u] at h;simp only [AJ.stx.injEq] at h;obtain ⟨_,_,rfl⟩:=h;exact ⟨a.1.2,a.2⟩
  ·cases a
 clear a;obtain ⟨n,b,v,u,G,V,a,hstx⟩:=key
 ·simp only [PR.movOk,zzZ,Bool.or_eq_true,Bool.not_eq_true'] at a;obtain ⟨⟨⟨⟨⟨⟨⟨⟨pm,pd⟩,pg⟩,pb⟩,pD⟩,W⟩,c1⟩,c2⟩,c3⟩:=a;obtain ⟨F,hdp⟩:=Option.isSome_iff_exists.1 pd;rw [hdp] at c1;simp only [Option.toList_some] at c1;have W:b∈D:=by simpa using W
  have hpb:F≠b:=fun e=>DM c1 (x:=F) (by simp) (by simp [e]);have pnv:F ∉ v.sl:=fun e=>DM c1 (x:=F) (by simp) (by simp [e]);have w:b ∉ p.op.slots:=fun e=>DM c2 (x:=b) (by simp) (IT e);have bng:b ∉ p.gsl:=fun e=>DM c2 (x:=b) (by simp) (H7 e);have dv:∀ s,s∈p.op.dem->s∈v.sl->False:=fun s j f=>DM c3 j f;have pg':p.op.isNew=true->p.guard=none:=fun hn=>by
   rcases pg with h | h
   ·rw [hn] at h; cases h
   ·simpa using h
  obtain ⟨l,R,h⟩:=h;have hR':=hR.congr R.symm;have y:=hj.congr R.symm;obtain ⟨env1,⟨⟨e1,I,hw⟩,ep,S,Fp⟩,hR1⟩:=LF hR' hp (P6 hdp pm pg' h);have hj1:=Fp.jd pb y;have X:∀ n,e1.get n=if F=n then ep else S.on n (l.get n):=fun n=>by
   rw [I.1,Fp.env1,AD.get_cons,CC.get]
  have Q:∀ e,S.on b e=e:=by
   intro e;have:=Fp.slot;have f:=Fp.cell;cases S with
   | none=>rfl
   | slot s t=>
    simp only [CC.on];rw [d2];intro he; subst he;exact w (F4 (this _ _ rfl))
   | cell s T t=>
    simp only [CC.on];rw [d2];intro he; subst he;rcases f _ _ _ rfl with z | ⟨x,_,E⟩
    ·exact w z
    ·exact y.no E W
  have gb:e1.get b=l.get b:=by rw [X,d2 hpb,Q]
  obtain ⟨X1,hK,cs,cs',o,Fs⟩:=iu u G V hw;have hbox:l.get b=.bx cs:=by rw [←gb]; exact Fs.box
  have hv:v.ev l=v.ev e1:=by
   cases v with
   | c t=>rfl
   | s m=>
    have hm:F≠m:=fun e=>pnv (by simp [AL.sl,e]);simp only [AL.ev];have k:=Fs.val;simp only [AL.ev] at k;rw [X,d2 hm] at k ⊢;have j:=Fp.slot;have f:=Fp.ok;cases S with
    | none=>rfl
    | slot s t=>
     simp only [CC.on];rw [d2 (fun (e:s=m)=>dv s (j _ _ rfl) (by simp [AL.sl,e]))]
    | cell s T t=>
     simp only [CC.on] at k ⊢;split
     ·rename_i e;subst e;obtain ⟨A,z,_⟩:=f;rw [d1 rfl,z] at k;exact absurd rfl (k _)
     ·rfl
  have i:∀ s e,o=some (s,e)->((∃ t,e=.tv t∧l.get s=.ow t)∨(e=.undef∧∃ A,l.get s=.oag A))∧s≠b∧s∈v.sl∧s≠F:=by
   intro s t ho;obtain ⟨j,f,z⟩:=Fs.own s t ho;subst j;simp only [AL.ev] at hv;refine ⟨?_,z,by simp [AL.sl],fun e=>pnv (by simp [AL.sl,e])⟩;rw [hv];rcases f with f | ⟨f,E,_⟩
   ·exact .inl f
   ·exact .inr ⟨f,E⟩
  have B:∀ s,o=some (s,.undef)->s ∉ p.op.slots∧s∈D:=by
   intro s ho;obtain ⟨_,f,_⟩:=Fs.own s _ ho;rcases f with ⟨t,f,_⟩ | ⟨_,_,n',E⟩
   ·cases f
   ·obtain ⟨Y,Z⟩:=hstx n' s E;exact ⟨fun e=>DM Y (by simp) e,by simpa using Z⟩
  have C:∀ d s e,o=some (s,e)->e.noR d=true:=by
   intro d s e ho;rcases (i s e ho).1 with ⟨t,rfl,_⟩ | ⟨rfl,_⟩ <;> rfl
  have H:∀ s e,o=some (s,e)->∀ A,l.get s≠.bx A:=by
   intro s e ho A h;rcases (i s e ho).1 with ⟨t,_,f⟩ | ⟨_,ds',f⟩ <;> rw [f] at h <;> cases h
  have g2:∀ n,b≠n->(∀ s t,o=some (s,t)->s≠n)->AD.get (NS b cs' o l) n=l.get n:=by
   intro n j f;rw [IW,d2 j];cases o with
   | none=>rfl
   | some st=>
    obtain ⟨s,t⟩:=st;simp only;rw [d2 (f s t rfl)]
  have lk:∀ n,b≠n->o≠some (n,.undef)->(l.get n).like (AD.get (NS b cs' o l) n):=by
   intro n j h0;rw [IW,d2 j];cases o with
   | none=>exact .inl rfl
   | some st=>
    obtain ⟨s,t⟩:=st;simp only;split
    ·rename_i e;subst e;rcases (i s t rfl).1 with ⟨t,rfl,z⟩ | ⟨rfl,_⟩
     ·obtain ⟨m,es,rfl⟩:=hR'.list z;exact .inr (.inl ⟨m,es,.inr ⟨z,rfl⟩⟩)
     ·exact absurd rfl h0
    ·exact .inl rfl
  have L:GU p.op S (some F) l (NS b cs' o l):=by
   refine ⟨fun s U=>lk s (fun e=>w (e ▸ U)) (fun e=>(B s e).1 U),fun s U r J=>lk r (fun e=>y.no J (e ▸ W)) (fun e=>y.no J (B r e).2),fun s U _=>g2 s (fun e=>w (e ▸ F4 U)) (fun s' t ho e=>dv s U (e ▸ (i s' t ho).2.2.1)),?_,fun hn d V M=>by rw [Is _ _ _ _ _ (C d)]; exact M⟩;have j:=Fp.slot;have f:=Fp.ok;have z:=Q;have E:=Fp.cell;cases S with
   | none=>trivial
   | slot s t=>
    simp only [CC.ok] at f ⊢;rw [g2 s (fun e=>w (e ▸ F4 (j _ _ rfl))) (fun s' t ho e=>dv s (j _ _ rfl) (e ▸ (i s' t ho).2.2.1))];exact f
   | cell s T t=>
    obtain ⟨A,Y,Z⟩:=f;refine ⟨A,?_,Z⟩;rw [g2 s (fun e=>?_) (fun s' t' ho e=>?_)]
    ·exact Y
    ·rcases E _ _ _ rfl with h7 | ⟨x,_,h8⟩
     ·exact w (e ▸ h7)
     ·exact y.no h8 (e ▸ W)
    ·exact H s' t' ho _ (e ▸ Y)
  have hgp:∀ g∈p.gsl,AD.get (NS b cs' o l) g=l.get g:=by
   intro g G;obtain ⟨bb,J,_,M,hno'⟩:=Qb h g G;refine g2 g (fun e=>bng (e ▸ G)) (fun s t ho e=>?_);rcases (i s t ho).1 with ⟨t,_,f⟩ | ⟨_,ds',f⟩
   ·rw [←e,f] at J; exact absurd J.symm (M _)
   ·rw [←e,f] at J; exact absurd J.symm (hno' _)
  refine ⟨l,R,Fs.again l (y _ W) hbox hv _ ⟨_,.refl _,Fp.again _ L hgp _ (OC hK ?_)⟩⟩;rw [Fs.env1];refine ⟨fun n=>?_,fun d=>?_⟩
  ·rw [AD.get_cons,CC.get,IW,IW];by_cases j:F=n
   ·subst j;rw [d2 (fun e=>hpb e.symm),d1 rfl];cases o with
    | none=>simp only; rw [X,d1 rfl]
    | some st=>
     obtain ⟨s,t⟩:=st;simp only;rw [d2 (i s t rfl).2.2.2,X,d1 rfl]
   ·rw [d2 j];by_cases f:b=n
    ·subst f;rw [d1 rfl,d1 rfl,Q]
    ·rw [d2 f,d2 f];cases o with
     | none=>simp only; rw [X,d2 j]
     | some st=>
      obtain ⟨s,t⟩:=st;simp only;by_cases z:s=n
      ·subst z;rw [d1 rfl,d1 rfl];have E:=Fp.slot;have Y:=Fp.ok;have Z:=(i s t rfl);have h6':=H s t rfl;have h6'':∀ A,t≠.bx A:=by
        intro A h;rcases Z.1 with ⟨t,rfl,_⟩ | ⟨rfl,_⟩ <;> cases h
       cases S with
       | none=>rfl
       | slot s' t'=>
        simp only [CC.on];rw [d2 (fun (e:s'=s)=>dv s' (E _ _ rfl) (by rw [e]; exact Z.2.2.1))]
       | cell s' T t'=>
        simp only [CC.on];split
        ·rename_i e;subst e;obtain ⟨A,h7,_⟩:=Y;exact absurd h7 (h6' _)
        ·rfl
      ·rw [d2 z,d2 z,X,d2 j]
  ·rw [Is _ _ _ _ _ (C d),I.2,Fp.env1,AD.noRef_cons,CC.noRef,AD.noRef_cons,CC.noRef,Is _ _ _ _ _ (C d)]
def okPairT (D:ci) (p q:PR):Bool:=
 match q.op,q.guard,q.dst with
 | .tkx s,none,some d=>PR.movOk D p&&D.contains s&&D.contains d&&I1 p.dst.toList [s,d]&&I1 [s,d] (p.op.slots++p.gsl)
 | _,_,_=>false
theorem Yn {S:FuncId->QQ->CS->Prop} {q:PR} {O:AD} {K:AD->Prop} {s d:Nat} (b:q.op=.tkx s) (c:q.guard=none) (e:q.dst=some d) (h:q.wp S O K):∃ n es,O.get s=.xo n es∧O.noRef d=true∧d≠s∧K ((d,.xo n es)::(s,.undef)::O):=by
 simp only [PR.wp,b,c,e,AJ.wp,AD.put] at h;split at h
 ·rename_i g n es a f;simp only [zzY] at a;subst a;exact ⟨n,es,f,h.1,h.2.1,h.2.2⟩
 ·exact h.elim
theorem Yo {S:FuncId->QQ->CS->Prop} {q:PR} {O:AD} {K:AD->Prop} {s d n:Nat} {es:QQ} (a:q.op=.tkx s) (b:q.guard=none) (c:q.dst=some d) (e:O.get s=.xo n es) (f:O.noRef d=true) (g:d≠s) (h:K ((d,.xo n es)::(s,.undef)::O)):q.wp S O K:=by
 simp only [PR.wp,a,b,c,AJ.wp,AD.put,e];exact ⟨f,g,h⟩
theorem kQ {O:AD} (hR:Mn F0 w0 N O) (hj:JD D O) {op:Oper} {p q:PR} (hp:Ng P N ops op p=true) (a:okPairT D p q=true) {rs:List PR} (h:KL (AT P) K (p::q::rs) O):KL (AT P) K (q::p::rs) O:=by
 unfold okPairT at a;split at a
 ·rename_i s d F hg hd;simp only [PR.movOk,zzZ,Bool.or_eq_true,Bool.not_eq_true'] at a;obtain ⟨⟨⟨⟨⟨⟨⟨⟨pm,pd⟩,pg⟩,pb⟩,pD⟩,A⟩,H⟩,R⟩,S⟩:=a;obtain ⟨v,J⟩:=Option.isSome_iff_exists.1 pd;rw [J] at R;simp only [Option.toList_some] at R;have A:s∈D:=by simpa using A
  have H:d∈D:=by simpa using H
  have I:v≠s:=fun e=>DM R (x:=v) (by simp) (by simp [e]);have W:v≠d:=fun e=>DM R (x:=v) (by simp) (by simp [e]);have b:s ∉ p.op.slots:=fun e=>DM S (x:=s) (by simp) (IT e);have i:d ∉ p.op.slots:=fun e=>DM S (x:=d) (by simp) (IT e);have X:s ∉ p.gsl:=fun e=>DM S (x:=s) (by simp) (H7 e);have Y:d ∉ p.gsl:=fun e=>DM S (x:=d) (by simp) (H7 e);have Z:p.op.isNew=true->p.guard=none:=fun hn=>by
   rcases pg with h | h
   ·rw [hn] at h; cases h
   ·simpa using h
  obtain ⟨l,w,h⟩:=h;have hR':=hR.congr w.symm;have j:=hj.congr w.symm;obtain ⟨env1,⟨⟨e1,k,hw⟩,ep,M,Fp⟩,hR1⟩:=LF hR' hp (P6 J pm Z h);have g1:∀ n,e1.get n=if v=n then ep else M.on n (l.get n):=fun n=>by
   rw [k.1,Fp.env1,AD.get_cons,CC.get]
  have u:∀ x,x∈D->x ∉ p.op.slots->∀ e,M.on x e=e:=by
   intro x U G e;have:=Fp.slot;have f:=Fp.cell;cases M with
   | none=>rfl
   | slot s t=>
    simp only [CC.on];rw [d2];intro V; subst V;exact G (F4 (this _ _ rfl))
   | cell s off t=>
    simp only [CC.on];rw [d2];intro V; subst V;rcases f _ _ _ rfl with C | ⟨y,_,Q⟩
    ·exact G C
    ·exact j.no Q U
  obtain ⟨n,es,k1,k2,k3,hK⟩:=Yn F hg hd hw;rw [g1,d2 I,u s A b] at k1;rw [k.2,Fp.env1,AD.noRef_cons,CC.noRef,zzZ] at k2;have B:∀ m,m≠d->m≠s->AD.get ((d,.xo n es)::(s,.undef)::l) m=l.get m:=fun m o f=>by
   rw [AD.get_cons,d2 (fun e=>o e.symm),AD.get_cons,d2 (fun e=>f e.symm)]
  have nr:∀ c,AD.noRef c ((d,EV.xo n es)::(s,EV.undef)::l)=AD.noRef c l:=fun c=>by
   simp [AD.noRef_cons,EV.noR,EV.ref]
  have L:GU p.op M (some v) l ((d,.xo n es)::(s,.undef)::l):=by
   refine ⟨fun x z=>.inl (B x (fun e=>i (e ▸ z)) (fun e=>b (e ▸ z))),fun x z r hr=>.inl (B r (fun e=>j.no hr (e ▸ H)) (fun e=>j.no hr (e ▸ A))),fun x z _=>B x (fun e=>i (e ▸ F4 z)) (fun e=>b (e ▸ F4 z)),?_,fun hn d' hd' T=>by rw [nr]; exact T⟩;have o:=Fp.slot;have f:=Fp.ok;have Q:=Fp.cell;cases M with
   | none=>trivial
   | slot x t=>
    simp only [CC.ok] at f ⊢;rw [B x (fun e=>i (e ▸ F4 (o _ _ rfl))) (fun e=>b (e ▸ F4 (o _ _ rfl)))];exact f
   | cell x off t=>
    obtain ⟨ds,h5,h6⟩:=f;refine ⟨ds,?_,h6⟩;rw [B x (fun e=>?_) (fun e=>?_)]
    ·exact h5
    ·rcases Q _ _ _ rfl with h7 | ⟨y,_,h8⟩
     ·exact i (e ▸ h7)
     ·exact j.no h8 (e ▸ H)
    ·rcases Q _ _ _ rfl with h7 | ⟨y,_,h8⟩
     ·exact b (e ▸ h7)
     ·exact j.no h8 (e ▸ A)
  have hgp:∀ g∈p.gsl,AD.get ((d,.xo n es)::(s,.undef)::l) g=l.get g:=fun g E=>B g (fun e=>Y (e ▸ E)) (fun e=>X (e ▸ E));refine ⟨l,w,Yo F hg hd k1 k2.2 k3 ⟨_,.refl _,Fp.again _ L hgp _ (OC hK ?_)⟩⟩;refine ⟨fun m=>?_,fun c=>?_⟩
  ·simp only [AD.get_cons,CC.get,g1];by_cases o:d=m
   ·subst o;rw [d1 rfl,d2 W,u d H i,d1 rfl]
   ·rw [d2 o];by_cases f:s=m
    ·subst f;rw [d1 rfl,d2 I,u s A b,d2 o,d1 rfl]
    ·rw [d2 f];by_cases C:v=m
     ·rw [d1 C,d1 C]
     ·rw [d2 C,d2 C,d2 o,d2 f]
  ·simp only [AD.noRef_cons,CC.noRef,k.2,Fp.env1];have e1:EV.noR c (EV.xo n es)=true:=rfl;have e2:EV.noR c EV.undef=true:=rfl;rw [e1,e2];cases EV.noR c ep <;> rfl
 ·cases a
def jo:AJ->Bool
 | .xal _=>true
 | .bad _ _=>true
 | .fad _ _=>true
 | .ld _=>true
 | _=>false
def okPairX (D:ci) (p q:PR):Bool:=
 match q.op,q.guard,q.dst,p.guard,p.dst with
 | .xst x v,none,none,none,some d=>PR.movOk D p&&jo p.op&&!(x.sl.contains d)&&!(v.sl.contains d)
 | _,_,_,_,_=>false
theorem TT {O:AD} {q:Nat} {i:Option Nat} {n:Nat} {es es':QQ} (h:O.xat q i=some (n,es)):(∃ u,AD.get (O.xput q i n es') q=u∧((∃ m b,O.get q=.xo m b∧∃ f c,u=.xo f c)∨(∃ cs k,i=some k∧cs[k]?=some ⟨true,.xl n es⟩∧O.get q=.bx cs∧u=.bx (cs.set k ⟨true,.xl n es'⟩))))∧(∀ m,q≠m->AD.get (O.xput q i n es') m=O.get m)∧∀ d,AD.noRef d (O.xput q i n es')=O.noRef d:=by
 cases i with
 | none=>
  simp only [AD.xat] at h;split at h
  ·rename_i m b a;refine ⟨⟨_,rfl,.inl ⟨m,b,a,n,es',by simp [AD.xput,AD.get_cons]⟩⟩,fun m e=>by simp only [AD.xput,AD.get_cons]; rw [d2 e],fun d=>?_⟩;simp [AD.xput,AD.noRef_cons,EV.noR,EV.ref]
  ·cases h
 | some k=>
  simp only [AD.xat] at h;split at h
  ·rename_i cs a;split at h
   ·rename_i m b g;simp only [zzY,Prod.mk.injEq] at h;obtain ⟨rfl,rfl⟩:=h;refine ⟨⟨_,rfl,.inr ⟨cs,k,rfl,g,a,by simp [AD.xput,a,AD.get_cons]⟩⟩,fun m e=>by simp only [AD.xput,a,AD.get_cons]; rw [d2 e],fun d=>?_⟩;simp [AD.xput,a,AD.noRef_cons,EV.noR,EV.ref]
   ·cases h
  ·cases h
theorem fj (l:List A1) (a:Nat):IE ((l.drop a).map (·.t))=(l[a]?).map (·.t):=by
 rw [show l[a]?=(l.drop a)[0]? by rw [List.getElem?_drop,Nat.add_zero]];cases l.drop a <;> rfl
theorem dK {c:List A1} {k a n:Nat} {es es':QQ} {t:TV} (d:t.isXl=false) (f:c[k]?=some ⟨true,.xl n es⟩) (b:IE ((c.drop a).map (·.t))=some t):IE (((c.set k ⟨true,.xl n es'⟩).drop a).map (·.t))=some t:=by
 rw [fj] at b ⊢;by_cases e:k=a
 ·subst e;rw [f] at b;simp only [Option.map_some,zzY] at b;subst b;cases d
 ·rw [List.getElem?_set,d2 e]; exact b
theorem gR {S:FuncId->QQ->CS->Prop} {op:AJ} (ho:jo op=true) {O:AD} {dst:Option Nat} {K:EV->AD->Prop} (h:op.wp S O dst K) :
  ∃ e,K e O∧(∀ m C,e≠.xo m C)∧(∀ cs,e≠.bx cs)∧∀ (q n:Nat) (i:Option Nat) (es es':QQ),O.xat q i=some (n,es)->∀ z:EV->AD->Prop,z e (O.xput q i n es')->op.wp S (O.xput q i n es') dst z:=by
 have v:∀ {q n:Nat} {i:Option Nat} {es es':QQ},O.xat q i=some (n,es)->∀ m e,O.get m=e->(∀ k C,e≠.xo k C)->(∀ cs,e≠.bx cs)->AD.get (O.xput q i n es') m=e:=fun {q n i es es'} d m e f r I=>by
  obtain ⟨⟨u,H,b⟩,l,_⟩:=TT (es':=es') d;rw [l m (fun M=>by
   subst M;rcases b with ⟨_,_,g,_⟩ | ⟨_,_,_,_,g,_⟩
   ·exact r _ _ (f.symm.trans g)
   ·exact I _ (f.symm.trans g))]; exact f
 have w:∀ {q n:Nat} {i:Option Nat} {es es':QQ},O.xat q i=some (n,es)->∀ m cs,O.get m=.bx cs->∃ cs',AD.get (O.xput q i n es') m=.bx cs'∧∀ j t,t.isXl=false->IE ((cs.drop j).map (·.t))=some t->IE ((cs'.drop j).map (·.t))=some t:=fun {q n i es es'} d m cs f=>by
  obtain ⟨⟨u,H,b⟩,l,_⟩:=TT (es':=es') d;by_cases e:q=m
  ·subst e;rcases b with ⟨_,_,g,_⟩ | ⟨G,k,_,I,g,rfl⟩
   ·rw [f] at g; cases g
   ·rw [f] at g;cases g;exact ⟨_,H,fun j t E o=>dK E I o⟩
  ·exact ⟨cs,by rw [l m e,f],fun _ _ _ o=>o⟩
 have F:∀ {q n:Nat} {i:Option Nat} {es es':QQ},O.xat q i=some (n,es)->∀ (x:AL) e,x.ev O=e->(∀ m C,e≠.xo m C)->(∀ cs,e≠.bx cs)->x.ev (O.xput q i n es')=e:=by
  intro q n i es es' d x e L f r;cases x with
  | c t=>exact L
  | s y=>exact v d y e L f r
 cases op with
 | xal s=>
  simp only [AJ.wp] at h ⊢;split at h
  ·rename_i m C p;refine ⟨_,h,by simp,by simp,fun q n i es es' d z a=>?_⟩;obtain ⟨⟨u,H,b⟩,l,_⟩:=TT (es':=es') d;by_cases e:q=s
   ·subst e;rcases b with ⟨_,_,_,T,R,rfl⟩ | ⟨_,_,_,_,g,_⟩
    ·rw [H]; exact a
    ·rw [p] at g; cases g
   ·rw [l s e,p]; exact a
  ·exact h.elim
 | bad s k=>
  simp only [AJ.wp] at h ⊢;split at h
  ·rename_i cs p;refine ⟨_,h,by simp,by simp,fun q n i es es' d z a=>?_⟩;obtain ⟨cs',f,_⟩:=w (es':=es') d s cs p;rw [f]; exact a
  ·rename_i row p;exact ⟨_,h,by simp,by simp,fun q n i es es' d z a=>by rw [v d s _ p (by simp) (by simp)]; exact a⟩
  ·exact h.elim
 | fad x k=>
  simp only [AJ.wp] at h ⊢;split at h
  ·rename_i row A;exact ⟨_,h,by simp,by simp,fun q n i es es' d z a=>by rw [F d x _ A (by simp) (by simp)]; exact a⟩
  ·rename_i s j A;split at h
   ·rename_i cs p;refine ⟨_,h,by simp,by simp,fun q n i es es' d z a=>?_⟩;obtain ⟨cs',f,_⟩:=w (es':=es') d s cs p;rw [F d x _ A (by simp) (by simp)]; simp only; rw [f]; exact a
   ·exact h.elim
  ·exact h.elim
 | ld x=>
  simp only [AJ.wp] at h ⊢;cases b:BY O (x.ev O) with
  | none=>rw [b] at h; exact h.elim
  | some cs=>
   rw [b] at h;simp only [BA] at h;cases o:IE cs with
   | none=>rw [o] at h; exact h.elim
   | some t=>
    rw [o] at h;obtain ⟨E,h⟩:=h;refine ⟨_,h,by simp,by simp,fun q n i es es' d z a=>?_⟩;have Q:∃ cs',BY (O.xput q i n es') (x.ev (O.xput q i n es'))=some cs'∧IE cs'=some t:=by
     cases x with
     | c J=>exact ⟨cs,by rw [←b]; cases J <;> rfl,o⟩
     | s y=>
      simp only [AL.ev] at b ⊢;cases B:O.get y with
      | bp s j=>
       rw [v d y _ B (by simp) (by simp)];rw [B] at b;simp only [BY] at b ⊢;split at b
       ·rename_i G p;cases b;obtain ⟨cs',f,r⟩:=w (es':=es') d s G p;rw [f];exact ⟨_,rfl,r _ _ E o⟩
       ·cases b
      | tv J=>
       rw [v d y _ B (by simp) (by simp)];rw [B] at b;exact ⟨cs,by rw [←b]; cases J <;> rfl,o⟩
      | bx G=>
       rw [B] at b;simp only [BY,zzY] at b;subst b;obtain ⟨cs',f,r⟩:=w (es':=es') d y G B;rw [f];have:=r 0 t E (by simpa using o);exact ⟨_,rfl,by simpa using this⟩
      | _=>rw [B] at b; cases b
    obtain ⟨cs',f,r⟩:=Q;rw [f];simp only [BA,r];exact ⟨E,a⟩
 | _=>cases ho
theorem br {O f:AD} {d t n:Nat} {i:Option Nat} {e:EV} {es:QQ} (g:N2 f ((d,e)::O)) (b:d≠t):N2 (f.xput t i n es) ((d,e)::O.xput t i n es):=by
 have o:f.get t=O.get t:=by rw [g.1,AD.get_cons,d2 b]
 have a:∀ u:EV,(∀ c,EV.noR c u=true)->N2 ((t,u)::f) ((d,e)::(t,u)::O):=by
  intro u l;refine ⟨fun m=>?_,fun c=>?_⟩
  ·rw [AD.get_cons,g.1,AD.get_cons,AD.get_cons,AD.get_cons];by_cases j:t=m
   ·subst j; rw [d1 rfl,d2 b,d1 rfl]
   ·rw [d2 j];by_cases h:d=m
    ·rw [d1 h,d1 h]
    ·rw [d2 h,d2 h,d2 j]
  ·rw [AD.noRef_cons,g.2,AD.noRef_cons,AD.noRef_cons,AD.noRef_cons,l];cases EV.noR c e <;> rfl
 cases i with
 | none=>exact a _ fun c=>rfl
 | some k=>
  simp only [AD.xput,o];split
  ·exact a _ fun c=>rfl
  ·exact g
theorem kS {O:AD} {p q:PR} (a:okPairX D p q=true) {H:List PR} (h:KL (AT P) K (p::q::H) O):KL (AT P) K (q::p::H) O:=by
 unfold okPairX at a;split at a
 ·rename_i x v d z j Q I J;simp only [zzZ,Bool.not_eq_true',List.contains_eq_mem,decide_eq_false_iff_not] at a;obtain ⟨⟨⟨_,ho⟩,A⟩,B⟩:=a;obtain ⟨w,C,h⟩:=h;simp only [PR.wp,I,J,AD.put] at h;obtain ⟨e,⟨E,g,l⟩,F,G,r⟩:=gR ho h;have o:∀ (y:AL),d ∉ y.sl->y.ev E=y.ev w:=by
   intro y R;cases y with
   | c t=>rfl
   | s m=>
    simp only [AL.ev,g.1,AD.get_cons];rw [d2];intro e; exact R (by simp [AL.sl,e])
  refine ⟨w,C,?_⟩;simp only [PR.wp,j,Q,z,AJ.wp,o x A,o v B] at l ⊢;split at l
  ·rename_i t i c Y;split at l
   ·rename_i n es u b S;obtain ⟨T,U,es',V,W,X,M⟩:=l;have f:d≠t:=by
     intro f;have j:E.get t=e:=by rw [g.1,AD.get_cons,d1 f]
     cases i with
     | none=>
      simp only [AD.xat] at b;rw [j] at b;revert b F;cases e <;> simp
     | some k=>
      simp only [AD.xat] at b;rw [j] at b;revert b G;cases e <;> simp
    have L:w.xat t i=some (n,es):=by
     have j:E.get t=w.get t:=by rw [g.1,AD.get_cons,d2 f]
     rw [←b];exact AD.xat_of j.symm
    rw [L,S];refine ⟨T,U,es',V,W,X,_,.refl _,?_⟩;simp only [PR.wp,I,J,AD.put] at M ⊢;exact r t n i es es' L _ (OC M (br g f))
   ·exact l.elim
  ·exact l.elim
 ·cases a
end
end Go.Sf
