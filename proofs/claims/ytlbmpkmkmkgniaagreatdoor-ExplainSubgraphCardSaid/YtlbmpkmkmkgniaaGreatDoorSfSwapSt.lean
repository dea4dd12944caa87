/- A store into a box that nobody points at, and an operation in front of it that does not read that box. -/
import Derived.Test.YtlbmpkmkmkgniaaGreatDoorSfSwap
set_option linter.all false
namespace Go.Sf
open Go.RowKit (Below)
def okPairSt (D:ci) (p q:PR):Bool:=
 match q.op,q.guard,q.dst with
 | .stb _ b v,none,none=>PR.movOk D p&&D.contains b&&IT p.dst.toList (b::v.sl)&&IT [b] (p.op.slots++p.gsl)&&IT p.op.dem v.sl
 | .stx _ b s,none,none=>PR.movOk D p&&D.contains b&&IT p.dst.toList (b::[s])&&IT [b] (p.op.slots++p.gsl)&&IT p.op.dem [s]&&IT [s] p.op.slots&&D.contains s
 | _,_,_=>false
def MZ (b:Nat) (cs:List AV) (q:Option (Nat × EV)) (O:AC):AC:=
 (b,.bx cs)::(match q with | some (s,t)=>(s,t)::O | none=>O)
theorem H5 (b:Nat) (cs:List AV) (q:Option (Nat × EV)) (O:AC) (n:Nat):AC.get (MZ b cs q O) n=if b=n then .bx cs else (match q with | some (s,t)=>if s=n then t else O.get n | none=>O.get n):=by
 cases q with
 | none=>rfl
 | some st=>rfl
theorem IL (b:Nat) (cs:List AV) (q:Option (Nat × EV)) (O:AC) (d:Nat) (h:∀ s e,q=some (s,e)->e.noR d=true):AC.noRef d (MZ b cs q O)=AC.noRef d O:=by
 cases q with
 | none=>simp [MZ,AC.noRef_cons,EV.noR,EV.ref]
 | some p=>
  obtain ⟨s,e⟩:=p;have a:=h s e rfl;simp only [MZ,AC.noRef_cons,a,Bool.true_and];simp [EV.noR,EV.ref]
structure fL (S:FuncId->QQ->CM->Prop) (q:PR) (b:Nat) (v:AJ) (O env1:AC) (cs cs':List AV) (o:Option (Nat × EV)):Prop where
 env1:env1=MZ b cs' o O
 box:O.get b=.bx cs
 own:∀ s e,o=some (s,e)->v=.s s∧((∃ t,e=.tv t∧O.get s=.ow t)∨(e=.undef∧(∃ ds,O.get s=.oag ds)∧∃ n,q.op=.stx n b s))∧s≠b
 val:∀ cs,v.ev O≠.bx cs
 again:∀ env2,env2.noRef b=true->env2.get b=.bx cs->v.ev env2=v.ev O->∀ K2:AC->Prop,K2 (MZ b cs' o env2)->q.wp S env2 K2
theorem gE {S:FuncId->QQ->CM->Prop} {q:PR} {O:AC} {K:AC->Prop} {n b:Nat} {v:AJ} (a:q.op=.stb n b v∨∃ s,v=.s s∧q.op=.stx n b s) (g:q.guard=none) (i:q.dst=none) (h:q.wp S O K):∃ env1,K env1∧∃ cs cs' o,fL S q b v O env1 cs cs' o:=by
 rcases a with a | ⟨s,rfl,a⟩
 ·unfold PR.wp at h;rw [g,a,i] at h;simp only [AH.wp] at h;split at h
  ·rename_i cs l;split at h
   ·rename_i t hv;cases v with
    | c t=>exact h.elim
    | s w=>
     simp only at h;simp only [AJ.ev] at hv;refine ⟨_,h.2.2.2,cs,_,some (w,.tv t),rfl,l,?_,?_,fun e m j f p d=>?_⟩
     ·intro s' r k;simp only [zzY,Prod.mk.injEq] at k;obtain ⟨rfl,rfl⟩:=k;exact ⟨rfl,.inl ⟨t,rfl,hv⟩,h.1⟩
     ·intro cs; simp [AJ.ev,hv]
     ·simp only [AJ.ev] at f;unfold PR.wp;rw [g,a,i];simp only [AH.wp,j,AJ.ev,f,hv];exact ⟨h.1,h.2.1,h.2.2.1,d⟩
   ·rename_i t hv;refine ⟨_,h.2.2,cs,_,none,rfl,l,by simp,by simp [hv],fun e m j f p d=>?_⟩;unfold PR.wp;rw [g,a,i];simp only [AH.wp,j,f,hv];exact ⟨h.1,h.2.1,d⟩
   ·exact h.elim
  ·exact h.elim
 ·unfold PR.wp at h;rw [g,a,i] at h;simp only [AH.wp] at h;split at h
  ·rename_i cs u l hv;refine ⟨_,h.2.2.2,cs,_,some (s,.undef),rfl,l,?_,by simp [AJ.ev,hv],fun e m j f p d=>?_⟩
   ·intro s' r k;simp only [zzY,Prod.mk.injEq] at k;obtain ⟨rfl,rfl⟩:=k;exact ⟨rfl,.inr ⟨rfl,⟨u,hv⟩,n,a⟩,h.1⟩
   ·simp only [AJ.ev] at f;unfold PR.wp;rw [g,a,i];simp only [AH.wp,j,f,hv];exact ⟨h.1,⟨h.2.1.1,by rw [AC.noX_ref m,Bool.or_true]⟩,h.2.2.1,d⟩
  ·exact h.elim
section
variable {P:Program} {F0:Nat->Nat->Prop} {w0:W0} {N:Nat} {ops:Array Oper} {K:AC->Prop} {D:ci}
theorem fD {O:AC} (hR:L0 F0 w0 N O) (hj:JD D O) {op:Oper} {p q:PR} (hp:Mj P N ops op p=true) (a:okPairSt D p q=true) {rs:List PR} (h:Jl (AR P) K (p::q::rs) O):Jl (AR P) K (q::p::rs) O:=by
 have key:∃ n b v,(q.op=.stb n b v∨∃ s,v=.s s∧q.op=.stx n b s)∧q.guard=none∧q.dst=none∧(((((PR.movOk D p=true∧D.contains b=true)∧IT p.dst.toList (b::v.sl)=true)∧IT [b] (p.op.slots++p.gsl)=true)∧IT p.op.dem v.sl=true)∧(∀ n s,q.op=.stx n b s->IT [s] p.op.slots=true∧D.contains s=true)):=by
  unfold okPairSt at a;split at a
  ·rename_i n b v u G V;simp only [zzZ] at a;exact ⟨n,b,v,.inl u,G,V,a,fun n s h=>by rw [u] at h; cases h⟩
  ·rename_i n b s u G V;simp only [zzZ] at a;refine ⟨n,b,.s s,.inr ⟨s,rfl,u⟩,G,V,a.1.1,fun n' s' h=>?_⟩;rw [u] at h;simp only [AH.stx.injEq] at h;obtain ⟨_,_,rfl⟩:=h;exact ⟨a.1.2,a.2⟩
  ·cases a
 clear a;obtain ⟨n,b,v,u,G,V,a,hstx⟩:=key
 ·simp only [PR.movOk,zzZ,Bool.or_eq_true,Bool.not_eq_true'] at a;obtain ⟨⟨⟨⟨⟨⟨⟨⟨pm,pd⟩,pg⟩,pb⟩,pD⟩,W⟩,c1⟩,c2⟩,c3⟩:=a;obtain ⟨F,hdp⟩:=Option.isSome_iff_exists.1 pd;rw [hdp] at c1;simp only [Option.toList_some] at c1;have W:b∈D:=by simpa using W
  have hpb:F≠b:=fun e=>DK c1 (x:=F) (by simp) (by simp [e]);have pnv:F ∉ v.sl:=fun e=>DK c1 (x:=F) (by simp) (by simp [e]);have w:b ∉ p.op.slots:=fun e=>DK c2 (x:=b) (by simp) (H2 e);have bng:b ∉ p.gsl:=fun e=>DK c2 (x:=b) (by simp) (HQ e);have dv:∀ s,s∈p.op.dem->s∈v.sl->False:=fun s j f=>DK c3 j f;have pg':p.op.isNew=true->p.guard=none:=fun hn=>by
   rcases pg with h | h
   ·rw [hn] at h; cases h
   ·simpa using h
  obtain ⟨l,R,h⟩:=h;have hR':=hR.congr R.symm;have y:=hj.congr R.symm;obtain ⟨env1,⟨⟨e1,I,hw⟩,ep,S,Fp⟩,hR1⟩:=Kh hR' hp (Ov hdp pm pg' h);have hj1:=Fp.jd pb y;have X:∀ n,e1.get n=if F=n then ep else S.on n (l.get n):=fun n=>by
   rw [I.1,Fp.env1,AC.get_cons,B3.get]
  have Q:∀ e,S.on b e=e:=by
   intro e;have:=Fp.slot;have f:=Fp.cell;cases S with
   | none=>rfl
   | slot s t=>
    simp only [B3.on];rw [d2];intro he; subst he;exact w (FU (this _ _ rfl))
   | cell s T t=>
    simp only [B3.on];rw [d2];intro he; subst he;rcases f _ _ _ rfl with z | ⟨x,_,E⟩
    ·exact w z
    ·exact y.no E W
  have gb:e1.get b=l.get b:=by rw [X,d2 hpb,Q]
  obtain ⟨X1,hK,cs,cs',o,Fs⟩:=gE u G V hw;have hbox:l.get b=.bx cs:=by rw [←gb]; exact Fs.box
  have hv:v.ev l=v.ev e1:=by
   cases v with
   | c t=>rfl
   | s m=>
    have hm:F≠m:=fun e=>pnv (by simp [AJ.sl,e]);simp only [AJ.ev];have k:=Fs.val;simp only [AJ.ev] at k;rw [X,d2 hm] at k ⊢;have j:=Fp.slot;have f:=Fp.ok;cases S with
    | none=>rfl
    | slot s t=>
     simp only [B3.on];rw [d2 (fun (e:s=m)=>dv s (j _ _ rfl) (by simp [AJ.sl,e]))]
    | cell s T t=>
     simp only [B3.on] at k ⊢;split
     ·rename_i e;subst e;obtain ⟨A,z,_⟩:=f;rw [d1 rfl,z] at k;exact absurd rfl (k _)
     ·rfl
  have i:∀ s e,o=some (s,e)->((∃ t,e=.tv t∧l.get s=.ow t)∨(e=.undef∧∃ A,l.get s=.oag A))∧s≠b∧s∈v.sl∧s≠F:=by
   intro s t ho;obtain ⟨j,f,z⟩:=Fs.own s t ho;subst j;simp only [AJ.ev] at hv;refine ⟨?_,z,by simp [AJ.sl],fun e=>pnv (by simp [AJ.sl,e])⟩;rw [hv];rcases f with f | ⟨f,E,_⟩
   ·exact .inl f
   ·exact .inr ⟨f,E⟩
  have B:∀ s,o=some (s,.undef)->s ∉ p.op.slots∧s∈D:=by
   intro s ho;obtain ⟨_,f,_⟩:=Fs.own s _ ho;rcases f with ⟨t,f,_⟩ | ⟨_,_,n',E⟩
   ·cases f
   ·obtain ⟨Y,Z⟩:=hstx n' s E;exact ⟨fun e=>DK Y (by simp) e,by simpa using Z⟩
  have C:∀ d s e,o=some (s,e)->e.noR d=true:=by
   intro d s e ho;rcases (i s e ho).1 with ⟨t,rfl,_⟩ | ⟨rfl,_⟩ <;> rfl
  have H:∀ s e,o=some (s,e)->∀ A,l.get s≠.bx A:=by
   intro s e ho A h;rcases (i s e ho).1 with ⟨t,_,f⟩ | ⟨_,ds',f⟩ <;> rw [f] at h <;> cases h
  have g2:∀ n,b≠n->(∀ s t,o=some (s,t)->s≠n)->AC.get (MZ b cs' o l) n=l.get n:=by
   intro n j f;rw [H5,d2 j];cases o with
   | none=>rfl
   | some st=>
    obtain ⟨s,t⟩:=st;simp only;rw [d2 (f s t rfl)]
  have lk:∀ n,b≠n->o≠some (n,.undef)->(l.get n).like (AC.get (MZ b cs' o l) n):=by
   intro n j h0;rw [H5,d2 j];cases o with
   | none=>exact .inl rfl
   | some st=>
    obtain ⟨s,t⟩:=st;simp only;split
    ·rename_i e;subst e;rcases (i s t rfl).1 with ⟨t,rfl,z⟩ | ⟨rfl,_⟩
     ·obtain ⟨m,es,rfl⟩:=hR'.list z;exact .inr (.inl ⟨m,es,.inr ⟨z,rfl⟩⟩)
     ·exact absurd rfl h0
    ·exact .inl rfl
  have L:F8 p.op S (some F) l (MZ b cs' o l):=by
   refine ⟨fun s U=>lk s (fun e=>w (e ▸ U)) (fun e=>(B s e).1 U),fun s U r J=>lk r (fun e=>y.no J (e ▸ W)) (fun e=>y.no J (B r e).2),fun s U _=>g2 s (fun e=>w (e ▸ FU U)) (fun s' t ho e=>dv s U (e ▸ (i s' t ho).2.2.1)),?_,fun hn d V M=>by rw [IL _ _ _ _ _ (C d)]; exact M⟩;have j:=Fp.slot;have f:=Fp.ok;have z:=Q;have E:=Fp.cell;cases S with
   | none=>trivial
   | slot s t=>
    simp only [B3.ok] at f ⊢;rw [g2 s (fun e=>w (e ▸ FU (j _ _ rfl))) (fun s' t ho e=>dv s (j _ _ rfl) (e ▸ (i s' t ho).2.2.1))];exact f
   | cell s T t=>
    obtain ⟨A,Y,Z⟩:=f;refine ⟨A,?_,Z⟩;rw [g2 s (fun e=>?_) (fun s' t' ho e=>?_)]
    ·exact Y
    ·rcases E _ _ _ rfl with h7 | ⟨x,_,h8⟩
     ·exact w (e ▸ h7)
     ·exact y.no h8 (e ▸ W)
    ·exact H s' t' ho _ (e ▸ Y)
  have hgp:∀ g∈p.gsl,AC.get (MZ b cs' o l) g=l.get g:=by
   intro g G;obtain ⟨bb,J,_,M,hno'⟩:=PU h g G;refine g2 g (fun e=>bng (e ▸ G)) (fun s t ho e=>?_);rcases (i s t ho).1 with ⟨t,_,f⟩ | ⟨_,ds',f⟩
   ·rw [←e,f] at J; exact absurd J.symm (M _)
   ·rw [←e,f] at J; exact absurd J.symm (hno' _)
  refine ⟨l,R,Fs.again l (y _ W) hbox hv _ ⟨_,.refl _,Fp.again _ L hgp _ (ND hK ?_)⟩⟩;rw [Fs.env1];refine ⟨fun n=>?_,fun d=>?_⟩
  ·rw [AC.get_cons,B3.get,H5,H5];by_cases j:F=n
   ·subst j;rw [d2 (fun e=>hpb e.symm),d1 rfl];cases o with
    | none=>simp only; rw [X,d1 rfl]
    | some st=>
     obtain ⟨s,t⟩:=st;simp only;rw [d2 (i s t rfl).2.2.2,X,d1 rfl]
   ·rw [d2 j];by_cases f:b=n
    ·subst f;rw [d1 rfl,d1 rfl,Q]
    ·rw [d2 f,d2 f];cases o with
     | none=>simp only; rw [X,d2 j]
     | some st=>
      obtain ⟨s,t⟩:=st;simp only;by_cases z:s=n
      ·subst z;rw [d1 rfl,d1 rfl];have E:=Fp.slot;have Y:=Fp.ok;have Z:=(i s t rfl);have h6':=H s t rfl;have h6'':∀ A,t≠.bx A:=by
        intro A h;rcases Z.1 with ⟨t,rfl,_⟩ | ⟨rfl,_⟩ <;> cases h
       cases S with
       | none=>rfl
       | slot s' t'=>
        simp only [B3.on];rw [d2 (fun (e:s'=s)=>dv s' (E _ _ rfl) (by rw [e]; exact Z.2.2.1))]
       | cell s' T t'=>
        simp only [B3.on];split
        ·rename_i e;subst e;obtain ⟨A,h7,_⟩:=Y;exact absurd h7 (h6' _)
        ·rfl
      ·rw [d2 z,d2 z,X,d2 j]
  ·rw [IL _ _ _ _ _ (C d),I.2,Fp.env1,AC.noRef_cons,B3.noRef,AC.noRef_cons,B3.noRef,IL _ _ _ _ _ (C d)]
def okPairT (D:ci) (p q:PR):Bool:=
 match q.op,q.guard,q.dst with
 | .tkx s,none,some d=>PR.movOk D p&&D.contains s&&D.contains d&&IT p.dst.toList [s,d]&&IT [s,d] (p.op.slots++p.gsl)
 | _,_,_=>false
theorem XH {S:FuncId->QQ->CM->Prop} {q:PR} {O:AC} {K:AC->Prop} {s d:Nat} (b:q.op=.tkx s) (c:q.guard=none) (e:q.dst=some d) (h:q.wp S O K):∃ n es,O.get s=.xo n es∧O.noRef d=true∧d≠s∧K ((d,.xo n es)::(s,.undef)::O):=by
 simp only [PR.wp,b,c,e,AH.wp,AC.put] at h;split at h
 ·rename_i g n es a f;simp only [zzY] at a;subst a;exact ⟨n,es,f,h.1,h.2.1,h.2.2⟩
 ·exact h.elim
theorem XI {S:FuncId->QQ->CM->Prop} {q:PR} {O:AC} {K:AC->Prop} {s d n:Nat} {es:QQ} (a:q.op=.tkx s) (b:q.guard=none) (c:q.dst=some d) (e:O.get s=.xo n es) (f:O.noRef d=true) (g:d≠s) (h:K ((d,.xo n es)::(s,.undef)::O)):q.wp S O K:=by
 simp only [PR.wp,a,b,c,AH.wp,AC.put,e];exact ⟨f,g,h⟩
theorem ij {O:AC} (hR:L0 F0 w0 N O) (hj:JD D O) {op:Oper} {p q:PR} (hp:Mj P N ops op p=true) (a:okPairT D p q=true) {rs:List PR} (h:Jl (AR P) K (p::q::rs) O):Jl (AR P) K (q::p::rs) O:=by
 unfold okPairT at a;split at a
 ·rename_i s d F hg hd;simp only [PR.movOk,zzZ,Bool.or_eq_true,Bool.not_eq_true'] at a;obtain ⟨⟨⟨⟨⟨⟨⟨⟨pm,pd⟩,pg⟩,pb⟩,pD⟩,A⟩,H⟩,R⟩,S⟩:=a;obtain ⟨v,J⟩:=Option.isSome_iff_exists.1 pd;rw [J] at R;simp only [Option.toList_some] at R;have A:s∈D:=by simpa using A
  have H:d∈D:=by simpa using H
  have I:v≠s:=fun e=>DK R (x:=v) (by simp) (by simp [e]);have W:v≠d:=fun e=>DK R (x:=v) (by simp) (by simp [e]);have b:s ∉ p.op.slots:=fun e=>DK S (x:=s) (by simp) (H2 e);have i:d ∉ p.op.slots:=fun e=>DK S (x:=d) (by simp) (H2 e);have X:s ∉ p.gsl:=fun e=>DK S (x:=s) (by simp) (HQ e);have Y:d ∉ p.gsl:=fun e=>DK S (x:=d) (by simp) (HQ e);have Z:p.op.isNew=true->p.guard=none:=fun hn=>by
   rcases pg with h | h
   ·rw [hn] at h; cases h
   ·simpa using h
  obtain ⟨l,w,h⟩:=h;have hR':=hR.congr w.symm;have j:=hj.congr w.symm;obtain ⟨env1,⟨⟨e1,k,hw⟩,ep,M,Fp⟩,hR1⟩:=Kh hR' hp (Ov J pm Z h);have g1:∀ n,e1.get n=if v=n then ep else M.on n (l.get n):=fun n=>by
   rw [k.1,Fp.env1,AC.get_cons,B3.get]
  have u:∀ x,x∈D->x ∉ p.op.slots->∀ e,M.on x e=e:=by
   intro x U G e;have:=Fp.slot;have f:=Fp.cell;cases M with
   | none=>rfl
   | slot s t=>
    simp only [B3.on];rw [d2];intro V; subst V;exact G (FU (this _ _ rfl))
   | cell s off t=>
    simp only [B3.on];rw [d2];intro V; subst V;rcases f _ _ _ rfl with C | ⟨y,_,Q⟩
    ·exact G C
    ·exact j.no Q U
  obtain ⟨n,es,k1,k2,k3,hK⟩:=XH F hg hd hw;rw [g1,d2 I,u s A b] at k1;rw [k.2,Fp.env1,AC.noRef_cons,B3.noRef,zzZ] at k2;have B:∀ m,m≠d->m≠s->AC.get ((d,.xo n es)::(s,.undef)::l) m=l.get m:=fun m o f=>by
   rw [AC.get_cons,d2 (fun e=>o e.symm),AC.get_cons,d2 (fun e=>f e.symm)]
  have nr:∀ c,AC.noRef c ((d,EV.xo n es)::(s,EV.undef)::l)=AC.noRef c l:=fun c=>by
   simp [AC.noRef_cons,EV.noR,EV.ref]
  have L:F8 p.op M (some v) l ((d,.xo n es)::(s,.undef)::l):=by
   refine ⟨fun x z=>.inl (B x (fun e=>i (e ▸ z)) (fun e=>b (e ▸ z))),fun x z r hr=>.inl (B r (fun e=>j.no hr (e ▸ H)) (fun e=>j.no hr (e ▸ A))),fun x z _=>B x (fun e=>i (e ▸ FU z)) (fun e=>b (e ▸ FU z)),?_,fun hn d' hd' T=>by rw [nr]; exact T⟩;have o:=Fp.slot;have f:=Fp.ok;have Q:=Fp.cell;cases M with
   | none=>trivial
   | slot x t=>
    simp only [B3.ok] at f ⊢;rw [B x (fun e=>i (e ▸ FU (o _ _ rfl))) (fun e=>b (e ▸ FU (o _ _ rfl)))];exact f
   | cell x off t=>
    obtain ⟨ds,h5,h6⟩:=f;refine ⟨ds,?_,h6⟩;rw [B x (fun e=>?_) (fun e=>?_)]
    ·exact h5
    ·rcases Q _ _ _ rfl with h7 | ⟨y,_,h8⟩
     ·exact i (e ▸ h7)
     ·exact j.no h8 (e ▸ H)
    ·rcases Q _ _ _ rfl with h7 | ⟨y,_,h8⟩
     ·exact b (e ▸ h7)
     ·exact j.no h8 (e ▸ A)
  have hgp:∀ g∈p.gsl,AC.get ((d,.xo n es)::(s,.undef)::l) g=l.get g:=fun g E=>B g (fun e=>Y (e ▸ E)) (fun e=>X (e ▸ E));refine ⟨l,w,XI F hg hd k1 k2.2 k3 ⟨_,.refl _,Fp.again _ L hgp _ (ND hK ?_)⟩⟩;refine ⟨fun m=>?_,fun c=>?_⟩
  ·simp only [AC.get_cons,B3.get,g1];by_cases o:d=m
   ·subst o;rw [d1 rfl,d2 W,u d H i,d1 rfl]
   ·rw [d2 o];by_cases f:s=m
    ·subst f;rw [d1 rfl,d2 I,u s A b,d2 o,d1 rfl]
    ·rw [d2 f];by_cases C:v=m
     ·rw [d1 C,d1 C]
     ·rw [d2 C,d2 C,d2 o,d2 f]
  ·simp only [AC.noRef_cons,B3.noRef,k.2,Fp.env1];have e1:EV.noR c (EV.xo n es)=true:=rfl;have e2:EV.noR c EV.undef=true:=rfl;rw [e1,e2];cases EV.noR c ep <;> rfl
 ·cases a
def hO:AH->Bool
 | .xal _=>true
 | .bad _ _=>true
 | .fad _ _=>true
 | .ld _=>true
 | _=>false
def okPairX (D:ci) (p q:PR):Bool:=
 match q.op,q.guard,q.dst,p.guard,p.dst with
 | .xst x v,none,none,none,some d=>PR.movOk D p&&hO p.op&&!(x.sl.contains d)&&!(v.sl.contains d)
 | _,_,_,_,_=>false
theorem R1 {O:AC} {q:Nat} {i:Option Nat} {n:Nat} {es es':QQ} (h:O.xat q i=some (n,es)):(∃ u,AC.get (O.xput q i n es') q=u∧((∃ m b,O.get q=.xo m b∧∃ f c,u=.xo f c)∨(∃ cs k,i=some k∧cs[k]?=some ⟨true,.xl n es⟩∧O.get q=.bx cs∧u=.bx (cs.set k ⟨true,.xl n es'⟩))))∧(∀ m,q≠m->AC.get (O.xput q i n es') m=O.get m)∧∀ d,AC.noRef d (O.xput q i n es')=O.noRef d:=by
 cases i with
 | none=>
  simp only [AC.xat] at h;split at h
  ·rename_i m b a;refine ⟨⟨_,rfl,.inl ⟨m,b,a,n,es',by simp [AC.xput,AC.get_cons]⟩⟩,fun m e=>by simp only [AC.xput,AC.get_cons]; rw [d2 e],fun d=>?_⟩;simp [AC.xput,AC.noRef_cons,EV.noR,EV.ref]
  ·cases h
 | some k=>
  simp only [AC.xat] at h;split at h
  ·rename_i cs a;split at h
   ·rename_i m b g;simp only [zzY,Prod.mk.injEq] at h;obtain ⟨rfl,rfl⟩:=h;refine ⟨⟨_,rfl,.inr ⟨cs,k,rfl,g,a,by simp [AC.xput,a,AC.get_cons]⟩⟩,fun m e=>by simp only [AC.xput,a,AC.get_cons]; rw [d2 e],fun d=>?_⟩;simp [AC.xput,a,AC.noRef_cons,EV.noR,EV.ref]
   ·cases h
  ·cases h
theorem dm (l:List AV) (a:Nat):Hp ((l.drop a).map (·.t))=(l[a]?).map (·.t):=by
 rw [show l[a]?=(l.drop a)[0]? by rw [List.getElem?_drop,Nat.add_zero]];cases l.drop a <;> rfl
theorem bO {c:List AV} {k a n:Nat} {es es':QQ} {t:TV} (d:t.isXl=false) (f:c[k]?=some ⟨true,.xl n es⟩) (b:Hp ((c.drop a).map (·.t))=some t):Hp (((c.set k ⟨true,.xl n es'⟩).drop a).map (·.t))=some t:=by
 rw [dm] at b ⊢;by_cases e:k=a
 ·subst e;rw [f] at b;simp only [Option.map_some,zzY] at b;subst b;cases d
 ·rw [List.getElem?_set,d2 e]; exact b
theorem eW {S:FuncId->QQ->CM->Prop} {op:AH} (ho:hO op=true) {O:AC} {dst:Option Nat} {K:EV->AC->Prop} (h:op.wp S O dst K) :
  ∃ e,K e O∧(∀ m C,e≠.xo m C)∧(∀ cs,e≠.bx cs)∧∀ (q n:Nat) (i:Option Nat) (es es':QQ),O.xat q i=some (n,es)->∀ z:EV->AC->Prop,z e (O.xput q i n es')->op.wp S (O.xput q i n es') dst z:=by
 have v:∀ {q n:Nat} {i:Option Nat} {es es':QQ},O.xat q i=some (n,es)->∀ m e,O.get m=e->(∀ k C,e≠.xo k C)->(∀ cs,e≠.bx cs)->AC.get (O.xput q i n es') m=e:=fun {q n i es es'} d m e f r I=>by
  obtain ⟨⟨u,H,b⟩,l,_⟩:=R1 (es':=es') d;rw [l m (fun M=>by
   subst M;rcases b with ⟨_,_,g,_⟩ | ⟨_,_,_,_,g,_⟩
   ·exact r _ _ (f.symm.trans g)
   ·exact I _ (f.symm.trans g))]; exact f
 have w:∀ {q n:Nat} {i:Option Nat} {es es':QQ},O.xat q i=some (n,es)->∀ m cs,O.get m=.bx cs->∃ cs',AC.get (O.xput q i n es') m=.bx cs'∧∀ j t,t.isXl=false->Hp ((cs.drop j).map (·.t))=some t->Hp ((cs'.drop j).map (·.t))=some t:=fun {q n i es es'} d m cs f=>by
  obtain ⟨⟨u,H,b⟩,l,_⟩:=R1 (es':=es') d;by_cases e:q=m
  ·subst e;rcases b with ⟨_,_,g,_⟩ | ⟨G,k,_,I,g,rfl⟩
   ·rw [f] at g; cases g
   ·rw [f] at g;cases g;exact ⟨_,H,fun j t E o=>bO E I o⟩
  ·exact ⟨cs,by rw [l m e,f],fun _ _ _ o=>o⟩
 have F:∀ {q n:Nat} {i:Option Nat} {es es':QQ},O.xat q i=some (n,es)->∀ (x:AJ) e,x.ev O=e->(∀ m C,e≠.xo m C)->(∀ cs,e≠.bx cs)->x.ev (O.xput q i n es')=e:=by
  intro q n i es es' d x e L f r;cases x with
  | c t=>exact L
  | s y=>exact v d y e L f r
 cases op with
 | xal s=>
  simp only [AH.wp] at h ⊢;split at h
  ·rename_i m C p;refine ⟨_,h,by simp,by simp,fun q n i es es' d z a=>?_⟩;obtain ⟨⟨u,H,b⟩,l,_⟩:=R1 (es':=es') d;by_cases e:q=s
   ·subst e;rcases b with ⟨_,_,_,T,R,rfl⟩ | ⟨_,_,_,_,g,_⟩
    ·rw [H]; exact a
    ·rw [p] at g; cases g
   ·rw [l s e,p]; exact a
  ·exact h.elim
 | bad s k=>
  simp only [AH.wp] at h ⊢;split at h
  ·rename_i cs p;refine ⟨_,h,by simp,by simp,fun q n i es es' d z a=>?_⟩;obtain ⟨cs',f,_⟩:=w (es':=es') d s cs p;rw [f]; exact a
  ·rename_i row p;exact ⟨_,h,by simp,by simp,fun q n i es es' d z a=>by rw [v d s _ p (by simp) (by simp)]; exact a⟩
  ·exact h.elim
 | fad x k=>
  simp only [AH.wp] at h ⊢;split at h
  ·rename_i row A;exact ⟨_,h,by simp,by simp,fun q n i es es' d z a=>by rw [F d x _ A (by simp) (by simp)]; exact a⟩
  ·rename_i s j A;split at h
   ·rename_i cs p;refine ⟨_,h,by simp,by simp,fun q n i es es' d z a=>?_⟩;obtain ⟨cs',f,_⟩:=w (es':=es') d s cs p;rw [F d x _ A (by simp) (by simp)]; simp only; rw [f]; exact a
   ·exact h.elim
  ·exact h.elim
 | ld x=>
  simp only [AH.wp] at h ⊢;cases b:BP O (x.ev O) with
  | none=>rw [b] at h; exact h.elim
  | some cs=>
   rw [b] at h;simp only [A7] at h;cases o:Hp cs with
   | none=>rw [o] at h; exact h.elim
   | some t=>
    rw [o] at h;obtain ⟨E,h⟩:=h;refine ⟨_,h,by simp,by simp,fun q n i es es' d z a=>?_⟩;have Q:∃ cs',BP (O.xput q i n es') (x.ev (O.xput q i n es'))=some cs'∧Hp cs'=some t:=by
     cases x with
     | c J=>exact ⟨cs,by rw [←b]; cases J <;> rfl,o⟩
     | s y=>
      simp only [AJ.ev] at b ⊢;cases B:O.get y with
      | bp s j=>
       rw [v d y _ B (by simp) (by simp)];rw [B] at b;simp only [BP] at b ⊢;split at b
       ·rename_i G p;cases b;obtain ⟨cs',f,r⟩:=w (es':=es') d s G p;rw [f];exact ⟨_,rfl,r _ _ E o⟩
       ·cases b
      | tv J=>
       rw [v d y _ B (by simp) (by simp)];rw [B] at b;exact ⟨cs,by rw [←b]; cases J <;> rfl,o⟩
      | bx G=>
       rw [B] at b;simp only [BP,zzY] at b;subst b;obtain ⟨cs',f,r⟩:=w (es':=es') d y G B;rw [f];have:=r 0 t E (by simpa using o);exact ⟨_,rfl,by simpa using this⟩
      | _=>rw [B] at b; cases b
    obtain ⟨cs',f,r⟩:=Q;rw [f];simp only [A7,r];exact ⟨E,a⟩
 | _=>cases ho
theorem Z6 {O f:AC} {d t n:Nat} {i:Option Nat} {e:EV} {es:QQ} (g:M4 f ((d,e)::O)) (b:d≠t):M4 (f.xput t i n es) ((d,e)::O.xput t i n es):=by
 have o:f.get t=O.get t:=by rw [g.1,AC.get_cons,d2 b]
 have a:∀ u:EV,(∀ c,EV.noR c u=true)->M4 ((t,u)::f) ((d,e)::(t,u)::O):=by
  intro u l;refine ⟨fun m=>?_,fun c=>?_⟩
  ·rw [AC.get_cons,g.1,AC.get_cons,AC.get_cons,AC.get_cons];by_cases j:t=m
   ·subst j; rw [d1 rfl,d2 b,d1 rfl]
   ·rw [d2 j];by_cases h:d=m
    ·rw [d1 h,d1 h]
    ·rw [d2 h,d2 h,d2 j]
  ·rw [AC.noRef_cons,g.2,AC.noRef_cons,AC.noRef_cons,AC.noRef_cons,l];cases EV.noR c e <;> rfl
 cases i with
 | none=>exact a _ fun c=>rfl
 | some k=>
  simp only [AC.xput,o];split
  ·exact a _ fun c=>rfl
  ·exact g
theorem im {O:AC} {p q:PR} (a:okPairX D p q=true) {H:List PR} (h:Jl (AR P) K (p::q::H) O):Jl (AR P) K (q::p::H) O:=by
 unfold okPairX at a;split at a
 ·rename_i x v d z j Q I J;simp only [zzZ,Bool.not_eq_true',List.contains_eq_mem,decide_eq_false_iff_not] at a;obtain ⟨⟨⟨_,ho⟩,A⟩,B⟩:=a;obtain ⟨w,C,h⟩:=h;simp only [PR.wp,I,J,AC.put] at h;obtain ⟨e,⟨E,g,l⟩,F,G,r⟩:=eW ho h;have o:∀ (y:AJ),d ∉ y.sl->y.ev E=y.ev w:=by
   intro y R;cases y with
   | c t=>rfl
   | s m=>
    simp only [AJ.ev,g.1,AC.get_cons];rw [d2];intro e; exact R (by simp [AJ.sl,e])
  refine ⟨w,C,?_⟩;simp only [PR.wp,j,Q,z,AH.wp,o x A,o v B] at l ⊢;split at l
  ·rename_i t i c Y;split at l
   ·rename_i n es u b S;obtain ⟨T,U,es',V,W,X,M⟩:=l;have f:d≠t:=by
     intro f;have j:E.get t=e:=by rw [g.1,AC.get_cons,d1 f]
     cases i with
     | none=>
      simp only [AC.xat] at b;rw [j] at b;revert b F;cases e <;> simp
     | some k=>
      simp only [AC.xat] at b;rw [j] at b;revert b G;cases e <;> simp
    have L:w.xat t i=some (n,es):=by
     have j:E.get t=w.get t:=by rw [g.1,AC.get_cons,d2 f]
     rw [←b];exact AC.xat_of j.symm
    rw [L,S];refine ⟨T,U,es',V,W,X,_,.refl _,?_⟩;simp only [PR.wp,I,J,AC.put] at M ⊢;exact r t n i es es' L _ (ND M (Z6 g f))
   ·exact l.elim
  ·exact l.elim
 ·cases a
end
end Go.Sf
