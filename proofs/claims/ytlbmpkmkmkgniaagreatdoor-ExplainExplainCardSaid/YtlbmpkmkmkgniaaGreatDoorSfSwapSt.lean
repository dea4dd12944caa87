/- A store into a box that nobody points at, and an operation in front of it that does not read that box. -/
import Derived.Test.YtlbmpkmkmkgniaaGreatDoorSfSwap
set_option linter.all false
namespace Go.Sf
open Go.RowKit (Below)
def okPairSt (D:ci) (p q:PR):Bool:=
 match q.op,q.guard,q.dst with
 | .stb _ b v,none,none=>PR.movOk D p&&D.contains b&&Iy p.dst.toList (b::v.sl)&&Iy [b] (p.op.slots++p.gsl)&&Iy p.op.dem v.sl
 | .stx _ b s,none,none=>PR.movOk D p&&D.contains b&&Iy p.dst.toList (b::[s])&&Iy [b] (p.op.slots++p.gsl)&&Iy p.op.dem [s]&&Iy [s] p.op.slots&&D.contains s
 | _,_,_=>false
def NO (b:Nat) (cs:List At) (q:Option (Nat × EV)) (O:AD):AD:=
 (b,.bx cs)::(match q with | some (s,t)=>(s,t)::O | none=>O)
theorem IV (b:Nat) (cs:List At) (q:Option (Nat × EV)) (O:AD) (n:Nat):AD.get (NO b cs q O) n=if b=n then .bx cs else (match q with | some (s,t)=>if s=n then t else O.get n | none=>O.get n):=by
 cases q with
 | none=>rfl
 | some st=>rfl
theorem Ir (b:Nat) (cs:List At) (q:Option (Nat × EV)) (O:AD) (d:Nat) (h:∀ s e,q=some (s,e)->e.noR d=true):AD.noRef d (NO b cs q O)=AD.noRef d O:=by
 cases q with
 | none=>simp [NO,AD.noRef_cons,EV.noR,EV.ref]
 | some p=>
  obtain ⟨s,e⟩:=p;have a:=h s e rfl;simp only [NO,AD.noRef_cons,a,Bool.true_and];simp [EV.noR,EV.ref]
structure g0 (S:FuncId->QQ->CS->Prop) (q:PR) (b:Nat) (v:AL) (O env1:AD) (cs cs':List At) (o:Option (Nat × EV)):Prop where
 env1:env1=NO b cs' o O
 box:O.get b=.bx cs
 own:∀ s e,o=some (s,e)->v=.s s∧((∃ t,e=.tv t∧O.get s=.ow t)∨(e=.undef∧(∃ ds,O.get s=.oag ds)∧∃ n,q.op=.stx n b s))∧s≠b
 val:∀ cs,v.ev O≠.bx cs
 again:∀ env2,env2.noRef b=true->env2.get b=.bx cs->v.ev env2=v.ev O->∀ K2:AD->Prop,K2 (NO b cs' o env2)->q.wp S env2 K2
variable {S:FuncId->QQ->CS->Prop} {q:PR} {O:AD}
theorem ij {K:AD->Prop} {n b:Nat} {v:AL} (a:q.op=.stb n b v∨∃ s,v=.s s∧q.op=.stx n b s) (j:q.guard=none) (k:q.dst=none) (h:q.wp S O K):∃ env1,K env1∧∃ cs cs' o,g0 S q b v O env1 cs cs' o:=by
 rcases a with a | ⟨s,rfl,a⟩
 ·unfold PR.wp at h;rw [j,a,k] at h;simp only [AJ.wp] at h;split at h
  ·rename_i cs r;split at h
   ·rename_i t hv;cases v with
    | c t=>exact h.elim
    | s z=>
     simp only at h;simp only [AL.ev] at hv;refine ⟨_,h.2.2.2,cs,_,some (z,.tv t),rfl,r,?_,?_,fun f u l g w e=>?_⟩
     ·intro s' x m;simp only [zzY,Prod.mk.injEq] at m;obtain ⟨rfl,rfl⟩:=m;exact ⟨rfl,.inl ⟨t,rfl,hv⟩,h.1⟩
     ·intro cs; simp [AL.ev,hv]
     ·simp only [AL.ev] at g;unfold PR.wp;rw [j,a,k];simp only [AJ.wp,l,AL.ev,g,hv];exact ⟨h.1,h.2.1,h.2.2.1,e⟩
   ·rename_i t hv;refine ⟨_,h.2.2,cs,_,none,rfl,r,by simp,by simp [hv],fun f u l g w e=>?_⟩;unfold PR.wp;rw [j,a,k];simp only [AJ.wp,l,g,hv];exact ⟨h.1,h.2.1,e⟩
   ·exact h.elim
  ·exact h.elim
 ·unfold PR.wp at h;rw [j,a,k] at h;simp only [AJ.wp] at h;split at h
  ·rename_i cs y r hv;refine ⟨_,h.2.2.2,cs,_,some (s,.undef),rfl,r,?_,by simp [AL.ev,hv],fun f u l g w e=>?_⟩
   ·intro s' x m;simp only [zzY,Prod.mk.injEq] at m;obtain ⟨rfl,rfl⟩:=m;exact ⟨rfl,.inr ⟨rfl,⟨y,hv⟩,n,a⟩,h.1⟩
   ·simp only [AL.ev] at g;unfold PR.wp;rw [j,a,k];simp only [AJ.wp,l,g,hv];exact ⟨h.1,⟨h.2.1.1,by rw [AD.noX_ref u,Bool.or_true]⟩,h.2.2.1,e⟩
  ·exact h.elim
section
variable {P:Program} {F0:Nat->Nat->Prop} {w0:W0} {N:Nat} {ops:Array Oper} {K:AD->Prop} {D:ci}
variable {O:AD} {p q:PR} {rs:List PR}
theorem gm (hR:Mi F0 w0 N O) (hj:JD D O) {op:Oper} (hp:Nd P N ops op p=true) (a:okPairSt D p q=true) (h:KJ (AU P) K (p::q::rs) O):KJ (AU P) K (q::p::rs) O:=by
 have key:∃ n b v,(q.op=.stb n b v∨∃ s,v=.s s∧q.op=.stx n b s)∧q.guard=none∧q.dst=none∧(((((PR.movOk D p=true∧D.contains b=true)∧Iy p.dst.toList (b::v.sl)=true)∧Iy [b] (p.op.slots++p.gsl)=true)∧Iy p.op.dem v.sl=true)∧(∀ n s,q.op=.stx n b s->Iy [s] p.op.slots=true∧D.contains s=true)):=by
  unfold okPairSt at a;split at a
  ·rename_i n b v w H X;simp only [zzZ] at a;exact ⟨n,b,v,.inl w,H,X,a,fun n s h=>by rw [w] at h; cases h⟩
  ·rename_i n b s w H X;simp only [zzZ] at a;refine ⟨n,b,.s s,.inr ⟨s,rfl,w⟩,H,X,a.1.1,fun n' s' h=>?_⟩;rw [w] at h;simp only [AJ.stx.injEq] at h;obtain ⟨_,_,rfl⟩:=h;exact ⟨a.1.2,a.2⟩
  ·cases a
 clear a;obtain ⟨n,b,v,w,H,X,a,hstx⟩:=key
 ·simp only [PR.movOk,zzZ,Bool.or_eq_true,Bool.not_eq_true'] at a;obtain ⟨⟨⟨⟨⟨⟨⟨⟨pm,pd⟩,pg⟩,pb⟩,pD⟩,Y⟩,c1⟩,c2⟩,c3⟩:=a;obtain ⟨G,hdp⟩:=Option.isSome_iff_exists.1 pd;rw [hdp] at c1;simp only [Option.toList_some] at c1;have Y:b∈D:=by simpa using Y
  have hpb:G≠b:=fun e=>DO c1 (x:=G) (by simp) (by simp [e]);have pnv:G ∉ v.sl:=fun e=>DO c1 (x:=G) (by simp) (by simp [e]);have y:b ∉ p.op.slots:=fun e=>DO c2 (x:=b) (by simp) (IS e);have bng:b ∉ p.gsl:=fun e=>DO c2 (x:=b) (by simp) (H9 e);have dv:∀ s,s∈p.op.dem->s∈v.sl->False:=fun s k f=>DO c3 k f;have pg':p.op.isNew=true->p.guard=none:=fun hn=>by
   rcases pg with h | h
   ·rw [hn] at h; cases h
   ·simpa using h
  obtain ⟨u,T,h⟩:=h;have hR':=hR.congr T.symm;have z:=hj.congr T.symm;obtain ⟨env1,⟨⟨e1,J,hw⟩,ep,U,Fp⟩,hR1⟩:=LG hR' hp (Pv hdp pm pg' h);have hj1:=Fp.jd pb z;have Z:∀ n,e1.get n=if G=n then ep else U.on n (u.get n):=fun n=>by
   rw [J.1,Fp.env1,AD.get_cons,CF.get]
  have R:∀ e,U.on b e=e:=by
   intro e;have:=Fp.slot;have f:=Fp.cell;cases U with
   | none=>rfl
   | slot s t=>
    simp only [CF.on];rw [d2];intro he; subst he;exact y (F8 (this _ _ rfl))
   | cell s V t=>
    simp only [CF.on];rw [d2];intro he; subst he;rcases f _ _ _ rfl with A | ⟨x,_,F⟩
    ·exact y A
    ·exact z.no F Y
  have gb:e1.get b=u.get b:=by rw [Z,d2 hpb,R]
  obtain ⟨X1,hK,cs,cs',o,Fs⟩:=ij w H X hw;have hbox:u.get b=.bx cs:=by rw [←gb]; exact Fs.box
  have hv:v.ev u=v.ev e1:=by
   cases v with
   | c t=>rfl
   | s m=>
    have hm:G≠m:=fun e=>pnv (by simp [AL.sl,e]);simp only [AL.ev];have l:=Fs.val;simp only [AL.ev] at l;rw [Z,d2 hm] at l ⊢;have k:=Fp.slot;have f:=Fp.ok;cases U with
    | none=>rfl
    | slot s t=>
     simp only [CF.on];rw [d2 (fun (e:s=m)=>dv s (k _ _ rfl) (by simp [AL.sl,e]))]
    | cell s V t=>
     simp only [CF.on] at l ⊢;split
     ·rename_i e;subst e;obtain ⟨B,A,_⟩:=f;rw [d1 rfl,A] at l;exact absurd rfl (l _)
     ·rfl
  have j:∀ s e,o=some (s,e)->((∃ t,e=.tv t∧u.get s=.ow t)∨(e=.undef∧∃ B,u.get s=.oag B))∧s≠b∧s∈v.sl∧s≠G:=by
   intro s t ho;obtain ⟨k,f,A⟩:=Fs.own s t ho;subst k;simp only [AL.ev] at hv;refine ⟨?_,A,by simp [AL.sl],fun e=>pnv (by simp [AL.sl,e])⟩;rw [hv];rcases f with f | ⟨f,F,_⟩
   ·exact .inl f
   ·exact .inr ⟨f,F⟩
  have C:∀ s,o=some (s,.undef)->s ∉ p.op.slots∧s∈D:=by
   intro s ho;obtain ⟨_,f,_⟩:=Fs.own s _ ho;rcases f with ⟨t,f,_⟩ | ⟨_,_,n',F⟩
   ·cases f
   ·obtain ⟨h5,h6⟩:=hstx n' s F;exact ⟨fun e=>DO h5 (by simp) e,by simpa using h6⟩
  have E:∀ d s e,o=some (s,e)->e.noR d=true:=by
   intro d s e ho;rcases (j s e ho).1 with ⟨t,rfl,_⟩ | ⟨rfl,_⟩ <;> rfl
  have I:∀ s e,o=some (s,e)->∀ B,u.get s≠.bx B:=by
   intro s e ho B h;rcases (j s e ho).1 with ⟨t,_,f⟩ | ⟨_,ds',f⟩ <;> rw [f] at h <;> cases h
  have g2:∀ n,b≠n->(∀ s t,o=some (s,t)->s≠n)->AD.get (NO b cs' o u) n=u.get n:=by
   intro n k f;rw [IV,d2 k];cases o with
   | none=>rfl
   | some st=>
    obtain ⟨s,t⟩:=st;simp only;rw [d2 (f s t rfl)]
  have lk:∀ n,b≠n->o≠some (n,.undef)->(u.get n).like (AD.get (NO b cs' o u) n):=by
   intro n k h0;rw [IV,d2 k];cases o with
   | none=>exact .inl rfl
   | some st=>
    obtain ⟨s,t⟩:=st;simp only;split
    ·rename_i e;subst e;rcases (j s t rfl).1 with ⟨t,rfl,A⟩ | ⟨rfl,_⟩
     ·obtain ⟨m,es,rfl⟩:=hR'.list A;exact .inr (.inl ⟨m,es,.inr ⟨A,rfl⟩⟩)
     ·exact absurd rfl h0
    ·exact .inl rfl
  have L:GX p.op U (some G) u (NO b cs' o u):=by
   refine ⟨fun s W=>lk s (fun e=>y (e ▸ W)) (fun e=>(C s e).1 W),fun s W r M=>lk r (fun e=>z.no M (e ▸ Y)) (fun e=>z.no M (C r e).2),fun s W _=>g2 s (fun e=>y (e ▸ F8 W)) (fun s' t ho e=>dv s W (e ▸ (j s' t ho).2.2.1)),?_,fun hn d X Q=>by rw [Ir _ _ _ _ _ (E d)]; exact Q⟩;have k:=Fp.slot;have f:=Fp.ok;have A:=R;have F:=Fp.cell;cases U with
   | none=>trivial
   | slot s t=>
    simp only [CF.ok] at f ⊢;rw [g2 s (fun e=>y (e ▸ F8 (k _ _ rfl))) (fun s' t ho e=>dv s (k _ _ rfl) (e ▸ (j s' t ho).2.2.1))];exact f
   | cell s V t=>
    obtain ⟨B,h5,h6⟩:=f;refine ⟨B,?_,h6⟩;rw [g2 s (fun e=>?_) (fun s' t' ho e=>?_)]
    ·exact h5
    ·rcases F _ _ _ rfl with h7 | ⟨x,_,h8⟩
     ·exact y (e ▸ h7)
     ·exact z.no h8 (e ▸ Y)
    ·exact I s' t' ho _ (e ▸ h5)
  have hgp:∀ g∈p.gsl,AD.get (NO b cs' o u) g=u.get g:=by
   intro g H;obtain ⟨bb,M,_,Q,hno'⟩:=QU h g H;refine g2 g (fun e=>bng (e ▸ H)) (fun s t ho e=>?_);rcases (j s t ho).1 with ⟨t,_,f⟩ | ⟨_,ds',f⟩
   ·rw [←e,f] at M; exact absurd M.symm (Q _)
   ·rw [←e,f] at M; exact absurd M.symm (hno' _)
  refine ⟨u,T,Fs.again u (z _ Y) hbox hv _ ⟨_,.refl _,Fp.again _ L hgp _ (OB hK ?_)⟩⟩;rw [Fs.env1];refine ⟨fun n=>?_,fun d=>?_⟩
  ·rw [AD.get_cons,CF.get,IV,IV];by_cases k:G=n
   ·subst k;rw [d2 (fun e=>hpb e.symm),d1 rfl];cases o with
    | none=>simp only; rw [Z,d1 rfl]
    | some st=>
     obtain ⟨s,t⟩:=st;simp only;rw [d2 (j s t rfl).2.2.2,Z,d1 rfl]
   ·rw [d2 k];by_cases f:b=n
    ·subst f;rw [d1 rfl,d1 rfl,R]
    ·rw [d2 f,d2 f];cases o with
     | none=>simp only; rw [Z,d2 k]
     | some st=>
      obtain ⟨s,t⟩:=st;simp only;by_cases A:s=n
      ·subst A;rw [d1 rfl,d1 rfl];have F:=Fp.slot;have h5:=Fp.ok;have h6:=(j s t rfl);have h6':=I s t rfl;have h6'':∀ B,t≠.bx B:=by
        intro B h;rcases h6.1 with ⟨t,rfl,_⟩ | ⟨rfl,_⟩ <;> cases h
       cases U with
       | none=>rfl
       | slot s' t'=>
        simp only [CF.on];rw [d2 (fun (e:s'=s)=>dv s' (F _ _ rfl) (by rw [e]; exact h6.2.2.1))]
       | cell s' V t'=>
        simp only [CF.on];split
        ·rename_i e;subst e;obtain ⟨B,h7,_⟩:=h5;exact absurd h7 (h6' _)
        ·rfl
      ·rw [d2 A,d2 A,Z,d2 k]
  ·rw [Ir _ _ _ _ _ (E d),J.2,Fp.env1,AD.noRef_cons,CF.noRef,AD.noRef_cons,CF.noRef,Ir _ _ _ _ _ (E d)]
def okPairT (D:ci) (p q:PR):Bool:=
 match q.op,q.guard,q.dst with
 | .tkx s,none,some d=>PR.movOk D p&&D.contains s&&D.contains d&&Iy p.dst.toList [s,d]&&Iy [s,d] (p.op.slots++p.gsl)
 | _,_,_=>false
variable {S:FuncId->QQ->CS->Prop} {s d:Nat}
theorem Yk {K:AD->Prop} (b:q.op=.tkx s) (c:q.guard=none) (e:q.dst=some d) (h:q.wp S O K):∃ n es,O.get s=.xo n es∧O.noRef d=true∧d≠s∧K ((d,.xo n es)::(s,.undef)::O):=by
 simp only [PR.wp,b,c,e,AJ.wp,AD.put] at h;split at h
 ·rename_i g n es a f;simp only [zzY] at a;subst a;exact ⟨n,es,f,h.1,h.2.1,h.2.2⟩
 ·exact h.elim
variable {n:Nat}
theorem Yl {K:AD->Prop} {es:QQ} (a:q.op=.tkx s) (b:q.guard=none) (c:q.dst=some d) (e:O.get s=.xo n es) (f:O.noRef d=true) (g:d≠s) (h:K ((d,.xo n es)::(s,.undef)::O)):q.wp S O K:=by
 simp only [PR.wp,a,b,c,AJ.wp,AD.put,e];exact ⟨f,g,h⟩
theorem kJ (hR:Mi F0 w0 N O) (hj:JD D O) {op:Oper} (hp:Nd P N ops op p=true) (a:okPairT D p q=true) (h:KJ (AU P) K (p::q::rs) O):KJ (AU P) K (q::p::rs) O:=by
 unfold okPairT at a;split at a
 ·rename_i s d G hg hd;simp only [PR.movOk,zzZ,Bool.or_eq_true,Bool.not_eq_true'] at a;obtain ⟨⟨⟨⟨⟨⟨⟨⟨pm,pd⟩,pg⟩,pb⟩,pD⟩,B⟩,I⟩,T⟩,U⟩:=a;obtain ⟨w,M⟩:=Option.isSome_iff_exists.1 pd;rw [M] at T;simp only [Option.toList_some] at T;have B:s∈D:=by simpa using B
  have I:d∈D:=by simpa using I
  have J:w≠s:=fun e=>DO T (x:=w) (by simp) (by simp [e]);have Y:w≠d:=fun e=>DO T (x:=w) (by simp) (by simp [e]);have b:s ∉ p.op.slots:=fun e=>DO U (x:=s) (by simp) (IS e);have j:d ∉ p.op.slots:=fun e=>DO U (x:=d) (by simp) (IS e);have Z:s ∉ p.gsl:=fun e=>DO U (x:=s) (by simp) (H9 e);have dng:d ∉ p.gsl:=fun e=>DO U (x:=d) (by simp) (H9 e);have pg':p.op.isNew=true->p.guard=none:=fun hn=>by
   rcases pg with h | h
   ·rw [hn] at h; cases h
   ·simpa using h
  obtain ⟨o,z,h⟩:=h;have hR':=hR.congr z.symm;have k:=hj.congr z.symm;obtain ⟨env1,⟨⟨e1,l,hw⟩,ep,Q,Fp⟩,hR1⟩:=LG hR' hp (Pv M pm pg' h);have g1:∀ n,e1.get n=if w=n then ep else Q.on n (o.get n):=fun n=>by
   rw [l.1,Fp.env1,AD.get_cons,CF.get]
  have v:∀ x,x∈D->x ∉ p.op.slots->∀ e,Q.on x e=e:=by
   intro x W H e;have:=Fp.slot;have f:=Fp.cell;cases Q with
   | none=>rfl
   | slot s t=>
    simp only [CF.on];rw [d2];intro X; subst X;exact H (F8 (this _ _ rfl))
   | cell s off t=>
    simp only [CF.on];rw [d2];intro X; subst X;rcases f _ _ _ rfl with E | ⟨y,_,R⟩
    ·exact H E
    ·exact k.no R W
  obtain ⟨n,es,k1,k2,k3,hK⟩:=Yk G hg hd hw;rw [g1,d2 J,v s B b] at k1;rw [l.2,Fp.env1,AD.noRef_cons,CF.noRef,zzZ] at k2;have C:∀ m,m≠d->m≠s->AD.get ((d,.xo n es)::(s,.undef)::o) m=o.get m:=fun m u f=>by
   rw [AD.get_cons,d2 (fun e=>u e.symm),AD.get_cons,d2 (fun e=>f e.symm)]
  have nr:∀ c,AD.noRef c ((d,EV.xo n es)::(s,EV.undef)::o)=AD.noRef c o:=fun c=>by
   simp [AD.noRef_cons,EV.noR,EV.ref]
  have L:GX p.op Q (some w) o ((d,.xo n es)::(s,.undef)::o):=by
   refine ⟨fun x A=>.inl (C x (fun e=>j (e ▸ A)) (fun e=>b (e ▸ A))),fun x A r hr=>.inl (C r (fun e=>k.no hr (e ▸ I)) (fun e=>k.no hr (e ▸ B))),fun x A _=>C x (fun e=>j (e ▸ F8 A)) (fun e=>b (e ▸ F8 A)),?_,fun hn d' hd' V=>by rw [nr]; exact V⟩;have u:=Fp.slot;have f:=Fp.ok;have R:=Fp.cell;cases Q with
   | none=>trivial
   | slot x t=>
    simp only [CF.ok] at f ⊢;rw [C x (fun e=>j (e ▸ F8 (u _ _ rfl))) (fun e=>b (e ▸ F8 (u _ _ rfl)))];exact f
   | cell x off t=>
    obtain ⟨ds,h5,h6⟩:=f;refine ⟨ds,?_,h6⟩;rw [C x (fun e=>?_) (fun e=>?_)]
    ·exact h5
    ·rcases R _ _ _ rfl with h7 | ⟨y,_,h8⟩
     ·exact j (e ▸ h7)
     ·exact k.no h8 (e ▸ I)
    ·rcases R _ _ _ rfl with h7 | ⟨y,_,h8⟩
     ·exact b (e ▸ h7)
     ·exact k.no h8 (e ▸ B)
  have hgp:∀ g∈p.gsl,AD.get ((d,.xo n es)::(s,.undef)::o) g=o.get g:=fun g F=>C g (fun e=>dng (e ▸ F)) (fun e=>Z (e ▸ F));refine ⟨o,z,Yl G hg hd k1 k2.2 k3 ⟨_,.refl _,Fp.again _ L hgp _ (OB hK ?_)⟩⟩;refine ⟨fun m=>?_,fun c=>?_⟩
  ·simp only [AD.get_cons,CF.get,g1];by_cases u:d=m
   ·subst u;rw [d1 rfl,d2 Y,v d I j,d1 rfl]
   ·rw [d2 u];by_cases f:s=m
    ·subst f;rw [d1 rfl,d2 J,v s B b,d2 u,d1 rfl]
    ·rw [d2 f];by_cases E:w=m
     ·rw [d1 E,d1 E]
     ·rw [d2 E,d2 E,d2 u,d2 f]
  ·simp only [AD.noRef_cons,CF.noRef,l.2,Fp.env1];have e1:EV.noR c (EV.xo n es)=true:=rfl;have e2:EV.noR c EV.undef=true:=rfl;rw [e1,e2];cases EV.noR c ep <;> rfl
 ·cases a
def jf:AJ->Bool
 | .xal _=>true
 | .bad _ _=>true
 | .fad _ _=>true
 | .ld _=>true
 | _=>false
def okPairX (D:ci) (p q:PR):Bool:=
 match q.op,q.guard,q.dst,p.guard,p.dst with
 | .xst x v,none,none,none,some d=>PR.movOk D p&&jf p.op&&!(x.sl.contains d)&&!(v.sl.contains d)
 | _,_,_,_,_=>false
variable {i:Option Nat}
theorem TL {q:Nat} {es es':QQ} (h:O.xat q i=some (n,es)):(∃ u,AD.get (O.xput q i n es') q=u∧((∃ m b,O.get q=.xo m b∧∃ f c,u=.xo f c)∨(∃ cs k,i=some k∧cs[k]?=some ⟨true,.xl n es⟩∧O.get q=.bx cs∧u=.bx (cs.set k ⟨true,.xl n es'⟩))))∧(∀ m,q≠m->AD.get (O.xput q i n es') m=O.get m)∧∀ d,AD.noRef d (O.xput q i n es')=O.noRef d:=by
 cases i with
 | none=>
  simp only [AD.xat] at h;split at h
  ·rename_i m b a;refine ⟨⟨_,rfl,.inl ⟨m,b,a,n,es',by simp [AD.xput,AD.get_cons]⟩⟩,fun m e=>by simp only [AD.xput,AD.get_cons]; rw [d2 e],fun d=>?_⟩;simp [AD.xput,AD.noRef_cons,EV.noR,EV.ref]
  ·cases h
 | some k=>
  simp only [AD.xat] at h;split at h
  ·rename_i cs a;split at h
   ·rename_i m b g;simp only [zzY,Prod.mk.injEq] at h;obtain ⟨rfl,rfl⟩:=h;refine ⟨⟨_,rfl,.inr ⟨cs,k,rfl,g,a,by simp [AD.xput,a,AD.get_cons]⟩⟩,fun m e=>by simp only [AD.xput,a,AD.get_cons]; rw [d2 e],fun d=>?_⟩;simp [AD.xput,a,AD.noRef_cons,EV.noR,EV.ref]
   ·cases h
  ·cases h
theorem fc (l:List At) (a:Nat):IG ((l.drop a).map (·.t))=(l[a]?).map (·.t):=by
 rw [show l[a]?=(l.drop a)[0]? by rw [List.getElem?_drop,Nat.add_zero]];cases l.drop a <;> rfl
theorem dF {c:List At} {k a n:Nat} {es es':QQ} {t:TV} (f:t.isXl=false) (g:c[k]?=some ⟨true,.xl n es⟩) (b:IG ((c.drop a).map (·.t))=some t):IG (((c.set k ⟨true,.xl n es'⟩).drop a).map (·.t))=some t:=by
 rw [fc] at b ⊢;by_cases e:k=a
 ·subst e;rw [g] at b;simp only [Option.map_some,zzY] at b;subst b;cases f
 ·rw [List.getElem?_set,d2 e]; exact b
theorem gK {op:AJ} (ho:jf op=true) {dst:Option Nat} {K:EV->AD->Prop} (h:op.wp S O dst K) :
  ∃ e,K e O∧(∀ m F,e≠.xo m F)∧(∀ cs,e≠.bx cs)∧∀ (q n:Nat) (i:Option Nat) (es es':QQ),O.xat q i=some (n,es)->∀ B:EV->AD->Prop,B e (O.xput q i n es')->op.wp S (O.xput q i n es') dst B:=by
 have z:∀ {q n:Nat} {i:Option Nat} {es es':QQ},O.xat q i=some (n,es)->∀ m e,O.get m=e->(∀ k F,e≠.xo k F)->(∀ cs,e≠.bx cs)->AD.get (O.xput q i n es') m=e:=fun {q n i es es'} f m e g w L=>by
  obtain ⟨⟨u,J,b⟩,o,_⟩:=TL (es':=es') f;rw [o m (fun R=>by
   subst R;rcases b with ⟨_,_,j,_⟩ | ⟨_,_,_,_,j,_⟩
   ·exact w _ _ (g.symm.trans j)
   ·exact L _ (g.symm.trans j))]; exact g
 have A:∀ {q n:Nat} {i:Option Nat} {es es':QQ},O.xat q i=some (n,es)->∀ m cs,O.get m=.bx cs->∃ cs',AD.get (O.xput q i n es') m=.bx cs'∧∀ l t,t.isXl=false->IG ((cs.drop l).map (·.t))=some t->IG ((cs'.drop l).map (·.t))=some t:=fun {q n i es es'} f m cs g=>by
  obtain ⟨⟨u,J,b⟩,o,_⟩:=TL (es':=es') f;by_cases e:q=m
  ·subst e;rcases b with ⟨_,_,j,_⟩ | ⟨I,k,_,L,j,rfl⟩
   ·rw [g] at j; cases j
   ·rw [g] at j;cases j;exact ⟨_,J,fun l t G r=>dF G L r⟩
  ·exact ⟨cs,by rw [o m e,g],fun _ _ _ r=>r⟩
 have H:∀ {q n:Nat} {i:Option Nat} {es es':QQ},O.xat q i=some (n,es)->∀ (x:AL) e,x.ev O=e->(∀ m F,e≠.xo m F)->(∀ cs,e≠.bx cs)->x.ev (O.xput q i n es')=e:=by
  intro q n i es es' f x e Q g w;cases x with
  | c t=>exact Q
  | s y=>exact z f y e Q g w
 cases op with
 | xal s=>
  simp only [AJ.wp] at h ⊢;split at h
  ·rename_i m F v;refine ⟨_,h,by simp,by simp,fun q n i es es' f B a=>?_⟩;obtain ⟨⟨u,J,b⟩,o,_⟩:=TL (es':=es') f;by_cases e:q=s
   ·subst e;rcases b with ⟨_,_,_,V,U,rfl⟩ | ⟨_,_,_,_,j,_⟩
    ·rw [J]; exact a
    ·rw [v] at j; cases j
   ·rw [o s e,v]; exact a
  ·exact h.elim
 | bad s k=>
  simp only [AJ.wp] at h ⊢;split at h
  ·rename_i cs v;refine ⟨_,h,by simp,by simp,fun q n i es es' f B a=>?_⟩;obtain ⟨cs',g,_⟩:=A (es':=es') f s cs v;rw [g]; exact a
  ·rename_i row v;exact ⟨_,h,by simp,by simp,fun q n i es es' f B a=>by rw [z f s _ v (by simp) (by simp)]; exact a⟩
  ·exact h.elim
 | fad x k=>
  simp only [AJ.wp] at h ⊢;split at h
  ·rename_i row C;exact ⟨_,h,by simp,by simp,fun q n i es es' f B a=>by rw [H f x _ C (by simp) (by simp)]; exact a⟩
  ·rename_i s l C;split at h
   ·rename_i cs v;refine ⟨_,h,by simp,by simp,fun q n i es es' f B a=>?_⟩;obtain ⟨cs',g,_⟩:=A (es':=es') f s cs v;rw [H f x _ C (by simp) (by simp)]; simp only; rw [g]; exact a
   ·exact h.elim
  ·exact h.elim
 | ld x=>
  simp only [AJ.wp] at h ⊢;cases b:BZ O (x.ev O) with
  | none=>rw [b] at h; exact h.elim
  | some cs=>
   rw [b] at h;simp only [BB] at h;cases r:IG cs with
   | none=>rw [r] at h; exact h.elim
   | some t=>
    rw [r] at h;obtain ⟨G,h⟩:=h;refine ⟨_,h,by simp,by simp,fun q n i es es' f B a=>?_⟩;have T:∃ cs',BZ (O.xput q i n es') (x.ev (O.xput q i n es'))=some cs'∧IG cs'=some t:=by
     cases x with
     | c M=>exact ⟨cs,by rw [←b]; cases M <;> rfl,r⟩
     | s y=>
      simp only [AL.ev] at b ⊢;cases E:O.get y with
      | bp s l=>
       rw [z f y _ E (by simp) (by simp)];rw [E] at b;simp only [BZ] at b ⊢;split at b
       ·rename_i I v;cases b;obtain ⟨cs',g,w⟩:=A (es':=es') f s I v;rw [g];exact ⟨_,rfl,w _ _ G r⟩
       ·cases b
      | tv M=>
       rw [z f y _ E (by simp) (by simp)];rw [E] at b;exact ⟨cs,by rw [←b]; cases M <;> rfl,r⟩
      | bx I=>
       rw [E] at b;simp only [BZ,zzY] at b;subst b;obtain ⟨cs',g,w⟩:=A (es':=es') f y I E;rw [g];have:=w 0 t G (by simpa using r);exact ⟨_,rfl,by simpa using this⟩
      | _=>rw [E] at b; cases b
    obtain ⟨cs',g,w⟩:=T;rw [g];simp only [BB,w];exact ⟨G,a⟩
 | _=>cases ho
theorem bl {O f:AD} {d t n:Nat} {e:EV} {es:QQ} (g:Ny f ((d,e)::O)) (b:d≠t):Ny (f.xput t i n es) ((d,e)::O.xput t i n es):=by
 have o:f.get t=O.get t:=by rw [g.1,AD.get_cons,d2 b]
 have a:∀ u:EV,(∀ c,EV.noR c u=true)->Ny ((t,u)::f) ((d,e)::(t,u)::O):=by
  intro u l;refine ⟨fun m=>?_,fun c=>?_⟩
  ·rw [AD.get_cons,g.1,AD.get_cons,AD.get_cons,AD.get_cons];by_cases j:t=m
   ·subst j; rw [d1 rfl,d2 b,d1 rfl]
   ·rw [d2 j];by_cases h:d=m
    ·rw [d1 h,d1 h]
    ·rw [d2 h,d2 h,d2 j]
  ·rw [AD.noRef_cons,g.2,AD.noRef_cons,AD.noRef_cons,AD.noRef_cons,l];cases EV.noR c e <;> rfl
 cases i with
 | none=>exact a _ fun c=>rfl
 | some k=>
  simp only [AD.xput,o];split
  ·exact a _ fun c=>rfl
  ·exact g
theorem kL (a:okPairX D p q=true) (h:KJ (AU P) K (p::q::rs) O):KJ (AU P) K (q::p::rs) O:=by
 unfold okPairX at a;split at a
 ·rename_i x v d z j M H I;simp only [zzZ,Bool.not_eq_true',List.contains_eq_mem,decide_eq_false_iff_not] at a;obtain ⟨⟨⟨_,ho⟩,A⟩,B⟩:=a;obtain ⟨w,C,h⟩:=h;simp only [PR.wp,H,I,AD.put] at h;obtain ⟨e,⟨E,g,l⟩,F,G,r⟩:=gK ho h;have o:∀ (y:AL),d ∉ y.sl->y.ev E=y.ev w:=by
   intro y Q;cases y with
   | c t=>rfl
   | s m=>
    simp only [AL.ev,g.1,AD.get_cons];rw [d2];intro e; exact Q (by simp [AL.sl,e])
  refine ⟨w,C,?_⟩;simp only [PR.wp,j,M,z,AJ.wp,o x A,o v B] at l ⊢;split at l
  ·rename_i t i c Y;split at l
   ·rename_i n es u b R;obtain ⟨T,U,es',V,W,X,L⟩:=l;have f:d≠t:=by
     intro f;have j:E.get t=e:=by rw [g.1,AD.get_cons,d1 f]
     cases i with
     | none=>
      simp only [AD.xat] at b;rw [j] at b;revert b F;cases e <;> simp
     | some k=>
      simp only [AD.xat] at b;rw [j] at b;revert b G;cases e <;> simp
    have J:w.xat t i=some (n,es):=by
     have j:E.get t=w.get t:=by rw [g.1,AD.get_cons,d2 f]
     rw [←b];exact AD.xat_of j.symm
    rw [J,R];refine ⟨T,U,es',V,W,X,_,.refl _,?_⟩;simp only [PR.wp,H,I,AD.put] at L ⊢;exact r t n i es es' J _ (OB L (bl g f))
   ·exact l.elim
  ·exact l.elim
 ·cases a
end
end Go.Sf
