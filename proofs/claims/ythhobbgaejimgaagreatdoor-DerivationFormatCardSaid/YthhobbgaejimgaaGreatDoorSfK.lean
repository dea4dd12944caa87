/- Operations that take a list of one's own, in drawn regions. -/
import Derived.Test.YthhobbgaejimgaaGreatDoorSfSwap
set_option linter.all false
namespace Go.Sf
def AC.tkn:AC->Option Ne
 |.tE _=>some []|.tF _=>some []|.uq s=>some [s]|.tB _ s _=>some [s]|.tO q=>some [q]|_=>none
def LA(qs:Ne)(O:AA):AA:=qs.map (·,EV.undef)++O
theorem JA(qs:Ne)(O:AA)(n:Nat):AA.get (LA qs O) n=if n∈qs then .undef else O.get n:=by
 induction qs with
 |nil=>rfl|cons q qs a=>
  grind [LA,AA.hV]
theorem FW(qs:Ne)(O:AA)(c:Nat):AA.l3 c (LA qs O)=AA.l3 c O:=by
 induction qs with
 |nil=>rfl|cons q qs a=>
  simp only[LA,List.map_cons,List.cons_append,AA.kq]at a|-;rw[a];rfl
structure Ua(S:FuncId->Fq->Af->Prop)(op:AC)(qs:Ne)(d:Nat)(O:AA)(e:EV):Prop where
 dno:O.l3 d=true
 ul:e.rS=none
 slbx:∀n∈op.slots,∀cs,O.get n≠.bx cs
 sub:∀n∈qs,n∈op.slots
 again:∀env2,(∀n∈op.slots,env2.get n=O.get n)->env2.l3 d=true->∀K2:EV->AA->Prop,K2 e (LA qs env2)->op.wp S env2 (some d) K2
variable{y:AD}
theorem fH{O env2:AA}(h:∀n∈y.sl,env2.get n=O.get n):y.val env2=y.val O:=by
 cases y with
 |c t=>rfl|s n=>simp only[AD.val,AD.ev,h n (by simp[AD.sl])]
variable{O:AA}
theorem fG{t:TV}(h:y.val O=some t):∀n∈y.sl,∀cs,O.get n≠.bx cs:=by
 intro n a cs b;cases y with
 |c t=>simp[AD.sl]at a|s m=>
  grind [AD.sl,List.mem_singleton,AD.val,AD.ev,EV.val]
variable{qs:Ne}
theorem take{S:FuncId->Fq->Af->Prop}{op:AC}{d:Nat}{K:EV->AA->Prop}(c:op.tkn=some qs)(h:op.wp S O (some d) K):∃e,Ua S op qs d O e/\K e (LA qs O):=by
 cases op<;>simp only[AC.tkn,reduceCtorEq,rC]at c
 case tF n=>
  subst c;simp only[AC.wp]at h;exact⟨_,⟨h.1,rfl,by simp[AC.slots],by simp,fun env2 _ a j b=>⟨a,b⟩⟩,h.2⟩
 case tE n=>
  subst c;simp only[AC.wp]at h;exact⟨_,⟨h.1,rfl,by simp[AC.slots],by simp,fun env2 _ a j b=>⟨a,b⟩⟩,h.2⟩
 case uq s=>
  subst c;simp only[AC.wp]at h;split at h
  .rename_i t n es hd i;simp only[rC]at hd;subst hd;refine⟨.xo n es,⟨h.1,rfl,fun m u cs l=>?_,by simp[AC.slots],fun env2 g a j b=>?_⟩,h.2.2⟩
   .grind[AC.slots,List.mem_singleton]
   .have:=g s (by simp[AC.slots]);simp only[AC.wp,this,i];exact⟨a,h.2.1,b⟩
  .exact h.elim
 case tO q=>
  subst c;simp only[AC.wp]at h;split at h
  .rename_i t n k hd i;simp only[rC]at hd;subst hd;refine⟨.x1 n k,⟨h.1.1,rfl,fun m u cs l=>?_,by simp[AC.slots],fun env2 g a j b=>?_⟩,h.2⟩
   .grind[AC.slots,List.mem_singleton]
   .have:=g q (by simp[AC.slots]);simp only[AC.wp,this,i];exact⟨⟨a,h.1.2⟩,b⟩
  .exact h.elim
 case tB n s y=>
  subst c;simp only[AC.wp]at h;split at h
  .rename_i t m es m' k hd i w;simp only[rC]at hd;subst hd;obtain⟨B,C,k3,E,F,G⟩:=h;refine⟨.xo n (es++k),⟨E,rfl,fun x o cs l=>?_,by simp[AC.slots],fun env2 g a j b=>?_⟩,G⟩
   .grind[AC.slots,fG]
   .have z:=g s (by simp[AC.slots]);have A:=fH (O:=O) (env2:=env2) (y:=y) (fun x o=>g x (by simp[AC.slots,o]));simp only[AC.wp,z,i,A,w];exact⟨B,C,k3,a,F,b⟩
  .exact h.elim
def PR.tk(r:PR):Option (Ne×Nat):=
 match r.op.tkn,r.guard,r.dst with
 |some qs,none,some d=>some (qs,d)|_,_,_=>none
variable{r:PR}
theorem PR.tk_some{d:Nat}(h:r.tk=some (qs,d)):r.op.tkn=some qs/\r.guard=none/\r.dst=some d:=by
 unfold PR.tk at h
 grind
theorem QG{S:FuncId->Fq->Af->Prop}{d:Nat}{K:AA->Prop}(g:r.tk=some (qs,d))(h:r.wp S O K):∃e,Ua S r.op qs d O e/\K ((d,e)::LA qs O)/\
  ∀env2,(∀n∈r.op.slots,env2.get n=O.get n)->env2.l3 d=true->∀a:AA->Prop,a ((d,e)::LA qs env2)->r.wp S env2 a:=by
 obtain ⟨l,o,t⟩:=PR.tk_some g;have k:r.op.wp S O (some d) fun e env'=>K ((d,e)::env'):=by
  grind [PR.wp,AA.put]
 obtain ⟨e,c,u⟩:=take l k;refine⟨e,c,u,fun env2 i j a b=>?_⟩;unfold PR.wp;rw[o];simp only[t,AA.put];exact c.again env2 i j (fun e env'=>a ((d,e)::env')) b
def sA(D:Ne)(p q:PR):Bool:=
 match q.tk with
 |some (qs,d)=>PR.sb D p&&D.contains d&&qs.all D.contains&&DG p.dst.toList (d::q.op.slots)&&DG (d::qs) (p.op.slots++p.s7)&&DG p.op.tT q.op.slots|none=>false
def tu(p q:PR):Bool:=
 match p.tk,q.tk with
 |some (_,dp),some (_,dq)=>DG (dp::p.op.slots) (dq::q.op.slots)|_,_=>false
section
variable{P:Program}{F0:Nat->Nat->Prop}{w0:W0}{N:Nat}{ops:Array Oper}{K:AA->Prop}{D:Ne}
variable{r:PR}{O ra:AA}{e:EV}{f:Ar}
theorem JY.away{S:FuncId->Fq->Af->Prop}{d:Nat}(h:JY S r d O ra e f){x:Nat}(a:x∉r.op.slots)(b:∀y,(O.get y).rS≠some x)(u:EV):f.on x u=u:=by
 have c:=h.slot;have g:=h.cell;cases f with
 |none=>rfl|slot s t=>
  grind [Ar.on,Bh]
 |cell s off t=>
  simp only[Ar.on]
  grind
theorem JY.stay{S:FuncId->Fq->Af->Prop}{d:Nat}(h:JY S r d O ra e f){x:Nat}(a:x∉r.op.tT)(b:∀cs,O.get x≠.bx cs):f.on x (O.get x)=O.get x:=by
 have c:=h.slot;have g:=h.ok;cases f with
 |none=>rfl|slot s t=>
  grind [Ar.on]
 |cell s off t=>
  simp only[Ar.on]
  grind
theorem Ok(h:PR.sb D r=true):∃d,r.dst=some d/\r.op.mov=true/\(r.op.rE=true->r.guard=none)/\DG r.op.tz D=true/\(r.op.rE=true\/d∈D):=by
 simp only[PR.sb,rt,Bool.or_eq_true,Bool.not_eq_true']at h;obtain⟨⟨⟨⟨b,c⟩,g⟩,i⟩,j⟩:=h;obtain⟨d,hd⟩:=Option.isSome_iff_exists.1 c;refine⟨d,hd,b,fun a=>?_,i,?_⟩
 .rcases g with h|h
  .rw[a]at h;cases h
  .simpa using h
 grind [PR.old]
variable{rs:List PR}
theorem eu(hR:Hn F0 w0 N O)(hj:JD D O){op:Oper}{p q:PR}(hp:Hq P N ops op p=true)(a:sA D p q=true)(h:DK (AH P) K (p::q::rs) O):DK (AH P) K (q::p::rs) O:=by
 unfold sA at a;split at a
 .rename_i qs d ht;simp only[rt,List.contains_eq_mem,sN,List.all_eq_true]at a;obtain⟨⟨⟨⟨⟨Z,dD⟩,sD⟩,T⟩,U⟩,c3⟩:=a;obtain⟨w,J,pm,pg',pb,_⟩:=Ok Z;rw[J]at T;simp only[Option.toList_some]at T;have hpd:w≠d:=fun e=>AZ T (x:=w) (by simp) (by simp[e]);have H:w∉q.op.slots:=fun e=>AZ T (x:=w) (by simp) (by simp[e]);have i:d∉p.op.slots:=fun e=>AZ U (x:=d) (by simp) (CU e);have dng:d∉p.s7:=fun e=>AZ U (x:=d) (by simp) (Cv e);have j:∀s∈qs,s∉p.op.slots:=fun s V e=>AZ U (x:=s) (by simp[V]) (CU e);have sng:∀s∈qs,s∉p.s7:=fun s V e=>AZ U (x:=s) (by simp[V]) (Cv e);obtain⟨e',A,h⟩:=h;have hR':=hR.congr A.symm;have k:=hj.congr A.symm;obtain⟨ra,⟨⟨e1,l,hw⟩,ep,F,o⟩,hR1⟩:=Dl hR' hp (Jb J pm pg' h);have g1:∀n,e1.get n=if w=n then ep else F.on n (e'.get n):=fun n=>by
   rw [l.1,o.ra,AA.hV,Ar.get]
  have I:∀x,x∈D->x∉p.op.slots->∀e,F.on x e=e:=fun x W X e=>o.away X (fun y hy=>k.no hy W) e;obtain⟨e,M,hK,Q⟩:=QG ht hw;have z:∀n∈q.op.slots,e'.get n=e1.get n:=by
   intro n R;have hne:w≠n:=fun e=>H (e▸R);have hb:=M.slbx n R;rw[g1,bk hne]at hb|-;refine(o.stay (fun hd=>AZ c3 hd R) (fun cs hc=>?_)).symm;refine hb (match F.on n (.bx cs)with|.bx cs'=>cs'|_=>cs) ?_;rw[hc];cases F with
   |none=>rfl|slot s t=>
    have:=o.ok;simp only[Ar.on];split
    .rename_i e;subst e;simp only[Ar.ok]at this;rw[hc]at this;cases this
    .rfl
   |cell s off t=>
    simp only[Ar.on];split<;>rfl
  have hdn:e'.l3 d=true:=by
   have:=M.dno;rw[l.2,o.ra,AA.kq,Ar.l3,rt]at this;exact this.2
  refine ⟨e',A,Q e' z hdn _ ⟨_,.refl _,?_⟩⟩;have C:∀m,m≠d->m∉qs->AA.get ((d,e)::LA qs e') m=e'.get m:=fun m u b=>by
   rw [AA.hV,bk (fun e=>u e.symm),JA,bk b]
  have nr:∀c,AA.l3 c ((d,e)::LA qs e')=AA.l3 c e':=fun c=>by
   rw [AA.kq,FW,EV.sz,M.ul];rfl
  have L:Cz p.op F (some w) e' ((d,e)::LA qs e'):=by
   refine ⟨fun x B=>.inl (C x (fun e=>i (e▸B)) (fun e=>j x e B)),fun x B r hr=>.inl (C r (fun e=>k.no hr (e▸dD)) (fun e=>k.no hr (sD r e))),fun x B _=>C x (fun e=>i (e▸Bh B)) (fun e=>j x e (Bh B)),?_,fun R d' hd' Y=>by rw[nr];exact Y⟩;have u:=o.slot;have b:=o.ok;have h4:=o.cell;cases F with
   |none=>trivial|slot x t=>
    simp only[Ar.ok]at b|-;rw[C x (fun e=>i (e▸Bh (u _ _ rfl))) (fun e=>j x e (Bh (u _ _ rfl)))];exact b
   |cell x off t=>
    obtain ⟨ds,h5,h6⟩:=b;refine⟨ds,?_,h6⟩;rw[C x (fun e=>?_) (fun e=>?_)]
    .exact h5
    .rcases h4 _ _ _ rfl with h7|⟨y,_,h8⟩
     .exact i (e▸h7)
     .exact k.no h8 (e▸dD)
    .rcases h4 _ _ _ rfl with h7|⟨y,_,h8⟩
     .exact j x e h7
     .exact k.no h8 (sD x e)
  have hgp:∀g∈p.s7,AA.get ((d,e)::LA qs e') g=e'.get g:=fun g G=>C g (fun e=>dng (e▸G)) (fun e=>sng g e G);refine o.again _ L hgp _ (E6 hK ?_);refine⟨fun m=>?_,fun c=>?_⟩
  .simp only[AA.hV,Ar.get,g1,JA];by_cases u:d=m
   .subst u;rw[az rfl,bk hpd,I d dD i,az rfl]
   .rw[bk u];by_cases E:w=m
    .have:m∉qs:=fun Z=>H (E▸M.sub m Z);rw[bk this,az E,az E]
    .rw[bk E];by_cases b:m∈qs
     .rw[az b,bk E,I m (sD m b) (j m b),bk u,az b]
     .rw[bk b,bk E,bk u,bk b]
  .simp only[AA.kq,Ar.l3,l.2,o.ra,FW,EV.sz,M.ul];cases(match ep.rS with|some s=>c !=s|none=>true)<;>rfl
 .cases a
theorem eo(hR:Hn F0 w0 N O)(hj:JD D O){op oq:Oper}{p q:PR}(hp:Hq P N ops op p=true)(hq:Hq P N ops oq q=true)(a:sA D q p=true)(h:DK (AH P) K (p::q::rs) O):DK (AH P) K (q::p::rs) O:=by
 unfold sA at a;split at a
 .rename_i w d ht;simp only[rt,List.contains_eq_mem,sN,List.all_eq_true]at a;obtain⟨⟨⟨⟨⟨hm,M⟩,sD⟩,Z⟩,c2⟩,c3⟩:=a;obtain⟨C,Q,qm,qg',qb,qold⟩:=Ok hm;rw[Q]at Z;simp only[Option.toList_some]at Z;have hqd:C≠d:=fun e=>AZ Z (x:=C) (by simp) (by simp[e]);have I:C∉p.op.slots:=fun e=>AZ Z (x:=C) (by simp) (by simp[e]);have l:d∉q.op.slots:=fun e=>AZ c2 (x:=d) (by simp) (CU e);have dng:d∉q.s7:=fun e=>AZ c2 (x:=d) (by simp) (Cv e);have o:∀s∈w,s∉q.op.slots:=fun s hs e=>AZ c2 (x:=s) (by simp[hs]) (CU e);have sng:∀s∈w,s∉q.s7:=fun s hs e=>AZ c2 (x:=s) (by simp[hs]) (Cv e);obtain⟨e',E,h⟩:=h;have hR':=hR.congr E.symm;have hj':=hj.congr E.symm;obtain⟨ra,⟨⟨B,b,hw⟩,V,R,F,T⟩,hR1⟩:=Dl (K:=fun ra=>(∃B,IB B ra/\q.wp (AH P) B (DK (AH P) K rs))/\∃V,Ua (AH P) p.op w d e' V/\ra=(d,V)::LA w e'/\∀env2,(∀n∈p.op.slots,env2.get n=e'.get n)->env2.l3 d=true->∀K2:AA->Prop,K2 ((d,V)::LA w env2)->p.wp (AH P) env2 K2) hR' hp (by
   obtain ⟨e,Y,k2,k3⟩:=QG ht h;exact k3 e' (fun _ _=>rfl) Y.dno _ ⟨k2,e,Y,rfl,k3⟩)
  subst F;have j:JD D B:=by
   intro x u;rw[b.2,AA.kq,FW,EV.sz,R.ul];exact hj' x u
  obtain ⟨X1,⟨hK,eq,U,A⟩,_⟩:=Dl (hR1.congr b.symm) hq (Jb Q qm qg' hw);have G:∀n,n≠d->n∉w->B.get n=e'.get n:=fun n i k=>by
   rw [b.1,AA.hV,bk (fun e=>i e.symm),JA,bk k]
  have J:∀x,x∈D->x∉q.op.slots->∀e,U.on x e=e:=fun x hxD hxn e=>A.away hxn (fun y hy=>j.no hy hxD) e;have L:Cz q.op U (some C) B e':=by
   refine ⟨fun x u=>.inl (G x (fun e=>l (e▸u)) (fun e=>o x e u)).symm,fun x u r hr=>.inl (G r (fun e=>j.no hr (e▸M)) (fun e=>j.no hr (sD r e))).symm,fun x u _=>(G x (fun e=>l (e▸Bh u)) (fun e=>o x e (Bh u))).symm,?_,fun W d' hd' H=>?_⟩
   .have i:=A.slot;have k:=A.ok;have X:=A.cell;cases U with
    |none=>trivial|slot x t=>
     simp only[Ar.ok]at k|-;rw[<-G x (fun e=>l (e▸Bh (i _ _ rfl))) (fun e=>o x e (Bh (i _ _ rfl)))];exact k
    |cell x off t=>
     obtain ⟨ds,h5,h6⟩:=k;refine⟨ds,?_,h6⟩;rw[<-G x (fun e=>?_) (fun e=>?_)]
     .exact h5
     .rcases X _ _ _ rfl with h7|⟨y,_,h8⟩
      .exact l (e▸h7)
      .exact j.no h8 (e▸M)
     .rcases X _ _ _ rfl with h7|⟨y,_,h8⟩
      .exact o x e h7
      .exact j.no h8 (sD x e)
   .rw[b.2,AA.kq,FW,rt]at H;exact H.2
  have hgq:∀g∈q.s7,e'.get g=B.get g:=fun g hg=>(G g (fun e=>dng (e▸hg)) (fun e=>sng g e hg)).symm;refine⟨e',E,A.again e' L hgq _ ⟨_,.refl _,T _ (fun n W=>?_) ?_ _ (E6 hK ?_)⟩⟩
  .have hne:C≠n:=fun e=>I (e▸W);rw[AA.hV,bk hne,Ar.get];have hb:=R.slbx n W;have Y:=A.slot;have k2:=L.eff;cases U with
   |none=>rfl|slot s t=>
    simp only[Ar.on];rw[bk];intro e;subst e;exact AZ c3 (Y _ _ rfl) W
   |cell s off t=>
    simp only[Ar.on];rw[bk];intro e;subst e;obtain⟨cs,k3,_⟩:=k2;exact hb cs k3
  .rw[AA.kq,Ar.l3,R.dno,Bool.and_true];refine Ny (fun s he=>?_);rcases A.rS s he with i|⟨x,_,k⟩
   .exact fun e=>AZ qb i (e▸M)
   .exact fun e=>j.no k (e▸M)
  .rw[A.ra];have hdd:∀e,U.on d e=e:=J d M l;refine⟨fun m=>?_,fun c=>?_⟩
   .simp only[AA.hV,Ar.get,JA,b.1];by_cases i:C=m
    .have z:m∉w:=fun hm=>I (i▸R.sub m hm);have X:¬d=m:=fun e=>hqd (i.trans e.symm);rw[az i,bk X,bk z,az i]
    .rw[bk i];by_cases k:d=m
     .subst k;rw[az rfl,az rfl,hdd]
     .rw[bk k,bk k];by_cases z:m∈w
      .rw[az z,az z,J m (sD m z) (o m z)]
      .rw[bk z,bk z,bk i]
   .simp only[AA.kq,Ar.l3,b.2,FW,EV.sz,R.ul];cases(match eq.rS with|some s=>c !=s|none=>true)<;>rfl
 .cases a
theorem fD{S:FuncId->Fq->Af->Prop}{p q:PR}(a:tu p q=true)(h:DK S K (p::q::rs) O):DK S K (q::p::rs) O:=by
 unfold tu at a;split at a
 .rename_i F o qs A H I;have i:∀x,x=o\/x∈p.op.slots->x≠A/\x∉q.op.slots:=fun x i=>by
   grind [AZ,List.mem_cons_self,List.mem_cons_of_mem]
  obtain ⟨e',E,h⟩:=h;obtain⟨R,w,⟨G,b,M⟩,t⟩:=QG H h;obtain⟨eq,g,Q,j⟩:=QG I M;have J:∀n,n≠o->n∉F->G.get n=e'.get n:=fun n k u=>by
   rw [b.1,AA.hV,bk (fun e=>k e.symm),JA,bk u]
  have B:∀n∈q.op.slots,e'.get n=G.get n:=fun n l=>(J n (fun e=>(i n (.inl e)).2 l) (fun e=>(i n (.inr (w.sub n e))).2 l)).symm;have C:e'.l3 A=true:=by
   have:=g.dno;rw[b.2,AA.kq,FW,rt]at this;exact this.2
  refine ⟨e',E,j e' B C _ ⟨_,.refl _,t _ (fun n l=>?_) ?_ _ (E6 Q ?_)⟩⟩
  .rw[AA.hV,bk (fun e=>(i n (.inr l)).1 e.symm),JA,bk (fun e=>(i n (.inr l)).2 (g.sub n e))]
  .rw[AA.kq,FW,w.dno,EV.sz,g.ul];rfl
  .refine⟨fun m=>?_,fun c=>?_⟩
   .simp only[AA.hV,JA,b.1];by_cases k:A=m
    .have u:¬o=m:=fun e=>(i o (.inl rfl)).1 (e.trans k.symm);have L:m∉F:=fun z=>(i m (.inr (w.sub m z))).1 k.symm
     grind
    .rw[bk k];by_cases u:o=m
     .have L:m∉qs:=fun z=>(i m (.inl u.symm)).2 (g.sub m z)
      grind
     grind
   .simp only[AA.kq,FW,b.2,EV.sz,w.ul,g.ul]
 .cases a
end
def AC.ptr:AC->Option Nat
 |.bad s _=>some s|.sG (.s m) _=>some m|_=>none
def EV.box2(e e2:EV):Prop:=e2=e\/∃cs cs',e=.bx cs/\e2=.bx cs'
variable{m:Nat}{O:AA}
theorem Q4{S:FuncId->Fq->Af->Prop}{op:AC}{dst:Option Nat}{K:EV->AA->Prop}(ho:op.ptr=some m)(h:op.wp S O dst K):
  ∃e,K e O/\(∀s,e.rS=some s->(s∈op.tz\/(O.get m).rS=some s))/\(∀cs,e≠.bx cs)/\∀env2,(O.get m).box2 (env2.get m)->(∀s,(O.get m).rS=some s->(O.get s).box2 (env2.get s))->∀i:EV->AA->Prop,i e env2->op.wp S env2 dst i:=by
 unfold AC.ptr at ho;split at ho
 .rename_i s k;simp only[rC]at ho;subst ho;simp only[AC.wp]at h;split at h
  .rename_i cs b;refine⟨_,h,fun s' c=>.inl (by simpa[AC.tz,EV.rS]using c.symm),by simp,fun env2 a _ i g=>?_⟩;have:∃cs',env2.get s=.bx cs':=by
    rcases a with a|⟨_,cs',_,a⟩
    .grind
    .exact⟨cs',a⟩
   obtain ⟨cs',j⟩:=this;simp only[AC.wp,j];exact g
  .rename_i row b;refine⟨_,h,by simp[EV.rS],by simp,fun env2 a _ i g=>?_⟩;rcases a with a|⟨cs,_,a,_⟩
   .simp only[AC.wp,a,b];exact g
   .rw[b]at a;cases a
  .exact h.elim
 .rename_i m' k;simp only[rC]at ho;subst ho;simp only[AC.wp,AD.ev]at h;split at h
  .rename_i row b;refine⟨_,h,by simp[EV.rS],by simp,fun env2 a _ i g=>?_⟩;rcases a with a|⟨cs,_,a,_⟩
   .simp only[AC.wp,AD.ev,a,b];exact g
   .rw[b]at a;cases a
  .rename_i s off b;split at h
   .rename_i cs t;refine⟨_,h,fun s' c=>.inr (by rw[b];exact c),by simp,fun env2 a j i g=>?_⟩;have o:env2.get m'=.bp s off:=by
     rcases a with a|⟨_,_,a,_⟩
     .rw[a,b]
     grind
    have l:∃cs',env2.get s=.bx cs':=by
     rcases j s (by rw[b];rfl)with j|⟨_,cs',_,j⟩
     .grind
     .exact⟨cs',j⟩
    obtain ⟨cs',l⟩:=l;simp only[AC.wp,AD.ev,o,l];exact g
   .exact h.elim
  .exact h.elim
 .cases ho
def P1(m q s:Nat)(cs:List AJ)(off:Nat)(O:AA):AA:=(s,.bx (cs.set off ⟨false,.undef⟩))::(m,.undef)::(q,.undef)::O
theorem L6{S:FuncId->Fq->Af->Prop}{m q d:Nat}{K:EV->AA->Prop}(h:(AC.s5 m q).wp S O (some d) K):
  ∃e s off cs,O.get m=.nh s off .hd/\O.get s=.bx cs/\(∀cs,O.get q≠.bx cs)/\O.l3 d=true/\e.rS=none/\K e (P1 m q s cs off O)/\
   ∀env2,env2.get m=O.get m->env2.get q=O.get q->env2.get s=O.get s->env2.l3 d=true->∀c:EV->AA->Prop,c e (P1 m q s cs off env2)->(AC.s5 m q).wp S env2 (some d) c:=by
 simp only[AC.wp]at h;split at h
 .rename_i C s off n E b i j;simp only[rC]at b;subst b;split at h
  .rename_i cs k;cases a:O.nat s off with
   |none=>rw[a]at h;exact h.elim|some es=>
    rw [a]at h;simp only[AQ]at h;obtain⟨z,⟨A,k3⟩,B⟩:=h;refine⟨_,s,off,cs,i,k,by rw[j];simp,A,rfl,B,fun env2 l o g t c u=>?_⟩;have w:env2.nat s off=some es:=by rw[<-a];exact AA.sH g
    simp only[AC.wp,l,o,g,i,j,k,w,AQ];exact⟨z,⟨t,k3⟩,u⟩
  .exact h.elim
 .exact h.elim
def sx(D:Ne)(p q:PR):Bool:=
 match p.op.ptr,p.guard,p.dst,q.op,q.guard,q.dst with
 |some x,none,some dp,.s5 m qq,none,some d=>D.contains d&&D.contains dp&&D.contains m&&D.contains qq&&DG [dp] [d,m,qq]&&DG [x] [d,m,qq]&&DG p.op.tz D&&dp !=x&&PR.sb D p|_,_,_,_,_,_=>false
variable{off:Nat}
theorem Je{m q s:Nat}{cs:List AJ}(n:Nat):AA.get (P1 m q s cs off O) n=if s=n then .bx (cs.set off ⟨false,.undef⟩)else if m=n then .undef else if q=n then .undef else O.get n:=rfl
theorem JK{m q s:Nat}{cs:List AJ}(c:Nat):AA.l3 c (P1 m q s cs off O)=AA.l3 c O:=by
 simp [P1,AA.kq,EV.sz,EV.rS]
section
variable{S:FuncId->Fq->Af->Prop}{K:AA->Prop}{D:Ne}
variable{O:AA}{rs:List PR}
theorem ey(Z:JD D O){p q:PR}(a:sx D p q=true)(h:DK S K (p::q::rs) O):DK S K (q::p::rs) O:=by
 unfold sx at a;split at a
 .rename_i x g m A d B L M Q R T;simp only[rt,List.contains_eq_mem,sN,bne_iff_ne,ne_eq]at a;obtain⟨⟨⟨⟨⟨⟨⟨⟨W,dpD⟩,mD⟩,qD⟩,G⟩,H⟩,pb⟩,hdx⟩,_⟩:=a;have n1:g≠d:=fun e=>AZ G (x:=g) (by simp) (by simp[e]);have U:g≠m:=fun e=>AZ G (x:=g) (by simp) (by simp[e]);have n3:g≠A:=fun e=>AZ G (x:=g) (by simp) (by simp[e]);have n4:x≠d:=fun e=>AZ H (x:=x) (by simp) (by simp[e]);have n5:x≠m:=fun e=>AZ H (x:=x) (by simp) (by simp[e]);have n6:x≠A:=fun e=>AZ H (x:=x) (by simp) (by simp[e]);obtain⟨e',w,h⟩:=h;have k:=Z.congr w.symm;simp only[PR.wp,L,M,AA.put]at h;obtain⟨e,⟨e1,b,X⟩,hre,I,z⟩:=Q4 B h;simp only[PR.wp,R,T,Q,AA.put]at X;obtain⟨eq,s,off,cs,k1,J,k3,Y,k5,hK,j⟩:=L6 X;have l:∀n,n≠g->e1.get n=e'.get n:=fun n hn=>by rw[b.1,AA.hV,bk (fun e=>hn e.symm)]
  have o:s≠g:=by
   intro hs;subst hs;rw[b.1,AA.hV,az rfl]at J;exact I cs J
  have C:e'.get m=.nh s off .hd:=by rw[<-l m (fun e=>U e.symm)];exact k1
  have t:e'.get s=.bx cs:=by rw[<-l s o];exact J
  have E:s∉D:=k.no (x:=m) (by rw[C];rfl);have V:s≠d:=fun e=>E (e▸W);have F:e'.l3 d=true:=by rw[b.2,AA.kq,rt]at Y;exact Y.2
  refine ⟨e',w,?_⟩;simp only[PR.wp,R,T,Q,AA.put];refine j e' (l m (fun e=>U e.symm)).symm (l A (fun e=>n3 e.symm)).symm (l s o).symm F _ ⟨_,.refl _,?_⟩;simp only[PR.wp,L,M,AA.put];refine z _ ?_ (fun r hr=>?_) _ (E6 hK ?_)
  .rw[AA.hV,bk (fun e=>n4 e.symm),Je];by_cases u:s=x
   .subst u;rw[az rfl];exact .inr ⟨cs,_,t,rfl⟩
   .rw[bk u,bk (fun e=>n5 e.symm),bk (fun e=>n6 e.symm)];exact .inl rfl
  .have i:r∉D:=k.no hr;rw[AA.hV,bk (fun(e:d=r)=>i (e▸W)),Je];by_cases u:s=r
   .subst u;rw[az rfl];exact .inr ⟨cs,_,t,rfl⟩
   .rw[bk u,bk (fun(e:m=r)=>i (e▸mD)),bk (fun(e:A=r)=>i (e▸qD))];exact .inl rfl
  .refine⟨fun n=>?_,fun c=>?_⟩
   .simp only[AA.hV,Je,b.1]
    grind
   .simp only[AA.kq,JK,b.2,EV.sz,k5]
    grind
 .cases a
theorem ex(W:JD D O){p q:PR}(a:sx D q p=true)(h:DK S K (p::q::rs) O):DK S K (q::p::rs) O:=by
 unfold sx at a;split at a
 .rename_i x g m z d A H I J L M;simp only[rt,List.contains_eq_mem,sN,bne_iff_ne,ne_eq]at a;obtain⟨⟨⟨⟨⟨⟨⟨⟨R,C⟩,mD⟩,qD⟩,E⟩,F⟩,qb⟩,hdx⟩,_⟩:=a;have n1:g≠d:=fun e=>AZ E (x:=g) (by simp) (by simp[e]);have n2:g≠m:=fun e=>AZ E (x:=g) (by simp) (by simp[e]);have n3:g≠z:=fun e=>AZ E (x:=g) (by simp) (by simp[e]);have n4:x≠d:=fun e=>AZ F (x:=x) (by simp) (by simp[e]);have n5:x≠m:=fun e=>AZ F (x:=x) (by simp) (by simp[e]);have n6:x≠z:=fun e=>AZ F (x:=x) (by simp) (by simp[e]);obtain⟨e',o,h⟩:=h;have j:=W.congr o.symm;simp only[PR.wp,L,M,J,AA.put]at h;obtain⟨ep,s,off,cs,k1,k2,k3,k4,T,⟨U,b,V⟩,t⟩:=L6 h;simp only[PR.wp,H,I,AA.put]at V;obtain⟨e,hK,G,hnb,i⟩:=Q4 A V;have k:s∉D:=j.no (x:=m) (by rw[k1];rfl);have hsd:s≠d:=fun e=>k (e▸R);have g1:∀n,n≠d->n≠m->n≠z->(U.get n).box2 (e'.get n):=by
   intro n u X Y;rw[b.1,AA.hV,bk (fun e=>u e.symm),Je];by_cases Q:s=n
   .subst Q;rw[az rfl];exact .inr ⟨_,cs,rfl,k2⟩
   .rw[bk Q,bk (fun e=>X e.symm),bk (fun e=>Y e.symm)];exact .inl rfl
  have l:JD D U:=by
   intro y Z;rw[b.2,AA.kq,JK,EV.sz,T];exact j y Z
  refine ⟨e',o,?_⟩;simp only[PR.wp,H,I,AA.put];refine i e' (g1 x n4 n5 n6) (fun r w=>?_) _ ⟨_,.refl _,?_⟩
  .have hrD:r∉D:=l.no w
   grind
  .simp only[PR.wp,L,M,J,AA.put];have B:s≠g:=fun e=>k (e▸C);refine t _ (by rw[AA.hV,bk n2]) (by rw[AA.hV,bk n3]) (by rw[AA.hV,bk (fun e=>B e.symm)]) ?_ _ (E6 hK ?_)
   .rw[AA.kq,k4,Bool.and_true];refine Ny (fun r w=>?_);rcases G r w with u|u
    .grind[AZ]
    .exact fun(e:r=d)=>l.no u (e▸R)
   .refine⟨fun n=>?_,fun c=>?_⟩
    .simp only[AA.hV,Je,b.1]
     grind
    .simp only[AA.kq,JK,b.2,EV.sz,T]
     grind
 .cases a
end
def tR(p:PR):Bool:=p.tk.isSome||(match p.op,p.guard,p.dst with|.s5 _ _,none,some _=>true|_,_,_=>false)
variable{O:AA}
theorem Sb{S:FuncId->Fq->Af->Prop}{p:PR}{K:AA->Prop}(ho:tR p=true)(h:p.wp S O K):∃ra,K ra/\(∀c,ra.l3 c=O.l3 c)/\∀b:AA->Prop,b ra->p.wp S O b:=by
 simp only[tR,Bool.or_eq_true]at ho;rcases ho with ho|ho
 .obtain⟨⟨qs,d⟩,i⟩:=Option.isSome_iff_exists.1 ho;obtain⟨e,g,j,a⟩:=QG i h;exact⟨_,j,fun c=>by rw[AA.kq,FW,EV.sz,g.ul];rfl,a O (fun _ _=>rfl) g.dno⟩
 grind [PR.wp,AA.put,L6,AA.kq,JK,EV.sz]
theorem VF{D:Ne}{p q:PR}(h:sA D q p=true):tR p=true:=by grind[sA,tR]
theorem TW{D:Ne}{p q:PR}(h:sA D p q=true):PR.sb D p=true:=by
 unfold sA at h
 grind
theorem VJ{p q:PR}(h:tu p q=true):tR p=true:=by grind[tu,tR]
theorem TX{D:Ne}{p q:PR}(h:sx D p q=true):PR.sb D p=true:=by
 unfold sx at h
 grind
theorem VG{D:Ne}{p q:PR}(h:sx D q p=true):tR p=true:=by grind[sx,tR]
end Go.Sf
namespace Go.Sf
open Go.RowKit (Below)
def Ic(rs:List PR)(i:Nat):PR:=(rs[i]?).getD ⟨none,.tW 0,none⟩
def uu(p:PR):Bool:=match p.op,p.guard,p.dst with
 |.sF _,none,some _=>true|_,_,_=>false
def tf(p q:PR):Bool:=match p.op,p.guard,p.dst,q.op,q.guard,q.dst with
 |.sF gs,none,some dp,.uv _,none,some dq=>dp !=dq&&!(gs.flatMap GC.sl).contains dq|_,_,_,_,_,_=>false
theorem VE{p q:PR}(h:tf p q=true):uu p=true:=by grind[tf,uu]
def O4(p:PR):Bool:=match p.op,p.guard,p.dst with
 |.st _ (.s _) _,none,none=>true|.t6 _ _ _,none,none=>true|_,_,_=>false
def tg(D:Ne)(p q:PR):Bool:=match p.op,p.guard,p.dst,q.op,q.guard,q.dst with
 |.t6 x v _,none,none,.uX (.s _) _ _,none,some d=>D.contains d&&!x.sl.contains d&&!v.sl.contains d|_,_,_,_,_,_=>false
def Lt(D:Ne)(p q:PR):Bool:=match p.op,p.guard,p.dst,q.op,q.guard,q.dst with
 |.st _ (.s x) v,none,none,.bad m _,none,some d=>D.contains d&&d !=x&&d !=m&&!v.sl.contains d&&!v.sl.contains m|.st _ (.s x) v,none,none,.sG (.s m) _,none,some d=>D.contains d&&d !=x&&d !=m&&!v.sl.contains d&&!v.sl.contains m|_,_,_,_,_,_=>false
theorem VD{D:Ne}{p q:PR}(h:Lt D p q=true):O4 p=true:=by grind[Lt,O4]
theorem VH{D:Ne}{p q:PR}(h:tg D p q=true):O4 p=true:=by grind[tg,O4]
def AC.vops:AC->Option (List AD)
 |.len x=>some [x]|.mm _ x y=>some [x,y]|.tw _ x lo hi=>some (x::(lo.toList++hi.toList))|.bin _ _ x y=>some [x,y]|.uF _ x=>some [x]|.va x _=>some [x]|.vd x _=>some [x]|_=>none
def tM(D:Ne)(p q:PR):Bool:=match p.op.vops,p.guard,p.dst,q.op,q.guard,q.dst with
 |some xs,none,some d,.st _ (.s x) v,none,none=>PR.sb D p&&d !=x&&!v.sl.contains d&&DG (xs.flatMap AD.sl) v.sl|_,_,_,_,_,_=>false
def tJ(D:Ne)(p q:PR):Bool:=match p.op,p.guard,p.dst,q.op,q.guard,q.dst with
 |.vn b _,none,some d,.st _ (.s x) v,none,none=>PR.sb D p&&D.contains b&&b !=x&&d !=x&&d !=b&&!v.sl.contains d&&!v.sl.contains b|.bad b _,none,some d,.st _ (.s x) v,none,none=>PR.sb D p&&d !=x&&!v.sl.contains d&&!v.sl.contains b|_,_,_,_,_,_=>false
def tn(D:Ne)(p q:PR):Bool:=P3 D p q||ti D p q||tf p q||tH D p q||tK D p q||(Lt D p q||tg D p q)||tM D p q||tJ D p q||(sA D p q||sA D q p||tu p q||sx D p q||sx D q p)
def okQ(p:PR):Bool:=match p.op,p.guard,p.dst with
 |.uq _,none,some _=>true|.tG _ _ _ _,none,some _=>true|_,_,_=>false
theorem TU{D:Ne}{p q:PR}(h:tn D p q=true):((PR.sb D p=true\/uu p=true)\/O4 p=true)\/tR p=true:=by
 simp [tn]at h;rcases h with(((((((h|h)|h)|h)|h)|h)|h)|h)|((((h|h)|h)|h)|h)
 rotate_right 5
 .grind[TW]
 .exact .inr (VF h)
 .exact .inr (VJ h)
 .grind[TX]
 .exact .inr (VG h)
 all_goals refine .inl ?_
 .simp[P3]at h
  grind
 .unfold ti at h
  grind
 .grind[VE]
 .unfold tH at h
  grind
 .unfold tK at h
  grind
 .grind[VD,VH]
 .unfold tM at h
  grind
 .unfold tJ at h
  grind
def Zi(ops:Array Oper):Ne:=
 ops.toList.foldl (fun acc o=>acc++[o.after.toList.foldl (fun m e=>if Region.binds .any e then m|||(1<<<e.on)|||acc.getD e.on 0 else m) 0]) []
def okCa(p:PR):Bool:=match p.op,p.guard,p.dst with
 |.sW _ _ _,none,some _=>true|_,_,_=>false
variable{O:AA}
theorem YE{S:FuncId->Fq->Af->Prop}{p:PR}{K:AA->Prop}(ho:okCa p=true)(h:p.wp S O K):p.wp S O fun ra=>K ra/\∀c,ra.l3 c=O.l3 c:=by
 unfold okCa at ho;split at ho
 .rename_i f args i d g j k;simp[PR.wp,g,j,k,AC.wp,AA.put]at h|-;split at h
  .rename_i t q a u;simp at a;subst a;split at h
   .rename_i cs w;refine⟨h.1,?_⟩;cases hv:E8 O i args with
    |none=>rw[hv]at h;exact h.2.elim|some z=>
     rw [hv]at h;obtain⟨_,r,l,o⟩:=h;refine⟨r,l,fun b=>⟨o b,fun c=>?_⟩⟩;have:EV.sz c r.uf=true:=by cases r<;>rfl
     rw [AA.kq,AA.kq,this];rfl
   .exact h.elim
  .exact h.elim
 .cases ho
def Sa(D:Ne)(r:PR):Bool:=
 IG r.op||uu r||okQ r||tR r||okCa r||(r.op.mov&&r.dst.isSome&&(!r.op.rE||r.guard.isNone)&&DG r.op.tz D)
def N0(P:Program)(N:Nat)(D:Ne)(ops:Array Oper)(rs:List PR):Bool:=
 let n:=ops.size
 let M:=Zi ops
 Hw P N ops ops.toList rs&&(List.range n).all (fun i=>Sa D (Ic rs i)) &&
 (List.range n).all (fun i=>match ops[i]? with
  |some o=>o.after.toList.all fun e=>!Region.binds .any e||decide (e.on<i)|none=>false) &&
 (List.range n).all (fun i=>(List.range n).all fun j=>!(M.getD i 0).testBit j||(match ops[i]? with
  |some o=>o.after.toList.any fun e=>Region.binds .any e&&(e.on==j||(decide (e.on<i)&&(M.getD e.on 0).testBit j))|none=>false)) &&
 (List.range n).all (fun i=>(List.range i).all fun j=>(M.getD i 0).testBit j||tn D (Ic rs j) (Ic rs i))
section
variable{P:Program}{F0:Nat->Nat->Prop}{w0:W0}{N:Nat}{p:Option (Nat×Value)}{ops:Array Oper}{K:AA->Prop}{D:Ne}
variable{f:Ar}{d:Option Nat}{O:AA}
theorem Cz.refl{op:AC}(h:f.ok O):Cz op f d O O:=
 ⟨fun _ _=>.inl rfl,fun _ _ _ _=>.inl rfl,fun _ _ _=>rfl,h,fun _ _ _ h=>h⟩
theorem HU(d:Nat)(a:AA):∀(qs:Ne)(O:AA),AA.l3 d (Jm a qs O)=AA.l3 d O
 |[],_=>rfl|q::qs,O=>by
  rw [Jm,AA.kq,HU d a qs O]
  grind [HQ,EV.sz,EV.rS]
theorem ac(d:Nat)(e:EV)(O:AA)(g:GC)(h:d∉g.sl):GC.cell ((d,e)::O) g=g.cell O:=by
 cases g with
 |z c=>rfl|v x k n=>
  cases x with
  |s q=>
   grind [GC.sl,List.mem_singleton,GC.cell,AD.val,AD.ev,AA.hV]
  |c t=>rfl
 |w q=>
  grind [GC.sl,List.mem_singleton,GC.cell,AA.hV]
 |g q k n=>
  grind [GC.sl,List.mem_singleton,GC.cell,AA.hV]
theorem SH(d:Nat)(e:EV)(O:AA):∀(gs:List GC),d∉gs.flatMap GC.sl->FO ((d,e)::O) gs=FO O gs
 |[],_=>rfl|g::gs,h=>by
  rw [List.flatMap_cons,List.mem_append,not_or]at h;simp[FO,ac d e O g h.1,SH d e O gs h.2]
variable{gs:List GC}
theorem bi{q:Nat}(h:q∈gs.filterMap GC.slot):q∈gs.flatMap GC.sl:=by
 rw [List.mem_filterMap]at h;obtain⟨g,a,e⟩:=h;rw[List.mem_flatMap];refine⟨g,a,?_⟩;cases g<;>simp[GC.slot]at e<;>simp[GC.sl,e]
theorem Oy{S:FuncId->Fq->Af->Prop}{p:PR}{K:AA->Prop}{d:Nat}(c:p.op=.sF gs)(g:p.guard=none)(i:p.dst=some d)(h:p.wp S O K):
  ∃cs,((gs.filterMap GC.src).Nodup/\d∉gs.filterMap GC.slot)/\FO O gs=some cs/\K ((d,.sq cs)::Jm O (gs.filterMap GC.slot) O):=by
 simp only[PR.wp,c,g,i,AC.wp,AA.put]at h;obtain⟨j,b⟩:=h;cases a:FO O gs with
 |none=>rw[a]at b;exact b.elim|some k=>rw[a]at b;exact⟨k,j,rfl,b⟩
theorem L8{S:FuncId->Fq->Af->Prop}{p:PR}{K:AA->Prop}{d:Nat}{cs:List AJ}(b:p.op=.sF gs)(c:p.guard=none)(g:p.dst=some d)(i:(gs.filterMap GC.src).Nodup/\d∉gs.filterMap GC.slot)(a:FO O gs=some cs)
  (h:K ((d,.sq cs)::Jm O (gs.filterMap GC.slot) O)):p.wp S O K:=by
 simp only[PR.wp,b,c,g,AC.wp,AA.put,a];exact⟨i,h⟩
variable{q:PR}{v:AD}
theorem Nn{S:FuncId->Fq->Af->Prop}{K:AA->Prop}{n x:Nat}(a:q.op=.st n (.s x) v)(k:q.guard=none)(hd:q.dst=none)(h:q.wp S O K):
  ∃s off cs cs' o,(AD.s x).place O=some (s,off)/\O.get s=.bx cs/\(∀g e,o=some (g,e)->v=.s g/\(∃t,e=.tv t)/\g≠s)/\K (Iy s cs' o O)/\
   ∀env2,(AD.s x).place env2=some (s,off)->env2.get s=.bx cs->v.ev env2=v.ev O->∀i:AA->Prop,i (Iy s cs' o env2)->q.wp S env2 i:=by
 unfold PR.wp at h;rw[k,a,hd]at h;simp[AC.wp]at h;split at h
 .rename_i s off w;split at h
  .rename_i cs z;split at h
   .rename_i t hv;cases v with
    |c t=>exact h.elim|s g=>
     simp only at h;simp[AD.ev]at hv;refine⟨s,off,cs,_,some (g,.tv t),w,z,?_,h.2.2.2,fun env2 l u j i b=>?_⟩
     .intro s' A he;simp at he;obtain⟨rfl,rfl⟩:=he;exact⟨rfl,⟨t,rfl⟩,h.1⟩
     .simp[AD.ev]at j;unfold PR.wp;rw[k,a,hd];simp[AC.wp,l,u,AD.ev,j,hv];exact⟨h.1,h.2.1,h.2.2.1,b⟩
   .rename_i t hv;refine⟨s,off,cs,_,none,w,z,by simp,h.2.2,fun env2 l u j i b=>?_⟩;unfold PR.wp;rw[k,a,hd];simp[AC.wp,l,u,j,hv];exact⟨h.1,h.2.1,b⟩
   .exact h.elim
  .exact h.elim
 .exact h.elim
variable{e':AA}
theorem kR{p:PR}{o:Oper}(ho:Hq P N ops o p=true){K:AA->Prop}(g:((PR.sb D p=true\/uu p=true)\/O4 p=true)\/tR p=true)(H:Hn F0 w0 N e')(I:JD D e')(h:p.wp (AH P) e' K):
  ∃ra,K ra/\Hn F0 w0 N ra/\JD D ra/\∀b:AA->Prop,b ra->p.wp (AH P) e' b:=by
 rcases g with((g|g)|g)|g
 rotate_right
 .obtain⟨ra,⟨l,Q,R⟩,a⟩:=Dl (K:=fun ra=>K ra/\(∀c,ra.l3 c=e'.l3 c)/\∀b:AA->Prop,b ra->p.wp (AH P) e' b) H ho (by
   grind [Sb])
  exact ⟨ra,l,a,fun d hd=>by rw[Q];exact I d hd,R⟩
 .simp[PR.sb,Bool.not_eq_true']at g;obtain⟨⟨⟨⟨X,Y⟩,Z⟩,pb⟩,pD⟩:=g;obtain⟨dp,T⟩:=Option.isSome_iff_exists.1 Y;have M:p.op.rE=true->p.guard=none:=fun V=>by
   rcases Z with h|h
   .rw[V]at h;cases h
   .simpa using h
  obtain ⟨ra,⟨l,ep,fp,L⟩,a⟩:=Dl H ho (Jb T X M h);exact⟨ra,l,a,L.jd pb I,fun b j=>L.again e' (.refl L.ok) (fun _ _=>rfl) _ (by rw[<-L.ra];exact j)⟩
 .unfold uu at g;split at g
  .rename_i gs d A B C;obtain⟨ra,l,a⟩:=Dl (K:=fun ra=>K ra/\∃cs,((gs.filterMap GC.src).Nodup/\d∉gs.filterMap GC.slot)/\FO e' gs=some cs/\ra=(d,.sq cs)::Jm e' (gs.filterMap GC.slot) e') H ho (by
    obtain ⟨ts,w,z,E⟩:=Oy A B C h
    grind [L8])
   obtain ⟨l,ts,w,z,rfl⟩:=l;refine⟨_,l,a,fun x U=>?_,fun b j=>L8 A B C w z j⟩;rw[AA.kq,HU,I x U];rfl
  .cases g
 .unfold O4 at g;split at g
  .rename_i n x v A B C;obtain⟨ra,⟨l,s,off,cs,cs',o',w,F,z,E,G⟩,a⟩:=Dl (K:=fun ra=>K ra/\∃s off cs cs' o,(AD.s x).place e'=some (s,off)/\e'.get s=.bx cs/\(∀J e,o=some (J,e)->v=.s J/\(∃t,e=EV.tv t)/\J≠s)/\ra=Iy s cs' o e'/\
     ∀b:AA->Prop,b (Iy s cs' o e')->p.wp (AH P) e' b) H ho (by
    obtain ⟨s,off,cs,cs',o,w,F,z,E,G⟩:=Nn A B C h;exact G e' w F rfl _ ⟨E,s,off,cs,cs',o,w,F,z,rfl,fun b j=>G e' w F rfl b j⟩)
   subst E;refine⟨_,l,a,fun d hd=>?_,G⟩;rw[Do _ _ _ _ _ (fun J e he=>by
    obtain ⟨_,⟨t,rfl⟩,_⟩:=z J e he;rfl)]
   exact I d hd
  .rename_i x v k A B C;obtain⟨ra,⟨l,Q,R⟩,a⟩:=Dl (K:=fun ra=>K ra/\(∀c,ra.l3 c=e'.l3 c)/\∀b:AA->Prop,b ra->p.wp (AH P) e' b) H ho (by
    simp [PR.wp,A,B,C,AC.wp,AA.put]at h|-;split at h
    .rename_i q i c U;split at h
     .rename_i n es u W hu;obtain⟨w,F,es',z,E,G,h7⟩:=h;refine⟨w,F,es',z,E,G,h7,fun c=>(JE (es':=es') W).2.2 c,fun b j=>?_⟩
      grind
     .exact h.elim
    .exact h.elim)
   exact ⟨ra,l,a,fun d hd=>by rw[Q];exact I d hd,R⟩
  .cases g
variable{rs:List PR}
theorem en{p q:PR}(a:tf p q=true)(h:DK (AH P) K (p::q::rs) O):DK (AH P) K (q::p::rs) O:=by
 unfold tf at a;split at a
 .rename_i gs G cs A j k l o t u;simp only[rt,bne_iff_ne,ne_eq,Bool.not_eq_true',List.contains_eq_mem,decide_eq_false_iff_not]at a;obtain⟨C,w⟩:=a;obtain⟨e',g,h⟩:=h;obtain⟨H,E,F,x,i,c⟩:=Oy j k l h;simp[PR.wp,o,t,u,AC.wp,AA.put]at c;obtain⟨b,c⟩:=c;rw[i.2,AA.kq,HU]at b;simp[EV.sz,EV.rS]at b;refine⟨e',g,?_⟩;simp[PR.wp,o,t,u,AC.wp,AA.put];refine⟨b,_,.refl _,L8 j k l E (by rw[SH _ _ _ _ w];exact F) (E6 c ?_)⟩;have B:A∉gs.filterMap GC.slot:=fun z=>w (bi z);refine⟨fun n=>?_,fun d=>?_⟩
  .rw[AA.hV,i.1,AA.hV,AA.hV,GP,GP]
   grind [AA.hV]
  .rw[AA.kq,i.2,AA.kq,AA.kq,HU,HU,AA.kq]
   grind
 .cases a
variable{ra:AA}
theorem V0{S:FuncId->Fq->Af->Prop}{K:AA->Prop}{m d s:Nat}{cs cs':List AJ}{o:Option (Nat×EV)}(a:(∃k,q.op=.bad m k)\/∃k,q.op=.sG (.s m) k)(g:q.guard=none)(hd:q.dst=some d)(A:O.get s=.bx cs)(ho:∀z e,o=some (z,e)->(∃t,e=.tv t)/\z≠m)
  (he:∀n,ra.get n=(Iy s cs' o O).get n)(h:q.wp S ra K):∃e,K ((d,e)::ra)/\∀i:AA->Prop,i ((d,e)::O)->q.wp S O i:=by
 have u:ra.get m=if s=m then .bx cs' else O.get m:=by
  grind [DJ]
 have C:∀r c,ra.get r=.bx c->∃l,O.get r=.bx l:=by
  grind [DJ]
 unfold PR.wp at h;rcases a with⟨k,a⟩|⟨k,a⟩
 .rw[g,a,hd]at h;simp[AC.wp,AA.put]at h;by_cases e:s=m
  .rw[u,az e]at h;refine⟨_,h,fun i b=>?_⟩;unfold PR.wp;rw[g,a,hd];simp[AC.wp,<-e,A,AA.put];rw[<-e]at b;exact b
  .rw[u,bk e]at h;split at h
   .rename_i c j;refine⟨_,h,fun i b=>?_⟩;unfold PR.wp;rw[g,a,hd];simp[AC.wp,j,AA.put];exact b
   .rename_i row j;refine⟨_,h,fun i b=>?_⟩;unfold PR.wp;rw[g,a,hd];simp[AC.wp,j,AA.put];exact b
   .exact h.elim
 .rw[g,a,hd]at h;simp[AC.wp,AA.put,AD.ev]at h;by_cases e:s=m
  .rw[u,az e]at h;exact h.elim
  .rw[u,bk e]at h;split at h
   .rename_i row j;refine⟨_,h,fun i b=>?_⟩;unfold PR.wp;rw[g,a,hd];simp[AC.wp,AD.ev,j,AA.put];exact b
   .rename_i r off j;split at h
    .rename_i c B;obtain⟨l,w⟩:=C r c B;refine⟨_,h,fun i b=>?_⟩;unfold PR.wp;rw[g,a,hd];simp[AC.wp,AD.ev,j,w,AA.put];exact b
    .exact h.elim
   .exact h.elim
theorem em{p q:PR}(C:JD D O)(b:Lt D p q=true)(h:DK (AH P) K (p::q::rs) O):DK (AH P) K (q::p::rs) O:=by
 have key:∃n x v m d,p.op=.st n (.s x) v/\p.guard=none/\p.dst=none/\((∃k,q.op=.bad m k)\/∃k,q.op=.sG (.s m) k)/\q.guard=none/\q.dst=some d/\d∈D/\d≠x/\d∉v.sl/\m∉v.sl:=by
  unfold Lt at b
  grind
 obtain ⟨n,x,v,m,d,F,G,H,I,J,L,M,Q,R,T⟩:=key;obtain⟨e',g,h⟩:=h;have j:=C.congr g.symm;obtain⟨s,off,cs,cs',o,i,B,U,⟨y,u,V⟩,W⟩:=Nn F G H h;have l:d≠s:=by
  intro e;subst e;simp[AD.place]at i;split at i
  .rename_i r w E;simp at i;exact j.no (x:=x) (s:=d) (by rw[E,<-i.1];rfl) M
  .grind
  .cases i
 have ho:∀a e,o=some (a,e)->(∃t,e=EV.tv t)/\a≠m:=fun a e he=>by
  grind [AD.sl]
 obtain ⟨e,X,Y⟩:=V0 (cs':=cs') (o:=o) (O:=e') I J L B ho u.1 V;refine⟨e',g,Y _ ⟨_,.refl _,W ((d,e)::e') ?_ (by rw[AA.hV,bk l];exact B) ?_ _ (E6 X ?_)⟩⟩
 .grind[AD.place,AA.hV]
 .cases v with
  |c t=>rfl|s a=>
   grind [AD.ev,AA.hV,AD.sl]
 .refine⟨fun z=>?_,fun z=>?_⟩
  .rw[AA.hV,u.1,DJ,DJ]
   grind [AA.hV,AD.sl]
  .have A:∀a e,o=some (a,e)->e.sz z=true:=fun a e he=>by
    obtain ⟨_,⟨t,rfl⟩,_⟩:=U a e he;rfl
   rw [AA.kq,u.2,Do _ _ _ _ _ A,Do _ _ _ _ _ A,AA.kq]
variable{n m:Nat}
theorem ZR{e' h:AA}{c:Nat}{o:Option Nat}{es es':Fq}(a:e'.rD c o=some (n,es))(F:es'.length=es.length)(he:∀z,h.get z=AA.get (e'.rZ c o n es') z){y q:Nat}{i:Option Nat}{l:Fq}
  (H:h.get y=.la q i)(b:h.rD q i=some (m,l)):e'.get y=.la q i/\∃fs',e'.rD q i=some (m,fs')/\fs'.length=l.length:=by
 obtain ⟨⟨u,I,A⟩,ho,_⟩:=JE (es':=es') a;have t:c≠y:=by
  grind
 refine ⟨by rw[<-H,he,ho _ t],?_⟩;by_cases G:c=q
 .subst G;cases o with
  |none=>
   have g:h.get c=.xo n es':=by rw[he];simp[AA.rZ,AA.hV]
   cases i with
   |none=>
    simp [AA.rD,g]at b;obtain⟨rfl,rfl⟩:=b;exact⟨es,a,F.symm⟩
   |some k=>simp[AA.rD,g]at b
  |some E=>
   rcases A with⟨mm,M,J,_⟩|⟨cs,k,L,B,C,rfl⟩
   .simp[AA.rD,J]at a
   .cases L;have g:h.get c=.bx (cs.set E ⟨true,.xl n es'⟩):=by rw[he,I]
    cases i with
    |none=>simp[AA.rD,g]at b|some k=>
     by_cases j:E=k
     .subst j;have w:E<cs.length:=(List.getElem?_eq_some_iff.1 B).1;simp[AA.rD,g,List.getElem?_set,az w]at b;obtain⟨rfl,rfl⟩:=b;exact⟨es,a,F.symm⟩
     .refine⟨l,?_,rfl⟩;rw[<-b];simp[AA.rD,g,C,List.getElem?_set,bk j]
 .exact⟨l,by rw[<-b];exact AA.su (by rw[he,ho _ G]),rfl⟩
theorem fB{p q:PR}(hj:JD D O)(a:tg D p q=true)(h:DK (AH P) K (p::q::rs) O):DK (AH P) K (q::p::rs) O:=by
 unfold tg at a;split at a
 .rename_i x v k y z m d e1 e2 e3 f1 f2 f3;simp[Bool.not_eq_true',decide_eq_false_iff_not,sN]at a;obtain⟨⟨dD,Y⟩,Z⟩:=a;obtain⟨e',M,h⟩:=h;have V:=hj.congr M.symm;simp only[PR.wp,e1,e2,e3,AC.wp,AA.put]at h;split at h
  .rename_i U i0 c R;split at h
   .rename_i n es u B hu;obtain⟨h1,h2,es',h3,h4,h5,ra,A,b⟩:=h;have G:d≠U:=by
     rintro rfl;cases x with
     |c t=>cases R
     |s xs=>exact V.no (x:=xs) (s:=d) (by simp[AD.ev]at R;rw[R];rfl) dD
    simp [PR.wp,f1,f2,f3,AC.wp,AA.put,AD.rL]at b;have T:=A.1;obtain⟨⟨w,hw,hww⟩,ho,_⟩:=JE (es':=es') B;have W:w.val=none:=by rcases hww with⟨_,_,_,_,_,rfl⟩|⟨_,_,_,_,_,rfl⟩<;>rfl
    have X:∀t,z.val ra=some t->z.val e'=some t:=by
     intro t E;cases z with
     |c t'=>exact E|s zz=>
      simp [AD.val,AD.ev]at E|-;by_cases l:U=zz
      .subst l;rw[T,hw,W]at E;cases E
      .rw[T,ho _ l]at E;exact E
    have H:∃g i F j Q,ra.get y=.la g i/\ra.rD g i=some (m,F)/\z.val ra=some (.int Q j)/\0<=j/\j<F.length/\DK (AH P) K rs ((d,.lp g i (j.toNat*m))::ra):=by
     cases I:ra.get y<;>rw[I]at b<;>simp[AQ]at b<;>try exact b.elim
     .cases l:z.val ra with
      |none=>rw[l]at b;exact b.elim|some t=>
       rw [l]at b;cases t<;>try exact b.elim
       have:=b.1.1;simp[AD.ev,I,EV.rS]at this
     .rename_i g i;cases C:ra.rD g i with
      |none=>rw[C]at b;exact b.elim|some pp=>
       obtain ⟨m',F⟩:=pp;rw[C]at b;simp only at b;cases l:z.val ra with
       |none=>rw[l]at b;exact b.elim|some t=>
        rw [l]at b;cases t<;>try exact b.elim
        rename_i Q j;obtain⟨⟨_,rfl⟩,k1,k2,k3⟩:=b;exact⟨g,i,F,j,Q,rfl,C,rfl,k1,k2,k3⟩
    obtain ⟨g,i,F,j,Q,m1,m2,m3,m4,m5,m6⟩:=H;obtain⟨n1,fs',n2,n3⟩:=ZR B h4 T m1 m2;refine⟨e',M,?_⟩;simp only[PR.wp,f1,f2,f3,AC.wp,AA.put,AD.rL,n1,n2,AQ,X _ m3,AD.ev,EV.rS];refine⟨⟨trivial,trivial⟩,m4,by rw[n3];exact m5,_,.refl _,?_⟩;have J:∀(o:AD),d∉o.sl->o.ev ((d,.lp g i (j.toNat*m))::e')=o.ev e':=by
     intro o ho;cases o with
     |c t=>rfl|s t=>
      simp only[AD.ev,AA.hV];rw[bk];intro e;exact ho (by simp[AD.sl,e])
    simp only[PR.wp,e1,e2,e3,AC.wp,AA.put,J x Y,J v Z,R,hu];have L:AA.rD ((d,.lp g i (j.toNat*m))::e') U i0=some (n,es):=by rw[AA.sd G];exact B
    rw [L];refine⟨h1,h2,es',h3,h4,h5,E6 m6 ?_⟩;refine IB.symm (IB.trans (RF (.refl _) G) ⟨fun s=>?_,fun s=>?_⟩)
    .simp[AA.hV,T]
    .simp[AA.kq,A.2]
   .exact h.elim
  .exact h.elim
 .cases a
theorem R0{O env2:AA}{b:Nat}{o:Option AD}(h:∀y∈o.toList,y.val env2=y.val O):DW env2 b o=DW O b o:=by
 cases o with
 |none=>rfl|some y=>simp[DW];exact h y (by simp)
theorem fI{S:FuncId->Fq->Af->Prop}{p:AC}{xs:List AD}{K:EV->AA->Prop}(B:p.vops=some xs)(h:p.wp S O d K):
  ∃t,K (.tv t) O/\(∀x∈xs,∃u,x.val O=some u)/\∀env2,(∀x∈xs,x.val env2=x.val O)->∀j:EV->AA->Prop,j (.tv t) env2->p.wp S env2 d j:=by
 cases p<;>simp[AC.vops]at B<;>first|cases B|skip
 case bin k op x y=>
  simp [AC.wp]at h;split at h
  .rename_i a b g w;cases A:C3 k op a b with
   |none=>rw[A]at h;exact h.elim|some t=>
    rw [A]at h;refine⟨t,h,fun z c=>?_,fun env2 he j i=>?_⟩
    .simp at c;rcases c with rfl|rfl
     .exact⟨a,g⟩
     .exact⟨b,w⟩
    .simp[AC.wp,he x (by simp),he y (by simp),g,w,A];exact i
  .exact h.elim
 case va x k=>
  simp [AC.wp]at h;split at h
  .rename_i row g;refine⟨_,h,fun z c=>?_,fun env2 he j i=>?_⟩
   .rw[List.mem_singleton]at c;subst c;exact⟨_,g⟩
   .simp[AC.wp,he x (by simp),g];exact i
  .exact h.elim
 case vd x k=>
  simp [AC.wp]at h;split at h
  .rename_i row g;refine⟨_,h.2,fun z c=>?_,fun env2 he j i=>?_⟩
   .rw[List.mem_singleton]at c;subst c;exact⟨_,g⟩
   .simp[AC.wp,he x (by simp),g];exact⟨h.1,i⟩
  .exact h.elim
 case len x=>
  simp [AC.wp]at h;split at h
  .rename_i n es g;refine⟨_,h,fun z c=>?_,fun env2 he j i=>?_⟩
   .rw[List.mem_singleton.1 c];exact⟨_,g⟩
   .simp[AC.wp,he x (by simp),g];exact i
  .exact h.elim
 case uF k x=>
  simp [AC.wp]at h;split at h
  .rename_i H n g;refine⟨_,h,fun z c=>?_,fun env2 he j i=>?_⟩
   .rw[List.mem_singleton.1 c];exact⟨_,g⟩
   .simp[AC.wp,he x (by simp),g];exact i
  .exact h.elim
 case mm b x y=>
  simp [AC.wp]at h;split at h
  .rename_i k a H a' g w;refine⟨_,h.2,fun z c=>?_,fun env2 he j i=>?_⟩
   .simp at c;rcases c with rfl|rfl
    .exact⟨_,g⟩
    .exact⟨_,w⟩
   .simp[AC.wp,he x (by simp),he y (by simp),g,w];exact⟨h.1,i⟩
  .exact h.elim
 case tw n x lo hi=>
  simp [AC.wp]at h;split at h
  .rename_i m es g;split at h
   .rename_i C l E r F G;refine⟨_,h.2.2,fun z c=>?_,fun env2 he j i=>?_⟩
    .simp at c;rcases c with rfl|c|c
     .exact⟨_,g⟩
     .cases c;exact⟨_,F⟩
     .cases c;exact⟨_,G⟩
    .have C:DW env2 0 lo=DW O 0 lo:=R0 (fun y o=>he y (by simp at o|-;exact .inr (.inl o)));have E:DW env2 es.length hi=DW O es.length hi:=R0 (fun y o=>he y (by simp at o|-;exact .inr (.inr o)));simp[AC.wp,he x (by simp),g,C,E,F,G];exact⟨h.1,h.2.1,i⟩
   .exact h.elim
  .exact h.elim
theorem fA{p q:PR}(a:tM D p q=true)(h:DK (AH P) K (p::q::rs) O):DK (AH P) K (q::p::rs) O:=by
 unfold tM at a;split at a
 .rename_i xs d n x v U Q R V W X;simp[bne_iff_ne,Bool.not_eq_true',decide_eq_false_iff_not]at a;obtain⟨⟨⟨_,hdx⟩,G⟩,H⟩:=a;obtain⟨e',I,h⟩:=h;unfold PR.wp at h;rw[Q,R]at h;simp[AA.put]at h;obtain⟨t,⟨y,j,hw⟩,hs,J⟩:=fI U h;obtain⟨s,off,cs,cs',o,h1,L,M,hK,h5⟩:=Nn V W X hw;have Y:∀z,d≠z->y.get z=e'.get z:=fun z w=>by rw[j.1,AA.hV,bk w]
  have g:d≠s:=fun e=>by
   rw [j.1,AA.hV,az e]at L;cases L
  have Z:(AD.s x).place e'=some (s,off):=by
   grind [AD.place]
  have hb:e'.get s=.bx cs:=by rw[<-Y s g];exact L
  have hv:v.ev e'=v.ev y:=by
   cases v with
   |c t=>rfl|s l=>
    grind [AD.ev,AD.sl]
  have hq:∀k:AA->Prop,k (Iy s cs' o e')->q.wp (AH P) e' k:=fun k A=>h5 e' Z hb hv k A;refine⟨e',I,hq _ ⟨_,.refl _,?_⟩⟩;unfold PR.wp;rw[Q,R];simp[AA.put];refine J _ (fun z w=>?_) _ (E6 hK ?_)
  .cases z with
   |c t=>rfl|s m=>
    obtain ⟨u,hu⟩:=hs _ w;have B:¬s=m:=fun e=>by
     grind [AD.val,AD.ev,EV.val]
    simp [AD.val,AD.ev,DJ,bk B];cases o with
    |none=>rfl|some b=>
     have C:¬b.1=m:=fun e=>AZ H (x:=m) (List.mem_flatMap.2 ⟨_,w,by simp[AD.sl]⟩) (by rw[(M b.1 b.2 rfl).1,e];simp[AD.sl]);simp[bk C]
  .refine⟨fun z=>?_,fun z=>?_⟩
   .rw[AA.hV,DJ,DJ];by_cases E:s=z
    .subst E;rw[az rfl,bk g,az rfl]
    .rw[bk E,bk E];cases o with
     |none=>
      simp only;rw[j.1,AA.hV]
     |some b=>
      have F:¬d=b.1:=fun e=>G (by rw[(M b.1 b.2 rfl).1,e];simp[AD.sl]);simp only;by_cases i:b.1=z
      .rw[az i,az i,bk (fun e=>F (e.trans i.symm))]
      .rw[bk i,bk i,j.1,AA.hV]
   .have T:∀l e,o=some (l,e)->e.sz z=true:=fun l e he=>by
     obtain ⟨_,⟨t,rfl⟩,_⟩:=M l e he;rfl
    rw [AA.kq,Do _ _ _ _ _ T,Do _ _ _ _ _ T,j.2,AA.kq]
 .cases a
theorem ew{p q:PR}(hj:JD D O)(a:tJ D p q=true)(h:DK (AH P) K (p::q::rs) O):DK (AH P) K (q::p::rs) O:=by
 unfold tJ at a;split at a
 .rename_i b m d n x v R i T Y Z f3;simp[bne_iff_ne,Bool.not_eq_true',decide_eq_false_iff_not,sN]at a;obtain⟨⟨⟨⟨⟨⟨_,bD⟩,hbx⟩,hdx⟩,hdb⟩,M⟩,U⟩:=a;obtain⟨e',G,h⟩:=h;have hj':=hj.congr G.symm;unfold PR.wp at h;rw[R,i,T]at h;simp[AA.put,AC.wp]at h;split at h
  case h_2=>exact h.elim
  rename_i bs hbs;obtain⟨L,y,w,hw⟩:=h;obtain⟨s,off,cs,cs',o,h1,g,B,I,h5⟩:=Nn Y Z f3 hw;have gy:∀z,d≠z->y.get z=e'.get z:=fun z W=>by rw[w.1,AA.hV,bk W]
  have l:d≠s:=fun e=>by
   rw [w.1,AA.hV,az e]at g;cases g
  have H:(AD.s x).place e'=some (s,off):=by
   grind [AD.place]
  have hsb:¬s=b:=by
   intro e;subst e;simp[AD.place]at H;split at H
   .rename_i r off' hx;simp at H;exact hj'.no (x:=x) (s:=s) (by rw[hx,<-H.1];rfl) bD
   .grind
   .cases H
  have F:e'.get s=.bx cs:=by rw[<-gy s l];exact g
  have hv:v.ev e'=v.ev y:=by
   cases v with
   |c t=>rfl|s E=>
    grind [AD.ev,AD.sl]
  have hq:∀C:AA->Prop,C (Iy s cs' o e')->q.wp (AH P) e' C:=fun C X=>h5 e' H F hv C X;refine⟨e',G,hq _ ⟨_,.refl _,?_⟩⟩;have hg:(Iy s cs' o e').get b=.bx bs:=by
   grind [DJ,AD.sl]
  unfold PR.wp;rw[R,i,T];simp[AA.put,AC.wp,hg];refine⟨L,E6 I ?_⟩;refine⟨fun z=>?_,fun z=>?_⟩
  .rw[AA.hV,DJ,DJ];by_cases A:s=z
   .subst A;rw[az rfl,bk l,az rfl]
   .rw[bk A,bk A];cases o with
    |none=>
     simp only;rw[w.1,AA.hV]
    |some j=>
     have J:¬d=j.1:=fun e=>M (by rw[(B j.1 j.2 rfl).1,e];simp[AD.sl]);simp only;by_cases u:j.1=z
     .rw[az u,az u,bk (fun e=>J (e.trans u.symm))]
     .rw[bk u,bk u,w.1,AA.hV]
  .have L:∀E e,o=some (E,e)->e.sz z=true:=fun E e he=>by
    obtain ⟨_,⟨t,rfl⟩,_⟩:=B E e he;rfl
   rw [AA.kq,Do _ _ _ _ _ L,Do _ _ _ _ _ L,w.2,AA.kq]
 .rename_i b k d n x v R i T Y Z f3;simp[bne_iff_ne,Bool.not_eq_true',decide_eq_false_iff_not,sN]at a;obtain⟨⟨⟨_,hdx⟩,M⟩,U⟩:=a;obtain⟨e',G,h⟩:=h;unfold PR.wp at h;rw[R,i,T]at h;obtain⟨V,hn0,Q,y,w,hw⟩:∃V,(∀c,V≠.bx c)/\(∀i:AA,i.get b=e'.get b\/(∃c c',e'.get b=.bx c/\i.get b=.bx c')->∀C:EV->AA->Prop,C V i->(AC.bad b k).wp (AH P) i (some d) C)/\DK (AH P) K (q::rs) ((d,V)::e'):=by
   simp only[AA.put,AC.wp]at h;split at h
   .rename_i F;refine⟨_,by simp,fun i g C I=>?_,h⟩;obtain⟨c',B⟩:∃c',i.get b=.bx c':=by
     rcases g with g|⟨_,c',_,g⟩
     .exact⟨_,g.trans F⟩
     .exact⟨c',g⟩
    simp only[AC.wp,B];exact I
   .rename_i F;refine⟨_,by simp,fun i g C I=>?_,h⟩;have B:i.get b=e'.get b:=g.resolve_right fun⟨c,c',h4,_⟩=>by rw[F]at h4;cases h4
    simp only[AC.wp,B,F];exact I
   .exact h.elim
  obtain ⟨s,off,cs,cs',o,h1,g,B,I,h5⟩:=Nn Y Z f3 hw;have gy:∀z,d≠z->y.get z=e'.get z:=fun z W=>by rw[w.1,AA.hV,bk W]
  have l:d≠s:=fun e=>by
   rw [w.1,AA.hV,az e]at g;exact hn0 _ g
  have H:(AD.s x).place e'=some (s,off):=by
   grind [AD.place]
  have F:e'.get s=.bx cs:=by rw[<-gy s l];exact g
  have hv:v.ev e'=v.ev y:=by
   cases v with
   |c t=>rfl|s E=>
    grind [AD.ev,AD.sl]
  refine ⟨e',G,h5 e' H F hv _ ⟨_,.refl _,?_⟩⟩;unfold PR.wp;rw[R,i,T];refine Q _ ?_ _ (E6 I ?_)
  .rw[DJ];by_cases A:s=b
   .subst A;exact .inr ⟨cs,cs',F,by rw[az rfl]⟩
   .rw[bk A];cases o with
    |none=>exact .inl rfl|some j=>
     have:¬j.1=b:=fun e=>U (by rw[(B j.1 j.2 rfl).1,e];simp[AD.sl]);simp only;rw[bk this];exact .inl rfl
  refine ⟨fun z=>?_,fun z=>?_⟩
  .simp only[AA.put];rw[AA.hV,DJ,DJ];by_cases A:s=z
   .subst A;rw[az rfl,bk l,az rfl]
   .rw[bk A,bk A];cases o with
    |none=>
     simp only;rw[w.1,AA.hV]
    |some j=>
     have J:¬d=j.1:=fun e=>M (by rw[(B j.1 j.2 rfl).1,e];simp[AD.sl]);simp only;by_cases u:j.1=z
     .rw[az u,az u,bk (fun e=>J (e.trans u.symm))]
     .rw[bk u,bk u,w.1,AA.hV]
  .have L:∀E e,o=some (E,e)->e.sz z=true:=fun E e he=>by
    obtain ⟨_,⟨t,rfl⟩,_⟩:=B E e he;rfl
   simp only[AA.put];rw[AA.kq,Do _ _ _ _ _ L,Do _ _ _ _ _ L,w.2,AA.kq]
 .cases a
theorem V4{oq:Oper}(u:Hq P N ops oq q=true){b:List PR}:∀(a:List PR),(∀p∈a,tn D p q=true/\∃o,Hq P N ops o p=true)->∀{O:AA},Hn F0 w0 N O->JD D O->DK (AH P) K (a++q::b) O->DK (AH P) K (q::(a++b)) O
 |[],_,O,_,_,h=>h|p::a,g,O,B,C,h=>by
  obtain ⟨c,o,ho⟩:=g p (by simp);obtain⟨e',i,h⟩:=h;obtain⟨ra,A,k,l,j⟩:=kR ho (TU c) (B.congr i.symm) (C.congr i.symm) h;have z:=V4 u a (fun p w=>g p (by simp[w])) k l A;have t:DK (AH P) K (p::q::(a++b)) O:=⟨e',i,j _ z⟩;simp[tn]at c
  grind [swap,bn,en,e8,fC,em,fB,fA,ew,eu,eo,fD,ey,ex]
variable{x:AD}
theorem gm{S:FuncId->Fq->Af->Prop}{K:EV->AA->Prop}(h:(AC.st n x v).wp S O d K):(AC.st n x v).wp S O d fun e env'=>K e env'/\e=.undef/\∀c,env'.l3 c=O.l3 c:=by
 simp [AC.wp]at h|-;split at h
 .rename_i s off a;split at h
  .rename_i cs b;split at h
   .grind[AA.kq,EV.sz,EV.rS]
   .grind[AA.kq,EV.sz,EV.rS]
   .exact h.elim
  .exact h.elim
 .exact h.elim
variable{s:Nat}
theorem dY{S:FuncId->Fq->Af->Prop}{K:EV->AA->Prop}(h:(AC.tV n s v).wp S O d K):(AC.tV n s v).wp S O d fun e env'=>K e env'/\e=.undef/\∀c,env'.l3 c=O.l3 c:=by
 simp [AC.wp]at h|-;split at h
 .rename_i cs a;split at h
  .grind[AA.kq,EV.sz,EV.rS]
  .grind[AA.kq,EV.sz,EV.rS]
  .exact h.elim
 .exact h.elim
theorem U8(O:AA)(q:Nat)(i:Option Nat)(n:Nat)(es:Fq)(c:Nat):AA.l3 c (O.rZ q i n es)=AA.l3 c O:=by
 cases i with
 |none=>simp[AA.rZ,AA.kq,EV.sz,EV.rS]|some k=>
  grind [AA.rZ,AA.kq,EV.sz,EV.rS]
theorem dV{S:FuncId->Fq->Af->Prop}{q:Nat}{K:EV->AA->Prop}(h:(AC.uJ x q).wp S O d K):(AC.uJ x q).wp S O d fun e env'=>K e env'/\e=.undef/\∀c,env'.l3 c=O.l3 c:=by
 simp [AC.wp]at h|-;split at h
 .grind[AA.kq,EV.sz,EV.rS]
 .grind[AA.kq,EV.sz,EV.rS]
 .exact h.elim
theorem db{S:FuncId->Fq->Af->Prop}{k:Nat}{K:EV->AA->Prop}(h:(AC.t6 x v k).wp S O d K):(AC.t6 x v k).wp S O d fun e env'=>K e env'/\e=.undef/\∀c,env'.l3 c=O.l3 c:=by
 simp [AC.wp]at h|-;split at h
 .grind[U8]
 .exact h.elim
theorem U7(O:AA)(q i:Nat)(es:Fq)(c:Nat):AA.l3 c (O.uI q i es)=AA.l3 c O:=by grind[AA.uI,AA.kq,EV.sz,EV.rS]
theorem dX{S:FuncId->Fq->Af->Prop}{K:EV->AA->Prop}(h:(AC.up x v).wp S O d K):(AC.up x v).wp S O d fun e env'=>K e env'/\e=.undef/\∀c,env'.l3 c=O.l3 c:=by
 simp [AC.wp]at h|-
 grind [U7]
theorem dZ{S:FuncId->Fq->Af->Prop}{a:List (Option AJ)}{K:EV->AA->Prop}(h:(AC.uL n a x v).wp S O d K):(AC.uL n a x v).wp S O d fun e env'=>K e env'/\e=.undef/\∀c,env'.l3 c=O.l3 c:=by
 simp [AC.wp]at h|-;split at h
 .rename_i s off t g hv;split at h
  .rename_i cs i;cases b:CZ a t.cells with
   |none=>rw[b]at h;exact h.elim|some ds=>
    grind [AA.kq,EV.sz,EV.rS]
  .exact h.elim
 .exact h.elim
theorem dW{S:FuncId->Fq->Af->Prop}{m x v:AD}{K:EV->AA->Prop}(h:(AC.uK s m x v).wp S O d K):(AC.uK s m x v).wp S O d fun e env'=>K e env'/\e=.undef/\∀c,env'.l3 c=O.l3 c:=by
 simp [AC.wp]at h|-;split at h
 .rename_i b a g t i j k;split at h
  .grind[AA.kq,EV.sz,EV.rS]
  .exact h.elim
 .exact h.elim
theorem da{S:FuncId->Fq->Af->Prop}{n s q:Nat}{K:EV->AA->Prop}(h:(AC.stx n s q).wp S O d K):(AC.stx n s q).wp S O d fun e env'=>K e env'/\e=.undef/\∀c,env'.l3 c=O.l3 c:=by
 simp [AC.wp]at h|-
 grind [AA.kq,EV.sz,EV.rS]
variable{r:PR}
theorem ar{S:FuncId->Fq->Af->Prop}{K:AA->Prop}(B:Sa D r=true)(hd:IG r.op=true->r.dst=none)(c:JD D O)(h:r.wp S O K):r.wp S O fun env'=>K env'/\JD D env':=by
 simp [Sa,Bool.not_eq_true']at B;rcases B with((((l|A)|k)|R)|T)|⟨⟨⟨hm,a⟩,hg⟩,C⟩
 rotate_right 2
 .exact PR.q9 _ _ (fun env' he=>⟨he.1,fun x o=>by rw[he.2];exact c x o⟩) r (YE T h)
 rotate_left 4
 .obtain⟨ra,X,Y,k3⟩:=Sb R h;exact k3 _ ⟨X,fun x o=>by rw[Y];exact c x o⟩
 rotate_left 1
 .have a:=hd l;have J:(r.op.wp S O r.dst fun e env'=>K (env'.put r.dst e))->r.op.wp S O r.dst fun e env'=>K (env'.put r.dst e)/\JD D (env'.put r.dst e):=by
   intro i;rw[a]at i|-;generalize r.op=p at l i|-;cases p<;>simp[IG]at l<;>first|cases l|skip
   .refine AC.q9 S O none (fun e env' he=>⟨he.1,fun d hd=>?_⟩) _ (gm i);simp[AA.put];rw[he.2.2];exact c d hd
   .refine AC.q9 S O none (fun e env' he=>⟨he.1,fun d hd=>?_⟩) _ (dY i);simp[AA.put];rw[he.2.2];exact c d hd
   .refine AC.q9 S O none (fun e env' he=>⟨he.1,fun d hd=>?_⟩) _ (db i);simp[AA.put];rw[he.2.2];exact c d hd
   .refine AC.q9 S O none (fun e env' he=>⟨he.1,fun d hd=>?_⟩) _ (da i);simp[AA.put];rw[he.2.2];exact c d hd
   .refine AC.q9 S O none (fun e env' he=>⟨he.1,fun d hd=>?_⟩) _ (dV i);simp[AA.put];rw[he.2.2];exact c d hd
   .refine AC.q9 S O none (fun e env' he=>⟨he.1,fun d hd=>?_⟩) _ (dX i);simp[AA.put];rw[he.2.2];exact c d hd
   .refine AC.q9 S O none (fun e env' he=>⟨he.1,fun d hd=>?_⟩) _ (dZ i);simp[AA.put];rw[he.2.2];exact c d hd
   .refine AC.q9 S O none (fun e env' he=>⟨he.1,fun d hd=>?_⟩) _ (dW i);simp[AA.put];rw[he.2.2];exact c d hd
  unfold PR.wp at h|-;split
  .grind
  .rename_i g b W;rw[W]at h;simp only at h;split
   .rename_i q k;rw[k]at h;exact⟨fun C=>J (h.1 C),fun C=>⟨h.2 C,by rw[a];exact c⟩⟩
   .rename_i G;rw[G]at h;exact⟨h,by rw[a];exact c⟩
   .rename_i H I;split at h
    .rename_i q k;exact absurd k (H q)
    .rename_i k;exact absurd k I
    .exact h.elim
 .unfold uu at A;split at A
  .rename_i gs d t u w;obtain⟨ts,F,M,Q⟩:=Oy t u w h;refine L8 t u w F M ⟨Q,fun x o=>?_⟩;rw[AA.kq,HU,c x o];rfl
  .cases A
 .unfold okQ at k;split at k
  .rename_i s d t u w;obtain⟨n,es,F,Z,M,Q⟩:=UR t u w h;refine US t u w F Z M ⟨Q,fun x o=>?_⟩;have:=c x o;simp[AA.kq,EV.sz,EV.rS,this]
  .rename_i n s z x d t u w;simp[PR.wp,t,u,w,AC.wp,AA.put]at h|-;split at h
   .rename_i d' m es kk j E hs o;simp at E;subst E;refine⟨h.1,h.2.1,h.2.2.1,h.2.2.2,fun y U=>?_⟩;have:=c y U;simp[AA.kq,EV.sz,EV.rS,this]
   .exact h.elim
  .cases k
 .obtain⟨d,hd⟩:=Option.isSome_iff_exists.1 a;have L:r.op.rE=true->r.guard=none:=fun V=>by
   rcases hg with h|h
   .rw[V]at h;cases h
   .simpa using h
  refine PR.q9 S O (fun env' he=>?_) r (Jb hd hm L h);obtain⟨F,e,f,hF⟩:=he;exact⟨F,hF.jd C c⟩
theorem Xz{S:FuncId->Fq->Af->Prop}{a:Act}{w:World}:∀{O:AA},Mu rs=true->DK S K rs O->BG F0 w0 O a w->∃env',K env'/\BG F0 w0 env' a w:=by
 induction rs with
 |nil=>intro O _ h b;obtain⟨e,g,i⟩:=h;exact⟨e,i,b.congr fun n=>(g.1 n).symm⟩
 |cons r rs u=>
  intro O c h b;simp[Mu]at c;obtain⟨g,i⟩:=c;obtain⟨e',j,h⟩:=h;have b:=b.congr (fun n=>(j.1 n).symm);split at g
  .rename_i s k l o;simp[PR.wp,k,l,o,AC.wp]at h;split at h
   .rename_i cs t;obtain⟨G,b⟩:=b;exact u i h (b.uP t)
   .exact h.elim
  .cases g
theorem Mv:∀(os:List Oper)(rs:List PR),Hw P N ops os rs=true->(∀i o,os[i]?=some o->Hq P N ops o (Ic rs i)=true)/\Mu (rs.drop os.length)=true/\rs=(List.range os.length).map (Ic rs)++rs.drop os.length
 |[],rs,h=>⟨fun i o h=>by simp at h,h,by simp⟩|o::os,[],h=>by simp[Hw]at h|o::os,r::rs,h=>by
  simp [Hw]at h;obtain⟨b,c,g⟩:=Mv os rs h.2;refine⟨fun i a hi=>?_,by simpa using c,?_⟩
  .cases i with
   |zero=>simp[List.getElem?_cons_zero]at hi;subst hi;exact h.1|succ i=>simp[List.getElem?_cons_succ]at hi;exact b i a hi
  .rw[ez,List.range_succ_eq_map,List.map_cons,List.map_map,List.cons_append,List.drop_succ_cons];congr 1
theorem V7{Q:Exit->Act->World->Prop}(hok:N0 P N D ops rs=true)(hpd:∀i v,p=some (i,v)->∀r∈rs,r.dst≠some i)(hQ:∀O a w,K O->Hj N p a->BG F0 w0 O a w->Q .normal a w):
  ∀(fuel:Nat)(rem:Ne)(b:Array Bool)(O:AA)(a:Act)(w:World),rem.length=fuel->rem.Pairwise (·<·)->(∀j,j∈rem↔j<ops.size/\b.getD j true=false)->b.size=ops.size ->
   (∀k o,ops[k]?=some o->b.getD k false=true->∀e∈o.after,Region.binds .any e=true->b.getD e.on false=true) ->
   Hj N p a->BG F0 w0 O a w->JD D O->DK (AH P) K (rem.map (Ic rs)++rs.drop ops.size) O->wpAny P .any ops Q fuel b a w:=by
 simp only[N0,rt,List.all_eq_true,List.mem_range]at hok;obtain⟨⟨⟨⟨hl,hs⟩,he⟩,hM⟩,hP⟩:=hok;obtain⟨F,hl2,hl3⟩:=Mv ops.toList rs hl;simp[Array.getElem?_toList]at F hl2 hl3;intro fuel
 induction fuel with
 |zero=>
  intro rem b O a w u U c hsz V hN hI T h;have:rem=[]:=List.eq_nil_of_length_eq_zero u;subst this;refine⟨?_,?_⟩
  .refine List.eq_nil_iff_forall_not_mem.2 fun j I=>?_;rw[mem_ready]at I;obtain⟨H,o,ho,_⟩:=I;have:=(c j).2 ⟨(Array.getElem?_eq_some_iff.1 ho).1,H⟩;cases this
  .obtain⟨env',H,t⟩:=Xz hl2 h hI;exact hQ env' a w H hN t
 |succ fuel ih=>
  intro rem b O a w u U c hsz V hN hI T h;refine⟨fun hnil=>?_,fun i hi=>?_⟩
  ·
   exfalso;cases rem with
   |nil=>simp at u|cons i rem=>
    have H:=(c i).1 (by simp);have l:i∈Region.ready .any ops b:=by
     rw [mem_ready];have ho:ops[i]?=some ops[i]:=Array.getElem?_eq_getElem H.1;refine⟨H.2,_,ho,fun e A L=>?_⟩;have:=he i H.1;rw[ho]at this;simp only[List.all_eq_true,Bool.or_eq_true,Bool.not_eq_true',sN]at this;have hlt:=(this e (by simpa using A)).resolve_left (by simp[L]);cases E:b.getD e.on false with
     |true=>rfl|false=>
      have W:e.on∈i::rem:=by
       refine (c _).2 ⟨by omega,?_⟩;have:e.on<b.size:=by omega
       simp [Array.getD_eq_getD_getElem?,Array.getElem?_eq_getElem this]at E|-;exact E
      rcases List.mem_cons.1 W with t|t
      .omega
      .have:=(List.pairwise_cons.1 U).1 _ t;omega
    rw [hnil]at l;cases l
  .have hi':=hi;rw[mem_ready]at hi';obtain⟨hi1,o,ho,hi2⟩:=hi';have l:i<ops.size:=(Array.getElem?_eq_some_iff.1 ho).1;have hir:i∈rem:=(c i).2 ⟨l,hi1⟩;obtain⟨G,z,rfl⟩:=List.append_of_mem hir;have g:=List.pairwise_append.1 U;have M:∀j∈G,j<i:=fun j T=>g.2.2 j T i (by simp);have Y:∀j∈z,i<j:=fun j T=>(List.pairwise_cons.1 g.2.1).1 j T;have J:∀(k:Nat),k<ops.size->(∀o,ops[k]?=some o->∀e∈o.after,Region.binds .any e=true->b.getD e.on false=true)->∀j,j<ops.size->((Zi ops).getD k 0).testBit j=true->b.getD j false=true:=by
    intro k
    induction k using Nat.strongRecOn with
    |_ k ihk=>
     intro hk hdir j C L;have:=hM k hk j C;rw[L]at this;simp only[Bool.not_true,Bool.false_or]at this;split at this
     .rename_i ok hok';simp only[List.any_eq_true,rt,Bool.or_eq_true,beq_iff_eq,sN]at this;obtain⟨e,A,hbe,h3⟩:=this;have E:=hdir ok hok' e (by simpa using A) hbe;rcases h3 with h3|⟨h3,h4⟩
      .rw[<-h3];exact E
      .exact ihk e.on h3 (by omega) (fun R B e' he' hb'=>V e.on R B E e' he' hb') j C h4
     .cases this
   have hwp:DK (AH P) K (Ic rs i::(G.map (Ic rs)++(z.map (Ic rs)++rs.drop ops.size))) O:=by
    refine V4 (ops:=ops) (F0:=F0) (w0:=w0) (N:=N) (oq:=o) (F i o ho) (G.map (Ic rs)) (fun p hp=>?_) ⟨a,w,hN.size,hI⟩ T (by simpa using h);obtain⟨j,hj1,rfl⟩:=List.mem_map.1 hp;have hlt:=M j hj1;have C:j<ops.size:=by omega
    refine ⟨?_,ops[j],F j _ (Array.getElem?_eq_getElem C)⟩;have:=hP i l j hlt;rw[Bool.or_eq_true]at this;refine this.resolve_left fun L=>?_;have H:=J i l (fun R B=>by rw[ho]at B;simp at B;subst B;exact hi2) j C L;have t:=((c j).1 (by simp[hj1])).2;have:j<b.size:=by omega
    simp [Array.getD_eq_getD_getElem?,Array.getElem?_eq_getElem this]at H t;rw[H]at t;cases t
   obtain ⟨e',heq,hw⟩:=hwp;have hI':=hI.congr (fun n=>(heq.1 n).symm);have I:=T.congr heq.symm;have hstd:IG (Ic rs i).op=true->(Ic rs i).dst=none:=by
    intro hst;have:=F i o ho;simp[Hq]at this;have t:=this.2;split at t
    .simp only[hst,Bool.not_true,Bool.and_false,Bool.false_and]at t;cases t
    .assumption
    .cases t
   have hw':=ar (hs i l) hstd I hw;have Z:∀j,j∈G++z↔j<ops.size/\(b.setIfInBounds i true).getD j true=false:=by
    intro j;by_cases hij:j=i
    .subst hij;constructor
     .intro W;rcases List.mem_append.1 W with W|W
      .have:=M _ W;omega
      .have:=Y _ W;omega
     .rintro⟨_,t⟩;have:j<b.size:=by omega
      simp [this]at t
    .rw[getD_set_ne true (fun e=>hij e.symm),<-c j];simp[hij]
   have hcl':∀k R,ops[k]?=some R->(b.setIfInBounds i true).getD k false=true->∀e∈R.after,Region.binds .any e=true->(b.setIfInBounds i true).getD e.on false=true:=by
    intro k R hk hlk e A L;refine getD_set_true ?_;by_cases hki:k=i
    .subst hki;rw[ho]at hk;simp at hk;subst hk;exact hi2 e A L
    .rw[getD_set_ne false (fun e=>hki e.symm)]at hlk;exact V k R hk hlk e A L
   have hpdi:∀j v,p=some (j,v)->(Ic rs i).dst≠some j:=by
    intro j v hp;unfold Ic;cases hr:rs[i]? with
    |none=>simp|some r=>exact hpd j v hp r (List.mem_of_getElem? hr)
   have:=O5 (Q:=Q) (next:=wpAny P .any ops Q fuel (b.setIfInBounds i true)) hI' hN hpdi (F i o ho) hw' fun env' a' w' k1 k2 k3=>
    ih (G++z) _ env' a' w' (by simp at u|-;omega) (List.pairwise_append.2 ⟨g.1,(List.pairwise_cons.1 g.2.1).2,fun x hx y hy=>g.2.2 x hx y (by simp[hy])⟩) Z (by simpa using hsz) hcl' k2 k3 k1.2 (by simpa using k1.1)
   unfold Go.wpOp;rw[ho];simp;split
   .rename_i X;rw[az X]at this;exact .inl this
   .rename_i X;rw[bk X]at this;exact this
theorem Qj:∀(ds:Ne)(O:AA),Ll O ds=true->JD ds O
 |[],O,_=>fun d hd=>by simp at hd|d::ds,O,h=>by
  simp [Ll]at h;intro x a;rcases List.mem_cons.1 a with rfl|a
  .exact h.1
  .exact Qj ds O h.2 x a
theorem IX(J:P.follows .mixedOrders=true):IA P N (N0 P N):=by
 intro F0 w0 p id ds ops rs g O a w K Q z B X c hd h Y;refine wp_region_any J ?_;have l:=z;simp[N0]at l;obtain⟨_,_,E⟩:=Mv ops.toList rs l.1.1.1.1;simp at E;have C:BG F0 w0 O a {w with drawn:=w.drawn+1}:=by
  obtain ⟨G,c⟩:=c;refine⟨G,c.q8,c.lt,⟨c.below.os,c.below.tape,c.below.output,c.below.size,c.below.block,c.below.cell,c.below.free,c.below.tab⟩,c.defers,c.dom,fun s L=>?_,c.wf⟩;exact AG.kept (w:=w) (w':={w with drawn:=w.drawn+1}) (F:=AN w0.heap.size F0 G) (G:=G) (O:=O) (a:=a) (fun b o u M R=>⟨M,R⟩) (fun _=>rfl) (fun _ _ _ _=>rfl) rfl (fun _ _ _ _ _=>rfl) (fun r i k H T=>⟨T,fun v hv=>by cases k<;>exact hv⟩) (fun r off H t=>⟨t,rfl⟩) (fun r i H t=>⟨t,fun _ hv=>hv⟩) (c.slots s L)
 refine V7 (K:=fun e=>K (e.pr g)) (F0:=F0) (w0:=w0) z B (fun O a w U V W=>Y _ a w U V (W.pr g)) ops.size (List.range ops.size) _ O a _ (by simp) List.pairwise_lt_range (fun j=>?_) (by simp) (fun k o Z A=>?_) X C (Qj ds O hd) ?_
 .rw[List.mem_range];constructor
  .intro I;exact⟨I,by simp[Array.getD_eq_getD_getElem?,Array.getElem?_replicate,I]⟩
  .exact fun h=>h.1
 .simp[Array.getD_eq_getD_getElem?,Array.getElem?_replicate]at A;split at A<;>simp at A
 grind [XU]
end
end Go.Sf
