/- Plain lemmas: what the functions of the program and of the reference compute. -/
import Derived.Test.YtbmgmpeimdomoaaGreatP96
set_option linter.all false
set_option maxRecDepth 100000
open Option renaming some->Y
open Bool renaming true->X,false->T
open List renaming mem_cons->w_,mem_cons_of_mem->w!,any_eq_true->w?,any_eq_false->x_,mem_append->x!,mem_map->x?,getElem?_modify->y_,getElem?_eq_getElem->y!,length_set->y?,getD_eq_getElem?_getD->z_,zip_map'->z!,mem_of_getElem?->z?,drop_eq_nil_of_le->A_,drop_eq_getElem_cons->A',eq_nil_of_length_eq_zero->A!,mem_append_left->A?,mem_append_right->B_,map_congr_left->B',ext_getElem->B!,take_length->B?,mem_filter->C_,mem_range->C',append_nil->C!,map_append->C?,pairwise_map->D_,nodup_append->D',mem_singleton->D!,replicate->D?,nodup_nil->E_,not_mem_nil->E',pairwise_cons->E!,getElem?_eq_none->E?,nodup_iff_pairwise_ne->F_,take_sublist->F!,all_eq_true->F?,mem_flatMap->G_
open Bool renaming not_eq_true'->G!,or_eq_false_iff->G?,eq_iff_iff->H_,false_eq_true->H',or_eq_true->H!,not_eq_true->H?,not_eq_false->I_
open Classical renaming not_not->I',byContradiction->I!
open Int renaming toNat_natCast->I?,natCast_add->J_,eq_ofNat_of_zero_le->J'
namespace Go.Sf.Sc
open Go Go.Sf
variable{k c:Int}
theorem bl{t:AC}(u:Eg t k):∀(n m:Nat)(a b:Int),a<k->a<n->b<m->b∈Gs t n a->c∈Gs t m b->c∈Gs t n a
 |0,_,_,_,_,_,_,o,_=>by simp[Gs]at o|n+1,m,a,b,C,E,D,o,z=>by
  rw [Gs]at o|-;split at o
  .cases o
  .rename_i A;rw[QQ A];have F:=u a U C;rcases w_.1 o with rfl|o
   .have e:=oT u m (n+1) b C D E;rw[e,Gs,QQ A]at z;exact z
   .exact w! _ (bl u n m (par t a) b U U D o z)
variable{a b:Int}
theorem aw{t:AC}(h:Eh t)(A:a<t.az.length)(o:isB t a b=X)(u:isB t b c=X):isB t a c=X:=by
 unfold isB at o u|-;rw[w?]at o u|-;obtain⟨x,C,e⟩:=o;obtain⟨y,D,z⟩:=u;rw[o4]at e z;subst e;subst z;exact⟨c,bl h.par _ _ a b A U U C D,V⟩
theorem pJ{t:AC}(h:Eh t){e f g u z:Int}(hf:0<=u/\u<t.az.length)(A:0<=z/\z<t.az.length)(C:isB t u f=X)(D:isB t z g=X)(o:Iu t e f g=X):Iu t e u z=X:=by
 unfold Iu at o|-;simp only[gR,Mm]at o|-;exact⟨⟨⟨o.1.1.1,hf,A⟩,o.1.2⟩,aw h hf.2 C o.2.1,aw h A.2 D o.2.2⟩
end Go.Sf.Sc
namespace Go.Sf.Sc
open Go Go.Sf
theorem fN{t:AC}{r:d4}(h:FE t r=0):(∀x∈EQ r,(AA t.az (AA r.ci.bk.az x)).pq=T)/\∀x∈IZ r,DG t r.ci.bk x=X:=by
 have e:Sd t r.ci.bk (EQ r) (IZ r)=X:=by grind[FE]
 unfold Sd at e;rw[gR,G!,G!,x_,x_]at e;exact⟨λx o=>by simpa using e.1 x o,λx o=>by simpa using e.2 x o⟩
abbrev gS(t:AC)(r:d4)(h:AH)(m:AU):AH:=DL t r (CS h (dS r h m)) (cS r h m)
variable{m:AU}
theorem ID.c9{t:AC}{r:d4}{h:AH}(s:ID t r h m):∀e∈(gS t r h m).bk.bi,((0<=e.fb/\e.fb<(gS t r h m).bk.az.length)/\0<=e.To/\e.To<(gS t r h m).bk.az.length)/\Iu t e.em (AA (gS t r h m).bk.az e.fb) (AA (gS t r h m).bk.az e.To)=X:=by
 intro e he;have el:(gS t r h m).bk.az=(dS r h m).az.map (AA h.bk.az)++(EQ r).map (AA r.ci.bk.az):=rfl;have he:e∈(dS r h m).bi.map (λx=>RT (GW h (dS r h m)).az (AA h.bk.bi x))++(IZ r).map (λk=>RT (cS r h m).az (AA r.ci.bk.bi k)):=he;rcases x!.1 he with he|he
 .obtain⟨x,F,rfl⟩:=x?.1 he;have E:=VO (eW s.part).2;have u:=E.c9.1 x F;have o:=E.ends x F;have hf:=(s.hh.g.fit _ (AG u.1 u.2)).2;have R:=(Mk s.he).2 x u.1 u.2;have fit:DG t h.bk x=X:=by
   unfold HP at R
   grind
  have at_:∀y,y∈(dS r h m).az->0<=y->y<h.bk.az.length->(0<=AA (GW h (dS r h m)).az y/\AA (GW h (dS r h m)).az y<(gS t r h m).bk.az.length)/\AA (gS t r h m).bk.az (AA (GW h (dS r h m)).az y)=AA h.bk.az y:=λy L O Q=>by
   have hi:=BP L;rw[show AA (GW h (dS r h m)).az y=A1 (dS r h m).az y from N4 O Q,el,aE,a6];refine⟨⟨hi.1,by have:=hi.2.1;push_cast;omega⟩,?_⟩;rw[Er hi.1 (by rw[a6];exact hi.2.1),OV hi.1 hi.2.1,hi.2.2.1]
  obtain ⟨a1,a2⟩:=at_ _ o.1 hf.1.1 hf.1.2;obtain⟨C,D⟩:=at_ _ o.2 hf.2.1 hf.2.2;refine⟨⟨a1,C⟩,?_⟩;simp only[RT];rw[a2,D];exact fit
 .obtain⟨k,K,rfl⟩:=x?.1 he;have z:0<=k/\k<r.ci.bk.bi.length:=CP K;have hf:=(s.ro.right.fit _ (AG z.1 z.2)).2;obtain⟨a1,ε,a2⟩:=s.AbB hf.1.1 hf.1.2;obtain⟨C,κ,D⟩:=s.AbB hf.2.1 hf.2.2;have A:=s.put.kind;refine⟨⟨a1,C⟩,?_⟩;exact pJ (Ck s.hv) ⟨(A _ (AG a1.1 a1.2)).1,ε⟩ ⟨(A _ (AG C.1 C.2)).1,κ⟩ a2 D ((fN s.re).2 k K)
end Go.Sf.Sc
namespace Go.Sf.Sc
open Go Go.Sf
def jh(t:AC)(k:Int)(v:Fp):Prop:=v.length=(A5 t k).length/\∀j:Int,0<=j->j<v.length->(AA (A5 t k) j).Low<=AA v j/\AA v j<=(AA (A5 t k) j).Aab
def YK(t:AC)(g:bk)(κ:List Fp):Prop:=κ.length=g.az.length/\∀i:Int,0<=i->i<g.az.length->jh t (AA g.az i) (AA κ i)
theorem mT{t:AC}{x:AH}{κ:List Fp}(h:YK t x.bk κ){p:(Int×Int)×Int}(D:Nx t x p=T):YK t x.bk (Cq κ p):=by
 unfold Cq;split
 .rename_i C;refine⟨by rw[List.length_modify];exact h.1,λi E F=>?_⟩;have hi:=h.2 i E F;by_cases e:i=p.1.1
  .have o:AA (κ.modify p.1.1.toNat λr=>r.set p.1.2.toNat p.2) i=(AA κ i).set p.1.2.toNat p.2:=by
    have:=h.1;subst e;simp[AA,y_,y! (show p.1.1.toNat<κ.length by omega)]
   rw [o];refine⟨by rw[y?];exact hi.1,λj z A=>?_⟩;rw[y?]at A;by_cases u:j=p.1.2
   .rw[show AA ((AA κ i).set p.1.2.toNat p.2) j=p.2 by rw[u];exact tE p.2 C.2 U,u,e];simp[Nx]at D;omega
   .rw[show AA ((AA κ i).set p.1.2.toNat p.2) j=AA (AA κ i) j from tF p.2 C.2 z u];exact hi.2 j z A
  .have o:AA (κ.modify p.1.1.toNat λr=>r.set p.1.2.toNat p.2) i=AA κ i:=by
    simp [AA,z_,y_,show¬p.1.1.toNat=i.toNat by omega]
   rw [o];exact hi
 .exact h
theorem al{t:AC}{x:AH}:∀(L:Be){κ:List Fp},YK t x.bk κ->L.any (Nx t x)=T->YK t x.bk (L.foldl Cq κ)
 |[],_,h,_=>h|p::L,κ,h,e=>by
  rw [List.any_cons,G?]at e;exact al L (mT h e.1) e.2
variable{m:AU}
theorem ID.cE{t:AC}{r:d4}{h:AH}(s:ID t r h m):(∀n∈(gS t r h m).bk.az,(AA t.az n).pq=T)/\∀v n,(n,v)∈(gS t r h m).bk.az.zip (gS t r h m).d6->jh t n v:=by
 have L:=Ck s.hv;have el:(gS t r h m).bk.az=(dS r h m).az.map (AA h.bk.az)++(EQ r).map (AA r.ci.bk.az):=rfl;have ev:(gS t r h m).d6=(dS r h m).az.map (AA h.d6)++(EQ r).map (λk=>Xu t (AA r.ci.bk.az k)):=rfl;have old:∀x∈(dS r h m).az,(AA t.az (AA h.bk.az x)).pq=T/\jh t (AA h.bk.az x) (AA h.d6 x):=λx o=>by
  have o:=s.rem.cE.1 x o;have u:=(Mk s.he).1 x o.1 o.2;unfold Gm at u;split at u
  .cases u
  split at u
  .cases u
  split at u
  .cases u
  split at u
  .cases u
  rename_i a1 a2 O Q;refine⟨by simpa using a2,I'.1 O,λj E F=>?_⟩;have:=BV.1 (by simpa using Q) j E U;simp[RX]at this;omega
 have new:∀k∈EQ r,jh t (AA r.ci.bk.az k) (Xu t (AA r.ci.bk.az k)):=λk K=>by
  have C:0<=k/\k<r.ci.bk.az.length:=CP K;have D:=(Cw s.ro.right s.ro.Aam).1 _ (AG C.1 C.2);refine⟨by simp[Xu],λj E F=>?_⟩;simp only[Xu,a6]at F|-;have:=lz s.hf L D.1 D.2 _ (AG E F);rw[show AA ((A5 t (AA r.ci.bk.az k)).map λx=>x.Low) j=(AA (A5 t (AA r.ci.bk.az k)) j).Low by grind[AA,y!]];omega
 refine ⟨λn A=>?_,λv n z=>?_⟩
 .rw[el]at A;rcases x!.1 A with A|A
  .obtain⟨x,o,rfl⟩:=x?.1 A;exact(old x o).1
  .obtain⟨k,K,rfl⟩:=x?.1 A;exact(fN s.re).1 k K
 .rw[el,ev,List.zip_append V]at z;rcases x!.1 z with z|z
  .rw[z!,x?]at z;obtain⟨x,o,e⟩:=z;cases e;exact(old x o).2
  .rw[z!,x?]at z;obtain⟨x,o,e⟩:=z;cases e;exact new x o
end Go.Sf.Sc
namespace Go.Sf.Sc
open Go Go.Sf
variable{α β:Type}
theorem yG[Inhabited α][Inhabited β]{a:List α}{b:List β}{i:Int}(e:0<=i)(o:i<a.length)(u:i<b.length):(AA a i,AA b i)∈a.zip b:=by
 refine z? (i:=i.toNat) ?_;rw[List.getElem?_zip_eq_some]
 grind [AA,y!]
variable{m:AU}
theorem XG{t:AC}{r:d4}{h:AH}(s:YR t r h m):Bc t (Sp t r h m)=(-1,0):=by
 have f:=s.f;have hv:=f.hv;have C:=Ck hv;have put:=f.put;have F:=f.c9;obtain⟨Q,R⟩:=f.cE;have ζ:=C.cE;have δ:=C.c9;have z:YK t (gS t r h m).bk (gS t r h m).d6:=⟨put.vlen,λi A u=>R _ _ (yG A u (by rw[put.vlen];exact u))⟩;have o:=al (x:=gS t r h m) _ z (nR s.put).2;have D:∀e∈(gS t r h m).bk.bi,0<=e.em/\e.em<t.bi.length:=λe he=>by
  have:=(F e he).2;unfold Iu at this;simp only[gR,o4]at this;exact this.1.2
 have go:BW (gS t r h m).bk:=⟨s.few.1,s.few.2,λn L=>by have:=put.kind n L;omega,λe he=>⟨by have:=D e he;omega,(F e he).1⟩⟩;have O:(Sp t r h m).bk=(gS t r h m).bk:=rfl;have ev:(Sp t r h m).d6=(CD r (cS r h m) m.ei).foldl Cq (gS t r h m).d6:=rfl;unfold Bc;rw[QQ t!,O,ev,QQ (by simp[HC go]),QQ (by simpa using o.1),Bb.2]
 .dsimp only;rw[Bb.2]
  .rfl
  intro i A u;have E:=AG A u;have K:HP t (gS t r h m).bk i=0:=by
   unfold HP DG;rw[QQ (by have:=D _ E;omega),(F _ E).2];rfl
  rw [K];rfl
 .intro i A u;have E:=AG A u;obtain⟨ε,κ⟩:=o.2 i A u;have K:Gm t (AA (gS t r h m).bk.az i) (AA ((CD r (cS r h m) m.ei).foldl Cq (gS t r h m).d6) i)=0:=by
   unfold Gm;rw[QQ (by have:=put.kind _ E;omega),QQ (by simp[Q _ E]),QQ (by simpa using ε),QQ];rw[Dv];rintro⟨j,η,Z,e⟩;have:=κ j η U;simp[RX]at e;omega
  rw [K];rfl
end Go.Sf.Sc
namespace Go.Sf
def C2{α σ ρ:Type}(g:α->σ->σ ⊕ ρ):List α->σ->σ ⊕ ρ
 |[],s=>.inl s|x::l,s=>match g x s with
  |.inl s'=>C2 g l s'|.inr r=>.inr r
def o5{σ ρ:Type}:σ ⊕ ρ->B3 σ ρ
 |.inl s=>.next s|.inr r=>.ret r
variable{α σ ρ:Type}
theorem N9{g:α->σ->σ ⊕ ρ}{I:σ->Prop}{R:ρ->Prop}:∀{l:List α}{s:σ},(∀x∈l,∀s,I s->(∀s',g x s=.inl s'->I s')/\∀r,g x s=.inr r->R r)->I s->(∀s',C2 g l s=.inl s'->I s')/\∀r,C2 g l s=.inr r->R r
 |[],s,_,h=>⟨λs' e=>by cases e;exact h,λr e=>n_⟩
 |x::l,s,o,h=>by
  obtain ⟨z,A⟩:=o x (.head _) s h;rw[C2];cases e:g x s with
  |inl v=>exact N9 (λy u=>o y (w! _ u)) (z v e)|inr r=>
   constructor
   .intro s' k;cases k
   .intro C k;cases k;exact A r e
variable{f:Int->σ->Option (B3 σ ρ)}
theorem XK[Inhabited α]{l:List α}(g:α->σ->σ ⊕ ρ)(I:σ->Prop)(h:∀(i:Int)s,0<=i->i<l.length->I s->f i s=Y (o5 (g (AA l i) s))/\∀s',g (AA l i) s=.inl s'->I s'):
  ∀(n:Nat)(a:Int)(s:σ),0<=a->a+n=l.length->I s->sr f n a s=Y (C2 g (l.drop a.toNat) s)
 |0,a,s,a0,z,_=>by
  rw [A_ U];rfl
 |n+1,a,s,a0,z,A=>by
  obtain ⟨o,u⟩:=h a s a0 U A;have hd:l.drop a.toNat=AA l a::l.drop (a+1).toNat:=by
   rw [A' U,show(a+1).toNat=a.toNat+1 by omega];congr 1;unfold AA;rw[z_,y! U];rfl
  rw [FW,o,hd,C2];cases e:g (AA l a) s with
  |inr r=>rfl|inl v=>exact XK g I h n (a+1) v U U (u v e)
theorem Yk[Inhabited α]{l:List α}(g:α->σ->σ ⊕ ρ)(I:σ->Prop){s:σ}(e:I s)(h:∀(i:Int)s,0<=i->i<l.length->I s->f i s=Y (o5 (g (AA l i) s))/\∀s',g (AA l i) s=.inl s'->I s'):eE f 0 l.length s=Y (C2 g l s):=by
 have:=XK g I h l.length 0 s U U e;unfold eE;simpa using this
end Go.Sf
namespace Go.Sf.Sc
open Go Go.Sf
theorem Rl{t:AC}{s:Ak}{r:d4}(h:B8 t s r=0):GH r.ca<=40:=by
 unfold B8 at h;split at h
 .omega
 split at h
 .omega
 split at h
 .cases h
 rename_i K L C;have o:Pq r=X:=by simpa using C
 unfold Pq at o;simp only[gR,o4]at o;have D:r.ca.fu=1:=o.1.2;obtain⟨_,_,A⟩:=Q2 (t:=t) (r:=r) U;unfold Ni at A;split at A
 .omega
 split at A
 .omega
 rename_i O Q;have u:O4 r.ca=0:=U
 have z:fi r.ca=X:=by
  cases E:fi r.ca with
  |true=>rfl|false=>unfold O4 at u;rw[Ne E]at u;cases u
 unfold fi at z;have R:=Gd r.ca;obtain⟨n,F⟩:∃n,SizeOf.sizeOf r.ca=n+1:=⟨SizeOf.sizeOf r.ca-1,U⟩;rw[F,ST,gR]at z;have e:=z.1;unfold R5 at e;rw[Ne D]at e;simp only[gR,o4]at e;rw[dK,A! e.1];decide
noncomputable def C9(t:AC)(s:Ak)(c8:List d4):Int:=
 if 6<(c8.length:Int)then 3 else if Gq t s≠0 then Gq t s else if(t.az.any λn=>decide (0<(n.iN.length:Int)))=X then 8 else
 (fst (λi=>nz (B8 t s (AA c8 i))) 0 c8.length).getD 0
theorem wu{t:AC}(hf:Ao t)(s:Ak):∃x,HI t s=Y (x,Gq t s):=by
 unfold HI;rw[Zx hf,bs];by_cases h:Gq t s=0
 .obtain⟨E,e⟩:=Pj h;have z:=e.tc;have A:=e.wi;have C:=hf.cE;have D:=hf.c9;rw[QQ (by simp[h])];obtain⟨m,o⟩:=SF (l:=s.az) U;obtain⟨k,u⟩:=SF (l:=s.bi) U;rw[o,bs,u,bs,h];exact⟨_,rfl⟩
 .rw[Ne (by simp[h])];exact⟨_,rfl⟩
theorem nF{t:AC}(hf:Ao t)(s:Ak){c8:List d4}(C:∀r∈c8,DN r):CY ⟨t,s,c8⟩=Y (C9 t s c8):=by
 unfold CY C9;dsimp only;by_cases o:6<(c8.length:Int)
 .rw[Ne b?,Ne o]
 rw [QQ b?,QQ o];obtain⟨x,e⟩:=wu hf s;rw[e,bs];dsimp only;refine Dd λ_=>?_;rw[show BS t.az E6=Y (t.az.any λn=>decide (0<(n.iN.length:Int)))from fx λn _=>rfl,bs];by_cases u:(t.az.any λn=>decide (0<(n.iN.length:Int)))=X
 .rw[Ne u,Ne u]
 rw [QQ u,QQ u,Ba (λi=>nz (B8 t s (AA c8 i))),Cj];intro i z A _;rw[AD z A,bs,ww hf (C _ (AG z A)),bs,L6]
theorem en{t:AC}(hf:Ao t)(s:Ak){c8:List d4}(z:∀r∈c8,DN r):Hn t s c8=Y (C9 t s c8):=by
 unfold Hn C9;by_cases u:6<(c8.length:Int)
 .rw[Ne e_,Ne u]
 rw [QQ e_,QQ u,jE hf,bs];refine Dd λ_=>?_;rw[BO (λi=>decide (0<((AA t.az i).iN.length:Int))) 8]
 .rw[show(t.az.any λn=>decide (0<(n.iN.length:Int)))=fq (λi=>decide (0<((AA t.az i).iN.length:Int))) 0 t.az.length from Gi];cases fq (λi=>decide (0<((AA t.az i).iN.length:Int))) 0 t.az.length with
  |true=>rfl|false=>
   rw [QQ a_,QQ a_,CB,Ba (λi=>nz (B8 t s (AA c8 i))),Cj];intro i e o _;rw[AD e o,bs,xM hf (z _ (AG e o)),bs,L6]
 .intro i e o _;rw[AD e o,bs];cases decide (0<((AA t.az i).iN.length:Int))<;>rfl
theorem Iz{t:AC}{s:Ak}{c8:List d4}(h:C9 t s c8=0):∀r∈c8,B8 t s r=0:=by
 unfold C9 at h;split at h
 .cases h
 split at h
 .omega
 split at h
 .cases h
 intro r e;obtain⟨i,o,u,rfl⟩:=Ay e;exact S4 h i o u
def zH:AH:=⟨⟨[],[]⟩,[]⟩
theorem wD{b:Bool}{o:I1}{c:Bool}(h:b=T->o=Y c):(if b=X then Y X else o)=Y (b||c):=by
 cases b with
 |true=>rfl|false=>rw[QQ a_,h rfl];rfl
noncomputable def EN(t:AC)(c8:List d4)(m:DC)(s:AH×AH):(AH×AH) ⊕ (AH×Int):=
 if m.d4<0\/(c8.length:Int)<=m.d4 then .inr (zH,6)else
 if (GF t (AA c8 m.d4) s.2 m.gN).2≠0 then .inr (zH,(GF t (AA c8 m.d4) s.2 m.gN).2)else .inl (s.1,(GF t (AA c8 m.d4) s.2 m.gN).1.l4)
noncomputable def LU(t:AC)(s:Ak)(c8:List d4)(l:List DC):AH×Int:=
 if C9 t s c8≠0 then(zH,C9 t s c8)else if 30<(l.length:Int)then(zH,3)else
 match C2 (EN t c8) l (zH,zH)with
 |.inl x=>(x.2,0)|.inr r=>r
section
variable{t:AC}{s:Ak}{c8:List d4}
theorem AAK(hf:Ao t)(z:∀r∈c8,DN r)(l:List DC):GV t s c8 l=Y (LU t s c8 l):=by
 unfold GV LU;rw[nF hf s z,bs];refine Dd λC=>?_;by_cases e:30<(l.length:Int)
 .rw[Ne i!,Ne e];rfl
 rw [QQ i!,QQ e,Yk (EN t c8) (λ_=>True) trivial λi x D E _=>⟨?_,λ_ _=>trivial⟩]
 .show eb (Y (C2 (EN t c8) l (zH,zH))) _ _=_;cases C2 (EN t c8) l (zH,zH)<;>rfl
 .rw[AD D E,bs];unfold EN;by_cases o:(AA l i).d4<0\/(c8.length:Int)<=(AA l i).d4
  .rw[Ne b?,Ne o];rfl
  rw [QQ b?,QQ o,AD U U,bs];have A:=AG (l:=c8) (i:=(AA l i).d4) U U;rw[wt hf (z _ A) (Rl (Iz C _ A)),bs];by_cases u:(GF t (AA c8 (AA l i).d4) x.2 (AA l i).gN).2=0
  .rw[QQ g!,QQ g!];rfl
  .rw[Ne g!,Ne u];rfl
theorem AAS(hf:Ao t)(z:∀r∈c8,DN r)(l:List DC):NZ t s c8 l=Y (LU t s c8 l):=by
 unfold NZ LU;rw[en hf s z,bs];refine Dd λC=>?_;by_cases e:30<(l.length:Int)
 .rw[Ne i!,Ne e];rfl
 rw [QQ i!,QQ e,Yk (EN t c8) (λ_=>True) trivial λi x D E _=>⟨?_,λ_ _=>trivial⟩]
 .show eb (Y (C2 (EN t c8) l (zH,zH))) _ _=_;cases C2 (EN t c8) l (zH,zH)<;>rfl
 .rw[AD D E,bs,bs,wD λ_=>rfl,bs];unfold EN;by_cases o:(AA l i).d4<0\/(c8.length:Int)<=(AA l i).d4
  .rw[Ne b?,Ne o];rfl
  rw [QQ b?,QQ o,bs,AD (l:=c8) U U,bs,bs];have A:=AG (l:=c8) (i:=(AA l i).d4) U U;rw[fC hf (z _ A) (Rl (Iz C _ A)),bs];by_cases u:(GF t (AA c8 (AA l i).d4) x.2 (AA l i).gN).2=0
  .rw[QQ g!,QQ g!];rfl
  .rw[Ne g!,Ne u];rfl
end
theorem Ro(n:Nat):(AY n).Nodup:=by
 unfold AY;exact List.Pairwise.map _ (λa b h e=>h (Int.ofNat.inj e)) List.nodup_range
def o6(l:Fp)(n:Int):Bool:=!fq (λi=>!hasB l i) 0 n
theorem tQ{l:Fp}{n:Nat}(o:l.Nodup)(h:∀x∈l,0<=x/\x<n):o6 l n=decide (l.length=n):=by
 rw [H_,o4];unfold o6;rw[G!,BV];have D:=Jj o h;refine⟨λu=>?_,λC i z A=>?_⟩
 .have:=List.Nodup.length_le_of_subset (l₁:=AY n) (l₂:=l) (Ro n) (λx e=>by
   have:=u x (Bs.1 e).1 (Bs.1 e).2;simpa[Ag]using this)
  rw [Am]at this;omega
 .by_cases hi:i∈l
  .simp[Ag.2 hi]
  .have:=Jj (l:=i::l) (n:=n) (List.nodup_cons.2 ⟨hi,o⟩) (λx e=>by
    rcases w_.1 e with rfl|e
    .exact⟨z,A⟩
    .exact h x e)
   simp at this;omega
noncomputable def Xt(a b:bk)(m:bn):Bool:=decide (Hm a b m=0)&&(Gz m&&(decide (m.az.length=b.az.length)&&decide (m.bi.length=b.bi.length)))
theorem wk(a b:bk)(m:bn):((Cn a b m).bind λo=>(if o=X then((ED a b m).bind λu=>Y (u))else Y T).bind λz=>Y z)=Y (Xt a b m):=by
 unfold Xt;by_cases h:Hm a b m=0
 .rw[kZ h,bs,decide_eq_true h,Bool.true_and];cases hi:Gz m with
  |false=>rfl|true=>
   have ho:=SC h;have:=ho.ga.cE;have:=ho.ga.c9;have:=ho.tc;have:=ho.wi;obtain⟨k,D,A⟩:=Tw (l:=m.az) U;obtain⟨j,E,C⟩:=Tw (l:=m.bi) U;unfold Gz at hi;rw[gR]at hi;rw[hi.1,o4]at A;rw[hi.2,o4]at C;unfold ED;rw[Ne rfl,Wv,h,bs,Ne (decide_eq_true rfl),D,bs,bs,A];by_cases e:m.az.length=b.az.length
   .rw[Ne d!,E,bs,bs,C];simp[e];omega
   .rw[QQ an];simp[e]
 .unfold Cn;rw[Wv,bs,QQ (by simp[h])];simp[h]
noncomputable def Ut(t:AC)(s:Ak)(c8:List d4)(x:BU):Bool:=
 if (LU t s c8 x.Aao).2≠0 then T else if(Bc t x.jj).2≠0 then T else Xt (LU t s c8 x.Aao).1.bk x.jj.bk x.Iso
section
variable{t:AC}{s:Ak}{c8:List d4}
theorem wa(hf:Ao t)(e:∀r∈c8,DN r)(x:BU):Dm t s c8 x=Y (Ut t s c8 x):=by
 unfold Dm Ut;rw[AAK hf e,bs];refine Dd λ_=>?_;rw[RZ hf,bs];exact Dd λ_=>wk _ _ _
theorem zf(C:(AN t).Sm)(D:∀r∈c8,(Bp r).Sm):∃b,QZ t s c8=Y b/\(b=X->Ao t/\∀r∈c8,DN r):=by
 unfold QZ;by_cases h:8<(c8.length:Int)
 .rw[Ne c!];exact⟨T,rfl,λh=>d_⟩
 rw [QQ c!];rcases Xl (f:=λ(o:Int)(_:Unit)=>
  (idx c8 o).bind λz=>
  (MK t s z).bind λA=>
  if (!A)=X then
  Y (.ret T)
  else
  Y (.next ())) (λi _=>∀j:Int,0<=j->j<i->DN (AA c8 j)) (λ_=>False) (λr=>r=T) (a:=0) (b:=c8.length) (s:=()) U (λj O Q=>U) (λi s' o u hi=>by
   obtain ⟨b,e,f⟩:=iI (s:=s) C (D _ (AG o u));rw[AD o u,bs,e,bs];cases b with
   |false=>exact .inr (.inr ⟨T,rfl,rfl⟩)|true=>
    refine .inl ⟨(),rfl,λj E R=>?_⟩;by_cases e:j=i
    .rw[e];exact(f rfl).2
    .exact hi j E U)with⟨s',e3,h3⟩|⟨r,e3,h3⟩
 .rw[e3,CB];have L:=h3.resolve_right id;obtain⟨b,e,f⟩:=iI (t:=t) (s:=s) (r:=⟨⟨#[]⟩,⟨⟨[],[]⟩,[],0,[]⟩,⟨⟨[],[]⟩,[],0,[]⟩,⟨[],[]⟩,⟨[],[]⟩,T,⟨0,[],⟨[],[]⟩,⟨⟨[],[]⟩,[],0,[]⟩⟩⟩) C (by
   simp only[Bp,TV.Sm,TV.Sms]
   repeat' (first|exact trivial|exact Nat.zero_le _|exact⟨Nat.zero_le _,trivial⟩|apply And.intro))
  rw [e,bs];refine⟨b,rfl,λF=>⟨(f F).1,λr K=>?_⟩⟩;obtain⟨i,o,u,rfl⟩:=Ay K;exact L i o u
 .rw[e3,Vf,h3];exact⟨T,rfl,λh=>d_⟩
theorem Zq(u:(AN t).Sm)(z:∀r∈c8,(Bp r).Sm)(h:AH):∃b,FP t s c8 h=Y b/\(b=X->Ao t/\∀r∈c8,DN r):=by
 obtain ⟨D,E,F⟩:=zf (s:=s) u z;obtain⟨K,L,_⟩:=mG (h:=h);unfold FP;rw[E,bs,L];cases D with
 |false=>exact⟨T,rfl,λh=>d_⟩
 |true=>
 obtain ⟨hf,e⟩:=F rfl;rw[QQ a_,bs,bs];cases K with
 |false=>exact⟨T,rfl,λh=>d_⟩
 |true=>
 rw [QQ a_,en hf s e,bs];by_cases o:(!decide (C9 t s c8=0))=X
 .rw[Ne o];exact⟨X,rfl,λ_=>⟨hf,e⟩⟩
 rw [QQ o,BO (λi=>(decide (6<((AA c8 i).ci.bk.az.length:Int)))||(decide (7<((AA c8 i).ci.bk.bi.length:Int)))) T]
 .cases fq (λi=>(decide (6<((AA c8 i).ci.bk.az.length:Int)))||(decide (7<((AA c8 i).ci.bk.bi.length:Int)))) 0 c8.length with
  |true=>exact⟨T,rfl,λh=>d_⟩
  |false=>exact⟨_,rfl,λ_=>⟨hf,e⟩⟩
 .intro i A C _;rw[AD A C,bs];cases((decide (6<((AA c8 i).ci.bk.az.length:Int)))||(decide (7<((AA c8 i).ci.bk.bi.length:Int))))<;>rfl
end
end Go.Sf.Sc
namespace Go.Sf.Sc
open Go Go.Sf
def Bh(s:Ak)(r:d4)(l:Fp):bk:=⟨r.ea.bk.az++(DX s r l).map (AA r.ci.bk.az),r.ea.bk.bi++(EH s r l).map (Wi r (At s r l))⟩
def Ma(s:Ak)(r:d4)(l:Fp):Prop:=∀i∈EH s r l,(AA r.ci.bk.bi i).fb∈At s r l/\(AA r.ci.bk.bi i).To∈At s r l
def SH(n:Nat)(l:Fp):Fp:=(AY n).map λv=>if hasB l v=X then A1 l v else 0
theorem pZ{l:Fp}{x:Int}(E:x∉l)(v:Int):A1 (l++[x]) v=if v∈l then A1 l v else if v=x then(l.length:Int)else -1:=by
 have key:∀w:Int,w∈l++[x]->∀k:Int,0<=k->k<l.length+1->AA (l++[x]) k=w->(∀j:Int,0<=j->j<k->AA (l++[x]) j≠w)->A1 (l++[x]) w=k:=by
  intro w C k D F e h;obtain⟨a,b,c,d⟩:=BP C;rw[aE]at b;by_cases o:A1 (l++[x]) w<k
  .exact absurd c (h _ a o)
  by_cases z:k<A1 (l++[x]) w
  .exact absurd e (d k D z)
  omega
 have left:∀j:Int,0<=j->j<l.length->AA (l++[x]) j=AA l j:=λj u A=>by
  rw [HM,Ne U]
 by_cases o:v∈l
 .rw[Ne o];obtain⟨a,b,c,d⟩:=BP o;exact key v (A? _ o) _ a U (by rw[left _ a b];exact c) λj u A=>by rw[left j u U];exact d j u A
 .rw[QQ o];by_cases z:v=x
  .rw[Ne z];subst z;refine key v (B_ _ (.head _)) _ U U ?_ λj u A e=>?_
   .rw[HM,QQ U];simp[AA]
   .rw[left j u A]at e;exact o (e▸AG u A)
  .rw[QQ z];exact Q9 (by simp[o,z])
theorem iy{n:Nat}{l:Fp}{x:Int}(z:0<=x)(u:x∉l):BB (SH n l) x (l.length:Int)=SH n (l++[x]):=by
 unfold SH;rw[Gc _ z];refine B' λj _=>?_;rw[pZ u];by_cases o:j=x
 .subst o;rw[Ne rfl,Ne (by rw[Ag];simp),QQ u,Ne rfl]
 .rw[QQ o];by_cases e:j∈l
  .rw[Ne (Ag.2 e),Ne (by rw[Ag];simp[e]),Ne e]
  .rw[QQ (by rw[Ag];exact e),QQ (by rw[Ag];simp[o,e])]
theorem TB(n:Nat)(l:Fp):(SH n l).length=n:=by unfold SH;rw[a6,Am]
theorem iw{n:Nat}(e:n<=4096):FA (n:Int) (0:Int)=Y (SH n []):=by
 unfold FA;rw[Ne U];congr 1;refine(B! (by simp[TB]) λi o u=>?_);simp[SH,hasB]
variable{v:Int}
theorem nO{n:Nat}{l:Fp}(e:0<=v)(o:v<n)(hv:v∈l):AA (SH n l) v=A1 l v:=by
 unfold SH;rw[FH _ e o,Ne (Ag.2 hv)]
theorem Tx{l:Fp}{n:Int}(e:0<=n)(o:n<=1000):Fv n l=Y (AJ l n):=by
 unfold Fv;rw[SO e o λi=>Sz l i];rfl
def KT(q:Int->Bool)(rest:Fp)(i:Int):Fp:=(rest.take i.toNat).filter q
theorem bY(q:Int->Bool){rest:Fp}{i:Int}(e:0<=i)(o:i<rest.length):KT q rest (i+1)=KT q rest i++if q (AA rest i)=X then[AA rest i]else[]:=by
 unfold KT;rw[CU e o,List.filter_append];cases h:q (AA rest i)<;>simp[h]
theorem fP(q:Int->Bool)(l:Fp)(n:Int):KT q (AJ l n) ((AJ l n).length:Int)=FT (λi=>!hasB l i&&q i) n:=by
 unfold KT AJ FT;rw[I?,B?,List.filter_filter];congr 1;funext i;rw[Bool.and_comm]
variable{q:Int->Bool}
theorem qk{rest:Fp}{i x:Int}(h:x∈KT q rest i):x∈rest.take i.toNat:=(C_.1 h).1
theorem fQ(q:Int->Bool)(rest:Fp)(i:Int):(KT q rest i).length<=rest.length:=by
 unfold KT;exact Nat.le_trans (List.length_filter_le _ _) i_
theorem aC{l:Fp}{i j:Int}(e:0<=j)(h:j<i):AA (l.take i.toNat) j=AA l j:=by
 unfold AA;rw[z_,z_,List.getElem?_take,Ne U]
theorem jO{l:Fp}(o:l.Nodup){i:Int}(z:0<=i)(A:i<l.length):AA l i∉l.take i.toNat:=λC=>by
 obtain ⟨j,u,E,e⟩:=Ay C;rw[aN]at E;rw[aC u U]at e;have D:=Cz o z A;have F:=Cz o u (show j<l.length by omega);rw[<-e]at D;omega
theorem k8(l:Fp)(n:Int):(AJ l n).Nodup:=by
 rw [show AJ l n=FT (λi=>!hasB l i) n from rfl];unfold FT;exact List.Pairwise.filter _ (Ro n.toNat)
theorem fL{l:Fp}{n x:Int}(h:x∈AJ l n):x∉l:=λe=>by
 unfold AJ at h;have:=(C_.1 h).2;rw[Ag.2 e]at this;cases this
theorem Br{n x:Int}:x∈FT q n↔(0<=x/\x<n)/\q x=X:=by
 unfold FT;rw[C_];constructor
 .rintro⟨o,u⟩;obtain⟨k,z,rfl⟩:=x?.1 o;rw[C']at z;have e:Int.ofNat k=(k:Int):=rfl;exact⟨⟨U,U⟩,u⟩
 .rintro⟨⟨o,u⟩,A⟩;exact⟨x?.2 ⟨x.toNat,C'.2 U,Int.toNat_of_nonneg o⟩,A⟩
section
variable{t:AC}{s:Ak}{r:d4}
theorem fa{l:Fp}(e:∀i:Int,0<=i->i<r.ed.az.length->0<=AA r.ed.az i/\AA r.ed.az i<r.ci.bk.az.length){x:Int}(h:x∈At s r l):0<=x/\x<r.ci.bk.az.length:=by
 rcases x!.1 h with h|h
 .obtain⟨i,o,u,rfl⟩:=Ay h;exact e i o u
 .exact(Br.1 h).1
theorem wm{p:Ai}(δ:B8 t p.kp.s r=0)(he:Ma p.kp.s r p.Aan):Dp p r=Y ⟨Bh p.kp.s r p.Aan,DX p.kp.s r p.Aan,EH p.kp.s r p.Aan⟩:=by
 obtain ⟨hs,ho,l1,l2⟩:=DB δ;have R:=ho.left;have ε:=SR hs ho.right ho.Aam;have n1:=R.cE;have n2:=R.c9;have n3:=ho.right.cE;have n4:=ho.right.c9;have z:=ho.mor;have A:∀i:Int,0<=i->i<r.ed.az.length->0<=AA r.ed.az i/\AA r.ed.az i<r.ci.bk.az.length:=λi e o=>(z.node i e o).1;generalize C:p.kp.s=s at *;generalize D:p.Aan=l at *;unfold Dp slices_Clone_int Cf;rw[BL b_,bs,BL b_,bs,iw U,bs,
  BQ (λi=>SH r.ci.bk.az.length (r.ed.az.take i.toNat)) U V,bs,I?,B?,Tx U U,bs,Tx U U]
 .have Z:KT (λi=>hasB l (AA s.az (AA r.ci.bk.az i))) (AJ r.ed.az r.ci.bk.az.length) ((AJ r.ed.az r.ci.bk.az.length).length:Int)=DX s r l:=fP _ _ _;have O:KT (λi=>hasB l (AA s.bi (AA r.ci.bk.bi i).em)) (AJ r.ed.bi r.ci.bk.bi.length) ((AJ r.ed.bi r.ci.bk.bi.length).length:Int)=EH s r l:=fP _ _ _;have k1:=IL r.ed.az r.ci.bk.az.length;have k2:=IL r.ed.bi r.ci.bk.bi.length;rw[BQ (λi=>(Cg.mk ⟨r.ea.bk.az++(KT (λi=>hasB l (AA s.az (AA r.ci.bk.az i))) (AJ r.ed.az r.ci.bk.az.length) i).map (AA r.ci.bk.az),r.ea.bk.bi⟩ (KT (λi=>hasB l (AA s.az (AA r.ci.bk.az i))) (AJ r.ed.az r.ci.bk.az.length) i) [],
    SH r.ci.bk.az.length (r.ed.az++KT (λi=>hasB l (AA s.az (AA r.ci.bk.az i))) (AJ r.ed.az r.ci.bk.az.length) i))) U (by simp[KT]),bs,bs,Z]
  .rw[BQ (λi=>Cg.mk ⟨r.ea.bk.az++(DX s r l).map (AA r.ci.bk.az),r.ea.bk.bi++(KT (λi=>hasB l (AA s.bi (AA r.ci.bk.bi i).em)) (AJ r.ed.bi r.ci.bk.bi.length) i).map (Wi r (At s r l))⟩ (DX s r l) (KT (λi=>hasB l (AA s.bi (AA r.ci.bk.bi i).em)) (AJ r.ed.bi r.ci.bk.bi.length) i)) U (by simp[KT]),bs,O]
   .rfl
   .intro i e o;have u:=CP (AG e o);have E:=ε.edge _ (AG u.1 u.2);have k3:=fQ (λi=>hasB l (AA s.bi (AA r.ci.bk.bi i).em)) (AJ r.ed.bi r.ci.bk.bi.length) i;rw[AD e o,bs,AD u.1 u.2,bs,C,AD E.1 E.2,bs,D,Sz,bs,bY _ e o];cases κ:hasB l (AA s.bi (AA r.ci.bk.bi (AA (AJ r.ed.bi r.ci.bk.bi.length) i)).em)with
    |false=>simp only[H',if_false,C!]|true=>
     have F:AA (AJ r.ed.bi r.ci.bk.bi.length) i∈EH s r l:=by
      refine Br.2 ⟨u,?_⟩;unfold Oj;rw[κ,Bool.and_true,G!];cases h:hasB r.ed.bi (AA (AJ r.ed.bi r.ci.bk.bi.length) i)with
      |false=>rfl|true=>exact absurd (Ag.1 h) (fL (AG e o))
     obtain ⟨η,ζ⟩:=he _ F;have K:=fa (s:=s) (l:=l) A η;have L:=fa (s:=s) (l:=l) A ζ;rw[Ne rfl,Ne rfl,AS a?,bs,AD K.1 (by rw[TB];exact K.2),bs,AD L.1 (by rw[TB];exact L.2),bs,AS a?,bs,show AA (SH r.ci.bk.az.length (r.ed.az++DX s r l)) (AA r.ci.bk.bi (AA (AJ r.ed.bi r.ci.bk.bi.length) i)).fb=_ from nO K.1 K.2 η,show AA (SH r.ci.bk.az.length (r.ed.az++DX s r l)) (AA r.ci.bk.bi (AA (AJ r.ed.bi r.ci.bk.bi.length) i)).To=_ from nO L.1 L.2 ζ,C?,<-ae];rfl
  .intro i e o;have u:=CP (AG e o);have E:=ε.node _ (AG u.1 u.2);have k3:=fQ (λi=>hasB l (AA s.az (AA r.ci.bk.az i))) (AJ r.ed.az r.ci.bk.az.length) i;rw[AD e o,bs,AD u.1 u.2,bs,C,AD E.1 E.2,bs,D,Sz,bs,bY _ e o];cases κ:hasB l (AA s.az (AA r.ci.bk.az (AA (AJ r.ed.az r.ci.bk.az.length) i)))with
   |false=>simp only[H',if_false,C!]|true=>
    have Q:AA (AJ r.ed.az r.ci.bk.az.length) i∉r.ed.az++KT (λi=>hasB l (AA s.az (AA r.ci.bk.az i))) (AJ r.ed.az r.ci.bk.az.length) i:=λz=>by
     rcases x!.1 z with z|z
     .exact fL (AG e o) z
     .exact jO (k8 _ _) e o (qk z)
    rw [Ne rfl,Ne rfl,AD u.1 (by rw[TB];exact u.2),bs,AS a?,bs,bs,AS a?,bs,C?,<-ae,<-ae];dsimp only;rw[show((r.ea.bk.az++List.map (AA r.ci.bk.az) (KT (λi=>hasB l (AA s.az (AA r.ci.bk.az i))) (AJ r.ed.az r.ci.bk.az.length) i)).length:Int)=((r.ed.az++KT (λi=>hasB l (AA s.az (AA r.ci.bk.az i))) (AJ r.ed.az r.ci.bk.az.length) i).length:Int)by rw[aE,aE,a6,l1],iy u.1 Q];rfl
 .intro i e o;have u:=A i e o;rw[AD e o,bs,AD u.1 (by rw[TB];exact u.2),bs];have:=iy (n:=r.ci.bk.az.length) u.1 (jO ho.inj.1 e o);rw[aN,show((min i.toNat r.ed.az.length:Nat):Int)=i by omega]at this;rw[this,CU e o]
end
end Go.Sf.Sc
namespace Go.Sf.Sc
open Go Go.Sf
structure NC(t:AC)(s:Ak):Prop where
 ok:Eh t
 node:∀i:Int,0<=i->i<t.az.length->Ln (AA s.az i)=X/\(0<=par t i->AA s.az (par t i)=AA s.az i)
 edge:∀i:Int,0<=i->i<t.bi.length->AA s.az (AA t.bi i).fb=AA s.bi i/\(AA s.az (AA t.bi i).To≠AA s.bi i↔AA s.bi i=2)
theorem Jc{t:AC}{s:Ak}(h:Gq t s=0):NC t s:=by
 obtain ⟨O,E⟩:=Pj h;unfold Gq at h;rw[QQ (by simp[O]),QQ (by simp[E.tc,E.wi])]at h;cases z:fst (Nb t s) 0 t.az.length with
 |some e=>
  rw [z]at h;simp only at h;obtain⟨i,_,_,o,_⟩:=Dx z;unfold Nb at o;split at o
  .cases o;cases h
  .split at o
   .cases o;cases h
   .cases o
 |none=>
  rw [z]at h;simp only at h;have L:=S4 h;rw[Bb]at z;refine⟨E.types,λi A C=>?_,λi A C=>?_⟩
  .have:=z i A C;unfold Nb at this;split at this
   .cases this
   .rename_i K;split at this
    .cases this
    .rename_i u;refine⟨by simpa using K,λF=>?_⟩;by_cases D:AA s.az (par t i)=AA s.az i
     .exact D
     .exact absurd ⟨F,D⟩ u
  .have:=L i A C;unfold Rh at this;split at this
   .cases this
   .split at this
    .cases this
    next u=>simp only[H!,G!,decide_eq_false_iff_not,beq_iff_eq,not_or,Decidable.not_not]at u;refine⟨u.1,?_⟩;have Q:=u.2;by_cases F:AA s.az (AA t.bi i).To=AA s.bi i<;>by_cases D:AA s.bi i=2<;>simp_all
theorem jV{t:AC}{s:Ak}(h:NC t s):∀(n:Nat)(a:Int),0<=a->a<t.az.length->∀x∈Gs t n a,AA s.az x=AA s.az a
 |0,_,_,_,x,e=>by simp[Gs]at e|n+1,a,a0,a1,x,e=>by
  rw [Gs,QQ U]at e;rcases w_.1 e with rfl|e
  .rfl
  .by_cases o:0<=par t a
   .have u:=h.ok.par a a0 a1;rw[jV h n (par t a) o U x e];exact(h.node a a0 a1).2 o
   .cases n with
    |zero=>simp[Gs]at e|succ n=>rw[Gs,Ne U]at e;cases e
variable{a b:Int}
theorem Wj{t:AC}{s:Ak}(h:NC t s)(a0:0<=a)(a1:a<t.az.length)(o:isB t a b=X):AA s.az b=AA s.az a:=by
 unfold isB at o;obtain⟨x,u,e⟩:=w?.1 o;rw[o4]at e;rw[e];exact jV h _ a a0 a1 x u
theorem UK{t:AC}{s:Ak}{r:d4}(h:B8 t s r=0):Gq t s=0/\FE t r=0:=by
 unfold B8 at h;split at h
 .omega
 split at h
 .omega
 exact ⟨U,U⟩
theorem lC{t:AC}{r:d4}(h:FE t r=0):Sd t r.ci.bk (EQ r) (IZ r)=X:=by
 cases e:Sd t r.ci.bk (EQ r) (IZ r)with
 |true=>rfl|false=>
  unfold FE at h;rw[e]at h
  grind
theorem S2{t:AC}{s:Ak}{r:d4}{l:Fp}(h:B8 t s r=0)(κ:hasB l 2=X->hasB l 1=X/\hasB l 3=X):Ma s r l:=by
 obtain ⟨Z,h2⟩:=UK h;obtain⟨_,ho,_,_⟩:=DB h;have C:=Jc Z;have z:=lC h2;have A:=Cw ho.right ho.Aam;intro i hi;obtain⟨⟨R,ε⟩,u⟩:=Br.1 hi;unfold Oj at u;rw[gR,G!]at u;have E:i∈IZ r:=by
  show i∈FT (λi=>!hasB r.ed.bi i) _;exact Br.2 ⟨⟨R,ε⟩,by rw[u.1];rfl⟩
 have o:DG t r.ci.bk i=X:=by
  unfold Sd at z;rw[gR,G!,G!]at z;have:=x_.1 z.2 i E;simpa using this
 unfold DG Iu at o;simp only[gR,o4]at o;obtain⟨⟨_,e0,e1⟩,f1,f2⟩:=o;have hf:=ho.right.fit _ (AG R ε);have K:=A.1 _ (AG (l:=r.ci.bk.az) (i:=(AA r.ci.bk.bi i).fb) U U);have D:=A.1 _ (AG (l:=r.ci.bk.az) (i:=(AA r.ci.bk.bi i).To) U U);have δ:=Wj C K.1 K.2 f1;have s2:=Wj C D.1 D.2 f2;obtain⟨g1,g2⟩:=C.edge _ e0 e1;have key:∀x:Int,0<=x->x<r.ci.bk.az.length->hasB l (AA s.az (AA r.ci.bk.az x))=X->x∈At s r l:=λx η x1 ζ=>by
  by_cases L:x∈r.ed.az
  .exact A? _ L
  .refine B_ _ (Br.2 ⟨⟨η,x1⟩,?_⟩);unfold Ok;have:hasB r.ed.az x=T:=by rw[<-H?,Ag];exact L
   rw [this,ζ];rfl
 refine ⟨key _ U U (by rw[<-δ,g1];exact u.2),key _ U U ?_⟩;rw[<-s2];by_cases O:AA s.bi (AA r.ci.bk.bi i).em=2
 .rw[O]at u;obtain⟨k1,k3⟩:=κ u.2;have F:=(C.node _ D.1 D.2).1;rw[<-s2]at F;unfold Ln at F;simp only[gR,o4]at F;have:AA s.az (AA t.bi (AA r.ci.bk.bi i).em).To=1\/AA s.az (AA t.bi (AA r.ci.bk.bi i).em).To=2\/AA s.az (AA t.bi (AA r.ci.bk.bi i).em).To=3:=U
  rcases this with e|e|e<;>rw[e]
  .exact k1
  .exact u.2
  .exact k3
 .have:AA s.az (AA t.bi (AA r.ci.bk.bi i).em).To=AA s.bi (AA r.ci.bk.bi i).em:=by
   by_cases Q:AA s.az (AA t.bi (AA r.ci.bk.bi i).em).To=AA s.bi (AA r.ci.bk.bi i).em
   .exact Q
   .exact absurd (g2.1 Q) O
  rw [this];exact u.2
end Go.Sf.Sc
namespace Go.Sf.Sc
open Go Go.Sf
theorem X9(l:Fp)(n:Int):(AJ l n).Pairwise (·<·):=by
 unfold AJ;refine List.Pairwise.filter _ ?_;rw[D_];exact List.Pairwise.imp (λh=>Int.ofNat_lt.2 h) List.pairwise_lt_range
theorem GQ{l:Fp}{n x:Int}:x∈AJ l n↔(0<=x/\x<n)/\x∉l:=by
 show x∈FT (λi=>!hasB l i) n↔_;rw[Br,G!,<-H?,Ag]
variable{σ:Type}
theorem mP{f:Int->σ->Option σ}{l:Fp}{n:Int}(G:Int->σ)(n0:0<=n)(A:∀i,0<=i->i<n->i∈l->G (i+1)=G i)
  (C:∀k:Int,0<=k->k<(AJ l n).length->f k (G (AA (AJ l n) k))=Y (G (AA (AJ l n) k+1))):gp f 0 ((AJ l n).length:Int) (G 0)=Y (G n):=by
 have R:=X9 l n;have lt:∀i j:Int,0<=i->i<j->j<(AJ l n).length->AA (AJ l n) i<AA (AJ l n) j:=λi j e ij ζ=>by
  have:=List.pairwise_iff_getElem.1 R i.toNat j.toNat U U U;unfold AA;rw[z_,z_,y! U,y! U];exact this
 have D:∀(m:Nat)(a:Int),0<=a->a+m<=n->(∀i,a<=i->i<a+m->i∈l)->G a=G (a+m):=by
  intro m
  induction m with
  |zero=>intro a _ _ _;simp|succ m ih=>
   intro a a0 Z F;rw[ih a a0 U λi e K=>F i e U];rw[show a+((m+1:Nat):Int)=a+m+1 by omega];exact(A _ U U (F _ U U)).symm
 have L:∀a b:Int,0<=a->a<=b->b<=n->(∀i,a<=i->i<b->i∈l)->G a=G b:=λa b a0 ab hb h=>by
  have:=D (b-a).toNat a a0 U (λi e K=>h i e U)
  rwa [show a+((b-a).toNat:Int)=b by omega]at this
 let bd:Int->Int:=λk=>if k<(AJ l n).length then AA (AJ l n) k else n
 have o:∀k:Int,0<=k->k<=(AJ l n).length->0<=bd k/\bd k<=n:=λk u E=>by
  show 0<=(if k<(AJ l n).length then AA (AJ l n) k else n)/\(if k<(AJ l n).length then AA (AJ l n) k else n)<=n;split
  next h=>have:=CP (AG u h);omega
  .omega
 have O:∀k i:Int,0<=k->k<=(AJ l n).length->(0<k->AA (AJ l n) (k-1)<i)->0<=i->i<bd k->i∈l:=λk i u E z e hi=>by
  by_cases δ:i∈l
  .exact δ
  have hin:=(o k u E).2;have Q:i∈AJ l n:=GQ.2 ⟨⟨e,U⟩,δ⟩;obtain⟨j,j0,ζ,rfl⟩:=Ay Q;have ε:bd k=if k<(AJ l n).length then AA (AJ l n) k else n:=rfl;by_cases Z:j<k
  .by_cases F:j=k-1
   .have:=z U;rw[F]at this;omega
   .have:=lt j (k-1) j0 U U;have:=z U;omega
  .have κ:k<(AJ l n).length:=U
   rw [ε,Ne κ]at hi;by_cases F:j=k
   .rw[F]at hi;omega
   .have:=lt k j u U ζ;omega
 have h0:G (bd 0)=G 0:=(L 0 (bd 0) U (o 0 U U).1 (o 0 U U).2 λi e K=>O 0 i U U (λh=>absurd h U) e K).symm;rw[BQ (λk=>G (bd k)) U h0]
 .show Y (G (if((AJ l n).length:Int)<(AJ l n).length then _ else n))=_;rw[QQ U]
 .intro k u E;have e1:bd k=AA (AJ l n) k:=Ne E;have hx:=CP (AG u E);have κ:=o (k+1) U U;have η:AA (AJ l n) k+1<=bd (k+1):=by
   show _<=(if k+1<(AJ l n).length then AA (AJ l n) (k+1)else n);split
   next h=>have:=lt k (k+1) u U h;omega
   .omega
  rw [e1,C k u E,L (AA (AJ l n) k+1) (bd (k+1)) U η κ.2 λi e K=>O (k+1) i U U (λ_=>by rw[show k+1-1=k by omega];omega) U K]
def DV(θ yN:Fp)(gn:Nat)(v:Int):Int:=if hasB θ v=X then AA yN (A1 θ v)else(gn:Int)+((AJ θ v).length:Int)
structure Jh(I0 J θ yN:Fp)(gn:Nat):Prop where
 jt:∀v∈J,v∈θ
 AbD:yN.length=θ.length
 yr:∀k∈yN,0<=k/\k<gn
 ynd:yN.Nodup
 fit:∀v∈θ,v∉J->AA yN (A1 θ v)∉I0
 ir:∀k∈I0,0<=k/\k<gn
def GL(I0 J θ yN:Fp)(gn:Nat)(v:Int):Fp:=I0++(AJ J v).map (DV θ yN gn)
variable{v:Int}
theorem TG{l:Fp}(e:0<=v)(h:v∈l):AJ l (v+1)=AJ l v:=by
 rw [JX l e,Ag.2 h];simp
theorem Wz{l:Fp}(e:0<=v)(h:v∉l):AJ l (v+1)=AJ l v++[v]:=by
 have:hasB l v=T:=by rw[<-H?,Ag];exact h
 rw [JX l e,this];simp
variable{w:Int}
theorem ni{l:Fp}(e:0<=v)(h:v<=w):(AJ l v).length<=(AJ l w).length:=by
 have key:∀m:Nat,(AJ l v).length<=(AJ l (v+m)).length:=by
  intro m
  induction m with
  |zero=>simp|succ m o=>
   rw [show v+((m+1:Nat):Int)=v+m+1 by omega,JX l U,aE];omega
 have:=key (w-v).toNat
 rwa [show v+((w-v).toNat:Int)=w by omega]at this
section
variable{I0 J θ yN:Fp}{gn:Nat}
variable{v:Int}
theorem Tz(h:Jh I0 J θ yN gn)(hv:v∈θ):DV θ yN gn v=AA yN (A1 θ v)/\(0<=DV θ yN gn v/\DV θ yN gn v<gn):=by
 obtain ⟨a,b,_,_⟩:=BP hv;have e:DV θ yN gn v=AA yN (A1 θ v):=v6
 rw [e];exact⟨rfl,h.yr _ (AG a (by rw[h.AbD];exact b))⟩
theorem N2(hv:v∉θ):DV θ yN gn v=(gn:Int)+((AJ θ v).length:Int):=by
 unfold DV;rw[QQ (by rw[Ag];exact hv)]
variable{k:Int}
theorem S7(h:Jh I0 J θ yN gn)(e:k∈GL I0 J θ yN gn v):0<=k/\k<(gn:Int)+((AJ θ v).length:Int):=by
 rcases x!.1 e with e|e
 .have:=h.ir k e;omega
 .obtain⟨w,A,rfl⟩:=x?.1 e;obtain⟨⟨w0,C⟩,_⟩:=GQ.1 A;by_cases o:w∈θ
  .have:=(Tz h o).2;omega
  .rw[N2 o];have z:=Wz w0 o;have u:=ni (l:=θ) (v:=w+1) (w:=v) U U;rw[z,aE]at u;simp at u;omega
theorem w2(h:Jh I0 J θ yN gn)(L:0<=v)(hv:v∉J):DV θ yN gn v∉GL I0 J θ yN gn v:=λu=>by
 by_cases z:v∈θ
 .obtain⟨e,_,O⟩:=Tz h z;rcases x!.1 u with u|u
  .exact h.fit v z hv (e▸u)
  .obtain⟨w,E,A⟩:=x?.1 u;obtain⟨⟨w0,Q⟩,_⟩:=GQ.1 E;by_cases o:w∈θ
   .obtain⟨f,_,_⟩:=Tz h o;obtain⟨a,b,F,_⟩:=BP z;obtain⟨c,d,K,_⟩:=BP o;rw[e,f]at A;have D:=Cz h.ynd a (by rw[h.AbD];exact b);have C:=Cz h.ynd c (by rw[h.AbD];exact d);rw[A,D]at C;rw[C,K]at F;omega
   .rw[N2 o]at A;omega
 .have:=S7 h u;rw[N2 z]at this;omega
theorem dl(e:0<=v)(hv:v∈J):GL I0 J θ yN gn (v+1)=GL I0 J θ yN gn v:=by
 unfold GL;rw[TG e hv]
theorem U8(e:0<=v)(hv:v∉J):GL I0 J θ yN gn (v+1)=GL I0 J θ yN gn v++[DV θ yN gn v]:=by
 unfold GL;rw[Wz e hv,C?,ae];rfl
end
variable{N:Nat}
theorem Y0{I:Fp}{p:Int}(e:0<=p):BB ((AY N).map (hasB I)) p X=(AY N).map (hasB (I++[p])):=by
 rw [Gc _ e];refine B' λj _=>?_;by_cases h:j=p
 .rw[Ne h,h];exact(Ag.2 V).symm
 .rw[QQ h,H_,Ag,Ag];simp[h]
theorem mf{I:Fp}(h:∀k∈I,k<(N:Int)):(AY N).map (hasB I)++[T]=(AY (N+1)).map (hasB I):=by
 rw [SS,C?];congr 1;have:hasB I (N:Int)=T:=by
  rw [<-H?,Ag];intro e;have:=h _ e;omega
 simp [this]
variable{v:Int}
theorem Mn{J S:Fp}(u:v∉J)(o:v∈S):A1 (J++S) v=(J.length:Int)+A1 S v:=by
 obtain ⟨a,b,c,d⟩:=BP o;obtain⟨e,f,g,h⟩:=BP (B_ J o);have z:AA (J++S) ((J.length:Int)+A1 S v)=v:=by
  rw [HM,QQ U];have:(((J.length:Int)+A1 S v).toNat-J.length)=(A1 S v).toNat:=U
  unfold AA at c;rw[this];exact c
 by_cases A:(J.length:Int)+A1 S v<A1 (J++S) v
 .exact absurd z (h _ U A)
 by_cases C:A1 (J++S) v<(J.length:Int)
 .rw[HM,Ne U]at g;exact absurd (g▸AG e C) u
 .rw[HM,QQ U]at g;by_cases D:A1 (J++S) v<(J.length:Int)+A1 S v
  .have:=d (A1 (J++S) v-J.length) U U;refine absurd ?_ this;unfold AA;rw[show(A1 (J++S) v-(J.length:Int)).toNat=(A1 (J++S) v).toNat-J.length by omega];exact g
  .omega
end Go.Sf.Sc
namespace Go.Sf.Sc
open Go Go.Sf
variable{v:Int}
theorem R9{J S:Fp}(h:v∈J):A1 (J++S) v=A1 J v:=by
 obtain ⟨a,b,c,d⟩:=BP h;obtain⟨e,f,g,k⟩:=BP (A? S h);by_cases o:A1 J v<A1 (J++S) v
 .exact absurd (by rw[HM,Ne U];exact c) (k _ a o)
 by_cases u:A1 (J++S) v<A1 J v
 .rw[HM,Ne U]at g;exact absurd g (d _ e u)
 omega
theorem eK{l a:Fp}(u:l.length<=1000):IR l a=Y (l.map (A1 a)):=by
 unfold IR;rw[Tn (F:=A1 a) λi s e o z=>?_]
 .rfl
 .rw[AD e o,bs,Zp,bs,AS a?,bs]
variable{α:Type}
theorem ZR{l:List α}{n:Int}(e:0<=n)(o:n<=l.length):slc l 0 n=Y (l.take n.toNat):=by
 unfold slc;rw[Ne U];simp
structure IX(x:AI):Prop where
 cE:x.cE=(AY x.d7.az.length).map (hasB x.l6.az)
 c9:x.c9=(AY x.d7.bi.length).map (hasB x.l6.bi)
 nin:∀k∈x.l6.az,0<=k/\k<x.d7.az.length
 ein:∀k∈x.l6.bi,0<=k/\k<x.d7.bi.length
 nnd:x.l6.az.Nodup
 AaZ:x.l6.bi.Nodup
 tc:x.d7.az.length<=40
 wi:x.d7.bi.length<=80
 mlen:x.mN.length<=1000
theorem IX.nodes'{x:AI}(h:IX x):x.cE=(AY (x.d7.az.length+([]:Fp).length)).map (hasB x.l6.az):=h.cE
theorem IX.edges'{x:AI}(h:IX x):x.c9=(AY (x.d7.bi.length+([]:Fp).length)).map (hasB x.l6.bi):=h.c9
def Mg(r:d4)(θ yN:Fp)(gn:Nat)(i:Int):B1:=⟨(AA r.ci.bk.bi i).em,DV θ yN gn (AA r.ci.bk.bi i).fb,DV θ yN gn (AA r.ci.bk.bi i).To⟩
def Bx(s:Ak)(r:d4)(l:Fp):Fp:=r.ed.bi++EH s r l
def CR(x:AI)(rule:Int)(s:Ak)(r:d4)(l:Fp)(y:bn):AI:=
 ⟨⟨x.d7.az++(AJ (At s r l) r.ci.bk.az.length).map (AA r.ci.bk.az),
  x.d7.bi++(AJ (Bx s r l) r.ci.bk.bi.length).map (Mg r (At s r l) y.az x.d7.az.length)⟩,
 (AY (x.d7.az.length+(AJ (At s r l) r.ci.bk.az.length).length)).map (hasB (GL x.l6.az r.ed.az (At s r l) y.az x.d7.az.length r.ci.bk.az.length)),
 (AY (x.d7.bi.length+(AJ (Bx s r l) r.ci.bk.bi.length).length)).map (hasB (GL x.l6.bi r.ed.bi (Bx s r l) y.bi x.d7.bi.length r.ci.bk.bi.length)),
 x.mN++[⟨rule,⟨⟨(y.az.take r.ea.bk.az.length).map (A1 x.l6.az),(y.bi.take r.ea.bk.bi.length).map (A1 x.l6.bi)⟩,[]⟩⟩],
 ⟨GL x.l6.az r.ed.az (At s r l) y.az x.d7.az.length r.ci.bk.az.length,GL x.l6.bi r.ed.bi (Bx s r l) y.bi x.d7.bi.length r.ci.bk.bi.length⟩⟩
def UU(n:Nat)(J θ yN:Fp)(gn:Nat)(v:Int):Fp:=(AY n).map λu=>if hasB J u||decide (u<v)then DV θ yN gn u else 0
theorem Wx(n:Nat)(J θ yN:Fp)(gn:Nat)(v:Int):(UU n J θ yN gn v).length=n:=by unfold UU;rw[a6,Am]
theorem iv{n:Nat}{J θ yN:Fp}{gn:Nat}(e:0<=v):BB (UU n J θ yN gn v) v (DV θ yN gn v)=UU n J θ yN gn (v+1):=by
 unfold UU;rw[Gc _ e];refine B' λj _=>?_;by_cases h:j=v
 .subst h;rw[Ne rfl,Ne (by rw[H!,o4];exact .inr U)]
 .rw[QQ h];have:decide (j<v)=decide (j<v+1):=by
   rw [H_,o4,o4];omega
  rw [this]
theorem w3{n:Nat}{J θ yN:Fp}{gn:Nat}(hv:v∈J):UU n J θ yN gn (v+1)=UU n J θ yN gn v:=by
 unfold UU;refine B' λj _=>?_;by_cases h:j=v
 .subst h;rw[Ag.2 hv];simp
 .have:decide (j<v)=decide (j<v+1):=by
   rw [H_,o4,o4];omega
  rw [this]
theorem nM{n:Nat}{J θ yN:Fp}{gn:Nat}(o:0<=v)(e:v<n):AA (UU n J θ yN gn n) v=DV θ yN gn v:=by
 unfold UU;rw[FH _ o e,Ne d!]
variable{σ:Type}{s0:σ}
theorem Yj{f:Int->σ->Option σ}{l:Fp}{n:Int}(G:Int->σ)(u:s0=G 0)(z:0<=n)(e:∀i,0<=i->i<n->i∈l->G (i+1)=G i)
  (o:∀k:Int,0<=k->k<(AJ l n).length->f k (G (AA (AJ l n) k))=Y (G (AA (AJ l n) k+1))):gp f 0 ((AJ l n).length:Int) s0=Y (G n):=by
 subst u;exact mP G z e o
def eZ(n:Nat)(J θ yN:Fp)(gn:Nat)(i:Int):Fp:=(AY n).map λu=>if hasB (J.take i.toNat) u=X then DV θ yN gn u else 0
theorem uN{n:Nat}{I0 J S yN:Fp}{gn:Nat}(h:Jh I0 J (J++S) yN gn)(D:J.Nodup)(u:∀v∈J,0<=v){i:Int}(z:0<=i)(A:i<J.length):BB (eZ n J (J++S) yN gn i) (AA J i) (AA yN i)=eZ n J (J++S) yN gn (i+1):=by
 have C:=AG z A;have e:AA yN i=DV (J++S) yN gn (AA J i):=by
  rw [(Tz h (h.jt _ C)).1,R9 C,Cz D z A]
 unfold eZ;rw[Gc _ (u _ C),CU z A];refine B' λj _=>?_;by_cases o:j=AA J i
 .rw[Ne o,Ne (by rw[o,Ag];simp),e,o]
 .rw[QQ o];have:hasB (J.take i.toNat++[AA J i]) j=hasB (J.take i.toNat) j:=by
   rw [H_,Ag,Ag];simp[o]
  rw [this]
theorem pz{t:AC}{s:Ak}{r:d4}{l:Fp}{x:AI}{rule:Int}{y:bn}(ht:B8 t s r=0)(hi:IX x)
  (Q:Jh x.l6.az r.ed.az (At s r l) y.az x.d7.az.length)(he:Jh x.l6.bi r.ed.bi (Bx s r l) y.bi x.d7.bi.length):
  EP x rule r ⟨Bh s r l,DX s r l,EH s r l⟩ y=Y (CR x rule s r l y):=by
 obtain ⟨hs,ho,l1,l2⟩:=DB ht;have hL:=ho.left;have hR:=SR hs ho.right ho.Aam;have n1:=hL.cE;have n2:=hL.c9;have n3:=ho.right.cE;have n4:=ho.right.c9;have D:=ho.mor;have g1:=hi.tc;have g2:=hi.wi;have g3:=hi.mlen;have η:∀i:Int,0<=i->i<r.ed.az.length->0<=AA r.ed.az i/\AA r.ed.az i<r.ci.bk.az.length:=λi E i1=>(D.node i E i1).1;have y1:=Q.AbD;have y2:=he.AbD;have T1:(At s r l).length=r.ed.az.length+(DX s r l).length:=aE ..;have T2:(Bx s r l).length=r.ed.bi.length+(EH s r l).length:=aE ..;have k1:=G5 (Ok s r l) r.ci.bk.az.length;have k2:=G5 (Oj s r l) r.ci.bk.bi.length;have k3:(DX s r l).length<=40:=by unfold DX;omega
 have k4:(EH s r l).length<=80:=by unfold EH;omega
 have i1:x.l6.az.length<=1000:=by
  have:=Jj hi.nnd hi.nin;omega
 have i2:x.l6.bi.length<=1000:=by
  have:=Jj hi.AaZ hi.ein;omega
 have sN:slc y.az 0 (r.ea.bk.az.length:Int)=Y (y.az.take r.ea.bk.az.length):=by
  rw [ZR U U,I?]
 have sE:slc y.bi 0 (r.ea.bk.bi.length:Int)=Y (y.bi.take r.ea.bk.bi.length):=by
  rw [ZR U U,I?]
 unfold EP slices_Clone_int Cf Hv J6;rw[sN,bs,eK i_,bs,sE,bs,eK i_,bs,
  BL b_,bs,BL b_,bs,BL (by rw[hi.cE,a6,Am];unfold AW;omega),bs,BL (by rw[hi.c9,a6,Am];unfold AW;omega),bs,
  BL b_,bs,AS f?,bs,BL b_,bs,BL b_,bs,iw U,bs,
  BQ (λi=>eZ r.ci.bk.az.length r.ed.az (At s r l) y.az x.d7.az.length i) U (by simp[eZ,SH,hasB]),bs,Tx U U,bs,Tx U U]
 .have Z:∀l:Fp,AJ l 0=[]:=λl=>by simp[AJ]
  have R:∃R,R=(DC.mk rule (AU.mk (bn.mk ((y.az.take r.ea.bk.az.length).map (A1 x.l6.az)) ((y.bi.take r.ea.bk.bi.length).map (A1 x.l6.bi))) [])):=⟨_,rfl⟩;obtain⟨R,ζ⟩:=R;rw[<-ζ,Yj (λv=>(AI.mk ⟨x.d7.az++(AJ (At s r l) v).map (AA r.ci.bk.az),x.d7.bi⟩ ((AY (x.d7.az.length+(AJ (At s r l) v).length)).map (hasB (GL x.l6.az r.ed.az (At s r l) y.az x.d7.az.length v))) x.c9 (x.mN++[R]) ⟨GL x.l6.az r.ed.az (At s r l) y.az x.d7.az.length v,x.l6.bi⟩,
    UU r.ci.bk.az.length r.ed.az (At s r l) y.az x.d7.az.length v)) ?_ U ?_ ?_,bs,bs,
   Yj (λv=>AI.mk ⟨x.d7.az++(AJ (At s r l) r.ci.bk.az.length).map (AA r.ci.bk.az),x.d7.bi++(AJ (Bx s r l) v).map (Mg r (At s r l) y.az x.d7.az.length)⟩ ((AY (x.d7.az.length+(AJ (At s r l) r.ci.bk.az.length).length)).map (hasB (GL x.l6.az r.ed.az (At s r l) y.az x.d7.az.length r.ci.bk.az.length)))
    ((AY (x.d7.bi.length+(AJ (Bx s r l) v).length)).map (hasB (GL x.l6.bi r.ed.bi (Bx s r l) y.bi x.d7.bi.length v))) (x.mN++[R]) ⟨GL x.l6.az r.ed.az (At s r l) y.az x.d7.az.length r.ci.bk.az.length,GL x.l6.bi r.ed.bi (Bx s r l) y.bi x.d7.bi.length v⟩) ?_ U ?_ ?_,bs]
  .rw[ζ];rfl
  .have e0:GL x.l6.bi r.ed.bi (Bx s r l) y.bi x.d7.bi.length 0=x.l6.bi:=by
    unfold GL;rw[Z];simp
   (try dsimp only)
   rw [Z,e0,<-hi.edges'];simp
  .intro i E F z
   (try dsimp only)
   rw [TG E (he.jt _ z),dl E z]
  .intro k κ K;have L:=AG κ K;obtain⟨⟨C,ε⟩,A⟩:=GQ.1 L;generalize hv:AA (AJ r.ed.bi r.ci.bk.bi.length) k=v at *;have lo:=λk O=>(S7 he (v:=v) (k:=k) O).2;have q1:=IL (Bx s r l) v;have q2:=IL r.ed.bi v;have q3:(GL x.l6.bi r.ed.bi (Bx s r l) y.bi x.d7.bi.length v).length<=2000:=by
    unfold GL;rw[aE,a6];omega
   have fit:=ho.right.fit _ (AG C ε)
   (try dsimp only)
   rw [AD κ K,bs,hv,Zp,bs];by_cases o:v∈EH s r l
   .have u:v∈Bx s r l:=B_ _ o;obtain⟨e,δ,f1⟩:=Tz he u;have ix:A1 (Bx s r l) v=(r.ed.bi.length:Int)+A1 (EH s r l) v:=Mn A o;obtain⟨a,b,_,_⟩:=BP o;have e2:AA y.bi ((r.ea.bk.bi.length:Int)+A1 (EH s r l) v)=DV (Bx s r l) y.bi x.d7.bi.length v:=by
     rw [e,ix,l2]
    rw [Ne (by simpa using a),Ap U U,AD U U,bs,e2,AD δ (by rw[a6,Am];omega),bs,AS f?,bs,Y0 δ,TG C u,U8 C A]
   .have u:v∉Bx s r l:=λD=>by
     rcases x!.1 D with D|D
     .exact A D
     .exact o D
    have e:=N2 (yN:=y.bi) (gn:=x.d7.bi.length) u;have e3:((x.d7.bi++(AJ (Bx s r l) v).map (Mg r (At s r l) y.az x.d7.az.length)).length:Int)=DV (Bx s r l) y.bi x.d7.bi.length v:=by
     rw [aE,a6,e,J_]
    rw [QQ (by rw[Q9 o];decide),AD C ε,bs,AD fit.2.1.1 (by rw[Wx];exact fit.2.1.2),bs,AD fit.2.2.1 (by rw[Wx];exact fit.2.2.2),bs,nM fit.2.1.1 fit.2.1.2,nM fit.2.2.1 fit.2.2.2,AS f?,bs,AS f?,bs,mf (by
      intro k O;have:=lo k O;rw[J_];exact this),e3,AD (by rw[e];omega) (by rw[a6,Am,e];omega),bs,AS f?,bs,Y0 (by rw[e];omega),Wz C u,U8 C A,C?,ae,aE]
    rfl
  ·(try dsimp only)
   refine Prod.ext ?_ ?_
   ·(try dsimp only)
    have e0:GL x.l6.az r.ed.az (At s r l) y.az x.d7.az.length 0=x.l6.az:=by
     unfold GL;rw[Z];simp
    rw [Z,e0,<-hi.nodes'];simp
   ·(try dsimp only)
    unfold eZ UU;refine B' λj hj=>?_;have:=(Bs.1 hj).1;rw[I?,B?,decide_eq_false (by omega:¬j<0),Bool.or_false]
  .intro i E F z
   (try dsimp only)
   rw [TG E (Q.jt _ z),dl E z,w3 z]
  .intro k κ K;have L:=AG κ K;obtain⟨⟨C,ε⟩,A⟩:=GQ.1 L;generalize hv:AA (AJ r.ed.az r.ci.bk.az.length) k=v at *;have lo:=λk O=>(S7 Q (v:=v) (k:=k) O).2;have q1:=IL (At s r l) v;have q2:=IL r.ed.az v;have q3:(GL x.l6.az r.ed.az (At s r l) y.az x.d7.az.length v).length<=2000:=by
    unfold GL;rw[aE,a6];omega
   (try dsimp only)
   rw [AD κ K,bs,hv,Zp,bs];by_cases o:v∈DX s r l
   .have u:v∈At s r l:=B_ _ o;obtain⟨e,δ,f1⟩:=Tz Q u;have ix:A1 (At s r l) v=(r.ed.az.length:Int)+A1 (DX s r l) v:=Mn A o;obtain⟨a,b,_,_⟩:=BP o;have e2:AA y.az ((r.ea.bk.az.length:Int)+A1 (DX s r l) v)=DV (At s r l) y.az x.d7.az.length v:=by
     rw [e,ix,l1]
    rw [Ne (by simpa using a),Ap U U,AD U U,bs,e2,AD C (by rw[Wx];exact ε),bs,AD δ (by rw[a6,Am];omega),bs,AS f?,bs,Y0 δ,iv C,TG C u,U8 C A]
   .have u:v∉At s r l:=λD=>by
     rcases x!.1 D with D|D
     .exact A D
     .exact o D
    have e:=N2 (yN:=y.az) (gn:=x.d7.az.length) u;have e3:((x.d7.az++(AJ (At s r l) v).map (AA r.ci.bk.az)).length:Int)=DV (At s r l) y.az x.d7.az.length v:=by
     rw [aE,a6,e,J_]
    rw [QQ (by rw[Q9 o];decide),AD C ε,bs,AS f?,bs,AS f?,bs,AD C (by rw[Wx];exact ε),bs,mf (by
      intro k O;have:=lo k O;rw[J_];exact this),e3,AD (by rw[e];omega) (by rw[a6,Am,e];omega),bs,AS f?,bs,Y0 (by rw[e];omega),iv C,Wz C u,U8 C A,C?,ae,aE]
    rfl
 .intro i E F;have hx:=η i E F;rw[AD E F,bs,AD E U,bs,AD hx.1 (by unfold eZ;rw[a6,Am];exact hx.2),bs];rw[show At s r l=r.ed.az++DX s r l from rfl]at Q|-;rw[uN Q ho.inj.1 (λv hv=>by
   obtain ⟨j,j0,j1,rfl⟩:=Ay hv;exact(η j j0 j1).1) E F]
end Go.Sf.Sc
namespace Go.Sf.Sc
open Go Go.Sf
end Go.Sf.Sc
namespace Go.Sf
open Sc
variable{a:Int}
theorem oU{n:Nat}(a0:0<=a)(h:a<n):(AY n).drop a.toNat=a::(AY n).drop (a+1).toNat:=by
 rw [A' (by rw[Am];omega),show(a+1).toNat=a.toNat+1 by omega];congr 1;simp[AY];omega
variable{N:Nat}
theorem iM{σ e ρ u:Type}{f:Int->σ->Option (B3 σ ρ)}(enc:e->σ)(o:u->ρ)(g:Int->e->e ⊕ u){s:e}{s0:σ}(z:s0=enc s)(h:∀(i:Int)s,0<=i->i<N->f i (enc s)=Y (o5 (Sum.map enc o (g i s)))):
  eE f 0 N s0=Y (Sum.map enc o (C2 g (AY N) s)):=by
 subst z;have key:∀(n:Nat)(a:Int)(s:e),0<=a->a+n=N->sr f n a (enc s)=Y (Sum.map enc o (C2 g ((AY N).drop a.toNat) s)):=by
  intro n
  induction n with
  |zero=>
   intro a s a0 A;rw[A_ (by rw[Am];omega)];rfl
  |succ n C=>
   intro a s a0 A;rw[FW,h a s a0 U,oU a0 U,C2];cases D:g a s with
   |inr r=>rfl|inl v=>exact C (a+1) v U U
 have:=key N 0 s U U;unfold eE;simpa using this
end Go.Sf
namespace Go.Sf.Sc
open Go Go.Sf
theorem dm{I0 J θ yN:Fp}{gn:Nat}(h:Jh I0 J θ yN gn)(u:I0.Nodup):∀n:Nat,(GL I0 J θ yN gn (n:Int)).Nodup
 |0=>by
  have:GL I0 J θ yN gn ((0:Nat):Int)=I0:=by unfold GL;simp[AJ]
  rw [this];exact u
 |n+1=>by
  have A:=dm h u n;rw[show(((n+1:Nat):Int))=(n:Int)+1 by omega];by_cases o:(n:Int)∈J
  .rw[dl U o];exact A
  .rw[U8 U o];rw[D'];refine⟨A,V,λa C b z e=>?_⟩;rw[D!]at z;exact w2 h U o (z▸e▸C)
theorem YX{s:Ak}{r:d4}{l:Fp}{x:AI}{rule:Int}{y:bn}(hi:IX x)(D:x.mN.length<=999)
  (o:Jh x.l6.az r.ed.az (At s r l) y.az x.d7.az.length)(he:Jh x.l6.bi r.ed.bi (Bx s r l) y.bi x.d7.bi.length)
  (u:(CR x rule s r l y).d7.az.length<=40)(z:(CR x rule s r l y).d7.bi.length<=80):IX (CR x rule s r l y):=by
 have A:(CR x rule s r l y).d7.az.length=x.d7.az.length+(AJ (At s r l) r.ci.bk.az.length).length:=by simp[CR]
 have C:(CR x rule s r l y).d7.bi.length=x.d7.bi.length+(AJ (Bx s r l) r.ci.bk.bi.length).length:=by simp[CR]
 refine ⟨o2,by rw[C];rfl,λk e=>?_,λk e=>?_,dm o hi.nnd _,dm he hi.AaZ _,u,z,n?⟩
 .have:=S7 o e;omega
 .have:=S7 he e;omega
def Hl(I im:Fp)(n:Int):Bool:=!fq (λi=>hasB I (AA im i)==decide (n<=i)) 0 im.length
variable{N:Nat}
theorem nB{I im:Fp}{n:Int}(h:∀k∈im,0<=k/\k<N):IS ((AY N).map (hasB I)) im n=Y (Hl I im n):=by
 unfold IS Hl;rw[BO (λi=>hasB I (AA im i)==decide (n<=i)) T]
 .cases fq (λi=>hasB I (AA im i)==decide (n<=i)) 0 (im.length:Int)<;>rfl
 intro i o u _;have e:=h _ (AG o u);rw[AD o u,bs,AD e.1 (by rw[a6,Am];exact e.2),bs,FH _ e.1 e.2];cases(hasB I (AA im i)==decide (n<=i))<;>rfl
def TQ(N:Nat)(I:Fp):Bool:=(AY N).all (hasB I)
theorem iB(N:Nat)(I:Fp):DM ((AY N).map (hasB I)) T=Y (!TQ N I):=by
 rw [iC];congr 1;unfold TQ;rw[List.any_map,H_,G!,List.all_eq_false,w?];simp
def PQ(x:AI):Bool:=TQ x.d7.az.length x.l6.az&&TQ x.d7.bi.length x.l6.bi
theorem AAL{x:AI}(h:IX x):D0 x=Y (PQ x):=by
 unfold D0 PQ;rw[h.cE,h.c9,iB,bs,iB];cases TQ x.d7.az.length x.l6.az<;>simp
theorem T3{t:AC}{s:Ak}{r:d4}{l:Fp}{x:AI}{y:bn}(L:B8 t s r=0)(hi:IX x)(o:y∈(EB t (Bh s r l) x.d7 X).1):
  (∀k∈y.az,0<=k/\k<x.d7.az.length)/\(∀k∈y.bi,0<=k/\k<x.d7.bi.length)/\
  (Hl x.l6.az y.az r.ea.bk.az.length=X->Jh x.l6.az r.ed.az (At s r l) y.az x.d7.az.length)/\
  (Hl x.l6.bi y.bi r.ea.bk.bi.length=X->Jh x.l6.bi r.ed.bi (Bx s r l) y.bi x.d7.bi.length):=by
 obtain ⟨_,_,l1,l2⟩:=DB L;have o:y∈Gl t (Bh s r l) x.d7 (JT (Bh s r l)) X:=by
  unfold EB at o;split at o
  .cases o
  split at o
  .cases o
  exact o
 have u:=Qu o;have Q:y.az.length=(Bh s r l).az.length:=u.nl;have R:y.bi.length=(Bh s r l).bi.length:=u.el;have m1:(Bh s r l).az.length=(At s r l).length:=by simp[Bh,At,l1]
 have ε:(Bh s r l).bi.length=(Bx s r l).length:=by simp[Bh,Bx,l2]
 have E:∀k∈y.az,0<=k/\k<x.d7.az.length:=λk z=>by
  obtain ⟨i,A,C,rfl⟩:=Ay z;exact(u.node i A C).1
 have F:∀k∈y.bi,0<=k/\k<x.d7.bi.length:=λk z=>by
  obtain ⟨i,A,C,rfl⟩:=Ay z;exact(u.edge i A C).1
 have nd:=u.inj rfl;have key:∀{I0 J S yN:Fp}{n:Int},n=J.length->yN.length=(J++S).length->Hl I0 yN n=X->∀v∈J++S,v∉J->AA yN (A1 (J++S) v)∉I0:=by
  intro I0 J S yN n κ η hf v hv D O;have K:v∈S:=(x!.1 hv).resolve_left D;obtain⟨a,b,_,_⟩:=BP K;obtain⟨c,d,_,_⟩:=BP hv;have e:=Mn D K;unfold Hl at hf;rw[G!,BV]at hf;have:=hf (A1 (J++S) v) c U;rw[Ag.2 O,decide_eq_true U]at this;cases this
 exact ⟨E,F,λhf=>⟨λv hv=>A? _ hv,U,E,nd.1,key (by rw[l1]) (by rw[Q,m1];rfl) hf,hi.nin⟩,
  λhf=>⟨λv hv=>A? _ hv,U,F,nd.2,key (by rw[l2]) (by rw[R,ε];rfl) hf,hi.ein⟩⟩
end Go.Sf.Sc
namespace Go.Sf.Sc
open Go Go.Sf
def sz:AI:=⟨⟨[],[]⟩,[],[],[],⟨[],[]⟩⟩
noncomputable def UL(s:Ak)(l:Fp)(x:AI)(rec:AI->Int->Int ⊕ (AI×Int×Int))(i:Int)(r:d4)(y:bn)(v:Int):Int ⊕ (AI×Int×Int):=
 if (Hl x.l6.az y.az r.ea.bk.az.length&&Hl x.l6.bi y.bi r.ea.bk.bi.length)=T then .inl v else
 if 40<((CR x i s r l y).d7.az.length:Int)\/80<((CR x i s r l y).d7.bi.length:Int)then .inr (sz,3,v)else rec (CR x i s r l y) v
noncomputable def Rg(t:AC)(s:Ak)(l:Fp)(x:AI)(rec:AI->Int->Int ⊕ (AI×Int×Int))(i:Int)(r:d4)(v:Int):Int ⊕ (AI×Int×Int):=
 if ((DX s r l).length:Int)+((EH s r l).length:Int)=0 then .inl v else
 if (EB t (Bh s r l) x.d7 X).2≠0 then .inr (sz,(EB t (Bh s r l) x.d7 X).2,v)else
 C2 (λj=>UL s l x rec i r (AA (EB t (Bh s r l) x.d7 X).1 j)) (AY (EB t (Bh s r l) x.d7 X).1.length) v
noncomputable def Hp(t:AC)(s:Ak)(c8:List d4)(l:Fp):Nat->AI->Int->Int ⊕ (AI×Int×Int)
 |0,_,v=>.inl v|n+1,x,v=>if 200<AZ (v+1)then .inr (sz,3,AZ (v+1))else if PQ x=X then .inr (x,0,AZ (v+1))else if(x.mN.length:Int)=30 then .inr (sz,3,AZ (v+1))else
  C2 (λi=>Rg t s l x (Hp t s c8 l n) i (AA c8 i)) (AY c8.length) (AZ (v+1))
section
variable{t:AC}{s:Ak}{c8:List d4}{l:Fp}{d:BU}{e0:Int}
def H9(t:AC)(s:Ak)(c8:List d4)(l:Fp)(d:BU)(e0:Int)(v:Int):Ai:=⟨⟨t,s,c8⟩,l,v,d,e0⟩
def J1(y:AI):BU:=⟨⟨y.d7,D? y.d7.az.length []⟩,y.mN,y.l6⟩
def Z1(t:AC)(s:Ak)(c8:List d4)(l:Fp)(d:BU)(e0:Int)(r:AI×Int×Int):Bool×Ai:=
 (X,if r.2.1=0 then H9 t s c8 l (J1 r.1) e0 r.2.2 else H9 t s c8 l d r.2.1 r.2.2)
def Sg(t:AC)(s:Ak)(c8:List d4)(l:Fp)(d:BU)(e0:Int):Int ⊕ (AI×Int×Int)->Bool×Ai
 |.inl v=>(T,H9 t s c8 l d e0 v)|.inr r=>Z1 t s c8 l d e0 r
theorem AAQ{x:AI}{i:Int}{r:d4}{m:Nat}{rec:AI->Int->Int ⊕ (AI×Int×Int)}(hf:Ao t)(C:B8 t s r=0)(he:Ma s r l)(hi:IX x)(ε:x.mN.length<=999)
  (e:∀z v,IX z->z.mN.length=x.mN.length+1->A7 m (H9 t s c8 l d e0 v) z=Y (Sg t s c8 l d e0 (rec z v)))(v:Int):
  BY (m+1) (H9 t s c8 l d e0 v) x i r=Y (Sg t s c8 l d e0 (Rg t s l x rec i r v)):=by
 obtain ⟨_,ho,_,_⟩:=DB C;have δ:=ho.right.cE;have Z:=ho.right.c9;have k1:=G5 (Ok s r l) r.ci.bk.az.length;have k2:=G5 (Oj s r l) r.ci.bk.bi.length;have k3:(DX s r l).length<=40:=by unfold DX;omega
 have k4:(EH s r l).length<=80:=by unfold EH;omega
 rw [BY.eq_2,wm (p:=H9 t s c8 l d e0 v) C he,bs,show(H9 t s c8 l d e0 v).kp.t=t from rfl,show(H9 t s c8 l d e0 v).Aan=l from rfl,show(H9 t s c8 l d e0 v).kp.s=s from rfl];dsimp only;rw[Ap U U];unfold Rg;by_cases D:((DX s r l).length:Int)+((EH s r l).length:Int)=0
 .rw[Ne (by simpa using D),Ne D];rfl
 rw [QQ (by simpa using D),QQ D,wY hf,bs];by_cases o:(EB t (Bh s r l) x.d7 X).2=0
 .rw[QQ j_,QQ j_];have u:=λy κ=>T3 (l:=l) (y:=y) C hi κ;generalize EB t (Bh s r l) x.d7 X=A at *;rw[iM (H9 t s c8 l d e0) (Z1 t s c8 l d e0) (λj=>UL s l x rec i r (AA A.1 j)) rfl λj v F K=>?_]
  .cases C2 (λj=>UL s l x rec i r (AA A.1 j)) (AY A.1.length) v<;>rfl
  obtain ⟨η,ζ,Q,R⟩:=u _ (AG F K);rw[AD F K,bs,hi.cE,nB η,bs,hi.c9,nB ζ];unfold UL;cases L:Hl x.l6.az (AA A.1 j).az r.ea.bk.az.length with
  |false=>rfl|true=>
   cases O:Hl x.l6.bi (AA A.1 j).bi r.ea.bk.bi.length with
   |false=>rfl|true=>
    rw [QQ a_,bs,bs,QQ a_,pz C hi (Q L) (R O),bs];by_cases E:40<((CR x i s r l (AA A.1 j)).d7.az.length:Int)\/80<((CR x i s r l (AA A.1 j)).d7.bi.length:Int)
    .rw[Ne (by simpa using E),Ne E];rfl
    rw [QQ (by simpa using E),QQ E,e _ v (YX hi ε (Q L) (R O) U U) (by simp[CR]),bs];cases rec (CR x i s r l (AA A.1 j)) v<;>rfl
 .rw[Ne j_,Ne o];unfold C4 Sg Z1;dsimp only;rw[QQ o];rfl
theorem sT(hf:Ao t)(C:∀r∈c8,B8 t s r=0)(he:∀r∈c8,Ma s r l):∀(n:Nat)(x:AI)(v:Int),IX x->x.mN.length<=30->x.mN.length+n=31->∀m,2*n<=m->A7 m (H9 t s c8 l d e0 v) x=Y (Sg t s c8 l d e0 (Hp t s c8 l n x v))
 |0,x,v,hi,L,O,m,_=>by omega|n+1,x,v,hi,L,O,m,Q=>by
  obtain ⟨m,rfl⟩:∃k,m=k+2:=⟨m-2,U⟩;rw[A7.eq_2,Hp,show(H9 t s c8 l d e0 v).Aap=v from rfl];by_cases o:200<AZ (v+1)
  .rw[Ne b?,Ne o];rfl
  rw [QQ b?,QQ o,AAL hi,bs];by_cases u:PQ x=X
  .rw[Ne u,Ne u];unfold FA;have:=hi.tc;rw[Ne U];rfl
  rw [QQ u,QQ u];by_cases A:(x.mN.length:Int)=30
  .rw[Ne s_,Ne A];rfl
  rw [QQ s_,QQ A,show(H9 t s c8 l d e0 v).kp.c8=c8 from rfl,
   show Ai.mk (H9 t s c8 l d e0 v).kp (H9 t s c8 l d e0 v).Aan (AZ (v+1)) (H9 t s c8 l d e0 v).Aac (H9 t s c8 l d e0 v).e=H9 t s c8 l d e0 (AZ (v+1))from rfl,iM (H9 t s c8 l d e0) (Z1 t s c8 l d e0) (λi=>Rg t s l x (Hp t s c8 l n) i (AA c8 i)) rfl λi v D E=>?_]
  .cases C2 (λi=>Rg t s l x (Hp t s c8 l n) i (AA c8 i)) (AY c8.length) (AZ (v+1))<;>rfl
  have F:=AG D E;rw[AD D E,bs,AAQ (rec:=Hp t s c8 l n) hf (C _ F) (he _ F) hi U λz v K R=>sT hf C he n z v K U U m U,bs];cases Rg t s l x (Hp t s c8 l n) i (AA c8 i) v<;>rfl
end
end Go.Sf.Sc
namespace Go.Sf.Sc
open Go Go.Sf
variable{α β:Type}
theorem Cu[Inhabited α][Inhabited β]{l:List α}{g:α->β}{i:Int}(e:0<=i)(o:i<l.length):AA (l.map g) i=g (AA l i):=by
 unfold AA;rw[z_,z_,List.getElem?_map,y! U];rfl
section
variable{t:AC}{s:Ak}{c8:List d4}{l:Fp}
end
end Go.Sf.Sc
namespace Go.Sf.Sc
open Go Go.Sf
section
variable{t:AC}{s:Ak}{c8:List d4}{l:Fp}
theorem Z4(D:∀r∈c8,B8 t s r=0)(P:AI->Prop)(o:∀(x:AI)(i:Int)(y:bn),IX x->P x->x.mN.length<30->0<=i->i<c8.length->((DX s (AA c8 i) l).length:Int)+((EH s (AA c8 i) l).length:Int)≠0->(EB t (Bh s (AA c8 i) l) x.d7 X).2=0->y∈(EB t (Bh s (AA c8 i) l) x.d7 X).1 ->
   Jh x.l6.az (AA c8 i).ed.az (At s (AA c8 i) l) y.az x.d7.az.length->Jh x.l6.bi (AA c8 i).ed.bi (Bx s (AA c8 i) l) y.bi x.d7.bi.length ->
   Hl x.l6.az y.az (AA c8 i).ea.bk.az.length=X->Hl x.l6.bi y.bi (AA c8 i).ea.bk.bi.length=X->IX (CR x i s (AA c8 i) l y)->P (CR x i s (AA c8 i) l y)):
  ∀(n:Nat)(x:AI)(v:Int)(r:AI×Int×Int),Hp t s c8 l n x v=.inr r->r.2.1=0->IX x->P x->x.mN.length<=30->x.mN.length+n=31->IX r.1/\P r.1/\PQ r.1=X
 |0,x,v,r,e,e0,hi,C,_,_=>n_
 |n+1,x,v,r,e,e0,hi,C,hm,hn=>by
  rw [Hp]at e;split at e
  .cases e;cases e0
  split at e
  next η=>cases e;exact⟨hi,C,η⟩
  split at e
  .cases e;cases e0
  rename_i h3;refine(N9 (g:=λi=>Rg t s l x (Hp t s c8 l n) i (AA c8 i)) (I:=λ_=>True) (R:=λr=>r.2.1=0->IX r.1/\P r.1/\PQ r.1=X) (λi ε v _=>⟨λ_ _=>trivial,λr e e0=>?_⟩) trivial).2 r e e0;obtain⟨K,L⟩:=Bs.1 ε;have A:=D _ (AG K L);unfold Rg at e;split at e
  .cases e
  rename_i ζ;split at e
  next z=>cases e;exact absurd e0 z
  rename_i z;have z:(EB t (Bh s (AA c8 i) l) x.d7 X).2=0:=n!
  refine (N9 (g:=λj=>UL s l x (Hp t s c8 l n) i (AA c8 i) (AA (EB t (Bh s (AA c8 i) l) x.d7 X).1 j)) (I:=λ_=>True) (R:=λr=>r.2.1=0->IX r.1/\P r.1/\PQ r.1=X) (λj κ v _=>⟨λ_ _=>trivial,λr e e0=>?_⟩) trivial).2 r e e0;obtain⟨δ,Z⟩:=Bs.1 κ;have E:=AG δ Z;obtain⟨_,_,O,Q⟩:=T3 (l:=l) A hi E;unfold UL at e;split at e
  .cases e
  rename_i u;rw[I_,gR]at u;split at e
  .cases e;cases e0
  rename_i h7;have F:=YX (rule:=i) hi U (O u.1) (Q u.2) U U;exact Z4 D P o n _ _ r e e0 F (o x i _ hi C U K L ζ z E (O u.1) (Q u.2) u.1 u.2 F) n? n?
def FZ(h:AH):AI:=⟨h.bk,D? h.bk.az.length T,D? h.bk.bi.length T,[],⟨[],[]⟩⟩
theorem jF(n:Nat):D? n T=(AY n).map (hasB []):=by
 refine B! (by simp[Am]) λi e o=>?_;simp[hasB]
theorem Ss{h:AH}(o:BW h.bk):IX (FZ h):=
 ⟨jF _,jF _,λk e=>n_,λk e=>n_,E_,E_,o.cE,o.c9,l!⟩
def TN:BU:=⟨⟨⟨[],[]⟩,[]⟩,[],⟨[],[]⟩⟩
noncomputable def L9(t:AC)(s:Ak)(c8:List d4)(h:AH)(l:Fp):BU×Int:=
 match Hp t s c8 l 31 (FZ h) 0 with
 |.inl _=>(TN,10)|.inr r=>if r.2.1=0 then(J1 r.1,0)else(TN,r.2.1)
theorem AAP(hf:Ao t)(A:∀r∈c8,B8 t s r=0)(he:∀r∈c8,Ma s r l){h:AH}(u:BW h.bk):Bz ⟨t,s,c8⟩ h l=Y (L9 t s c8 h l):=by
 have D:=u.cE;have E:=u.c9;unfold Bz slices_Clone_int Cf FA L9;have hv:Fy (H9 t s c8 l TN 0 0) (FZ h)=Y (Sg t s c8 l TN 0 (Hp t s c8 l 31 (FZ h) 0)):=Gp 62 λn C=>sT hf A he 31 _ 0 (Ss u) l! l! n C;rw[BL b_,bs,BL b_,bs,Ne U,bs,Ne U,bs,
  show Ai.mk ⟨t,s,c8⟩ l 0 (BU.mk (AH.mk (bk.mk [] []) []) [] (bn.mk [] [])) 0=H9 t s c8 l TN 0 0 from rfl,I?,I?,show AI.mk ⟨h.bk.az,h.bk.bi⟩ (D? h.bk.az.length T) (D? h.bk.bi.length T) [] (bn.mk [] [])=FZ h from rfl,hv,bs]
 cases Hp t s c8 l 31 (FZ h) 0 with
 |inl v=>rfl|inr r=>
  obtain ⟨y,e,v⟩:=r;show(if(!decide ((Sg t s c8 l TN 0 (.inr (y,e,v))).2.e=0))=X then _ else _)=_;dsimp only;by_cases o:e=0
  .have z:Sg t s c8 l TN 0 (.inr (y,e,v))=(X,H9 t s c8 l (J1 y) 0 v):=by unfold Sg Z1;dsimp only;rw[Ne o]
   rw [Ne o,z];rfl
  .have z:Sg t s c8 l TN 0 (.inr (y,e,v))=(X,H9 t s c8 l TN e v):=by unfold Sg Z1;dsimp only;rw[QQ o]
   rw [QQ o,z,Ne (by simp[H9,o])];rfl
end
end Go.Sf.Sc
namespace Go.Sf
end Go.Sf
namespace Go.Sf.Sc
open Go Go.Sf
section
variable{t:AC}{s:Ak}{c8:List d4}{l:Fp}
def If(s:Ak)(g:bk)(l:Fp):Bool:=(g.az.any λn=>!hasB l (AA s.az n))||(g.bi.any λe=>!hasB l (AA s.bi e.em))
noncomputable def Ig(t:AC)(s:Ak)(c8:List d4)(h:AH)(l:Fp):BU×Int:=
 if C9 t s c8≠0 then(TN,C9 t s c8)else if(Bc t h).2≠0 then(TN,(Bc t h).2)else if If s h.bk l=X then(TN,1)else L9 t s c8 h l
theorem JP(h:C9 t s c8=0):c8.length<=6/\Gq t s=0:=by
 unfold C9 at h;split at h
 .cases h
 split at h
 .omega
 rename_i o e;exact⟨U,i!⟩
end
end Go.Sf.Sc
namespace Go.Sf
end Go.Sf
namespace Go.Sf.Sc
open Go Go.Sf
section
variable{t:AC}{s:Ak}{c8:List d4}{l:Fp}
theorem iP(a x:Int):(!hasB [a] x)=!decide (x=a):=by
 unfold hasB;by_cases h:x=a<;>simp[h]
theorem Sb(hf:Ao t){h:AH}(e:C9 t s c8=0)(hh:(Bc t h).2=0):Sorted s h.bk:=by
 obtain ⟨_,ho⟩:=Du hf hh;exact SR (Pj (JP e).2).2 ho.g ho.ty
theorem nD(hf:Ao t)(A:∀r∈c8,DN r)(h:AH)(o:Int):By ⟨t,s,c8⟩ h o=Y (if C9 t s c8≠0 then C9 t s c8 else if(Bc t h).2≠0 then(Bc t h).2 else if o≠0/\If s h.bk [o]=X then 1 else 0):=by
 unfold By;rw[nF hf s A,bs];refine Dd λC=>?_;rw[RZ hf,bs];refine Dd λhh=>?_;have z:=Sb hf C hh;by_cases u:o=0
 .rw[Ne e_,QQ g!]
 rw [QQ e_,Sv (p:=λn=>!hasB [o] (AA s.az n)) λn D=>?_,bs,Ze (p:=λe=>!hasB [o] (AA s.bi e.em)) λe he=>?_]
 .unfold If;cases(h.bk.az.any λn=>!hasB [o] (AA s.az n))with
  |true=>simp[u]|false=>
   cases (h.bk.bi.any λe=>!hasB [o] (AA s.bi e.em))<;>simp[u]
 .have:=z.edge e he;unfold E5;dsimp only;rw[AD this.1 this.2,bs,iP]
 .have:=z.node n D;unfold E4;dsimp only;rw[AD this.1 this.2,bs,iP]
theorem eT(hf:Ao t)(K:∀r∈c8,DN r)(o:Int)(ε:hasB l 2=X->hasB l 1=X/\hasB l 3=X)(h:AH)(κ:(o≠0/\l=[o])\/(o=0/\l=[1,2,3])):
  ((By ⟨t,s,c8⟩ h o).bind λC=>if(!decide (C=0))=X then Y (TN,C)else(Bz ⟨t,s,c8⟩ h l).bind λD=>Y (D.1,D.2))=Y (Ig t s c8 h l):=by
 rw [nD hf K,bs];unfold Ig;generalize A:(if C9 t s c8≠0 then C9 t s c8 else if(Bc t h).2≠0 then(Bc t h).2 else if o≠0/\If s h.bk [o]=X then 1 else 0)=E;by_cases u:C9 t s c8=0
 .by_cases hh:(Bc t h).2=0
  .have Q:=Iz u;obtain⟨_,ho⟩:=Du hf hh;have Z:=Sb hf u hh;have e:(o≠0/\If s h.bk [o]=X)↔If s h.bk l=X:=by
    rcases κ with⟨O,rfl⟩|⟨O,rfl⟩
    .simp[O]
    .constructor
     .rintro⟨z,_⟩;exact absurd O z
     .intro z;exfalso;have L:=Jc (JP u).2;obtain⟨R,δ⟩:=Cw ho.g ho.ty;have key:∀n:Int,0<=n->n<t.az.length->hasB [1,2,3] (AA s.az n)=X:=λn η ζ=>by
       have:=(L.node n η ζ).1;unfold Ln at this;simp only[gR,o4]at this;rw[Ag];simp only[w_,E',or_false];omega
      unfold If at z;rw[H!,w?,w?]at z;rcases z with⟨n,F,e⟩|⟨n,F,e⟩
      .rw[key n (R n F).1 (R n F).2]at e;cases e
      .have:=δ n F;have he:=L.ok.ends this.1 this.2;rw[<-(L.edge _ this.1 this.2).1,key _ he.1.1 he.1.2]at e;cases e
   by_cases z:If s h.bk l=X
   .rw[QQ g!,QQ q!,Ne (e.2 z)]at A;subst A;rw[Ne a_,QQ g!,QQ q!,Ne z]
   .rw[QQ g!,QQ q!,QQ (λk=>z (e.1 k))]at A;subst A;rw[QQ a_,QQ g!,QQ q!,QQ z,AAP hf Q (λr K=>S2 (Q r K) ε) ho.g];rfl
  .rw[QQ g!,Ne hh]at A;subst A;rw[Ne q!,QQ g!,Ne hh]
 .rw[Ne u]at A;subst A;rw[Ne g!,Ne u]
theorem sS(hf:Ao t)(e:∀r∈c8,DN r)(h:AH):DZ t s c8 h=Y (Ig t s c8 h [1]):=eT hf e 1 a_ h (.inl ⟨a_,rfl⟩)
theorem sR(hf:Ao t)(e:∀r∈c8,DN r)(h:AH):Ea t s c8 h=Y (Ig t s c8 h [3]):=eT hf e 3 a_ h (.inl ⟨a_,rfl⟩)
theorem AAM(hf:Ao t)(e:∀r∈c8,DN r)(h:AH):Iv t s c8 h=Y (Ig t s c8 h [1,2,3]):=eT hf e 0 a_ h (.inr ⟨rfl,rfl⟩)
end
end Go.Sf.Sc
namespace Go.Sf.Sc
open Go Go.Sf
theorem aB:∀(l:Fp)(a b:Int),(∀x∈l,a<=x/\x<b)->l.Pairwise (·<·)->a<=b->(l.length:Int)<=b-a
 |[],a,b,_,_,h=>by simp;omega|x::l,a,b,u,e,h=>by
  have z:=u x (.head _);rw[E!]at e;have:=aB l (x+1) b (λy o=>⟨by have:=e.1 y o;omega,(u y (.tail _ o)).2⟩) e.2 U;rw[a5];omega
theorem cy:∀(l:Fp)(a:Int),(∀x∈l,a<=x/\x<a+l.length)->l.Pairwise (·<·)->∀i:Nat,i<l.length->l[i]?=Y (a+i)
 |[],a,_,_,i,hi=>by cases hi
 |x::l,a,z,u,i,hi=>by
  have C:=z x (.head _);rw[E!]at u;have A:=aB l (x+1) (a+(x::l).length) (λy o=>⟨by have:=u.1 y o;omega,(z y (.tail _ o)).2⟩) u.2 U;rw[a5]at A;have e:x=a:=U
  subst e;cases i with
  |zero=>simp|succ i=>
   rw [List.getElem?_cons_succ,cy l (x+1) (λy o=>⟨by have:=u.1 y o;omega,by have:=(z y (.tail _ o)).2;rw[a5]at this;omega⟩) u.2 i (by rw[a5]at hi;omega)];congr 1;omega
theorem YT{l:Fp}{n:Nat}(h:∀x∈l,0<=x/\x<n)(e:l.Pairwise (·<·))(u:l.length=n):l=AY n:=by
 refine List.ext_getElem? λi=>?_;by_cases hi:i<n
 .rw[cy l 0 (λx o=>by have:=h x o;omega) e i U];simp[AY,hi]
 .rw[E? U,E? (by rw[Am];omega)]
theorem Rm{n:Nat}{i:Int}(e:0<=i)(o:i<n):AA (AY n) i=i:=by
 have:=FH (n:=n) (λx=>x) e o;simpa using this
variable{g:bk}
theorem qC(u:BW g){n m:Nat}(z:n<=g.az.length)(A:m<=g.bi.length)(h:∀i:Int,0<=i->i<m->(0<=(AA g.bi i).fb/\(AA g.bi i).fb<n)/\0<=(AA g.bi i).To/\(AA g.bi i).To<n):D5 g ⟨AY n,AY m⟩=0:=by
 have a0:∀{k N:Nat},k<=N->Lu (AY k) N=0:=by
  intro k N F;unfold Lu;rw[Bb.2]
  .rfl
  intro i o e;rw[Am]at e;rw[Rm o e,QQ U,QQ];rintro⟨K,E⟩;rw[Rm U U]at E;omega
 unfold D5 Nn;rw[QQ (by simp[HC u]),a0 z,a0 A,QQ V,QQ V,Bb.2]
 .rfl
 intro i o e;rw[Am]at e;dsimp only;obtain⟨C,D⟩:=h i o e;rw[Rm o e,Ag.2 (Bs.2 C),Ag.2 (Bs.2 D)];rfl
theorem Z2{n:Nat}{i:Int}(e:0<=i)(o:i<n):A1 (AY n) i=i:=by
 have:=Cz (Ro n) e (by rw[Am];exact o)
 rwa [show AA (AY n) i=i from by have:=FH (n:=n) (λx=>x) e o;simpa using this]at this
theorem fK(n:Nat):AJ [] n=AY n:=by
 unfold AJ AY;simp[hasB]
structure TP(r:d4):Prop where
 ls:r.ea.d5=[]
 lt:r.ea.f0=[]
 rs:r.ci.d5=[]
 lv:r.ea.ei=0
 inj:r.fd=X
 cond:r.ca.fu=1
 kn:r.kx.az=AY r.ea.bk.az.length
 ke:r.kx.bi=AY r.ea.bk.bi.length
theorem Qc{t:AC}{s:Ak}{r:d4}(h:B8 t s r=0):TP r/\x5 t r.ea.bk.az=X/\x5 t r.ci.bk.az=X:=by
 obtain ⟨_,ho,_,_⟩:=DB h;unfold B8 at h;split at h
 .omega
 split at h
 .omega
 split at h
 .cases h
 rename_i z;split at h
 .rename_i u;have o:Pq r=X:=n!
  unfold Pq at o;simp only[gR,o4]at o u;obtain⟨⟨⟨⟨a,b,c,d⟩,e⟩,f⟩,g,k⟩:=o;exact⟨⟨A! a,A! b,A! c,d,e,f,YT ho.part.cE.1 ho.part.cE.2 g,YT ho.part.c9.1 ho.part.c9.2 k⟩,u.1⟩
 .cases h
structure Eu(p g:bk)(M:bn):Prop where
 nl:M.az.length=p.az.length
 el:M.bi.length=p.bi.length
 node:∀i:Int,0<=i->i<p.az.length->(0<=AA M.az i/\AA M.az i<g.az.length)/\AA g.az (AA M.az i)=AA p.az i
 edge:∀i:Int,0<=i->i<p.bi.length->(0<=AA M.bi i/\AA M.bi i<g.bi.length)/\AA g.bi (AA M.bi i)=⟨(AA p.bi i).em,AA M.az (AA p.bi i).fb,AA M.az (AA p.bi i).To⟩
 nnd:M.az.Nodup
 AaZ:M.bi.Nodup
variable{p:bk}
theorem Eu.chk{t:AC}{M:bn}(h:Eu p g M)(hv:(A0 t).2=0)(u:BW p)(tp:CW t p=X)(z:BW g)(A:CW t g=X)(inj:Bool):Ez t p g M inj=0:=by
 have D:Ds t p g=0:=by
  unfold Ds;rw[QQ t!,QQ (by simp[HC u]),QQ (by simp[HC z]),tp,A];rfl
 have E:J5 t p g M=0:=by
  unfold J5;rw[QQ (by have:=h.nl;have:=h.el;omega),Bb.2]
  .dsimp only;rw[Bb.2]
   .rfl
   intro i e C;obtain⟨F,o⟩:=h.edge i e (by have:=h.el;omega);unfold Es;rw[QQ U,o,QQ V,QQ V]
  .intro i e C;obtain⟨F,o⟩:=h.node i e (by have:=h.nl;omega);unfold Ht;rw[QQ U,o,Xs ((Cw u tp).1 _ (AG e (by have:=h.nl;omega))).1,QQ a_]
 unfold Ez Gz;rw[QQ (by simp[D]),QQ (by simp[E]),Gy.2 h.nnd,Gy.2 h.AaZ,QQ (by cases inj<;>decide)]
def C0(r:d4)(g:bk)(yN:Fp):bk:=⟨g.az++(AJ r.ed.az r.ci.bk.az.length).map (AA r.ci.bk.az),g.bi++(AJ r.ed.bi r.ci.bk.bi.length).map (Mg r r.ed.az yN g.az.length)⟩
section
variable{t:AC}{s:Ak}{r:d4}{h:AH}{M:bn}
variable{im:Fp}
theorem Th{n:Nat}(u:im.length=n):Ej im (AY n)=[]:=by
 unfold Ej;have:AJ (AY n) im.length=[]:=List.eq_nil_iff_forall_not_mem.2 λx e=>by
  obtain ⟨e,o⟩:=O1.1 e;exact o (Bs.2 ⟨e.1,U⟩)
 rw [this];rfl
theorem aL(e:TP r)(o:Eu r.ea.bk h.bk M):Kn h.bk r.kx M=⟨AY h.bk.az.length,AY h.bk.bi.length⟩:=by
 unfold Kn;rw[e.kn,e.ke,Th o.nl,Th o.el,fK,fK]
theorem Eu.mor{a b:bk}{m:bn}(h:Eu a b m)(u:BW a)(z:BW b):Hm a b m=0:=by
 unfold Hm;rw[QQ (by simp[HC u]),QQ (by simp[HC z]),QQ (by simp[h.nl,h.el]),Bb.2]
 .dsimp only;rw[Bb.2]
  .rfl
  intro i e A;obtain⟨C,o⟩:=h.edge i e (by have:=h.el;omega);unfold Es;rw[QQ U,o,QQ V,QQ V]
 .intro i e A;obtain⟨C,o⟩:=h.node i e (by have:=h.nl;omega);unfold L4;rw[QQ U,QQ j_]
theorem tO(A:TP r)(ho:So t r)(gh:BW h.bk)(o:Eu r.ea.bk h.bk M):(Mc (JQ r.ea.bk h.bk M) h.bk r.kx M)=(Kn h.bk r.kx M,0):=by
 have D:=o.nl;have K:=o.el;have E:BW (JQ r.ea.bk h.bk M):=by
  refine ⟨by simp[JQ,D];exact ho.left.cE,ho.left.c9,λn F=>?_,λe he=>?_⟩
  .obtain⟨x,Q,rfl⟩:=x?.1 F;obtain⟨i,u,z,rfl⟩:=Ay Q;have:=(o.node i u U).1;exact gh.kind _ (AG this.1 this.2)
  .have:=ho.left.fit e he;simp only[JQ,a6,D];exact this
 have L:Eu (JQ r.ea.bk h.bk M) h.bk M:=⟨by simp[JQ],K,λi u z=>by
  have z:i<(M.az.length:Int):=by simpa[JQ]using z
  exact ⟨(o.node i u U).1,(Cu u z).symm⟩,o.edge,o.nnd,o.AaZ⟩
 have C:=L.mor E gh;have O:D5 (JQ r.ea.bk h.bk M) r.kx=0:=by
  have:=qC E (n:=r.ea.bk.az.length) (m:=r.ea.bk.bi.length) (by simp[JQ,D]) (by simp[JQ]) λi u z=>(ho.left.fit _ (AG u z)).2
  rwa [show BN.mk (AY r.ea.bk.az.length) (AY r.ea.bk.bi.length)=r.kx by rw[<-A.kn,<-A.ke]]at this
 unfold Mc;rw[QQ (by simp[C]),QQ (by simp[O]),QQ,QQ]
 .rw[Dv];rintro⟨i,u,z,e⟩;unfold Nj at e;rw[A.kn,Th o.nl]at e;simp[hasB]at e
 .have key:∀{im:Fp}{n:Nat},im.length=n->Aag im (AY n)=T:=by
   intro im n R;unfold Aag;rw[BV];intro a a0 a1;rw[BV];intro b ε κ;rw[Ag.2 (Bs.2 ⟨a0,U⟩),Ag.2 (Bs.2 ⟨U,U⟩)];simp
  rw [A.kn,A.ke,key o.nl,key o.el];decide
end
end Go.Sf.Sc
namespace Go.Sf.Sc
open Go Go.Sf
section
variable{t:AC}{s:Ak}{r:d4}{h:AH}{M:bn}
variable{v:Int}
theorem OG{J yN:Fp}{gn:Nat}:DV J yN gn v=if v∈J then AA yN (A1 J v)else(gn:Int)+(AJ J v).length:=by
 unfold DV;by_cases hv:v∈J
 .rw[Ne (Ag.2 hv),Ne hv]
 .rw[QQ (by rw[Ag];exact hv),QQ hv]
theorem dO(o:TP r)(ho:So t r)(l1:r.ed.az.length=r.ea.bk.az.length)(e:Eu r.ea.bk h.bk M)(u:0<=v)(z:v<r.ci.bk.az.length):
  AA (cS r h ⟨M,[]⟩).az v=DV r.ed.az M.az h.bk.az.length v:=by
 have hd:dS r h ⟨M,[]⟩=⟨AY h.bk.az.length,AY h.bk.bi.length⟩:=aL o e;rw[show AA (cS r h ⟨M,[]⟩).az v=PP r.kx.az r.ed.az (M.az.map (AA (GW h (dS r h ⟨M,[]⟩)).az)) (dS r h ⟨M,[]⟩).az.length v from dL u z,hd,OG,o.kn];unfold PP;by_cases hv:v∈r.ed.az
 .obtain⟨a,b,_,_⟩:=BP hv;have:=(e.node _ a U).1;rw[Ne (Ag.2 hv),Ne hv,Rm a U,Cu a (by have:=e.nl;omega)];show AA (Gr h.bk.az.length (AY h.bk.az.length)) _=_;rw[N4 this.1 this.2,Z2 this.1 this.2]
 .rw[QQ (by rw[Ag];exact hv),QQ hv,Am]
theorem oz(o:TP r)(gh:BW h.bk)(u:Eu r.ea.bk h.bk M):(CS h (dS r h ⟨M,[]⟩)).bk=h.bk/\(CS h (dS r h ⟨M,[]⟩)).d6=(AY h.bk.az.length).map (AA h.d6):=by
 have hd:dS r h ⟨M,[]⟩=⟨AY h.bk.az.length,AY h.bk.bi.length⟩:=aL o u;rw[hd];refine⟨?_,rfl⟩;show bk.mk ((AY h.bk.az.length).map (AA h.bk.az)) ((AY h.bk.bi.length).map λx=>RT (Gr h.bk.az.length (AY h.bk.az.length)) (AA h.bk.bi x))=h.bk;rw[Qd];have:((AY h.bk.bi.length).map λx=>RT (Gr h.bk.az.length (AY h.bk.az.length)) (AA h.bk.bi x))=(AY h.bk.bi.length).map (AA h.bk.bi):=by
  refine B' λx e=>?_;have e:=Bs.1 e;have hf:=(gh.fit _ (AG e.1 e.2)).2;unfold RT;rw[N4 hf.1.1 hf.1.2,N4 hf.2.1 hf.2.2,Z2 hf.1.1 hf.1.2,Z2 hf.2.1 hf.2.2]
 rw [this,Qd]
theorem aK(o:TP r)(ho:So t r)(l1:r.ed.az.length=r.ea.bk.az.length)(gh:BW h.bk)(u:Eu r.ea.bk h.bk M):
  (DL t r (CS h (dS r h ⟨M,[]⟩)) (cS r h ⟨M,[]⟩)).bk=C0 r h.bk M.az:=by
 unfold DL N1 PX C0;rw[(oz o gh u).1];dsimp only;congr 2;refine B' λk e=>?_;have e:0<=k/\k<r.ci.bk.bi.length:=CP e;have hf:=(ho.right.fit _ (AG e.1 e.2)).2;unfold RT Mg;rw[dO o ho l1 u hf.1.1 hf.1.2,dO o ho l1 u hf.2.1 hf.2.2]
variable{m:AU}
theorem o0(hf:Ao t)(e:TP r)(o:Sw t r.ea r.ca h m r.fd=0):MQ t r.ea r.ca h m r.fd=(X,0):=by
 have u:(wS t r.ea r.ca h m r.fd).2=0:=by
  unfold wS;rw[QQ j_];have:=Gd r.ca;obtain⟨n,z⟩:∃n,SizeOf.sizeOf r.ca=n+1:=⟨SizeOf.sizeOf r.ca-1,U⟩;rw[z,DD,QQ v_,QQ v_,QQ v_,QQ v_]
 unfold MQ;rw[u];rfl
theorem jx(hf:Ao t)(fr:DN r)(F:B8 t s r=0)(hh:(Bc t h).2=0)(K:Eu r.ea.bk h.bk M)(δ:(C0 r h.bk M.az).az.length<=40)(Z:(C0 r h.bk M.az).bi.length<=80):
  ∃st,GF t r h ⟨M,[]⟩=(st,0)/\st.l4.bk=C0 r h.bk M.az/\(Bc t st.l4).2=0:=by
 obtain ⟨_,ho,l1,l2⟩:=DB F;obtain⟨z,_⟩:=Qc F;obtain⟨_,A⟩:=UK F;obtain⟨hv,hO⟩:=Du hf hh;obtain⟨κ,hr,_⟩:=Q2 A;have o:∀b,Ez t r.ea.bk h.bk M b=0:=K.chk hv ho.left ho.ltyped hO.g hO.ty;have u:F5 t r.ea h M=([],0):=by
  unfold F5 Ot;rw[QQ (by simp[κ,hh]),QQ j_];unfold Hx;rw[z.ls,z.lt,z.lv];rfl
 have L:=tO z ho hO.g K;have O:Sw t r.ea r.ca h ⟨M,[]⟩ r.fd=0:=Wg A hh (o _) (by rw[u]) (by rw[u]);have C:=o0 hf z O;have R:=aK (t:=t) z ho l1 hO.g K;have D:CD r (cS r h ⟨M,[]⟩) []=[]:=by unfold CD;rw[z.rs];rfl
 have e:GF t r h ⟨M,[]⟩=Wm t r h ⟨M,[]⟩:=by
  unfold GF;rw[QQ (by simp[A]),QQ q!,QQ j_,u,QQ V,QQ V,L,QQ V,C,QQ V,QQ V]
 have E:∀x:AH,IA t x []=(x,0):=λx=>by
  unfold IA;rw[QQ (by unfold Pp;rw[Dv];rintro⟨i,i0,ζ,_⟩;simp at ζ;omega)];rfl
 have ε:GF t r h ⟨M,[]⟩=(lK t r h ⟨M,[]⟩,0):=by
  have Q:IA t (DL t r (CS h (dS r h ⟨M,[]⟩)) (cS r h ⟨M,[]⟩)) (CD r (cS r h ⟨M,[]⟩) [])=(DL t r (CS h (dS r h ⟨M,[]⟩)) (cS r h ⟨M,[]⟩),0):=by rw[D,E]
  rw [e];unfold Wm lK Sp;dsimp only;rw[QQ (by rw[Q];simp),QQ (by rw[Q];dsimp only;rw[R];omega),Q,D];rfl
 obtain ⟨η,_⟩:=cx hf fr (Rl F) (h:=h) (m:=⟨M,[]⟩) (by rw[ε]);exact⟨_,ε,R,congrArg Prod.snd (XG η)⟩
end
end Go.Sf.Sc
namespace Go.Sf.Sc
open Go Go.Sf
theorem jU{t:AC}(o:Eg t t.az.length):∀(n:Nat)(a:Int),0<=a->a<t.az.length->∀x∈Gs t n a,x=a\/∃c:Int,(0<=c/\c<t.az.length)/\x=par t c
 |0,_,_,_,x,e=>by simp[Gs]at e|n+1,a,a0,a1,x,e=>by
  rw [Gs,QQ U]at e;rcases w_.1 e with rfl|e
  .exact .inl rfl
  .by_cases u:0<=par t a
   .have:=o a a0 a1;rcases jU o n (par t a) u U x e with rfl|h
    .exact .inr ⟨a,⟨a0,a1⟩,rfl⟩
    .exact .inr h
   .cases n with
    |zero=>simp[Gs]at e|succ n=>rw[Gs,Ne U]at e;cases e
variable{a b:Int}
theorem iU{t:AC}(u:Eg t t.az.length){l:Fp}(o:x5 t l=X)(a0:0<=a)(a1:a<t.az.length)(z:b∈l)(h:isB t a b=X):a=b:=by
 unfold isB at h;obtain⟨x,A,e⟩:=w?.1 h;rw[o4]at e;subst e;rcases jU u _ a a0 a1 b A with e|⟨c,⟨C,D⟩,e⟩
 .exact e.symm
 .unfold x5 at o;rw[G!,x_]at o;have:=o b z;exact absurd (w?.2 ⟨AA t.az c,AG C D,by rw[o4];exact e.symm⟩) this
section
variable{t:AC}{s:Ak}{r:d4}{l:Fp}
theorem VD{i:Int}(e:0<=i)(o:i<r.ea.bk.az.length):AA (Bh s r l).az i=AA r.ea.bk.az i:=Er e o
theorem Yy{i:Int}(e:0<=i)(o:i<r.ea.bk.bi.length):AA (Bh s r l).bi i=AA r.ea.bk.bi i:=Er e o
theorem Yz{i:Int}(e:0<=i)(o:i<(DX s r l).length):AA (Bh s r l).az (r.ea.bk.az.length+i)=AA r.ci.bk.az (AA (DX s r l) i):=by
 obtain ⟨n,rfl⟩:=J' e;rw[show AA (Bh s r l).az (r.ea.bk.az.length+(n:Int))=_ from ND,Cu e o]
theorem XN{i:Int}(e:0<=i)(o:i<(EH s r l).length):AA (Bh s r l).bi (r.ea.bk.bi.length+i)=Wi r (At s r l) (AA (EH s r l) i):=by
 obtain ⟨n,rfl⟩:=J' e;rw[show AA (Bh s r l).bi (r.ea.bk.bi.length+(n:Int))=_ from ND,Cu e o]
theorem mc(o:B8 t s r=0){n:Int}(e:n∈(Bh s r l).az):∃L,x5 t L=X/\n∈L:=by
 obtain ⟨_,u,z⟩:=Qc o;rcases x!.1 e with e|e
 .exact⟨_,u,e⟩
 .obtain⟨v,hv,rfl⟩:=x?.1 e;have:=(Br.1 hv).1;exact⟨_,z,AG this.1 this.2⟩
variable{g:bk}
theorem kL(E:B8 t s r=0){y:bn}(e:y∈(EB t (Bh s r l) g X).1):Eu (Bh s r l) g y/\Ds t (Bh s r l) g=0:=by
 unfold EB at e;split at e
 .cases e
 rename_i o;split at e
 .cases e
 have o:=I'.1 o;have u:=Qu e;have ok:=Xm o e;obtain⟨hv,_,_,_,F⟩:=Ji o;have nl:y.az.length=(Bh s r l).az.length:=u.nl;have el:y.bi.length=(Bh s r l).bi.length:=u.el;refine⟨⟨nl,el,λi z C=>?_,λi z C=>u.edge i z U,(u.inj rfl).1,(u.inj rfl).2⟩,o⟩;obtain⟨A,K⟩:=ok.node i z U;obtain⟨L,O,Q⟩:=mc E (AG z C);have D:=F _ (AG A.1 A.2);exact⟨A,iU (Ck hv).par O D.1 D.2 Q K⟩
theorem aq(o:B8 t s r=0){i:Int}(e:0<=i)(z:i<r.ed.az.length):AA r.ci.bk.az (AA r.ed.az i)=AA r.ea.bk.az i/\0<=AA r.ed.az i/\AA r.ed.az i<r.ci.bk.az.length:=by
 obtain ⟨_,ho,l1,_⟩:=DB o;obtain⟨u,_⟩:=Qc o;obtain⟨A,C⟩:=ho.mor.node i e z;refine⟨?_,A⟩;rw[C];unfold Gf;rw[Cu e (by rw[u.kn,Am];omega),u.kn,Rm e U]
variable{v:Int}
theorem md(o:B8 t s r=0)(hv:v∈At s r l):AA (Bh s r l).az (A1 (At s r l) v)=AA r.ci.bk.az v:=by
 obtain ⟨_,ho,l1,_⟩:=DB o;by_cases e:v∈r.ed.az
 .obtain⟨a,b,c,_⟩:=BP e;rw[show A1 (At s r l) v=A1 r.ed.az v from R9 e,VD a U,<-(aq o a b).1,c]
 .have u:v∈DX s r l:=(x!.1 hv).resolve_left e;obtain⟨a,b,c,_⟩:=BP u;rw[show A1 (At s r l) v=r.ed.az.length+A1 (DX s r l) v from Mn e u,l1,Yz a b,c]
variable{w:Int}
theorem ma(o:B8 t s r=0)(u:w∉r.ed.bi)(e:w∈EH s r l):AA (Bh s r l).bi (A1 (Bx s r l) w)=Wi r (At s r l) w:=by
 obtain ⟨_,ho,_,l2⟩:=DB o;obtain⟨a,b,c,_⟩:=BP e;rw[show A1 (Bx s r l) w=r.ed.bi.length+A1 (EH s r l) w from Mn u e,l2,XN a b,c]
variable{x:AI}{y:bn}{i:Int}
theorem ov(z:B8 t s r=0)(A:Eu (Bh s r l) x.d7 y)(C:0<=v)(D:v<r.ci.bk.az.length):AA (CR x i s r l y).d7.az (DV (At s r l) y.az x.d7.az.length v)=AA r.ci.bk.az v:=by
 obtain ⟨_,ho,l1,_⟩:=DB z;have ml:(Bh s r l).az.length=(At s r l).length:=by simp[Bh,At,l1]
 by_cases hv:v∈At s r l
 .obtain⟨a,b,c,_⟩:=BP hv;obtain⟨o,u⟩:=A.node _ a U;have e:DV (At s r l) y.az x.d7.az.length v=AA y.az (A1 (At s r l) v):=v6
  rw [e,show AA (CR x i s r l y).d7.az (AA y.az (A1 (At s r l) v))=_ from Er o.1 o.2,u,md z hv]
 .obtain⟨o,u⟩:=Im C D hv;rw[N2 hv,show AA (CR x i s r l y).d7.az ((x.d7.az.length:Int)+((AJ (At s r l) v).length:Int))=_ from ND,Cu U u,o]
theorem ot(z:B8 t s r=0)(he:Ma s r l)(D:Eu (Bh s r l) x.d7 y)(w0:0<=w)(E:w<r.ci.bk.bi.length)(A:w∉r.ed.bi):
  AA (CR x i s r l y).d7.bi (DV (Bx s r l) y.bi x.d7.bi.length w)=Mg r (At s r l) y.az x.d7.az.length w:=by
 obtain ⟨_,ho,_,l2⟩:=DB z;have ml:(Bh s r l).bi.length=(Bx s r l).length:=by simp[Bh,Bx,l2]
 by_cases hv:w∈Bx s r l
 .have C:w∈EH s r l:=(x!.1 hv).resolve_left A;obtain⟨a,b,c,_⟩:=BP hv;obtain⟨o,u⟩:=D.edge _ a U;obtain⟨F,K⟩:=he _ C;have e:DV (Bx s r l) y.bi x.d7.bi.length w=AA y.bi (A1 (Bx s r l) w):=v6
  rw [e,show AA (CR x i s r l y).d7.bi (AA y.bi (A1 (Bx s r l) w))=_ from Er o.1 o.2,u,ma z A C];unfold Wi Mg DV;rw[Ne (Ag.2 F),Ne (Ag.2 K)]
 .obtain⟨o,u⟩:=Im w0 E hv;rw[N2 hv,show AA (CR x i s r l y).d7.bi ((x.d7.bi.length:Int)+((AJ (Bx s r l) w).length:Int))=_ from ND,Cu U u,o]
end
end Go.Sf.Sc
namespace Go.Sf
variable{α σ ρ:Type}
theorem aW{g:α->σ->σ ⊕ ρ}:∀{a b:List α}{s s':σ},C2 g a s=.inl s'->C2 g (a++b) s=C2 g b s'
 |[],_,_,_,h=>by cases h;rfl
 |x::a,b,s,s',h=>by
  rw [List.cons_append,C2];rw[C2]at h;cases e:g x s with
  |inr r=>rw[e]at h;cases h
  |inl v=>rw[e]at h;exact aW (a:=a) h
end Go.Sf
namespace Go.Sf.Sc
open Go Go.Sf
section
variable{t:AC}{s:Ak}{r:d4}{l:Fp}{x:AI}{y:bn}{i:Int}{B:bk}
def Kh(x:AI)(r:d4)(y:bn):bn:=⟨(y.az.take r.ea.bk.az.length).map (A1 x.l6.az),(y.bi.take r.ea.bk.bi.length).map (A1 x.l6.bi)⟩
variable{j:Int}
theorem dZ{I im:Fp}{n:Int}(h:Hl I im n=X)(e:0<=j)(o:j<im.length)(u:j<n):AA im j∈I:=by
 unfold Hl at h;rw[G!,BV]at h;have:=h j e o;rw[decide_eq_false U,beq_false]at this;rw[<-Ag];simpa using this
variable{k:Int}
theorem sL{I:Fp}(h:k∈I):AA I (A1 I k)=k:=(BP h).2.2.1
theorem OO{l:Fp}{n:Nat}(e:0<=j)(o:j<n):AA (l.take n) j=AA l j:=by
 have:=aC (l:=l) (i:=(n:Int)) e U
 rwa [I?]at this
theorem mh{l I:Fp}(u:l.Nodup)(h:∀k∈l,k∈I):(l.map (A1 I)).Nodup:=by
 rw [F_,D_];refine List.Pairwise.imp_of_mem (λ{a b}z A o e=>o ?_) u;rw[<-sL (h a z),<-sL (h b A),e]
theorem pk(R:B8 t s r=0)(hi:IX x)(ε:BW B)(A:Eu B x.d7 x.l6)(z:Eu (Bh s r l) x.d7 y)(κ:Hl x.l6.az y.az r.ea.bk.az.length=X)(η:Hl x.l6.bi y.bi r.ea.bk.bi.length=X):Eu r.ea.bk B (Kh x r y):=by
 obtain ⟨_,ho,l1,l2⟩:=DB R;have m1:r.ea.bk.az.length<=y.az.length:=by rw[z.nl];simp[Bh]
 have Z:r.ea.bk.bi.length<=y.bi.length:=by rw[z.el];simp[Bh]
 have K:=A.nl;have b2:=A.el;have D:∀j:Int,0<=j->j<r.ea.bk.az.length->AA (Kh x r y).az j=A1 x.l6.az (AA y.az j)/\AA y.az j∈x.l6.az:=λj o u=>by
  refine ⟨?_,dZ κ o U u⟩;show AA ((y.az.take r.ea.bk.az.length).map (A1 x.l6.az)) j=_;rw[Cu o i_,OO o u]
 have L:∀j:Int,0<=j->j<r.ea.bk.bi.length->AA (Kh x r y).bi j=A1 x.l6.bi (AA y.bi j)/\AA y.bi j∈x.l6.bi:=λj o u=>by
  refine ⟨?_,dZ η o U u⟩;show AA ((y.bi.take r.ea.bk.bi.length).map (A1 x.l6.bi)) j=_;rw[Cu o i_,OO o u]
 refine ⟨by simp[Kh];omega,by simp[Kh];omega,λj o u=>?_,λj o u=>?_,?_,?_⟩
 .obtain⟨e,E⟩:=D j o u;obtain⟨a,b,c,_⟩:=BP E;rw[e];refine⟨⟨a,U⟩,?_⟩;rw[<-(A.node _ a U).2,c,(z.node j o (by simp[Bh];omega)).2,VD o u]
 .obtain⟨e,E⟩:=L j o u;obtain⟨a,b,c,_⟩:=BP E;rw[e];refine⟨⟨a,U⟩,?_⟩;have O:=(A.edge _ a U).2;have δ:=(z.edge j o (by simp[Bh];omega)).2;rw[c,δ,Yy o u]at O;have hf:=(ho.left.fit _ (AG o u)).2;injection O with q1 q2 q3;have key:∀a b:Int,(0<=a/\a<r.ea.bk.az.length)->AA y.az a=AA x.l6.az b->0<=b->b<x.l6.az.length->b=AA (Kh x r y).az a:=λa b F e ζ K=>by
   rw [(D a F.1 F.2).1,e,Cz hi.nnd ζ K]
  have Q:=(ε.fit _ (AG a (show _<(B.bi.length:Int)by omega))).2;rw[q1,<-key _ _ hf.1 q2 Q.1.1 U,<-key _ _ hf.2 q3 Q.2.1 U]
 .refine mh (z.nnd.sublist (F! ..)) λk C=>?_;obtain⟨j,o,u,rfl⟩:=Ay C;rw[aN]at u;rw[OO o U];exact(D j o U).2
 .refine mh (z.AaZ.sublist (F! ..)) λk C=>?_;obtain⟨j,o,u,rfl⟩:=Ay C;rw[aN]at u;rw[OO o U];exact(L j o U).2
end
end Go.Sf.Sc
namespace Go.Sf.Sc
open Go Go.Sf
section
variable{t:AC}{s:Ak}{r:d4}{l:Fp}{x:AI}{y:bn}{i:Int}{B:bk}
variable{α:Type}
theorem RP[Inhabited α]{a b:List α}{i:Int}(o:(a.length:Int)<=i):AA (a++b) i=AA b (i-a.length):=by
 obtain ⟨n,e⟩:=J' (show 0<=i-a.length by omega);rw[e,show i=(a.length:Int)+(n:Int)by omega];exact ND
variable{v:Int}
theorem mX(hi:IX x)(o:Eu B x.d7 x.l6)(e:Jh x.l6.az r.ed.az (At s r l) y.az x.d7.az.length)(u:B8 t s r=0)(z:Hl x.l6.az y.az r.ea.bk.az.length=X)
  (A:0<=v)(C:v<r.ci.bk.az.length):
  AA (CR x i s r l y).l6.az (DV r.ed.az (Kh x r y).az B.az.length v)=DV (At s r l) y.az x.d7.az.length v:=by
 obtain ⟨_,ho,l1,_⟩:=DB u;have D:=o.nl;have O:=e.AbD;have Q:(At s r l).length=r.ed.az.length+(DX s r l).length:=aE ..;have e0:(CR x i s r l y).l6.az=x.l6.az++(AJ r.ed.az r.ci.bk.az.length).map (DV (At s r l) y.az x.d7.az.length):=rfl;rw[e0,OG];by_cases hv:v∈r.ed.az
 .obtain⟨a,b,c,_⟩:=BP hv;have E:AA y.az (A1 r.ed.az v)∈x.l6.az:=dZ z a U U;obtain⟨a',R,c',_⟩:=BP E;have F:AA (Kh x r y).az (A1 r.ed.az v)=A1 x.l6.az (AA y.az (A1 r.ed.az v)):=by
   show AA ((y.az.take r.ea.bk.az.length).map (A1 x.l6.az)) _=_;rw[Cu a i_,OO a U]
  rw [Ne hv,F,Er a' U,c',(Tz e (e.jt _ hv)).1,show A1 (At s r l) v=_ from R9 hv]
 .obtain⟨K,L⟩:=Im A C hv;rw[QQ hv,<-D,ND,Cu U L,K]
theorem ba(A:B8 t s r=0)(F:Ma s r l)(hi:IX x)(ζ:BW B)(z:Eu B x.d7 x.l6)(Q:Eu (Bh s r l) x.d7 y)(R:Jh x.l6.az r.ed.az (At s r l) y.az x.d7.az.length)(he:Jh x.l6.bi r.ed.bi (Bx s r l) y.bi x.d7.bi.length)
  (ε:Hl x.l6.az y.az r.ea.bk.az.length=X)(C:IX (CR x i s r l y)):Eu (C0 r B (Kh x r y).az) (CR x i s r l y).d7 (CR x i s r l y).l6:=by
 obtain ⟨_,ho,l1,l2⟩:=DB A;have κ:=z.nl;have η:=z.el;have eN:(CR x i s r l y).l6.az=x.l6.az++(AJ r.ed.az r.ci.bk.az.length).map (DV (At s r l) y.az x.d7.az.length):=rfl;have L:(CR x i s r l y).l6.bi=x.l6.bi++(AJ r.ed.bi r.ci.bk.bi.length).map (DV (Bx s r l) y.bi x.d7.bi.length):=rfl;have δ:(CR x i s r l y).d7.az=x.d7.az++(AJ (At s r l) r.ci.bk.az.length).map (AA r.ci.bk.az):=rfl;have Z:(CR x i s r l y).d7.bi=x.d7.bi++(AJ (Bx s r l) r.ci.bk.bi.length).map (Mg r (At s r l) y.az x.d7.az.length):=rfl;have D:(C0 r B (Kh x r y).az).az=B.az++(AJ r.ed.az r.ci.bk.az.length).map (AA r.ci.bk.az):=rfl;have E:(C0 r B (Kh x r y).az).bi=B.bi++(AJ r.ed.bi r.ci.bk.bi.length).map (Mg r r.ed.az (Kh x r y).az B.az.length):=rfl;have nl:(CR x i s r l y).l6.az.length=(C0 r B (Kh x r y).az).az.length:=by rw[eN,D,aE,aE,a6,a6,κ]
 have el:(CR x i s r l y).l6.bi.length=(C0 r B (Kh x r y).az).bi.length:=by rw[L,E,aE,aE,a6,a6,η]
 refine ⟨nl,el,λk e K=>⟨C.nin _ (AG e U),?_⟩,λk e K=>⟨C.ein _ (AG e U),?_⟩,C.nnd,C.AaZ⟩
 .by_cases h:k<B.az.length
  .have o:=z.node k e h;rw[eN,Er e U,δ,Er o.1.1 o.1.2,o.2,D,Er e h]
  .have u:k-B.az.length<(AJ r.ed.az r.ci.bk.az.length).length:=by
    rw [D,aE,a6]at K;omega
   have hv:=CP (AG (l:=AJ r.ed.az r.ci.bk.az.length) (i:=k-B.az.length) U u);rw[eN,RP U,κ,Cu U u,ov A Q hv.1 hv.2,D,RP U,Cu U u]
 .by_cases h:k<B.bi.length
  .have o:=z.edge k e h;have hf:=(ζ.fit _ (AG e h)).2;rw[L,Er e U,Z,Er o.1.1 o.1.2,o.2,E,Er e h,eN,Er hf.1.1 U,Er hf.2.1 U]
  .have u:k-B.bi.length<(AJ r.ed.bi r.ci.bk.bi.length).length:=by
    rw [E,aE,a6]at K;omega
   obtain ⟨hv,O⟩:=GQ.1 (AG (l:=AJ r.ed.bi r.ci.bk.bi.length) (i:=k-B.bi.length) U u);have hf:=(ho.right.fit _ (AG hv.1 hv.2)).2;rw[L,RP U,η,Cu U u,ot A F Q hv.1 hv.2 O,E,RP U,Cu U u];unfold Mg;dsimp only;rw[mX hi z R A ε hf.1.1 hf.1.2,mX hi z R A ε hf.2.1 hf.2.2]
def cc(t:AC)(c8:List d4)(x:AI):Prop:=∃B:AH,C2 (EN t c8) x.mN (zH,zH)=.inl (zH,B)/\(Bc t B).2=0/\Eu B.bk x.d7 x.l6
theorem pT{c8:List d4}(hf:Ao t)(K:∀r∈c8,DN r)(L:∀r∈c8,B8 t s r=0)(z:∀r∈c8,Ma s r l)(x:AI)(i:Int)(y:bn)(hi:IX x)(h:cc t c8 x)(O:0<=i)(Q:i<c8.length)
  (R:y∈(EB t (Bh s (AA c8 i) l) x.d7 X).1)
  (ε:Jh x.l6.az (AA c8 i).ed.az (At s (AA c8 i) l) y.az x.d7.az.length)(he:Jh x.l6.bi (AA c8 i).ed.bi (Bx s (AA c8 i) l) y.bi x.d7.bi.length)
  (D:Hl x.l6.az y.az (AA c8 i).ea.bk.az.length=X)(κ:Hl x.l6.bi y.bi (AA c8 i).ea.bk.bi.length=X)(u:IX (CR x i s (AA c8 i) l y)):cc t c8 (CR x i s (AA c8 i) l y):=by
 obtain ⟨B,e,hv,E⟩:=h;have A:=AG O Q;have o:=L _ A;obtain⟨_,hO⟩:=Du hf hv;obtain⟨F,_⟩:=kL o R;have η:=pk o hi hO.g E F D κ;have C:=ba (i:=i) o (z _ A) hi hO.g E F ε he D u;have ζ:(C0 (AA c8 i) B.bk (Kh x (AA c8 i) y).az).az.length<=40:=by
  rw [<-C.nl];have:=Jj u.nnd u.nin;have:=u.tc;omega
 have δ:(C0 (AA c8 i) B.bk (Kh x (AA c8 i) y).az).bi.length<=80:=by
  rw [<-C.el];have:=Jj u.AaZ u.ein;have:=u.wi;omega
 obtain ⟨st,a1,a2,Z⟩:=jx hf (K _ A) o hv η ζ δ;refine⟨st.l4,?_,Z,by rw[a2];exact C⟩;rw[show(CR x i s (AA c8 i) l y).mN=x.mN++[⟨i,⟨Kh x (AA c8 i) y,[]⟩⟩]from rfl,aW e,C2];have:EN t c8 ⟨i,⟨Kh x (AA c8 i) y,[]⟩⟩ (zH,B)=.inl (zH,st.l4):=by
  unfold EN;rw[QQ (by show¬(i<0\/(c8.length:Int)<=i);omega)];dsimp only;rw[a1,QQ V]
 rw [this];rfl
end
end Go.Sf.Sc
namespace Go.Sf.Sc
open Go Go.Sf
variable{α:Type}
theorem TS[Inhabited α]{P:α->Prop}{l:List α}(hd:P default)(h:∀x∈l,P x)(i:Int):P (AA l i):=by
 unfold AA;rw[z_];cases e:l[i.toNat]? with
 |none=>exact hd|some x=>exact h x (z? e)
section
variable{t:AC}{s:Ak}{c8:List d4}{l:Fp}
theorem U5(h:C9 t s c8=0)(k:Int):A5 t k=[]:=by
 have u:∀n∈t.az,n.iN=[]:=by
  unfold C9 at h;split at h
  .cases h
  split at h
  .omega
  split at h
  .cases h
  rename_i e;rw[H?,x_]at e;intro n o;have:=e n o;rw[o4]at this;exact A! U
 have z:=TS (P:=λn:B2=>n.iN=[]) rfl u;have key:∀(n:Nat)(a:Int),CI t n a=[]:=λn=>by
  induction n with
  |zero=>intro a;rfl|succ n A=>intro a;rw[CI,A,z];simp
 exact key _ _
theorem U6{h:AH}(z:(A0 t).2=0)(A:B5 h.bk=0)(C:h.d6.length=h.bk.az.length)(D:∀i:Int,0<=i->i<h.bk.az.length->Gm t (AA h.bk.az i) (AA h.d6 i)=0)(E:∀i:Int,0<=i->i<h.bk.bi.length->HP t h.bk i=0):(Bc t h).2=0:=by
 unfold Bc;have F:fst (λi=>(nz (Gm t (AA h.bk.az i) (AA h.d6 i))).map λe=>(i,e)) 0 h.bk.az.length=none:=Bb.2 λi o u=>by rw[D i o u];rfl
 have K:fst (λi=>(nz (HP t h.bk i)).map λe=>(i,e)) 0 h.bk.bi.length=none:=Bb.2 λi o u=>by rw[E i o u];rfl
 rw [QQ (λk=>k z),QQ (λk=>k A),QQ (λk=>k C),F,K];rfl
theorem Zo(hv:(A0 t).2=0):(Bc t zH).2=0:=U6 hv a_ rfl (λi o e=>k!) (λi o e=>k!)
theorem tZ(hv:(A0 t).2=0)(h:AH):cc t c8 (FZ h):=
 ⟨zH,rfl,Zo hv,rfl,rfl,λi o e=>k!,λi o e=>k!,E_,E_⟩
variable{N:Nat}{k:Int}
theorem Xb{I:Fp}(h:TQ N I=X)(o:0<=k)(u:k<N):∃i:Int,0<=i/\i<I.length/\AA I i=k:=by
 unfold TQ at h;rw[F?]at h;obtain⟨i,z,A,e⟩:=Ay (Ag.1 (h k (Bs.2 ⟨o,u⟩)));exact⟨i,z,A,e⟩
theorem gq{I:Fp}(h:TQ N I=X)(u:I.Nodup)(e:∀k∈I,0<=k/\k<N):I.length=N:=by
 have C:=Jj u e;have:=List.Nodup.length_le_of_subset (l₁:=AY N) (l₂:=I) (Ro N) (λx o=>by
  obtain ⟨i,z,A,rfl⟩:=Xb h (Bs.1 o).1 (Bs.1 o).2;exact AG z A)
 rw [Am]at this;omega
theorem mB(hf:Ao t)(L:C9 t s c8=0){B:AH}(K:(Bc t B).2=0){y:AI}(hi:IX y)(D:PQ y=X)(C:Eu B.bk y.d7 y.l6):(Bc t (J1 y).jj).2=0:=by
 obtain ⟨hv,hO⟩:=Du hf K;obtain⟨pn,pe⟩:=Mk K;unfold PQ at D;rw[gR]at D;have N:∀k:Int,0<=k->k<y.d7.az.length->∃i:Int,(0<=i/\i<B.bk.az.length)/\AA y.d7.az k=AA B.bk.az i:=λk z A=>by
  obtain ⟨i,u,o,rfl⟩:=Xb D.1 z A;rw[C.nl]at o;exact⟨i,⟨u,o⟩,(C.node i u o).2⟩
 have E:∀k:Int,0<=k->k<y.d7.bi.length->∃i:Int,(0<=i/\i<B.bk.bi.length)/\AA y.d7.bi k=⟨(AA B.bk.bi i).em,AA y.l6.az (AA B.bk.bi i).fb,AA y.l6.az (AA B.bk.bi i).To⟩:=λk z A=>by
  obtain ⟨i,u,o,rfl⟩:=Xb D.2 z A;rw[C.el]at o;exact⟨i,⟨u,o⟩,(C.edge i u o).2⟩
 have Q:BW y.d7:=by
  refine ⟨hi.tc,hi.wi,λn O=>?_,λe he=>?_⟩
  .obtain⟨k,z,A,rfl⟩:=Ay O;obtain⟨i,⟨u,o⟩,e⟩:=N k z A;rw[e];exact hO.g.kind _ (AG u o)
  .obtain⟨k,z,A,rfl⟩:=Ay he;obtain⟨i,⟨u,o⟩,e⟩:=E k z A;have hf:=hO.g.fit _ (AG u o);rw[e];exact⟨hf.1,(C.node _ hf.2.1.1 hf.2.1.2).1,(C.node _ hf.2.2.1 hf.2.2.2).1⟩
 refine U6 hv (HC Q) (by simp[J1]) (λk z A=>?_) (λk z A=>?_)
 .obtain⟨i,⟨u,o⟩,e⟩:=N k z A;have F:=pn i u o;have R:AA (J1 y).jj.d6 k=[]:=TS (P:=λv:Fp=>v=[]) rfl (λv hv=>List.eq_of_mem_replicate hv) k;rw[show AA (J1 y).jj.bk.az k=AA B.bk.az i from e,R];have ε:(AA B.d6 i).length=0:=by
   have:=hO.row i u o
   rwa [U5 L]at this
  rwa [A! ε]at F
 .obtain⟨i,⟨u,o⟩,e⟩:=E k z A;have F:=pe i u o;have hf:=(hO.g.fit _ (AG u o)).2;unfold HP DG at F|-;rw[show AA (J1 y).jj.bk.bi k=_ from e];dsimp only;rw[show(J1 y).jj.bk.az=y.d7.az from rfl,(C.node _ hf.1.1 hf.1.2).2,(C.node _ hf.2.1 hf.2.2).2];exact F
theorem o9(hf:Ao t)(z:C9 t s c8=0){y:AI}(hi:IX y)(C:y.mN.length<=30)(o:PQ y=X)(h:cc t c8 y):(Bc t (J1 y).jj).2=0/\Ut t s c8 (J1 y)=X:=by
 obtain ⟨B,e,A,u⟩:=h;have hd:=mB hf z A hi o u;obtain⟨_,hO⟩:=Du hf A;obtain⟨_,E⟩:=Du hf hd;have D:LU t s c8 y.mN=(B,0):=by
  unfold LU;rw[QQ (by simp[z]),QQ U,e]
 unfold PQ at o;rw[gR]at o;refine⟨hd,?_⟩;unfold Ut;rw[show(J1 y).Aao=y.mN from rfl,D,QQ V,QQ (by simp[hd])];unfold Xt Gz;rw[show Hm B.bk (J1 y).jj.bk (J1 y).Iso=0 from u.mor hO.g E.g,show(J1 y).Iso=y.l6 from rfl,show(J1 y).jj.bk=y.d7 from rfl,Gy.2 u.nnd,Gy.2 u.AaZ,gq o.1 hi.nnd hi.nin,gq o.2 hi.AaZ hi.ein];simp
end
end Go.Sf.Sc
namespace Go.Sf.Sc
open Go Go.Sf
def Un(s:Ak)(l:Fp)(h:AH)(g:bk):Prop:=∃N E,g=⟨h.bk.az++N,h.bk.bi++E⟩/\(∀n∈N,hasB l (AA s.az n)=T)/\∀e∈E,hasB l (AA s.bi e.em)=T
section
variable{t:AC}{s:Ak}{c8:List d4}{l:Fp}
theorem eD{h:AH}{x:AI}{i:Int}{r:d4}{y:bn}(ho:Un s l h x.d7):Un s l h (CR x i s r l y).d7:=by
 obtain ⟨N,E,e,D,he⟩:=ho;refine⟨N++(AJ (At s r l) r.ci.bk.az.length).map (AA r.ci.bk.az),E++(AJ (Bx s r l) r.ci.bk.bi.length).map (Mg r (At s r l) y.az x.d7.az.length),?_,λn o=>?_,λn o=>?_⟩
 .show bk.mk (x.d7.az++_) (x.d7.bi++_)=_;rw[show x.d7.az=h.bk.az++N by rw[e],show x.d7.bi=h.bk.bi++E by rw[e],ae,ae]
 .rcases x!.1 o with o|o
  .exact D n o
  obtain ⟨v,hv,rfl⟩:=x?.1 o;obtain⟨C,u⟩:=GQ.1 hv;cases z:hasB l (AA s.az (AA r.ci.bk.az v))with
  |false=>rfl|true=>
   refine absurd (B_ _ (Br.2 ⟨C,?_⟩)) u;have A:hasB r.ed.az v=T:=by
    rw [<-H?,Ag];exact λk=>u (A? _ k)
   unfold Ok;rw[z,A];rfl
 .rcases x!.1 o with o|o
  .exact he n o
  obtain ⟨v,hv,rfl⟩:=x?.1 o;obtain⟨C,u⟩:=GQ.1 hv;cases z:hasB l (AA s.bi (AA r.ci.bk.bi v).em)with
  |false=>exact z|true=>
   refine absurd (B_ _ (Br.2 ⟨C,?_⟩)) u;have A:hasB r.ed.bi v=T:=by
    rw [<-H?,Ag];exact λk=>u (A? _ k)
   unfold Oj;rw[z,A];rfl
theorem nP(hf:Ao t)(z:∀r∈c8,DN r)(F:hasB l 2=X->hasB l 1=X/\hasB l 3=X)(D:C9 t s c8=0){h:AH}(hh:(Bc t h).2=0){x:BU}(e:L9 t s c8 h l=(x,0)):
  (Bc t x.jj).2=0/\Ut t s c8 x=X/\x.jj.d6=D? x.jj.bk.az.length []/\Un s l h x.jj.bk:=by
 obtain ⟨hv,hO⟩:=Du hf hh;have C:=Iz D;have he:=λr z=>S2 (C r z) F;unfold L9 at e;cases o:Hp t s c8 l 31 (FZ h) 0 with
 |inl v=>rw[o]at e;cases e
 |inr r=>
  rw [o]at e;dsimp only at e;by_cases u:r.2.1=0
  .rw[Ne u]at e;cases e;obtain⟨hi,⟨ζ,δ,Z⟩,hc⟩:=Z4 C (λx=>cc t c8 x/\x.mN.length<=30/\Un s l h x.d7) (λx i y hi E K L O _ _ Q R A ε κ η=>⟨pT hf z C he x i y hi E.1 L O Q R A ε κ η,n?,eD E.2.2⟩)
    31 _ 0 r o u (Ss hO.g) ⟨tZ hv h,l!,[],[],l!,V,V⟩ l! l!
   obtain ⟨k1,k2⟩:=o9 hf D hi δ hc ζ;exact⟨k1,k2,rfl,Z⟩
  .rw[QQ u]at e;exact absurd (congrArg Prod.snd e) u
theorem ZG(hf:Ao t)(A:∀r∈c8,DN r)(C:hasB l 2=X->hasB l 1=X/\hasB l 3=X){h:AH}(e:(Ig t s c8 h l).2=0):(C9 t s c8=0/\(Bc t h).2=0/\If s h.bk l=T)/\
  (Bc t (Ig t s c8 h l).1.jj).2=0/\Ut t s c8 (Ig t s c8 h l).1=X/\(Ig t s c8 h l).1.jj.d6=D? (Ig t s c8 h l).1.jj.bk.az.length []/\Un s l h (Ig t s c8 h l).1.jj.bk:=by
 by_cases o:C9 t s c8=0
 .by_cases u:(Bc t h).2=0
  .by_cases z:If s h.bk l=X
   .unfold Ig at e;rw[QQ j_,QQ g!,Ne z]at e;cases e
   .have D:Ig t s c8 h l=L9 t s c8 h l:=by
     unfold Ig;rw[QQ j_,QQ g!,QQ z]
    rw [D]at e|-;exact⟨⟨o,u,n!⟩,nP hf A C o u (Prod.ext rfl e)⟩
  .unfold Ig at e;rw[QQ j_,Ne u]at e;exact absurd e u
 .unfold Ig at e;rw[Ne o]at e;exact absurd e o
theorem UB(u:NC t s):(∀n:Int,0<=n->n<t.az.length->hasB [1,2,3] (AA s.az n)=X)/\∀n:Int,0<=n->n<t.bi.length->hasB [1,2,3] (AA s.bi n)=X:=by
 have key:∀n:Int,0<=n->n<t.az.length->hasB [1,2,3] (AA s.az n)=X:=λn e o=>by
  have:=(u.node n e o).1;unfold Ln at this;simp only[gR,o4]at this;rw[Ag];simp only[w_,E',or_false];omega
 refine ⟨key,λn e o=>?_⟩;have he:=u.ok.ends e o;rw[<-(u.edge _ e o).1];exact key _ he.1.1 he.1.2
theorem mJ(hf:Ao t)(e:C9 t s c8=0){h:AH}(hh:(Bc t h).2=0):h.d6=D? h.bk.az.length []:=by
 obtain ⟨_,hO⟩:=Du hf hh;refine List.eq_replicate_iff.2 ⟨hO.len,λv hv=>?_⟩;obtain⟨i,o,u,rfl⟩:=Ay hv;have:=hO.row i o (by have:=hO.len;omega);rw[U5 e]at this;exact A! this
end
end Go.Sf.Sc
namespace Go.Sf
end Go.Sf
namespace Go.Sf.Sc
open Go Go.Sf
section
variable{t:AC}{s:Ak}{c8:List d4}
end
end Go.Sf.Sc
namespace Go.Sf.Sc
open Go Go.Sf
section
variable{t:AC}{s:Ak}{c8:List d4}
variable{g:bk}
theorem qA(h:Sorted s g)(e:Int):Nd s g e=Y (CZ s g e):=by
 have:=h.ok.cE;have:=h.ok.c9;unfold Nd CZ;rw[BQ (λi=>BN.mk (FT (SD s g e) i) []) U o?,bs,BQ (λi=>BN.mk (FT (SD s g e) g.az.length) (FT (Td s g e) i)) U o?]
 .rfl
 .intro i u z;have A:=h.edge _ (AG u z);have C:=G5 (Td s g e) i;rw[AD u z,bs,AD A.1 A.2,bs,SP _ u];unfold Td at C|-;by_cases o:AA s.bi (AA g.bi i).em=e
  .rw[Ne b?,Ne b?,AS a?];rfl
  .rw[QQ b?,QQ b?,C!]
 .intro i u z;have A:=h.node _ (AG u z);have C:=G5 (SD s g e) i;rw[AD u z,bs,AD A.1 A.2,bs,SP _ u];unfold SD at C|-;by_cases o:AA s.az (AA g.az i)=e
  .rw[Ne b?,Ne b?,AS a?];rfl
  .rw[QQ b?,QQ b?,C!]
end
end Go.Sf.Sc
namespace Go.Sf.Sc
open Go Go.Sf
theorem cg:∀(n:Nat)(f:AL)(y:Fp),f.c9.length+n=y.length->f.c9=y.take f.c9.length->(∀i:Int,(f.c9.length:Int)<=i->i<y.length->(0<=AA y i/\AA y i<f.g.bi.length)/\QK {f with c9:=y.take i.toNat} (AA y i)=X)->bn.mk f.cE y∈Do n f
 |0,f,y,C,he,_=>by
  have e:f.c9=y:=he.trans (by rw[show f.c9.length=y.length by omega,B?]);rw[Do,e];exact D!.2 rfl
 |n+1,f,y,C,he,h=>by
  obtain ⟨A,u⟩:=h f.c9.length U U;rw[I?,<-he]at u;rw[Do,G_];refine⟨AA y f.c9.length,Bs.2 A,?_⟩;rw[Ne u];have e:f.c9++[AA y f.c9.length]=y.take (f.c9.length+1):=by
   have:=CU (l:=y) (i:=(f.c9.length:Int)) U U;rw[show((f.c9.length:Int)+1).toNat=f.c9.length+1 by omega,I?,<-he]at this;exact this.symm
  have el:(f.c9++[AA y f.c9.length]).length=f.c9.length+1:=V
  exact cg n {f with c9:=f.c9++[AA y f.c9.length]} y (by show(f.c9++[_]).length+n=_;omega) (by show f.c9++[_]=y.take (f.c9++[_]).length;rw[el,e]) λi o z=>h i (by have o:((f.c9++[AA y f.c9.length]).length:Int)<=i:=o;omega) z
theorem cp:∀(n:Nat)(f:AL)(y:bn),f.cE.length+n=y.az.length->f.cE=y.az.take f.cE.length->(∀i:Int,(f.cE.length:Int)<=i->i<y.az.length->(0<=AA y.az i/\AA y.az i<f.g.az.length)/\QM {f with cE:=y.az.take i.toNat} (AA y.az i)=X)->y∈Do f.p.bi.length {f with cE:=y.az}->y∈Ei n f
 |0,f,y,D,he,_,o=>by
  have e:f.cE=y.az:=he.trans (by rw[show f.cE.length=y.az.length by omega,B?]);rw[<-e]at o;exact o
 |n+1,f,y,D,he,h,o=>by
  obtain ⟨C,z⟩:=h f.cE.length U U;rw[I?,<-he]at z;rw[Ei,G_];refine⟨AA y.az f.cE.length,Bs.2 C,?_⟩;rw[Ne z];have e:f.cE++[AA y.az f.cE.length]=y.az.take (f.cE.length+1):=by
   have:=CU (l:=y.az) (i:=(f.cE.length:Int)) U U;rw[show((f.cE.length:Int)+1).toNat=f.cE.length+1 by omega,I?,<-he]at this;exact this.symm
  have el:(f.cE++[AA y.az f.cE.length]).length=f.cE.length+1:=V
  exact cp n {f with cE:=f.cE++[AA y.az f.cE.length]} y (by show(f.cE++[_]).length+n=_;omega) (by show f.cE++[_]=y.az.take (f.cE++[_]).length;rw[el,e]) (λi u A=>h i (by have u:((f.cE++[AA y.az f.cE.length]).length:Int)<=i:=u;omega) A) o
theorem df{l:Fp}(o:l.Nodup){i:Int}(z:0<=i)(A:i<l.length):((l.take i.toNat).any λx=>decide (AA l i=x))=T:=by
 rw [x_];intro x C e;obtain⟨j,u,F,rfl⟩:=Ay C;rw[aN]at F;have D:AA (l.take i.toNat) j=AA l j:=OO u U;have:=of_decide_eq_true e;rw[D]at this;have E:=Cz o z A;have K:=Cz o u U;rw[this]at E;omega
variable{p g:bk}
theorem tC{t:AC}{y:bn}(h:(EB t p g X).2=0)(o:Eu p g y):y∈(EB t p g X).1:=by
 by_cases z:Ds t p g=0
 .obtain⟨hv,O,Q,tp,R⟩:=Ji z;have K:=o.nl;have L:=o.el;have key:y∈Ei p.az.length (FF t p g (JT p) X):=by
   rw [<-cu];refine cp _ (F0 t p g X) y (by show 0+_=_;omega) rfl (λi e C=>?_) ?_
   .have e:(0:Int)<=i:=e;obtain⟨E,F⟩:=o.node i e U;refine⟨E,?_⟩;have D:(y.az.take i.toNat).length=i.toNat:=i_
    have u:=tp _ (AG (l:=p.az) e U);have hi:((i.toNat:Nat):Int)=i:=U
    unfold QM;show((decide ((-1:Int)<0)||_)&&AA (AA (IB t) (AA p.az ((y.az.take i.toNat).length:Int))) (AA g.az (AA y.az i))&&!(X&&(y.az.take i.toNat).any λx=>decide (AA y.az i=x)))=X;rw[df o.nnd e C,D,hi,F];have:AA (AA (IB t) (AA p.az i)) (AA p.az i)=isB t (AA p.az i) (AA p.az i):=by
     unfold IB;rw[FH _ u.1 u.2];unfold N3;rw[FH _ u.1 u.2]
    rw [this,Xs u.1];rfl
   .refine cg _ {F0 t p g X with cE:=y.az} y.bi (by show 0+p.bi.length=_;omega) rfl λi e C=>?_;have e:(0:Int)<=i:=e;obtain⟨E,F⟩:=o.edge i e U;refine⟨E,?_⟩;have D:(y.bi.take i.toNat).length=i.toNat:=i_
    have hi:((i.toNat:Nat):Int)=i:=U
    unfold QK J4;show((decide ((-1:Int)<0)||_)&&decide (AA g.bi (AA y.bi i)=⟨(AA p.bi ((y.bi.take i.toNat).length:Int)).em,AA y.az (AA p.bi ((y.bi.take i.toNat).length:Int)).fb,AA y.az (AA p.bi ((y.bi.take i.toNat).length:Int)).To⟩)&&!(X&&(y.bi.take i.toNat).any λx=>decide (AA y.bi i=x)))=X;rw[df o.AaZ e C,D,hi,F];simp
  unfold EB at h|-;rw[QQ (by simp[z])]at h|-;by_cases A:5000<(Gl t p g (JT p) X).length
  .rw[Ne A]at h;cases h
  .rw[QQ A];show y∈Gl t p g (JT p) X;unfold Gl at A|-;rw[aN]at A;rw[List.take_of_length_le U];exact key
 .unfold EB at h;rw[Ne z]at h;exact absurd h z
end Go.Sf.Sc
namespace Go.Sf.Sc
open Go Go.Sf
structure Hy(I J S M:Fp)(gB gh n:Nat)(φ:Int->Int)(P:Int->Prop):Prop where
 il:I.length=gB
 ind:I.Nodup
 ml:M.length=J.length
 mnd:M.Nodup
 AbN:∀k∈M,0<=k/\k<gB
 jnd:J.Nodup
 sel:∀v,v∈S↔((0<=v/\v<n)/\v∉J/\P (DV J M gB v))
 snd:S.Nodup
 inj:∀a b,P a->P b->φ a=φ b->a=b
 low:∀b,P b->0<=φ b/\φ b<gh
 old:∀b:Int,0<=b->b<gB->(P b->AA I b=φ b)/\(¬P b->(gh:Int)<=AA I b)
def yX(I J S M:Fp)(gB:Nat)(φ:Int->Int):Fp:=M.map (AA I)++S.map λv=>φ (DV J M gB v)
section
variable{I J S M:Fp}{gB gx gh n:Nat}{φ:Int->Int}{P:Int->Prop}
variable{v:Int}
theorem Ra(hv:v∉J):DV J M gB v=(gB:Int)+((AJ J v).length:Int):=by rw[OG,QQ hv]
variable{w:Int}
theorem qE(o:0<=v/\v<n)(w0:0<=w/\w<n)(hv:v∉J)(u:w∉J)(e:DV J M gB v=DV J M gB w):v=w:=by
 rw [Ra hv,Ra u]at e;rw[<-(Im o.1 o.2 hv).1,<-(Im w0.1 w0.2 u).1,show((AJ J v).length:Int)=(AJ J w).length by omega]
theorem Hy.fresh(h:Hy I J S M gB gh n φ P)(hv:v∈S):φ (DV J M gB v)∉I:=by
 obtain ⟨_,C,z⟩:=(h.sel v).1 hv;intro A;obtain⟨b,D,u,e⟩:=Ay A;have u:b<gB:=by have:=h.il;omega
 obtain ⟨E,F⟩:=h.old b D u;by_cases o:P b
 .have:=h.inj _ _ z o (by rw[<-E o];exact e.symm);rw[Ra C]at this;omega
 .have:=F o;have:=h.low _ z;omega
variable{j:Int}
theorem Hy.AaX(h:Hy I J S M gB gh n φ P)(e:0<=j)(o:j<J.length):AA (yX I J S M gB φ) j=AA I (AA M j):=by
 have:=h.ml;unfold yX;rw[Er e (by rw[a6];omega),Cu e U]
theorem Hy.Abt(h:Hy I J S M gB gh n φ P)(e:0<=j)(o:j<S.length):AA (yX I J S M gB φ) (J.length+j)=φ (DV J M gB (AA S j)):=by
 have:=h.ml;obtain⟨k,rfl⟩:=J' e;unfold yX;rw[<-h.ml,<-a6 (f:=AA I),ND,Cu e o]
theorem Hy.len(h:Hy I J S M gB gh n φ P):(yX I J S M gB φ).length=J.length+S.length:=by
 unfold yX;rw[aE,a6,a6,h.ml]
theorem Hy.mem(h:Hy I J S M gB gh n φ P)(e:0<=j)(o:j<J.length):AA (yX I J S M gB φ) j∈I:=by
 have:=h.ml;have u:=h.AbN _ (AG e (show j<M.length by omega));rw[h.AaX e o];exact AG u.1 (by have:=h.il;omega)
theorem Hy.nd(h:Hy I J S M gB gh n φ P):(yX I J S M gB φ).Nodup:=by
 unfold yX;rw[D'];refine⟨?_,?_,λa o b u e=>?_⟩
 .rw[F_,D_];refine List.Pairwise.imp_of_mem (λ{a b}o u z e=>z ?_) h.mnd;have o:=h.AbN a o;have u:=h.AbN b u;have K:=h.il;rw[<-Cz h.ind o.1 U,<-Cz h.ind u.1 U,e]
 .rw[F_,D_];refine List.Pairwise.imp_of_mem (λ{a b}o u z e=>z ?_) h.snd;obtain⟨a1,a2,C⟩:=(h.sel a).1 o;obtain⟨D,E,F⟩:=(h.sel b).1 u;exact qE a1 D a2 E (h.inj _ _ C F e)
 .obtain⟨k,A,rfl⟩:=x?.1 o;obtain⟨v,hv,rfl⟩:=x?.1 u;have A:=h.AbN k A;exact h.fresh hv (e▸AG A.1 (by have:=h.il;omega))
theorem Hy.fit(h:Hy I J S M gB gh n φ P):Hl I (yX I J S M gB φ) J.length=X:=by
 unfold Hl;rw[G!,BV];intro j u z;rw[h.len]at z;by_cases A:j<J.length
 .rw[Ag.2 (h.mem u A),decide_eq_false U];rfl
 .have e:=h.Abt (j:=j-J.length) U U;rw[show(J.length:Int)+(j-J.length)=j by omega]at e;have o:=h.fresh (AG (l:=S) (i:=j-J.length) U U);rw[<-e,<-Ag,H?]at o;rw[o,decide_eq_true U];rfl
theorem Hy.take(h:Hy I J S M gB gh n φ P):((yX I J S M gB φ).take J.length).map (A1 I)=M:=by
 unfold yX;rw[<-h.ml,<-a6 (f:=AA I),List.take_left,List.map_map];refine(B' λk e=>?_).trans (List.map_id M);have e:=h.AbN k e;exact Cz h.ind e.1 (by have:=h.il;omega)
theorem Hy.pat(h:Hy I J S M gB gh n φ P){u:Int}(D:u∈J++S)(z:P (DV J M gB u)):AA (yX I J S M gB φ) (A1 (J++S) u)=φ (DV J M gB u):=by
 by_cases o:u∈J
 .obtain⟨a,b,_,_⟩:=BP o;have A:=h.AbN _ (AG a (show _<(M.length:Int)by have:=h.ml;omega));rw[R9 o,h.AaX a b];have e:DV J M gB u=AA M (A1 J u):=by rw[OG,Ne o]
  rw [e]at z|-;exact(h.old _ A.1 A.2).1 z
 .have C:=(x!.1 D).resolve_left o;obtain⟨a,b,c,_⟩:=BP C;rw[Mn o C,h.Abt a b,c]
variable{b:Int}
theorem Hy.next(h:Hy I J S M gB gh n φ P)(A:0<=b)(Q:b<gB+(AJ J n).length)(o:P b):AA (I++(AJ J n).map (DV (J++S) (yX I J S M gB φ) gx)) b=φ b:=by
 have E:=h.il;by_cases F:b<gB
 .rw[Er A U];exact(h.old b A F).1 o
 .have hv:=AG (l:=AJ J n) (i:=b-gB) U U;obtain⟨u,z⟩:=GQ.1 hv;have e:DV J M gB (AA (AJ J n) (b-gB))=b:=by
   obtain ⟨L,O⟩:=Im u.1 u.2 z;rw[Ra z];have nd:(AJ J n).Nodup:=(X9 J n).imp (λh=>U);have K:=Cz nd (i:=((AJ J (AA (AJ J n) (b-gB))).length:Int)) U O;have R:=Cz nd (i:=b-gB) U U;rw[L]at K;omega
  have C:AA (AJ J n) (b-gB)∈S:=(h.sel _).2 ⟨u,z,by rw[e];exact o⟩;have D:=h.pat (B_ J C) (by rw[e];exact o);rw[e]at D;rw[RP U,E,Cu U U,OG,Ne (B_ J C),D]
variable{k:Int}
theorem Hy.made(h:Hy I J S M gB gh n φ P)(D:(gx:Int)<=k)(E:k<gx+(AJ (J++S) n).length):k∈I++(AJ J n).map (DV (J++S) (yX I J S M gB φ) gx):=by
 have hv:=AG (l:=AJ (J++S) n) (i:=k-gx) U U;obtain⟨e,o⟩:=GQ.1 hv;refine B_ _ (x?.2 ⟨AA (AJ (J++S) n) (k-gx),GQ.2 ⟨e,λu=>o (A? _ u)⟩,?_⟩);obtain⟨A,C⟩:=Im e.1 e.2 o;rw[OG,QQ o];have nd:(AJ (J++S) n).Nodup:=(X9 (J++S) n).imp (λh=>U);have z:=Cz nd (i:=((AJ (J++S) (AA (AJ (J++S) n) (k-gx))).length:Int)) U C;have F:=Cz nd (i:=k-gx) U U;rw[A]at z;omega
end
end Go.Sf.Sc
namespace Go.Sf.Sc
open Go Go.Sf
section
variable{t:AC}{s:Ak}{r:d4}{l:Fp}{c8:List d4}
variable{p g:bk}
theorem nv{m:bn}(h:J5 t p g m=0)(i:Int):Es p g m i=none\/¬(0<=i/\i<m.bi.length):=by
 unfold J5 at h;split at h
 .cases h
 have e:fst (Ht t p g m) 0 m.az.length=none:=by
  grind [Dx,Ht]
 rw [e]at h;have he:=QG (λi=>by
  grind [Es]) h
 by_cases k:0<=i/\i<m.bi.length
 .exact .inl (he i k.1 k.2)
 .exact .inr k
theorem ox(K:B8 t s r=0){M:bn}(h:Ez t r.ea.bk g M r.fd=0):Eu r.ea.bk g M:=by
 obtain ⟨L,O,_⟩:=Qc K;obtain⟨E,F,ok⟩:=Rv h;obtain⟨hv,_,_,_,Q⟩:=Ji E;have hi:Gz M=X:=by
  cases e:Gz M with
  |true=>rfl|false=>
   unfold Ez at h;rw[QQ (by simp[E]),QQ (by simp[F]),L.inj,e]at h;cases h
 unfold Gz at hi;rw[gR]at hi;have nl:=ok.tc;have el:=ok.wi;refine⟨nl,el,λi o A=>?_,λi o A=>?_,Gy.1 hi.1,Gy.1 hi.2⟩
 .obtain⟨u,z⟩:=ok.node i o U;have D:=Q _ (AG u.1 u.2);exact⟨u,iU (Ck hv).par O D.1 D.2 (AG o A) z⟩
 .have he:=(nv F i).resolve_right (λk=>k ⟨o,U⟩);unfold Es at he;split at he
  .cases he
  split at he
  .cases he
  split at he
  .cases he
  rename_i u z C;refine⟨U,?_⟩;rcases hE:AA g.bi (AA M.bi i)with⟨a,b,c⟩;rw[hE]at z C;dsimp only at z C;congr 1<;>omega
theorem Xw(hf:Ao t)(C:∀r∈c8,DN r)(D:∀r∈c8,B8 t s r=0){m:DC}{B u:AH}(e:EN t c8 m (zH,B)=.inl (zH,u)):
  (0<=m.d4/\m.d4<c8.length)/\Eu (AA c8 m.d4).ea.bk B.bk m.gN.bn/\u.bk=C0 (AA c8 m.d4) B.bk m.gN.bn.az/\(Bc t u).2=0:=by
 unfold EN at e;split at e
 .cases e
 rename_i L;have z:=AG (l:=c8) (i:=m.d4) U U;have o:=D _ z;split at e
 .cases e
 rename_i E;obtain⟨sk,F⟩:=cx hf (C _ z) (Rl o) (I'.1 E);dsimp only at e;rw[F]at e;injection e with e;injection e with _ e;subst e;obtain⟨_,ho,l1,_⟩:=DB o;obtain⟨K,_⟩:=Qc o;have A:=ox o sk.chk;refine⟨U,A,aK (t:=t) K ho l1 sk.f.hh.g A,?_⟩;show(Bc t (Sp t _ _ _)).2=0;rw[XG sk]
theorem Xv{m:DC}{B:AH}{w:AH×AH}(k:EN t c8 m (zH,B)=.inl w):w=(zH,w.2):=by
 unfold EN at k;split at k
 .cases k
 split at k
 .cases k
 injection k with k;subst k;rfl
theorem g7(hf:Ao t)(o:∀r∈c8,DN r)(u:∀r∈c8,B8 t s r=0):∀(ms:List DC)(B H:AH),C2 (EN t c8) ms (zH,B)=.inl (zH,H)->∃N E,H.bk=⟨B.bk.az++N,B.bk.bi++E⟩
 |[],B,H,e=>by
  cases e;exact⟨[],[],V⟩
 |m::ms,B,H,e=>by
  rw [C2]at e;cases k:EN t c8 m (zH,B)with
  |inr r=>rw[k]at e;cases e
  |inl v=>
   rw [k]at e;have hv:=Xv k;rw[hv]at k e;obtain⟨N,E,z⟩:=g7 hf o u ms v.2 H e;obtain⟨_,_,A,_⟩:=Xw hf o u k;exact⟨_,_,by rw[z,A];unfold C0;dsimp only;rw[ae,ae]⟩
end
structure Qf(s:Ak)(l:Fp)(h H:bk)(φ ψ:Int->Int):Prop where
 node:∀b:Int,(0<=b/\b<H.az.length)->hasB l (AA s.az (AA H.az b))=X->(0<=φ b/\φ b<h.az.length)/\AA h.az (φ b)=AA H.az b
 edge:∀b:Int,(0<=b/\b<H.bi.length)->hasB l (AA s.bi (AA H.bi b).em)=X->(0<=ψ b/\ψ b<h.bi.length)/\AA h.bi (ψ b)=⟨(AA H.bi b).em,φ (AA H.bi b).fb,φ (AA H.bi b).To⟩
 ends:∀b:Int,(0≤b/\b<H.bi.length) → hasB l (AA s.bi (AA H.bi b).em)=X → hasB l (AA s.az (AA H.az (AA H.bi b).fb))=X/\hasB l (AA s.az (AA H.az (AA H.bi b).To))=X
 ninj:∀a b:Int,((0<=a/\a<H.az.length)/\hasB l (AA s.az (AA H.az a))=X)->((0<=b/\b<H.az.length)/\hasB l (AA s.az (AA H.az b))=X)->φ a=φ b->a=b
 einj:∀a b:Int,((0<=a/\a<H.bi.length)/\hasB l (AA s.bi (AA H.bi a).em)=X)->((0<=b/\b<H.bi.length)/\hasB l (AA s.bi (AA H.bi b).em)=X)->ψ a=ψ b->a=b
 nsur:∀k:Int,0<=k->k<h.az.length->∃b:Int,((0<=b/\b<H.az.length)/\hasB l (AA s.az (AA H.az b))=X)/\φ b=k
 esur:∀k:Int,0<=k->k<h.bi.length->∃b:Int,((0<=b/\b<H.bi.length)/\hasB l (AA s.bi (AA H.bi b).em)=X)/\ψ b=k
structure Uo(s:Ak)(l:Fp)(h:AH)(φ ψ:Int->Int)(B:bk)(x:AI):Prop where
 st:IX x
 m:Eu B x.d7 x.l6
 oth:Un s l h x.d7
 node:∀b:Int,0<=b->b<B.az.length->hasB l (AA s.az (AA B.az b))=X->AA x.l6.az b=φ b
 edge:∀b:Int,0<=b->b<B.bi.length->hasB l (AA s.bi (AA B.bi b).em)=X->AA x.l6.bi b=ψ b
 nnew:∀k:Int,(h.bk.az.length:Int)<=k->k<x.d7.az.length->k∈x.l6.az
 enew:∀k:Int,(h.bk.bi.length:Int)<=k->k<x.d7.bi.length->k∈x.l6.bi
end Go.Sf.Sc
namespace Go.Sf.Sc
open Go Go.Sf
def PN(s:Ak)(l:Fp)(H:bk)(b:Int):Prop:=(0<=b/\b<H.az.length)/\hasB l (AA s.az (AA H.az b))=X
def PE(s:Ak)(l:Fp)(H:bk)(b:Int):Prop:=(0<=b/\b<H.bi.length)/\hasB l (AA s.bi (AA H.bi b).em)=X
def Qg(g H:bk):Prop:=∃N E,H=⟨g.az++N,g.bi++E⟩
theorem Qg.len{g H:bk}(h:Qg g H):g.az.length<=H.az.length/\g.bi.length<=H.bi.length:=by
 obtain ⟨N,E,rfl⟩:=h;simp
variable{b:Int}
theorem Qg.node{g H:bk}(h:Qg g H)(e:0<=b)(o:b<g.az.length):AA H.az b=AA g.az b:=by
 obtain ⟨N,E,rfl⟩:=h;exact Er e o
theorem Qg.edge{g H:bk}(h:Qg g H)(e:0<=b)(o:b<g.bi.length):AA H.bi b=AA g.bi b:=by
 obtain ⟨N,E,rfl⟩:=h;exact Er e o
variable{g:bk}
theorem Un.pre{s:Ak}{l:Fp}{h:AH}(o:Un s l h g):Qg h.bk g:=by
 obtain ⟨N,E,e,_⟩:=o;exact⟨N,E,e⟩
theorem Ri(q:Int->Bool)(n:Nat):(FT q n).Nodup:=(Ro n).filter _
section
variable{t:AC}{s:Ak}{r:d4}{l:Fp}{h:AH}{φ ψ:Int->Int}{B H:bk}{x:AI}{M:bn}{i:Int}
variable{v:Int}
theorem QO(u:B8 t s r=0)(z:Eu r.ea.bk B M)(A:0<=v)(C:v<r.ci.bk.az.length):(0<=DV r.ed.az M.az B.az.length v/\DV r.ed.az M.az B.az.length v<(C0 r B M.az).az.length)/\AA (C0 r B M.az).az (DV r.ed.az M.az B.az.length v)=AA r.ci.bk.az v:=by
 obtain ⟨_,ho,l1,_⟩:=DB u;have D:(C0 r B M.az).az.length=B.az.length+(AJ r.ed.az r.ci.bk.az.length).length:=by simp[C0]
 rw [OG,D];by_cases hv:v∈r.ed.az
 .obtain⟨a,b,c,_⟩:=BP hv;obtain⟨e,o⟩:=z.node _ a U;rw[Ne hv];refine⟨U,?_⟩;rw[show AA (C0 r B M.az).az _=_ from Er e.1 e.2,o,<-(aq u a b).1,c]
 .obtain⟨e,o⟩:=Im A C hv;rw[QQ hv];refine⟨U,?_⟩;rw[show AA (C0 r B M.az).az _=_ from ND,Cu U o,e]
variable{w:Int}
theorem VQ(w0:0<=w)(o:w<r.ci.bk.bi.length)(e:w∉r.ed.bi):(0<=DV r.ed.bi M.bi B.bi.length w/\DV r.ed.bi M.bi B.bi.length w<(C0 r B M.az).bi.length)/\AA (C0 r B M.az).bi (DV r.ed.bi M.bi B.bi.length w)=Mg r r.ed.az M.az B.az.length w:=by
 have u:(C0 r B M.az).bi.length=B.bi.length+(AJ r.ed.bi r.ci.bk.bi.length).length:=by simp[C0]
 obtain ⟨z,A⟩:=Im w0 o e;rw[Ra e,u];refine⟨U,?_⟩;rw[show AA (C0 r B M.az).bi _=_ from ND,Cu U A,z]
theorem Xo(K:B8 t s r=0)(u:Eu r.ea.bk B M)(z:Uo s l h φ ψ B x)(R:Qf s l h.bk H φ ψ)(F:Qg (C0 r B M.az) H)(ho:If s h.bk l=T):
  Hy x.l6.az r.ed.az (DX s r l) M.az B.az.length h.bk.az.length r.ci.bk.az.length φ (PN s l H):=by
 obtain ⟨_,hO,l1,_⟩:=DB K;have δ:(C0 r B M.az).az.length=B.az.length+(AJ r.ed.az r.ci.bk.az.length).length:=by simp[C0]
 have Z:=F.len.1;refine⟨z.m.nl,z.m.nnd,u.nl.trans l1.symm,u.nnd,λk κ=>?_,hO.inj.1,λv=>?_,Ri _ _,λa b=>R.ninj a b,λb ε=>(R.node b ε.1 ε.2).1,λb A L=>?_⟩
 .obtain⟨j,ζ,j1,rfl⟩:=Ay κ;exact(u.node j ζ (by have:=u.nl;omega)).1
 .unfold DX;rw[Br];unfold Ok PN;rw[gR,G!,<-H?,Ag];constructor
  .rintro⟨⟨D,E⟩,hv,Q⟩;obtain⟨o,C⟩:=QO K u D E;refine⟨⟨D,E⟩,hv,⟨o.1,U⟩,?_⟩;rw[F.node o.1 o.2,C];exact Q
  .rintro⟨⟨D,E⟩,hv,_,Q⟩;obtain⟨o,C⟩:=QO K u D E;refine⟨⟨D,E⟩,hv,?_⟩
   rwa [F.node o.1 o.2,C]at Q
 .have e:AA H.az b=AA B.az b:=by
   rw [F.node A U];exact Er A L
  refine ⟨λO=>?_,λO=>?_⟩
  .refine z.node b A L ?_;rw[<-e];exact O.2
  .obtain⟨o,C⟩:=z.m.node b A L;refine I! λη=>O ⟨⟨A,U⟩,?_⟩;unfold If at ho;rw[G?,x_,x_]at ho;have:=ho.1 _ (AG o.1 (show AA x.l6.az b<h.bk.az.length by omega));rw[<-z.oth.pre.node o.1 U,C]at this;rw[e];simpa using this
theorem Xn(ε:B8 t s r=0)(E:Eu r.ea.bk B M)(u:Uo s l h φ ψ B x)(Q:Qf s l h.bk H φ ψ)(F:Qg (C0 r B M.az) H)(ho:If s h.bk l=T):
  Hy x.l6.bi r.ed.bi (EH s r l) M.bi B.bi.length h.bk.bi.length r.ci.bk.bi.length ψ (PE s l H):=by
 obtain ⟨_,hO,_,l2⟩:=DB ε;have δ:(C0 r B M.az).bi.length=B.bi.length+(AJ r.ed.bi r.ci.bk.bi.length).length:=by simp[C0]
 have Z:=F.len.2;refine⟨u.m.el,u.m.AaZ,E.el.trans l2.symm,E.AaZ,λk κ=>?_,hO.inj.2,λv=>?_,Ri _ _,λa b=>Q.einj a b,λb R=>(Q.edge b R.1 R.2).1,λb z K=>?_⟩
 .obtain⟨j,ζ,j1,rfl⟩:=Ay κ;exact(E.edge j ζ (by have:=E.el;omega)).1
 .unfold EH;rw[Br];unfold Oj PE;rw[gR,G!,<-H?,Ag];constructor
  .rintro⟨⟨C,D⟩,hv,O⟩;obtain⟨o,A⟩:=VQ (B:=B) (M:=M) C D hv;refine⟨⟨C,D⟩,hv,⟨o.1,U⟩,?_⟩;rw[F.edge o.1 o.2,A];exact O
  .rintro⟨⟨C,D⟩,hv,_,O⟩;obtain⟨o,A⟩:=VQ (B:=B) (M:=M) C D hv;refine⟨⟨C,D⟩,hv,?_⟩
   rwa [F.edge o.1 o.2,A]at O
 .have e:AA H.bi b=AA B.bi b:=by
   rw [F.edge z U];exact Er z K
  refine ⟨λL=>?_,λL=>?_⟩
  .refine u.edge b z K ?_;rw[<-e];exact L.2
  .obtain⟨o,A⟩:=u.m.edge b z K;refine I! λη=>L ⟨⟨z,U⟩,?_⟩;unfold If at ho;rw[G?,x_,x_]at ho;have:=ho.2 _ (AG o.1 (show AA x.l6.bi b<h.bk.bi.length by omega));rw[<-u.oth.pre.edge o.1 U,A]at this;rw[e];simpa using this
def yS(s:Ak)(l:Fp)(r:d4)(B:bk)(x:AI)(M:bn)(φ ψ:Int->Int):bn:=
 ⟨yX x.l6.az r.ed.az (DX s r l) M.az B.az.length φ,yX x.l6.bi r.ed.bi (EH s r l) M.bi B.bi.length ψ⟩
theorem ZS(F:B8 t s r=0)(he:Ma s r l)(hg:BW B)(A:Eu r.ea.bk B M)(K:Uo s l h φ ψ B x)(L:Qf s l h.bk H φ ψ)(O:Qg (C0 r B M.az) H)(ho:If s h.bk l=T):Eu (Bh s r l) x.d7 (yS s l r B x M φ ψ):=by
 obtain ⟨_,hO,l1,l2⟩:=DB F;have gn:=Xo F A K L O ho;have ge:=Xn F A K L O ho;have ml:(Bh s r l).az.length=r.ed.az.length+(DX s r l).length:=by simp[Bh,l1]
 have me:(Bh s r l).bi.length=r.ed.bi.length+(EH s r l).length:=by simp[Bh,l2]
 have e:=K.oth.pre;have hle:=e.len;refine⟨gn.len.trans ml.symm,ge.len.trans me.symm,λi u i1=>?_,λi u i1=>?_,gn.nd,ge.nd⟩
 .by_cases hi:i<r.ed.az.length
  .obtain⟨o,z⟩:=A.node i u U;obtain⟨R,ε⟩:=K.m.node _ o.1 o.2;rw[show AA (yS s l r B x M φ ψ).az i=_ from gn.AaX u hi,ε,z,VD u U];exact⟨R,rfl⟩
  .obtain⟨j,κ⟩:∃j:Int,i=r.ed.az.length+j:=⟨i-r.ed.az.length,U⟩;have C:j<(DX s r l).length:=U
   obtain ⟨D,δ,E⟩:=(gn.sel _).1 (AG (show 0<=j by omega) C);obtain⟨o,z⟩:=L.node _ E.1 E.2;obtain⟨Q,η⟩:=QO F A D.1 D.2;rw[κ,show AA (yS s l r B x M φ ψ).az _=_ from gn.Abt U C,e.node o.1 o.2,z,O.node Q.1 Q.2,η,l1,Yz U C];exact⟨U,rfl⟩
 .by_cases hi:i<r.ed.bi.length
  .obtain⟨o,z⟩:=A.edge i u U;obtain⟨R,ε⟩:=K.m.edge _ o.1 o.2;have hf:=(hO.left.fit _ (AG u (show i<(r.ea.bk.bi.length:Int)by omega))).2;rw[show AA (yS s l r B x M φ ψ).bi i=_ from ge.AaX u hi,ε,z,Yy u U,show AA (yS s l r B x M φ ψ).az _=_ from gn.AaX hf.1.1 U,show AA (yS s l r B x M φ ψ).az _=_ from gn.AaX hf.2.1 U];exact⟨R,rfl⟩
  .obtain⟨j,κ⟩:∃j:Int,i=r.ed.bi.length+j:=⟨i-r.ed.bi.length,U⟩;have C:j<(EH s r l).length:=U
   have ζ:=AG (l:=EH s r l) (show 0<=j by omega) C;obtain⟨D,δ,E⟩:=(ge.sel _).1 ζ;obtain⟨o,z⟩:=L.edge _ E.1 E.2;obtain⟨Z,n2⟩:=L.ends _ E.1 E.2;obtain⟨Q,η⟩:=VQ (B:=B) (M:=M) D.1 D.2 δ;obtain⟨e1,e2⟩:=he _ ζ;have hf:=(hO.right.fit _ (AG D.1 D.2)).2;obtain⟨a1,_⟩:=QO F A hf.1.1 hf.1.2;obtain⟨b1,_⟩:=QO F A hf.2.1 hf.2.2;have eH:=(O.edge Q.1 Q.2).trans η;rw[eH]at z Z n2;have hl:=O.len.1;rw[κ,show AA (yS s l r B x M φ ψ).bi _=_ from ge.Abt U C,e.edge o.1 o.2,z,l2,XN U C];refine⟨U,?_⟩;unfold Wi Mg At;dsimp only;rw[show AA (yS s l r B x M φ ψ).az _=_ from gn.pat e1 ⟨⟨a1.1,U⟩,Z⟩,show AA (yS s l r B x M φ ψ).az _=_ from gn.pat e2 ⟨⟨b1.1,U⟩,n2⟩]
variable{k:Int}
theorem UC(z:B8 t s r=0)(he:Ma s r l)(O:BW B)(C:Eu r.ea.bk B M)(e:Uo s l h φ ψ B x)(D:Qf s l h.bk H φ ψ)(u:Qg (C0 r B M.az) H)(ho:If s h.bk l=T)
  (ε:Jh x.l6.az r.ed.az (At s r l) (yS s l r B x M φ ψ).az x.d7.az.length)(κ:Jh x.l6.bi r.ed.bi (Bx s r l) (yS s l r B x M φ ψ).bi x.d7.bi.length)(Q:IX (CR x k s r l (yS s l r B x M φ ψ))):
  Uo s l h φ ψ (C0 r B M.az) (CR x k s r l (yS s l r B x M φ ψ)):=by
 obtain ⟨_,hO,l1,l2⟩:=DB z;have gn:=Xo z C e D u ho;have ge:=Xn z C e D u ho;have η:=ZS z he O C e D u ho;have ζ:Hl x.l6.az (yS s l r B x M φ ψ).az r.ea.bk.az.length=X:=by rw[<-l1];exact gn.fit
 have δ:(Kh x r (yS s l r B x M φ ψ)).az=M.az:=by
  show (((yS s l r B x M φ ψ).az.take r.ea.bk.az.length).map (A1 x.l6.az))=_;rw[<-l1];exact gn.take
 have R:=ba (i:=k) z he e.st O e.m η ε κ ζ Q;rw[δ]at R;have pn:(C0 r B M.az).az.length=B.az.length+(AJ r.ed.az r.ci.bk.az.length).length:=by simp[C0]
 have pe:(C0 r B M.az).bi.length=B.bi.length+(AJ r.ed.bi r.ci.bk.bi.length).length:=by simp[C0]
 have hl:=u.len;have Z:(CR x k s r l (yS s l r B x M φ ψ)).d7.az.length=x.d7.az.length+(AJ (At s r l) r.ci.bk.az.length).length:=by simp[CR]
 have be:(CR x k s r l (yS s l r B x M φ ψ)).d7.bi.length=x.d7.bi.length+(AJ (Bx s r l) r.ci.bk.bi.length).length:=by simp[CR]
 refine ⟨Q,R,eD e.oth,λb o E F=>?_,λb o E F=>?_,λj K A=>?_,λj K A=>?_⟩
 .exact gn.next o U ⟨⟨o,U⟩,by rw[u.node o E];exact F⟩
 .exact ge.next o U ⟨⟨o,U⟩,by rw[u.edge o E];exact F⟩
 .by_cases L:j<x.d7.az.length
  .exact A? _ (e.nnew j K L)
  .exact gn.made U (by rw[Z]at A;exact_mod_cast A)
 .by_cases L:j<x.d7.bi.length
  .exact A? _ (e.enew j K L)
  .exact ge.made U (by rw[be]at A;exact_mod_cast A)
end
end Go.Sf.Sc
namespace Go.Sf
variable{α σ ρ:Type}
theorem Uz{g:α->σ->σ ⊕ ρ}:∀{l:List α}{s s':σ},C2 g l s=.inl s'->∀x∈l,∃a b,g x a=.inl b
 |[],_,_,_,x,o=>by cases o
 |y::l,s,s',h,x,o=>by
  rw [C2]at h;cases e:g y s with
  |inr r=>rw[e]at h;cases h
  |inl v=>
   rw [e]at h;rcases w_.1 o with rfl|o
   .exact⟨s,v,e⟩
   .exact Uz (l:=l) h x o
end Go.Sf
namespace Go.Sf.Sc
open Go Go.Sf
section
variable{t:AC}{s:Ak}{c8:List d4}{l:Fp}
def RJ(s:Ak)(l:Fp)(c8:List d4)(m:DC):Prop:=((DX s (AA c8 m.d4) l).length:Int)+((EH s (AA c8 m.d4) l).length:Int)≠0
theorem uh{h H:AH}{φ ψ:Int->Int}{x:AI}(E:Qf s l h.bk H.bk φ ψ)(e:Uo s l h φ ψ H.bk x):PQ x=X:=by
 unfold PQ TQ;rw[gR,F?,F?];refine⟨λk u=>?_,λk u=>?_⟩
 .obtain⟨z,A⟩:=Bs.1 u;rw[Ag];by_cases hh:k<h.bk.az.length
  .obtain⟨b,⟨⟨o,C⟩,D⟩,rfl⟩:=E.nsur k z hh;rw[<-e.node b o C D];exact AG o (by have:=e.m.nl;omega)
  .exact e.nnew k U A
 .obtain⟨z,A⟩:=Bs.1 u;rw[Ag];by_cases hh:k<h.bk.bi.length
  .obtain⟨b,⟨⟨o,C⟩,D⟩,rfl⟩:=E.esur k z hh;rw[<-e.edge b o C D];exact AG o (by have:=e.m.el;omega)
  .exact e.enew k U A
theorem fh(hf:Ao t)(ε:∀r∈c8,DN r)(O:∀r∈c8,B8 t s r=0)(he:∀r∈c8,Ma s r l){h H:AH}{φ ψ:Int->Int}(z:Qf s l h.bk H.bk φ ψ)(ho:If s h.bk l=T):
  ∀(ms:List DC)(B:AH)(x:AI)(n:Nat)(v κ:Int),C2 (EN t c8) ms (zH,B)=.inl (zH,H)->(∀m∈ms,RJ s l c8 m)->(Bc t B).2=0->Uo s l h φ ψ B.bk x->x.mN.length+n=31->x.mN.length+ms.length<=30->Hp t s c8 l n x v≠.inl κ
 |[],B,x,n,v,κ,e,_,_,u,hn,C=>by
  obtain ⟨n,rfl⟩:∃k,n=k+1:=⟨n-1,by simp at C;omega⟩;cases e;intro hv;rw[Hp]at hv;split at hv
  .cases hv
  rw [Ne (uh z u)]at hv;cases hv
 |m::ms,B,x,n,v,κ,e,L,hB,u,hn,C=>by
  rw [a5]at C;obtain⟨n,rfl⟩:∃k,n=k+1:=⟨n-1,U⟩;intro hv;rw[Hp]at hv;split at hv
  .cases hv
  split at hv
  .cases hv
  split at hv
  .cases hv
  rw [C2]at e;cases k:EN t c8 m (zH,B)with
  |inr r=>rw[k]at e;cases e
  |inl w=>
   rw [k]at e;have hw:=Xv k;rw[hw]at k e;obtain⟨hi,R,Z,hV⟩:=Xw hf ε O k;have D:=AG hi.1 hi.2;have o:=O _ D;have E:=he _ D;obtain⟨_,hO⟩:=Du hf hB;have Q:Qg (C0 (AA c8 m.d4) B.bk m.gN.bn.az) H.bk:=by
    rw [<-Z];exact g7 hf ε O ms w.2 H e
   obtain ⟨a,b,K⟩:=Uz hv m.d4 (Bs.2 hi);unfold Rg at K;rw[QQ (L m (.head _))]at K;split at K
   .cases K
   rename_i h5;have hC:=ZS o E hO.g R u z Q ho;have δ:=tC (I'.1 h5) hC;obtain⟨_,_,y3,y4⟩:=T3 (l:=l) o u.st δ;obtain⟨j,j0,j1,ej⟩:=Ay δ;obtain⟨a2,b2,A⟩:=Uz K j (Bs.2 ⟨j0,j1⟩);rw[ej]at A;obtain⟨_,_,l1,l2⟩:=DB o;have η:Hl x.l6.az (yS s l (AA c8 m.d4) B.bk x m.gN.bn φ ψ).az (AA c8 m.d4).ea.bk.az.length=X:=by
    rw [<-l1];exact(Xo o R u z Q ho).fit
   have ζ:Hl x.l6.bi (yS s l (AA c8 m.d4) B.bk x m.gN.bn φ ψ).bi (AA c8 m.d4).ea.bk.bi.length=X:=by
    rw [<-l2];exact(Xn o R u z Q ho).fit
   unfold UL at A;rw[η,ζ,QQ a_]at A;split at A
   .cases A
   have hb:=YX (rule:=m.d4) u.st U (y3 η) (y4 ζ) U U;have F:=UC (k:=m.d4) o E hO.g R u z Q ho (y3 η) (y4 ζ) hb;rw[<-Z]at F;exact fh hf ε O he z ho ms w.2 _ n a2 b2 e (λm C=>L m (w! _ C)) hV F n? n? A
theorem ug{h:AH}(z:BW h.bk){φ ψ:Int->Int}:Uo s l h φ ψ zH.bk (FZ h):=
 ⟨Ss z,⟨rfl,rfl,λi o e=>k!,λi o e=>k!,E_,E_⟩,⟨[],[],l!,V,V⟩,λi o e=>k!,λi o e=>k!,λk A u=>by simp[FZ]at u;omega,λk A u=>by simp[FZ]at u;omega⟩
end
end Go.Sf.Sc
namespace Go.Sf.Sc
open Go Go.Sf
def Wb(t:AC)(g:bk):Prop:=BW g/\CW t g=X
section
variable{t:AC}{s:Ak}{c8:List d4}{l:Fp}{r:d4}
variable{g:bk}
theorem fg(o:∀n∈g.az,n<t.az.length)(u:∀e∈g.bi,e.em<t.bi.length):CW t g=X:=by
 unfold CW;rw[gR,G!,G!,x_,x_];exact⟨λn z=>by have:=o n z;rw[o4];omega,λe he=>by have:=u e he;rw[o4];omega⟩
theorem oS(A:B8 t s r=0):(At s r l).length<=r.ci.bk.az.length/\(Bx s r l).length<=r.ci.bk.bi.length:=by
 obtain ⟨_,ho,_,_⟩:=DB A;have key:∀{J:Fp}{q:Int->Bool}{n:Nat},J.Nodup->(∀v∈J,0<=v/\v<n)->(∀v,q v=X->v∉J)->(J++FT q n).length<=n:=λ{J q n}C D E=>by
  refine Jj ?_ λv hv=>?_
  .rw[D'];refine⟨C,Ri _ _,λa F b K e=>?_⟩;exact E b (Br.1 K).2 (e▸F)
  .rcases x!.1 hv with h|h
   .exact D v h
   .exact(Br.1 h).1
 constructor
 .refine key ho.inj.1 (λv hv=>?_) λv hv o=>?_
  .obtain⟨j,u,z,rfl⟩:=Ay hv;exact(ho.mor.node j u z).1
  .unfold Ok at hv;rw[Ag.2 o]at hv;cases hv
 .refine key ho.inj.2 (λv hv=>?_) λv hv o=>?_
  .obtain⟨j,u,z,rfl⟩:=Ay hv;exact(ho.mor.edge j u z).1
  .unfold Oj at hv;rw[Ag.2 o]at hv;cases hv
theorem mb(z:B8 t s r=0)(he:Ma s r l):Wb t (Bh s r l):=by
 obtain ⟨_,ho,l1,l2⟩:=DB z;obtain⟨K,L⟩:=oS (l:=l) z;have ml:(Bh s r l).az.length=(At s r l).length:=by simp[Bh,At,l1]
 have D:(Bh s r l).bi.length=(Bx s r l).length:=by simp[Bh,Bx,l2]
 have E:=ho.right.cE;have F:=ho.right.c9;have A:=Cw ho.left ho.ltyped;have C:=Cw ho.right ho.Aam;have hi:∀v∈At s r l,0<=A1 (At s r l) v/\A1 (At s r l) v<(Bh s r l).az.length:=λv hv=>by
  obtain ⟨a,b,_,_⟩:=BP hv;exact⟨a,U⟩
 refine ⟨⟨U,U,λn o=>?_,λe u=>?_⟩,fg (λn o=>?_) λe u=>?_⟩
 .rcases x!.1 o with o|o
  .exact ho.left.kind n o
  .obtain⟨v,hv,rfl⟩:=x?.1 o;exact ho.right.kind _ (AG (Br.1 hv).1.1 (Br.1 hv).1.2)
 .rcases x!.1 u with u|u
  .have hf:=ho.left.fit e u;have:(Bh s r l).az.length=r.ea.bk.az.length+(DX s r l).length:=by simp[Bh]
   omega
  .obtain⟨v,hv,rfl⟩:=x?.1 u;exact⟨(ho.right.fit _ (AG (Br.1 hv).1.1 (Br.1 hv).1.2)).1,hi _ (he v hv).1,hi _ (he v hv).2⟩
 .rcases x!.1 o with o|o
  .exact(A.1 n o).2
  .obtain⟨v,hv,rfl⟩:=x?.1 o;exact(C.1 _ (AG (Br.1 hv).1.1 (Br.1 hv).1.2)).2
 .rcases x!.1 u with u|u
  .exact(A.2 e u).2
  .obtain⟨v,hv,rfl⟩:=x?.1 u;exact(C.2 _ (AG (Br.1 hv).1.1 (Br.1 hv).1.2)).2
theorem ou{x:AI}{i:Int}{y:bn}(K:B8 t s r=0)(z:Wb t x.d7)(A:Jh x.l6.az r.ed.az (At s r l) y.az x.d7.az.length)(C:IX (CR x i s r l y)):Wb t (CR x i s r l y).d7:=by
 obtain ⟨_,ho,_,_⟩:=DB K;have D:=Cw z.1 z.2;have E:=Cw ho.right ho.Aam;have L:(CR x i s r l y).d7.az.length=x.d7.az.length+(AJ (At s r l) r.ci.bk.az.length).length:=by simp[CR]
 have F:∀v:Int,(0<=v/\v<r.ci.bk.az.length)->0<=DV (At s r l) y.az x.d7.az.length v/\DV (At s r l) y.az x.d7.az.length v<(CR x i s r l y).d7.az.length:=λv hv=>by
  rw [OG];by_cases o:v∈At s r l
  .obtain⟨a,b,_,_⟩:=BP o;have:=A.yr _ (AG a (show _<(y.az.length:Int)by have:=A.AbD;omega));rw[Ne o];omega
  .obtain⟨_,O⟩:=Im hv.1 hv.2 o;rw[QQ o];omega
 refine ⟨⟨C.tc,C.wi,λn u=>?_,λe o=>?_⟩,fg (λn u=>?_) λe o=>?_⟩
 .rcases x!.1 u with h|h
  .exact z.1.kind n h
  .obtain⟨v,hv,rfl⟩:=x?.1 h;exact ho.right.kind _ (AG (CP hv).1 (CP hv).2)
 .rcases x!.1 o with h|h
  .have hf:=z.1.fit e h;omega
  .obtain⟨v,hv,rfl⟩:=x?.1 h;have hf:=ho.right.fit _ (AG (CP hv).1 (CP hv).2);exact⟨hf.1,F _ hf.2.1,F _ hf.2.2⟩
 .rcases x!.1 u with h|h
  .exact(D.1 n h).2
  .obtain⟨v,hv,rfl⟩:=x?.1 h;exact(E.1 _ (AG (CP hv).1 (CP hv).2)).2
 .rcases x!.1 o with h|h
  .exact(D.2 e h).2
  .obtain⟨v,hv,rfl⟩:=x?.1 h;exact(E.2 _ (AG (CP hv).1 (CP hv).2)).2
variable{p:bk}
theorem tB(hv:(A0 t).2=0)(e:Wb t p)(o:Wb t g)(b:Bool):(EB t p g b).2=0\/(EB t p g b).2=3:=by
 have h:Ds t p g=0:=by
  unfold Ds;rw[QQ t!,QQ (by simp[HC e.1]),QQ (by simp[HC o.1]),e.2,o.2];rfl
 unfold EB;rw[QQ (by simp[h])];split
 .exact .inr rfl
 .exact .inl rfl
theorem Z3(hv:(A0 t).2=0)(A:∀r∈c8,B8 t s r=0)(he:∀r∈c8,Ma s r l):∀(n:Nat)(x:AI)(v:Int)(r:AI×Int×Int),Hp t s c8 l n x v=.inr r->IX x->Wb t x.d7->x.mN.length<=30->x.mN.length+n=31->r.2.1=0\/r.2.1=3
 |0,x,v,r,e,hi,z,_,_=>n_
 |n+1,x,v,r,e,hi,z,Z,hn=>by
  rw [Hp]at e;split at e
  .cases e;exact .inr rfl
  split at e
  .cases e;exact .inl rfl
  split at e
  .cases e;exact .inr rfl
  rename_i ζ;refine(N9 (g:=λi=>Rg t s l x (Hp t s c8 l n) i (AA c8 i)) (I:=λ_=>True) (R:=λr=>r.2.1=0\/r.2.1=3) (λi K v _=>⟨λ_ _=>trivial,λr e=>?_⟩) trivial).2 r e;obtain⟨D,E⟩:=Bs.1 K;have o:=A _ (AG D E);unfold Rg at e;split at e
  .cases e
  split at e
  next O=>cases e;exact .inr ((tB hv (mb o (he _ (AG D E))) z X).resolve_left O)
  refine (N9 (g:=λj=>UL s l x (Hp t s c8 l n) i (AA c8 i) (AA (EB t (Bh s (AA c8 i) l) x.d7 X).1 j)) (I:=λ_=>True) (R:=λr=>r.2.1=0\/r.2.1=3) (λj L v _=>⟨λ_ _=>trivial,λr e=>?_⟩) trivial).2 r e;obtain⟨ε,κ⟩:=Bs.1 L;have Q:=AG ε κ;obtain⟨_,_,F,η⟩:=T3 (l:=l) o hi Q;unfold UL at e;split at e
  .cases e
  rename_i u;rw[I_,gR]at u;split at e
  .cases e;exact .inr rfl
  rename_i δ;have C:=YX (rule:=i) hi U (F u.1) (η u.2) U U;exact Z3 hv A he n _ _ r e C (ou o z (F u.1) C) n? n?
theorem iz(hf:Ao t)(z:C9 t s c8=0)(A:hasB l 2=X->hasB l 1=X/\hasB l 3=X){h:AH}(hh:(Bc t h).2=0):(L9 t s c8 h l).2=0\/(L9 t s c8 h l).2=3\/(L9 t s c8 h l).2=10:=by
 obtain ⟨hv,hO⟩:=Du hf hh;have u:=Iz z;unfold L9;cases e:Hp t s c8 l 31 (FZ h) 0 with
 |inl v=>exact .inr (.inr rfl)|inr r=>
  dsimp only;rcases Z3 hv u (λr C=>S2 (u r C) A) 31 _ 0 r e (Ss hO.g) ⟨hO.g,hO.ty⟩ l! l! with o|o
  .rw[Ne o];exact .inl rfl
  .rw[QQ U,o];exact .inr (.inl rfl)
theorem X3(hf:Ao t)(u:∀r∈c8,DN r)(E:C9 t s c8=0)(A:hasB l 2=X->hasB l 1=X/\hasB l 3=X){h H:AH}(hh:(Bc t h).2=0)(ho:If s h.bk l=T){φ ψ:Int->Int}(F:Qf s l h.bk H.bk φ ψ){ms:List DC}(K:ms.length<=30)(e:C2 (EN t c8) ms (zH,zH)=.inl (zH,H))(C:∀m∈ms,RJ s l c8 m):(L9 t s c8 h l).2=0\/(L9 t s c8 h l).2=3:=by
 obtain ⟨hv,hO⟩:=Du hf hh;have z:=Iz E;rcases iz hf E A hh with o|o|o
 .exact .inl o
 .exact .inr o
 .exfalso;unfold L9 at o;cases k:Hp t s c8 l 31 (FZ h) 0 with
  |inl v=>exact fh hf u z (λr u=>S2 (z r u) A) F ho ms zH (FZ h) 31 0 v e C (Zo hv) (ug hO.g) l! (by simp[FZ];omega) k|inr r=>
   rw [k]at o;dsimp only at o;rcases Z3 hv z (λr u=>S2 (z r u) A) 31 _ 0 r k (Ss hO.g) ⟨hO.g,hO.ty⟩ l! l! with D|D
   .rw[Ne D]at o;cases o
   .rw[QQ U,D]at o;cases o
end
end Go.Sf.Sc
namespace Go.Sf.Sc
open Go Go.Sf
section
variable{t:AC}{s:Ak}{c8:List d4}{l:Fp}
theorem Rz{H:AH}(K:(Bc t H).2=0)(hO:Gg t H)(z:NC t s)(L:hasB l 2=X->hasB l 1=X/\hasB l 3=X)(b:Int)(o:0<=b/\b<H.bk.bi.length)(A:hasB l (AA s.bi (AA H.bk.bi b).em)=X):
  hasB l (AA s.az (AA H.bk.az (AA H.bk.bi b).fb))=X/\hasB l (AA s.az (AA H.bk.az (AA H.bk.bi b).To))=X:=by
 obtain ⟨_,pe⟩:=Mk K;have u:=pe b o.1 o.2;have ty:=(Cw hO.g hO.ty).2 _ (AG o.1 o.2);have hf:=(hO.g.fit _ (AG o.1 o.2)).2;have D:=hO.kind _ hf.1.1 hf.1.2;have C:=hO.kind _ hf.2.1 hf.2.2;have fit:DG t H.bk b=X:=by
  unfold HP at u;split at u
  .cases u
  split at u
  .cases u
  next k=>simpa using k
 unfold DG Iu at fit;simp only[gR]at fit;have O:=Wj z D.1 D.2 fit.2.1;have E:=Wj z C.1 C.2 fit.2.2;obtain⟨Q,R⟩:=z.edge _ ty.1 ty.2;rw[<-O,<-E,Q];refine⟨A,?_⟩;by_cases F:AA s.bi (AA H.bk.bi b).em=2
 .rw[F]at A;obtain⟨a,c⟩:=L A;have:=(z.node _ C.1 C.2).1;unfold Ln at this;simp only[gR,o4]at this;rw[E];rcases(show AA s.az (AA H.bk.az (AA H.bk.bi b).To)=1\/AA s.az (AA H.bk.az (AA H.bk.bi b).To)=2\/AA s.az (AA H.bk.az (AA H.bk.bi b).To)=3 by omega)with e|e|e<;>rw[e]<;>assumption
 .have:AA s.az (AA t.bi (AA H.bk.bi b).em).To=AA s.bi (AA H.bk.bi b).em:=I! λk=>F (R.1 k);rw[this];exact A
variable{G:bk}
theorem uM{H:AH}{m:bn}(η:(Bc t H).2=0)(hO:Gg t H)(κ:NC t s)(D:Xt H.bk G m=X):Qf s [1,2,3] G H.bk (AA m.az) (AA m.bi):=by
 obtain ⟨q1,q2⟩:=UB κ;obtain⟨t1,t2⟩:=Cw hO.g hO.ty;unfold Xt Gz at D;simp only[gR,o4]at D;obtain⟨h1,⟨h2,h3⟩,h4,h5⟩:=D;have ho:=SC h1;have n1:=ho.tc;have n2:=ho.wi;have K:=Gy.1 h2;have O:=Gy.1 h3;have A:∀{L:Fp}{N:Nat},L.Nodup->(∀x∈L,0<=x/\x<N)->L.length=N->∀k:Int,0<=k->k<N->∃b:Int,(0<=b/\b<L.length)/\AA L b=k:=λ{L N}hd ζ δ k z u=>by
  have C:=tQ hd ζ;rw[decide_eq_true δ]at C;unfold o6 at C;rw[G!,BV]at C;have:=C k z u;obtain⟨b,b0,b1,e⟩:=Ay (Ag.1 (by simpa using this));exact⟨b,⟨b0,b1⟩,e⟩
 refine ⟨λb o _=>ho.node b o.1 U,λb o _=>?_,Rz η hO κ a_,λa b E o e=>?_,λa b E o e=>?_,λk z u=>?_,λk z u=>?_⟩
 .obtain⟨u,k2,k3,k4⟩:=ho.edge b o.1 U;refine⟨u,?_⟩;rw[k2,k3,k4]
 .have Q:=Cz K E.1.1 U;have Z:=Cz K o.1.1 U;rw[e]at Q;omega
 .have Q:=Cz O E.1.1 U;have Z:=Cz O o.1.1 U;rw[e]at Q;omega
 .obtain⟨b,o,e⟩:=A K (λx F=>by
   obtain ⟨i,R,ε,rfl⟩:=Ay F;exact(ho.node i R ε).1) h4 k z u
  have:=t1 _ (AG o.1 (show b<(H.bk.az.length:Int)by omega));exact⟨b,⟨⟨o.1,U⟩,q1 _ this.1 this.2⟩,e⟩
 .obtain⟨b,o,e⟩:=A O (λx F=>by
   obtain ⟨i,R,ε,rfl⟩:=Ay F;exact(ho.edge i R ε).1) h5 k z u
  have:=t2 _ (AG o.1 (show b<(H.bk.bi.length:Int)by omega));exact⟨b,⟨⟨o.1,U⟩,q2 _ this.1 this.2⟩,e⟩
theorem Ie(z x:Int):hasB [z] x=decide (x=z):=by
 unfold hasB;by_cases h:x=z<;>simp[h,eq_comm]
theorem eY{H:AH}{z:Int}(Q:(Bc t H).2=0)(hO:Gg t H)(R:NC t s)(ε:hasB [z] 2=T):Qf s [z] (Gf H.bk (CZ s H.bk z)) H.bk (A1 (CZ s H.bk z).az) (A1 (CZ s H.bk z).bi):=by
 have K:hasB [z] 2=X->hasB [z] 1=X/\hasB [z] 3=X:=λh=>by rw[ε]at h;cases h
 have L:∀b:Int,(0<=b/\b<H.bk.az.length)->hasB [z] (AA s.az (AA H.bk.az b))=X->b∈(CZ s H.bk z).az:=λb o h=>Br.2 ⟨o,by rw[<-h,Ie];rfl⟩;have O:∀b:Int,(0<=b/\b<H.bk.bi.length)->hasB [z] (AA s.bi (AA H.bk.bi b).em)=X->b∈(CZ s H.bk z).bi:=λb o h=>Br.2 ⟨o,by rw[<-h,Ie];rfl⟩;have κ:(CZ s H.bk z).az.Nodup:=Ri _ _;have η:(CZ s H.bk z).bi.Nodup:=Ri _ _;refine⟨λb o h=>?_,λb o h=>?_,Rz Q hO R K,λa b A o e=>?_,λa b A o e=>?_,λk C u=>?_,λk C u=>?_⟩
 .obtain⟨E,F,c,_⟩:=BP (L b o h);unfold Gf;dsimp only;rw[a6,Cu E F,c];exact⟨⟨E,F⟩,rfl⟩
 .obtain⟨E,F,c,_⟩:=BP (O b o h);unfold Gf;dsimp only;rw[a6,Cu E F,c];exact⟨⟨E,F⟩,rfl⟩
 .rw[<-(BP (L a A.1 A.2)).2.2.1,<-(BP (L b o.1 o.2)).2.2.1,e]
 .rw[<-(BP (O a A.1 A.2)).2.2.1,<-(BP (O b o.1 o.2)).2.2.1,e]
 .have u:k<(CZ s H.bk z).az.length:=by
   unfold Gf at u;dsimp only at u;rwa[a6]at u
  have D:=Br.1 (AG (l:=(CZ s H.bk z).az) C u);exact⟨_,⟨D.1,by rw[Ie];exact D.2⟩,Cz κ C u⟩
 .have u:k<(CZ s H.bk z).bi.length:=by
   unfold Gf at u;dsimp only at u;rwa[a6]at u
  have D:=Br.1 (AG (l:=(CZ s H.bk z).bi) C u);exact⟨_,⟨D.1,by rw[Ie];exact D.2⟩,Cz η C u⟩
theorem qF{S G:bk}{H:AH}{α β φ ψ:Int->Int}(ζ:(Bc t H).2=0)(hO:Gg t H)(η:NC t s)(δ:hasB l 2=X->hasB l 1=X/\hasB l 3=X)(z:Qf s [1,2,3] G H.bk α β)(D:Qf s l S G φ ψ):Qf s l S H.bk (λb=>φ (α b)) (λb=>ψ (β b)):=by
 obtain ⟨Z,q2⟩:=UB η;obtain⟨t1,t2⟩:=Cw hO.g hO.ty;have E:∀b:Int,(0<=b/\b<H.bk.az.length)->hasB [1,2,3] (AA s.az (AA H.bk.az b))=X:=λb o=>by
  have:=t1 _ (AG o.1 o.2);exact Z _ this.1 this.2
 have F:∀b:Int,(0<=b/\b<H.bk.bi.length)->hasB [1,2,3] (AA s.bi (AA H.bk.bi b).em)=X:=λb o=>by
  have:=t2 _ (AG o.1 o.2);exact q2 _ this.1 this.2
 have Q:∀b:Int,(0<=b/\b<H.bk.az.length)->hasB l (AA s.az (AA H.bk.az b))=X->(0<=α b/\α b<G.az.length)/\hasB l (AA s.az (AA G.az (α b)))=X:=λb o h=>by
  obtain ⟨u,C⟩:=z.node b o (E b o);rw[C];exact⟨u,h⟩
 have R:∀b:Int,(0<=b/\b<H.bk.bi.length)->hasB l (AA s.bi (AA H.bk.bi b).em)=X->(0<=β b/\β b<G.bi.length)/\hasB l (AA s.bi (AA G.bi (β b)).em)=X:=λb o h=>by
  obtain ⟨u,C⟩:=z.edge b o (F b o);rw[C];exact⟨u,h⟩
 refine ⟨λb o h=>?_,λb o h=>?_,Rz ζ hO η δ,λa b A o e=>?_,λa b A o e=>?_,λk O u=>?_,λk O u=>?_⟩
 .obtain⟨u,C⟩:=Q b o h;obtain⟨ε,κ⟩:=D.node _ u C;exact⟨ε,κ.trans (z.node b o (E b o)).2⟩
 .obtain⟨u,C⟩:=R b o h;obtain⟨ε,κ⟩:=D.edge _ u C;refine⟨ε,?_⟩;rw[κ,(z.edge b o (F b o)).2]
 .exact z.ninj a b ⟨A.1,E a A.1⟩ ⟨o.1,E b o.1⟩ (D.ninj _ _ (Q a A.1 A.2) (Q b o.1 o.2) e)
 .exact z.einj a b ⟨A.1,F a A.1⟩ ⟨o.1,F b o.1⟩ (D.einj _ _ (R a A.1 A.2) (R b o.1 o.2) e)
 .obtain⟨c,⟨K,L⟩,rfl⟩:=D.nsur k O u;obtain⟨b,⟨o,_⟩,rfl⟩:=z.nsur c K.1 K.2;rw[(z.node b o (E b o)).2]at L;exact⟨b,⟨o,L⟩,rfl⟩
 .obtain⟨c,⟨K,L⟩,rfl⟩:=D.esur k O u;obtain⟨b,⟨o,_⟩,rfl⟩:=z.esur c K.1 K.2;rw[(z.edge b o (F b o)).2]at L;exact⟨b,⟨o,L⟩,rfl⟩
end
end Go.Sf.Sc
