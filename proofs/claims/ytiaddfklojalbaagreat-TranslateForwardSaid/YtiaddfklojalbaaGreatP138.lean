/- Plain lemmas: what the functions of the program and of the reference compute. -/
import Derived.Test.YtiaddfklojalbaaGreatP96
set_option linter.all false
set_option maxRecDepth 100000
open Option renaming some->Y
open Bool renaming true->X,false->T
open List renaming mem_cons->w?,mem_cons_of_mem->x_,any_eq_true->x!,any_eq_false->x?,mem_append->y_,mem_map->y!,getElem?_modify->y?,getElem?_eq_getElem->z_,length_set->z!,getD_eq_getElem?_getD->z?,any_cons->A_,zip_map'->A',mem_of_getElem?->A!,drop_eq_nil_of_le->A?,drop_eq_getElem_cons->B_,eq_nil_of_length_eq_zero->B',mem_append_left->B!,mem_append_right->B?,map_congr_left->C_,ext_getElem->C',take_length->C!,mem_filter->C?,mem_range->D_,append_nil->D',map_append->D!,map->D?,pairwise_map->E_,all_eq_false->E',replicate->E!,nodup_nil->E?,all_eq_true->F_,nodup_iff_pairwise_ne->F!,not_mem_nil->F?,pairwise_cons->G_,getElem?_eq_none->G!,eq_nil_iff_forall_not_mem->G?,take_sublist->H_,eq_of_mem_replicate->H',filter_congr->H!
open Bool renaming not_eq_true'->H?,or_eq_false_iff->I_,false_eq_true->I',not_eq_true->I!,or_eq_true->I?,eq_iff_iff->J_,or_false->J',false_or->J!
open Classical renaming not_not->J?,byContradiction->K_
open Int renaming toNat_natCast->K!,natCast_add->K?,eq_ofNat_of_zero_le->L_
namespace Go.Sf.Sc
open Go Go.Sf
variable{k c:Int}
theorem aH{t:AC}(p:Ea t k):∀(n m:Nat)(a b:Int),a<k->a<n->b<m->b∈Gc t n a->c∈Gc t m b->c∈Gc t n a
 |0,_,_,_,_,_,_,o,_=>by simp[Gc]at o|n+1,m,a,b,A,D,C,o,u=>by
  rw [Gc]at o|-;split at o
  .cases o
  .rename_i z;rw[aN z];have E:=p a U A;rcases w?.1 o with rfl|o
   .have e:=mw p m (n+1) b A C D;rw[e,Gc,aN z]at u;exact u
   .exact x_ _ (aH p n m (par t a) b U U C o u)
variable{a b:Int}
theorem Zs{t:AC}(h:Eb t)(z:a<t.bq.length)(o:isB t a b=X)(p:isB t b c=X):isB t a c=X:=by
 unfold isB at o p|-;rw[x!]at o p|-;obtain⟨x,A,e⟩:=o;obtain⟨y,C,u⟩:=p;rw[p0]at e u;subst e;subst u;exact⟨c,aH h.par _ _ a b z U U A C,V⟩
theorem ng{t:AC}(h:Eb t){e f g p u:Int}(hf:0<=p/\p<t.bq.length)(z:0<=u/\u<t.bq.length)(A:isB t p f=X)(C:isB t u g=X)(o:Ld t e f g=X):Ld t e p u=X:=by
 unfold Ld at o|-;simp only[kp,Li]at o|-;exact⟨⟨⟨o.1.1.1,hf,z⟩,o.1.2⟩,Zs h hf.2 A o.2.1,Zs h z.2 C o.2.2⟩
end Go.Sf.Sc
namespace Go.Sf.Sc
open Go Go.Sf
theorem dg{t:AC}{r:ei}(h:GV t r=0):(∀x∈EK r,(AA t.bq (AA r.d4.ci.bq x)).tn=T)/\∀x∈Ht r,D4 t r.d4.ci x=X:=by
 have e:RQ t r.d4.ci (EK r) (Ht r)=X:=by grind[GV]
 unfold RQ at e;rw[kp,H?,H?,x?,x?]at e;exact⟨λx o=>by simpa using e.1 x o,λx o=>by simpa using e.2 x o⟩
abbrev gS(t:AC)(r:ei)(h:AJ)(m:Ar):AJ:=DW t r (C2 h (dS r h m)) (cS r h m)
variable{m:Ar}
theorem Hq.d6{t:AC}{r:ei}{h:AJ}(s:Hq t r h m):∀e∈(gS t r h m).ci.ca,((0<=e.fu/\e.fu<(gS t r h m).ci.bq.length)/\0<=e.To/\e.To<(gS t r h m).ci.bq.length)/\Ld t e.fd (AA (gS t r h m).ci.bq e.fu) (AA (gS t r h m).ci.bq e.To)=X:=by
 intro e he;have el:(gS t r h m).ci.bq=(dS r h m).bq.map (AA h.ci.bq)++(EK r).map (AA r.d4.ci.bq):=rfl;have he:e∈(dS r h m).ca.map (λx=>RS (GR h (dS r h m)).bq (AA h.ci.ca x))++(Ht r).map (λk=>RS (cS r h m).bq (AA r.d4.ci.ca k)):=he;rcases y_.1 he with he|he
 .obtain⟨x,E,rfl⟩:=y!.1 he;have D:=VK (cq s.part).2;have p:=D.d6.1 x E;have o:=D.ends x E;have hf:=(s.hh.g.fit _ (AI p.1 p.2)).2;have L:=(Pl s.he).2 x p.1 p.2;have fit:D4 t h.ci x=X:=by
   unfold Hw at L
   grind
  have at_:∀y,y∈(dS r h m).bq->0<=y->y<h.ci.bq.length->(0<=AA (GR h (dS r h m)).bq y/\AA (GR h (dS r h m)).bq y<(gS t r h m).ci.bq.length)/\AA (gS t r h m).ci.bq (AA (GR h (dS r h m)).bq y)=AA h.ci.bq y:=λy G H K=>by
   have hi:=B0 G;rw[show AA (GR h (dS r h m)).bq y=A4 (dS r h m).bq y from Er H K,el,a6,bd];refine⟨⟨hi.1,by have:=hi.2.1;push_cast;omega⟩,?_⟩;rw[Fy hi.1 (by rw[bd];exact hi.2.1),MB hi.1 hi.2.1,hi.2.2.1]
  obtain ⟨a1,a2⟩:=at_ _ o.1 hf.1.1 hf.1.2;obtain⟨A,C⟩:=at_ _ o.2 hf.2.1 hf.2.2;refine⟨⟨a1,A⟩,?_⟩;simp only[RS];rw[a2,C];exact fit
 .obtain⟨k,F,rfl⟩:=y!.1 he;have u:0<=k/\k<r.d4.ci.ca.length:=Dn F;have hf:=(s.ro.right.fit _ (AI u.1 u.2)).2;obtain⟨a1,O,a2⟩:=s.AbB hf.1.1 hf.1.2;obtain⟨A,P,C⟩:=s.AbB hf.2.1 hf.2.2;have z:=s.put.kind;refine⟨⟨a1,A⟩,?_⟩;exact ng (DT s.hv) ⟨(z _ (AI a1.1 a1.2)).1,O⟩ ⟨(z _ (AI A.1 A.2)).1,P⟩ a2 C ((dg s.re).2 k F)
end Go.Sf.Sc
namespace Go.Sf.Sc
open Go Go.Sf
def iK(t:AC)(k:Int)(v:Fp):Prop:=v.length=(BC t k).length/\∀j:Int,0<=j->j<v.length->(AA (BC t k) j).Low<=AA v j/\AA v j<=(AA (BC t k) j).Aag
def XL(t:AC)(g:ci)(κ:List Fp):Prop:=κ.length=g.bq.length/\∀i:Int,0<=i->i<g.bq.length->iK t (AA g.bq i) (AA κ i)
theorem ky{t:AC}{x:AJ}{κ:List Fp}(h:XL t x.ci κ){p:(Int×Int)×Int}(D:RL t x p=T):XL t x.ci (C8 κ p):=by
 unfold C8;split
 .rename_i C;refine⟨by rw[List.length_modify];exact h.1,λi E F=>?_⟩;have hi:=h.2 i E F;by_cases e:i=p.1.1
  .have o:AA (κ.modify p.1.1.toNat λr=>r.set p.1.2.toNat p.2) i=(AA κ i).set p.1.2.toNat p.2:=by
    have:=h.1;subst e;simp[AA,y?,z_ (show p.1.1.toNat<κ.length by omega)]
   rw [o];refine⟨by rw[z!];exact hi.1,λj z A=>?_⟩;rw[z!]at A;by_cases u:j=p.1.2
   .rw[show AA ((AA κ i).set p.1.2.toNat p.2) j=p.2 by rw[u];exact rA p.2 C.2 U,u,e];simp[RL]at D;omega
   .rw[show AA ((AA κ i).set p.1.2.toNat p.2) j=AA (AA κ i) j from rC p.2 C.2 z u];exact hi.2 j z A
  .have o:AA (κ.modify p.1.1.toNat λr=>r.set p.1.2.toNat p.2) i=AA κ i:=by
    simp [AA,z?,y?,show¬p.1.1.toNat=i.toNat by omega]
   rw [o];exact hi
 .exact h
theorem Zl{t:AC}{x:AJ}:∀(L:Bh){κ:List Fp},XL t x.ci κ->L.any (RL t x)=T->XL t x.ci (L.foldl C8 κ)
 |[],_,h,_=>h|p::L,κ,h,e=>by
  rw [A_,I_]at e;exact Zl L (ky h e.1) e.2
variable{m:Ar}
theorem Hq.c9{t:AC}{r:ei}{h:AJ}(s:Hq t r h m):(∀n∈(gS t r h m).ci.bq,(AA t.bq n).tn=T)/\∀v n,(n,v)∈(gS t r h m).ci.bq.zip (gS t r h m).eo->iK t n v:=by
 have G:=DT s.hv;have el:(gS t r h m).ci.bq=(dS r h m).bq.map (AA h.ci.bq)++(EK r).map (AA r.d4.ci.bq):=rfl;have ev:(gS t r h m).eo=(dS r h m).bq.map (AA h.eo)++(EK r).map (λk=>Ww t (AA r.d4.ci.bq k)):=rfl;have old:∀x∈(dS r h m).bq,(AA t.bq (AA h.ci.bq x)).tn=T/\iK t (AA h.ci.bq x) (AA h.eo x):=λx o=>by
  have o:=s.rem.c9.1 x o;have p:=(Pl s.he).1 x o.1 o.2;unfold GZ at p;split at p
  .cases p
  split at p
  .cases p
  split at p
  .cases p
  split at p
  .cases p
  rename_i a1 a2 H K;refine⟨by simpa using a2,J?.1 H,λj D E=>?_⟩;have:=Bt.1 (by simpa using K) j D U;simp[QN]at this;omega
 have new:∀k∈EK r,iK t (AA r.d4.ci.bq k) (Ww t (AA r.d4.ci.bq k)):=λk F=>by
  have A:0<=k/\k<r.d4.ci.bq.length:=Dn F;have C:=(ET s.ro.right s.ro.Aat).1 _ (AI A.1 A.2);refine⟨by simp[Ww],λj D E=>?_⟩;simp only[Ww,bd]at E|-;have:=kP s.hf G C.1 C.2 _ (AI D E);rw[show AA ((BC t (AA r.d4.ci.bq k)).map λx=>x.Low) j=(AA (BC t (AA r.d4.ci.bq k)) j).Low by grind[AA,z_]];omega
 refine ⟨λn z=>?_,λv n u=>?_⟩
 .rw[el]at z;rcases y_.1 z with z|z
  .obtain⟨x,o,rfl⟩:=y!.1 z;exact(old x o).1
  .obtain⟨k,F,rfl⟩:=y!.1 z;exact(dg s.re).1 k F
 .rw[el,ev,List.zip_append V]at u;rcases y_.1 u with u|u
  .rw[A',y!]at u;obtain⟨x,o,e⟩:=u;cases e;exact(old x o).2
  .rw[A',y!]at u;obtain⟨x,o,e⟩:=u;cases e;exact new x o
end Go.Sf.Sc
namespace Go.Sf.Sc
open Go Go.Sf
variable{α β:Type}
theorem wM[Inhabited α][Inhabited β]{a:List α}{b:List β}{i:Int}(e:0<=i)(o:i<a.length)(p:i<b.length):(AA a i,AA b i)∈a.zip b:=by
 refine A! (i:=i.toNat) ?_;rw[List.getElem?_zip_eq_some]
 grind [AA,z_]
variable{m:Ar}
theorem eU{t:AC}{r:ei}{h:AJ}(s:XS t r h m):CN t (Un t r h m)=(-1,0):=by
 have f:=s.f;have hv:=f.hv;have A:=DT hv;have put:=f.put;have E:=f.d6;obtain⟨K,L⟩:=f.c9;have R:=A.c9;have S:=A.d6;have u:XL t (gS t r h m).ci (gS t r h m).eo:=⟨put.vlen,λi z p=>L _ _ (wM z p (by rw[put.vlen];exact p))⟩;have o:=Zl (x:=gS t r h m) _ u (l6 s.put).2;have C:∀e∈(gS t r h m).ci.ca,0<=e.fd/\e.fd<t.ca.length:=λe he=>by
  have:=(E e he).2;unfold Ld at this;simp only[kp,p0]at this;exact this.1.2
 have go:Bz (gS t r h m).ci:=⟨s.few.1,s.few.2,λn G=>by have:=put.kind n G;omega,λe he=>⟨by have:=C e he;omega,(E e he).1⟩⟩;have H:(Un t r h m).ci=(gS t r h m).ci:=rfl;have ev:(Un t r h m).eo=(DA r (cS r h m) m.eT).foldl C8 (gS t r h m).eo:=rfl;unfold CN;rw[aN v_,H,ev,aN (by simp[Hb go]),aN (by simpa using o.1),BY.2]
 .dsimp only;rw[BY.2]
  .rfl
  intro i z p;have D:=AI z p;have F:Hw t (gS t r h m).ci i=0:=by
   unfold Hw D4;rw[aN (by have:=C _ D;omega),(E _ D).2];rfl
  rw [F];rfl
 .intro i z p;have D:=AI z p;obtain⟨O,P⟩:=o.2 i z p;have F:GZ t (AA (gS t r h m).ci.bq i) (AA ((DA r (cS r h m) m.eT).foldl C8 (gS t r h m).eo) i)=0:=by
   unfold GZ;rw[aN (by have:=put.kind _ D;omega),aN (by simp[K _ D]),aN (by simpa using O),aN];rw[D1];rintro⟨j,Q,ε,e⟩;have:=P j Q U;simp[QN]at e;omega
  rw [F];rfl
end Go.Sf.Sc
namespace Go.Sf
def Cv{α σ ρ:Type}(g:α->σ->σ ⊕ ρ):List α->σ->σ ⊕ ρ
 |[],s=>.inl s|x::l,s=>match g x s with
  |.inl s'=>Cv g l s'|.inr r=>.inr r
def iY{σ ρ:Type}:σ ⊕ ρ->CF σ ρ
 |.inl s=>.next s|.inr r=>.ret r
variable{α σ ρ:Type}
theorem Qx{g:α->σ->σ ⊕ ρ}{I:σ->Prop}{R:ρ->Prop}:∀{l:List α}{s:σ},(∀x∈l,∀s,I s->(∀s',g x s=.inl s'->I s')/\∀r,g x s=.inr r->R r)->I s->(∀s',Cv g l s=.inl s'->I s')/\∀r,Cv g l s=.inr r->R r
 |[],s,_,h=>⟨λs' e=>by cases e;exact h,λr e=>l'⟩
 |x::l,s,o,h=>by
  obtain ⟨u,z⟩:=o x (.head _) s h;rw[Cv];cases e:g x s with
  |inl v=>exact Qx (λy p=>o y (x_ _ p)) (u v e)|inr r=>
   constructor
   .intro s' k;cases k
   .intro A k;cases k;exact z r e
variable{f:Int->σ->Option (CF σ ρ)}
theorem WN[Inhabited α]{l:List α}(g:α->σ->σ ⊕ ρ)(I:σ->Prop)(h:∀(i:Int)s,0<=i->i<l.length->I s->f i s=Y (iY (g (AA l i) s))/\∀s',g (AA l i) s=.inl s'->I s'):
  ∀(n:Nat)(a:Int)(s:σ),0<=a->a+n=l.length->I s->tl f n a s=Y (Cv g (l.drop a.toNat) s)
 |0,a,s,a0,u,_=>by
  rw [A? U];rfl
 |n+1,a,s,a0,u,z=>by
  obtain ⟨o,p⟩:=h a s a0 U z;have hd:l.drop a.toNat=AA l a::l.drop (a+1).toNat:=by
   rw [B_ U,show(a+1).toNat=a.toNat+1 by omega];congr 1;unfold AA;rw[z?,z_ U];rfl
  rw [FJ,o,hd,Cv];cases e:g (AA l a) s with
  |inr r=>rfl|inl v=>exact WN g I h n (a+1) v U U (p v e)
theorem NU[Inhabited α]{l:List α}(g:α->σ->σ ⊕ ρ)(I:σ->Prop){s:σ}(e:I s)(h:∀(i:Int)s,0<=i->i<l.length->I s->f i s=Y (iY (g (AA l i) s))/\∀s',g (AA l i) s=.inl s'->I s'):fq f 0 l.length s=Y (Cv g l s):=by
 have:=WN g I h l.length 0 s U U e;unfold fq;simpa using this
end Go.Sf
namespace Go.Sf.Sc
open Go Go.Sf
theorem eC{t:AC}{s:Ap}{r:ei}(h:Ca t s r=0):G8 r.c8<=40:=by
 unfold Ca at h;split at h
 .omega
 split at h
 .omega
 split at h
 .cases h
 rename_i F G A;have o:Of r=X:=o!
 unfold Of at o;simp only[kp,p0]at o;have C:r.c8.gN=1:=o.1.2;obtain⟨_,_,z⟩:=Pt (t:=t) (r:=r) U;unfold Mc at z;split at z
 .omega
 split at z
 .omega
 rename_i H K;have p:N0 r.c8=0:=U
 have u:eH r.c8=X:=by
  cases D:eH r.c8 with
  |true=>rfl|false=>unfold N0 at p;rw[aE D]at p;cases p
 unfold eH at u;have L:=G3 r.c8;obtain⟨n,E⟩:∃n,SizeOf.sizeOf r.c8=n+1:=⟨SizeOf.sizeOf r.c8-1,U⟩;rw[E,RJ,kp]at u;have e:=u.1;unfold Q0 at e;rw[aE C]at e;simp only[kp,p0]at e;rw[bV,B' e.1];decide
noncomputable def DP(t:AC)(s:Ap)(d3:List ei):Int:=
 if 6<(d3.length:Int)then 3 else if DJ t s≠0 then DJ t s else if(t.bq.any λn=>decide (0<(n.kl.length:Int)))=X then 8 else
 (fst (λi=>nz (Ca t s (AA d3 i))) 0 d3.length).getD 0
theorem u0{t:AC}(hf:A0 t)(s:Ap):∃x,EY t s=Y (x,DJ t s):=by
 unfold EY;rw[V3 hf,bs];by_cases h:DJ t s=0
 .obtain⟨D,e⟩:=LT h;have u:=e.z5;have z:=e.Aaf;have A:=hf.c9;have C:=hf.d6;rw[aN (by simp[h])];obtain⟨m,o⟩:=Q8 (l:=s.bq) U;obtain⟨k,p⟩:=Q8 (l:=s.ca) U;rw[o,bs,p,bs,h];exact⟨_,rfl⟩
 .rw[aE (by simp[h])];exact⟨_,rfl⟩
theorem lh{t:AC}(hf:A0 t)(s:Ap){d3:List ei}(A:∀r∈d3,E6 r):CY ⟨t,s,d3⟩=Y (DP t s d3):=by
 unfold CY DP;dsimp only;by_cases o:6<(d3.length:Int)
 .rw[aE b?,aE o]
 rw [aN b?,aN o];obtain⟨x,e⟩:=u0 hf s;rw[e,bs];dsimp only;refine Gf λ_=>?_;rw[show BW t.bq Eu=Y (t.bq.any λn=>decide (0<(n.kl.length:Int)))from eW λn _=>rfl,bs];by_cases p:(t.bq.any λn=>decide (0<(n.kl.length:Int)))=X
 .rw[aE p,aE p]
 rw [aN p,aN p,Bp (λi=>nz (Ca t s (AA d3 i))),Ck];intro i u z _;rw[AD u z,bs,u9 hf (A _ (AI u z)),bs,LC]
theorem VP{t:AC}(hf:A0 t)(s:Ap){d3:List ei}(u:∀r∈d3,E6 r):IR t s d3=Y (DP t s d3):=by
 unfold IR DP;by_cases p:6<(d3.length:Int)
 .rw[aE l!,aE p]
 rw [aN l!,aN p,gY hf,bs];refine Gf λ_=>?_;rw[BX (λi=>decide (0<((AA t.bq i).kl.length:Int))) 8]
 .rw[show(t.bq.any λn=>decide (0<(n.kl.length:Int)))=gh (λi=>decide (0<((AA t.bq i).kl.length:Int))) 0 t.bq.length from GY];cases gh (λi=>decide (0<((AA t.bq i).kl.length:Int))) 0 t.bq.length with
  |true=>rfl|false=>
   rw [aN a_,aN a_,CI,Bp (λi=>nz (Ca t s (AA d3 i))),Ck];intro i e o _;rw[AD e o,bs,vS hf (u _ (AI e o)),bs,LC]
 .intro i e o _;rw[AD e o,bs];cases decide (0<((AA t.bq i).kl.length:Int))<;>rfl
theorem SM{t:AC}{s:Ap}{d3:List ei}(h:DP t s d3=0):∀r∈d3,Ca t s r=0:=by
 unfold DP at h;split at h
 .cases h
 split at h
 .omega
 split at h
 .cases h
 intro r e;obtain⟨i,o,p,rfl⟩:=BT e;exact SK h i o p
def zH:AJ:=⟨⟨[],[]⟩,[]⟩
theorem s5:Qq zH:=⟨⟨by simp[zH],by simp[zH],by simp[zH],λv hv=>by simp[zH]at hv⟩,λv hv=>by simp[zH]at hv⟩
noncomputable def Q7(t:AC)(d3:List ei)(m:NI)(s:AJ×AJ):(AJ×AJ) ⊕ (AJ×Int):=
 if m.ei<0\/(d3.length:Int)<=m.ei then .inr (zH,6)else
 if (JR t (AA d3 m.ei) s.2 m.ns).2≠0 then .inr (zH,(JR t (AA d3 m.ei) s.2 m.ns).2)else .inl (s.1,(JR t (AA d3 m.ei) s.2 m.ns).1.og)
noncomputable def Yc(t:AC)(s:Ap)(d3:List ei)(l:List NI):AJ×Int:=
 if DP t s d3≠0 then(zH,DP t s d3)else if 30<(l.length:Int)then(zH,3)else
 match Cv (Q7 t d3) l (zH,zH)with
 |.inl x=>(x.2,0)|.inr r=>r
section
variable{t:AC}{s:Ap}{d3:List ei}
theorem yM(hf:A0 t)(u:∀r∈d3,E6 r)(l:List NI):GG t s d3 l=Y (Yc t s d3 l):=by
 unfold GG Yc;rw[lh hf s u,bs];refine Gf λA=>?_;by_cases e:30<(l.length:Int)
 .rw[aE so,aE e];rfl
 rw [aN so,aN e,NU (Q7 t d3) (λ_=>True) trivial λi x C D _=>⟨?_,λ_ _=>trivial⟩]
 .show eg (Y (Cv (Q7 t d3) l (zH,zH))) _ _=_;cases Cv (Q7 t d3) l (zH,zH)<;>rfl
 .rw[AD C D,bs];unfold Q7;by_cases o:(AA l i).ei<0\/(d3.length:Int)<=(AA l i).ei
  .rw[aE b?,aE o];rfl
  rw [aN b?,aN o,AD U U,bs];have z:=AI (l:=d3) (i:=(AA l i).ei) U U;rw[uz hf (u _ z) (eC (SM A _ z)),bs];by_cases p:(JR t (AA d3 (AA l i).ei) x.2 (AA l i).ns).2=0
  .rw[aN o1,aN o1];rfl
  .rw[aE o1,aE p];rfl
end
theorem Ua(n:Nat):(AV n).Nodup:=by
 unfold AV;exact List.Pairwise.map _ (λa b h e=>h (Int.ofNat.inj e)) List.nodup_range
noncomputable def iy(a b:ci)(m:cE):Bool:=decide (HL a b m=0)&&(JW m&&(decide (m.bq.length=b.bq.length)&&decide (m.ca.length=b.ca.length)))
theorem ur(a b:ci)(m:cE):((Cn a b m).bind λo=>(if o=X then((D5 a b m).bind λp=>Y (p))else Y T).bind λu=>Y u)=Y (iy a b m):=by
 unfold iy;by_cases h:HL a b m=0
 .rw[jQ h,bs,decide_eq_true h,Bool.true_and];cases hi:JW m with
  |false=>rfl|true=>
   have ho:=Vs h;have:=ho.ga.c9;have:=ho.ga.d6;have:=ho.z5;have:=ho.Aaf;obtain⟨k,C,z⟩:=Tm (l:=m.bq) U;obtain⟨j,D,A⟩:=Tm (l:=m.ca) U;unfold JW at hi;rw[kp]at hi;rw[hi.1,p0]at z;rw[hi.2,p0]at A;unfold D5;rw[aE rfl,V2,h,bs,aE (decide_eq_true rfl),C,bs,bs,z];by_cases e:m.bq.length=b.bq.length
   .rw[aE d!,D,bs,bs,A];simp[e];omega
   .rw[aN a!];simp[e]
 .unfold Cn;rw[V2,bs,aN (by simp[h])];simp[h]
noncomputable def Yh(t:AC)(s:Ap)(d3:List ei)(x:Al):Bool:=
 if (Yc t s d3 x.Aan).2≠0 then T else if(CN t x.hV).2≠0 then T else iy (Yc t s d3 x.Aan).1.ci x.hV.ci x.Iso
section
variable{t:AC}{s:Ap}{d3:List ei}
theorem cd(hf:A0 t)(e:∀r∈d3,E6 r)(x:Al):DK t s d3 x=Y (Yh t s d3 x):=by
 unfold DK Yh;rw[yM hf e,bs];refine Gf λ_=>?_;rw[QP hf,bs];exact Gf λ_=>ur _ _ _
theorem xd(A:(AS t).Sm)(C:∀r∈d3,(Bb r).Sm):∃b,M8 t s d3=Y b/\(b=X->A0 t/\∀r∈d3,E6 r):=by
 unfold M8;by_cases h:8<(d3.length:Int)
 .rw[aE c_];exact⟨T,rfl,λh=>e_⟩
 rw [aN c_];rcases Ws (f:=λ(o:Int)(_:Unit)=>
  (idx d3 o).bind λu=>
  (LK t s u).bind λz=>
  if (!z)=X then
  Y (.ret T)
  else
  Y (.next ())) (λi _=>∀j:Int,0<=j->j<i->E6 (AA d3 j)) (λ_=>False) (λr=>r=T) (a:=0) (b:=d3.length) (s:=()) U (λj H K=>U) (λi s' o p hi=>by
   obtain ⟨b,e,f⟩:=fk (s:=s) A (C _ (AI o p));rw[AD o p,bs,e,bs];cases b with
   |false=>exact .inr (.inr ⟨T,rfl,rfl⟩)|true=>
    refine .inl ⟨(),rfl,λj D L=>?_⟩;by_cases e:j=i
    .rw[e];exact(f rfl).2
    .exact hi j D U)with⟨s',e3,h3⟩|⟨r,e3,h3⟩
 .rw[e3,CI];have G:=h3.resolve_right id;obtain⟨b,e,f⟩:=fk (t:=t) (s:=s) (r:=⟨⟨#[]⟩,⟨⟨[],[]⟩,[],0,[]⟩,⟨⟨[],[]⟩,[],0,[]⟩,⟨[],[]⟩,⟨[],[]⟩,T,⟨0,[],⟨[],[]⟩,⟨⟨[],[]⟩,[],0,[]⟩⟩⟩) A (by
   simp only[Bb,TV.Sm,TV.Sms]
   repeat' (first|exact trivial|exact Nat.zero_le _|exact⟨Nat.zero_le _,trivial⟩|apply And.intro))
  rw [e,bs];refine⟨b,rfl,λE=>⟨(f E).1,λr F=>?_⟩⟩;obtain⟨i,o,p,rfl⟩:=BT F;exact G i o p
 .rw[e3,RI,h3];exact⟨T,rfl,λh=>e_⟩
theorem Yv(p:(AS t).Sm)(u:∀r∈d3,(Bb r).Sm)(h:AJ):∃b,Fu t s d3 h=Y b/\(b=X->A0 t/\∀r∈d3,E6 r):=by
 obtain ⟨C,D,E⟩:=xd (s:=s) p u;obtain⟨F,G,_⟩:=kc (h:=h);unfold Fu;rw[D,bs,G];cases C with
 |false=>exact⟨T,rfl,λh=>e_⟩
 |true=>
 obtain ⟨hf,e⟩:=E rfl;rw[aN a_,bs,bs];cases F with
 |false=>exact⟨T,rfl,λh=>e_⟩
 |true=>
 rw [aN a_,VP hf s e,bs];by_cases o:(!decide (DP t s d3=0))=X
 .rw[aE o];exact⟨X,rfl,λ_=>⟨hf,e⟩⟩
 rw [aN o,BX (λi=>(decide (6<((AA d3 i).d4.ci.bq.length:Int)))||(decide (7<((AA d3 i).d4.ci.ca.length:Int)))) T]
 .cases gh (λi=>(decide (6<((AA d3 i).d4.ci.bq.length:Int)))||(decide (7<((AA d3 i).d4.ci.ca.length:Int)))) 0 d3.length with
  |true=>exact⟨T,rfl,λh=>e_⟩
  |false=>exact⟨_,rfl,λ_=>⟨hf,e⟩⟩
 .intro i z A _;rw[AD z A,bs];cases((decide (6<((AA d3 i).d4.ci.bq.length:Int)))||(decide (7<((AA d3 i).d4.ci.ca.length:Int))))<;>rfl
end
theorem Yt{g:Ds}(h:(CQ g).Sm):(AS g.θ).Sm/\∀r∈g.tc,(Bb r).Sm:=by
 have o:TV.Sms [_,_,_,_,_]:=h;exact⟨⟨o.1,o.2.1,trivial⟩,(Lj (e:=Bb) o.2.2.2.2.1).2⟩
end Go.Sf.Sc
namespace Go.Sf.Sc
open Go Go.Sf
def Bo(s:Ap)(r:ei)(l:Fp):ci:=⟨r.ec.ci.bq++(Ee s r l).map (AA r.d4.ci.bq),r.ec.ci.ca++(FM s r l).map (TR r (An s r l))⟩
def Oe(s:Ap)(r:ei)(l:Fp):Prop:=∀i∈FM s r l,(AA r.d4.ci.ca i).fu∈An s r l/\(AA r.d4.ci.ca i).To∈An s r l
def RA(n:Nat)(l:Fp):Fp:=(AV n).map λv=>if hasB l v=X then A4 l v else 0
theorem cG{l:Fp}{x:Int}(D:x∉l)(v:Int):A4 (l++[x]) v=if v∈l then A4 l v else if v=x then(l.length:Int)else -1:=by
 have key:∀w:Int,w∈l++[x]->∀k:Int,0<=k->k<l.length+1->AA (l++[x]) k=w->(∀j:Int,0<=j->j<k->AA (l++[x]) j≠w)->A4 (l++[x]) w=k:=by
  intro w A k C E e h;obtain⟨a,b,c,d⟩:=B0 A;rw[a6]at b;by_cases o:A4 (l++[x]) w<k
  .exact absurd c (h _ a o)
  by_cases u:k<A4 (l++[x]) w
  .exact absurd e (d k C u)
  omega
 have left:∀j:Int,0<=j->j<l.length->AA (l++[x]) j=AA l j:=λj p z=>by
  rw [Gt,aE U]
 by_cases o:v∈l
 .rw[aE o];obtain⟨a,b,c,d⟩:=B0 o;exact key v (B! _ o) _ a U (by rw[left _ a b];exact c) λj p z=>by rw[left j p U];exact d j p z
 .rw[aN o];by_cases u:v=x
  .rw[aE u];subst u;refine key v (B? _ (.head _)) _ U U ?_ λj p z e=>?_
   .rw[Gt,aN U];simp[AA]
   .rw[left j p z]at e;exact o (e▸AI p z)
  .rw[aN u];exact IP (by simp[o,u])
variable{n:Nat}
theorem gR{l:Fp}{x:Int}(u:0<=x)(p:x∉l):BN (RA n l) x (l.length:Int)=RA n (l++[x]):=by
 unfold RA;rw[GN _ u];refine C_ λj _=>?_;rw[cG p];by_cases o:j=x
 .subst o;rw[aE rfl,aE (by rw[Ah];simp),aN p,aE rfl]
 .rw[aN o];by_cases e:j∈l
  .rw[aE (Ah.2 e),aE (by rw[Ah];simp[e]),aE e]
  .rw[aN (by rw[Ah];exact e),aN (by rw[Ah];simp[o,e])]
theorem SR(n:Nat)(l:Fp):(RA n l).length=n:=by unfold RA;rw[bd,Am]
theorem gQ(e:n<=4096):FV (n:Int) (0:Int)=Y (RA n []):=by
 unfold FV;rw[aE U];congr 1;refine(C' (by simp[SR]) λi o p=>?_);simp[RA,hasB]
variable{v:Int}
theorem lu{l:Fp}(e:0<=v)(o:v<n)(hv:v∈l):AA (RA n l) v=A4 l v:=by
 unfold RA;rw[Eh _ e o,aE (Ah.2 hv)]
theorem Tn{l:Fp}{n:Int}(e:0<=n)(o:n<=1000):FZ n l=Y (AM l n):=by
 unfold FZ;rw[VU e o λi=>Yj l i];rfl
def Ji(q:Int->Bool)(rest:Fp)(i:Int):Fp:=(rest.take i.toNat).filter q
theorem aA(q:Int->Bool){rest:Fp}{i:Int}(e:0<=i)(o:i<rest.length):Ji q rest (i+1)=Ji q rest i++if q (AA rest i)=X then[AA rest i]else[]:=by
 unfold Ji;rw[Cw e o,List.filter_append];cases h:q (AA rest i)<;>simp[h]
theorem di(q:Int->Bool)(l:Fp)(n:Int):Ji q (AM l n) ((AM l n).length:Int)=Dk (λi=>!hasB l i&&q i) n:=by
 unfold Ji AM Dk;rw[K!,C!,List.filter_filter];congr 1;funext i;rw[Bool.and_comm]
variable{q:Int->Bool}
theorem om{rest:Fp}{i x:Int}(h:x∈Ji q rest i):x∈rest.take i.toNat:=(C?.1 h).1
theorem dj(q:Int->Bool)(rest:Fp)(i:Int):(Ji q rest i).length<=rest.length:=by
 unfold Ji;exact Nat.le_trans (List.length_filter_le _ _) l_
theorem ZL{l:Fp}{i j:Int}(e:0<=j)(h:j<i):AA (l.take i.toNat) j=AA l j:=by
 unfold AA;rw[z?,z?,List.getElem?_take,aE U]
theorem gx{l:Fp}(o:l.Nodup){i:Int}(u:0<=i)(z:i<l.length):AA l i∉l.take i.toNat:=λA=>by
 obtain ⟨j,p,D,e⟩:=BT A;rw[ae]at D;rw[ZL p U]at e;have C:=Hx o u z;have E:=Hx o p (show j<l.length by omega);rw[<-e]at C;omega
theorem ji(l:Fp)(n:Int):(AM l n).Nodup:=by
 rw [show AM l n=Dk (λi=>!hasB l i) n from rfl];unfold Dk;exact List.Pairwise.filter _ (Ua n.toNat)
theorem df{l:Fp}{n x:Int}(h:x∈AM l n):x∉l:=λe=>by
 unfold AM at h;have:=(C?.1 h).2;rw[Ah.2 e]at this;cases this
theorem Gx{n x:Int}:x∈Dk q n↔(0<=x/\x<n)/\q x=X:=by
 unfold Dk;rw[C?];constructor
 .rintro⟨o,p⟩;obtain⟨k,u,rfl⟩:=y!.1 o;rw[D_]at u;have e:Int.ofNat k=(k:Int):=rfl;exact⟨⟨U,U⟩,p⟩
 .rintro⟨⟨o,p⟩,z⟩;exact⟨y!.2 ⟨x.toNat,D_.2 U,Int.toNat_of_nonneg o⟩,z⟩
section
variable{t:AC}{s:Ap}{r:ei}
theorem T5{l:Fp}(e:∀i:Int,0<=i->i<r.ed.bq.length->0<=AA r.ed.bq i/\AA r.ed.bq i<r.d4.ci.bq.length){x:Int}(h:x∈An s r l):0<=x/\x<r.d4.ci.bq.length:=by
 rcases y_.1 h with h|h
 .obtain⟨i,o,p,rfl⟩:=BT h;exact e i o p
 .exact(Gx.1 h).1
theorem uu{p:AZ}(ε:Ca t p.l3.s r=0)(he:Oe p.l3.s r p.Aao):Dl p r=Y ⟨Bo p.l3.s r p.Aao,Ee p.l3.s r p.Aao,FM p.l3.s r p.Aao⟩:=by
 obtain ⟨ζ,ho,l1,l2⟩:=Eg ε;have O:=ho.left;have P:=PO ζ ho.right ho.Aat;have δ:=O.c9;have Z:=O.d6;have n3:=ho.right.c9;have n4:=ho.right.d6;have z:=ho.mor;have A:∀i:Int,0<=i->i<r.ed.bq.length->0<=AA r.ed.bq i/\AA r.ed.bq i<r.d4.ci.bq.length:=λi e o=>(z.node i e o).1;generalize C:p.l3.s=s at *;generalize D:p.Aao=l at *;unfold Dl slices_Clone_int Cf;rw[BM a?,bs,BM a?,bs,gQ U,bs,
  Bs (λi=>RA r.d4.ci.bq.length (r.ed.bq.take i.toNat)) U V,bs,K!,C!,Tn U U,bs,Tn U U]
 .have κ:Ji (λi=>hasB l (AA s.bq (AA r.d4.ci.bq i))) (AM r.ed.bq r.d4.ci.bq.length) ((AM r.ed.bq r.d4.ci.bq.length).length:Int)=Ee s r l:=di _ _ _;have K:Ji (λi=>hasB l (AA s.ca (AA r.d4.ci.ca i).fd)) (AM r.ed.ca r.d4.ci.ca.length) ((AM r.ed.ca r.d4.ci.ca.length).length:Int)=FM s r l:=di _ _ _;have k1:=E3 r.ed.bq r.d4.ci.bq.length;have k2:=E3 r.ed.ca r.d4.ci.ca.length;rw[Bs (λi=>(Cg.mk ⟨r.ec.ci.bq++(Ji (λi=>hasB l (AA s.bq (AA r.d4.ci.bq i))) (AM r.ed.bq r.d4.ci.bq.length) i).map (AA r.d4.ci.bq),r.ec.ci.ca⟩ (Ji (λi=>hasB l (AA s.bq (AA r.d4.ci.bq i))) (AM r.ed.bq r.d4.ci.bq.length) i) [],
    RA r.d4.ci.bq.length (r.ed.bq++Ji (λi=>hasB l (AA s.bq (AA r.d4.ci.bq i))) (AM r.ed.bq r.d4.ci.bq.length) i))) U (by simp[Ji]),bs,bs,κ]
  .rw[Bs (λi=>Cg.mk ⟨r.ec.ci.bq++(Ee s r l).map (AA r.d4.ci.bq),r.ec.ci.ca++(Ji (λi=>hasB l (AA s.ca (AA r.d4.ci.ca i).fd)) (AM r.ed.ca r.d4.ci.ca.length) i).map (TR r (An s r l))⟩ (Ee s r l) (Ji (λi=>hasB l (AA s.ca (AA r.d4.ci.ca i).fd)) (AM r.ed.ca r.d4.ci.ca.length) i)) U (by simp[Ji]),bs,K]
   .rfl
   .intro i e o;have u:=Dn (AI e o);have E:=P.edge _ (AI u.1 u.2);have η:=dj (λi=>hasB l (AA s.ca (AA r.d4.ci.ca i).fd)) (AM r.ed.ca r.d4.ci.ca.length) i;rw[AD e o,bs,AD u.1 u.2,bs,C,AD E.1 E.2,bs,D,Yj,bs,aA _ e o];cases Q:hasB l (AA s.ca (AA r.d4.ci.ca (AA (AM r.ed.ca r.d4.ci.ca.length) i)).fd)with
    |false=>simp only[I',if_false,D']|true=>
     have F:AA (AM r.ed.ca r.d4.ci.ca.length) i∈FM s r l:=by
      refine Gx.2 ⟨u,?_⟩;unfold Hz;rw[Q,Bool.and_true,H?];cases h:hasB r.ed.ca (AA (AM r.ed.ca r.d4.ci.ca.length) i)with
      |false=>rfl|true=>exact absurd (Ah.1 h) (df (AI e o))
     obtain ⟨R,S⟩:=he _ F;have G:=T5 (s:=s) (l:=l) A R;have H:=T5 (s:=s) (l:=l) A S;rw[aE rfl,aE rfl,Ao b_,bs,AD G.1 (by rw[SR];exact G.2),bs,AD H.1 (by rw[SR];exact H.2),bs,Ao b_,bs,show AA (RA r.d4.ci.bq.length (r.ed.bq++Ee s r l)) (AA r.d4.ci.ca (AA (AM r.ed.ca r.d4.ci.ca.length) i)).fu=_ from lu G.1 G.2 R,show AA (RA r.d4.ci.bq.length (r.ed.bq++Ee s r l)) (AA r.d4.ci.ca (AA (AM r.ed.ca r.d4.ci.ca.length) i)).To=_ from lu H.1 H.2 S,D!,<-bk];rfl
  .intro i e o;have u:=Dn (AI e o);have E:=P.node _ (AI u.1 u.2);have η:=dj (λi=>hasB l (AA s.bq (AA r.d4.ci.bq i))) (AM r.ed.bq r.d4.ci.bq.length) i;rw[AD e o,bs,AD u.1 u.2,bs,C,AD E.1 E.2,bs,D,Yj,bs,aA _ e o];cases Q:hasB l (AA s.bq (AA r.d4.ci.bq (AA (AM r.ed.bq r.d4.ci.bq.length) i)))with
   |false=>simp only[I',if_false,D']|true=>
    have L:AA (AM r.ed.bq r.d4.ci.bq.length) i∉r.ed.bq++Ji (λi=>hasB l (AA s.bq (AA r.d4.ci.bq i))) (AM r.ed.bq r.d4.ci.bq.length) i:=λz=>by
     rcases y_.1 z with z|z
     .exact df (AI e o) z
     .exact gx (ji _ _) e o (om z)
    rw [aE rfl,aE rfl,AD u.1 (by rw[SR];exact u.2),bs,Ao b_,bs,bs,Ao b_,bs,D!,<-bk,<-bk];dsimp only;rw[show((r.ec.ci.bq++D? (AA r.d4.ci.bq) (Ji (λi=>hasB l (AA s.bq (AA r.d4.ci.bq i))) (AM r.ed.bq r.d4.ci.bq.length) i)).length:Int)=((r.ed.bq++Ji (λi=>hasB l (AA s.bq (AA r.d4.ci.bq i))) (AM r.ed.bq r.d4.ci.bq.length) i).length:Int)by rw[a6,a6,bd,l1],gR u.1 L];rfl
 .intro i e o;have u:=A i e o;rw[AD e o,bs,AD u.1 (by rw[SR];exact u.2),bs];have:=gR (n:=r.d4.ci.bq.length) u.1 (gx ho.inj.1 e o);rw[ae,show((min i.toNat r.ed.bq.length:Nat):Int)=i by omega]at this;rw[this,Cw e o]
theorem IQ(l:Fp)(v:Int):DU l v=Y (hasB l v):=by
 unfold DU;rw[BX (λi=>decide (AA l i=v)) X]
 .rw[show hasB l v=gh (λi=>decide (AA l i=v)) 0 l.length from by
   unfold hasB;rw[GY];congr 1;funext i;simp[eq_comm]]
  cases gh (λi=>decide (AA l i=v)) 0 (l.length:Int)<;>rfl
 .intro i e o _;rw[AD e o,bs];cases decide (AA l i=v)<;>rfl
variable{n:Nat}
theorem NC{l:Fp}{x:Int}(u:0<=x)(p:x∉l):BN (BU n l) x (l.length:Int)=BU n (l++[x]):=by
 unfold BU;rw[GN _ u];refine C_ λj _=>?_;rw[cG p];by_cases e:j=x
 .subst e;rw[aE rfl,aN p,aE rfl]
 .rw[aN e];by_cases o:j∈l
  .rw[aE o]
  .rw[aN o,aN e,IP o]
theorem V7(q:Int->Bool){a:Fp}{i:Int}:i∈a++Dk q i↔i∈a:=by
 rw [y_];refine⟨λh=>h.resolve_right λe=>?_,.inl⟩;have:=(Gx.1 e).1;omega
theorem vM{l:Fp}(ζ:Ca t s r=0)(he:Oe s r l):QU s r l=Y ⟨Bo s r l,BU r.d4.ci.bq.length (An s r l),BU r.d4.ci.ca.length (r.ed.ca++FM s r l)⟩:=by
 obtain ⟨hs,ho,l1,l2⟩:=Eg ζ;have S:=ho.left;have ε:=PO hs ho.right ho.Aat;have n1:=S.c9;have n2:=S.d6;have n3:=ho.right.c9;have n4:=ho.right.d6;have A:=ho.mor;have F:∀i:Int,0<=i->i<r.ed.bq.length->0<=AA r.ed.bq i/\AA r.ed.bq i<r.d4.ci.bq.length:=λi o p=>(A.node i o p).1;unfold QU;rw[cz U U,bs,cx U U ho.inj.1,bs,cx U U ho.inj.2,bs,
  YX (λi=>(CS.mk ⟨r.ec.ci.bq++(Dk (JZ s r l) i).map (AA r.d4.ci.bq),r.ec.ci.ca⟩ (BU r.d4.ci.bq.length (r.ed.bq++Dk (JZ s r l) i)) (BU r.d4.ci.ca.length r.ed.ca),i)) (a:=0) (b:=r.d4.ci.bq.length) U (by simp[Dk]),CI,
  YX (λi=>(CS.mk ⟨r.ec.ci.bq++(Ee s r l).map (AA r.d4.ci.bq),r.ec.ci.ca++(Dk (Hz s r l) i).map (TR r (An s r l))⟩ (BU r.d4.ci.bq.length (An s r l)) (BU r.d4.ci.ca.length (r.ed.ca++Dk (Hz s r l) i)),i)) (a:=0) (b:=r.d4.ci.ca.length) U (by simp[Dk,An,Ee]),CI]
 .rfl
 .intro i o p;have C:=ε.edge _ (AI o p);have δ:=I6 (Hz s r l) i;have E:A4 (r.ed.ca++Dk (Hz s r l) i) i<0↔i∉r.ed.ca:=by
   rw [<-V7 (Hz s r l) (a:=r.ed.ca),<-Gp];omega
  dsimp only;rw[aE l!,AD o p,bs,AD o (by rw[Cq];exact p),bs,Er o p];cases e:Hz s r l i with
  |false=>
   have G:(if(decide (A4 (r.ed.ca++Dk (Hz s r l) i) i<0))=X then((idx s.ca (AA r.d4.ci.ca i).fd).bind λu=>(DU l u).bind λz=>Y (z))else Y T)=Y T:=by
    by_cases h:i∈r.ed.ca
    .rw[aN (by simp[E,h])]
    .rw[aE (by simp[E,h]),AD C.1 C.2,bs,IQ,bs];unfold Hz at e;rw[Bool.and_eq_false_iff]at e;rcases e with e|e
     .rw[Bool.not_eq_false',Ah]at e;exact absurd e h
     .rw[e]
   rw [G,bs,aN a_,bs,aN a_,bs,aN a_,M9 _ o,e,aN a_,D',Au U U]
  |true=>
   have H:i∈FM s r l:=Gx.2 ⟨⟨o,p⟩,e⟩;obtain⟨κ,η⟩:=he _ H;have K:=T5 (s:=s) (l:=l) F κ;have L:=T5 (s:=s) (l:=l) F η;have m1:=Gp.2 κ;have Z:=Gp.2 η;unfold Hz at e;rw[kp,H?]at e;have h:i∉r.ed.ca:=λA=>by rw[Ah.2 A]at e;cases e.1
   have G:(if(decide (A4 (r.ed.ca++Dk (Hz s r l) i) i<0))=X then((idx s.ca (AA r.d4.ci.ca i).fd).bind λu=>(DU l u).bind λz=>Y (z))else Y T)=Y X:=by
    rw [aE (by simp[E,h]),AD C.1 C.2,bs,IQ,bs,e.2]
   have D:i∉r.ed.ca++Dk (Hz s r l) i:=λA=>h ((V7 _).1 A);have R:Hz s r l i=X:=by unfold Hz;rw[e.1,e.2];rfl
   rw [G,bs,aE rfl,AD K.1 (by rw[Cq];exact K.2),bs,Er K.1 K.2,bs,decide_eq_true m1,aE rfl,AD L.1 (by rw[Cq];exact L.2),bs,Er L.1 L.2,bs,decide_eq_true Z,aE rfl,bs,bs,bs,Ao b_,bs,M9 _ o,R,aE rfl,D!,<-bk,<-bk,Au U U,
    show ((r.ec.ci.ca++D? (TR r (An s r l)) (Dk (Hz s r l) i)).length:Int)=((r.ed.ca++Dk (Hz s r l) i).length:Int)by rw[a6,a6,bd,l2],NC o D]
   rfl
 .dsimp only;rw[aN V]
 .intro i o p;have C:=ε.node _ (AI o p);have δ:=I6 (JZ s r l) i;have E:A4 (r.ed.bq++Dk (JZ s r l) i) i<0↔i∉r.ed.bq:=by
   rw [<-V7 (JZ s r l) (a:=r.ed.bq),<-Gp];omega
  dsimp only;rw[aE l!,AD o (by rw[Cq];exact p),bs,Er o p];have G:(if(decide (A4 (r.ed.bq++Dk (JZ s r l) i) i<0))=X then((idx r.d4.ci.bq i).bind λO=>(idx s.bq O).bind λP=>(DU l P).bind λQ=>Y (Q))else Y T)=Y (JZ s r l i):=by
   rw [show JZ s r l i=(!hasB r.ed.bq i&&hasB l (AA s.bq (AA r.d4.ci.bq i)))from rfl];by_cases h:i∈r.ed.bq
   .rw[aN (by simp[E,h]),Ah.2 h];rfl
   .rw[aE (by simp[E,h]),AD o p,bs,AD C.1 C.2,bs,IQ,bs];have:hasB r.ed.bq i=T:=by rw[<-I!,Ah];exact h
    rw [this];rfl
  rw [G,bs,M9 _ o];cases e:JZ s r l i with
  |false=>rw[aN a_,aN a_,D',Au U U]|true=>
   have D:i∉r.ed.bq++Dk (JZ s r l) i:=λA=>by
    have:=(V7 _).1 A;unfold JZ at e;rw[Ah.2 this]at e;cases e
   rw [aE rfl,aE rfl,bs,AD o p,bs,Ao b_,bs,D!,<-bk,<-bk,Au U U,
    show ((r.ec.ci.bq++D? (AA r.d4.ci.bq) (Dk (JZ s r l) i)).length:Int)=((r.ed.bq++Dk (JZ s r l) i).length:Int)by rw[a6,a6,bd,l1],NC o D]
   rfl
 .dsimp only;rw[aN V]
end
end Go.Sf.Sc
namespace Go.Sf.Sc
open Go Go.Sf
structure XQ(t:AC)(s:Ap):Prop where
 ok:Eb t
 node:∀i:Int,0<=i->i<t.bq.length->JJ (AA s.bq i)=X/\(0<=par t i->AA s.bq (par t i)=AA s.bq i)
 edge:∀i:Int,0<=i->i<t.ca.length->AA s.bq (AA t.ca i).fu=AA s.ca i/\(AA s.bq (AA t.ca i).To≠AA s.ca i↔AA s.ca i=2)
theorem N1{t:AC}{s:Ap}(h:DJ t s=0):XQ t s:=by
 obtain ⟨H,D⟩:=LT h;unfold DJ at h;rw[aN (by simp[H]),aN (by simp[D.z5,D.Aaf])]at h;cases u:fst (LR t s) 0 t.bq.length with
 |some e=>
  rw [u]at h;simp only at h;obtain⟨i,_,_,o,_⟩:=Db u;unfold LR at o;split at o
  .cases o;cases h
  .split at o
   .cases o;cases h
   .cases o
 |none=>
  rw [u]at h;simp only at h;have G:=SK h;rw[BY]at u;refine⟨D.types,λi z A=>?_,λi z A=>?_⟩
  .have:=u i z A;unfold LR at this;split at this
   .cases this
   .rename_i F;split at this
    .cases this
    .rename_i p;refine⟨by simpa using F,λE=>?_⟩;by_cases C:AA s.bq (par t i)=AA s.bq i
     .exact C
     .exact absurd ⟨E,C⟩ p
  .have:=G i z A;unfold PM at this;split at this
   .cases this
   .split at this
    .cases this
    next p=>simp only[I?,H?,decide_eq_false_iff_not,beq_iff_eq,not_or,Decidable.not_not]at p;refine⟨p.1,?_⟩;have K:=p.2;by_cases E:AA s.bq (AA t.ca i).To=AA s.ca i<;>by_cases C:AA s.ca i=2<;>simp_all
theorem iB{t:AC}{s:Ap}(h:XQ t s):∀(n:Nat)(a:Int),0<=a->a<t.bq.length->∀x∈Gc t n a,AA s.bq x=AA s.bq a
 |0,_,_,_,x,e=>by simp[Gc]at e|n+1,a,a0,a1,x,e=>by
  rw [Gc,aN U]at e;rcases w?.1 e with rfl|e
  .rfl
  .by_cases o:0<=par t a
   .have p:=h.ok.par a a0 a1;rw[iB h n (par t a) o U x e];exact(h.node a a0 a1).2 o
   .cases n with
    |zero=>simp[Gc]at e|succ n=>rw[Gc,aE U]at e;cases e
variable{a b:Int}
theorem fv{t:AC}{s:Ap}(h:XQ t s)(a0:0<=a)(a1:a<t.bq.length)(o:isB t a b=X):AA s.bq b=AA s.bq a:=by
 unfold isB at o;obtain⟨x,p,e⟩:=x!.1 o;rw[p0]at e;rw[e];exact iB h _ a a0 a1 x p
theorem YV{t:AC}{s:Ap}{r:ei}(h:Ca t s r=0):DJ t s=0/\GV t r=0:=by
 unfold Ca at h;split at h
 .omega
 split at h
 .omega
 exact ⟨U,U⟩
theorem jm{t:AC}{r:ei}(h:GV t r=0):RQ t r.d4.ci (EK r) (Ht r)=X:=by
 cases e:RQ t r.d4.ci (EK r) (Ht r)with
 |true=>rfl|false=>
  unfold GV at h;rw[e]at h
  grind
theorem Yl{t:AC}{s:Ap}{r:ei}{l:Fp}(h:Ca t s r=0)(Q:hasB l 2=X->hasB l 1=X/\hasB l 3=X):Oe s r l:=by
 obtain ⟨κ,η⟩:=YV h;obtain⟨_,ho,_,_⟩:=Eg h;have A:=N1 κ;have u:=jm η;have z:=ET ho.right ho.Aat;intro i hi;obtain⟨⟨O,P⟩,p⟩:=Gx.1 hi;unfold Hz at p;rw[kp,H?]at p;have D:i∈Ht r:=by
  show i∈Dk (λi=>!hasB r.ed.ca i) _;exact Gx.2 ⟨⟨O,P⟩,by rw[p.1];rfl⟩
 have o:D4 t r.d4.ci i=X:=by
  unfold RQ at u;rw[kp,H?,H?]at u;have:=x?.1 u.2 i D;simpa using this
 unfold D4 Ld at o;simp only[kp,p0]at o;obtain⟨⟨_,e0,ζ⟩,δ,Z⟩:=o;have hf:=ho.right.fit _ (AI O P);have F:=z.1 _ (AI (l:=r.d4.ci.bq) (i:=(AA r.d4.ci.ca i).fu) U U);have C:=z.1 _ (AI (l:=r.d4.ci.bq) (i:=(AA r.d4.ci.ca i).To) U U);have ε:=fv A F.1 F.2 δ;have G:=fv A C.1 C.2 Z;obtain⟨g1,g2⟩:=A.edge _ e0 ζ;have key:∀x:Int,0<=x->x<r.d4.ci.bq.length->hasB l (AA s.bq (AA r.d4.ci.bq x))=X->x∈An s r l:=λx R x1 S=>by
  by_cases H:x∈r.ed.bq
  .exact B! _ H
  .refine B? _ (Gx.2 ⟨⟨R,x1⟩,?_⟩);unfold JZ;have:hasB r.ed.bq x=T:=by rw[<-I!,Ah];exact H
   rw [this,S];rfl
 refine ⟨key _ U U (by rw[<-ε,g1];exact p.2),key _ U U ?_⟩;rw[<-G];by_cases K:AA s.ca (AA r.d4.ci.ca i).fd=2
 .rw[K]at p;obtain⟨k1,k3⟩:=Q p.2;have E:=(A.node _ C.1 C.2).1;rw[<-G]at E;unfold JJ at E;simp only[kp,p0]at E;have:AA s.bq (AA t.ca (AA r.d4.ci.ca i).fd).To=1\/AA s.bq (AA t.ca (AA r.d4.ci.ca i).fd).To=2\/AA s.bq (AA t.ca (AA r.d4.ci.ca i).fd).To=3:=U
  rcases this with e|e|e<;>rw[e]
  .exact k1
  .exact p.2
  .exact k3
 .have:AA s.bq (AA t.ca (AA r.d4.ci.ca i).fd).To=AA s.ca (AA r.d4.ci.ca i).fd:=by
   by_cases L:AA s.bq (AA t.ca (AA r.d4.ci.ca i).fd).To=AA s.ca (AA r.d4.ci.ca i).fd
   .exact L
   .exact absurd (g2.1 L) K
  rw [this];exact p.2
end Go.Sf.Sc
namespace Go.Sf.Sc
open Go Go.Sf
theorem oa(l:Fp)(n:Int):(AM l n).Pairwise (·<·):=by
 unfold AM;refine List.Pairwise.filter _ ?_;rw[E_];exact List.Pairwise.imp (λh=>Int.ofNat_lt.2 h) List.pairwise_lt_range
theorem Ir{l:Fp}{n x:Int}:x∈AM l n↔(0<=x/\x<n)/\x∉l:=by
 show x∈Dk (λi=>!hasB l i) n↔_;rw[Gx,H?,<-I!,Ah]
variable{σ:Type}
theorem ko{f:Int->σ->Option σ}{l:Fp}{n:Int}(G:Int->σ)(n0:0<=n)(A:∀i,0<=i->i<n->i∈l->G (i+1)=G i)
  (C:∀k:Int,0<=k->k<(AM l n).length->f k (G (AA (AM l n) k))=Y (G (AA (AM l n) k+1))):kx f 0 ((AM l n).length:Int) (G 0)=Y (G n):=by
 have P:=oa l n;have lt:∀i j:Int,0<=i->i<j->j<(AM l n).length->AA (AM l n) i<AA (AM l n) j:=λi j o ij ε=>by
  have:=List.pairwise_iff_getElem.1 P i.toNat j.toNat U U U;unfold AA;rw[z?,z?,z_ U,z_ U];exact this
 have D:∀(m:Nat)(a:Int),0<=a->a+m<=n->(∀i,a<=i->i<a+m->i∈l)->G a=G (a+m):=by
  intro m
  induction m with
  |zero=>intro a _ _ _;simp|succ m ih=>
   intro a a0 η F;rw[ih a a0 U λi o H=>F i o U];rw[show a+((m+1:Nat):Int)=a+m+1 by omega];exact(A _ U U (F _ U U)).symm
 have K:∀a b:Int,0<=a->a<=b->b<=n->(∀i,a<=i->i<b->i∈l)->G a=G b:=λa b a0 ab hb h=>by
  have:=D (b-a).toNat a a0 U (λi o H=>h i o U)
  rwa [show a+((b-a).toNat:Int)=b by omega]at this
 let e:Int->Int:=λk=>if k<(AM l n).length then AA (AM l n) k else n
 have p:∀k:Int,0<=k->k<=(AM l n).length->0<=e k/\e k<=n:=λk u E=>by
  show 0<=(if k<(AM l n).length then AA (AM l n) k else n)/\(if k<(AM l n).length then AA (AM l n) k else n)<=n;split
  next h=>have:=Dn (AI u h);omega
  .omega
 have L:∀k i:Int,0<=k->k<=(AM l n).length->(0<k->AA (AM l n) (k-1)<i)->0<=i->i<e k->i∈l:=λk i u E z o hi=>by
  by_cases κ:i∈l
  .exact κ
  have ζ:=(p k u E).2;have O:i∈AM l n:=Ir.2 ⟨⟨o,U⟩,κ⟩;obtain⟨j,j0,ε,rfl⟩:=BT O;have Q:e k=if k<(AM l n).length then AA (AM l n) k else n:=rfl;by_cases η:j<k
  .by_cases F:j=k-1
   .have:=z U;rw[F]at this;omega
   .have:=lt j (k-1) j0 U U;have:=z U;omega
  .have R:k<(AM l n).length:=U
   rw [Q,aE R]at hi;by_cases F:j=k
   .rw[F]at hi;omega
   .have:=lt k j u U ε;omega
 have δ:G (e 0)=G 0:=(K 0 (e 0) U (p 0 U U).1 (p 0 U U).2 λi o H=>L 0 i U U (λh=>absurd h U) o H).symm;rw[Bs (λk=>G (e k)) U δ]
 .show Y (G (if((AM l n).length:Int)<(AM l n).length then _ else n))=_;rw[aN U]
 .intro k u E;have Z:e k=AA (AM l n) k:=aE E;have hx:=Dn (AI u E);have R:=p (k+1) U U;have S:AA (AM l n) k+1<=e (k+1):=by
   show _<=(if k+1<(AM l n).length then AA (AM l n) (k+1)else n);split
   next h=>have:=lt k (k+1) u U h;omega
   .omega
  rw [Z,C k u E,K (AA (AM l n) k+1) (e (k+1)) U S R.2 λi o H=>L (k+1) i U U (λ_=>by rw[show k+1-1=k by omega];omega) U H]
def F7(θ yN:Fp)(gn:Nat)(v:Int):Int:=if hasB θ v=X then AA yN (A4 θ v)else(gn:Int)+((AM θ v).length:Int)
structure JM(I0 J θ yN:Fp)(gn:Nat):Prop where
 jt:∀v∈J,v∈θ
 Abv:yN.length=θ.length
 yr:∀k∈yN,0<=k/\k<gn
 ynd:yN.Nodup
 fit:∀v∈θ,v∉J->AA yN (A4 θ v)∉I0
 ir:∀k∈I0,0<=k/\k<gn
def DN(I0 J θ yN:Fp)(gn:Nat)(v:Int):Fp:=I0++(AM J v).map (F7 θ yN gn)
variable{v:Int}
theorem OY{l:Fp}(e:0<=v)(h:v∈l):AM l (v+1)=AM l v:=by
 rw [Iq l e,Ah.2 h];simp
theorem P2{l:Fp}(e:0<=v)(h:v∉l):AM l (v+1)=AM l v++[v]:=by
 have:hasB l v=T:=by rw[<-I!,Ah];exact h
 rw [Iq l e,this];simp
variable{w:Int}
theorem mK{l:Fp}(e:0<=v)(h:v<=w):(AM l v).length<=(AM l w).length:=by
 have key:∀m:Nat,(AM l v).length<=(AM l (v+m)).length:=by
  intro m
  induction m with
  |zero=>simp|succ m o=>
   rw [show v+((m+1:Nat):Int)=v+m+1 by omega,Iq l U,a6];omega
 have:=key (w-v).toNat
 rwa [show v+((w-v).toNat:Int)=w by omega]at this
section
variable{I0 J θ yN:Fp}{gn:Nat}
variable{v:Int}
theorem Pp(h:JM I0 J θ yN gn)(hv:v∈θ):F7 θ yN gn v=AA yN (A4 θ v)/\(0<=F7 θ yN gn v/\F7 θ yN gn v<gn):=by
 obtain ⟨a,b,_,_⟩:=B0 hv;have e:F7 θ yN gn v=AA yN (A4 θ v):=v?
 rw [e];exact⟨rfl,h.yr _ (AI a (by rw[h.Abv];exact b))⟩
theorem J1(hv:v∉θ):F7 θ yN gn v=(gn:Int)+((AM θ v).length:Int):=by
 unfold F7;rw[aN (by rw[Ah];exact hv)]
variable{k:Int}
theorem OO(h:JM I0 J θ yN gn)(e:k∈DN I0 J θ yN gn v):0<=k/\k<(gn:Int)+((AM θ v).length:Int):=by
 rcases y_.1 e with e|e
 .have:=h.ir k e;omega
 .obtain⟨w,z,rfl⟩:=y!.1 e;obtain⟨⟨w0,A⟩,_⟩:=Ir.1 z;by_cases o:w∈θ
  .have:=(Pp h o).2;omega
  .rw[J1 o];have u:=P2 w0 o;have p:=mK (l:=θ) (v:=w+1) (w:=v) U U;rw[u,a6]at p;simp at p;omega
theorem VL(h:JM I0 J θ yN gn)(F:0<=v)(hv:v∉J):F7 θ yN gn v∉DN I0 J θ yN gn v:=λp=>by
 by_cases u:v∈θ
 .obtain⟨e,_,G⟩:=Pp h u;rcases y_.1 p with p|p
  .exact h.fit v u hv (e▸p)
  .obtain⟨w,D,z⟩:=y!.1 p;obtain⟨⟨w0,H⟩,_⟩:=Ir.1 D;by_cases o:w∈θ
   .obtain⟨f,_,_⟩:=Pp h o;obtain⟨a,b,E,_⟩:=B0 u;obtain⟨c,d,c3,_⟩:=B0 o;rw[e,f]at z;have C:=Hx h.ynd a (by rw[h.Abv];exact b);have A:=Hx h.ynd c (by rw[h.Abv];exact d);rw[z,C]at A;rw[A,c3]at E;omega
   .rw[J1 o]at z;omega
 .have:=OO h p;rw[J1 u]at this;omega
theorem U5(e:0<=v)(hv:v∈J):DN I0 J θ yN gn (v+1)=DN I0 J θ yN gn v:=by
 unfold DN;rw[OY e hv]
theorem NX(e:0<=v)(hv:v∉J):DN I0 J θ yN gn (v+1)=DN I0 J θ yN gn v++[F7 θ yN gn v]:=by
 unfold DN;rw[P2 e hv,D!,bk];rfl
end
variable{N:Nat}{I:Fp}
theorem Xy{p:Int}(e:0<=p):BN ((AV N).map (hasB I)) p X=(AV N).map (hasB (I++[p])):=by
 rw [GN _ e];refine C_ λj _=>?_;by_cases h:j=p
 .rw[aE h,h];exact(Ah.2 V).symm
 .rw[aN h,J_,Ah,Ah];simp[h]
theorem lK(h:∀k∈I,k<(N:Int)):(AV N).map (hasB I)++[T]=(AV (N+1)).map (hasB I):=by
 rw [PQ,D!];congr 1;have:hasB I (N:Int)=T:=by
  rw [<-I!,Ah];intro e;have:=h _ e;omega
 simp [this]
theorem mu(h:∀k∈I,k<(N:Int)):BU N I++[-1]=BU (N+1) I:=by
 unfold BU;rw[PQ,D!];congr 1;have:A4 I (N:Int)=-1:=IP λe=>by
  have:=h _ e;omega
 simp [this]
variable{v:Int}
theorem NY{J S:Fp}(p:v∉J)(o:v∈S):A4 (J++S) v=(J.length:Int)+A4 S v:=by
 obtain ⟨a,b,c,d⟩:=B0 o;obtain⟨e,f,g,h⟩:=B0 (B? J o);have u:AA (J++S) ((J.length:Int)+A4 S v)=v:=by
  rw [Gt,aN U];have:(((J.length:Int)+A4 S v).toNat-J.length)=(A4 S v).toNat:=U
  unfold AA at c;rw[this];exact c
 by_cases z:(J.length:Int)+A4 S v<A4 (J++S) v
 .exact absurd u (h _ U z)
 by_cases A:A4 (J++S) v<(J.length:Int)
 .rw[Gt,aE U]at g;exact absurd (g▸AI e A) p
 .rw[Gt,aN U]at g;by_cases C:A4 (J++S) v<(J.length:Int)+A4 S v
  .have:=d (A4 (J++S) v-J.length) U U;refine absurd ?_ this;unfold AA;rw[show(A4 (J++S) v-(J.length:Int)).toNat=(A4 (J++S) v).toNat-J.length by omega];exact g
  .omega
end Go.Sf.Sc
namespace Go.Sf.Sc
open Go Go.Sf
variable{v:Int}
theorem U6{J S:Fp}(h:v∈J):A4 (J++S) v=A4 J v:=by
 obtain ⟨a,b,c,d⟩:=B0 h;obtain⟨e,f,g,k⟩:=B0 (B! S h);by_cases o:A4 J v<A4 (J++S) v
 .exact absurd (by rw[Gt,aE U];exact c) (k _ a o)
 by_cases p:A4 (J++S) v<A4 J v
 .rw[Gt,aE U]at g;exact absurd g (d _ e p)
 omega
theorem cc{l a:Fp}(p:l.length<=1000):Hm l a=Y (l.map (A4 a)):=by
 unfold Hm;rw[cL (F:=A4 a) λi s e o u=>?_]
 .rfl
 .rw[AD e o,bs,Yu,bs,Ao b_,bs]
variable{α:Type}
theorem YQ{l:List α}{n:Int}(e:0<=n)(o:n<=l.length):slc l 0 n=Y (l.take n.toNat):=by
 unfold slc;rw[aE U];simp
structure IJ(x:AH):Prop where
 c9:x.c9=(AV x.d7.bq.length).map (hasB x.l4.bq)
 d6:x.d6=(AV x.d7.ca.length).map (hasB x.l4.ca)
 nin:∀k∈x.l4.bq,0<=k/\k<x.d7.bq.length
 ein:∀k∈x.l4.ca,0<=k/\k<x.d7.ca.length
 nnd:x.l4.bq.Nodup
 Abl:x.l4.ca.Nodup
 z5:x.d7.bq.length<=40
 Aaf:x.d7.ca.length<=80
 mlen:x.kg.length<=1000
theorem IJ.nodes'{x:AH}(h:IJ x):x.c9=(AV (x.d7.bq.length+([]:Fp).length)).map (hasB x.l4.bq):=h.c9
theorem IJ.edges'{x:AH}(h:IJ x):x.d6=(AV (x.d7.ca.length+([]:Fp).length)).map (hasB x.l4.ca):=h.d6
def Lb(r:ei)(θ yN:Fp)(gn:Nat)(i:Int):B3:=⟨(AA r.d4.ci.ca i).fd,F7 θ yN gn (AA r.d4.ci.ca i).fu,F7 θ yN gn (AA r.d4.ci.ca i).To⟩
def BQ(s:Ap)(r:ei)(l:Fp):Fp:=r.ed.ca++FM s r l
def Cj(x:AH)(rule:Int)(s:Ap)(r:ei)(l:Fp)(y:cE):AH:=
 ⟨⟨x.d7.bq++(AM (An s r l) r.d4.ci.bq.length).map (AA r.d4.ci.bq),
  x.d7.ca++(AM (BQ s r l) r.d4.ci.ca.length).map (Lb r (An s r l) y.bq x.d7.bq.length)⟩,
 (AV (x.d7.bq.length+(AM (An s r l) r.d4.ci.bq.length).length)).map (hasB (DN x.l4.bq r.ed.bq (An s r l) y.bq x.d7.bq.length r.d4.ci.bq.length)),
 (AV (x.d7.ca.length+(AM (BQ s r l) r.d4.ci.ca.length).length)).map (hasB (DN x.l4.ca r.ed.ca (BQ s r l) y.ca x.d7.ca.length r.d4.ci.ca.length)),
 x.kg++[⟨rule,⟨⟨(y.bq.take r.ec.ci.bq.length).map (A4 x.l4.bq),(y.ca.take r.ec.ci.ca.length).map (A4 x.l4.ca)⟩,[]⟩⟩],
 ⟨DN x.l4.bq r.ed.bq (An s r l) y.bq x.d7.bq.length r.d4.ci.bq.length,DN x.l4.ca r.ed.ca (BQ s r l) y.ca x.d7.ca.length r.d4.ci.ca.length⟩⟩
def Ug(n:Nat)(J θ yN:Fp)(gn:Nat)(v:Int):Fp:=(AV n).map λu=>if hasB J u||decide (u<v)then F7 θ yN gn u else 0
theorem V5(n:Nat)(J θ yN:Fp)(gn:Nat)(v:Int):(Ug n J θ yN gn v).length=n:=by unfold Ug;rw[bd,Am]
variable{n:Nat}
theorem gP{J θ yN:Fp}{gn:Nat}(e:0<=v):BN (Ug n J θ yN gn v) v (F7 θ yN gn v)=Ug n J θ yN gn (v+1):=by
 unfold Ug;rw[GN _ e];refine C_ λj _=>?_;by_cases h:j=v
 .subst h;rw[aE rfl,aE (by rw[I?,p0];exact .inr U)]
 .rw[aN h];have:decide (j<v)=decide (j<v+1):=by
   rw [J_,p0,p0];omega
  rw [this]
theorem vD{J θ yN:Fp}{gn:Nat}(hv:v∈J):Ug n J θ yN gn (v+1)=Ug n J θ yN gn v:=by
 unfold Ug;refine C_ λj _=>?_;by_cases h:j=v
 .subst h;rw[Ah.2 hv];simp
 .have:decide (j<v)=decide (j<v+1):=by
   rw [J_,p0,p0];omega
  rw [this]
theorem lr{J θ yN:Fp}{gn:Nat}(o:0<=v)(e:v<n):AA (Ug n J θ yN gn n) v=F7 θ yN gn v:=by
 unfold Ug;rw[Eh _ o e,aE d!]
variable{σ:Type}{s0:σ}
theorem Xk{f:Int->σ->Option σ}{l:Fp}{n:Int}(G:Int->σ)(p:s0=G 0)(u:0<=n)(e:∀i,0<=i->i<n->i∈l->G (i+1)=G i)
  (o:∀k:Int,0<=k->k<(AM l n).length->f k (G (AA (AM l n) k))=Y (G (AA (AM l n) k+1))):kx f 0 ((AM l n).length:Int) s0=Y (G n):=by
 subst p;exact ko G u e o
def cu(n:Nat)(J θ yN:Fp)(gn:Nat)(i:Int):Fp:=(AV n).map λu=>if hasB (J.take i.toNat) u=X then F7 θ yN gn u else 0
theorem sB{I0 J S yN:Fp}{gn:Nat}(h:JM I0 J (J++S) yN gn)(C:J.Nodup)(p:∀v∈J,0<=v){i:Int}(u:0<=i)(z:i<J.length):BN (cu n J (J++S) yN gn i) (AA J i) (AA yN i)=cu n J (J++S) yN gn (i+1):=by
 have A:=AI u z;have e:AA yN i=F7 (J++S) yN gn (AA J i):=by
  rw [(Pp h (h.jt _ A)).1,U6 A,Hx C u z]
 unfold cu;rw[GN _ (p _ A),Cw u z];refine C_ λj _=>?_;by_cases o:j=AA J i
 .rw[aE o,aE (by rw[o,Ah];simp),e,o]
 .rw[aN o];have:hasB (J.take i.toNat++[AA J i]) j=hasB (J.take i.toNat) j:=by
   rw [J_,Ah,Ah];simp[o]
  rw [this]
theorem oG{t:AC}{s:Ap}{r:ei}{l:Fp}{x:AH}{rule:Int}{y:cE}(ht:Ca t s r=0)(hi:IJ x)
  (K:JM x.l4.bq r.ed.bq (An s r l) y.bq x.d7.bq.length)(he:JM x.l4.ca r.ed.ca (BQ s r l) y.ca x.d7.ca.length):
  EI x rule r ⟨Bo s r l,Ee s r l,FM s r l⟩ y=Y (Cj x rule s r l y):=by
 obtain ⟨hs,ho,l1,l2⟩:=Eg ht;have Z:=ho.left;have hR:=PO hs ho.right ho.Aat;have n1:=Z.c9;have n2:=Z.d6;have n3:=ho.right.c9;have n4:=ho.right.d6;have C:=ho.mor;have g1:=hi.z5;have g2:=hi.Aaf;have g3:=hi.mlen;have Q:∀i:Int,0<=i->i<r.ed.bq.length->0<=AA r.ed.bq i/\AA r.ed.bq i<r.d4.ci.bq.length:=λi D δ=>(C.node i D δ).1;have y1:=K.Abv;have y2:=he.Abv;have T1:(An s r l).length=r.ed.bq.length+(Ee s r l).length:=a6 ..;have T2:(BQ s r l).length=r.ed.ca.length+(FM s r l).length:=a6 ..;have k1:=I6 (JZ s r l) r.d4.ci.bq.length;have k2:=I6 (Hz s r l) r.d4.ci.ca.length;have k3:(Ee s r l).length<=40:=by unfold Ee;omega
 have k4:(FM s r l).length<=80:=by unfold FM;omega
 have δ:x.l4.bq.length<=1000:=by
  have:=Jz hi.nnd hi.nin;omega
 have i2:x.l4.ca.length<=1000:=by
  have:=Jz hi.Abl hi.ein;omega
 have sN:slc y.bq 0 (r.ec.ci.bq.length:Int)=Y (y.bq.take r.ec.ci.bq.length):=by
  rw [YQ U U,K!]
 have sE:slc y.ca 0 (r.ec.ci.ca.length:Int)=Y (y.ca.take r.ec.ci.ca.length):=by
  rw [YQ U U,K!]
 unfold EI slices_Clone_int Cf HT JH;rw[sN,bs,cc l_,bs,sE,bs,cc l_,bs,
  BM a?,bs,BM a?,bs,BM (by rw[hi.c9,bd,Am];unfold Ak;omega),bs,BM (by rw[hi.d6,bd,Am];unfold Ak;omega),bs,
  BM a?,bs,Ao d?,bs,BM a?,bs,BM a?,bs,gQ U,bs,
  Bs (λi=>cu r.d4.ci.bq.length r.ed.bq (An s r l) y.bq x.d7.bq.length i) U (by simp[cu,RA,hasB]),bs,Tn U U,bs,Tn U U]
 .have ε:∀l:Fp,AM l 0=[]:=λl=>by simp[AM]
  have L:∃L,L=(NI.mk rule (Ar.mk (cE.mk ((y.bq.take r.ec.ci.bq.length).map (A4 x.l4.bq)) ((y.ca.take r.ec.ci.ca.length).map (A4 x.l4.ca))) [])):=⟨_,rfl⟩;obtain⟨L,R⟩:=L;rw[<-R,Xk (λv=>(AH.mk ⟨x.d7.bq++(AM (An s r l) v).map (AA r.d4.ci.bq),x.d7.ca⟩ ((AV (x.d7.bq.length+(AM (An s r l) v).length)).map (hasB (DN x.l4.bq r.ed.bq (An s r l) y.bq x.d7.bq.length v))) x.d6 (x.kg++[L]) ⟨DN x.l4.bq r.ed.bq (An s r l) y.bq x.d7.bq.length v,x.l4.ca⟩,
    Ug r.d4.ci.bq.length r.ed.bq (An s r l) y.bq x.d7.bq.length v)) ?_ U ?_ ?_,bs,bs,
   Xk (λv=>AH.mk ⟨x.d7.bq++(AM (An s r l) r.d4.ci.bq.length).map (AA r.d4.ci.bq),x.d7.ca++(AM (BQ s r l) v).map (Lb r (An s r l) y.bq x.d7.bq.length)⟩ ((AV (x.d7.bq.length+(AM (An s r l) r.d4.ci.bq.length).length)).map (hasB (DN x.l4.bq r.ed.bq (An s r l) y.bq x.d7.bq.length r.d4.ci.bq.length)))
    ((AV (x.d7.ca.length+(AM (BQ s r l) v).length)).map (hasB (DN x.l4.ca r.ed.ca (BQ s r l) y.ca x.d7.ca.length v))) (x.kg++[L]) ⟨DN x.l4.bq r.ed.bq (An s r l) y.bq x.d7.bq.length r.d4.ci.bq.length,DN x.l4.ca r.ed.ca (BQ s r l) y.ca x.d7.ca.length v⟩) ?_ U ?_ ?_,bs]
  .rw[R];rfl
  .have e0:DN x.l4.ca r.ed.ca (BQ s r l) y.ca x.d7.ca.length 0=x.l4.ca:=by
    unfold DN;rw[ε];simp
   (try dsimp only)
   rw [ε,e0,<-hi.edges'];simp
  .intro i D E u
   (try dsimp only)
   rw [OY D (he.jt _ u),U5 D u]
  .intro k P F;have G:=AI P F;obtain⟨⟨A,O⟩,z⟩:=Ir.1 G;generalize hv:AA (AM r.ed.ca r.d4.ci.ca.length) k=v at *;have lo:=λk H=>(OO he (v:=v) (k:=k) H).2;have q1:=E3 (BQ s r l) v;have q2:=E3 r.ed.ca v;have q3:(DN x.l4.ca r.ed.ca (BQ s r l) y.ca x.d7.ca.length v).length<=2000:=by
    unfold DN;rw[a6,bd];omega
   have fit:=ho.right.fit _ (AI A O)
   (try dsimp only)
   rw [AD P F,bs,hv,Yu,bs];by_cases o:v∈FM s r l
   .have p:v∈BQ s r l:=B? _ o;obtain⟨e,S,f1⟩:=Pp he p;have κ:A4 (BQ s r l) v=(r.ed.ca.length:Int)+A4 (FM s r l) v:=NY z o;obtain⟨a,b,_,_⟩:=B0 o;have η:AA y.ca ((r.ec.ci.ca.length:Int)+A4 (FM s r l) v)=F7 (BQ s r l) y.ca x.d7.ca.length v:=by
     rw [e,κ,l2]
    rw [aE r?,Au U U,AD U U,bs,η,AD S (by rw[bd,Am];omega),bs,Ao d?,bs,Xy S,OY A p,NX A z]
   .have p:v∉BQ s r l:=λC=>by
     rcases y_.1 C with C|C
     .exact z C
     .exact o C
    have e:=J1 (yN:=y.ca) (gn:=x.d7.ca.length) p;have ζ:((x.d7.ca++(AM (BQ s r l) v).map (Lb r (An s r l) y.bq x.d7.bq.length)).length:Int)=F7 (BQ s r l) y.ca x.d7.ca.length v:=by
     rw [a6,bd,e,K?]
    rw [aN (by rw[IP o];decide),AD A O,bs,AD fit.2.1.1 (by rw[V5];exact fit.2.1.2),bs,AD fit.2.2.1 (by rw[V5];exact fit.2.2.2),bs,lr fit.2.1.1 fit.2.1.2,lr fit.2.2.1 fit.2.2.2,Ao d?,bs,Ao d?,bs,lK (by
      intro k H;have:=lo k H;rw[K?];exact this),ζ,AD o? (by rw[bd,Am,e];omega),bs,Ao d?,bs,Xy o?,P2 A p,NX A z,D!,bk,a6]
    rfl
  ·(try dsimp only)
   refine Prod.ext ?_ ?_
   ·(try dsimp only)
    have e0:DN x.l4.bq r.ed.bq (An s r l) y.bq x.d7.bq.length 0=x.l4.bq:=by
     unfold DN;rw[ε];simp
    rw [ε,e0,<-hi.nodes'];simp
   ·(try dsimp only)
    unfold cu Ug;refine C_ λj hj=>?_;have:=(Br.1 hj).1;rw[K!,C!,decide_eq_false (by omega:¬j<0),J']
  .intro i D E u
   (try dsimp only)
   rw [OY D (K.jt _ u),U5 D u,vD u]
  .intro k P F;have G:=AI P F;obtain⟨⟨A,O⟩,z⟩:=Ir.1 G;generalize hv:AA (AM r.ed.bq r.d4.ci.bq.length) k=v at *;have lo:=λk H=>(OO K (v:=v) (k:=k) H).2;have q1:=E3 (An s r l) v;have q2:=E3 r.ed.bq v;have q3:(DN x.l4.bq r.ed.bq (An s r l) y.bq x.d7.bq.length v).length<=2000:=by
    unfold DN;rw[a6,bd];omega
   (try dsimp only)
   rw [AD P F,bs,hv,Yu,bs];by_cases o:v∈Ee s r l
   .have p:v∈An s r l:=B? _ o;obtain⟨e,S,f1⟩:=Pp K p;have κ:A4 (An s r l) v=(r.ed.bq.length:Int)+A4 (Ee s r l) v:=NY z o;obtain⟨a,b,_,_⟩:=B0 o;have η:AA y.bq ((r.ec.ci.bq.length:Int)+A4 (Ee s r l) v)=F7 (An s r l) y.bq x.d7.bq.length v:=by
     rw [e,κ,l1]
    rw [aE r?,Au U U,AD U U,bs,η,AD A (by rw[V5];exact O),bs,AD S (by rw[bd,Am];omega),bs,Ao d?,bs,Xy S,gP A,OY A p,NX A z]
   .have p:v∉An s r l:=λC=>by
     rcases y_.1 C with C|C
     .exact z C
     .exact o C
    have e:=J1 (yN:=y.bq) (gn:=x.d7.bq.length) p;have ζ:((x.d7.bq++(AM (An s r l) v).map (AA r.d4.ci.bq)).length:Int)=F7 (An s r l) y.bq x.d7.bq.length v:=by
     rw [a6,bd,e,K?]
    rw [aN (by rw[IP o];decide),AD A O,bs,Ao d?,bs,Ao d?,bs,AD A (by rw[V5];exact O),bs,lK (by
      intro k H;have:=lo k H;rw[K?];exact this),ζ,AD o? (by rw[bd,Am,e];omega),bs,Ao d?,bs,Xy o?,gP A,P2 A p,NX A z,D!,bk,a6]
    rfl
 .intro i D E;have hx:=Q i D E;rw[AD D E,bs,AD D U,bs,AD hx.1 (by unfold cu;rw[bd,Am];exact hx.2),bs];rw[show An s r l=r.ed.bq++Ee s r l from rfl]at K|-;rw[sB K ho.inj.1 (λv hv=>by
   obtain ⟨j,j0,j1,rfl⟩:=BT hv;exact(Q j j0 j1).1) D E]
end Go.Sf.Sc
namespace Go.Sf.Sc
open Go Go.Sf
def L7(x:AH):Ay:=⟨x.d7,BU x.d7.bq.length x.l4.bq,BU x.d7.ca.length x.l4.ca,x.l4.bq.length,x.l4.ca.length,x.kg⟩
theorem sF{t:AC}{s:Ap}{r:ei}{l:Fp}{x:AH}{rule:Int}{y:cE}(Q:Ca t s r=0)(hi:IJ x)
  (A:JM x.l4.bq r.ed.bq (An s r l) y.bq x.d7.bq.length)(he:JM x.l4.ca r.ed.ca (BQ s r l) y.ca x.d7.ca.length):
  MS (L7 x) rule r ⟨Bo s r l,BU r.d4.ci.bq.length (An s r l),BU r.d4.ci.ca.length (BQ s r l)⟩ y=Y (L7 (Cj x rule s r l y)):=by
 obtain ⟨hs,ho,l1,l2⟩:=Eg Q;have P:=ho.left;have η:=P.c9;have ζ:=P.d6;have δ:=ho.right.c9;have Z:=ho.right.d6;have g1:=hi.z5;have g2:=hi.Aaf;have g3:=hi.mlen;have y1:=A.Abv;have y2:=he.Abv;have T1:(An s r l).length=r.ed.bq.length+(Ee s r l).length:=a6 ..;have T2:(BQ s r l).length=r.ed.ca.length+(FM s r l).length:=a6 ..;have k1:=I6 (JZ s r l) r.d4.ci.bq.length;have k2:=I6 (Hz s r l) r.d4.ci.ca.length;have k3:(Ee s r l).length<=40:=by unfold Ee;omega
 have k4:(FM s r l).length<=80:=by unfold FM;omega
 have i1:x.l4.bq.length<=1000:=by
  have:=Jz hi.nnd hi.nin;omega
 have i2:x.l4.ca.length<=1000:=by
  have:=Jz hi.Abl hi.ein;omega
 have K:∀l:Fp,AM l 0=[]:=λl=>by simp[AM]
 have eN:DN x.l4.bq r.ed.bq (An s r l) y.bq x.d7.bq.length 0=x.l4.bq:=by
  unfold DN;rw[K];simp
 have R:DN x.l4.ca r.ed.ca (BQ s r l) y.ca x.d7.ca.length 0=x.l4.ca:=by
  unfold DN;rw[K];simp
 have F:∀v,(DN x.l4.bq r.ed.bq (An s r l) y.bq x.d7.bq.length v).length<=1000+v.toNat:=λv=>by
  have:=E3 r.ed.bq v;unfold DN;rw[a6,bd];omega
 have G:∀v,(DN x.l4.ca r.ed.ca (BQ s r l) y.ca x.d7.ca.length v).length<=1000+v.toNat:=λv=>by
  have:=E3 r.ed.ca v;unfold DN;rw[a6,bd];omega
 unfold MS L7;dsimp only;rw[cz U U,bs,BM (by rw[Cq];unfold Ak;omega),bs,BM (by rw[Cq];unfold Ak;omega),bs,
  Bs (λi=>cE.mk ((y.bq.take i.toNat).map (A4 x.l4.bq)) []) U V,bs,K!,
  Bs (λi=>cE.mk ((y.bq.take r.ec.ci.bq.length).map (A4 x.l4.bq)) ((y.ca.take i.toNat).map (A4 x.l4.ca))) U V,bs,K!,
  BM a?,bs,Ao b_,bs,
  YX (λi=>(Ay.mk ⟨x.d7.bq++(AM (An s r l) i).map (AA r.d4.ci.bq),x.d7.ca⟩ (BU (x.d7.bq.length+(AM (An s r l) i).length) (DN x.l4.bq r.ed.bq (An s r l) y.bq x.d7.bq.length i)) (BU x.d7.ca.length x.l4.ca) ((DN x.l4.bq r.ed.bq (An s r l) y.bq x.d7.bq.length i).length:Int) x.l4.ca.length (x.kg++[⟨rule,⟨⟨(y.bq.take r.ec.ci.bq.length).map (A4 x.l4.bq),(y.ca.take r.ec.ci.ca.length).map (A4 x.l4.ca)⟩,[]⟩⟩]),
   (AV i.toNat).map (F7 (An s r l) y.bq x.d7.bq.length),i)) (a:=0) (b:=r.d4.ci.bq.length) U ?_ ?_ ?_,CI]
 .dsimp only;rw[YX (λi=>(Ay.mk ⟨x.d7.bq++(AM (An s r l) r.d4.ci.bq.length).map (AA r.d4.ci.bq),x.d7.ca++(AM (BQ s r l) i).map (Lb r (An s r l) y.bq x.d7.bq.length)⟩ (BU (x.d7.bq.length+(AM (An s r l) r.d4.ci.bq.length).length) (DN x.l4.bq r.ed.bq (An s r l) y.bq x.d7.bq.length r.d4.ci.bq.length)) (BU (x.d7.ca.length+(AM (BQ s r l) i).length) (DN x.l4.ca r.ed.ca (BQ s r l) y.ca x.d7.ca.length i))
    ((DN x.l4.bq r.ed.bq (An s r l) y.bq x.d7.bq.length r.d4.ci.bq.length).length:Int) ((DN x.l4.ca r.ed.ca (BQ s r l) y.ca x.d7.ca.length i).length:Int) (x.kg++[⟨rule,⟨⟨(y.bq.take r.ec.ci.bq.length).map (A4 x.l4.bq),(y.ca.take r.ec.ci.ca.length).map (A4 x.l4.ca)⟩,[]⟩⟩]),i)) (a:=0) (b:=r.d4.ci.ca.length) U ?_ ?_ ?_,CI]
  .unfold Cj;dsimp only;simp only[a6,bd]
  .rw[K,R];simp
  .intro v o u;have fit:=ho.right.fit _ (AI o u);have S:=E3 (BQ s r l) v;have ε:=G v;have lo:=λk C=>(OO he (v:=v) (k:=k) C).2;dsimp only;rw[aE d_,AD o (by rw[Cq];exact u),bs,Er o u];by_cases hT:v∈BQ s r l
   .obtain⟨e,H,κ⟩:=Pp he hT;obtain⟨a,b,_,_⟩:=B0 hT;rw[aE r?,bs,AD a U,bs,<-e,IQ,bs,OY o hT];by_cases p:v∈r.ed.ca
    .rw[Ah.2 p,aN a_,U5 o p,Au U U]
    .have E:hasB r.ed.ca v=T:=m_
     rw [E,aE a_,AD H (by rw[Cq];omega),bs,NC H (VL he o p),NX o p,Au U U,Au U U,a6];rfl
   .have p:v∉r.ed.ca:=λh=>hT (he.jt v h);have E:hasB r.ed.ca v=T:=m_
    have e:=J1 (yN:=y.ca) (gn:=x.d7.ca.length) hT;have O:((x.d7.ca++(AM (BQ s r l) v).map (Lb r (An s r l) y.bq x.d7.bq.length)).length:Int)=F7 (BQ s r l) y.ca x.d7.ca.length v:=by
     rw [a6,bd,e,K?]
    rw [aN (by rw[IP hT];decide),AD o u,bs,AD fit.2.1.1 (by rw[bd,Am];exact fit.2.1.2),bs,AD fit.2.2.1 (by rw[bd,Am];exact fit.2.2.2),bs,K!,Eh _ fit.2.1.1 fit.2.1.2,Eh _ fit.2.2.1 fit.2.2.2,Ao b_,bs,Ao (by simp[Cq];unfold Ak;omega),bs,IQ,bs,E,aE a_,mu (by
      intro k C;have:=lo k C;rw[K?];exact this),O,AD o? (by rw[Cq,e];omega),bs,NC o? (VL he o p),P2 o hT,NX o p,D!,Au U U,Au U U,a6,a6,<-bk]
    rfl
  .dsimp only;rw[aN V]
 .rw[K,eN];simp[AV]
 .intro v o u;have S:=E3 (An s r l) v;have ε:=F v;have lo:=λk C=>(OO A (v:=v) (k:=k) C).2;dsimp only;rw[aE d_,AD o (by rw[Cq];exact u),bs,Er o u];by_cases hT:v∈An s r l
  .obtain⟨e,H,κ⟩:=Pp A hT;obtain⟨a,b,_,_⟩:=B0 hT;rw[aE r?,bs,AD a U,bs,<-e,Ao d?,bs,IQ,bs,OY o hT,GJ o,D!];by_cases p:v∈r.ed.bq
   .rw[Ah.2 p,aN a_,U5 o p,Au U U];rfl
   .have E:hasB r.ed.bq v=T:=m_
    rw [E,aE a_,AD H (by rw[Cq];omega),bs,NC H (VL A o p),NX o p,Au U U,Au U U,a6];rfl
  .have p:v∉r.ed.bq:=λh=>hT (A.jt v h);have E:hasB r.ed.bq v=T:=m_
   have e:=J1 (yN:=y.bq) (gn:=x.d7.bq.length) hT;have O:((x.d7.bq++(AM (An s r l) v).map (AA r.d4.ci.bq)).length:Int)=F7 (An s r l) y.bq x.d7.bq.length v:=by
    rw [a6,bd,e,K?]
   rw [aN (by rw[IP hT];decide),AD o u,bs,Ao b_,bs,Ao (by simp[Cq];unfold Ak;omega),bs,Ao d?,bs,IQ,bs,E,aE a_,mu (by
     intro k C;have:=lo k C;rw[K?];exact this),O,AD o? (by rw[Cq,e];omega),bs,NC o? (VL A o p),P2 o hT,NX o p,GJ o,D!,D!,Au U U,Au U U,a6,a6,<-bk]
   rfl
 .dsimp only;rw[aN V]
 .intro i D L;have z:=he.yr _ (AI (l:=y.ca) D U);rw[AD D U,bs,AD z.1 (by rw[Cq];exact z.2),bs,Er z.1 z.2,Ao b_,bs,Cw D U,D!];rfl
 .intro i D L;have z:=A.yr _ (AI (l:=y.bq) D U);rw[AD D U,bs,AD z.1 (by rw[Cq];exact z.2),bs,Er z.1 z.2,Ao b_,bs,Cw D U,D!];rfl
end Go.Sf.Sc
namespace Go.Sf
open Sc
variable{n:Nat}{a:Int}
theorem aI(a0:0<=a)(h:a<n):(AV n).drop a.toNat=a::(AV n).drop (a+1).toNat:=by
 rw [B_ s?,show(a+1).toNat=a.toNat+1 by omega];congr 1;simp[AV];omega
variable{σ σ' ρ ρ':Type}{f:Int->σ->Option (CF σ ρ)}{N:Nat}{s0:σ}
theorem Ys(enc:σ'->σ)(e:ρ'->ρ)(g:Int->σ'->σ' ⊕ ρ'){s:σ'}(o:s0=enc s)(h:∀(i:Int)s,0<=i->i<N->f i (enc s)=Y (iY (Sum.map enc e (g i s)))):
  fq f 0 N s0=Y (Sum.map enc e (Cv g (AV N) s)):=by
 subst o;have key:∀(n:Nat)(a:Int)(s:σ'),0<=a->a+n=N->tl f n a (enc s)=Y (Sum.map enc e (Cv g ((AV N).drop a.toNat) s)):=by
  intro n
  induction n with
  |zero=>
   intro a s a0 p;rw[A? s?];rfl
  |succ n u=>
   intro a s a0 p;rw[FJ,h a s a0 U,aI a0 U,Cv];cases z:g a s with
   |inr r=>rfl|inl v=>exact u (a+1) v U U
 have:=key N 0 s U U;unfold fq;simpa using this
theorem wK{f:σ->Option (CF σ ρ)}(enc:Int->σ'->σ)(e:ρ'->ρ)(g:Int->σ'->σ' ⊕ ρ'){s:σ'}(p:s0=enc 0 s)(h:∀(i:Int)s,0<=i->i<N->f (enc i s)=Y (iY (Sum.map (enc (i+1)) e (g i s))))(u:∀s,f (enc N s)=Y (.brk (enc N s))):
  GP f s0=Y (Sum.map (enc N) e (Cv g (AV N) s)):=by
 subst p;have key:∀(n:Nat)(a:Int)(s:σ'),0<=a->a+n=N->Ms f (enc a s) (Sum.map (enc N) e (Cv g ((AV N).drop a.toNat) s)):=by
  intro n
  induction n with
  |zero=>
   intro a s a0 z;rw[A? s?];have:a=N:=U
   subst this;exact .brk (u s)
  |succ n A=>
   intro a s a0 z;have:=h a s a0 U;rw[aI a0 U,Cv];cases o:g a s with
   |inr r=>rw[o]at this;exact .ret this|inl v=>rw[o]at this;exact .next this (A (a+1) v U U)
 have:=key N 0 s U U;simpa using this.eq
end Go.Sf
namespace Go.Sf.Sc
open Go Go.Sf
theorem cF{I0 J θ yN:Fp}{gn:Nat}(h:JM I0 J θ yN gn)(p:I0.Nodup):∀n:Nat,(DN I0 J θ yN gn (n:Int)).Nodup
 |0=>by
  have:DN I0 J θ yN gn ((0:Nat):Int)=I0:=by unfold DN;simp[AM]
  rw [this];exact p
 |n+1=>by
  have z:=cF h p n;rw[show(((n+1:Nat):Int))=(n:Int)+1 by omega];by_cases o:(n:Int)∈J
  .rw[U5 U o];exact z
  .rw[NX U o];rw[List.nodup_append];refine⟨z,V,λa A b u e=>?_⟩;rw[List.mem_singleton]at u;exact VL h U o (u▸e▸A)
theorem bO{s:Ap}{r:ei}{l:Fp}{x:AH}{rule:Int}{y:cE}(hi:IJ x)(C:x.kg.length<=999)
  (o:JM x.l4.bq r.ed.bq (An s r l) y.bq x.d7.bq.length)(he:JM x.l4.ca r.ed.ca (BQ s r l) y.ca x.d7.ca.length)
  (p:(Cj x rule s r l y).d7.bq.length<=40)(u:(Cj x rule s r l y).d7.ca.length<=80):IJ (Cj x rule s r l y):=by
 have z:(Cj x rule s r l y).d7.bq.length=x.d7.bq.length+(AM (An s r l) r.d4.ci.bq.length).length:=by simp[Cj]
 have A:(Cj x rule s r l y).d7.ca.length=x.d7.ca.length+(AM (BQ s r l) r.d4.ci.ca.length).length:=by simp[Cj]
 refine ⟨by rw[z];rfl,n_,λk e=>?_,λk e=>?_,cF o hi.nnd _,cF he hi.Abl _,p,u,p!⟩
 .have:=OO o e;omega
 .have:=OO he e;omega
def Ha(I im:Fp)(n:Int):Bool:=!gh (λi=>hasB I (AA im i)==decide (n<=i)) 0 im.length
variable{N:Nat}{I im:Fp}
theorem lc{n:Int}(h:∀k∈im,0<=k/\k<N):Hn ((AV N).map (hasB I)) im n=Y (Ha I im n):=by
 unfold Hn Ha;rw[BX (λi=>hasB I (AA im i)==decide (n<=i)) T]
 .cases gh (λi=>hasB I (AA im i)==decide (n<=i)) 0 (im.length:Int)<;>rfl
 intro i o p _;have e:=h _ (AI o p);rw[AD o p,bs,AD e.1 (by rw[bd,Am];exact e.2),bs,Eh _ e.1 e.2];cases(hasB I (AA im i)==decide (n<=i))<;>rfl
theorem kB(I:Fp)(k:Int):decide (0<=A4 I k)=hasB I k:=by
 rw [J_,p0,Ah];exact Gp
theorem mB{n:Int}(h:∀k∈im,0<=k/\k<N):Kg im (BU N I) n=Y (Ha I im n):=by
 unfold Kg Ha;rw[BX (λi=>hasB I (AA im i)==decide (n<=i)) T]
 .cases gh (λi=>hasB I (AA im i)==decide (n<=i)) 0 (im.length:Int)<;>rfl
 intro i o p _;have e:=h _ (AI o p);rw[AD o p,bs,AD e.1 (by rw[Cq];exact e.2),bs,Er e.1 e.2,kB];have:(!(hasB I (AA im i)==decide (i<n)))=(hasB I (AA im i)==decide (n<=i)):=by
  by_cases h:i<n
  .rw[decide_eq_true h,decide_eq_false (by omega:¬n<=i)];cases hasB I (AA im i)<;>rfl
  .rw[decide_eq_false h,decide_eq_true (by omega:n<=i)];cases hasB I (AA im i)<;>rfl
 rw [this];cases(hasB I (AA im i)==decide (n<=i))<;>rfl
def OI(N:Nat)(I:Fp):Bool:=(AV N).all (hasB I)
theorem fc(N:Nat)(I:Fp):DI ((AV N).map (hasB I)) T=Y (!OI N I):=by
 rw [fe];congr 1;unfold OI;rw[List.any_map,J_,H?,E',x!];simp
theorem l8(N:Nat)(I:Fp):DU (BU N I) (-1)=Y (!OI N I):=by
 rw [IQ];congr 1;rw[J_,Ah];unfold BU OI;rw[y!,H?,E'];constructor
 .rintro⟨k,o,e⟩;refine⟨k,o,λh=>?_⟩;have:=Gp.2 (Ah.1 h);omega
 .rintro⟨k,o,e⟩;exact⟨k,o,IP λh=>e (Ah.2 h)⟩
def L6(x:AH):Bool:=OI x.d7.bq.length x.l4.bq&&OI x.d7.ca.length x.l4.ca
theorem yP{x:AH}(h:IJ x):Dq x=Y (L6 x):=by
 unfold Dq L6;rw[h.c9,h.d6,fc,bs,fc];cases OI x.d7.bq.length x.l4.bq<;>simp
theorem yX(x:AH):E7 (L7 x)=Y (L6 x):=by
 unfold E7 L6 L7;dsimp only;rw[l8,bs,l8];cases OI x.d7.bq.length x.l4.bq<;>simp
theorem W6{t:AC}{s:Ap}{r:ei}{l:Fp}{x:AH}{y:cE}(H:Ca t s r=0)(hi:IJ x)(o:y∈(Hr t (Bo s r l) x.d7 X).1):
  (∀k∈y.bq,0<=k/\k<x.d7.bq.length)/\(∀k∈y.ca,0<=k/\k<x.d7.ca.length)/\
  (Ha x.l4.bq y.bq r.ec.ci.bq.length=X->JM x.l4.bq r.ed.bq (An s r l) y.bq x.d7.bq.length)/\
  (Ha x.l4.ca y.ca r.ec.ci.ca.length=X->JM x.l4.ca r.ed.ca (BQ s r l) y.ca x.d7.ca.length):=by
 obtain ⟨_,_,l1,l2⟩:=Eg H;have o:y∈JV t (Bo s r l) x.d7 (Kw (Bo s r l)) X:=by
  unfold Hr at o;split at o
  .cases o
  split at o
  .cases o
  exact o
 have p:=TT o;have L:y.bq.length=(Bo s r l).bq.length:=p.nl;have O:y.ca.length=(Bo s r l).ca.length:=p.el;have m1:(Bo s r l).bq.length=(An s r l).length:=by simp[Bo,An,l1]
 have P:(Bo s r l).ca.length=(BQ s r l).length:=by simp[Bo,BQ,l2]
 have D:∀k∈y.bq,0<=k/\k<x.d7.bq.length:=λk u=>by
  obtain ⟨i,z,A,rfl⟩:=BT u;exact(p.node i z A).1
 have E:∀k∈y.ca,0<=k/\k<x.d7.ca.length:=λk u=>by
  obtain ⟨i,z,A,rfl⟩:=BT u;exact(p.edge i z A).1
 have F:=p.inj rfl;have key:∀{I0 J S yN:Fp}{n:Int},n=J.length->yN.length=(J++S).length->Ha I0 yN n=X->∀v∈J++S,v∉J->AA yN (A4 (J++S) v)∉I0:=by
  intro I0 J S yN n Q R hf v hv C K;have G:v∈S:=(y_.1 hv).resolve_left C;obtain⟨a,b,_,_⟩:=B0 G;obtain⟨c,d,_,_⟩:=B0 hv;have e:=NY C G;unfold Ha at hf;rw[H?,Bt]at hf;have:=hf (A4 (J++S) v) c U;rw[Ah.2 K,decide_eq_true U]at this;cases this
 exact ⟨D,E,λhf=>⟨λv hv=>B! _ hv,U,D,F.1,key (by rw[l1]) (by rw[L,m1];rfl) hf,hi.nin⟩,
  λhf=>⟨λv hv=>B! _ hv,U,E,F.2,key (by rw[l2]) (by rw[O,P];rfl) hf,hi.ein⟩⟩
end Go.Sf.Sc
namespace Go.Sf.Sc
open Go Go.Sf
def qw:AH:=⟨⟨[],[]⟩,[],[],[],⟨[],[]⟩⟩
noncomputable def Qc(s:Ap)(l:Fp)(x:AH)(rec:AH->Int->Int ⊕ (AH×Int×Int))(i:Int)(r:ei)(y:cE)(v:Int):Int ⊕ (AH×Int×Int):=
 if (Ha x.l4.bq y.bq r.ec.ci.bq.length&&Ha x.l4.ca y.ca r.ec.ci.ca.length)=T then .inl v else
 if 40<((Cj x i s r l y).d7.bq.length:Int)\/80<((Cj x i s r l y).d7.ca.length:Int)then .inr (qw,3,v)else rec (Cj x i s r l y) v
noncomputable def L8(t:AC)(s:Ap)(l:Fp)(x:AH)(rec:AH->Int->Int ⊕ (AH×Int×Int))(i:Int)(r:ei)(v:Int):Int ⊕ (AH×Int×Int):=
 if ((Ee s r l).length:Int)+((FM s r l).length:Int)=0 then .inl v else
 if (Hr t (Bo s r l) x.d7 X).2≠0 then .inr (qw,(Hr t (Bo s r l) x.d7 X).2,v)else
 Cv (λj=>Qc s l x rec i r (AA (Hr t (Bo s r l) x.d7 X).1 j)) (AV (Hr t (Bo s r l) x.d7 X).1.length) v
noncomputable def Ei(t:AC)(s:Ap)(d3:List ei)(l:Fp):Nat->AH->Int->Int ⊕ (AH×Int×Int)
 |0,_,v=>.inl v|n+1,x,v=>if 200<Ag (v+1)then .inr (qw,3,Ag (v+1))else if L6 x=X then .inr (x,0,Ag (v+1))else if(x.kg.length:Int)=30 then .inr (qw,3,Ag (v+1))else
  Cv (λi=>L8 t s l x (Ei t s d3 l n) i (AA d3 i)) (AV d3.length) (Ag (v+1))
section
variable{t:AC}{s:Ap}{d3:List ei}{l:Fp}{d:Al}{e0:Int}
def Hd(t:AC)(s:Ap)(d3:List ei)(l:Fp)(d:Al)(e0:Int)(v:Int):AZ:=⟨⟨t,s,d3⟩,l,v,d,e0⟩
def IF(y:AH):Al:=⟨⟨y.d7,E! y.d7.bq.length []⟩,y.kg,y.l4⟩
def Y8(t:AC)(s:Ap)(d3:List ei)(l:Fp)(d:Al)(e0:Int)(r:AH×Int×Int):Bool×AZ:=
 (X,if r.2.1=0 then Hd t s d3 l (IF r.1) e0 r.2.2 else Hd t s d3 l d r.2.1 r.2.2)
def RT(t:AC)(s:Ap)(d3:List ei)(l:Fp)(d:Al)(e0:Int):Int ⊕ (AH×Int×Int)->Bool×AZ
 |.inl v=>(T,Hd t s d3 l d e0 v)|.inr r=>Y8 t s d3 l d e0 r
theorem yU{x:AH}{i:Int}{r:ei}{m:Nat}{rec:AH->Int->Int ⊕ (AH×Int×Int)}(hf:A0 t)(C:Ca t s r=0)(he:Oe s r l)(hi:IJ x)(P:x.kg.length<=999)
  (e:∀z v,IJ z->z.kg.length=x.kg.length+1->A9 m (Hd t s d3 l d e0 v) z=Y (RT t s d3 l d e0 (rec z v)))(v:Int):
  Ba (m+1) (Hd t s d3 l d e0 v) x i r=Y (RT t s d3 l d e0 (L8 t s l x rec i r v)):=by
 obtain ⟨_,ho,_,_⟩:=Eg C;have ε:=ho.right.c9;have κ:=ho.right.d6;have η:=I6 (JZ s r l) r.d4.ci.bq.length;have ζ:=I6 (Hz s r l) r.d4.ci.ca.length;have δ:(Ee s r l).length<=40:=by unfold Ee;omega
 have Z:(FM s r l).length<=80:=by unfold FM;omega
 rw [Ba.eq_2,uu (p:=Hd t s d3 l d e0 v) C he,bs,show(Hd t s d3 l d e0 v).l3.t=t from rfl,show(Hd t s d3 l d e0 v).Aao=l from rfl,show(Hd t s d3 l d e0 v).l3.s=s from rfl];dsimp only;rw[Au U U];unfold L8;by_cases D:((Ee s r l).length:Int)+((FM s r l).length:Int)=0
 .rw[aE (by simpa using D),aE D];rfl
 rw [aN (by simpa using D),aN D,uh hf,bs];by_cases o:(Hr t (Bo s r l) x.d7 X).2=0
 .rw[aN i9,aN i9];have u:=λy Q=>W6 (l:=l) (y:=y) C hi Q;generalize Hr t (Bo s r l) x.d7 X=A at *;rw[Ys (Hd t s d3 l d e0) (Y8 t s d3 l d e0) (λj=>Qc s l x rec i r (AA A.1 j)) rfl λj v F G=>?_]
  .cases Cv (λj=>Qc s l x rec i r (AA A.1 j)) (AV A.1.length) v<;>rfl
  obtain ⟨R,S,L,O⟩:=u _ (AI F G);rw[AD F G,bs,hi.c9,lc R,bs,hi.d6,lc S];unfold Qc;cases H:Ha x.l4.bq (AA A.1 j).bq r.ec.ci.bq.length with
  |false=>rfl|true=>
   cases K:Ha x.l4.ca (AA A.1 j).ca r.ec.ci.ca.length with
   |false=>rfl|true=>
    rw [aN a_,bs,bs,aN a_,oG C hi (L H) (O K),bs];by_cases E:40<((Cj x i s r l (AA A.1 j)).d7.bq.length:Int)\/80<((Cj x i s r l (AA A.1 j)).d7.ca.length:Int)
    .rw[aE u?,aE E];rfl
    rw [aN u?,aN E,e _ v (bO hi P (L H) (O K) U U) (by simp[Cj]),bs];cases rec (Cj x i s r l (AA A.1 j)) v<;>rfl
 .rw[aE i9,aE o];unfold C4 RT Y8;dsimp only;rw[aN o];rfl
theorem qU(hf:A0 t)(A:∀r∈d3,Ca t s r=0)(he:∀r∈d3,Oe s r l):∀(n:Nat)(x:AH)(v:Int),IJ x->x.kg.length<=30->x.kg.length+n=31->∀m,2*n<=m->A9 m (Hd t s d3 l d e0 v) x=Y (RT t s d3 l d e0 (Ei t s d3 l n x v))
 |0,x,v,hi,G,H,m,_=>by omega|n+1,x,v,hi,G,H,m,K=>by
  obtain ⟨m,rfl⟩:∃k,m=k+2:=⟨m-2,U⟩;rw[A9.eq_2,Ei,show(Hd t s d3 l d e0 v).r0=v from rfl];by_cases o:200<Ag (v+1)
  .rw[aE b?,aE o];rfl
  rw [aN b?,aN o,yP hi,bs];by_cases p:L6 x=X
  .rw[aE p,aE p];unfold FV;have:=hi.z5;rw[aE U];rfl
  rw [aN p,aN p];by_cases u:(x.kg.length:Int)=30
  .rw[aE d_,aE u];rfl
  rw [aN d_,aN u,show(Hd t s d3 l d e0 v).l3.d3=d3 from rfl,
   show AZ.mk (Hd t s d3 l d e0 v).l3 (Hd t s d3 l d e0 v).Aao (Ag (v+1)) (Hd t s d3 l d e0 v).Aad (Hd t s d3 l d e0 v).e=Hd t s d3 l d e0 (Ag (v+1))from rfl,Ys (Hd t s d3 l d e0) (Y8 t s d3 l d e0) (λi=>L8 t s l x (Ei t s d3 l n) i (AA d3 i)) rfl λi v C D=>?_]
  .cases Cv (λi=>L8 t s l x (Ei t s d3 l n) i (AA d3 i)) (AV d3.length) (Ag (v+1))<;>rfl
  have E:=AI C D;rw[AD C D,bs,yU (rec:=Ei t s d3 l n) hf (A _ E) (he _ E) hi U λz v F L=>qU hf A he n z v F U U m U,bs];cases L8 t s l x (Ei t s d3 l n) i (AA d3 i) v<;>rfl
end
end Go.Sf.Sc
namespace Go.Sf.Sc
open Go Go.Sf
instance:Inhabited CS:=⟨⟨⟨[],[]⟩,[],[]⟩⟩
variable{α β:Type}
theorem EJ[Inhabited α][Inhabited β]{l:List α}{g:α->β}{i:Int}(e:0<=i)(o:i<l.length):AA (l.map g) i=g (AA l i):=by
 unfold AA;rw[z?,z?,List.getElem?_map,z_ U];rfl
section
variable{t:AC}{s:Ap}{d3:List ei}{l:Fp}
variable{α:Type}{v:Int}
theorem bu{g:α->Int->Int ⊕ (AH×Int×Int)}{L:List α}{r:AH×Int×Int}(h:∀a∈L,∀v r,g a v=.inr r->r.2.1≠10)(e:Cv g L v=.inr r):r.2.1≠10:=
 (Qx (g:=g) (I:=λ_=>True) (R:=λr=>r.2.1≠10) (λa o v _=>⟨λ_ _=>trivial,λr e=>h a o v r e⟩) trivial).2 r e
theorem kN(p g:ci)(b:Bool):(Hr t p g b).2≠10:=by
 have:=en t p g;unfold Hr;split
 .exact this
 split<;>simp
theorem od{x:AH}{rec:AH->Int->Int ⊕ (AH×Int×Int)}(o:∀z v r,rec z v=.inr r->r.2.1≠10){i:Int}{p:ei}{r:AH×Int×Int}(e:L8 t s l x rec i p v=.inr r):r.2.1≠10:=by
 unfold L8 at e;split at e
 .cases e
 split at e
 .cases e;exact kN _ _ _
 refine bu (λa u v r e=>?_) e;unfold Qc at e;split at e
 .cases e
 split at e
 .cases e;show(3:Int)≠10;decide
 exact o _ _ _ e
theorem eF:∀(n:Nat)(x:AH)(v:Int)(r:AH×Int×Int),Ei t s d3 l n x v=.inr r->r.2.1≠10
 |0,x,v,r,e=>l'
 |n+1,x,v,r,e=>by
  rw [Ei]at e;split at e
  .cases e;show(3:Int)≠10;decide
  split at e
  .cases e;show(0:Int)≠10;decide
  split at e
  .cases e;show(3:Int)≠10;decide
  exact bu (λi _ v r e=>od (eF n) e) e
def iG:Ay:=⟨⟨[],[]⟩,[],[],0,0,[]⟩
def W5(s:Ap)(l:Fp)(r:ei):CS:=⟨Bo s r l,BU r.d4.ci.bq.length (An s r l),BU r.d4.ci.ca.length (BQ s r l)⟩
def Iz(t:AC)(s:Ap)(d3:List ei)(l:Fp)(v:Int):BP:=⟨t,d3,d3.map (W5 s l),v⟩
def XB(t:AC)(s:Ap)(d3:List ei)(l:Fp)(r:AH×Int×Int):Ay×Int×BP:=(if r.2.1=0 then L7 r.1 else iG,r.2.1,Iz t s d3 l r.2.2)
def Yy(t:AC)(s:Ap)(d3:List ei)(l:Fp):Int ⊕ (AH×Int×Int)->Ay×Int×BP
 |.inl v=>(iG,10,Iz t s d3 l v)|.inr r=>XB t s d3 l r
theorem qZ(hf:A0 t)(H:∀r∈d3,Ca t s r=0)(G:d3.length<=1000):∀(n:Nat)(x:AH)(v:Int),IJ x->x.kg.length<=30->x.kg.length+n=31->∀m,n<=m->C0 m (Iz t s d3 l v) (L7 x)=Y (Yy t s d3 l (Ei t s d3 l n x v))
 |0,x,v,hi,δ,Z,m,_=>by omega|n+1,x,v,hi,δ,Z,m,hfu=>by
  obtain ⟨m,rfl⟩:∃k,m=k+1:=⟨m-1,U⟩;rw[C0.eq_2,Ei,show(Iz t s d3 l v).r0=v from rfl];by_cases E:200<Ag (v+1)
  .rw[aE u?,aE E];rfl
  rw [aN u?,aN E,yX,bs];by_cases F:L6 x=X
  .rw[aE F,aE F];rfl
  rw [aN F,aN F,show(L7 x).kg=x.kg from rfl,show(L7 x).d7=x.d7 from rfl,show(L7 x).c9=BU x.d7.bq.length x.l4.bq from rfl,show(L7 x).d6=BU x.d7.ca.length x.l4.ca from rfl];by_cases o:(x.kg.length:Int)=30
  .rw[aE b?,aE o];rfl
  rw [aN b?,aN o,show Ay.mk ⟨[],[]⟩ [] [] 0 0 []=iG from rfl,
   show BP.mk (Iz t s d3 l v).t (Iz t s d3 l v).d3 (Iz t s d3 l v).v5 (Ag (v+1))=Iz t s d3 l (Ag (v+1))from rfl,
   wK (N:=d3.length) (λi v=>(Iz t s d3 l v,iG,i)) (XB t s d3 l) (λi=>L8 t s l x (Ei t s d3 l n) i (AA d3 i)) rfl (λi v u p=>?_) (λv=>?_)]
  .cases Cv (λi=>L8 t s l x (Ei t s d3 l n) i (AA d3 i)) (AV d3.length) (Ag (v+1))<;>rfl
  .have z:=H _ (AI u p);obtain⟨_,ho,l1,l2⟩:=Eg z;have n3:=ho.right.c9;have n4:=ho.right.d6;dsimp only;rw[aE (by simp[Iz,p]),show(Iz t s d3 l v).d3=d3 from rfl,show(Iz t s d3 l v).t=t from rfl,show(Iz t s d3 l v).v5=d3.map (W5 s l)from rfl,AD u p,bs,AD u (by rw[bd];exact p),bs,EJ u p,show(W5 s l (AA d3 i)).d7=Bo s (AA d3 i) l from rfl];unfold L8;by_cases O:((Ee s (AA d3 i) l).length:Int)+((FM s (AA d3 i) l).length:Int)=0
   .rw[aE (by simp[Bo];omega),aE O,Au U U];rfl
   rw [aN (by simp[Bo];omega),aN O,vE hf,bs];by_cases C:(Hr t (Bo s (AA d3 i) l) x.d7 X).2=0
   .rw[aN (by simp[C]),aN (by simp[C])];have D:=λy ε=>W6 (l:=l) (y:=y) z hi ε;generalize Hr t (Bo s (AA d3 i) l) x.d7 X=A at *;rw[Ys (λv=>(Iz t s d3 l v,iG)) (XB t s d3 l) (λj=>Qc s l x (Ei t s d3 l n) i (AA d3 i) (AA A.1 j)) rfl λj v K L=>?_]
    .cases Cv (λj=>Qc s l x (Ei t s d3 l n) i (AA d3 i) (AA A.1 j)) (AV A.1.length) v with
     |inr r=>rfl|inl v=>show Y (CF.next (_,_,Ag (i+1)))=_;rw[Au U U];rfl
    obtain ⟨η,ζ,R,S⟩:=D _ (AI K L);dsimp only;rw[AD K L,bs,mB η,bs,bs,mB ζ];unfold Qc;cases P:Ha x.l4.bq (AA A.1 j).bq (AA d3 i).ec.ci.bq.length with
    |false=>rfl|true=>
     cases Q:Ha x.l4.ca (AA A.1 j).ca (AA d3 i).ec.ci.ca.length with
     |false=>rfl|true=>
      rw [aN a_,bs,bs,aN a_,show(Iz t s d3 l v).d3=d3 from rfl,show(Iz t s d3 l v).v5=d3.map (W5 s l)from rfl,AD u p,bs,AD u (by rw[bd];exact p),bs,EJ u p,bs,show W5 s l (AA d3 i)=⟨Bo s (AA d3 i) l,BU (AA d3 i).d4.ci.bq.length (An s (AA d3 i) l),BU (AA d3 i).d4.ci.ca.length (BQ s (AA d3 i) l)⟩from rfl,sF z hi (R P) (S Q),bs];have κ:(L7 (Cj x i s (AA d3 i) l (AA A.1 j))).d7=(Cj x i s (AA d3 i) l (AA A.1 j)).d7:=rfl;rw[κ];by_cases o:40<((Cj x i s (AA d3 i) l (AA A.1 j)).d7.bq.length:Int)\/80<((Cj x i s (AA d3 i) l (AA A.1 j)).d7.ca.length:Int)
      .rw[aE b?,aN a_,aE o];rfl
      rw [aN b?,aN a_,aN o,qZ hf H G n _ v (bO hi U (R P) (S Q) U U) p! p! m U,bs];cases e:Ei t s d3 l n (Cj x i s (AA d3 i) l (AA A.1 j)) v with
      |inl v=>rfl|inr r=>
       have:=eF n _ _ _ e;show(if(!decide (r.2.1=10))=X then _ else _)=_;rw[aE (by simp[this])];rfl
   .rw[aE (by simp[C]),aE C];show _=Y (CF.ret (XB t s d3 l _));unfold XB;rw[aN C]
  .dsimp only;rw[aN (by simp[Iz])]
end
end Go.Sf.Sc
namespace Go.Sf.Sc
open Go Go.Sf
section
variable{t:AC}{s:Ap}{d3:List ei}{l:Fp}
theorem ZB(C:∀r∈d3,Ca t s r=0)(P:AH->Prop)(o:∀(x:AH)(i:Int)(y:cE),IJ x->P x->x.kg.length<30->0<=i->i<d3.length->(Hr t (Bo s (AA d3 i) l) x.d7 X).2=0->y∈(Hr t (Bo s (AA d3 i) l) x.d7 X).1 ->
   JM x.l4.bq (AA d3 i).ed.bq (An s (AA d3 i) l) y.bq x.d7.bq.length->JM x.l4.ca (AA d3 i).ed.ca (BQ s (AA d3 i) l) y.ca x.d7.ca.length ->
   Ha x.l4.bq y.bq (AA d3 i).ec.ci.bq.length=X->Ha x.l4.ca y.ca (AA d3 i).ec.ci.ca.length=X->IJ (Cj x i s (AA d3 i) l y)->P (Cj x i s (AA d3 i) l y)):
  ∀(n:Nat)(x:AH)(v:Int)(r:AH×Int×Int),Ei t s d3 l n x v=.inr r->r.2.1=0->IJ x->P x->x.kg.length<=30->x.kg.length+n=31->IJ r.1/\P r.1/\L6 r.1=X
 |0,x,v,r,e,e0,hi,A,_,_=>l'
 |n+1,x,v,r,e,e0,hi,A,ζ,δ=>by
  rw [Ei]at e;split at e
  .cases e;cases e0
  split at e
  next Q=>cases e;exact⟨hi,A,Q⟩
  split at e
  .cases e;cases e0
  rename_i κ;refine(Qx (g:=λi=>L8 t s l x (Ei t s d3 l n) i (AA d3 i)) (I:=λ_=>True) (R:=λr=>r.2.1=0->IJ r.1/\P r.1/\L6 r.1=X) (λi L v _=>⟨λ_ _=>trivial,λr e e0=>?_⟩) trivial).2 r e e0;obtain⟨F,G⟩:=Br.1 L;have z:=C _ (AI F G);unfold L8 at e;split at e
  .cases e
  split at e
  next u=>cases e;exact absurd e0 u
  rename_i u;have u:(Hr t (Bo s (AA d3 i) l) x.d7 X).2=0:=d_
  refine (Qx (g:=λj=>Qc s l x (Ei t s d3 l n) i (AA d3 i) (AA (Hr t (Bo s (AA d3 i) l) x.d7 X).1 j)) (I:=λ_=>True) (R:=λr=>r.2.1=0->IJ r.1/\P r.1/\L6 r.1=X) (λj O v _=>⟨λ_ _=>trivial,λr e e0=>?_⟩) trivial).2 r e e0;obtain⟨S,ε⟩:=Br.1 O;have D:=AI S ε;obtain⟨_,_,H,K⟩:=W6 (l:=l) z hi D;unfold Qc at e;split at e
  .cases e
  rename_i p;rw[Bool.not_eq_false,kp]at p;split at e
  .cases e;cases e0
  rename_i η;have E:=bO (rule:=i) hi U (H p.1) (K p.2) U U;exact ZB C P o n _ _ r e e0 E (o x i _ hi A U F G u D (H p.1) (K p.2) p.1 p.2 E) p! p!
def Gu(h:AJ):AH:=⟨h.ci,E! h.ci.bq.length T,E! h.ci.ca.length T,[],⟨[],[]⟩⟩
theorem gZ(n:Nat):E! n T=(AV n).map (hasB []):=by
 refine C' (by simp[Am]) λi e o=>?_;simp[hasB]
theorem XZ{h:AJ}(o:Bz h.ci):IJ (Gu h):=
 ⟨gZ _,gZ _,λk e=>l',λk e=>l',E?,E?,o.c9,o.d6,n!⟩
theorem rK(h:AJ):L7 (Gu h)=⟨h.ci,(AV h.ci.bq.length).map (λ_=>-1),(AV h.ci.ca.length).map (λ_=>-1),0,0,[]⟩:=by
 have:A4 []=λ_=>(-1:Int):=funext λk=>IP V;unfold L7 Gu BU;dsimp only;rw[this];rfl
variable{n:Nat}
theorem mE(o:n<=1000):Lr n=Y ((AV n).map λ_=>-1):=by
 unfold Lr;rw[Bs (λi=>(AV i.toNat).map λ_=>(-1:Int)) U q?,bs,K!];intro i e p;rw[Ao d?,GJ e,D!];rfl
def Jn:Al:=⟨⟨⟨[],[]⟩,[]⟩,[],⟨[],[]⟩⟩
noncomputable def PV(t:AC)(s:Ap)(d3:List ei)(h:AJ)(l:Fp):Al×Int:=
 match Ei t s d3 l 31 (Gu h) 0 with
 |.inl _=>(Jn,10)|.inr r=>if r.2.1=0 then(IF r.1,0)else(Jn,r.2.1)
theorem yT(hf:A0 t)(z:∀r∈d3,Ca t s r=0)(he:∀r∈d3,Oe s r l){h:AJ}(p:Bz h.ci):B5 ⟨t,s,d3⟩ h l=Y (PV t s d3 h l):=by
 have C:=p.c9;have D:=p.d6;unfold B5 slices_Clone_int Cf FV PV;have hv:Ff (Hd t s d3 l Jn 0 0) (Gu h)=Y (RT t s d3 l Jn 0 (Ei t s d3 l 31 (Gu h) 0)):=Gb 62 λn A=>qU hf z he 31 _ 0 (XZ p) n! n! n A;rw[BM a?,bs,BM a?,bs,aE U,bs,aE U,bs,
  show AZ.mk ⟨t,s,d3⟩ l 0 (Al.mk (AJ.mk (ci.mk [] []) []) [] (cE.mk [] [])) 0=Hd t s d3 l Jn 0 0 from rfl,K!,K!,show AH.mk ⟨h.ci.bq,h.ci.ca⟩ (E! h.ci.bq.length T) (E! h.ci.ca.length T) [] (cE.mk [] [])=Gu h from rfl,hv,bs]
 cases Ei t s d3 l 31 (Gu h) 0 with
 |inl v=>rfl|inr r=>
  obtain ⟨y,e,v⟩:=r;show(if(!decide ((RT t s d3 l Jn 0 (.inr (y,e,v))).2.e=0))=X then _ else _)=_;dsimp only;by_cases o:e=0
  .have u:RT t s d3 l Jn 0 (.inr (y,e,v))=(X,Hd t s d3 l (IF y) 0 v):=by unfold RT Y8;dsimp only;rw[aE o]
   rw [aE o,u];rfl
  .have u:RT t s d3 l Jn 0 (.inr (y,e,v))=(X,Hd t s d3 l Jn e v):=by unfold RT Y8;dsimp only;rw[aN o]
   rw [aN o,u,aE (by simp[Hd,o])];rfl
variable{N:Nat}{I:Fp}
theorem bM(S:N<=1000)(G:I.Nodup)(p:∀k∈I,0<=k/\k<N)(D:OI N I=X):GA (BU N I) (I.length:Int)=Y I:=by
 have ε:=Jz G p;unfold OI at D;rw[F_]at D;have o:∀k:Int,0<=k->k<N->k∈I:=λk H E=>Ah.1 (D k (Br.2 ⟨H,E⟩));have u:(BU N I).Nodup:=by
  unfold BU;rw[F!,E_];refine List.Pairwise.imp_of_mem (λ{a b}z A F e=>F ?_) (Ua N);have z:=Br.1 z;have A:=Br.1 A;have E:=(B0 (o a z.1 z.2)).2.2.1;have O:=(B0 (o b A.1 A.2)).2.2.1;rw[<-E,<-O,e]
 rw [cx U (by rw[Cq];omega) u];congr 1;refine C' (by rw[Cq]) λi K L=>?_;have P:(BU I.length (BU N I))[i]=AA (BU I.length (BU N I)) i:=by
  unfold AA;rw[z?,K!,z_ K];rfl
 have Q:I[i]=AA I i:=by
  unfold AA;rw[z?,K!,z_ L];rfl
 rw [P,Q,Er U U];have C:=p _ (AI (l:=I) (i:=(i:Int)) U U);have R:AA (BU N I) (AA I i)=i:=by
  rw [Er C.1 C.2,Hx G U U]
 have:=Hx u C.1 (by rw[Cq];exact C.2)
 rwa [R]at this
end
end Go.Sf.Sc
namespace Go.Sf
variable{α σ ρ:Type}
theorem Ux{g:α->σ->σ ⊕ ρ}:∀{l:List α}{s:σ},(∀x∈l,∀s,g x s=.inl s)->Cv g l s=.inl s
 |[],_,_=>rfl|x::l,s,h=>by
  rw [Cv,h x (.head _) s];exact Ux λy e=>h y (x_ _ e)
end Go.Sf
namespace Go.Sf.Sc
open Go Go.Sf
section
variable{t:AC}{s:Ap}{d3:List ei}{l:Fp}
theorem sv(o:∀r∈d3,Ca t s r=0){h:AJ}(p:Bz h.ci){r:AH×Int×Int}(e:Ei t s d3 l 31 (Gu h) 0=.inr r)(e0:r.2.1=0):IJ r.1/\L6 r.1=X:=by
 have:=ZB o (λ_=>True) (λ_ _ _ _ _ _ _ _ _ _ _ _ _ _ _=>trivial) 31 _ 0 r e e0 (XZ p) trivial n! n!;exact⟨this.1,this.2.2⟩
def Ja(s:Ap)(g:ci)(l:Fp):Bool:=(g.bq.any λn=>!hasB l (AA s.bq n))||(g.ca.any λe=>!hasB l (AA s.ca e.fd))
noncomputable def D6(t:AC)(s:Ap)(d3:List ei)(h:AJ)(l:Fp):Al×Int:=
 if DP t s d3≠0 then(Jn,DP t s d3)else if(CN t h).2≠0 then(Jn,(CN t h).2)else if Ja s h.ci l=X then(Jn,1)else PV t s d3 h l
theorem Lh(h:DP t s d3=0):d3.length<=6/\DJ t s=0:=by
 unfold DP at h;split at h
 .cases h
 split at h
 .omega
 rename_i o e;exact⟨U,so⟩
theorem ye(hf:A0 t)(K:∀r∈d3,Ca t s r=0)(he:∀r∈d3,Oe s r l)(R:d3.length<=6){h:AJ}(z:Sorted s h.ci)(P:DP t s d3=0)(Q:∀r∈d3,E6 r)(hh:(CN t h).2=0)(G:Ja s h.ci l=T):FC t s d3 h l=Y (PV t s d3 h l):=by
 have S:=z.ok.c9;have ε:=z.ok.d6;have hv:JO (Iz t s d3 l 0) (L7 (Gu h))=Y (Yy t s d3 l (Ei t s d3 l 31 (Gu h) 0)):=Gb 31 λn A=>qZ hf K U 31 _ 0 (XZ z.ok) n! n! n A;unfold Ja at G;rw[I_]at G;unfold FC PV;rw[VP hf s Q,bs,aN (by simp[P]),dA hf,bs,aN n?,
  NU (l:=h.ci.bq) (λn(x:Al)=>if hasB l (AA s.bq n)=X then .inl x else .inr (Jn,(1:Int))) (λ_=>True) trivial λi x o p _=>⟨?_,λ_ _=>trivial⟩]
 .rw[show Cv (λn(x:Al)=>if hasB l (AA s.bq n)=X then .inl x else .inr (Jn,(1:Int))) h.ci.bq (Al.mk (AJ.mk (ci.mk [] []) []) [] (cE.mk [] []))=.inl Jn from Ux λn A x=>by
    have:=x?.1 G.1 n A;rw[aE (by simpa using this)],CI,
   NU (l:=h.ci.ca) (λe(x:Al)=>if hasB l (AA s.ca e.fd)=X then .inl x else .inr (Jn,(1:Int))) (λ_=>True) trivial λi x o p _=>⟨?_,λ_ _=>trivial⟩]
  .rw[show Cv (λ(e:B3)(x:Al)=>if hasB l (AA s.ca e.fd)=X then .inl x else .inr (Jn,(1:Int))) h.ci.ca Jn=.inl Jn from Ux λn A x=>by
     have:=x?.1 G.2 n A;rw[aE (by simpa using this)],CI,
    Bs (λi=>BP.mk t d3 ((d3.take i.toNat).map (W5 s l)) 0) U q?,bs,K!,C!,mE U,bs,mE U,bs,
    show BP.mk t d3 (d3.map (W5 s l)) 0=Iz t s d3 l 0 from rfl,<-rK,hv,bs]
   .cases e:Ei t s d3 l 31 (Gu h) 0 with
    |inl v=>rfl|inr r=>
     by_cases u:r.2.1=0
     .obtain⟨hi,H⟩:=sv K z.ok e u;unfold L6 at H;rw[kp]at H;have m1:=hi.z5;have κ:=hi.Aaf;have L:Yy t s d3 l (.inr r)=(L7 r.1,r.2.1,Iz t s d3 l r.2.2):=by unfold Yy XB;dsimp only;rw[aE u]
      rw [L,aN (by simp[u])];show((GA (BU r.1.d7.bq.length r.1.l4.bq) r.1.l4.bq.length).bind λC=>(GA (BU r.1.d7.ca.length r.1.l4.ca) r.1.l4.ca.length).bind λD=>(FV (r.1.d7.bq.length:Int) []).bind λE=>Y (Al.mk (AJ.mk r.1.d7 E) r.1.kg (cE.mk C D),(0:Int)))=Y (if r.2.1=0 then(IF r.1,0)else(Jn,r.2.1));rw[aE u,bM U hi.nnd hi.nin H.1,bs,bM U hi.Abl hi.ein H.2,bs];unfold FV;rw[aE U];rfl
     .have L:Yy t s d3 l (.inr r)=(iG,r.2.1,Iz t s d3 l r.2.2):=by unfold Yy XB;dsimp only;rw[aN u]
      rw [L,aE (by simp[u])];show Y (Jn,r.2.1)=Y (if r.2.1=0 then(IF r.1,0)else(Jn,r.2.1));rw[aN u]
   .intro i o p;have O:=AI o p;rw[AD o p,bs,vM (K _ O) (he _ O),bs,Ao b_,bs,Cw o p,D!];rfl
  .have F:=z.edge _ (AI o p);rw[AD o p,bs,AD F.1 F.2,bs,IQ,bs];cases hasB l (AA s.ca (AA h.ci.ca i).fd)<;>rfl
 .have F:=z.node _ (AI o p);rw[AD o p,bs,AD F.1 F.2,bs,IQ,bs];cases hasB l (AA s.bq (AA h.ci.bq i))<;>rfl
end
end Go.Sf.Sc
namespace Go.Sf
variable{α σ ρ:Type}
theorem Uy{q:α->Bool}{v:ρ}:∀{l:List α}{s:σ},Cv (λx s=>if q x=X then .inl s else .inr v) l s=if(l.any λx=>!q x)=X then .inr v else .inl s
 |[],_=>rfl|x::l,s=>by
  rw [Cv,A_];cases h:q x with
  |true=>exact Uy (l:=l)|false=>rfl
end Go.Sf
namespace Go.Sf.Sc
open Go Go.Sf
section
variable{t:AC}{s:Ap}{d3:List ei}{l:Fp}
theorem ft(a x:Int):(!hasB [a] x)=!decide (x=a):=by
 unfold hasB;by_cases h:x=a<;>simp[h]
theorem MC(hf:A0 t){h:AJ}(e:DP t s d3=0)(hh:(CN t h).2=0):Sorted s h.ci:=by
 obtain ⟨_,ho⟩:=GK hf hh;exact PO (LT (Lh e).2).2 ho.g ho.ty
theorem lg(hf:A0 t)(A:∀r∈d3,E6 r)(h:AJ)(o:Int):B4 ⟨t,s,d3⟩ h o=Y (if DP t s d3≠0 then DP t s d3 else if(CN t h).2≠0 then(CN t h).2 else if o≠0/\Ja s h.ci [o]=X then 1 else 0):=by
 unfold B4;rw[lh hf s A,bs];refine Gf λC=>?_;rw[QP hf,bs];refine Gf λhh=>?_;have z:=MC hf C hh;by_cases u:o=0
 .rw[aE d_,aN (by simp[u])]
 rw [aN d_,SH (p:=λn=>!hasB [o] (AA s.bq n)) λn D=>?_,bs,Yf (p:=λe=>!hasB [o] (AA s.ca e.fd)) λe he=>?_]
 .unfold Ja;cases(h.ci.bq.any λn=>!hasB [o] (AA s.bq n))with
  |true=>simp[u]|false=>
   cases (h.ci.ca.any λe=>!hasB [o] (AA s.ca e.fd))<;>simp[u]
 .have:=z.edge e he;unfold Et;dsimp only;rw[AD this.1 this.2,bs,ft]
 .have:=z.node n D;unfold Es;dsimp only;rw[AD this.1 this.2,bs,ft]
theorem dF(hf:A0 t)(p:∀r∈d3,E6 r)(E:hasB l 2=X->hasB l 1=X/\hasB l 3=X)(h:AJ):FC t s d3 h l=Y (D6 t s d3 h l):=by
 unfold D6;by_cases o:DP t s d3=0
 .by_cases hh:(CN t h).2=0
  .have C:=MC hf o hh;have D:=SM o;cases ho:Ja s h.ci l with
   |false=>
    rw [aN i9,aN n?,aN a_];exact ye hf D (λr p=>Yl (D r p) E) (Lh o).1 C o p hh ho
   |true=>
    rw [aN i9,aN n?,aE rfl];unfold Ja at ho;unfold FC;rw[VP hf s p,bs,aN i9,dA hf,bs,aN n?,
     NU (l:=h.ci.bq) (λn(x:Al)=>if hasB l (AA s.bq n)=X then .inl x else .inr (Jn,(1:Int))) (λ_=>True) trivial λi x u z _=>⟨?_,λ_ _=>trivial⟩,Uy (q:=λn=>hasB l (AA s.bq n))]
    .cases F:(h.ci.bq.any λn=>!hasB l (AA s.bq n))with
     |true=>rfl|false=>
      rw [F,J!]at ho;rw[aN a_,CI,NU (l:=h.ci.ca) (λe(x:Al)=>if hasB l (AA s.ca e.fd)=X then .inl x else .inr (Jn,(1:Int))) (λ_=>True) trivial λi x u z _=>⟨?_,λ_ _=>trivial⟩,Uy (q:=λe:B3=>hasB l (AA s.ca e.fd)),aE ho]
      .rfl
      .have A:=C.edge _ (AI u z);rw[AD u z,bs,AD A.1 A.2,bs,IQ,bs];cases hasB l (AA s.ca (AA h.ci.ca i).fd)<;>rfl
    .have A:=C.node _ (AI u z);rw[AD u z,bs,AD A.1 A.2,bs,IQ,bs];cases hasB l (AA s.bq (AA h.ci.bq i))<;>rfl
  .rw[aN i9,aE hh];unfold FC;rw[VP hf s p,bs,aN i9,dA hf,bs,aE n?];rfl
 .rw[aE o];unfold FC;rw[VP hf s p,bs,aE i9];rfl
theorem cl(hf:A0 t)(F:∀r∈d3,E6 r)(o:Int)(O:hasB l 2=X->hasB l 1=X/\hasB l 3=X)(h:AJ)(P:(o≠0/\l=[o])\/(o=0/\l=[1,2,3])):
  ((B4 ⟨t,s,d3⟩ h o).bind λA=>if(!decide (A=0))=X then Y (Jn,A)else(B5 ⟨t,s,d3⟩ h l).bind λC=>Y (C.1,C.2))=Y (D6 t s d3 h l):=by
 rw [lg hf F,bs];unfold D6;generalize z:(if DP t s d3≠0 then DP t s d3 else if(CN t h).2≠0 then(CN t h).2 else if o≠0/\Ja s h.ci [o]=X then 1 else 0)=E;by_cases p:DP t s d3=0
 .by_cases hh:(CN t h).2=0
  .have K:=SM p;obtain⟨_,ho⟩:=GK hf hh;have ε:=MC hf p hh;have e:(o≠0/\Ja s h.ci [o]=X)↔Ja s h.ci l=X:=by
    rcases P with⟨H,rfl⟩|⟨H,rfl⟩
    .simp[H]
    .constructor
     .rintro⟨u,_⟩;exact absurd H u
     .intro u;exfalso;have G:=N1 (Lh p).2;obtain⟨L,S⟩:=ET ho.g ho.ty;have key:∀n:Int,0<=n->n<t.bq.length->hasB [1,2,3] (AA s.bq n)=X:=λn Q R=>by
       have:=(G.node n Q R).1;unfold JJ at this;simp only[kp,p0]at this;rw[Ah];simp only[w?,F?,or_false];omega
      unfold Ja at u;rw[I?,x!,x!]at u;rcases u with⟨n,D,e⟩|⟨n,D,e⟩
      .rw[key n (L n D).1 (L n D).2]at e;cases e
      .have:=S n D;have he:=G.ok.ends this.1 this.2;rw[<-(G.edge _ this.1 this.2).1,key _ he.1.1 he.1.2]at e;cases e
   by_cases u:Ja s h.ci l=X
   .rw[aN o1,aN n?,aE (e.2 u)]at z;subst z;rw[aE a_,aN o1,aN n?,aE u]
   .rw[aN o1,aN n?,aN (λk=>u (e.1 k))]at z;subst z;rw[aN a_,aN o1,aN n?,aN u,yT hf K (λr F=>Yl (K r F) O) ho.g];rfl
  .rw[aN o1,aE hh]at z;subst z;rw[aE n?,aN o1,aE hh]
 .rw[aE p]at z;subst z;rw[aE o1,aE p]
theorem qT(hf:A0 t)(e:∀r∈d3,E6 r)(h:AJ):DX t s d3 h=Y (D6 t s d3 h [1]):=cl hf e 1 a_ h (.inl ⟨a_,rfl⟩)
theorem yO(hf:A0 t)(e:∀r∈d3,E6 r)(h:AJ):Iw t s d3 h=Y (D6 t s d3 h [3]):=cl hf e 3 a_ h (.inl ⟨a_,rfl⟩)
theorem yQ(hf:A0 t)(e:∀r∈d3,E6 r)(h:AJ):II t s d3 h=Y (D6 t s d3 h [1,2,3]):=cl hf e 0 a_ h (.inr ⟨rfl,rfl⟩)
theorem yY(hf:A0 t)(e:∀r∈d3,E6 r)(h:AJ):KT t s d3 h=Y (D6 t s d3 h [1]):=by
 unfold KT;rw[dF hf e a_];rfl
theorem yW(hf:A0 t)(e:∀r∈d3,E6 r)(h:AJ):Jh t s d3 h=Y (D6 t s d3 h [3]):=by
 unfold Jh;rw[dF hf e a_];rfl
theorem yZ(hf:A0 t)(e:∀r∈d3,E6 r)(h:AJ):Io t s d3 h=Y (D6 t s d3 h [1,2,3]):=by
 unfold Io;rw[dF hf e a_];rfl
end
end Go.Sf.Sc
namespace Go.Sf.Sc
open Go Go.Sf
theorem ZK:∀(l:Fp)(a b:Int),(∀x∈l,a<=x/\x<b)->l.Pairwise (·<·)->a<=b->(l.length:Int)<=b-a
 |[],a,b,_,_,h=>by simp;omega|x::l,a,b,p,e,h=>by
  have u:=p x (.head _);rw[G_]at e;have:=ZK l (x+1) b (λy o=>⟨by have:=e.1 y o;omega,(p y (.tail _ o)).2⟩) e.2 U;rw[az];omega
theorem bJ:∀(l:Fp)(a:Int),(∀x∈l,a<=x/\x<a+l.length)->l.Pairwise (·<·)->∀i:Nat,i<l.length->l[i]?=Y (a+i)
 |[],a,_,_,i,hi=>by cases hi
 |x::l,a,u,p,i,hi=>by
  have A:=u x (.head _);rw[G_]at p;have z:=ZK l (x+1) (a+(x::l).length) (λy o=>⟨by have:=p.1 y o;omega,(u y (.tail _ o)).2⟩) p.2 U;rw[az]at z;have e:x=a:=U
  subst e;cases i with
  |zero=>simp|succ i=>
   rw [List.getElem?_cons_succ,bJ l (x+1) (λy o=>⟨by have:=p.1 y o;omega,by have:=(u y (.tail _ o)).2;rw[az]at this;omega⟩) p.2 i (by rw[az]at hi;omega)];congr 1;omega
variable{n:Nat}
theorem XU{l:Fp}(h:∀x∈l,0<=x/\x<n)(e:l.Pairwise (·<·))(p:l.length=n):l=AV n:=by
 refine List.ext_getElem? λi=>?_;by_cases hi:i<n
 .rw[bJ l 0 (λx o=>by have:=h x o;omega) e i U];simp[AV,hi]
 .rw[G! U,G! s?]
theorem Oa{i:Int}(e:0<=i)(o:i<n):AA (AV n) i=i:=by
 have:=Eh (n:=n) (λx=>x) e o;simpa using this
variable{g:ci}
theorem cr(p:Bz g){n m:Nat}(u:n<=g.bq.length)(z:m<=g.ca.length)(h:∀i:Int,0<=i->i<m->(0<=(AA g.ca i).fu/\(AA g.ca i).fu<n)/\0<=(AA g.ca i).To/\(AA g.ca i).To<n):EG g ⟨AV n,AV m⟩=0:=by
 have a0:∀{k N:Nat},k<=N->OJ (AV k) N=0:=by
  intro k N E;unfold OJ;rw[BY.2]
  .rfl
  intro i o e;rw[Am]at e;rw[Oa o e,aN U,aN];rintro⟨F,D⟩;rw[Oa U U]at D;omega
 unfold EG Nh;rw[aN (by simp[Hb p]),a0 u,a0 z,aN V,aN V,BY.2]
 .rfl
 intro i o e;rw[Am]at e;dsimp only;obtain⟨A,C⟩:=h i o e;rw[Oa o e,Ah.2 (Br.2 A),Ah.2 (Br.2 C)];rfl
theorem TD{i:Int}(e:0<=i)(o:i<n):A4 (AV n) i=i:=by
 have:=Hx (Ua n) e (by rw[Am];exact o)
 rwa [show AA (AV n) i=i from by have:=Eh (n:=n) (λx=>x) e o;simpa using this]at this
theorem de(n:Nat):AM [] n=AV n:=by
 unfold AM AV;simp[hasB]
structure TG(r:ei):Prop where
 ls:r.ec.em=[]
 lt:r.ec.j4=[]
 rs:r.d4.em=[]
 lv:r.ec.eT=0
 inj:r.jj=X
 cond:r.c8.gN=1
 kn:r.ne.bq=AV r.ec.ci.bq.length
 ke:r.ne.ca=AV r.ec.ci.ca.length
theorem Ve{t:AC}{s:Ap}{r:ei}(h:Ca t s r=0):TG r/\x5 t r.ec.ci.bq=X/\x5 t r.d4.ci.bq=X:=by
 obtain ⟨_,ho,_,_⟩:=Eg h;unfold Ca at h;split at h
 .omega
 split at h
 .omega
 split at h
 .cases h
 rename_i u;split at h
 .rename_i p;have o:Of r=X:=d_
  unfold Of at o;simp only[kp,p0]at o p;obtain⟨⟨⟨⟨a,b,c,d⟩,e⟩,f⟩,g,k⟩:=o;exact⟨⟨B' a,B' b,B' c,d,e,f,XU ho.part.c9.1 ho.part.c9.2 g,XU ho.part.d6.1 ho.part.d6.2 k⟩,p.1⟩
 .cases h
structure IK(p g:ci)(M:cE):Prop where
 nl:M.bq.length=p.bq.length
 el:M.ca.length=p.ca.length
 node:∀i:Int,0<=i->i<p.bq.length->(0<=AA M.bq i/\AA M.bq i<g.bq.length)/\AA g.bq (AA M.bq i)=AA p.bq i
 edge:∀i:Int,0<=i->i<p.ca.length->(0<=AA M.ca i/\AA M.ca i<g.ca.length)/\AA g.ca (AA M.ca i)=⟨(AA p.ca i).fd,AA M.bq (AA p.ca i).fu,AA M.bq (AA p.ca i).To⟩
 nnd:M.bq.Nodup
 Abl:M.ca.Nodup
theorem IK.chk{t:AC}{p g:ci}{M:cE}(h:IK p g M)(hv:(BF t).2=0)(u:Bz p)(tp:C1 t p=X)(z:Bz g)(A:C1 t g=X)(inj:Bool):JS t p g M inj=0:=by
 have D:EO t p g=0:=by
  unfold EO;rw[aN v_,aN (by simp[Hb u]),aN (by simp[Hb z]),tp,A];rfl
 have E:Pu t p g M=0:=by
  unfold Pu;rw[aN (by have:=h.nl;have:=h.el;omega),BY.2]
  .dsimp only;rw[BY.2]
   .rfl
   intro i e C;obtain⟨F,o⟩:=h.edge i e (by have:=h.el;omega);unfold Hy;rw[aN U,o,aN V,aN V]
  .intro i e C;obtain⟨F,o⟩:=h.node i e (by have:=h.nl;omega);unfold O0;rw[aN U,o,cA ((ET u tp).1 _ (AI e (by have:=h.nl;omega))).1,aN a_]
 unfold JS JW;rw[aN (by simp[D]),aN (by simp[E]),K6.2 h.nnd,K6.2 h.Abl,aN (by cases inj<;>decide)]
def Mh(r:ei)(g:ci)(yN:Fp):ci:=⟨g.bq++(AM r.ed.bq r.d4.ci.bq.length).map (AA r.d4.ci.bq),g.ca++(AM r.ed.ca r.d4.ci.ca.length).map (Lb r r.ed.bq yN g.bq.length)⟩
section
variable{t:AC}{s:Ap}{r:ei}{h:AJ}{M:cE}
variable{im:Fp}{n:Nat}
theorem TX(p:im.length=n):Fo im (AV n)=[]:=by
 unfold Fo;have:AM (AV n) im.length=[]:=G?.2 λx e=>by
  obtain ⟨e,o⟩:=Nw.1 e;exact o (Br.2 ⟨e.1,U⟩)
 rw [this];rfl
theorem ZR(e:TG r)(o:IK r.ec.ci h.ci M):Ls h.ci r.ne M=⟨AV h.ci.bq.length,AV h.ci.ca.length⟩:=by
 unfold Ls;rw[e.kn,e.ke,TX o.nl,TX o.el,de,de]
theorem rJ(z:TG r)(ho:SD t r)(D:Bz h.ci)(p:IK r.ec.ci h.ci M):(Ph (JG r.ec.ci h.ci M) h.ci r.ne M)=(Ls h.ci r.ne M,0):=by
 have C:=p.nl;have H:=p.el;have E:Bz (JG r.ec.ci h.ci M):=by
  refine ⟨by simp[JG,C];exact ho.left.c9,ho.left.d6,λn G=>?_,λe he=>?_⟩
  .obtain⟨x,L,rfl⟩:=y!.1 G;obtain⟨i,o,u,rfl⟩:=BT L;have:=(p.node i o U).1;exact D.kind _ (AI this.1 this.2)
  .have:=ho.left.fit e he;simp only[JG,bd,C];exact this
 have A:HL (JG r.ec.ci h.ci M) h.ci M=0:=by
  unfold HL;rw[aN (by simp[Hb E]),aN (by simp[Hb D]),aN (by simp[JG,H]),BY.2]
  .dsimp only;rw[BY.2]
   .rfl
   intro i o u;obtain⟨O,F⟩:=p.edge i o U;unfold Hy;rw[aN U,F,aN (by simp[JG]),aN (by simp[JG])]
  .intro i o u;obtain⟨O,F⟩:=p.node i o U;unfold KN;rw[aN U,aN (by simp[JG,MB o u])]
 have K:EG (JG r.ec.ci h.ci M) r.ne=0:=by
  have:=cr E (n:=r.ec.ci.bq.length) (m:=r.ec.ci.ca.length) (by simp[JG,C]) (by simp[JG]) λi o u=>(ho.left.fit _ (AI o u)).2
  rwa [show B7.mk (AV r.ec.ci.bq.length) (AV r.ec.ci.ca.length)=r.ne by rw[<-z.kn,<-z.ke]]at this
 unfold Ph;rw[aN (by simp[A]),aN (by simp[K]),aN,aN]
 .rw[D1];rintro⟨i,o,u,e⟩;unfold Qt at e;rw[z.kn,TX p.nl]at e;simp[hasB]at e
 .have key:∀{im:Fp}{n:Nat},im.length=n->Aam im (AV n)=T:=by
   intro im n P;unfold Aam;rw[Bt];intro a a0 a1;rw[Bt];intro b Q R;rw[Ah.2 (Br.2 ⟨a0,U⟩),Ah.2 (Br.2 ⟨U,U⟩)];simp
  rw [z.kn,z.ke,key p.nl,key p.el];decide
end
end Go.Sf.Sc
namespace Go.Sf.Sc
open Go Go.Sf
section
variable{t:AC}{s:Ap}{r:ei}{h:AJ}{M:cE}
variable{v:Int}
theorem gO{J yN:Fp}{gn:Nat}:F7 J yN gn v=if v∈J then AA yN (A4 J v)else(gn:Int)+(AM J v).length:=by
 unfold F7;by_cases hv:v∈J
 .rw[aE (Ah.2 hv),aE hv]
 .rw[aN (by rw[Ah];exact hv),aN hv]
theorem bY(o:TG r)(ho:SD t r)(l1:r.ed.bq.length=r.ec.ci.bq.length)(e:IK r.ec.ci h.ci M)(p:0<=v)(u:v<r.d4.ci.bq.length):
  AA (cS r h ⟨M,[]⟩).bq v=F7 r.ed.bq M.bq h.ci.bq.length v:=by
 have hd:dS r h ⟨M,[]⟩=⟨AV h.ci.bq.length,AV h.ci.ca.length⟩:=ZR o e;rw[show AA (cS r h ⟨M,[]⟩).bq v=QE r.ne.bq r.ed.bq (M.bq.map (AA (GR h (dS r h ⟨M,[]⟩)).bq)) (dS r h ⟨M,[]⟩).bq.length v from bW p u,hd,gO,o.kn];unfold QE;by_cases hv:v∈r.ed.bq
 .obtain⟨a,b,_,_⟩:=B0 hv;have:=(e.node _ a U).1;rw[aE (Ah.2 hv),aE hv,Oa a U,EJ a (by have:=e.nl;omega)];show AA (BU h.ci.bq.length (AV h.ci.bq.length)) _=_;rw[Er this.1 this.2,TD this.1 this.2]
 .rw[aN (by rw[Ah];exact hv),aN hv,Am]
theorem nP(o:TG r)(p:Bz h.ci)(u:IK r.ec.ci h.ci M):(C2 h (dS r h ⟨M,[]⟩)).ci=h.ci/\(C2 h (dS r h ⟨M,[]⟩)).eo=(AV h.ci.bq.length).map (AA h.eo):=by
 have hd:dS r h ⟨M,[]⟩=⟨AV h.ci.bq.length,AV h.ci.ca.length⟩:=ZR o u;rw[hd];refine⟨?_,rfl⟩;show ci.mk ((AV h.ci.bq.length).map (AA h.ci.bq)) ((AV h.ci.ca.length).map λx=>RS (BU h.ci.bq.length (AV h.ci.bq.length)) (AA h.ci.ca x))=h.ci;rw[NE];have:((AV h.ci.ca.length).map λx=>RS (BU h.ci.bq.length (AV h.ci.bq.length)) (AA h.ci.ca x))=(AV h.ci.ca.length).map (AA h.ci.ca):=by
  refine C_ λx e=>?_;have e:=Br.1 e;have hf:=(p.fit _ (AI e.1 e.2)).2;unfold RS;rw[Er hf.1.1 hf.1.2,Er hf.2.1 hf.2.2,TD hf.1.1 hf.1.2,TD hf.2.1 hf.2.2]
 rw [this,NE]
theorem kU(o:TG r)(ho:SD t r)(l1:r.ed.bq.length=r.ec.ci.bq.length)(u:Bz h.ci)(p:IK r.ec.ci h.ci M):
  (DW t r (C2 h (dS r h ⟨M,[]⟩)) (cS r h ⟨M,[]⟩)).ci=Mh r h.ci M.bq:=by
 unfold DW Te VE Mh;rw[(nP o u p).1];dsimp only;congr 2;refine C_ λk e=>?_;have e:0<=k/\k<r.d4.ci.ca.length:=Dn e;have hf:=(ho.right.fit _ (AI e.1 e.2)).2;unfold RS Lb;rw[bY o ho l1 p hf.1.1 hf.1.2,bY o ho l1 p hf.2.1 hf.2.2]
variable{m:Ar}
theorem nQ(hf:A0 t)(e:TG r)(o:WJ t r.ec r.c8 h m r.jj=0):Va t r.ec r.c8 h m r.jj=(X,0):=by
 have p:(wS t r.ec r.c8 h m r.jj).2=0:=by
  unfold wS;rw[aN i9];have:=G3 r.c8;obtain⟨n,u⟩:∃n,SizeOf.sizeOf r.c8=n+1:=⟨SizeOf.sizeOf r.c8-1,U⟩;rw[u,Dp,aN w_,aN w_,aN w_,aN w_]
 unfold Va;rw[p];rfl
theorem iX(hf:A0 t)(fr:E6 r)(E:Ca t s r=0)(hh:(CN t h).2=0)(F:IK r.ec.ci h.ci M)(S:(Mh r h.ci M.bq).bq.length<=40)(ε:(Mh r h.ci M.bq).ca.length<=80):
  ∃st,JR t r h ⟨M,[]⟩=(st,0)/\st.og.ci=Mh r h.ci M.bq/\(CN t st.og).2=0:=by
 obtain ⟨_,ho,l1,l2⟩:=Eg E;obtain⟨u,_⟩:=Ve E;obtain⟨_,z⟩:=YV E;obtain⟨hv,hO⟩:=GK hf hh;obtain⟨P,κ,_⟩:=Pt z;have o:∀b,JS t r.ec.ci h.ci M b=0:=F.chk hv ho.left ho.ltyped hO.g hO.ty;have p:IH t r.ec h M=([],0):=by
  unfold IH Tq;rw[aN (by simp[P,hh]),aN i9];unfold PN;rw[u.ls,u.lt,u.lv];rfl
 have G:=rJ u ho hO.g F;have H:WJ t r.ec r.c8 h ⟨M,[]⟩ r.jj=0:=Yg z hh (o _) (by rw[p]) (by rw[p]);have A:=nQ hf u H;have L:=kU (t:=t) u ho l1 hO.g F;have C:DA r (cS r h ⟨M,[]⟩) []=[]:=by unfold DA;rw[u.rs];rfl
 have e:JR t r h ⟨M,[]⟩=Vr t r h ⟨M,[]⟩:=by
  unfold JR;rw[aN (by simp[z]),aN n?,aN i9,p,aN V,aN V,G,aN V,A,aN V,aN V]
 have D:∀x:AJ,IM t x []=(x,0):=λx=>by
  unfold IM;rw[aN (by unfold Pj;rw[D1];rintro⟨i,η,R,_⟩;simp at R;omega)];rfl
 have O:JR t r h ⟨M,[]⟩=(ju t r h ⟨M,[]⟩,0):=by
  have K:IM t (DW t r (C2 h (dS r h ⟨M,[]⟩)) (cS r h ⟨M,[]⟩)) (DA r (cS r h ⟨M,[]⟩) [])=(DW t r (C2 h (dS r h ⟨M,[]⟩)) (cS r h ⟨M,[]⟩),0):=by rw[C,D]
  rw [e];unfold Vr ju Un;dsimp only;rw[aN (by rw[K];simp),aN (by rw[K];dsimp only;rw[L];omega),K,C];rfl
 obtain ⟨Q,_⟩:=nI hf fr (eC E) (h:=h) (m:=⟨M,[]⟩) (by rw[O]);exact⟨_,O,L,congrArg Prod.snd (eU Q)⟩
end
end Go.Sf.Sc
namespace Go.Sf.Sc
open Go Go.Sf
theorem iA{t:AC}(o:Ea t t.bq.length):∀(n:Nat)(a:Int),0<=a->a<t.bq.length->∀x∈Gc t n a,x=a\/∃c:Int,(0<=c/\c<t.bq.length)/\x=par t c
 |0,_,_,_,x,e=>by simp[Gc]at e|n+1,a,a0,a1,x,e=>by
  rw [Gc,aN U]at e;rcases w?.1 e with rfl|e
  .exact .inl rfl
  .by_cases p:0<=par t a
   .have:=o a a0 a1;rcases iA o n (par t a) p U x e with rfl|h
    .exact .inr ⟨a,⟨a0,a1⟩,rfl⟩
    .exact .inr h
   .cases n with
    |zero=>simp[Gc]at e|succ n=>rw[Gc,aE U]at e;cases e
variable{a b:Int}
theorem rd{t:AC}(p:Ea t t.bq.length){l:Fp}(o:x5 t l=X)(a0:0<=a)(a1:a<t.bq.length)(u:b∈l)(h:isB t a b=X):a=b:=by
 unfold isB at h;obtain⟨x,z,e⟩:=x!.1 h;rw[p0]at e;subst e;rcases iA p _ a a0 a1 b z with e|⟨c,⟨A,C⟩,e⟩
 .exact e.symm
 .unfold x5 at o;rw[H?,x?]at o;have:=o b u;exact absurd (x!.2 ⟨AA t.bq c,AI A C,by rw[p0];exact e.symm⟩) this
section
variable{t:AC}{s:Ap}{r:ei}{l:Fp}
theorem Zv{i:Int}(e:0<=i)(o:i<r.ec.ci.bq.length):AA (Bo s r l).bq i=AA r.ec.ci.bq i:=Fy e o
theorem i7{i:Int}(e:0<=i)(o:i<r.ec.ci.ca.length):AA (Bo s r l).ca i=AA r.ec.ci.ca i:=Fy e o
theorem jA{i:Int}(e:0<=i)(o:i<(Ee s r l).length):AA (Bo s r l).bq (r.ec.ci.bq.length+i)=AA r.d4.ci.bq (AA (Ee s r l) i):=by
 obtain ⟨n,rfl⟩:=L_ e;rw[show AA (Bo s r l).bq (r.ec.ci.bq.length+(n:Int))=_ from QD,EJ e o]
theorem ex{i:Int}(e:0<=i)(o:i<(FM s r l).length):AA (Bo s r l).ca (r.ec.ci.ca.length+i)=TR r (An s r l) (AA (FM s r l) i):=by
 obtain ⟨n,rfl⟩:=L_ e;rw[show AA (Bo s r l).ca (r.ec.ci.ca.length+(n:Int))=_ from QD,EJ e o]
theorem lH(o:Ca t s r=0){n:Int}(e:n∈(Bo s r l).bq):∃L,x5 t L=X/\n∈L:=by
 obtain ⟨_,p,u⟩:=Ve o;rcases y_.1 e with e|e
 .exact⟨_,p,e⟩
 .obtain⟨v,hv,rfl⟩:=y!.1 e;have:=(Gx.1 hv).1;exact⟨_,u,AI this.1 this.2⟩
variable{g:ci}
theorem jB(D:Ca t s r=0){y:cE}(e:y∈(Hr t (Bo s r l) g X).1):IK (Bo s r l) g y/\EO t (Bo s r l) g=0:=by
 unfold Hr at e;split at e
 .cases e
 rename_i o;split at e
 .cases e
 have o:=J?.1 o;have p:=TT e;have ok:=bw o e;obtain⟨hv,_,_,_,E⟩:=ON o;have nl:y.bq.length=(Bo s r l).bq.length:=p.nl;have el:y.ca.length=(Bo s r l).ca.length:=p.el;refine⟨⟨nl,el,λi u A=>?_,λi u A=>p.edge i u U,(p.inj rfl).1,(p.inj rfl).2⟩,o⟩;obtain⟨z,F⟩:=ok.node i u U;obtain⟨L,G,H⟩:=lH D (AI u A);have C:=E _ (AI z.1 z.2);exact⟨z,rd (DT hv).par G C.1 C.2 H F⟩
theorem kz(o:Ca t s r=0){i:Int}(e:0<=i)(u:i<r.ed.bq.length):AA r.d4.ci.bq (AA r.ed.bq i)=AA r.ec.ci.bq i/\0<=AA r.ed.bq i/\AA r.ed.bq i<r.d4.ci.bq.length:=by
 obtain ⟨_,ho,l1,_⟩:=Eg o;obtain⟨p,_⟩:=Ve o;obtain⟨z,A⟩:=ho.mor.node i e u;refine⟨?_,z⟩;rw[A];unfold Mg;rw[EJ e (by rw[p.kn,Am];omega),p.kn,Oa e U]
variable{v:Int}
theorem lJ(o:Ca t s r=0)(hv:v∈An s r l):AA (Bo s r l).bq (A4 (An s r l) v)=AA r.d4.ci.bq v:=by
 obtain ⟨_,ho,l1,_⟩:=Eg o;by_cases e:v∈r.ed.bq
 .obtain⟨a,b,c,_⟩:=B0 e;rw[show A4 (An s r l) v=A4 r.ed.bq v from U6 e,Zv a U,<-(kz o a b).1,c]
 .have p:v∈Ee s r l:=(y_.1 hv).resolve_left e;obtain⟨a,b,c,_⟩:=B0 p;rw[show A4 (An s r l) v=r.ed.bq.length+A4 (Ee s r l) v from NY e p,l1,jA a b,c]
variable{w:Int}
theorem lG(o:Ca t s r=0)(p:w∉r.ed.ca)(e:w∈FM s r l):AA (Bo s r l).ca (A4 (BQ s r l) w)=TR r (An s r l) w:=by
 obtain ⟨_,ho,_,l2⟩:=Eg o;obtain⟨a,b,c,_⟩:=B0 e;rw[show A4 (BQ s r l) w=r.ed.ca.length+A4 (FM s r l) w from NY p e,l2,ex a b,c]
variable{x:AH}{y:cE}{i:Int}
theorem nM(u:Ca t s r=0)(z:IK (Bo s r l) x.d7 y)(A:0<=v)(C:v<r.d4.ci.bq.length):AA (Cj x i s r l y).d7.bq (F7 (An s r l) y.bq x.d7.bq.length v)=AA r.d4.ci.bq v:=by
 obtain ⟨_,ho,l1,_⟩:=Eg u;have D:(Bo s r l).bq.length=(An s r l).length:=by simp[Bo,An,l1]
 by_cases hv:v∈An s r l
 .obtain⟨a,b,c,_⟩:=B0 hv;obtain⟨o,p⟩:=z.node _ a U;have e:F7 (An s r l) y.bq x.d7.bq.length v=AA y.bq (A4 (An s r l) v):=v?
  rw [e,show AA (Cj x i s r l y).d7.bq (AA y.bq (A4 (An s r l) v))=_ from Fy o.1 o.2,p,lJ u hv]
 .obtain⟨o,p⟩:=Tw A C hv;rw[J1 hv,show AA (Cj x i s r l y).d7.bq ((x.d7.bq.length:Int)+((AM (An s r l) v).length:Int))=_ from QD,EJ U p,o]
theorem nL(u:Ca t s r=0)(he:Oe s r l)(C:IK (Bo s r l) x.d7 y)(w0:0<=w)(D:w<r.d4.ci.ca.length)(z:w∉r.ed.ca):
  AA (Cj x i s r l y).d7.ca (F7 (BQ s r l) y.ca x.d7.ca.length w)=Lb r (An s r l) y.bq x.d7.bq.length w:=by
 obtain ⟨_,ho,_,l2⟩:=Eg u;have G:(Bo s r l).ca.length=(BQ s r l).length:=by simp[Bo,BQ,l2]
 by_cases hv:w∈BQ s r l
 .have A:w∈FM s r l:=(y_.1 hv).resolve_left z;obtain⟨a,b,c,_⟩:=B0 hv;obtain⟨o,p⟩:=C.edge _ a U;obtain⟨E,F⟩:=he _ A;have e:F7 (BQ s r l) y.ca x.d7.ca.length w=AA y.ca (A4 (BQ s r l) w):=v?
  rw [e,show AA (Cj x i s r l y).d7.ca (AA y.ca (A4 (BQ s r l) w))=_ from Fy o.1 o.2,p,lG u z A];unfold TR Lb F7;rw[aE (Ah.2 E),aE (Ah.2 F)]
 .obtain⟨o,p⟩:=Tw w0 D hv;rw[J1 hv,show AA (Cj x i s r l y).d7.ca ((x.d7.ca.length:Int)+((AM (BQ s r l) w).length:Int))=_ from QD,EJ U p,o]
end
end Go.Sf.Sc
namespace Go.Sf
variable{α σ ρ:Type}
theorem Za{g:α->σ->σ ⊕ ρ}:∀{a b:List α}{s s':σ},Cv g a s=.inl s'->Cv g (a++b) s=Cv g b s'
 |[],_,_,_,h=>by cases h;rfl
 |x::a,b,s,s',h=>by
  rw [List.cons_append,Cv];rw[Cv]at h;cases e:g x s with
  |inr r=>rw[e]at h;cases h
  |inl v=>rw[e]at h;exact Za (a:=a) h
end Go.Sf
namespace Go.Sf.Sc
open Go Go.Sf
section
variable{t:AC}{s:Ap}{r:ei}{l:Fp}{x:AH}{y:cE}{i:Int}{B:ci}
def Km(x:AH)(r:ei)(y:cE):cE:=⟨(y.bq.take r.ec.ci.bq.length).map (A4 x.l4.bq),(y.ca.take r.ec.ci.ca.length).map (A4 x.l4.ca)⟩
variable{I im:Fp}{j:Int}
theorem bl{n:Int}(h:Ha I im n=X)(e:0<=j)(o:j<im.length)(p:j<n):AA im j∈I:=by
 unfold Ha at h;rw[H?,Bt]at h;have:=h j e o;rw[decide_eq_false U,beq_false]at this;rw[<-Ah];simpa using this
variable{k:Int}
theorem qO(h:k∈I):AA I (A4 I k)=k:=(B0 h).2.2.1
variable{n:Nat}
theorem PP{l:Fp}(e:0<=j)(o:j<n):AA (l.take n) j=AA l j:=by
 have:=ZL (l:=l) (i:=(n:Int)) e U
 rwa [K!]at this
theorem lM{l I:Fp}(p:l.Nodup)(h:∀k∈l,k∈I):(l.map (A4 I)).Nodup:=by
 rw [F!,E_];refine List.Pairwise.imp_of_mem (λ{a b}u z o e=>o ?_) p;rw[<-qO (h a u),<-qO (h b z),e]
theorem oA(L:Ca t s r=0)(hi:IJ x)(O:Bz B)(z:IK B x.d7 x.l4)(u:IK (Bo s r l) x.d7 y)(P:Ha x.l4.bq y.bq r.ec.ci.bq.length=X)(Q:Ha x.l4.ca y.ca r.ec.ci.ca.length=X):IK r.ec.ci B (Km x r y):=by
 obtain ⟨_,ho,l1,l2⟩:=Eg L;have m1:r.ec.ci.bq.length<=y.bq.length:=by rw[u.nl];simp[Bo]
 have ε:r.ec.ci.ca.length<=y.ca.length:=by rw[u.el];simp[Bo]
 have F:=z.nl;have κ:=z.el;have C:∀j:Int,0<=j->j<r.ec.ci.bq.length->AA (Km x r y).bq j=A4 x.l4.bq (AA y.bq j)/\AA y.bq j∈x.l4.bq:=λj o p=>by
  refine ⟨?_,bl P o U p⟩;show AA ((y.bq.take r.ec.ci.bq.length).map (A4 x.l4.bq)) j=_;rw[EJ o l_,PP o p]
 have G:∀j:Int,0<=j->j<r.ec.ci.ca.length->AA (Km x r y).ca j=A4 x.l4.ca (AA y.ca j)/\AA y.ca j∈x.l4.ca:=λj o p=>by
  refine ⟨?_,bl Q o U p⟩;show AA ((y.ca.take r.ec.ci.ca.length).map (A4 x.l4.ca)) j=_;rw[EJ o l_,PP o p]
 refine ⟨by simp[Km];omega,by simp[Km];omega,λj o p=>?_,λj o p=>?_,?_,?_⟩
 .obtain⟨e,D⟩:=C j o p;obtain⟨a,b,c,_⟩:=B0 D;rw[e];refine⟨⟨a,U⟩,?_⟩;rw[<-(z.node _ a U).2,c,(u.node j o (by simp[Bo];omega)).2,Zv o p]
 .obtain⟨e,D⟩:=G j o p;obtain⟨a,b,c,_⟩:=B0 D;rw[e];refine⟨⟨a,U⟩,?_⟩;have H:=(z.edge _ a U).2;have S:=(u.edge j o (by simp[Bo];omega)).2;rw[c,S,i7 o p]at H;have hf:=(ho.left.fit _ (AI o p)).2;injection H with q1 q2 q3;have key:∀a b:Int,(0<=a/\a<r.ec.ci.bq.length)->AA y.bq a=AA x.l4.bq b->0<=b->b<x.l4.bq.length->b=AA (Km x r y).bq a:=λa b E e R F=>by
   rw [(C a E.1 E.2).1,e,Hx hi.nnd R F]
  have K:=(O.fit _ (AI a (show _<(B.ca.length:Int)by omega))).2;rw[q1,<-key _ _ hf.1 q2 K.1.1 U,<-key _ _ hf.2 q3 K.2.1 U]
 .refine lM (u.nnd.sublist (H_ ..)) λk A=>?_;obtain⟨j,o,p,rfl⟩:=BT A;rw[ae]at p;rw[PP o U];exact(C j o U).2
 .refine lM (u.Abl.sublist (H_ ..)) λk A=>?_;obtain⟨j,o,p,rfl⟩:=BT A;rw[ae]at p;rw[PP o U];exact(G j o U).2
end
end Go.Sf.Sc
namespace Go.Sf.Sc
open Go Go.Sf
section
variable{t:AC}{s:Ap}{r:ei}{l:Fp}{x:AH}{y:cE}{i:Int}{B:ci}
variable{α:Type}
theorem OK[Inhabited α]{a b:List α}{i:Int}(o:(a.length:Int)<=i):AA (a++b) i=AA b (i-a.length):=by
 obtain ⟨n,e⟩:=L_ (show 0<=i-a.length by omega);rw[e,show i=(a.length:Int)+(n:Int)by omega];exact QD
variable{v:Int}
theorem lD(hi:IJ x)(o:IK B x.d7 x.l4)(e:JM x.l4.bq r.ed.bq (An s r l) y.bq x.d7.bq.length)(p:Ca t s r=0)(u:Ha x.l4.bq y.bq r.ec.ci.bq.length=X)
  (z:0<=v)(A:v<r.d4.ci.bq.length):
  AA (Cj x i s r l y).l4.bq (F7 r.ed.bq (Km x r y).bq B.bq.length v)=F7 (An s r l) y.bq x.d7.bq.length v:=by
 obtain ⟨_,ho,l1,_⟩:=Eg p;have C:=o.nl;have H:=e.Abv;have K:(An s r l).length=r.ed.bq.length+(Ee s r l).length:=a6 ..;have e0:(Cj x i s r l y).l4.bq=x.l4.bq++(AM r.ed.bq r.d4.ci.bq.length).map (F7 (An s r l) y.bq x.d7.bq.length):=rfl;rw[e0,gO];by_cases hv:v∈r.ed.bq
 .obtain⟨a,b,c,_⟩:=B0 hv;have D:AA y.bq (A4 r.ed.bq v)∈x.l4.bq:=bl u a U U;obtain⟨a',L,c',_⟩:=B0 D;have E:AA (Km x r y).bq (A4 r.ed.bq v)=A4 x.l4.bq (AA y.bq (A4 r.ed.bq v)):=by
   show AA ((y.bq.take r.ec.ci.bq.length).map (A4 x.l4.bq)) _=_;rw[EJ a l_,PP a U]
  rw [aE hv,E,Fy a' U,c',(Pp e (e.jt _ hv)).1,show A4 (An s r l) v=_ from U6 hv]
 .obtain⟨F,G⟩:=Tw z A hv;rw[aN hv,<-C,QD,EJ U G,F]
theorem me(z:Ca t s r=0)(E:Oe s r l)(hi:IJ x)(R:Bz B)(u:IK B x.d7 x.l4)(K:IK (Bo s r l) x.d7 y)(L:JM x.l4.bq r.ed.bq (An s r l) y.bq x.d7.bq.length)(he:JM x.l4.ca r.ed.ca (BQ s r l) y.ca x.d7.ca.length)
  (O:Ha x.l4.bq y.bq r.ec.ci.bq.length=X)(A:IJ (Cj x i s r l y)):IK (Mh r B (Km x r y).bq) (Cj x i s r l y).d7 (Cj x i s r l y).l4:=by
 obtain ⟨_,ho,l1,l2⟩:=Eg z;have P:=u.nl;have Q:=u.el;have eN:(Cj x i s r l y).l4.bq=x.l4.bq++(AM r.ed.bq r.d4.ci.bq.length).map (F7 (An s r l) y.bq x.d7.bq.length):=rfl;have G:(Cj x i s r l y).l4.ca=x.l4.ca++(AM r.ed.ca r.d4.ci.ca.length).map (F7 (BQ s r l) y.ca x.d7.ca.length):=rfl;have S:(Cj x i s r l y).d7.bq=x.d7.bq++(AM (An s r l) r.d4.ci.bq.length).map (AA r.d4.ci.bq):=rfl;have ε:(Cj x i s r l y).d7.ca=x.d7.ca++(AM (BQ s r l) r.d4.ci.ca.length).map (Lb r (An s r l) y.bq x.d7.bq.length):=rfl;have C:(Mh r B (Km x r y).bq).bq=B.bq++(AM r.ed.bq r.d4.ci.bq.length).map (AA r.d4.ci.bq):=rfl;have D:(Mh r B (Km x r y).bq).ca=B.ca++(AM r.ed.ca r.d4.ci.ca.length).map (Lb r r.ed.bq (Km x r y).bq B.bq.length):=rfl;have nl:(Cj x i s r l y).l4.bq.length=(Mh r B (Km x r y).bq).bq.length:=by rw[eN,C,a6,a6,bd,bd,P]
 have el:(Cj x i s r l y).l4.ca.length=(Mh r B (Km x r y).bq).ca.length:=by rw[G,D,a6,a6,bd,bd,Q]
 refine ⟨nl,el,λk e F=>⟨A.nin _ (AI e U),?_⟩,λk e F=>⟨A.ein _ (AI e U),?_⟩,A.nnd,A.Abl⟩
 .by_cases h:k<B.bq.length
  .have o:=u.node k e h;rw[eN,Fy e U,S,Fy o.1.1 o.1.2,o.2,C,Fy e h]
  .have p:k-B.bq.length<(AM r.ed.bq r.d4.ci.bq.length).length:=by
    rw [C,a6,bd]at F;omega
   have hv:=Dn (AI (l:=AM r.ed.bq r.d4.ci.bq.length) (i:=k-B.bq.length) U p);rw[eN,OK U,P,EJ U p,nM z K hv.1 hv.2,C,OK U,EJ U p]
 .by_cases h:k<B.ca.length
  .have o:=u.edge k e h;have hf:=(R.fit _ (AI e h)).2;rw[G,Fy e U,ε,Fy o.1.1 o.1.2,o.2,D,Fy e h,eN,Fy hf.1.1 U,Fy hf.2.1 U]
  .have p:k-B.ca.length<(AM r.ed.ca r.d4.ci.ca.length).length:=by
    rw [D,a6,bd]at F;omega
   obtain ⟨hv,H⟩:=Ir.1 (AI (l:=AM r.ed.ca r.d4.ci.ca.length) (i:=k-B.ca.length) U p);have hf:=(ho.right.fit _ (AI hv.1 hv.2)).2;rw[G,OK U,Q,EJ U p,nL z E K hv.1 hv.2 H,D,OK U,EJ U p];unfold Lb;dsimp only;rw[lD hi u L z O hf.1.1 hf.1.2,lD hi u L z O hf.2.1 hf.2.2]
def aw(t:AC)(d3:List ei)(x:AH):Prop:=∃B:AJ,Cv (Q7 t d3) x.kg (zH,zH)=.inl (zH,B)/\(CN t B).2=0/\IK B.ci x.d7 x.l4
theorem nt{d3:List ei}(hf:A0 t)(F:∀r∈d3,E6 r)(G:∀r∈d3,Ca t s r=0)(u:∀r∈d3,Oe s r l)(x:AH)(i:Int)(y:cE)(hi:IJ x)(h:aw t d3 x)(H:0<=i)(K:i<d3.length)
  (L:y∈(Hr t (Bo s (AA d3 i) l) x.d7 X).1)
  (O:JM x.l4.bq (AA d3 i).ed.bq (An s (AA d3 i) l) y.bq x.d7.bq.length)(he:JM x.l4.ca (AA d3 i).ed.ca (BQ s (AA d3 i) l) y.ca x.d7.ca.length)
  (C:Ha x.l4.bq y.bq (AA d3 i).ec.ci.bq.length=X)(P:Ha x.l4.ca y.ca (AA d3 i).ec.ci.ca.length=X)(p:IJ (Cj x i s (AA d3 i) l y)):aw t d3 (Cj x i s (AA d3 i) l y):=by
 obtain ⟨B,e,hv,D⟩:=h;have z:=AI H K;have o:=G _ z;obtain⟨_,hO⟩:=GK hf hv;obtain⟨E,_⟩:=jB o L;have Q:=oA o hi hO.g D E C P;have A:=me (i:=i) o (u _ z) hi hO.g D E O he C p;have R:(Mh (AA d3 i) B.ci (Km x (AA d3 i) y).bq).bq.length<=40:=by
  rw [<-A.nl];have:=Jz p.nnd p.nin;have:=p.z5;omega
 have S:(Mh (AA d3 i) B.ci (Km x (AA d3 i) y).bq).ca.length<=80:=by
  rw [<-A.el];have:=Jz p.Abl p.ein;have:=p.Aaf;omega
 obtain ⟨st,a1,a2,ε⟩:=iX hf (F _ z) o hv Q R S;refine⟨st.og,?_,ε,by rw[a2];exact A⟩;rw[show(Cj x i s (AA d3 i) l y).kg=x.kg++[⟨i,⟨Km x (AA d3 i) y,[]⟩⟩]from rfl,Za e,Cv];have:Q7 t d3 ⟨i,⟨Km x (AA d3 i) y,[]⟩⟩ (zH,B)=.inl (zH,st.og):=by
  unfold Q7;rw[aN (by show¬(i<0\/(d3.length:Int)<=i);omega)];dsimp only;rw[a1,aN V]
 rw [this];rfl
end
end Go.Sf.Sc
namespace Go.Sf.Sc
open Go Go.Sf
variable{α:Type}
theorem Wf[Inhabited α]{P:α->Prop}{l:List α}(hd:P default)(h:∀x∈l,P x)(i:Int):P (AA l i):=by
 unfold AA;rw[z?];cases e:l[i.toNat]? with
 |none=>exact hd|some x=>exact h x (A! e)
section
variable{t:AC}{s:Ap}{d3:List ei}{l:Fp}
theorem Zm(h:DP t s d3=0)(k:Int):BC t k=[]:=by
 have p:∀n∈t.bq,n.kl=[]:=by
  unfold DP at h;split at h
  .cases h
  split at h
  .omega
  split at h
  .cases h
  rename_i e;rw[I!,x?]at e;intro n o;have:=e n o;rw[p0]at this;exact B' U
 have u:=Wf (P:=λn:B6=>n.kl=[]) rfl p;have key:∀(n:Nat)(a:Int),CH t n a=[]:=λn=>by
  induction n with
  |zero=>intro a;rfl|succ n z=>intro a;rw[CH,z,u];simp
 exact key _ _
theorem Zo{h:AJ}(u:(BF t).2=0)(z:B8 h.ci=0)(A:h.eo.length=h.ci.bq.length)(C:∀i:Int,0<=i->i<h.ci.bq.length->GZ t (AA h.ci.bq i) (AA h.eo i)=0)(D:∀i:Int,0<=i->i<h.ci.ca.length->Hw t h.ci i=0):(CN t h).2=0:=by
 unfold CN;have E:fst (λi=>(nz (GZ t (AA h.ci.bq i) (AA h.eo i))).map λe=>(i,e)) 0 h.ci.bq.length=none:=BY.2 λi o p=>by rw[C i o p];rfl
 have F:fst (λi=>(nz (Hw t h.ci i)).map λe=>(i,e)) 0 h.ci.ca.length=none:=BY.2 λi o p=>by rw[D i o p];rfl
 rw [aN (λk=>k u),aN (λk=>k z),aN (λk=>k A),E,F];rfl
theorem rW(hv:(BF t).2=0):(CN t zH).2=0:=Zo hv a_ rfl (λi o e=>u') (λi o e=>u')
theorem rX(hv:(BF t).2=0)(h:AJ):aw t d3 (Gu h):=
 ⟨zH,rfl,rW hv,rfl,rfl,λi o e=>u',λi o e=>u',E?,E?⟩
theorem IK.mor{a b:ci}{m:cE}(h:IK a b m)(p:Bz a)(u:Bz b):HL a b m=0:=by
 unfold HL;rw[aN (by simp[Hb p]),aN (by simp[Hb u]),aN (by simp[h.nl,h.el]),BY.2]
 .dsimp only;rw[BY.2]
  .rfl
  intro i e z;obtain⟨A,o⟩:=h.edge i e (by have:=h.el;omega);unfold Hy;rw[aN U,o,aN V,aN V]
 .intro i e z;obtain⟨A,o⟩:=h.node i e (by have:=h.nl;omega);unfold KN;rw[aN U,aN i9]
variable{N:Nat}{I:Fp}{k:Int}
theorem We(h:OI N I=X)(o:0<=k)(p:k<N):∃i:Int,0<=i/\i<I.length/\AA I i=k:=by
 unfold OI at h;rw[F_]at h;obtain⟨i,u,z,e⟩:=BT (Ah.1 (h k (Br.2 ⟨o,p⟩)));exact⟨i,u,z,e⟩
theorem fS(h:OI N I=X)(p:I.Nodup)(e:∀k∈I,0<=k/\k<N):I.length=N:=by
 have A:=Jz p e;have:=List.Nodup.length_le_of_subset (l₁:=AV N) (l₂:=I) (Ua N) (λx o=>by
  obtain ⟨i,u,z,rfl⟩:=We h (Br.1 o).1 (Br.1 o).2;exact AI u z)
 rw [Am]at this;omega
theorem kW(hf:A0 t)(G:DP t s d3=0){B:AJ}(F:(CN t B).2=0){y:AH}(hi:IJ y)(C:L6 y=X)(A:IK B.ci y.d7 y.l4):(CN t (IF y).hV).2=0:=by
 obtain ⟨hv,hO⟩:=GK hf F;obtain⟨pn,pe⟩:=Pl F;unfold L6 at C;rw[kp]at C;have N:∀k:Int,0<=k->k<y.d7.bq.length->∃i:Int,(0<=i/\i<B.ci.bq.length)/\AA y.d7.bq k=AA B.ci.bq i:=λk u z=>by
  obtain ⟨i,p,o,rfl⟩:=We C.1 u z;rw[A.nl]at o;exact⟨i,⟨p,o⟩,(A.node i p o).2⟩
 have E:∀k:Int,0<=k->k<y.d7.ca.length->∃i:Int,(0<=i/\i<B.ci.ca.length)/\AA y.d7.ca k=⟨(AA B.ci.ca i).fd,AA y.l4.bq (AA B.ci.ca i).fu,AA y.l4.bq (AA B.ci.ca i).To⟩:=λk u z=>by
  obtain ⟨i,p,o,rfl⟩:=We C.2 u z;rw[A.el]at o;exact⟨i,⟨p,o⟩,(A.edge i p o).2⟩
 have K:Bz y.d7:=by
  refine ⟨hi.z5,hi.Aaf,λn H=>?_,λe he=>?_⟩
  .obtain⟨k,u,z,rfl⟩:=BT H;obtain⟨i,⟨p,o⟩,e⟩:=N k u z;rw[e];exact hO.g.kind _ (AI p o)
  .obtain⟨k,u,z,rfl⟩:=BT he;obtain⟨i,⟨p,o⟩,e⟩:=E k u z;have hf:=hO.g.fit _ (AI p o);rw[e];exact⟨hf.1,(A.node _ hf.2.1.1 hf.2.1.2).1,(A.node _ hf.2.2.1 hf.2.2.2).1⟩
 refine Zo hv (Hb K) (by simp[IF]) (λk u z=>?_) (λk u z=>?_)
 .obtain⟨i,⟨p,o⟩,e⟩:=N k u z;have D:=pn i p o;have L:AA (IF y).hV.eo k=[]:=Wf (P:=λv:Fp=>v=[]) rfl (λv hv=>H' hv) k;rw[show AA (IF y).hV.ci.bq k=AA B.ci.bq i from e,L];have O:(AA B.eo i).length=0:=by
   have:=hO.row i p o
   rwa [Zm G]at this
  rwa [B' O]at D
 .obtain⟨i,⟨p,o⟩,e⟩:=E k u z;have D:=pe i p o;have hf:=(hO.g.fit _ (AI p o)).2;unfold Hw D4 at D|-;rw[show AA (IF y).hV.ci.ca k=_ from e];dsimp only;rw[show(IF y).hV.ci.bq=y.d7.bq from rfl,(A.node _ hf.1.1 hf.1.2).2,(A.node _ hf.2.1 hf.2.2).2];exact D
theorem nT(hf:A0 t)(u:DP t s d3=0){y:AH}(hi:IJ y)(A:y.kg.length<=30)(o:L6 y=X)(h:aw t d3 y):(CN t (IF y).hV).2=0/\Yh t s d3 (IF y)=X:=by
 obtain ⟨B,e,z,p⟩:=h;have hd:=kW hf u z hi o p;obtain⟨_,hO⟩:=GK hf z;obtain⟨_,D⟩:=GK hf hd;have C:Yc t s d3 y.kg=(B,0):=by
  unfold Yc;rw[aN (by simp[u]),aN U,e]
 unfold L6 at o;rw[kp]at o;refine⟨hd,?_⟩;unfold Yh;rw[show(IF y).Aan=y.kg from rfl,C,aN V,aN (by simp[hd])];unfold iy JW;rw[show HL B.ci (IF y).hV.ci (IF y).Iso=0 from p.mor hO.g D.g,show(IF y).Iso=y.l4 from rfl,show(IF y).hV.ci=y.d7 from rfl,K6.2 p.nnd,K6.2 p.Abl,fS o.1 hi.nnd hi.nin,fS o.2 hi.Abl hi.ein];simp
end
end Go.Sf.Sc
namespace Go.Sf.Sc
open Go Go.Sf
def Wd(s:Ap)(l:Fp)(h:AJ)(g:ci):Prop:=∃N E,g=⟨h.ci.bq++N,h.ci.ca++E⟩/\(∀n∈N,hasB l (AA s.bq n)=T)/\∀e∈E,hasB l (AA s.ca e.fd)=T
section
variable{t:AC}{s:Ap}{d3:List ei}{l:Fp}
theorem oF{h:AJ}{x:AH}{i:Int}{r:ei}{y:cE}(ho:Wd s l h x.d7):Wd s l h (Cj x i s r l y).d7:=by
 obtain ⟨N,E,e,C,he⟩:=ho;refine⟨N++(AM (An s r l) r.d4.ci.bq.length).map (AA r.d4.ci.bq),E++(AM (BQ s r l) r.d4.ci.ca.length).map (Lb r (An s r l) y.bq x.d7.bq.length),?_,λn o=>?_,λn o=>?_⟩
 .show ci.mk (x.d7.bq++_) (x.d7.ca++_)=_;rw[show x.d7.bq=h.ci.bq++N by rw[e],show x.d7.ca=h.ci.ca++E by rw[e],bk,bk]
 .rcases y_.1 o with o|o
  .exact C n o
  obtain ⟨v,hv,rfl⟩:=y!.1 o;obtain⟨A,p⟩:=Ir.1 hv;cases u:hasB l (AA s.bq (AA r.d4.ci.bq v))with
  |false=>rfl|true=>
   refine absurd (B? _ (Gx.2 ⟨A,?_⟩)) p;have z:hasB r.ed.bq v=T:=by
    rw [<-I!,Ah];exact λk=>p (B! _ k)
   unfold JZ;rw[u,z];rfl
 .rcases y_.1 o with o|o
  .exact he n o
  obtain ⟨v,hv,rfl⟩:=y!.1 o;obtain⟨A,p⟩:=Ir.1 hv;cases u:hasB l (AA s.ca (AA r.d4.ci.ca v).fd)with
  |false=>exact u|true=>
   refine absurd (B? _ (Gx.2 ⟨A,?_⟩)) p;have z:hasB r.ed.ca v=T:=by
    rw [<-I!,Ah];exact λk=>p (B! _ k)
   unfold Hz;rw[u,z];rfl
theorem lz(hf:A0 t)(u:∀r∈d3,E6 r)(E:hasB l 2=X->hasB l 1=X/\hasB l 3=X)(C:DP t s d3=0){h:AJ}(hh:(CN t h).2=0){x:Al}(e:PV t s d3 h l=(x,0)):
  (CN t x.hV).2=0/\Yh t s d3 x=X/\x.hV.eo=E! x.hV.ci.bq.length []/\Wd s l h x.hV.ci:=by
 obtain ⟨hv,hO⟩:=GK hf hh;have A:=SM C;have he:=λr u=>Yl (A r u) E;unfold PV at e;cases o:Ei t s d3 l 31 (Gu h) 0 with
 |inl v=>rw[o]at e;cases e
 |inr r=>
  rw [o]at e;dsimp only at e;by_cases p:r.2.1=0
  .rw[aE p]at e;cases e;obtain⟨hi,⟨R,S,ε⟩,κ⟩:=ZB A (λx=>aw t d3 x/\x.kg.length<=30/\Wd s l h x.d7) (λx i y hi D F G H _ K L z O P Q=>⟨nt hf u A he x i y hi D.1 G H K L z O P Q,p!,oF D.2.2⟩)
    31 _ 0 r o p (XZ hO.g) ⟨rX hv h,n!,[],[],n!,V,V⟩ n! n!
   obtain ⟨η,ζ⟩:=nT hf C hi S κ R;exact⟨η,ζ,rfl,ε⟩
  .rw[aN p]at e;exact absurd (congrArg Prod.snd e) p
theorem lw{h:AJ}(e:(D6 t s d3 h l).2≠0):(D6 t s d3 h l).1=Jn:=by
 unfold D6 at e|-;split
 .rfl
 split
 .rfl
 split
 .rfl
 rename_i p u z;rw[aN p,aN u,aN z]at e;unfold PV at e|-;generalize Ei t s d3 l 31 (Gu h) 0=κ at e|-;cases κ with
 |inl v=>rfl|inr r=>
  dsimp only at e|-;by_cases o:r.2.1=0
  .rw[aE o]at e;exact absurd rfl e
  .rw[aN o]
theorem Ni(hf:A0 t)(z:∀r∈d3,E6 r)(A:hasB l 2=X->hasB l 1=X/\hasB l 3=X){h:AJ}(e:(D6 t s d3 h l).2=0):(DP t s d3=0/\(CN t h).2=0/\Ja s h.ci l=T)/\
  (CN t (D6 t s d3 h l).1.hV).2=0/\Yh t s d3 (D6 t s d3 h l).1=X/\(D6 t s d3 h l).1.hV.eo=E! (D6 t s d3 h l).1.hV.ci.bq.length []/\Wd s l h (D6 t s d3 h l).1.hV.ci:=by
 by_cases o:DP t s d3=0
 .by_cases p:(CN t h).2=0
  .by_cases u:Ja s h.ci l=X
   .unfold D6 at e;rw[aN i9,aN o1,aE u]at e;cases e
   .have C:D6 t s d3 h l=PV t s d3 h l:=by
     unfold D6;rw[aN i9,aN o1,aN u]
    rw [C]at e|-;exact⟨⟨o,p,d_⟩,lz hf z A o p (Prod.ext rfl e)⟩
  .unfold D6 at e;rw[aN i9,aE p]at e;exact absurd e p
 .unfold D6 at e;rw[aE o]at e;exact absurd e o
theorem VM(hf:A0 t)(o:∀r∈d3,E6 r)(p:hasB l 2=X->hasB l 1=X/\hasB l 3=X)(h:AJ):Qq (D6 t s d3 h l).1.hV:=by
 by_cases e:(D6 t s d3 h l).2=0
 .exact Vg hf (Ni hf o p e).2.1
 .rw[lw e];exact s5
theorem Tr{x:Al}(h:Qq x.hV):He x x=Y X:=by
 unfold He;rw[Y6 h h,bs,aN V,gT,bs,bs,aN a_,BX (λ_=>T) T λi e o _=>?_]
 .rw[show gh (λ_=>T) 0 (x.Aan.length:Int)=T from Bt.2 λi _ _=>rfl];rfl
 .rw[AD e o,bs,bs,aN V,gT,bs,bs,aN a_,Y3,bs,bs];simp
theorem U8{h:AJ}(e:Fu t s d3 h=Y X):d3.length<=8:=by
 refine K_ λo=>?_;have:Fu t s d3 h=Y T:=by
  unfold Fu M8;rw[aE (by rw[p0];omega)];rfl
 rw [this]at e;cases e
theorem oy(p:XQ t s):(∀n:Int,0<=n->n<t.bq.length->hasB [1,2,3] (AA s.bq n)=X)/\∀n:Int,0<=n->n<t.ca.length->hasB [1,2,3] (AA s.ca n)=X:=by
 have key:∀n:Int,0<=n->n<t.bq.length->hasB [1,2,3] (AA s.bq n)=X:=λn e o=>by
  have:=(p.node n e o).1;unfold JJ at this;simp only[kp,p0]at this;rw[Ah];simp only[w?,F?,or_false];omega
 refine ⟨key,λn e o=>?_⟩;have he:=p.ok.ends e o;rw[<-(p.edge _ e o).1];exact key _ he.1.1 he.1.2
theorem Uv(hf:A0 t)(e:DP t s d3=0){h:AJ}(hh:(CN t h).2=0):h.eo=E! h.ci.bq.length []:=by
 obtain ⟨_,hO⟩:=GK hf hh;refine List.eq_replicate_iff.2 ⟨hO.len,λv hv=>?_⟩;obtain⟨i,o,p,rfl⟩:=BT hv;have:=hO.row i o (by have:=hO.len;omega);rw[Zm e]at this;exact B' this
theorem Qe(g:Ds)(h:AJ)(L:(CQ g).Sm):F6 g h=Y X:=by
 obtain ⟨st,Q⟩:=Yt L;obtain⟨R,A,ε⟩:=Yv (s:=g.S) st Q h;unfold F6;rw[Wg,bs,aN a_,A,bs,bs];cases R with
 |false=>rfl|true=>
 obtain ⟨hf,p⟩:=ε rfl;have hl:=U8 A;have z:=VM (s:=g.S) hf p (l:=[1,2,3]) a_ h;rw[aN a_,show D0 g.tc=Y g.tc from BM a?,bs,yQ hf p,bs,yZ hf p,bs,aE V,Tr z,bs,bs,aE rfl];by_cases u:(D6 g.θ g.S g.tc h [1,2,3]).2=0
 .obtain⟨⟨C,hh,_⟩,η,δ,D,N,E,e,Z,h6⟩:=Ni hf p a_ u;obtain⟨_,F⟩:=GK hf η;obtain⟨H,K⟩:=ET F.g F.ty;obtain⟨q1,q2⟩:=oy (N1 (Lh C).2);have O:(D6 g.θ g.S g.tc h [1,2,3]).1.hV=h:=by
   generalize (D6 g.θ g.S g.tc h [1,2,3]).1.hV=ζ at *;obtain⟨G,κ⟩:=ζ;dsimp only at D e H K;have P:N=[]:=G?.2 λn o=>by
    have a:=H n (by rw[e];exact B? _ o);have:=Z n o;rw[q1 n a.1 a.2]at this;cases this
   have e0:E=[]:=G?.2 λn o=>by
    have a:=K n (by rw[e];exact B? _ o);have:=h6 n o;rw[q2 _ a.1 a.2]at this;cases this
   subst P e0;rw[D',D']at e;have e:G=h.ci:=e;subst e;rw[D,<-Uv hf C hh]
  rw [aN (by simp[u]),cd hf p,δ,bs,aE rfl,Y6 z (Vg hf hh),O];simp
 .rw[aE (by simp[u])];rfl
end
end Go.Sf.Sc
namespace Go.Sf
variable{α σ ρ:Type}
theorem WM{g e:α->σ->σ ⊕ ρ}:∀{l:List α}{s:σ},(∀x∈l,∀s,g x s=e x s)->Cv g l s=Cv e l s
 |[],_,_=>rfl|x::l,s,h=>by
  rw [Cv,Cv,h x (.head _) s];cases e x s with
  |inr r=>rfl|inl v=>exact WM (l:=l) λy o=>h y (x_ _ o)
end Go.Sf
namespace Go.Sf.Sc
open Go Go.Sf
def gw(l:Fp):Fp:=l.map λx=>4-x
def LX(s:Ap):Ap:=⟨gw s.bq,gw s.ca⟩
theorem WU{l:Fp}(A:l.length<=1000)(h:∀x∈l,1<=x/\x<=3):Fa l=Y (gw l):=by
 unfold Fa slices_Clone_int;rw[BM a?,bs,Bs (λi=>(AV l.length).map λj=>if j<i then 4-AA l j else AA l j) U ?_ λi o p=>?_,bs]
 .congr 1;rw[gw,ub l];exact C_ λj u=>aE (Br.1 u).2
 .rw[show((AV l.length).map λj=>if j<0 then 4-AA l j else AA l j)=(AV l.length).map (AA l)from C_ λj u=>aN (by have:=(Br.1 u).1;omega),NE]
 .have hi:=h _ (AI o p);rw[AD o (by rw[bd,Am];exact p),bs,bs,Eh _ o p,aN U,GN _ o,Au U U];congr 1;refine C_ λj _=>?_;by_cases e:j=i
  .rw[aE e,aE U,e]
  .rw[aN e];by_cases z:j<i
   .rw[aE z,aE U]
   .rw[aN z,aN U]
section
variable{t:AC}{s:Ap}{d3:List ei}
theorem WB{l:Fp}{i:Int}(e:0<=i)(o:i<l.length):AA (gw l) i=4-AA l i:=EJ e o
theorem YS{x:Int}:hasB [1] (4-x)=hasB [3] x:=by
 unfold hasB;simp only[A_,List.any_nil,J'];congr 1;exact propext ⟨λh=>U,λh=>U⟩
theorem sc(h:DJ t s=0):(∀x∈s.bq,1<=x/\x<=3)/\∀x∈s.ca,1<=x/\x<=3:=by
 obtain ⟨_,z⟩:=LT h;have u:=N1 h;have key:∀i:Int,0<=i->i<t.bq.length->1<=AA s.bq i/\AA s.bq i<=3:=λi e o=>by
  have:=(u.node i e o).1;unfold JJ at this;simpa only[kp,p0]using this
 refine ⟨λx p=>?_,λx p=>?_⟩
 .obtain⟨i,e,o,rfl⟩:=BT p;exact key i e (by have:=z.z5;omega)
 .obtain⟨i,e,o,rfl⟩:=BT p;have he:=u.ok.ends e (show i<t.ca.length by have:=z.Aaf;omega);rw[<-(u.edge i e (by have:=z.Aaf;omega)).1];exact key _ he.1.1 he.1.2
theorem oQ(hf:A0 t):EY t s=Y (if DJ t s=0 then LX s else⟨[],[]⟩,DJ t s):=by
 unfold EY;rw[V3 hf,bs];by_cases h:DJ t s=0
 .obtain⟨A,e⟩:=LT h;have o:=e.z5;have p:=e.Aaf;have u:=hf.c9;have z:=hf.d6;have hi:=sc h;rw[aN (by simp[h]),WU U hi.1,bs,WU U hi.2,bs,h];rfl
 .rw[aE (by simp[h]),aN h]
theorem d8(h:DJ t s=0):DJ t (LX s)=0:=by
 obtain ⟨O,E⟩:=LT h;have p:=N1 h;have H:=E.z5;have K:=E.Aaf;have A:∀i:Int,0<=i->i<t.bq.length->AA (LX s).bq i=4-AA s.bq i:=λi e o=>WB e U;have L:∀i:Int,0<=i->i<t.ca.length->AA (LX s).ca i=4-AA s.ca i:=λi e o=>WB e U;unfold DJ;rw[aN (by simp[O]),aN (by simp[LX,gw,H,K]),BY.2]
 .dsimp only;rw[BY.2]
  .rfl
  intro i e o;obtain⟨u,z⟩:=p.edge i e o;have he:=p.ok.ends e o;rw[OQ];unfold PM;have C:=(p.node _ he.1.1 he.1.2).1;unfold JJ at C|-;rw[L i e o,A _ he.1.1 he.1.2,A _ he.2.1 he.2.2,<-u];rw[<-u]at z;simp only[kp,p0]at C;rw[decide_eq_true (by omega:1<=4-AA s.bq (AA t.ca i).fu),decide_eq_true (by omega:4-AA s.bq (AA t.ca i).fu<=3),aN a_,aN];rw[decide_eq_true rfl,Bool.not_true,J!];by_cases D:AA s.bq (AA t.ca i).fu=2
  .have:=z.2 D;rw[decide_eq_false U,decide_eq_true U];decide
  .have:AA s.bq (AA t.ca i).To=AA s.bq (AA t.ca i).fu:=K_ λk=>D (z.1 k);rw[decide_eq_true U,decide_eq_false U];decide
 .intro i e o;obtain⟨u,z⟩:=p.node i e o;have P:=p.ok.par i e o;unfold LR;unfold JJ at u|-;rw[A i e o];simp only[kp,p0]at u;rw[decide_eq_true (by omega:1<=4-AA s.bq i),decide_eq_true (by omega:4-AA s.bq i<=3),aN a_,aN];rintro⟨F,G⟩;rw[A _ F U,z F]at G;exact G rfl
theorem si(h:DJ t s=0)(r:ei):Ca t (LX s) r=Ca t s r:=by
 unfold Ca;rw[d8 h,h]
theorem sf(h:DJ t s=0):DP t (LX s) d3=DP t s d3:=by
 unfold DP;rw[d8 h,h];simp only[si h]
theorem vl{r:ei}(e:Sorted s r.d4.ci):Ee (LX s) r [1]=Ee s r [3]/\FM (LX s) r [1]=FM s r [3]:=by
 unfold Ee FM Dk;refine⟨H! λi hi=>?_,H! λi hi=>?_⟩
 .have hi:=(Br (n:=r.d4.ci.bq.length)).1 hi;have:=e.node _ (AI hi.1 hi.2);unfold JZ;rw[show AA (LX s).bq _=_ from WB this.1 this.2,YS]
 .have hi:=(Br (n:=r.d4.ci.ca.length)).1 hi;have:=e.edge _ (AI hi.1 hi.2);unfold Hz;rw[show AA (LX s).ca _=_ from WB this.1 this.2,YS]
theorem vk{r:ei}{x:AH}{rec:AH->Int->Int ⊕ (AH×Int×Int)}{i v:Int}(u:Sorted s r.d4.ci):L8 t (LX s) [1] x rec i r v=L8 t s [3] x rec i r v:=by
 obtain ⟨e,o⟩:=vl u;have p:An (LX s) r [1]=An s r [3]:=by unfold An;rw[e]
 have z:BQ (LX s) r [1]=BQ s r [3]:=by unfold BQ;rw[o]
 have A:Bo (LX s) r [1]=Bo s r [3]:=by unfold Bo;rw[e,o,p]
 have C:∀y,Cj x i (LX s) r [1] y=Cj x i s r [3] y:=λy=>by unfold Cj;rw[p,z]
 unfold L8 Qc;rw[e,o,A];simp only[C]
theorem mt(e:∀r∈d3,Sorted s r.d4.ci):∀(n:Nat)(x:AH)(v:Int),Ei t (LX s) d3 [1] n x v=Ei t s d3 [3] n x v
 |0,x,v=>rfl|n+1,x,v=>by
  rw [Ei,Ei,WM λi hi v=>?_];have hi:=Br.1 hi;rw[vk (e _ (AI hi.1 hi.2)),show Ei t (LX s) d3 [1] n=Ei t s d3 [3] n from funext λz=>funext λw=>mt e n z w]
variable{α:Type}
theorem RK{p q:α->Bool}:∀{l:List α},(∀x∈l,p x=q x)->l.any p=l.any q
 |[],_=>rfl|x::l,h=>by rw[A_,A_,h x (.head _),RK λy e=>h y (.tail _ e)]
theorem vj(hf:A0 t)(z:DJ t s=0)(h:AJ):D6 t (LX s) d3 h [1]=D6 t s d3 h [3]:=by
 unfold D6;rw[sf z];by_cases o:DP t s d3=0
 .by_cases hh:(CN t h).2=0
  .have p:=MC hf o hh;have ho:Ja (LX s) h.ci [1]=Ja s h.ci [3]:=by
    unfold Ja;rw[RK (l:=h.ci.bq) (q:=λn=>!hasB [3] (AA s.bq n)) λn u=>by rw[show AA (LX s).bq n=_ from WB (p.node n u).1 (p.node n u).2,YS],RK (l:=h.ci.ca) (q:=λe=>!hasB [3] (AA s.ca e.fd)) λe he=>by rw[show AA (LX s).ca e.fd=_ from WB (p.edge e he).1 (p.edge e he).2,YS]]
   have hv:PV t (LX s) d3 h [1]=PV t s d3 h [3]:=by
    unfold PV;rw[mt λr A=>by
     obtain ⟨a,b,_,_⟩:=Eg (SM o r A);exact PO a b.right b.Aat]
   rw [ho,hv]
  .rw[aN i9,aE hh,aN i9,aE hh]
 .rw[aE o,aE o]
theorem RU(g:Ds)(h:AJ)(A:(CQ g).Sm):GU g h=Y X:=by
 obtain ⟨st,D⟩:=Yt A;obtain⟨E,z,F⟩:=Yv (s:=g.S) st D h;unfold GU;rw[Wg,bs,aN a_,z,bs,bs];cases E with
 |false=>rfl|true=>
 obtain ⟨hf,o⟩:=F rfl;have G:=U8 z;have u:=VM (s:=g.S) hf o (l:=[3]) a_ h;rw[aN a_,show D0 g.tc=Y g.tc from BM a?,bs,yO hf o,bs,yW hf o,bs,aN V,Tr u,bs,bs,aN a_,oQ hf,bs];have C:(if decide ((D6 g.θ g.S g.tc h [3]).2=0)=X then(DK g.θ g.S g.tc (D6 g.θ g.S g.tc h [3]).1).bind λp=>Y (!p)else Y T)=Y T:=by
  by_cases e:(D6 g.θ g.S g.tc h [3]).2=0
  .rw[aE d!,cd hf o,(Ni hf o a_ e).2.2.1];rfl
  .rw[aN d!]
 rw [C,bs,bs,aN a_];by_cases e:DJ g.θ g.S=0
 .rw[aN d!,aE e,qT hf o,bs,vj hf e,aE V,Tr u];rfl
 .rw[aE d!];have:(D6 g.θ g.S g.tc h [3]).2≠0:=λk=>e (Lh (Ni hf o a_ k).1.1).2;simp[this]
end
end Go.Sf.Sc
namespace Go.Sf.Sc
open Go Go.Sf
section
variable{t:AC}{s:Ap}{d3:List ei}
variable{g:ci}
theorem oM(h:Sorted s g)(e:Int):MZ s g e=Y (ak s g e):=by
 have:=h.ok.c9;have:=h.ok.d6;unfold MZ ak;rw[Bs (λi=>B7.mk (Dk (Tf s g e) i) []) U q?,bs,Bs (λi=>B7.mk (Dk (Tf s g e) g.bq.length) (Dk (Vn s g e) i)) U q?]
 .rfl
 .intro i p u;have z:=h.edge _ (AI p u);have A:=I6 (Vn s g e) i;rw[AD p u,bs,AD z.1 z.2,bs,M9 _ p];unfold Vn at A|-;by_cases o:AA s.ca (AA g.ca i).fd=e
  .rw[aE b?,aE b?,Ao b_];rfl
  .rw[aN b?,aN b?,D']
 .intro i p u;have z:=h.node _ (AI p u);have A:=I6 (Tf s g e) i;rw[AD p u,bs,AD z.1 z.2,bs,M9 _ p];unfold Tf at A|-;by_cases o:AA s.bq (AA g.bq i)=e
  .rw[aE b?,aE b?,Ao b_];rfl
  .rw[aN b?,aN b?,D']
variable{q:Int->Bool}
theorem Y9{n:Nat}(e:∀i:Int,0<=i->i<n->q i=X):∀k:Nat,(∀i:Int,n<=i->i<n+k->q i=T)->Dk q ((n+k:Nat):Int)=AV n
 |0,_=>List.filter_eq_self.2 λi hi=>by
  have:=(Br (n:=n)).1 hi;exact e i this.1 this.2
 |k+1,o=>by
  rw [show((n+(k+1):Nat):Int)=((n+k:Nat):Int)+1 by omega,M9 _ U,Y9 e k λi p u=>o i p U,o _ U U];simp
theorem Vz{x:Int}:hasB [1] x=decide (x=1):=by
 unfold hasB;by_cases h:x=1<;>simp[h,eq_comm]
theorem ou{h:AJ}(ho:Ja s h.ci [1]=T)(u:Wd s [1] h g):ak s g 1=⟨AV h.ci.bq.length,AV h.ci.ca.length⟩:=by
 obtain ⟨N,E,e,z,A⟩:=u;unfold Ja at ho;rw[I_,x?,x?]at ho;subst e;unfold ak;congr 1
 .rw[a6];refine Y9 (λi o p=>?_) _ λi o p=>?_
  .have:=ho.1 _ (AI o p);unfold Tf;rw[Fy o p,<-Vz];simpa using this
  .have:=z _ (AI (l:=N) (i:=i-h.ci.bq.length) U U);unfold Tf;rw[OK o,<-Vz];exact this
 .rw[a6];refine Y9 (λi o p=>?_) _ λi o p=>?_
  .have:=ho.2 _ (AI o p);unfold Vn;rw[Fy o p,<-Vz];simpa using this
  .have:=A _ (AI (l:=E) (i:=i-h.ci.ca.length) U U);unfold Vn;rw[OK o,<-Vz];exact this
theorem oN(hf:A0 t)(C:DP t s d3=0){h ζ:AJ}(hh:(CN t h).2=0)(hX:(CN t ζ).2=0)(ho:Ja s h.ci [1]=T)(F:Wd s [1] h ζ.ci):∃p,MW t s ζ 1=Y (h,p,0):=by
 have H:=(Lh C).2;obtain⟨_,hO⟩:=GK hf hh;obtain⟨_,ε⟩:=GK hf hX;have D:=MC hf C hX;have K:=ou ho F;obtain⟨N,E,e,_,_⟩:=F;have l1:h.ci.bq.length<=ζ.ci.bq.length:=by rw[e];simp
 have l2:h.ci.ca.length<=ζ.ci.ca.length:=by rw[e];simp
 have gn:=hO.g.c9;have ge:=hO.g.d6;have L:∀i:Int,0<=i->i<h.ci.bq.length->AA ζ.ci.bq i=AA h.ci.bq i:=λi o u=>by rw[e];exact Fy o u
 have G:∀i:Int,0<=i->i<h.ci.ca.length->AA ζ.ci.ca i=AA h.ci.ca i:=λi o u=>by rw[e];exact Fy o u
 have z:EG ζ.ci ⟨AV h.ci.bq.length,AV h.ci.ca.length⟩=0:=cr ε.g l1 l2 λi o u=>by
  rw [G i o u];exact(hO.g.fit _ (AI o u)).2
 have O:Mg ζ.ci ⟨AV h.ci.bq.length,AV h.ci.ca.length⟩=h.ci:=by
  unfold Mg;dsimp only;have Q:(AV h.ci.bq.length).map (AA ζ.ci.bq)=h.ci.bq:=by
   rw [C_ λi hi=>L i (Br.1 hi).1 (Br.1 hi).2,NE]
  have R:((AV h.ci.ca.length).map λx=>B3.mk (AA ζ.ci.ca x).fd (A4 (AV h.ci.bq.length) (AA ζ.ci.ca x).fu) (A4 (AV h.ci.bq.length) (AA ζ.ci.ca x).To))=h.ci.ca:=by
   rw [C_ λi hi=>show _=AA h.ci.ca i by
    have hi:=Br.1 hi;have hf:=(hO.g.fit _ (AI hi.1 hi.2)).2;rw[G i hi.1 hi.2,TD hf.1.1 hf.1.2,TD hf.2.1 hf.2.2],NE]
  rw [Q,R]
 have S:K8 t ζ ⟨AV h.ci.bq.length,AV h.ci.ca.length⟩=Y (h,0):=by
  unfold K8 Pm slices_Clone_int;rw[QP hf,bs,bs,aN (by simp[hX]),Zx ⟨s?,s?⟩,aN (by simp[z]),bs,aN V,O];dsimp only;rw[Am,Bs (λi=>AJ.mk h.ci (E! i.toNat [])) U q? λi o u=>?_,bs,K!,<-Uv hf C hh];have hv:=Uv hf C hX;rw[AD o (by rw[Am];exact u),bs,Oa o u,AD o (by rw[hv,List.length_replicate];omega),bs,
   show AA ζ.eo i=[]from Wf (P:=λv:Fp=>v=[]) rfl (λv A=>by rw[hv]at A;exact H' A) i,BM V,bs,Ao b_,bs,show(i+1).toNat=i.toNat+1 by omega,List.replicate_succ']
 refine ⟨⟨AV h.ci.bq.length,AV h.ci.ca.length⟩,?_⟩;unfold MW N6;rw[V3 hf,bs,aN (by simp[H]),QP hf,bs,bs,aN (by simp[hX]),aN a_,oM D,bs,K,S,bs,aN V]
theorem SS(g:Ds)(h:AJ)(C:(CQ g).Sm):Gq g h=Y X:=by
 obtain ⟨st,E⟩:=Yt C;obtain⟨F,A,G⟩:=Yv (s:=g.S) st E h;unfold Gq;rw[Wg,bs,aN a_,A,bs,bs];cases F with
 |false=>rfl|true=>
 obtain ⟨hf,u⟩:=G rfl;have P:=U8 A;have D:=VM (s:=g.S) hf u (l:=[1]) a_ h;rw[aN a_,show D0 g.tc=Y g.tc from BM a?,bs,qT hf u,bs,yY hf u,bs,aN V,Tr D,bs,bs];by_cases z:(D6 g.θ g.S g.tc h [1]).2=0
 .obtain⟨⟨H,hh,ho⟩,K,L,_,O⟩:=Ni hf u a_ z;obtain⟨p,e⟩:=oN hf H hh K ho O;have o:=Vg hf hh;rw[aN (by simp[z]),e,bs,cd hf u,L,bs,aE V,Y6 o o];simp
 .rw[aE (by simp[z]),aE V];rfl
end
end Go.Sf.Sc
