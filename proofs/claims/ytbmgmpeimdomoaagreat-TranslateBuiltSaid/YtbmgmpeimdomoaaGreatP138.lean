/- Plain lemmas: what the functions of the program and of the reference compute. -/
import Derived.Test.YtbmgmpeimdomoaaGreatP96
set_option linter.all false
set_option maxRecDepth 100000
open Option renaming some->Y
open Bool renaming true->X,false->T
open List renaming mem_cons->w!,mem_cons_of_mem->w?,any_eq_true->x_,any_eq_false->x!,mem_append->x?,mem_map->y_,getElem?_modify->y!,getElem?_eq_getElem->y?,length_set->z_,getD_eq_getElem?_getD->z!,zip_map'->z?,mem_of_getElem?->A_,drop_eq_nil_of_le->A',drop_eq_getElem_cons->A!,eq_nil_of_length_eq_zero->A?,mem_append_left->B_,mem_append_right->B',map_congr_left->B!,ext_getElem->B?,take_length->C_,mem_filter->C',mem_range->C!,append_nil->C?,map_append->D_,pairwise_map->D',nodup_append->D!,mem_singleton->D?,replicate->E_,nodup_nil->E',not_mem_nil->E!,pairwise_cons->E?,getElem?_eq_none->F_,nodup_iff_pairwise_ne->F!,take_sublist->F?,all_eq_true->G_,mem_flatMap->G!
open Bool renaming not_eq_true'->G?,or_eq_false_iff->H_,false_eq_true->H',or_eq_true->H!,not_eq_true->H?,eq_iff_iff->I_,not_eq_false->I'
open Classical renaming not_not->I!,byContradiction->I?
open Int renaming toNat_natCast->J_,natCast_add->J',eq_ofNat_of_zero_le->J!
namespace Go.Sf.Sc
open Go Go.Sf
variable{k c:Int}
theorem aF{t:AC}(u:ES t k):∀(n m:Nat)(a b:Int),a<k->a<n->b<m->b∈Gc t n a->c∈Gc t m b->c∈Gc t n a
 |0,_,_,_,_,_,_,o,_=>by simp[Gc]at o|n+1,m,a,b,C,E,D,o,z=>by
  rw [Gc]at o|-;split at o
  .cases o
  .rename_i A;rw[QQ A];have F:=u a U C;rcases w!.1 o with rfl|o
   .have e:=my u m (n+1) b C D E;rw[e,Gc,QQ A]at z;exact z
   .exact w? _ (aF u n m (par t a) b U U D o z)
variable{a b:Int}
theorem Zi{t:AC}(h:ET t)(A:a<t.az.length)(o:isB t a b=X)(u:isB t b c=X):isB t a c=X:=by
 unfold isB at o u|-;rw[x_]at o u|-;obtain⟨x,C,e⟩:=o;obtain⟨y,D,z⟩:=u;rw[pE]at e z;subst e;subst z;exact⟨c,aF h.par _ _ a b A U U C D,V⟩
theorem nk{t:AC}(h:ET t){e f g u z:Int}(hf:0<=u/\u<t.az.length)(A:0<=z/\z<t.az.length)(C:isB t u f=X)(D:isB t z g=X)(o:IZ t e f g=X):IZ t e u z=X:=by
 unfold IZ at o|-;simp only[gN,MP]at o|-;exact⟨⟨⟨o.1.1.1,hf,A⟩,o.1.2⟩,Zi h hf.2 C o.2.1,Zi h A.2 D o.2.2⟩
end Go.Sf.Sc
namespace Go.Sf.Sc
open Go Go.Sf
theorem dV{t:AC}{r:d3}(h:E0 t r=0):(∀x∈EF r,(AA t.az (AA r.ca.bi.az x)).p0=T)/\∀x∈IE r,DG t r.ca.bi x=X:=by
 have e:SK t r.ca.bi (EF r) (IE r)=X:=by grind[E0]
 unfold SK at e;rw[gN,G?,G?,x!,x!]at e;exact⟨λx o=>by simpa using e.1 x o,λx o=>by simpa using e.2 x o⟩
abbrev gS(t:AC)(r:d3)(h:AH)(m:AT):AH:=DD t r (CO h (dS r h m)) (cS r h m)
variable{m:AT}
theorem Hr.c8{t:AC}{r:d3}{h:AH}(s:Hr t r h m):∀e∈(gS t r h m).bi.be,((0<=e.fb/\e.fb<(gS t r h m).bi.az.length)/\0<=e.To/\e.To<(gS t r h m).bi.az.length)/\IZ t e.em (AA (gS t r h m).bi.az e.fb) (AA (gS t r h m).bi.az e.To)=X:=by
 intro e he;have el:(gS t r h m).bi.az=(dS r h m).az.map (AA h.bi.az)++(EF r).map (AA r.ca.bi.az):=rfl;have he:e∈(dS r h m).be.map (λx=>RH (GJ h (dS r h m)).az (AA h.bi.be x))++(IE r).map (λk=>RH (cS r h m).az (AA r.ca.bi.be k)):=he;rcases x?.1 he with he|he
 .obtain⟨x,F,rfl⟩:=y_.1 he;have E:=Us (cu s.part).2;have u:=E.c8.1 x F;have o:=E.ends x F;have hf:=(s.hh.g.fit _ (AG u.1 u.2)).2;have Q:=(OO s.he).2 x u.1 u.2;have fit:DG t h.bi x=X:=by
   unfold HZ at Q
   grind
  have at_:∀y,y∈(dS r h m).az->0<=y->y<h.bi.az.length->(0<=AA (GJ h (dS r h m)).az y/\AA (GJ h (dS r h m)).az y<(gS t r h m).bi.az.length)/\AA (gS t r h m).bi.az (AA (GJ h (dS r h m)).az y)=AA h.bi.az y:=λy K L O=>by
   have hi:=Bn K;rw[show AA (GJ h (dS r h m)).az y=A8 (dS r h m).az y from Nh L O,el,aE,a6];refine⟨⟨hi.1,by have:=hi.2.1;push_cast;omega⟩,?_⟩;rw[Ec hi.1 (by rw[a6];exact hi.2.1),OB hi.1 hi.2.1,hi.2.2.1]
  obtain ⟨a1,a2⟩:=at_ _ o.1 hf.1.1 hf.1.2;obtain⟨C,D⟩:=at_ _ o.2 hf.2.1 hf.2.2;refine⟨⟨a1,C⟩,?_⟩;simp only[RH];rw[a2,D];exact fit
 .obtain⟨k,G,rfl⟩:=y_.1 he;have z:0<=k/\k<r.ca.bi.be.length:=CL G;have hf:=(s.ro.right.fit _ (AG z.1 z.2)).2;obtain⟨a1,R,a2⟩:=s.AbD hf.1.1 hf.1.2;obtain⟨C,ε,D⟩:=s.AbD hf.2.1 hf.2.2;have A:=s.put.kind;refine⟨⟨a1,C⟩,?_⟩;exact nk (Cg s.hv) ⟨(A _ (AG a1.1 a1.2)).1,R⟩ ⟨(A _ (AG C.1 C.2)).1,ε⟩ a2 D ((dV s.re).2 k G)
end Go.Sf.Sc
namespace Go.Sf.Sc
open Go Go.Sf
def iI(t:AC)(k:Int)(v:Fp):Prop:=v.length=(A3 t k).length/\∀j:Int,0<=j->j<v.length->(AA (A3 t k) j).Low<=AA v j/\AA v j<=(AA (A3 t k) j).z5
def XI(t:AC)(g:bi)(κ:List Fp):Prop:=κ.length=g.az.length/\∀i:Int,0<=i->i<g.az.length->iI t (AA g.az i) (AA κ i)
theorem kf{t:AC}{x:AH}{κ:List Fp}(h:XI t x.bi κ){p:(Int×Int)×Int}(D:NZ t x p=T):XI t x.bi (Cl κ p):=by
 unfold Cl;split
 .rename_i C;refine⟨by rw[List.length_modify];exact h.1,λi E F=>?_⟩;have hi:=h.2 i E F;by_cases e:i=p.1.1
  .have o:AA (κ.modify p.1.1.toNat λr=>r.set p.1.2.toNat p.2) i=(AA κ i).set p.1.2.toNat p.2:=by
    have:=h.1;subst e;simp[AA,y!,y? (show p.1.1.toNat<κ.length by omega)]
   rw [o];refine⟨by rw[z_];exact hi.1,λj z A=>?_⟩;rw[z_]at A;by_cases u:j=p.1.2
   .rw[show AA ((AA κ i).set p.1.2.toNat p.2) j=p.2 by rw[u];exact rP p.2 C.2 U,u,e];simp[NZ]at D;omega
   .rw[show AA ((AA κ i).set p.1.2.toNat p.2) j=AA (AA κ i) j from rQ p.2 C.2 z u];exact hi.2 j z A
  .have o:AA (κ.modify p.1.1.toNat λr=>r.set p.1.2.toNat p.2) i=AA κ i:=by
    simp [AA,z!,y!,show¬p.1.1.toNat=i.toNat by omega]
   rw [o];exact hi
 .exact h
theorem Zb{t:AC}{x:AH}:∀(L:BW){κ:List Fp},XI t x.bi κ->L.any (NZ t x)=T->XI t x.bi (L.foldl Cl κ)
 |[],_,h,_=>h|p::L,κ,h,e=>by
  rw [List.any_cons,H_]at e;exact Zb L (kf h e.1) e.2
variable{m:AT}
theorem Hr.ci{t:AC}{r:d3}{h:AH}(s:Hr t r h m):(∀n∈(gS t r h m).bi.az,(AA t.az n).p0=T)/\∀v n,(n,v)∈(gS t r h m).bi.az.zip (gS t r h m).d5->iI t n v:=by
 have K:=Cg s.hv;have el:(gS t r h m).bi.az=(dS r h m).az.map (AA h.bi.az)++(EF r).map (AA r.ca.bi.az):=rfl;have ev:(gS t r h m).d5=(dS r h m).az.map (AA h.d5)++(EF r).map (λk=>Wo t (AA r.ca.bi.az k)):=rfl;have old:∀x∈(dS r h m).az,(AA t.az (AA h.bi.az x)).p0=T/\iI t (AA h.bi.az x) (AA h.d5 x):=λx o=>by
  have o:=s.rem.ci.1 x o;have u:=(OO s.he).1 x o.1 o.2;unfold GX at u;split at u
  .cases u
  split at u
  .cases u
  split at u
  .cases u
  split at u
  .cases u
  rename_i a1 a2 L O;refine⟨by simpa using a2,I!.1 L,λj E F=>?_⟩;have:=Bg.1 (by simpa using O) j E U;simp[RK]at this;omega
 have new:∀k∈EF r,iI t (AA r.ca.bi.az k) (Wo t (AA r.ca.bi.az k)):=λk G=>by
  have C:0<=k/\k<r.ca.bi.az.length:=CL G;have D:=(Cu s.ro.right s.ro.Aal).1 _ (AG C.1 C.2);refine⟨by simp[Wo],λj E F=>?_⟩;simp only[Wo,a6]at F|-;have:=kG s.hf K D.1 D.2 _ (AG E F);rw[show AA ((A3 t (AA r.ca.bi.az k)).map λx=>x.Low) j=(AA (A3 t (AA r.ca.bi.az k)) j).Low by grind[AA,y?]];omega
 refine ⟨λn A=>?_,λv n z=>?_⟩
 .rw[el]at A;rcases x?.1 A with A|A
  .obtain⟨x,o,rfl⟩:=y_.1 A;exact(old x o).1
  .obtain⟨k,G,rfl⟩:=y_.1 A;exact(dV s.re).1 k G
 .rw[el,ev,List.zip_append V]at z;rcases x?.1 z with z|z
  .rw[z?,y_]at z;obtain⟨x,o,e⟩:=z;cases e;exact(old x o).2
  .rw[z?,y_]at z;obtain⟨x,o,e⟩:=z;cases e;exact new x o
end Go.Sf.Sc
namespace Go.Sf.Sc
open Go Go.Sf
variable{α β:Type}
theorem wq[Inhabited α][Inhabited β]{a:List α}{b:List β}{i:Int}(e:0<=i)(o:i<a.length)(u:i<b.length):(AA a i,AA b i)∈a.zip b:=by
 refine A_ (i:=i.toNat) ?_;rw[List.getElem?_zip_eq_some]
 grind [AA,y?]
variable{m:AT}
theorem V6{t:AC}{r:d3}{h:AH}(s:XP t r h m):Br t (SU t r h m)=(-1,0):=by
 have f:=s.f;have hv:=f.hv;have C:=Cg hv;have put:=f.put;have F:=f.c8;obtain⟨O,Q⟩:=f.ci;have η:=C.ci;have ζ:=C.c8;have z:XI t (gS t r h m).bi (gS t r h m).d5:=⟨put.vlen,λi A u=>Q _ _ (wq A u (by rw[put.vlen];exact u))⟩;have o:=Zb (x:=gS t r h m) _ z (lr s.put).2;have D:∀e∈(gS t r h m).bi.be,0<=e.em/\e.em<t.be.length:=λe he=>by
  have:=(F e he).2;unfold IZ at this;simp only[gN,pE]at this;exact this.1.2
 have go:BV (gS t r h m).bi:=⟨s.few.1,s.few.2,λn K=>by have:=put.kind n K;omega,λe he=>⟨by have:=D e he;omega,(F e he).1⟩⟩;have L:(SU t r h m).bi=(gS t r h m).bi:=rfl;have ev:(SU t r h m).d5=(B7 r (cS r h m) m.eg).foldl Cl (gS t r h m).d5:=rfl;unfold Br;rw[QQ t_,L,ev,QQ (by simp[Hi go]),QQ (by simpa using o.1),Bc.2]
 .dsimp only;rw[Bc.2]
  .rfl
  intro i A u;have E:=AG A u;have G:HZ t (gS t r h m).bi i=0:=by
   unfold HZ DG;rw[QQ (by have:=D _ E;omega),(F _ E).2];rfl
  rw [G];rfl
 .intro i A u;have E:=AG A u;obtain⟨R,ε⟩:=o.2 i A u;have G:GX t (AA (gS t r h m).bi.az i) (AA ((B7 r (cS r h m) m.eg).foldl Cl (gS t r h m).d5) i)=0:=by
   unfold GX;rw[QQ (by have:=put.kind _ E;omega),QQ (by simp[O _ E]),QQ (by simpa using R),QQ];rw[Dn];rintro⟨j,κ,δ,e⟩;have:=ε j κ U;simp[RK]at e;omega
  rw [G];rfl
end Go.Sf.Sc
namespace Go.Sf
def Cw{α σ ρ:Type}(g:α->σ->σ ⊕ ρ):List α->σ->σ ⊕ ρ
 |[],s=>.inl s|x::l,s=>match g x s with
  |.inl s'=>Cw g l s'|.inr r=>.inr r
def nV{σ ρ:Type}:σ ⊕ ρ->B2 σ ρ
 |.inl s=>.next s|.inr r=>.ret r
variable{α σ ρ:Type}
theorem Np{g:α->σ->σ ⊕ ρ}{I:σ->Prop}{R:ρ->Prop}:∀{l:List α}{s:σ},(∀x∈l,∀s,I s->(∀s',g x s=.inl s'->I s')/\∀r,g x s=.inr r->R r)->I s->(∀s',Cw g l s=.inl s'->I s')/\∀r,Cw g l s=.inr r->R r
 |[],s,_,h=>⟨λs' e=>by cases e;exact h,λr e=>m?⟩
 |x::l,s,o,h=>by
  obtain ⟨z,A⟩:=o x (.head _) s h;rw[Cw];cases e:g x s with
  |inl v=>exact Np (λy u=>o y (w? _ u)) (z v e)|inr r=>
   constructor
   .intro s' k;cases k
   .intro C k;cases k;exact A r e
variable{f:Int->σ->Option (B2 σ ρ)}
theorem WA[Inhabited α]{l:List α}(g:α->σ->σ ⊕ ρ)(I:σ->Prop)(h:∀(i:Int)s,0<=i->i<l.length->I s->f i s=Y (nV (g (AA l i) s))/\∀s',g (AA l i) s=.inl s'->I s'):
  ∀(n:Nat)(a:Int)(s:σ),0<=a->a+n=l.length->I s->tc f n a s=Y (Cw g (l.drop a.toNat) s)
 |0,a,s,a0,z,_=>by
  rw [A' U];rfl
 |n+1,a,s,a0,z,A=>by
  obtain ⟨o,u⟩:=h a s a0 U A;have hd:l.drop a.toNat=AA l a::l.drop (a+1).toNat:=by
   rw [A! U,show(a+1).toNat=a.toNat+1 by omega];congr 1;unfold AA;rw[z!,y? U];rfl
  rw [FH,o,hd,Cw];cases e:g (AA l a) s with
  |inr r=>rfl|inl v=>exact WA g I h n (a+1) v U U (u v e)
theorem Xj[Inhabited α]{l:List α}(g:α->σ->σ ⊕ ρ)(I:σ->Prop){s:σ}(e:I s)(h:∀(i:Int)s,0<=i->i<l.length->I s->f i s=Y (nV (g (AA l i) s))/\∀s',g (AA l i) s=.inl s'->I s'):eE f 0 l.length s=Y (Cw g l s):=by
 have:=WA g I h l.length 0 s U U e;unfold eE;simpa using this
end Go.Sf
namespace Go.Sf.Sc
open Go Go.Sf
theorem RX{t:AC}{s:An}{r:d3}(h:B8 t s r=0):F2 r.bq<=40:=by
 unfold B8 at h;split at h
 .omega
 split at h
 .omega
 split at h
 .cases h
 rename_i G K C;have o:Pd r=X:=by simpa using C
 unfold Pd at o;simp only[gN,pE]at o;have D:r.bq.fq=1:=o.1.2;obtain⟨_,_,A⟩:=Qp (t:=t) (r:=r) U;unfold NM at A;split at A
 .omega
 split at A
 .omega
 rename_i L O;have u:Oo r.bq=0:=U
 have z:dt r.bq=X:=by
  cases E:dt r.bq with
  |true=>rfl|false=>unfold Oo at u;rw[Ne E]at u;cases u
 unfold dt at z;have Q:=GQ r.bq;obtain⟨n,F⟩:∃n,SizeOf.sizeOf r.bq=n+1:=⟨SizeOf.sizeOf r.bq-1,U⟩;rw[F,SC,gN]at z;have e:=z.1;unfold Ro at e;rw[Ne D]at e;simp only[gN,pE]at e;rw[bZ,A? e.1];decide
noncomputable def DP(t:AC)(s:An)(c7:List d3):Int:=
 if 6<(c7.length:Int)then 3 else if Ga t s≠0 then Ga t s else if(t.az.any λn=>decide (0<(n.gR.length:Int)))=X then 8 else
 (fst (λi=>nz (B8 t s (AA c7 i))) 0 c7.length).getD 0
theorem vP{t:AC}(hf:Ap t)(s:An):∃x,Gv t s=Y (x,Ga t s):=by
 unfold Gv;rw[gC hf,bs];by_cases h:Ga t s=0
 .obtain⟨E,e⟩:=PW h;have z:=e.t2;have A:=e.x4;have C:=hf.ci;have D:=hf.c8;rw[QQ to];obtain⟨m,o⟩:=Rx (l:=s.az) U;obtain⟨k,u⟩:=Rx (l:=s.be) U;rw[o,bs,u,bs,h];exact⟨_,rfl⟩
 .rw[Ne to];exact⟨_,rfl⟩
theorem lb{t:AC}(hf:Ap t)(s:An){c7:List d3}(C:∀r∈c7,Df r):CS ⟨t,s,c7⟩=Y (DP t s c7):=by
 unfold CS DP;dsimp only;by_cases o:6<(c7.length:Int)
 .rw[Ne d!,Ne o]
 rw [QQ d!,QQ o];obtain⟨x,e⟩:=vP hf s;rw[e,bs];dsimp only;refine DV λ_=>?_;rw[show BP t.az Ep=Y (t.az.any λn=>decide (0<(n.gR.length:Int)))from eA λn _=>rfl,bs];by_cases u:(t.az.any λn=>decide (0<(n.gR.length:Int)))=X
 .rw[Ne u,Ne u]
 rw [QQ u,QQ u,BU (λi=>nz (B8 t s (AA c7 i))),Cf];intro i z A _;rw[AD z A,bs,vR hf (C _ (AG z A)),bs,Lj]
theorem dA{t:AC}(hf:Ap t)(s:An){c7:List d3}(z:∀r∈c7,Df r):HO t s c7=Y (DP t s c7):=by
 unfold HO DP;by_cases u:6<(c7.length:Int)
 .rw[Ne e_,Ne u]
 rw [QQ e_,QQ u,gP hf,bs];refine DV λ_=>?_;rw[BN (λi=>decide (0<((AA t.az i).gR.length:Int))) 8]
 .rw[show(t.az.any λn=>decide (0<(n.gR.length:Int)))=fu (λi=>decide (0<((AA t.az i).gR.length:Int))) 0 t.az.length from GV];cases fu (λi=>decide (0<((AA t.az i).gR.length:Int))) 0 t.az.length with
  |true=>rfl|false=>
   rw [QQ a_,QQ a_,B0,BU (λi=>nz (B8 t s (AA c7 i))),Cf];intro i e o _;rw[AD e o,bs,vt hf (z _ (AG e o)),bs,Lj]
 .intro i e o _;rw[AD e o,bs];cases decide (0<((AA t.az i).gR.length:Int))<;>rfl
theorem MO{t:AC}{s:An}{c7:List d3}(h:DP t s c7=0):∀r∈c7,B8 t s r=0:=by
 unfold DP at h;split at h
 .cases h
 split at h
 .omega
 split at h
 .cases h
 intro r e;obtain⟨i,o,u,rfl⟩:=BC e;exact Si h i o u
def zH:AH:=⟨⟨[],[]⟩,[]⟩
theorem ud{b:Bool}{o:I1}{c:Bool}(h:b=T->o=Y c):(if b=X then Y X else o)=Y (b||c):=by
 cases b with
 |true=>rfl|false=>rw[QQ a_,h rfl];rfl
noncomputable def EB(t:AC)(c7:List d3)(m:C8)(s:AH×AH):(AH×AH) ⊕ (AH×Int):=
 if m.d3<0\/(c7.length:Int)<=m.d3 then .inr (zH,6)else
 if (Fy t (AA c7 m.d3) s.2 m.gE).2≠0 then .inr (zH,(Fy t (AA c7 m.d3) s.2 m.gE).2)else .inl (s.1,(Fy t (AA c7 m.d3) s.2 m.gE).1.k7)
noncomputable def Mq(t:AC)(s:An)(c7:List d3)(l:List C8):AH×Int:=
 if DP t s c7≠0 then(zH,DP t s c7)else if 30<(l.length:Int)then(zH,3)else
 match Cw (EB t c7) l (zH,zH)with
 |.inl x=>(x.2,0)|.inr r=>r
section
variable{t:AC}{s:An}{c7:List d3}
theorem qf(hf:Ap t)(z:∀r∈c7,Df r)(l:List C8):E1 t s c7 l=Y (Mq t s c7 l):=by
 unfold E1 Mq;rw[lb hf s z,bs];refine DV λC=>?_;by_cases e:30<(l.length:Int)
 .rw[Ne i?,Ne e];rfl
 rw [QQ i?,QQ e,Xj (EB t c7) (λ_=>True) trivial λi x D E _=>⟨?_,λ_ _=>trivial⟩]
 .show d6 (Y (Cw (EB t c7) l (zH,zH))) _ _=_;cases Cw (EB t c7) l (zH,zH)<;>rfl
 .rw[AD D E,bs];unfold EB;by_cases o:(AA l i).d3<0\/(c7.length:Int)<=(AA l i).d3
  .rw[Ne d!,Ne o];rfl
  rw [QQ d!,QQ o,AD U U,bs];have A:=AG (l:=c7) (i:=(AA l i).d3) U U;rw[vO hf (z _ A) (RX (MO C _ A)),bs];by_cases u:(Fy t (AA c7 (AA l i).d3) x.2 (AA l i).gE).2=0
  .rw[QQ g!,QQ g!];rfl
  .rw[Ne g!,Ne u];rfl
theorem y5(hf:Ap t)(z:∀r∈c7,Df r)(l:List C8):NC t s c7 l=Y (Mq t s c7 l):=by
 unfold NC Mq;rw[dA hf s z,bs];refine DV λC=>?_;by_cases e:30<(l.length:Int)
 .rw[Ne i?,Ne e];rfl
 rw [QQ i?,QQ e,Xj (EB t c7) (λ_=>True) trivial λi x D E _=>⟨?_,λ_ _=>trivial⟩]
 .show d6 (Y (Cw (EB t c7) l (zH,zH))) _ _=_;cases Cw (EB t c7) l (zH,zH)<;>rfl
 .rw[AD D E,bs,bs,ud λ_=>rfl,bs];unfold EB;by_cases o:(AA l i).d3<0\/(c7.length:Int)<=(AA l i).d3
  .rw[Ne d!,Ne o];rfl
  rw [QQ d!,QQ o,bs,AD (l:=c7) U U,bs,bs];have A:=AG (l:=c7) (i:=(AA l i).d3) U U;rw[dJ hf (z _ A) (RX (MO C _ A)),bs];by_cases u:(Fy t (AA c7 (AA l i).d3) x.2 (AA l i).gE).2=0
  .rw[QQ g!,QQ g!];rfl
  .rw[Ne g!,Ne u];rfl
end
theorem Tv(n:Nat):(AZ n).Nodup:=by
 unfold AZ;exact List.Pairwise.map _ (λa b h e=>h (Int.ofNat.inj e)) List.nodup_range
noncomputable def iw(a b:bi)(m:bk):Bool:=decide (HN a b m=0)&&(G2 m&&(decide (m.az.length=b.az.length)&&decide (m.be.length=b.be.length)))
theorem vG(a b:bi)(m:bk):((Cj a b m).bind λo=>(if o=X then((D3 a b m).bind λu=>Y (u))else Y T).bind λz=>Y z)=Y (iw a b m):=by
 unfold iw;by_cases h:HN a b m=0
 .rw[jM h,bs,decide_eq_true h,Bool.true_and];cases hi:G2 m with
  |false=>rfl|true=>
   have ho:=TQ h;have:=ho.ga.ci;have:=ho.ga.c8;have:=ho.t2;have:=ho.x4;obtain⟨k,D,A⟩:=TZ (l:=m.az) U;obtain⟨j,E,C⟩:=TZ (l:=m.be) U;unfold G2 at hi;rw[gN]at hi;rw[hi.1,pE]at A;rw[hi.2,pE]at C;unfold D3;rw[Ne rfl,Vs,h,bs,Ne (decide_eq_true rfl),D,bs,bs,A];by_cases e:m.az.length=b.az.length
   .rw[Ne d_,E,bs,bs,C];simp[e];omega
   .rw[QQ an];simp[e]
 .unfold Cj;rw[Vs,bs,QQ to];simp[h]
noncomputable def Yd(t:AC)(s:An)(c7:List d3)(x:Bv):Bool:=
 if (Mq t s c7 x.Aa4).2≠0 then T else if(Br t x.l6).2≠0 then T else iw (Mq t s c7 x.Aa4).1.bi x.l6.bi x.Iso
section
variable{t:AC}{s:An}{c7:List d3}
theorem u9(hf:Ap t)(e:∀r∈c7,Df r)(x:Bv):E3 t s c7 x=Y (Yd t s c7 x):=by
 unfold E3 Yd;rw[qf hf e,bs];refine DV λ_=>?_;rw[Uq hf,bs];exact DV λ_=>vG _ _ _
theorem yK(C:(AN t).Sm)(D:∀r∈c7,(Bm r).Sm):∃b,QM t s c7=Y b/\(b=X->Ap t/\∀r∈c7,Df r):=by
 unfold QM;by_cases h:8<(c7.length:Int)
 .rw[Ne c_];exact⟨T,rfl,λh=>c?⟩
 rw [QQ c_];rcases Wf (f:=λ(o:Int)(_:Unit)=>
  (idx c7 o).bind λz=>
  (Lx t s z).bind λA=>
  if (!A)=X then
  Y (.ret T)
  else
  Y (.next ())) (λi _=>∀j:Int,0<=j->j<i->Df (AA c7 j)) (λ_=>False) (λr=>r=T) (a:=0) (b:=c7.length) (s:=()) U (λj L O=>U) (λi s' o u hi=>by
   obtain ⟨b,e,f⟩:=fS (s:=s) C (D _ (AG o u));rw[AD o u,bs,e,bs];cases b with
   |false=>exact .inr (.inr ⟨T,rfl,rfl⟩)|true=>
    refine .inl ⟨(),rfl,λj E Q=>?_⟩;by_cases e:j=i
    .rw[e];exact(f rfl).2
    .exact hi j E U)with⟨s',e3,h3⟩|⟨r,e3,h3⟩
 .rw[e3,B0];have K:=h3.resolve_right id;obtain⟨b,e,f⟩:=fS (t:=t) (s:=s) (r:=⟨⟨#[]⟩,⟨⟨[],[]⟩,[],0,[]⟩,⟨⟨[],[]⟩,[],0,[]⟩,⟨[],[]⟩,⟨[],[]⟩,T,⟨0,[],⟨[],[]⟩,⟨⟨[],[]⟩,[],0,[]⟩⟩⟩) C (by
   simp only[Bm,TV.Sm,TV.Sms]
   repeat' (first|exact trivial|exact Nat.zero_le _|exact⟨Nat.zero_le _,trivial⟩|apply And.intro))
  rw [e,bs];refine⟨b,rfl,λF=>⟨(f F).1,λr G=>?_⟩⟩;obtain⟨i,o,u,rfl⟩:=BC G;exact K i o u
 .rw[e3,SA,h3];exact⟨T,rfl,λh=>c?⟩
theorem fi(u:(AN t).Sm)(z:∀r∈c7,(Bm r).Sm)(h:AH):∃b,K5 t s c7 h=Y b/\(b=X->Ap t/\∀r∈c7,Df r):=by
 obtain ⟨D,E,F⟩:=yK (s:=s) u z;obtain⟨G,K,_⟩:=kQ (h:=h);unfold K5;rw[E,bs,K];cases D with
 |false=>exact⟨T,rfl,λh=>c?⟩
 |true=>
 obtain ⟨hf,e⟩:=F rfl;rw[QQ a_,bs,bs];cases G with
 |false=>exact⟨T,rfl,λh=>c?⟩
 |true=>
 rw [QQ a_,dA hf s e,bs];by_cases o:(!decide (DP t s c7=0))=X
 .rw[Ne o];exact⟨X,rfl,λ_=>⟨hf,e⟩⟩
 rw [QQ o,BN (λi=>(decide (6<((AA c7 i).ca.bi.az.length:Int)))||(decide (7<((AA c7 i).ca.bi.be.length:Int)))) T]
 .cases fu (λi=>(decide (6<((AA c7 i).ca.bi.az.length:Int)))||(decide (7<((AA c7 i).ca.bi.be.length:Int)))) 0 c7.length with
  |true=>exact⟨T,rfl,λh=>c?⟩
  |false=>exact⟨_,rfl,λ_=>⟨hf,e⟩⟩
 .intro i A C _;rw[AD A C,bs];cases((decide (6<((AA c7 i).ca.bi.az.length:Int)))||(decide (7<((AA c7 i).ca.bi.be.length:Int))))<;>rfl
end
end Go.Sf.Sc
namespace Go.Sf.Sc
open Go Go.Sf
def Ba(s:An)(r:d3)(l:Fp):bi:=⟨r.d7.bi.az++(Di s r l).map (AA r.ca.bi.az),r.d7.bi.be++(Ea s r l).map (Vg r (At s r l))⟩
def MD(s:An)(r:d3)(l:Fp):Prop:=∀i∈Ea s r l,(AA r.ca.bi.be i).fb∈At s r l/\(AA r.ca.bi.be i).To∈At s r l
def Rz(n:Nat)(l:Fp):Fp:=(AZ n).map λv=>if hasB l v=X then A8 l v else 0
theorem oD{l:Fp}{x:Int}(E:x∉l)(v:Int):A8 (l++[x]) v=if v∈l then A8 l v else if v=x then(l.length:Int)else -1:=by
 have key:∀w:Int,w∈l++[x]->∀k:Int,0<=k->k<l.length+1->AA (l++[x]) k=w->(∀j:Int,0<=j->j<k->AA (l++[x]) j≠w)->A8 (l++[x]) w=k:=by
  intro w C k D F e h;obtain⟨a,b,c,d⟩:=Bn C;rw[aE]at b;by_cases o:A8 (l++[x]) w<k
  .exact absurd c (h _ a o)
  by_cases z:k<A8 (l++[x]) w
  .exact absurd e (d k D z)
  omega
 have left:∀j:Int,0<=j->j<l.length->AA (l++[x]) j=AA l j:=λj u A=>by
  rw [Gy,Ne U]
 by_cases o:v∈l
 .rw[Ne o];obtain⟨a,b,c,d⟩:=Bn o;exact key v (B_ _ o) _ a U (by rw[left _ a b];exact c) λj u A=>by rw[left j u U];exact d j u A
 .rw[QQ o];by_cases z:v=x
  .rw[Ne z];subst z;refine key v (B' _ (.head _)) _ U U ?_ λj u A e=>?_
   .rw[Gy,QQ U];simp[AA]
   .rw[left j u A]at e;exact o (e▸AG u A)
  .rw[QQ z];exact Qw (by simp[o,z])
theorem gI{n:Nat}{l:Fp}{x:Int}(z:0<=x)(u:x∉l):BB (Rz n l) x (l.length:Int)=Rz n (l++[x]):=by
 unfold Rz;rw[GP _ z];refine B! λj _=>?_;rw[oD u];by_cases o:j=x
 .subst o;rw[Ne rfl,Ne (by rw[Aj];simp),QQ u,Ne rfl]
 .rw[QQ o];by_cases e:j∈l
  .rw[Ne (Aj.2 e),Ne (by rw[Aj];simp[e]),Ne e]
  .rw[QQ (by rw[Aj];exact e),QQ (by rw[Aj];simp[o,e])]
theorem Ss(n:Nat)(l:Fp):(Rz n l).length=n:=by unfold Rz;rw[a6,Am]
theorem gH{n:Nat}(e:n<=4096):Eu (n:Int) (0:Int)=Y (Rz n []):=by
 unfold Eu;rw[Ne U];congr 1;refine(B? (by simp[Ss]) λi o u=>?_);simp[Rz,hasB]
variable{v:Int}
theorem lm{n:Nat}{l:Fp}(e:0<=v)(o:v<n)(hv:v∈l):AA (Rz n l) v=A8 l v:=by
 unfold Rz;rw[E5 _ e o,Ne (Aj.2 hv)]
theorem Ta{l:Fp}{n:Int}(e:0<=n)(o:n<=1000):Fa n l=Y (AJ l n):=by
 unfold Fa;rw[R7 e o λi=>Sb l i];rfl
def J7(q:Int->Bool)(rest:Fp)(i:Int):Fp:=(rest.take i.toNat).filter q
theorem Z6(q:Int->Bool){rest:Fp}{i:Int}(e:0<=i)(o:i<rest.length):J7 q rest (i+1)=J7 q rest i++if q (AA rest i)=X then[AA rest i]else[]:=by
 unfold J7;rw[CP e o,List.filter_append];cases h:q (AA rest i)<;>simp[h]
theorem dX(q:Int->Bool)(l:Fp)(n:Int):J7 q (AJ l n) ((AJ l n).length:Int)=KW (λi=>!hasB l i&&q i) n:=by
 unfold J7 AJ KW;rw[J_,C_,List.filter_filter];congr 1;funext i;rw[Bool.and_comm]
variable{q:Int->Bool}
theorem o7{rest:Fp}{i x:Int}(h:x∈J7 q rest i):x∈rest.take i.toNat:=(C'.1 h).1
theorem dY(q:Int->Bool)(rest:Fp)(i:Int):(J7 q rest i).length<=rest.length:=by
 unfold J7;exact Nat.le_trans (List.length_filter_le _ _) i_
theorem Y7{l:Fp}{i j:Int}(e:0<=j)(h:j<i):AA (l.take i.toNat) j=AA l j:=by
 unfold AA;rw[z!,z!,List.getElem?_take,Ne U]
theorem gm{l:Fp}(o:l.Nodup){i:Int}(z:0<=i)(A:i<l.length):AA l i∉l.take i.toNat:=λC=>by
 obtain ⟨j,u,E,e⟩:=BC C;rw[aN]at E;rw[Y7 u U]at e;have D:=D2 o z A;have F:=D2 o u (show j<l.length by omega);rw[<-e]at D;omega
theorem jY(l:Fp)(n:Int):(AJ l n).Nodup:=by
 rw [show AJ l n=KW (λi=>!hasB l i) n from rfl];unfold KW;exact List.Pairwise.filter _ (Tv n.toNat)
theorem dT{l:Fp}{n x:Int}(h:x∈AJ l n):x∉l:=λe=>by
 unfold AJ at h;have:=(C'.1 h).2;rw[Aj.2 e]at this;cases this
theorem Cv{n x:Int}:x∈KW q n↔(0<=x/\x<n)/\q x=X:=by
 unfold KW;rw[C'];constructor
 .rintro⟨o,u⟩;obtain⟨k,z,rfl⟩:=y_.1 o;rw[C!]at z;have e:Int.ofNat k=(k:Int):=rfl;exact⟨⟨U,U⟩,u⟩
 .rintro⟨⟨o,u⟩,A⟩;exact⟨y_.2 ⟨x.toNat,C!.2 U,Int.toNat_of_nonneg o⟩,A⟩
section
variable{t:AC}{s:An}{r:d3}
theorem dj{l:Fp}(e:∀i:Int,0<=i->i<r.ec.az.length->0<=AA r.ec.az i/\AA r.ec.az i<r.ca.bi.az.length){x:Int}(h:x∈At s r l):0<=x/\x<r.ca.bi.az.length:=by
 rcases x?.1 h with h|h
 .obtain⟨i,o,u,rfl⟩:=BC h;exact e i o u
 .exact(Cv.1 h).1
theorem vI{p:Ah}(ζ:B8 t p.jj.s r=0)(he:MD p.jj.s r p.Aan):Dj p r=Y ⟨Ba p.jj.s r p.Aan,Di p.jj.s r p.Aan,Ea p.jj.s r p.Aan⟩:=by
 obtain ⟨hs,ho,l1,l2⟩:=C4 ζ;have Q:=ho.left;have R:=R9 hs ho.right ho.Aal;have n1:=Q.ci;have n2:=Q.c8;have n3:=ho.right.ci;have n4:=ho.right.c8;have z:=ho.mor;have A:∀i:Int,0<=i->i<r.ec.az.length->0<=AA r.ec.az i/\AA r.ec.az i<r.ca.bi.az.length:=λi e o=>(z.node i e o).1;generalize C:p.jj.s=s at *;generalize D:p.Aan=l at *;unfold Dj slices_Clone_int Ca;rw[BM a?,bs,BM a?,bs,gH U,bs,
  BZ (λi=>Rz r.ca.bi.az.length (r.ec.az.take i.toNat)) U V,bs,J_,C_,Ta U U,bs,Ta U U]
 .have δ:J7 (λi=>hasB l (AA s.az (AA r.ca.bi.az i))) (AJ r.ec.az r.ca.bi.az.length) ((AJ r.ec.az r.ca.bi.az.length).length:Int)=Di s r l:=dX _ _ _;have L:J7 (λi=>hasB l (AA s.be (AA r.ca.bi.be i).em)) (AJ r.ec.be r.ca.bi.be.length) ((AJ r.ec.be r.ca.bi.be.length).length:Int)=Ea s r l:=dX _ _ _;have k1:=Hy r.ec.az r.ca.bi.az.length;have k2:=Hy r.ec.be r.ca.bi.be.length;rw[BZ (λi=>(Cc.mk ⟨r.d7.bi.az++(J7 (λi=>hasB l (AA s.az (AA r.ca.bi.az i))) (AJ r.ec.az r.ca.bi.az.length) i).map (AA r.ca.bi.az),r.d7.bi.be⟩ (J7 (λi=>hasB l (AA s.az (AA r.ca.bi.az i))) (AJ r.ec.az r.ca.bi.az.length) i) [],
    Rz r.ca.bi.az.length (r.ec.az++J7 (λi=>hasB l (AA s.az (AA r.ca.bi.az i))) (AJ r.ec.az r.ca.bi.az.length) i))) U (by simp[J7]),bs,bs,δ]
  .rw[BZ (λi=>Cc.mk ⟨r.d7.bi.az++(Di s r l).map (AA r.ca.bi.az),r.d7.bi.be++(J7 (λi=>hasB l (AA s.be (AA r.ca.bi.be i).em)) (AJ r.ec.be r.ca.bi.be.length) i).map (Vg r (At s r l))⟩ (Di s r l) (J7 (λi=>hasB l (AA s.be (AA r.ca.bi.be i).em)) (AJ r.ec.be r.ca.bi.be.length) i)) U (by simp[J7]),bs,L]
   .rfl
   .intro i e o;have u:=CL (AG e o);have E:=R.edge _ (AG u.1 u.2);have Z:=dY (λi=>hasB l (AA s.be (AA r.ca.bi.be i).em)) (AJ r.ec.be r.ca.bi.be.length) i;rw[AD e o,bs,AD u.1 u.2,bs,C,AD E.1 E.2,bs,D,Sb,bs,Z6 _ e o];cases ε:hasB l (AA s.be (AA r.ca.bi.be (AA (AJ r.ec.be r.ca.bi.be.length) i)).em)with
    |false=>simp only[H',if_false,C?]|true=>
     have F:AA (AJ r.ec.be r.ca.bi.be.length) i∈Ea s r l:=by
      refine Cv.2 ⟨u,?_⟩;unfold PH;rw[ε,Bool.and_true,G?];cases h:hasB r.ec.be (AA (AJ r.ec.be r.ca.bi.be.length) i)with
      |false=>rfl|true=>exact absurd (Aj.1 h) (dT (AG e o))
     obtain ⟨κ,η⟩:=he _ F;have G:=dj (s:=s) (l:=l) A κ;have K:=dj (s:=s) (l:=l) A η;rw[Ne rfl,Ne rfl,AV a!,bs,AD G.1 (by rw[Ss];exact G.2),bs,AD K.1 (by rw[Ss];exact K.2),bs,AV a!,bs,show AA (Rz r.ca.bi.az.length (r.ec.az++Di s r l)) (AA r.ca.bi.be (AA (AJ r.ec.be r.ca.bi.be.length) i)).fb=_ from lm G.1 G.2 κ,show AA (Rz r.ca.bi.az.length (r.ec.az++Di s r l)) (AA r.ca.bi.be (AA (AJ r.ec.be r.ca.bi.be.length) i)).To=_ from lm K.1 K.2 η,D_,<-ae];rfl
  .intro i e o;have u:=CL (AG e o);have E:=R.node _ (AG u.1 u.2);have Z:=dY (λi=>hasB l (AA s.az (AA r.ca.bi.az i))) (AJ r.ec.az r.ca.bi.az.length) i;rw[AD e o,bs,AD u.1 u.2,bs,C,AD E.1 E.2,bs,D,Sb,bs,Z6 _ e o];cases ε:hasB l (AA s.az (AA r.ca.bi.az (AA (AJ r.ec.az r.ca.bi.az.length) i)))with
   |false=>simp only[H',if_false,C?]|true=>
    have O:AA (AJ r.ec.az r.ca.bi.az.length) i∉r.ec.az++J7 (λi=>hasB l (AA s.az (AA r.ca.bi.az i))) (AJ r.ec.az r.ca.bi.az.length) i:=λz=>by
     rcases x?.1 z with z|z
     .exact dT (AG e o) z
     .exact gm (jY _ _) e o (o7 z)
    rw [Ne rfl,Ne rfl,AD u.1 (by rw[Ss];exact u.2),bs,AV a!,bs,bs,AV a!,bs,D_,<-ae,<-ae];dsimp only;rw[show((r.d7.bi.az++List.map (AA r.ca.bi.az) (J7 (λi=>hasB l (AA s.az (AA r.ca.bi.az i))) (AJ r.ec.az r.ca.bi.az.length) i)).length:Int)=((r.ec.az++J7 (λi=>hasB l (AA s.az (AA r.ca.bi.az i))) (AJ r.ec.az r.ca.bi.az.length) i).length:Int)by rw[aE,aE,a6,l1],gI u.1 O];rfl
 .intro i e o;have u:=A i e o;rw[AD e o,bs,AD u.1 (by rw[Ss];exact u.2),bs];have:=gI (n:=r.ca.bi.az.length) u.1 (gm ho.inj.1 e o);rw[aN,show((min i.toNat r.ec.az.length:Nat):Int)=i by omega]at this;rw[this,CP e o]
end
end Go.Sf.Sc
namespace Go.Sf.Sc
open Go Go.Sf
structure ST(t:AC)(s:An):Prop where
 ok:ET t
 node:∀i:Int,0<=i->i<t.az.length->LR (AA s.az i)=X/\(0<=par t i->AA s.az (par t i)=AA s.az i)
 edge:∀i:Int,0<=i->i<t.be.length->AA s.az (AA t.be i).fb=AA s.be i/\(AA s.az (AA t.be i).To≠AA s.be i↔AA s.be i=2)
theorem Oq{t:AC}{s:An}(h:Ga t s=0):ST t s:=by
 obtain ⟨L,E⟩:=PW h;unfold Ga at h;rw[QQ (by simp[L]),QQ (by simp[E.t2,E.x4])]at h;cases z:fst (NE t s) 0 t.az.length with
 |some e=>
  rw [z]at h;simp only at h;obtain⟨i,_,_,o,_⟩:=DW z;unfold NE at o;split at o
  .cases o;cases h
  .split at o
   .cases o;cases h
   .cases o
 |none=>
  rw [z]at h;simp only at h;have K:=Si h;rw[Bc]at z;refine⟨E.types,λi A C=>?_,λi A C=>?_⟩
  .have:=z i A C;unfold NE at this;split at this
   .cases this
   .rename_i G;split at this
    .cases this
    .rename_i u;refine⟨by simpa using G,λF=>?_⟩;by_cases D:AA s.az (par t i)=AA s.az i
     .exact D
     .exact absurd ⟨F,D⟩ u
  .have:=K i A C;unfold RT at this;split at this
   .cases this
   .split at this
    .cases this
    next u=>simp only[H!,G?,decide_eq_false_iff_not,beq_iff_eq,not_or,Decidable.not_not]at u;refine⟨u.1,?_⟩;have O:=u.2;by_cases F:AA s.az (AA t.be i).To=AA s.be i<;>by_cases D:AA s.be i=2<;>simp_all
theorem g8{t:AC}{s:An}(h:ST t s):∀(n:Nat)(a:Int),0<=a->a<t.az.length->∀x∈Gc t n a,AA s.az x=AA s.az a
 |0,_,_,_,x,e=>by simp[Gc]at e|n+1,a,a0,a1,x,e=>by
  rw [Gc,QQ U]at e;rcases w!.1 e with rfl|e
  .rfl
  .by_cases o:0<=par t a
   .have u:=h.ok.par a a0 a1;rw[g8 h n (par t a) o U x e];exact(h.node a a0 a1).2 o
   .cases n with
    |zero=>simp[Gc]at e|succ n=>rw[Gc,Ne U]at e;cases e
variable{a b:Int}
theorem Vh{t:AC}{s:An}(h:ST t s)(a0:0<=a)(a1:a<t.az.length)(o:isB t a b=X):AA s.az b=AA s.az a:=by
 unfold isB at o;obtain⟨x,u,e⟩:=x_.1 o;rw[pE]at e;rw[e];exact g8 h _ a a0 a1 x u
theorem Ts{t:AC}{s:An}{r:d3}(h:B8 t s r=0):Ga t s=0/\E0 t r=0:=by
 unfold B8 at h;split at h
 .omega
 split at h
 .omega
 exact ⟨U,U⟩
theorem ja{t:AC}{r:d3}(h:E0 t r=0):SK t r.ca.bi (EF r) (IE r)=X:=by
 cases e:SK t r.ca.bi (EF r) (IE r)with
 |true=>rfl|false=>
  unfold E0 at h;rw[e]at h
  grind
theorem Sg{t:AC}{s:An}{r:d3}{l:Fp}(h:B8 t s r=0)(ε:hasB l 2=X->hasB l 1=X/\hasB l 3=X):MD s r l:=by
 obtain ⟨δ,Z⟩:=Ts h;obtain⟨_,ho,_,_⟩:=C4 h;have C:=Oq δ;have z:=ja Z;have A:=Cu ho.right ho.Aal;intro i hi;obtain⟨⟨Q,R⟩,u⟩:=Cv.1 hi;unfold PH at u;rw[gN,G?]at u;have E:i∈IE r:=by
  show i∈KW (λi=>!hasB r.ec.be i) _;exact Cv.2 ⟨⟨Q,R⟩,by rw[u.1];rfl⟩
 have o:DG t r.ca.bi i=X:=by
  unfold SK at z;rw[gN,G?,G?]at z;have:=x!.1 z.2 i E;simpa using this
 unfold DG IZ at o;simp only[gN,pE]at o;obtain⟨⟨_,e0,e1⟩,f1,f2⟩:=o;have hf:=ho.right.fit _ (AG Q R);have G:=A.1 _ (AG (l:=r.ca.bi.az) (i:=(AA r.ca.bi.be i).fb) U U);have D:=A.1 _ (AG (l:=r.ca.bi.az) (i:=(AA r.ca.bi.be i).To) U U);have ζ:=Vh C G.1 G.2 f1;have s2:=Vh C D.1 D.2 f2;obtain⟨g1,g2⟩:=C.edge _ e0 e1;have key:∀x:Int,0<=x->x<r.ca.bi.az.length->hasB l (AA s.az (AA r.ca.bi.az x))=X->x∈At s r l:=λx κ x1 η=>by
  by_cases K:x∈r.ec.az
  .exact B_ _ K
  .refine B' _ (Cv.2 ⟨⟨κ,x1⟩,?_⟩);unfold PI;have:hasB r.ec.az x=T:=by rw[<-H?,Aj];exact K
   rw [this,η];rfl
 refine ⟨key _ U U (by rw[<-ζ,g1];exact u.2),key _ U U ?_⟩;rw[<-s2];by_cases L:AA s.be (AA r.ca.bi.be i).em=2
 .rw[L]at u;obtain⟨k1,k3⟩:=ε u.2;have F:=(C.node _ D.1 D.2).1;rw[<-s2]at F;unfold LR at F;simp only[gN,pE]at F;have:AA s.az (AA t.be (AA r.ca.bi.be i).em).To=1\/AA s.az (AA t.be (AA r.ca.bi.be i).em).To=2\/AA s.az (AA t.be (AA r.ca.bi.be i).em).To=3:=U
  rcases this with e|e|e<;>rw[e]
  .exact k1
  .exact u.2
  .exact k3
 .have:AA s.az (AA t.be (AA r.ca.bi.be i).em).To=AA s.be (AA r.ca.bi.be i).em:=by
   by_cases O:AA s.az (AA t.be (AA r.ca.bi.be i).em).To=AA s.be (AA r.ca.bi.be i).em
   .exact O
   .exact absurd (g2.1 O) L
  rw [this];exact u.2
end Go.Sf.Sc
namespace Go.Sf.Sc
open Go Go.Sf
theorem W5(l:Fp)(n:Int):(AJ l n).Pairwise (·<·):=by
 unfold AJ;refine List.Pairwise.filter _ ?_;rw[D'];exact List.Pairwise.imp (λh=>Int.ofNat_lt.2 h) List.pairwise_lt_range
theorem GF{l:Fp}{n x:Int}:x∈AJ l n↔(0<=x/\x<n)/\x∉l:=by
 show x∈KW (λi=>!hasB l i) n↔_;rw[Cv,G?,<-H?,Aj]
variable{σ:Type}
theorem kX{f:Int->σ->Option σ}{l:Fp}{n:Int}(G:Int->σ)(n0:0<=n)(A:∀i,0<=i->i<n->i∈l->G (i+1)=G i)
  (C:∀k:Int,0<=k->k<(AJ l n).length->f k (G (AA (AJ l n) k))=Y (G (AA (AJ l n) k+1))):gp f 0 ((AJ l n).length:Int) (G 0)=Y (G n):=by
 have R:=W5 l n;have lt:∀i j:Int,0<=i->i<j->j<(AJ l n).length->AA (AJ l n) i<AA (AJ l n) j:=λi j e ij ζ=>by
  have:=List.pairwise_iff_getElem.1 R i.toNat j.toNat U U U;unfold AA;rw[z!,z!,y? U,y? U];exact this
 have D:∀(m:Nat)(a:Int),0<=a->a+m<=n->(∀i,a<=i->i<a+m->i∈l)->G a=G (a+m):=by
  intro m
  induction m with
  |zero=>intro a _ _ _;simp|succ m ih=>
   intro a a0 Z F;rw[ih a a0 U λi e K=>F i e U];rw[show a+((m+1:Nat):Int)=a+m+1 by omega];exact(A _ U U (F _ U U)).symm
 have L:∀a b:Int,0<=a->a<=b->b<=n->(∀i,a<=i->i<b->i∈l)->G a=G b:=λa b a0 ab hb h=>by
  have:=D (b-a).toNat a a0 U (λi e K=>h i e U)
  rwa [show a+((b-a).toNat:Int)=b by omega]at this
 let bd:Int->Int:=λk=>if k<(AJ l n).length then AA (AJ l n) k else n
 have o:∀k:Int,0<=k->k<=(AJ l n).length->0<=bd k/\bd k<=n:=λk u E=>by
  show 0<=(if k<(AJ l n).length then AA (AJ l n) k else n)/\(if k<(AJ l n).length then AA (AJ l n) k else n)<=n;split
  next h=>have:=CL (AG u h);omega
  .omega
 have O:∀k i:Int,0<=k->k<=(AJ l n).length->(0<k->AA (AJ l n) (k-1)<i)->0<=i->i<bd k->i∈l:=λk i u E z e hi=>by
  by_cases δ:i∈l
  .exact δ
  have hin:=(o k u E).2;have Q:i∈AJ l n:=GF.2 ⟨⟨e,U⟩,δ⟩;obtain⟨j,j0,ζ,rfl⟩:=BC Q;have ε:bd k=if k<(AJ l n).length then AA (AJ l n) k else n:=rfl;by_cases Z:j<k
  .by_cases F:j=k-1
   .have:=z U;rw[F]at this;omega
   .have:=lt j (k-1) j0 U U;have:=z U;omega
  .have κ:k<(AJ l n).length:=U
   rw [ε,Ne κ]at hi;by_cases F:j=k
   .rw[F]at hi;omega
   .have:=lt k j u U ζ;omega
 have h0:G (bd 0)=G 0:=(L 0 (bd 0) U (o 0 U U).1 (o 0 U U).2 λi e K=>O 0 i U U (λh=>absurd h U) e K).symm;rw[BZ (λk=>G (bd k)) U h0]
 .show Y (G (if((AJ l n).length:Int)<(AJ l n).length then _ else n))=_;rw[QQ U]
 .intro k u E;have e1:bd k=AA (AJ l n) k:=Ne E;have hx:=CL (AG u E);have κ:=o (k+1) U U;have η:AA (AJ l n) k+1<=bd (k+1):=by
   show _<=(if k+1<(AJ l n).length then AA (AJ l n) (k+1)else n);split
   next h=>have:=lt k (k+1) u U h;omega
   .omega
  rw [e1,C k u E,L (AA (AJ l n) k+1) (bd (k+1)) U η κ.2 λi e K=>O (k+1) i U U (λ_=>by rw[show k+1-1=k by omega];omega) U K]
def DM(θ yN:Fp)(gn:Nat)(v:Int):Int:=if hasB θ v=X then AA yN (A8 θ v)else(gn:Int)+((AJ θ v).length:Int)
structure JM(I0 J θ yN:Fp)(gn:Nat):Prop where
 jt:∀v∈J,v∈θ
 AbH:yN.length=θ.length
 yr:∀k∈yN,0<=k/\k<gn
 ynd:yN.Nodup
 fit:∀v∈θ,v∉J->AA yN (A8 θ v)∉I0
 ir:∀k∈I0,0<=k/\k<gn
def F9(I0 J θ yN:Fp)(gn:Nat)(v:Int):Fp:=I0++(AJ J v).map (DM θ yN gn)
variable{v:Int}
theorem Sv{l:Fp}(e:0<=v)(h:v∈l):AJ l (v+1)=AJ l v:=by
 rw [JC l e,Aj.2 h];simp
theorem Vw{l:Fp}(e:0<=v)(h:v∉l):AJ l (v+1)=AJ l v++[v]:=by
 have:hasB l v=T:=by rw[<-H?,Aj];exact h
 rw [JC l e,this];simp
variable{w:Int}
theorem mK{l:Fp}(e:0<=v)(h:v<=w):(AJ l v).length<=(AJ l w).length:=by
 have key:∀m:Nat,(AJ l v).length<=(AJ l (v+m)).length:=by
  intro m
  induction m with
  |zero=>simp|succ m o=>
   rw [show v+((m+1:Nat):Int)=v+m+1 by omega,JC l U,aE];omega
 have:=key (w-v).toNat
 rwa [show v+((w-v).toNat:Int)=w by omega]at this
section
variable{I0 J θ yN:Fp}{gn:Nat}
variable{v:Int}
theorem Tc(h:JM I0 J θ yN gn)(hv:v∈θ):DM θ yN gn v=AA yN (A8 θ v)/\(0<=DM θ yN gn v/\DM θ yN gn v<gn):=by
 obtain ⟨a,b,_,_⟩:=Bn hv;have e:DM θ yN gn v=AA yN (A8 θ v):=v!
 rw [e];exact⟨rfl,h.yr _ (AG a (by rw[h.AbH];exact b))⟩
theorem Nd(hv:v∉θ):DM θ yN gn v=(gn:Int)+((AJ θ v).length:Int):=by
 unfold DM;rw[QQ (by rw[Aj];exact hv)]
variable{k:Int}
theorem Sn(h:JM I0 J θ yN gn)(e:k∈F9 I0 J θ yN gn v):0<=k/\k<(gn:Int)+((AJ θ v).length:Int):=by
 rcases x?.1 e with e|e
 .have:=h.ir k e;omega
 .obtain⟨w,A,rfl⟩:=y_.1 e;obtain⟨⟨w0,C⟩,_⟩:=GF.1 A;by_cases o:w∈θ
  .have:=(Tc h o).2;omega
  .rw[Nd o];have z:=Vw w0 o;have u:=mK (l:=θ) (v:=w+1) (w:=v) U U;rw[z,aE]at u;simp at u;omega
theorem vV(h:JM I0 J θ yN gn)(G:0<=v)(hv:v∉J):DM θ yN gn v∉F9 I0 J θ yN gn v:=λu=>by
 by_cases z:v∈θ
 .obtain⟨e,_,K⟩:=Tc h z;rcases x?.1 u with u|u
  .exact h.fit v z hv (e▸u)
  .obtain⟨w,E,A⟩:=y_.1 u;obtain⟨⟨w0,L⟩,_⟩:=GF.1 E;by_cases o:w∈θ
   .obtain⟨f,_,_⟩:=Tc h o;obtain⟨a,b,F,_⟩:=Bn z;obtain⟨c,d,c3,_⟩:=Bn o;rw[e,f]at A;have D:=D2 h.ynd a (by rw[h.AbH];exact b);have C:=D2 h.ynd c (by rw[h.AbH];exact d);rw[A,D]at C;rw[C,c3]at F;omega
   .rw[Nd o]at A;omega
 .have:=Sn h u;rw[Nd z]at this;omega
theorem cK(e:0<=v)(hv:v∈J):F9 I0 J θ yN gn (v+1)=F9 I0 J θ yN gn v:=by
 unfold F9;rw[Sv e hv]
theorem Ud(e:0<=v)(hv:v∉J):F9 I0 J θ yN gn (v+1)=F9 I0 J θ yN gn v++[DM θ yN gn v]:=by
 unfold F9;rw[Vw e hv,D_,ae];rfl
end
variable{N:Nat}
theorem X0{I:Fp}{p:Int}(e:0<=p):BB ((AZ N).map (hasB I)) p X=(AZ N).map (hasB (I++[p])):=by
 rw [GP _ e];refine B! λj _=>?_;by_cases h:j=p
 .rw[Ne h,h];exact(Aj.2 V).symm
 .rw[QQ h,I_,Aj,Aj];simp[h]
theorem k9{I:Fp}(h:∀k∈I,k<(N:Int)):(AZ N).map (hasB I)++[T]=(AZ (N+1)).map (hasB I):=by
 rw [SB,D_];congr 1;have:hasB I (N:Int)=T:=by
  rw [<-H?,Aj];intro e;have:=h _ e;omega
 simp [this]
variable{v:Int}
theorem MQ{J S:Fp}(u:v∉J)(o:v∈S):A8 (J++S) v=(J.length:Int)+A8 S v:=by
 obtain ⟨a,b,c,d⟩:=Bn o;obtain⟨e,f,g,h⟩:=Bn (B' J o);have z:AA (J++S) ((J.length:Int)+A8 S v)=v:=by
  rw [Gy,QQ U];have:(((J.length:Int)+A8 S v).toNat-J.length)=(A8 S v).toNat:=U
  unfold AA at c;rw[this];exact c
 by_cases A:(J.length:Int)+A8 S v<A8 (J++S) v
 .exact absurd z (h _ U A)
 by_cases C:A8 (J++S) v<(J.length:Int)
 .rw[Gy,Ne U]at g;exact absurd (g▸AG e C) u
 .rw[Gy,QQ U]at g;by_cases D:A8 (J++S) v<(J.length:Int)+A8 S v
  .have:=d (A8 (J++S) v-J.length) U U;refine absurd ?_ this;unfold AA;rw[show(A8 (J++S) v-(J.length:Int)).toNat=(A8 (J++S) v).toNat-J.length by omega];exact g
  .omega
end Go.Sf.Sc
namespace Go.Sf.Sc
open Go Go.Sf
variable{v:Int}
theorem Rt{J S:Fp}(h:v∈J):A8 (J++S) v=A8 J v:=by
 obtain ⟨a,b,c,d⟩:=Bn h;obtain⟨e,f,g,k⟩:=Bn (B_ S h);by_cases o:A8 J v<A8 (J++S) v
 .exact absurd (by rw[Gy,Ne U];exact c) (k _ a o)
 by_cases u:A8 (J++S) v<A8 J v
 .rw[Gy,Ne U]at g;exact absurd g (d _ e u)
 omega
theorem cg{l a:Fp}(u:l.length<=1000):H6 l a=Y (l.map (A8 a)):=by
 unfold H6;rw[TP (F:=A8 a) λi s e o z=>?_]
 .rfl
 .rw[AD e o,bs,Yo,bs,AV a!,bs]
variable{α:Type}
theorem YQ{l:List α}{n:Int}(e:0<=n)(o:n<=l.length):slc l 0 n=Y (l.take n.toNat):=by
 unfold slc;rw[Ne U];simp
structure IC(x:AI):Prop where
 ci:x.ci=(AZ x.ea.az.length).map (hasB x.l3.az)
 c8:x.c8=(AZ x.ea.be.length).map (hasB x.l3.be)
 nin:∀k∈x.l3.az,0<=k/\k<x.ea.az.length
 ein:∀k∈x.l3.be,0<=k/\k<x.ea.be.length
 nnd:x.l3.az.Nodup
 AaW:x.l3.be.Nodup
 t2:x.ea.az.length<=40
 x4:x.ea.be.length<=80
 mlen:x.og.length<=1000
theorem IC.nodes'{x:AI}(h:IC x):x.ci=(AZ (x.ea.az.length+([]:Fp).length)).map (hasB x.l3.az):=h.ci
theorem IC.edges'{x:AI}(h:IC x):x.c8=(AZ (x.ea.be.length+([]:Fp).length)).map (hasB x.l3.be):=h.c8
def MK(r:d3)(θ yN:Fp)(gn:Nat)(i:Int):Bw:=⟨(AA r.ca.bi.be i).em,DM θ yN gn (AA r.ca.bi.be i).fb,DM θ yN gn (AA r.ca.bi.be i).To⟩
def Bu(s:An)(r:d3)(l:Fp):Fp:=r.ec.be++Ea s r l
def CN(x:AI)(rule:Int)(s:An)(r:d3)(l:Fp)(y:bk):AI:=
 ⟨⟨x.ea.az++(AJ (At s r l) r.ca.bi.az.length).map (AA r.ca.bi.az),
  x.ea.be++(AJ (Bu s r l) r.ca.bi.be.length).map (MK r (At s r l) y.az x.ea.az.length)⟩,
 (AZ (x.ea.az.length+(AJ (At s r l) r.ca.bi.az.length).length)).map (hasB (F9 x.l3.az r.ec.az (At s r l) y.az x.ea.az.length r.ca.bi.az.length)),
 (AZ (x.ea.be.length+(AJ (Bu s r l) r.ca.bi.be.length).length)).map (hasB (F9 x.l3.be r.ec.be (Bu s r l) y.be x.ea.be.length r.ca.bi.be.length)),
 x.og++[⟨rule,⟨⟨(y.az.take r.d7.bi.az.length).map (A8 x.l3.az),(y.be.take r.d7.bi.be.length).map (A8 x.l3.be)⟩,[]⟩⟩],
 ⟨F9 x.l3.az r.ec.az (At s r l) y.az x.ea.az.length r.ca.bi.az.length,F9 x.l3.be r.ec.be (Bu s r l) y.be x.ea.be.length r.ca.bi.be.length⟩⟩
def T6(n:Nat)(J θ yN:Fp)(gn:Nat)(v:Int):Fp:=(AZ n).map λu=>if hasB J u||decide (u<v)then DM θ yN gn u else 0
theorem Vu(n:Nat)(J θ yN:Fp)(gn:Nat)(v:Int):(T6 n J θ yN gn v).length=n:=by unfold T6;rw[a6,Am]
theorem gG{n:Nat}{J θ yN:Fp}{gn:Nat}(e:0<=v):BB (T6 n J θ yN gn v) v (DM θ yN gn v)=T6 n J θ yN gn (v+1):=by
 unfold T6;rw[GP _ e];refine B! λj _=>?_;by_cases h:j=v
 .subst h;rw[Ne rfl,Ne (by rw[H!,pE];exact .inr U)]
 .rw[QQ h];have:decide (j<v)=decide (j<v+1):=by
   rw [I_,pE,pE];omega
  rw [this]
theorem vX{n:Nat}{J θ yN:Fp}{gn:Nat}(hv:v∈J):T6 n J θ yN gn (v+1)=T6 n J θ yN gn v:=by
 unfold T6;refine B! λj _=>?_;by_cases h:j=v
 .subst h;rw[Aj.2 hv];simp
 .have:decide (j<v)=decide (j<v+1):=by
   rw [I_,pE,pE];omega
  rw [this]
theorem ll{n:Nat}{J θ yN:Fp}{gn:Nat}(o:0<=v)(e:v<n):AA (T6 n J θ yN gn n) v=DM θ yN gn v:=by
 unfold T6;rw[E5 _ o e,Ne d_]
variable{σ:Type}{s0:σ}
theorem Xi{f:Int->σ->Option σ}{l:Fp}{n:Int}(G:Int->σ)(u:s0=G 0)(z:0<=n)(e:∀i,0<=i->i<n->i∈l->G (i+1)=G i)
  (o:∀k:Int,0<=k->k<(AJ l n).length->f k (G (AA (AJ l n) k))=Y (G (AA (AJ l n) k+1))):gp f 0 ((AJ l n).length:Int) s0=Y (G n):=by
 subst u;exact kX G z e o
def cw(n:Nat)(J θ yN:Fp)(gn:Nat)(i:Int):Fp:=(AZ n).map λu=>if hasB (J.take i.toNat) u=X then DM θ yN gn u else 0
theorem sR{n:Nat}{I0 J S yN:Fp}{gn:Nat}(h:JM I0 J (J++S) yN gn)(D:J.Nodup)(u:∀v∈J,0<=v){i:Int}(z:0<=i)(A:i<J.length):BB (cw n J (J++S) yN gn i) (AA J i) (AA yN i)=cw n J (J++S) yN gn (i+1):=by
 have C:=AG z A;have e:AA yN i=DM (J++S) yN gn (AA J i):=by
  rw [(Tc h (h.jt _ C)).1,Rt C,D2 D z A]
 unfold cw;rw[GP _ (u _ C),CP z A];refine B! λj _=>?_;by_cases o:j=AA J i
 .rw[Ne o,Ne (by rw[o,Aj];simp),e,o]
 .rw[QQ o];have:hasB (J.take i.toNat++[AA J i]) j=hasB (J.take i.toNat) j:=by
   rw [I_,Aj,Aj];simp[o]
  rw [this]
theorem oN{t:AC}{s:An}{r:d3}{l:Fp}{x:AI}{rule:Int}{y:bk}(ht:B8 t s r=0)(hi:IC x)
  (O:JM x.l3.az r.ec.az (At s r l) y.az x.ea.az.length)(he:JM x.l3.be r.ec.be (Bu s r l) y.be x.ea.be.length):
  EE x rule r ⟨Ba s r l,Di s r l,Ea s r l⟩ y=Y (CN x rule s r l y):=by
 obtain ⟨hs,ho,l1,l2⟩:=C4 ht;have hL:=ho.left;have hR:=R9 hs ho.right ho.Aal;have n1:=hL.ci;have n2:=hL.c8;have n3:=ho.right.ci;have n4:=ho.right.c8;have D:=ho.mor;have g1:=hi.t2;have g2:=hi.x4;have g3:=hi.mlen;have κ:∀i:Int,0<=i->i<r.ec.az.length->0<=AA r.ec.az i/\AA r.ec.az i<r.ca.bi.az.length:=λi E i1=>(D.node i E i1).1;have y1:=O.AbH;have y2:=he.AbH;have T1:(At s r l).length=r.ec.az.length+(Di s r l).length:=aE ..;have T2:(Bu s r l).length=r.ec.be.length+(Ea s r l).length:=aE ..;have k1:=Ng (PI s r l) r.ca.bi.az.length;have k2:=Ng (PH s r l) r.ca.bi.be.length;have k3:(Di s r l).length<=40:=by unfold Di;omega
 have k4:(Ea s r l).length<=80:=by unfold Ea;omega
 have i1:x.l3.az.length<=1000:=by
  have:=Li hi.nnd hi.nin;omega
 have i2:x.l3.be.length<=1000:=by
  have:=Li hi.AaW hi.ein;omega
 have sN:slc y.az 0 (r.d7.bi.az.length:Int)=Y (y.az.take r.d7.bi.az.length):=by
  rw [YQ U U,J_]
 have sE:slc y.be 0 (r.d7.bi.be.length:Int)=Y (y.be.take r.d7.bi.be.length):=by
  rw [YQ U U,J_]
 unfold EE slices_Clone_int Ca Hb Jm;rw[sN,bs,cg i_,bs,sE,bs,cg i_,bs,
  BM a?,bs,BM a?,bs,BM (by rw[hi.ci,a6,Am];unfold AX;omega),bs,BM (by rw[hi.c8,a6,Am];unfold AX;omega),bs,
  BM a?,bs,AV f?,bs,BM a?,bs,BM a?,bs,gH U,bs,
  BZ (λi=>cw r.ca.bi.az.length r.ec.az (At s r l) y.az x.ea.az.length i) U (by simp[cw,Rz,hasB]),bs,Ta U U,bs,Ta U U]
 .have δ:∀l:Fp,AJ l 0=[]:=λl=>by simp[AJ]
  have Q:∃Q,Q=(C8.mk rule (AT.mk (bk.mk ((y.az.take r.d7.bi.az.length).map (A8 x.l3.az)) ((y.be.take r.d7.bi.be.length).map (A8 x.l3.be))) [])):=⟨_,rfl⟩;obtain⟨Q,η⟩:=Q;rw[<-η,Xi (λv=>(AI.mk ⟨x.ea.az++(AJ (At s r l) v).map (AA r.ca.bi.az),x.ea.be⟩ ((AZ (x.ea.az.length+(AJ (At s r l) v).length)).map (hasB (F9 x.l3.az r.ec.az (At s r l) y.az x.ea.az.length v))) x.c8 (x.og++[Q]) ⟨F9 x.l3.az r.ec.az (At s r l) y.az x.ea.az.length v,x.l3.be⟩,
    T6 r.ca.bi.az.length r.ec.az (At s r l) y.az x.ea.az.length v)) ?_ U ?_ ?_,bs,bs,
   Xi (λv=>AI.mk ⟨x.ea.az++(AJ (At s r l) r.ca.bi.az.length).map (AA r.ca.bi.az),x.ea.be++(AJ (Bu s r l) v).map (MK r (At s r l) y.az x.ea.az.length)⟩ ((AZ (x.ea.az.length+(AJ (At s r l) r.ca.bi.az.length).length)).map (hasB (F9 x.l3.az r.ec.az (At s r l) y.az x.ea.az.length r.ca.bi.az.length)))
    ((AZ (x.ea.be.length+(AJ (Bu s r l) v).length)).map (hasB (F9 x.l3.be r.ec.be (Bu s r l) y.be x.ea.be.length v))) (x.og++[Q]) ⟨F9 x.l3.az r.ec.az (At s r l) y.az x.ea.az.length r.ca.bi.az.length,F9 x.l3.be r.ec.be (Bu s r l) y.be x.ea.be.length v⟩) ?_ U ?_ ?_,bs]
  .rw[η];rfl
  .have e0:F9 x.l3.be r.ec.be (Bu s r l) y.be x.ea.be.length 0=x.l3.be:=by
    unfold F9;rw[δ];simp
   (try dsimp only)
   rw [δ,e0,<-hi.edges'];simp
  .intro i E F z
   (try dsimp only)
   rw [Sv E (he.jt _ z),cK E z]
  .intro k ε G;have K:=AG ε G;obtain⟨⟨C,R⟩,A⟩:=GF.1 K;generalize hv:AA (AJ r.ec.be r.ca.bi.be.length) k=v at *;have lo:=λk L=>(Sn he (v:=v) (k:=k) L).2;have q1:=Hy (Bu s r l) v;have q2:=Hy r.ec.be v;have q3:(F9 x.l3.be r.ec.be (Bu s r l) y.be x.ea.be.length v).length<=2000:=by
    unfold F9;rw[aE,a6];omega
   have fit:=ho.right.fit _ (AG C R)
   (try dsimp only)
   rw [AD ε G,bs,hv,Yo,bs];by_cases o:v∈Ea s r l
   .have u:v∈Bu s r l:=B' _ o;obtain⟨e,ζ,f1⟩:=Tc he u;have Z:A8 (Bu s r l) v=(r.ec.be.length:Int)+A8 (Ea s r l) v:=MQ A o;obtain⟨a,b,_,_⟩:=Bn o;have e2:AA y.be ((r.d7.bi.be.length:Int)+A8 (Ea s r l) v)=DM (Bu s r l) y.be x.ea.be.length v:=by
     rw [e,Z,l2]
    rw [Ne (by simpa using a),Ao U U,AD U U,bs,e2,AD ζ (by rw[a6,Am];omega),bs,AV f?,bs,X0 ζ,Sv C u,Ud C A]
   .have u:v∉Bu s r l:=λD=>by
     rcases x?.1 D with D|D
     .exact A D
     .exact o D
    have e:=Nd (yN:=y.be) (gn:=x.ea.be.length) u;have e3:((x.ea.be++(AJ (Bu s r l) v).map (MK r (At s r l) y.az x.ea.az.length)).length:Int)=DM (Bu s r l) y.be x.ea.be.length v:=by
     rw [aE,a6,e,J']
    rw [QQ (by rw[Qw o];decide),AD C R,bs,AD fit.2.1.1 (by rw[Vu];exact fit.2.1.2),bs,AD fit.2.2.1 (by rw[Vu];exact fit.2.2.2),bs,ll fit.2.1.1 fit.2.1.2,ll fit.2.2.1 fit.2.2.2,AV f?,bs,AV f?,bs,k9 (by
      intro k L;have:=lo k L;rw[J'];exact this),e3,AD (by rw[e];omega) (by rw[a6,Am,e];omega),bs,AV f?,bs,X0 (by rw[e];omega),Vw C u,Ud C A,D_,ae,aE]
    rfl
  ·(try dsimp only)
   refine Prod.ext ?_ ?_
   ·(try dsimp only)
    have e0:F9 x.l3.az r.ec.az (At s r l) y.az x.ea.az.length 0=x.l3.az:=by
     unfold F9;rw[δ];simp
    rw [δ,e0,<-hi.nodes'];simp
   ·(try dsimp only)
    unfold cw T6;refine B! λj hj=>?_;have:=(By.1 hj).1;rw[J_,C_,decide_eq_false (by omega:¬j<0),Bool.or_false]
  .intro i E F z
   (try dsimp only)
   rw [Sv E (O.jt _ z),cK E z,vX z]
  .intro k ε G;have K:=AG ε G;obtain⟨⟨C,R⟩,A⟩:=GF.1 K;generalize hv:AA (AJ r.ec.az r.ca.bi.az.length) k=v at *;have lo:=λk L=>(Sn O (v:=v) (k:=k) L).2;have q1:=Hy (At s r l) v;have q2:=Hy r.ec.az v;have q3:(F9 x.l3.az r.ec.az (At s r l) y.az x.ea.az.length v).length<=2000:=by
    unfold F9;rw[aE,a6];omega
   (try dsimp only)
   rw [AD ε G,bs,hv,Yo,bs];by_cases o:v∈Di s r l
   .have u:v∈At s r l:=B' _ o;obtain⟨e,ζ,f1⟩:=Tc O u;have Z:A8 (At s r l) v=(r.ec.az.length:Int)+A8 (Di s r l) v:=MQ A o;obtain⟨a,b,_,_⟩:=Bn o;have e2:AA y.az ((r.d7.bi.az.length:Int)+A8 (Di s r l) v)=DM (At s r l) y.az x.ea.az.length v:=by
     rw [e,Z,l1]
    rw [Ne (by simpa using a),Ao U U,AD U U,bs,e2,AD C (by rw[Vu];exact R),bs,AD ζ (by rw[a6,Am];omega),bs,AV f?,bs,X0 ζ,gG C,Sv C u,Ud C A]
   .have u:v∉At s r l:=λD=>by
     rcases x?.1 D with D|D
     .exact A D
     .exact o D
    have e:=Nd (yN:=y.az) (gn:=x.ea.az.length) u;have e3:((x.ea.az++(AJ (At s r l) v).map (AA r.ca.bi.az)).length:Int)=DM (At s r l) y.az x.ea.az.length v:=by
     rw [aE,a6,e,J']
    rw [QQ (by rw[Qw o];decide),AD C R,bs,AV f?,bs,AV f?,bs,AD C (by rw[Vu];exact R),bs,k9 (by
      intro k L;have:=lo k L;rw[J'];exact this),e3,AD (by rw[e];omega) (by rw[a6,Am,e];omega),bs,AV f?,bs,X0 (by rw[e];omega),gG C,Vw C u,Ud C A,D_,ae,aE]
    rfl
 .intro i E F;have hx:=κ i E F;rw[AD E F,bs,AD E U,bs,AD hx.1 (by unfold cw;rw[a6,Am];exact hx.2),bs];rw[show At s r l=r.ec.az++Di s r l from rfl]at O|-;rw[sR O ho.inj.1 (λv hv=>by
   obtain ⟨j,j0,j1,rfl⟩:=BC hv;exact(κ j j0 j1).1) E F]
end Go.Sf.Sc
namespace Go.Sf.Sc
open Go Go.Sf
end Go.Sf.Sc
namespace Go.Sf
open Sc
variable{a:Int}
theorem mz{n:Nat}(a0:0<=a)(h:a<n):(AZ n).drop a.toNat=a::(AZ n).drop (a+1).toNat:=by
 rw [A! (by rw[Am];omega),show(a+1).toNat=a.toNat+1 by omega];congr 1;simp[AZ];omega
variable{N:Nat}
theorem fX{σ e ρ u:Type}{f:Int->σ->Option (B2 σ ρ)}(enc:e->σ)(o:u->ρ)(g:Int->e->e ⊕ u){s:e}{s0:σ}(z:s0=enc s)(h:∀(i:Int)s,0<=i->i<N->f i (enc s)=Y (nV (Sum.map enc o (g i s)))):
  eE f 0 N s0=Y (Sum.map enc o (Cw g (AZ N) s)):=by
 subst z;have key:∀(n:Nat)(a:Int)(s:e),0<=a->a+n=N->tc f n a (enc s)=Y (Sum.map enc o (Cw g ((AZ N).drop a.toNat) s)):=by
  intro n
  induction n with
  |zero=>
   intro a s a0 A;rw[A' (by rw[Am];omega)];rfl
  |succ n C=>
   intro a s a0 A;rw[FH,h a s a0 U,mz a0 U,Cw];cases D:g a s with
   |inr r=>rfl|inl v=>exact C (a+1) v U U
 have:=key N 0 s U U;unfold eE;simpa using this
end Go.Sf
namespace Go.Sf.Sc
open Go Go.Sf
theorem cL{I0 J θ yN:Fp}{gn:Nat}(h:JM I0 J θ yN gn)(u:I0.Nodup):∀n:Nat,(F9 I0 J θ yN gn (n:Int)).Nodup
 |0=>by
  have:F9 I0 J θ yN gn ((0:Nat):Int)=I0:=by unfold F9;simp[AJ]
  rw [this];exact u
 |n+1=>by
  have A:=cL h u n;rw[show(((n+1:Nat):Int))=(n:Int)+1 by omega];by_cases o:(n:Int)∈J
  .rw[cK U o];exact A
  .rw[Ud U o];rw[D!];refine⟨A,V,λa C b z e=>?_⟩;rw[D?]at z;exact vV h U o (z▸e▸C)
theorem XX{s:An}{r:d3}{l:Fp}{x:AI}{rule:Int}{y:bk}(hi:IC x)(D:x.og.length<=999)
  (o:JM x.l3.az r.ec.az (At s r l) y.az x.ea.az.length)(he:JM x.l3.be r.ec.be (Bu s r l) y.be x.ea.be.length)
  (u:(CN x rule s r l y).ea.az.length<=40)(z:(CN x rule s r l y).ea.be.length<=80):IC (CN x rule s r l y):=by
 have A:(CN x rule s r l y).ea.az.length=x.ea.az.length+(AJ (At s r l) r.ca.bi.az.length).length:=by simp[CN]
 have C:(CN x rule s r l y).ea.be.length=x.ea.be.length+(AJ (Bu s r l) r.ca.bi.be.length).length:=by simp[CN]
 refine ⟨o!,by rw[C];rfl,λk e=>?_,λk e=>?_,cL o hi.nnd _,cL he hi.AaW _,u,z,n?⟩
 .have:=Sn o e;omega
 .have:=Sn he e;omega
def HM(I im:Fp)(n:Int):Bool:=!fu (λi=>hasB I (AA im i)==decide (n<=i)) 0 im.length
variable{N:Nat}
theorem lW{I im:Fp}{n:Int}(h:∀k∈im,0<=k/\k<N):H7 ((AZ N).map (hasB I)) im n=Y (HM I im n):=by
 unfold H7 HM;rw[BN (λi=>hasB I (AA im i)==decide (n<=i)) T]
 .cases fu (λi=>hasB I (AA im i)==decide (n<=i)) 0 (im.length:Int)<;>rfl
 intro i o u _;have e:=h _ (AG o u);rw[AD o u,bs,AD e.1 (by rw[a6,Am];exact e.2),bs,E5 _ e.1 e.2];cases(hasB I (AA im i)==decide (n<=i))<;>rfl
def S5(N:Nat)(I:Fp):Bool:=(AZ N).all (hasB I)
theorem fL(N:Nat)(I:Fp):DE ((AZ N).map (hasB I)) T=Y (!S5 N I):=by
 rw [fM];congr 1;unfold S5;rw[List.any_map,I_,G?,List.all_eq_false,x_];simp
def O9(x:AI):Bool:=S5 x.ea.az.length x.l3.az&&S5 x.ea.be.length x.l3.be
theorem yt{x:AI}(h:IC x):Dq x=Y (O9 x):=by
 unfold Dq O9;rw[h.ci,h.c8,fL,bs,fL];cases S5 x.ea.az.length x.l3.az<;>simp
theorem Td{t:AC}{s:An}{r:d3}{l:Fp}{x:AI}{y:bk}(K:B8 t s r=0)(hi:IC x)(o:y∈(D0 t (Ba s r l) x.ea X).1):
  (∀k∈y.az,0<=k/\k<x.ea.az.length)/\(∀k∈y.be,0<=k/\k<x.ea.be.length)/\
  (HM x.l3.az y.az r.d7.bi.az.length=X->JM x.l3.az r.ec.az (At s r l) y.az x.ea.az.length)/\
  (HM x.l3.be y.be r.d7.bi.be.length=X->JM x.l3.be r.ec.be (Bu s r l) y.be x.ea.be.length):=by
 obtain ⟨_,_,l1,l2⟩:=C4 K;have o:y∈GW t (Ba s r l) x.ea (I8 (Ba s r l)) X:=by
  unfold D0 at o;split at o
  .cases o
  split at o
  .cases o
  exact o
 have u:=Qi o;have O:y.az.length=(Ba s r l).az.length:=u.nl;have Q:y.be.length=(Ba s r l).be.length:=u.el;have m1:(Ba s r l).az.length=(At s r l).length:=by simp[Ba,At,l1]
 have R:(Ba s r l).be.length=(Bu s r l).length:=by simp[Ba,Bu,l2]
 have E:∀k∈y.az,0<=k/\k<x.ea.az.length:=λk z=>by
  obtain ⟨i,A,C,rfl⟩:=BC z;exact(u.node i A C).1
 have F:∀k∈y.be,0<=k/\k<x.ea.be.length:=λk z=>by
  obtain ⟨i,A,C,rfl⟩:=BC z;exact(u.edge i A C).1
 have nd:=u.inj rfl;have key:∀{I0 J S yN:Fp}{n:Int},n=J.length->yN.length=(J++S).length->HM I0 yN n=X->∀v∈J++S,v∉J->AA yN (A8 (J++S) v)∉I0:=by
  intro I0 J S yN n ε κ hf v hv D L;have G:v∈S:=(x?.1 hv).resolve_left D;obtain⟨a,b,_,_⟩:=Bn G;obtain⟨c,d,_,_⟩:=Bn hv;have e:=MQ D G;unfold HM at hf;rw[G?,Bg]at hf;have:=hf (A8 (J++S) v) c U;rw[Aj.2 L,decide_eq_true U]at this;cases this
 exact ⟨E,F,λhf=>⟨λv hv=>B_ _ hv,U,E,nd.1,key (by rw[l1]) (by rw[O,m1];rfl) hf,hi.nin⟩,
  λhf=>⟨λv hv=>B_ _ hv,U,F,nd.2,key (by rw[l2]) (by rw[Q,R];rfl) hf,hi.ein⟩⟩
end Go.Sf.Sc
namespace Go.Sf.Sc
open Go Go.Sf
def rF:AI:=⟨⟨[],[]⟩,[],[],[],⟨[],[]⟩⟩
noncomputable def Tt(s:An)(l:Fp)(x:AI)(rec:AI->Int->Int ⊕ (AI×Int×Int))(i:Int)(r:d3)(y:bk)(v:Int):Int ⊕ (AI×Int×Int):=
 if (HM x.l3.az y.az r.d7.bi.az.length&&HM x.l3.be y.be r.d7.bi.be.length)=T then .inl v else
 if 40<((CN x i s r l y).ea.az.length:Int)\/80<((CN x i s r l y).ea.be.length:Int)then .inr (rF,3,v)else rec (CN x i s r l y) v
noncomputable def RS(t:AC)(s:An)(l:Fp)(x:AI)(rec:AI->Int->Int ⊕ (AI×Int×Int))(i:Int)(r:d3)(v:Int):Int ⊕ (AI×Int×Int):=
 if ((Di s r l).length:Int)+((Ea s r l).length:Int)=0 then .inl v else
 if (D0 t (Ba s r l) x.ea X).2≠0 then .inr (rF,(D0 t (Ba s r l) x.ea X).2,v)else
 Cw (λj=>Tt s l x rec i r (AA (D0 t (Ba s r l) x.ea X).1 j)) (AZ (D0 t (Ba s r l) x.ea X).1.length) v
noncomputable def Hq(t:AC)(s:An)(c7:List d3)(l:Fp):Nat->AI->Int->Int ⊕ (AI×Int×Int)
 |0,_,v=>.inl v|n+1,x,v=>if 200<AW (v+1)then .inr (rF,3,AW (v+1))else if O9 x=X then .inr (x,0,AW (v+1))else if(x.og.length:Int)=30 then .inr (rF,3,AW (v+1))else
  Cw (λi=>RS t s l x (Hq t s c7 l n) i (AA c7 i)) (AZ c7.length) (AW (v+1))
section
variable{t:AC}{s:An}{c7:List d3}{l:Fp}{d:Bv}{e0:Int}
def Hm(t:AC)(s:An)(c7:List d3)(l:Fp)(d:Bv)(e0:Int)(v:Int):Ah:=⟨⟨t,s,c7⟩,l,v,d,e0⟩
def Jh(y:AI):Bv:=⟨⟨y.ea,E_ y.ea.az.length []⟩,y.og,y.l3⟩
def Yx(t:AC)(s:An)(c7:List d3)(l:Fp)(d:Bv)(e0:Int)(r:AI×Int×Int):Bool×Ah:=
 (X,if r.2.1=0 then Hm t s c7 l (Jh r.1) e0 r.2.2 else Hm t s c7 l d r.2.1 r.2.2)
def SM(t:AC)(s:An)(c7:List d3)(l:Fp)(d:Bv)(e0:Int):Int ⊕ (AI×Int×Int)->Bool×Ah
 |.inl v=>(T,Hm t s c7 l d e0 v)|.inr r=>Yx t s c7 l d e0 r
theorem yy{x:AI}{i:Int}{r:d3}{m:Nat}{rec:AI->Int->Int ⊕ (AI×Int×Int)}(hf:Ap t)(C:B8 t s r=0)(he:MD s r l)(hi:IC x)(R:x.og.length<=999)
  (e:∀z v,IC z->z.og.length=x.og.length+1->A5 m (Hm t s c7 l d e0 v) z=Y (SM t s c7 l d e0 (rec z v)))(v:Int):
  BS (m+1) (Hm t s c7 l d e0 v) x i r=Y (SM t s c7 l d e0 (RS t s l x rec i r v)):=by
 obtain ⟨_,ho,_,_⟩:=C4 C;have ζ:=ho.right.ci;have δ:=ho.right.c8;have Z:=Ng (PI s r l) r.ca.bi.az.length;have k2:=Ng (PH s r l) r.ca.bi.be.length;have k3:(Di s r l).length<=40:=by unfold Di;omega
 have k4:(Ea s r l).length<=80:=by unfold Ea;omega
 rw [BS.eq_2,vI (p:=Hm t s c7 l d e0 v) C he,bs,show(Hm t s c7 l d e0 v).jj.t=t from rfl,show(Hm t s c7 l d e0 v).Aan=l from rfl,show(Hm t s c7 l d e0 v).jj.s=s from rfl];dsimp only;rw[Ao U U];unfold RS;by_cases D:((Di s r l).length:Int)+((Ea s r l).length:Int)=0
 .rw[Ne (by simpa using D),Ne D];rfl
 rw [QQ (by simpa using D),QQ D,u0 hf,bs];by_cases o:(D0 t (Ba s r l) x.ea X).2=0
 .rw[QQ l',QQ l'];have u:=λy ε=>Td (l:=l) (y:=y) C hi ε;generalize D0 t (Ba s r l) x.ea X=A at *;rw[fX (Hm t s c7 l d e0) (Yx t s c7 l d e0) (λj=>Tt s l x rec i r (AA A.1 j)) rfl λj v F G=>?_]
  .cases Cw (λj=>Tt s l x rec i r (AA A.1 j)) (AZ A.1.length) v<;>rfl
  obtain ⟨κ,η,O,Q⟩:=u _ (AG F G);rw[AD F G,bs,hi.ci,lW κ,bs,hi.c8,lW η];unfold Tt;cases K:HM x.l3.az (AA A.1 j).az r.d7.bi.az.length with
  |false=>rfl|true=>
   cases L:HM x.l3.be (AA A.1 j).be r.d7.bi.be.length with
   |false=>rfl|true=>
    rw [QQ a_,bs,bs,QQ a_,oN C hi (O K) (Q L),bs];by_cases E:40<((CN x i s r l (AA A.1 j)).ea.az.length:Int)\/80<((CN x i s r l (AA A.1 j)).ea.be.length:Int)
    .rw[Ne (by simpa using E),Ne E];rfl
    rw [QQ (by simpa using E),QQ E,e _ v (XX hi R (O K) (Q L) U U) (by simp[CN]),bs];cases rec (CN x i s r l (AA A.1 j)) v<;>rfl
 .rw[Ne l',Ne o];unfold Cy SM Yx;dsimp only;rw[QQ o];rfl
theorem qh(hf:Ap t)(C:∀r∈c7,B8 t s r=0)(he:∀r∈c7,MD s r l):∀(n:Nat)(x:AI)(v:Int),IC x->x.og.length<=30->x.og.length+n=31->∀m,2*n<=m->A5 m (Hm t s c7 l d e0 v) x=Y (SM t s c7 l d e0 (Hq t s c7 l n x v))
 |0,x,v,hi,K,L,m,_=>by omega|n+1,x,v,hi,K,L,m,O=>by
  obtain ⟨m,rfl⟩:∃k,m=k+2:=⟨m-2,U⟩;rw[A5.eq_2,Hq,show(Hm t s c7 l d e0 v).Aao=v from rfl];by_cases o:200<AW (v+1)
  .rw[Ne d!,Ne o];rfl
  rw [QQ d!,QQ o,yt hi,bs];by_cases u:O9 x=X
  .rw[Ne u,Ne u];unfold Eu;have:=hi.t2;rw[Ne U];rfl
  rw [QQ u,QQ u];by_cases A:(x.og.length:Int)=30
  .rw[Ne so,Ne A];rfl
  rw [QQ so,QQ A,show(Hm t s c7 l d e0 v).jj.c7=c7 from rfl,
   show Ah.mk (Hm t s c7 l d e0 v).jj (Hm t s c7 l d e0 v).Aan (AW (v+1)) (Hm t s c7 l d e0 v).Aac (Hm t s c7 l d e0 v).e=Hm t s c7 l d e0 (AW (v+1))from rfl,fX (Hm t s c7 l d e0) (Yx t s c7 l d e0) (λi=>RS t s l x (Hq t s c7 l n) i (AA c7 i)) rfl λi v D E=>?_]
  .cases Cw (λi=>RS t s l x (Hq t s c7 l n) i (AA c7 i)) (AZ c7.length) (AW (v+1))<;>rfl
  have F:=AG D E;rw[AD D E,bs,yy (rec:=Hq t s c7 l n) hf (C _ F) (he _ F) hi U λz v G Q=>qh hf C he n z v G U U m U,bs];cases RS t s l x (Hq t s c7 l n) i (AA c7 i) v<;>rfl
end
end Go.Sf.Sc
namespace Go.Sf.Sc
open Go Go.Sf
variable{α β:Type}
theorem DU[Inhabited α][Inhabited β]{l:List α}{g:α->β}{i:Int}(e:0<=i)(o:i<l.length):AA (l.map g) i=g (AA l i):=by
 unfold AA;rw[z!,z!,List.getElem?_map,y? U];rfl
section
variable{t:AC}{s:An}{c7:List d3}{l:Fp}
end
end Go.Sf.Sc
namespace Go.Sf.Sc
open Go Go.Sf
section
variable{t:AC}{s:An}{c7:List d3}{l:Fp}
theorem hU(D:∀r∈c7,B8 t s r=0)(P:AI->Prop)(o:∀(x:AI)(i:Int)(y:bk),IC x->P x->x.og.length<30->0<=i->i<c7.length->((Di s (AA c7 i) l).length:Int)+((Ea s (AA c7 i) l).length:Int)≠0->(D0 t (Ba s (AA c7 i) l) x.ea X).2=0->y∈(D0 t (Ba s (AA c7 i) l) x.ea X).1 ->
   JM x.l3.az (AA c7 i).ec.az (At s (AA c7 i) l) y.az x.ea.az.length->JM x.l3.be (AA c7 i).ec.be (Bu s (AA c7 i) l) y.be x.ea.be.length ->
   HM x.l3.az y.az (AA c7 i).d7.bi.az.length=X->HM x.l3.be y.be (AA c7 i).d7.bi.be.length=X->IC (CN x i s (AA c7 i) l y)->P (CN x i s (AA c7 i) l y)):
  ∀(n:Nat)(x:AI)(v:Int)(r:AI×Int×Int),Hq t s c7 l n x v=.inr r->r.2.1=0->IC x->P x->x.og.length<=30->x.og.length+n=31->IC r.1/\P r.1/\O9 r.1=X
 |0,x,v,r,e,e0,hi,C,_,_=>m?
 |n+1,x,v,r,e,e0,hi,C,hm,hn=>by
  rw [Hq]at e;split at e
  .cases e;cases e0
  split at e
  next κ=>cases e;exact⟨hi,C,κ⟩
  split at e
  .cases e;cases e0
  rename_i Z;refine(Np (g:=λi=>RS t s l x (Hq t s c7 l n) i (AA c7 i)) (I:=λ_=>True) (R:=λr=>r.2.1=0->IC r.1/\P r.1/\O9 r.1=X) (λi Q v _=>⟨λ_ _=>trivial,λr e e0=>?_⟩) trivial).2 r e e0;obtain⟨G,K⟩:=By.1 Q;have A:=D _ (AG G K);unfold RS at e;split at e
  .cases e
  rename_i η;split at e
  next z=>cases e;exact absurd e0 z
  rename_i z;have z:(D0 t (Ba s (AA c7 i) l) x.ea X).2=0:=n_
  refine (Np (g:=λj=>Tt s l x (Hq t s c7 l n) i (AA c7 i) (AA (D0 t (Ba s (AA c7 i) l) x.ea X).1 j)) (I:=λ_=>True) (R:=λr=>r.2.1=0->IC r.1/\P r.1/\O9 r.1=X) (λj ε v _=>⟨λ_ _=>trivial,λr e e0=>?_⟩) trivial).2 r e e0;obtain⟨ζ,δ⟩:=By.1 ε;have E:=AG ζ δ;obtain⟨_,_,L,O⟩:=Td (l:=l) A hi E;unfold Tt at e;split at e
  .cases e
  rename_i u;rw[I',gN]at u;split at e
  .cases e;cases e0
  rename_i h7;have F:=XX (rule:=i) hi U (L u.1) (O u.2) U U;exact hU D P o n _ _ r e e0 F (o x i _ hi C U G K η z E (L u.1) (O u.2) u.1 u.2 F) n? n?
def GT(h:AH):AI:=⟨h.bi,E_ h.bi.az.length T,E_ h.bi.be.length T,[],⟨[],[]⟩⟩
theorem gU(n:Nat):E_ n T=(AZ n).map (hasB []):=by
 refine B? (by simp[Am]) λi e o=>?_;simp[hasB]
theorem UN{h:AH}(o:BV h.bi):IC (GT h):=
 ⟨gU _,gU _,λk e=>m?,λk e=>m?,E',E',o.ci,o.c8,n!⟩
def S2:Bv:=⟨⟨⟨[],[]⟩,[]⟩,[],⟨[],[]⟩⟩
noncomputable def Ob(t:AC)(s:An)(c7:List d3)(h:AH)(l:Fp):Bv×Int:=
 match Hq t s c7 l 31 (GT h) 0 with
 |.inl _=>(S2,10)|.inr r=>if r.2.1=0 then(Jh r.1,0)else(S2,r.2.1)
theorem yx(hf:Ap t)(A:∀r∈c7,B8 t s r=0)(he:∀r∈c7,MD s r l){h:AH}(u:BV h.bi):CD ⟨t,s,c7⟩ h l=Y (Ob t s c7 h l):=by
 have D:=u.ci;have E:=u.c8;unfold CD slices_Clone_int Ca Eu Ob;have hv:Fd (Hm t s c7 l S2 0 0) (GT h)=Y (SM t s c7 l S2 0 (Hq t s c7 l 31 (GT h) 0)):=GZ 62 λn C=>qh hf A he 31 _ 0 (UN u) n! n! n C;rw[BM a?,bs,BM a?,bs,Ne U,bs,Ne U,bs,
  show Ah.mk ⟨t,s,c7⟩ l 0 (Bv.mk (AH.mk (bi.mk [] []) []) [] (bk.mk [] [])) 0=Hm t s c7 l S2 0 0 from rfl,J_,J_,show AI.mk ⟨h.bi.az,h.bi.be⟩ (E_ h.bi.az.length T) (E_ h.bi.be.length T) [] (bk.mk [] [])=GT h from rfl,hv,bs]
 cases Hq t s c7 l 31 (GT h) 0 with
 |inl v=>rfl|inr r=>
  obtain ⟨y,e,v⟩:=r;show(if(!decide ((SM t s c7 l S2 0 (.inr (y,e,v))).2.e=0))=X then _ else _)=_;dsimp only;by_cases o:e=0
  .have z:SM t s c7 l S2 0 (.inr (y,e,v))=(X,Hm t s c7 l (Jh y) 0 v):=by unfold SM Yx;dsimp only;rw[Ne o]
   rw [Ne o,z];rfl
  .have z:SM t s c7 l S2 0 (.inr (y,e,v))=(X,Hm t s c7 l S2 e v):=by unfold SM Yx;dsimp only;rw[QQ o]
   rw [QQ o,z,Ne (by simp[Hm,o])];rfl
end
end Go.Sf.Sc
namespace Go.Sf
end Go.Sf
namespace Go.Sf.Sc
open Go Go.Sf
section
variable{t:AC}{s:An}{c7:List d3}{l:Fp}
def JQ(s:An)(g:bi)(l:Fp):Bool:=(g.az.any λn=>!hasB l (AA s.az n))||(g.be.any λe=>!hasB l (AA s.be e.em))
noncomputable def Ms(t:AC)(s:An)(c7:List d3)(h:AH)(l:Fp):Bv×Int:=
 if DP t s c7≠0 then(S2,DP t s c7)else if(Br t h).2≠0 then(S2,(Br t h).2)else if JQ s h.bi l=X then(S2,1)else Ob t s c7 h l
theorem OM(h:DP t s c7=0):c7.length<=6/\Ga t s=0:=by
 unfold DP at h;split at h
 .cases h
 split at h
 .omega
 rename_i o e;exact⟨U,i?⟩
end
end Go.Sf.Sc
namespace Go.Sf
end Go.Sf
namespace Go.Sf.Sc
open Go Go.Sf
section
variable{t:AC}{s:An}{c7:List d3}{l:Fp}
theorem fZ(a x:Int):(!hasB [a] x)=!decide (x=a):=by
 unfold hasB;by_cases h:x=a<;>simp[h]
theorem WC(hf:Ap t){h:AH}(e:DP t s c7=0)(hh:(Br t h).2=0):Sorted s h.bi:=by
 obtain ⟨_,ho⟩:=FU hf hh;exact R9 (PW (OM e).2).2 ho.g ho.ty
theorem lZ(hf:Ap t)(A:∀r∈c7,Df r)(h:AH)(o:Int):CC ⟨t,s,c7⟩ h o=Y (if DP t s c7≠0 then DP t s c7 else if(Br t h).2≠0 then(Br t h).2 else if o≠0/\JQ s h.bi [o]=X then 1 else 0):=by
 unfold CC;rw[lb hf s A,bs];refine DV λC=>?_;rw[Uq hf,bs];refine DV λhh=>?_;have z:=WC hf C hh;by_cases u:o=0
 .rw[Ne e_,QQ g!]
 rw [QQ e_,SY (p:=λn=>!hasB [o] (AA s.az n)) λn D=>?_,bs,Yc (p:=λe=>!hasB [o] (AA s.be e.em)) λe he=>?_]
 .unfold JQ;cases(h.bi.az.any λn=>!hasB [o] (AA s.az n))with
  |true=>simp[u]|false=>
   cases (h.bi.be.any λe=>!hasB [o] (AA s.be e.em))<;>simp[u]
 .have:=z.edge e he;unfold Eo;dsimp only;rw[AD this.1 this.2,bs,fZ]
 .have:=z.node n D;unfold Em;dsimp only;rw[AD this.1 this.2,bs,fZ]
theorem vM(hf:Ap t)(G:∀r∈c7,Df r)(o:Int)(R:hasB l 2=X->hasB l 1=X/\hasB l 3=X)(h:AH)(ε:(o≠0/\l=[o])\/(o=0/\l=[1,2,3])):
  ((CC ⟨t,s,c7⟩ h o).bind λC=>if(!decide (C=0))=X then Y (S2,C)else(CD ⟨t,s,c7⟩ h l).bind λD=>Y (D.1,D.2))=Y (Ms t s c7 h l):=by
 rw [lZ hf G,bs];unfold Ms;generalize A:(if DP t s c7≠0 then DP t s c7 else if(Br t h).2≠0 then(Br t h).2 else if o≠0/\JQ s h.bi [o]=X then 1 else 0)=E;by_cases u:DP t s c7=0
 .by_cases hh:(Br t h).2=0
  .have O:=MO u;obtain⟨_,ho⟩:=FU hf hh;have δ:=WC hf u hh;have e:(o≠0/\JQ s h.bi [o]=X)↔JQ s h.bi l=X:=by
    rcases ε with⟨L,rfl⟩|⟨L,rfl⟩
    .simp[L]
    .constructor
     .rintro⟨z,_⟩;exact absurd L z
     .intro z;exfalso;have K:=Oq (OM u).2;obtain⟨Q,ζ⟩:=Cu ho.g ho.ty;have key:∀n:Int,0<=n->n<t.az.length->hasB [1,2,3] (AA s.az n)=X:=λn κ η=>by
       have:=(K.node n κ η).1;unfold LR at this;simp only[gN,pE]at this;rw[Aj];simp only[w!,E!,or_false];omega
      unfold JQ at z;rw[H!,x_,x_]at z;rcases z with⟨n,F,e⟩|⟨n,F,e⟩
      .rw[key n (Q n F).1 (Q n F).2]at e;cases e
      .have:=ζ n F;have he:=K.ok.ends this.1 this.2;rw[<-(K.edge _ this.1 this.2).1,key _ he.1.1 he.1.2]at e;cases e
   by_cases z:JQ s h.bi l=X
   .rw[QQ g!,QQ t?,Ne (e.2 z)]at A;subst A;rw[Ne a_,QQ g!,QQ t?,Ne z]
   .rw[QQ g!,QQ t?,QQ (λk=>z (e.1 k))]at A;subst A;rw[QQ a_,QQ g!,QQ t?,QQ z,yx hf O (λr G=>Sg (O r G) R) ho.g];rfl
  .rw[QQ g!,Ne hh]at A;subst A;rw[Ne t?,QQ g!,Ne hh]
 .rw[Ne u]at A;subst A;rw[Ne g!,Ne u]
theorem yu(hf:Ap t)(e:∀r∈c7,Df r)(h:AH):Ia t s c7 h=Y (Ms t s c7 h [1,2,3]):=vM hf e 0 a_ h (.inr ⟨rfl,rfl⟩)
end
end Go.Sf.Sc
namespace Go.Sf.Sc
open Go Go.Sf
theorem Y6:∀(l:Fp)(a b:Int),(∀x∈l,a<=x/\x<b)->l.Pairwise (·<·)->a<=b->(l.length:Int)<=b-a
 |[],a,b,_,_,h=>by simp;omega|x::l,a,b,u,e,h=>by
  have z:=u x (.head _);rw[E?]at e;have:=Y6 l (x+1) b (λy o=>⟨by have:=e.1 y o;omega,(u y (.tail _ o)).2⟩) e.2 U;rw[a5];omega
theorem bN:∀(l:Fp)(a:Int),(∀x∈l,a<=x/\x<a+l.length)->l.Pairwise (·<·)->∀i:Nat,i<l.length->l[i]?=Y (a+i)
 |[],a,_,_,i,hi=>by cases hi
 |x::l,a,z,u,i,hi=>by
  have C:=z x (.head _);rw[E?]at u;have A:=Y6 l (x+1) (a+(x::l).length) (λy o=>⟨by have:=u.1 y o;omega,(z y (.tail _ o)).2⟩) u.2 U;rw[a5]at A;have e:x=a:=U
  subst e;cases i with
  |zero=>simp|succ i=>
   rw [List.getElem?_cons_succ,bN l (x+1) (λy o=>⟨by have:=u.1 y o;omega,by have:=(z y (.tail _ o)).2;rw[a5]at this;omega⟩) u.2 i (by rw[a5]at hi;omega)];congr 1;omega
theorem XS{l:Fp}{n:Nat}(h:∀x∈l,0<=x/\x<n)(e:l.Pairwise (·<·))(u:l.length=n):l=AZ n:=by
 refine List.ext_getElem? λi=>?_;by_cases hi:i<n
 .rw[bN l 0 (λx o=>by have:=h x o;omega) e i U];simp[AZ,hi]
 .rw[F_ U,F_ (by rw[Am];omega)]
theorem RY{n:Nat}{i:Int}(e:0<=i)(o:i<n):AA (AZ n) i=i:=by
 have:=E5 (n:=n) (λx=>x) e o;simpa using this
variable{g:bi}
theorem oW(u:BV g){n m:Nat}(z:n<=g.az.length)(A:m<=g.be.length)(h:∀i:Int,0<=i->i<m->(0<=(AA g.be i).fb/\(AA g.be i).fb<n)/\0<=(AA g.be i).To/\(AA g.be i).To<n):EC g ⟨AZ n,AZ m⟩=0:=by
 have a0:∀{k N:Nat},k<=N->O7 (AZ k) N=0:=by
  intro k N F;unfold O7;rw[Bc.2]
  .rfl
  intro i o e;rw[Am]at e;rw[RY o e,QQ U,QQ];rintro⟨G,E⟩;rw[RY U U]at E;omega
 unfold EC OZ;rw[QQ (by simp[Hi u]),a0 z,a0 A,QQ V,QQ V,Bc.2]
 .rfl
 intro i o e;rw[Am]at e;dsimp only;obtain⟨C,D⟩:=h i o e;rw[RY o e,Aj.2 (By.2 C),Aj.2 (By.2 D)];rfl
theorem Yy{n:Nat}{i:Int}(e:0<=i)(o:i<n):A8 (AZ n) i=i:=by
 have:=D2 (Tv n) e (by rw[Am];exact o)
 rwa [show AA (AZ n) i=i from by have:=E5 (n:=n) (λx=>x) e o;simpa using this]at this
theorem dR(n:Nat):AJ [] n=AZ n:=by
 unfold AJ AZ;simp[hasB]
structure S4(r:d3):Prop where
 ls:r.d7.d4=[]
 lt:r.d7.fv=[]
 rs:r.ca.d4=[]
 lv:r.d7.eg=0
 inj:r.fd=X
 cond:r.bq.fq=1
 kn:r.kg.az=AZ r.d7.bi.az.length
 ke:r.kg.be=AZ r.d7.bi.be.length
theorem QP{t:AC}{s:An}{r:d3}(h:B8 t s r=0):S4 r/\x5 t r.d7.bi.az=X/\x5 t r.ca.bi.az=X:=by
 obtain ⟨_,ho,_,_⟩:=C4 h;unfold B8 at h;split at h
 .omega
 split at h
 .omega
 split at h
 .cases h
 rename_i z;split at h
 .rename_i u;have o:Pd r=X:=n_
  unfold Pd at o;simp only[gN,pE]at o u;obtain⟨⟨⟨⟨a,b,c,d⟩,e⟩,f⟩,g,k⟩:=o;exact⟨⟨A? a,A? b,A? c,d,e,f,XS ho.part.ci.1 ho.part.ci.2 g,XS ho.part.c8.1 ho.part.c8.2 k⟩,u.1⟩
 .cases h
structure Ef(p g:bi)(M:bk):Prop where
 nl:M.az.length=p.az.length
 el:M.be.length=p.be.length
 node:∀i:Int,0<=i->i<p.az.length->(0<=AA M.az i/\AA M.az i<g.az.length)/\AA g.az (AA M.az i)=AA p.az i
 edge:∀i:Int,0<=i->i<p.be.length->(0<=AA M.be i/\AA M.be i<g.be.length)/\AA g.be (AA M.be i)=⟨(AA p.be i).em,AA M.az (AA p.be i).fb,AA M.az (AA p.be i).To⟩
 nnd:M.az.Nodup
 AaW:M.be.Nodup
variable{p:bi}
theorem Ef.chk{t:AC}{M:bk}(h:Ef p g M)(hv:(Az t).2=0)(u:BV p)(tp:CQ t p=X)(z:BV g)(A:CQ t g=X)(inj:Bool):Ei t p g M inj=0:=by
 have D:Dl t p g=0:=by
  unfold Dl;rw[QQ t_,QQ (by simp[Hi u]),QQ (by simp[Hi z]),tp,A];rfl
 have E:Jl t p g M=0:=by
  unfold Jl;rw[QQ (by have:=h.nl;have:=h.el;omega),Bc.2]
  .dsimp only;rw[Bc.2]
   .rfl
   intro i e C;obtain⟨F,o⟩:=h.edge i e (by have:=h.el;omega);unfold Ed;rw[QQ U,o,QQ V,QQ V]
  .intro i e C;obtain⟨F,o⟩:=h.node i e (by have:=h.nl;omega);unfold HV;rw[QQ U,o,Wn ((Cu u tp).1 _ (AG e (by have:=h.nl;omega))).1,QQ a_]
 unfold Ei G2;rw[QQ (by simp[D]),QQ (by simp[E]),IG.2 h.nnd,IG.2 h.AaW,QQ (by cases inj<;>decide)]
def Cr(r:d3)(g:bi)(yN:Fp):bi:=⟨g.az++(AJ r.ec.az r.ca.bi.az.length).map (AA r.ca.bi.az),g.be++(AJ r.ec.be r.ca.bi.be.length).map (MK r r.ec.az yN g.az.length)⟩
section
variable{t:AC}{s:An}{r:d3}{h:AH}{M:bk}
variable{im:Fp}
theorem TK{n:Nat}(u:im.length=n):EW im (AZ n)=[]:=by
 unfold EW;have:AJ (AZ n) im.length=[]:=List.eq_nil_iff_forall_not_mem.2 λx e=>by
  obtain ⟨e,o⟩:=Ol.1 e;exact o (By.2 ⟨e.1,U⟩)
 rw [this];rfl
theorem ZG(e:S4 r)(o:Ef r.d7.bi h.bi M):KS h.bi r.kg M=⟨AZ h.bi.az.length,AZ h.bi.be.length⟩:=by
 unfold KS;rw[e.kn,e.ke,TK o.nl,TK o.el,dR,dR]
theorem Ef.mor{a b:bi}{m:bk}(h:Ef a b m)(u:BV a)(z:BV b):HN a b m=0:=by
 unfold HN;rw[QQ (by simp[Hi u]),QQ (by simp[Hi z]),QQ (by simp[h.nl,h.el]),Bc.2]
 .dsimp only;rw[Bc.2]
  .rfl
  intro i e A;obtain⟨C,o⟩:=h.edge i e (by have:=h.el;omega);unfold Ed;rw[QQ U,o,QQ V,QQ V]
 .intro i e A;obtain⟨C,o⟩:=h.node i e (by have:=h.nl;omega);unfold Lg;rw[QQ U,QQ l']
theorem rb(A:S4 r)(ho:SS t r)(gh:BV h.bi)(o:Ef r.d7.bi h.bi M):(MG (I5 r.d7.bi h.bi M) h.bi r.kg M)=(KS h.bi r.kg M,0):=by
 have D:=o.nl;have G:=o.el;have E:BV (I5 r.d7.bi h.bi M):=by
  refine ⟨by simp[I5,D];exact ho.left.ci,ho.left.c8,λn F=>?_,λe he=>?_⟩
  .obtain⟨x,O,rfl⟩:=y_.1 F;obtain⟨i,u,z,rfl⟩:=BC O;have:=(o.node i u U).1;exact gh.kind _ (AG this.1 this.2)
  .have:=ho.left.fit e he;simp only[I5,a6,D];exact this
 have K:Ef (I5 r.d7.bi h.bi M) h.bi M:=⟨by simp[I5],G,λi u z=>by
  have z:i<(M.az.length:Int):=by simpa[I5]using z
  exact ⟨(o.node i u U).1,(DU u z).symm⟩,o.edge,o.nnd,o.AaW⟩
 have C:=K.mor E gh;have L:EC (I5 r.d7.bi h.bi M) r.kg=0:=by
  have:=oW E (n:=r.d7.bi.az.length) (m:=r.d7.bi.be.length) (by simp[I5,D]) (by simp[I5]) λi u z=>(ho.left.fit _ (AG u z)).2
  rwa [show Bo.mk (AZ r.d7.bi.az.length) (AZ r.d7.bi.be.length)=r.kg by rw[<-A.kn,<-A.ke]]at this
 unfold MG;rw[QQ (by simp[C]),QQ (by simp[L]),QQ,QQ]
 .rw[Dn];rintro⟨i,u,z,e⟩;unfold NN at e;rw[A.kn,TK o.nl]at e;simp[hasB]at e
 .have key:∀{im:Fp}{n:Nat},im.length=n->Aag im (AZ n)=T:=by
   intro im n Q;unfold Aag;rw[Bg];intro a a0 a1;rw[Bg];intro b R ε;rw[Aj.2 (By.2 ⟨a0,U⟩),Aj.2 (By.2 ⟨U,U⟩)];simp
  rw [A.kn,A.ke,key o.nl,key o.el];decide
end
end Go.Sf.Sc
namespace Go.Sf.Sc
open Go Go.Sf
section
variable{t:AC}{s:An}{r:d3}{h:AH}{M:bk}
variable{v:Int}
theorem Nw{J yN:Fp}{gn:Nat}:DM J yN gn v=if v∈J then AA yN (A8 J v)else(gn:Int)+(AJ J v).length:=by
 unfold DM;by_cases hv:v∈J
 .rw[Ne (Aj.2 hv),Ne hv]
 .rw[QQ (by rw[Aj];exact hv),QQ hv]
theorem bg(o:S4 r)(ho:SS t r)(l1:r.ec.az.length=r.d7.bi.az.length)(e:Ef r.d7.bi h.bi M)(u:0<=v)(z:v<r.ca.bi.az.length):
  AA (cS r h ⟨M,[]⟩).az v=DM r.ec.az M.az h.bi.az.length v:=by
 have hd:dS r h ⟨M,[]⟩=⟨AZ h.bi.az.length,AZ h.bi.be.length⟩:=ZG o e;rw[show AA (cS r h ⟨M,[]⟩).az v=O8 r.kg.az r.ec.az (M.az.map (AA (GJ h (dS r h ⟨M,[]⟩)).az)) (dS r h ⟨M,[]⟩).az.length v from ba u z,hd,Nw,o.kn];unfold O8;by_cases hv:v∈r.ec.az
 .obtain⟨a,b,_,_⟩:=Bn hv;have:=(e.node _ a U).1;rw[Ne (Aj.2 hv),Ne hv,RY a U,DU a (by have:=e.nl;omega)];show AA (Gb h.bi.az.length (AZ h.bi.az.length)) _=_;rw[Nh this.1 this.2,Yy this.1 this.2]
 .rw[QQ (by rw[Aj];exact hv),QQ hv,Am]
theorem nT(o:S4 r)(gh:BV h.bi)(u:Ef r.d7.bi h.bi M):(CO h (dS r h ⟨M,[]⟩)).bi=h.bi/\(CO h (dS r h ⟨M,[]⟩)).d5=(AZ h.bi.az.length).map (AA h.d5):=by
 have hd:dS r h ⟨M,[]⟩=⟨AZ h.bi.az.length,AZ h.bi.be.length⟩:=ZG o u;rw[hd];refine⟨?_,rfl⟩;show bi.mk ((AZ h.bi.az.length).map (AA h.bi.az)) ((AZ h.bi.be.length).map λx=>RH (Gb h.bi.az.length (AZ h.bi.az.length)) (AA h.bi.be x))=h.bi;rw[QR];have:((AZ h.bi.be.length).map λx=>RH (Gb h.bi.az.length (AZ h.bi.az.length)) (AA h.bi.be x))=(AZ h.bi.be.length).map (AA h.bi.be):=by
  refine B! λx e=>?_;have e:=By.1 e;have hf:=(gh.fit _ (AG e.1 e.2)).2;unfold RH;rw[Nh hf.1.1 hf.1.2,Nh hf.2.1 hf.2.2,Yy hf.1.1 hf.1.2,Yy hf.2.1 hf.2.2]
 rw [this,QR]
theorem ZE(o:S4 r)(ho:SS t r)(l1:r.ec.az.length=r.d7.bi.az.length)(gh:BV h.bi)(u:Ef r.d7.bi h.bi M):
  (DD t r (CO h (dS r h ⟨M,[]⟩)) (cS r h ⟨M,[]⟩)).bi=Cr r h.bi M.az:=by
 unfold DD Nc PG Cr;rw[(nT o gh u).1];dsimp only;congr 2;refine B! λk e=>?_;have e:0<=k/\k<r.ca.bi.be.length:=CL e;have hf:=(ho.right.fit _ (AG e.1 e.2)).2;unfold RH MK;rw[bg o ho l1 u hf.1.1 hf.1.2,bg o ho l1 u hf.2.1 hf.2.2]
variable{m:AT}
theorem nU(hf:Ap t)(e:S4 r)(o:SZ t r.d7 r.bq h m r.fd=0):L5 t r.d7 r.bq h m r.fd=(X,0):=by
 have u:(wS t r.d7 r.bq h m r.fd).2=0:=by
  unfold wS;rw[QQ l'];have:=GQ r.bq;obtain⟨n,z⟩:∃n,SizeOf.sizeOf r.bq=n+1:=⟨SizeOf.sizeOf r.bq-1,U⟩;rw[z,C5,QQ v?,QQ v?,QQ v?,QQ v?]
 unfold L5;rw[u];rfl
theorem iU(hf:Ap t)(fr:Df r)(F:B8 t s r=0)(hh:(Br t h).2=0)(G:Ef r.d7.bi h.bi M)(ζ:(Cr r h.bi M.az).az.length<=40)(δ:(Cr r h.bi M.az).be.length<=80):
  ∃st,Fy t r h ⟨M,[]⟩=(st,0)/\st.k7.bi=Cr r h.bi M.az/\(Br t st.k7).2=0:=by
 obtain ⟨_,ho,l1,l2⟩:=C4 F;obtain⟨z,_⟩:=QP F;obtain⟨_,A⟩:=Ts F;obtain⟨hv,hO⟩:=FU hf hh;obtain⟨ε,Z,_⟩:=Qp A;have o:∀b,Ei t r.d7.bi h.bi M b=0:=G.chk hv ho.left ho.ltyped hO.g hO.ty;have u:Fm t r.d7 h M=([],0):=by
  unfold Fm Oa;rw[QQ (by simp[ε,hh]),QQ l'];unfold Hd;rw[z.ls,z.lt,z.lv];rfl
 have K:=rb z ho hO.g G;have L:SZ t r.d7 r.bq h ⟨M,[]⟩ r.fd=0:=Ve A hh (o _) (by rw[u]) (by rw[u]);have C:=nU hf z L;have Q:=ZE (t:=t) z ho l1 hO.g G;have D:B7 r (cS r h ⟨M,[]⟩) []=[]:=by unfold B7;rw[z.rs];rfl
 have e:Fy t r h ⟨M,[]⟩=Vj t r h ⟨M,[]⟩:=by
  unfold Fy;rw[QQ (by simp[A]),QQ t?,QQ l',u,QQ V,QQ V,K,QQ V,C,QQ V,QQ V]
 have E:∀x:AH,Hn t x []=(x,0):=λx=>by
  unfold Hn;rw[QQ (by unfold Pc;rw[Dn];rintro⟨i,i0,η,_⟩;simp at η;omega)];rfl
 have R:Fy t r h ⟨M,[]⟩=(ji t r h ⟨M,[]⟩,0):=by
  have O:Hn t (DD t r (CO h (dS r h ⟨M,[]⟩)) (cS r h ⟨M,[]⟩)) (B7 r (cS r h ⟨M,[]⟩) [])=(DD t r (CO h (dS r h ⟨M,[]⟩)) (cS r h ⟨M,[]⟩),0):=by rw[D,E]
  rw [e];unfold Vj ji SU;dsimp only;rw[QQ (by rw[O];simp),QQ (by rw[O];dsimp only;rw[Q];omega),O,D];rfl
 obtain ⟨κ,_⟩:=bM hf fr (RX F) (h:=h) (m:=⟨M,[]⟩) (by rw[R]);exact⟨_,R,Q,congrArg Prod.snd (V6 κ)⟩
end
end Go.Sf.Sc
namespace Go.Sf.Sc
open Go Go.Sf
theorem g7{t:AC}(o:ES t t.az.length):∀(n:Nat)(a:Int),0<=a->a<t.az.length->∀x∈Gc t n a,x=a\/∃c:Int,(0<=c/\c<t.az.length)/\x=par t c
 |0,_,_,_,x,e=>by simp[Gc]at e|n+1,a,a0,a1,x,e=>by
  rw [Gc,QQ U]at e;rcases w!.1 e with rfl|e
  .exact .inl rfl
  .by_cases u:0<=par t a
   .have:=o a a0 a1;rcases g7 o n (par t a) u U x e with rfl|h
    .exact .inr ⟨a,⟨a0,a1⟩,rfl⟩
    .exact .inr h
   .cases n with
    |zero=>simp[Gc]at e|succ n=>rw[Gc,Ne U]at e;cases e
variable{a b:Int}
theorem fh{t:AC}(u:ES t t.az.length){l:Fp}(o:x5 t l=X)(a0:0<=a)(a1:a<t.az.length)(z:b∈l)(h:isB t a b=X):a=b:=by
 unfold isB at h;obtain⟨x,A,e⟩:=x_.1 h;rw[pE]at e;subst e;rcases g7 u _ a a0 a1 b A with e|⟨c,⟨C,D⟩,e⟩
 .exact e.symm
 .unfold x5 at o;rw[G?,x!]at o;have:=o b z;exact absurd (x_.2 ⟨AA t.az c,AG C D,by rw[pE];exact e.symm⟩) this
section
variable{t:AC}{s:An}{r:d3}{l:Fp}
theorem Uh{i:Int}(e:0<=i)(o:i<r.d7.bi.az.length):AA (Ba s r l).az i=AA r.d7.bi.az i:=Ec e o
theorem Xy{i:Int}(e:0<=i)(o:i<r.d7.bi.be.length):AA (Ba s r l).be i=AA r.d7.bi.be i:=Ec e o
theorem Xz{i:Int}(e:0<=i)(o:i<(Di s r l).length):AA (Ba s r l).az (r.d7.bi.az.length+i)=AA r.ca.bi.az (AA (Di s r l) i):=by
 obtain ⟨n,rfl⟩:=J! e;rw[show AA (Ba s r l).az (r.d7.bi.az.length+(n:Int))=_ from Mu,DU e o]
theorem WE{i:Int}(e:0<=i)(o:i<(Ea s r l).length):AA (Ba s r l).be (r.d7.bi.be.length+i)=Vg r (At s r l) (AA (Ea s r l) i):=by
 obtain ⟨n,rfl⟩:=J! e;rw[show AA (Ba s r l).be (r.d7.bi.be.length+(n:Int))=_ from Mu,DU e o]
theorem kz(o:B8 t s r=0){n:Int}(e:n∈(Ba s r l).az):∃L,x5 t L=X/\n∈L:=by
 obtain ⟨_,u,z⟩:=QP o;rcases x?.1 e with e|e
 .exact⟨_,u,e⟩
 .obtain⟨v,hv,rfl⟩:=y_.1 e;have:=(Cv.1 hv).1;exact⟨_,z,AG this.1 this.2⟩
variable{g:bi}
theorem iz(E:B8 t s r=0){y:bk}(e:y∈(D0 t (Ba s r l) g X).1):Ef (Ba s r l) g y/\Dl t (Ba s r l) g=0:=by
 unfold D0 at e;split at e
 .cases e
 rename_i o;split at e
 .cases e
 have o:=I!.1 o;have u:=Qi e;have ok:=Wg o e;obtain⟨hv,_,_,_,F⟩:=JN o;have nl:y.az.length=(Ba s r l).az.length:=u.nl;have el:y.be.length=(Ba s r l).be.length:=u.el;refine⟨⟨nl,el,λi z C=>?_,λi z C=>u.edge i z U,(u.inj rfl).1,(u.inj rfl).2⟩,o⟩;obtain⟨A,G⟩:=ok.node i z U;obtain⟨L,K,O⟩:=kz E (AG z C);have D:=F _ (AG A.1 A.2);exact⟨A,fh (Cg hv).par K D.1 D.2 O G⟩
theorem Zf(o:B8 t s r=0){i:Int}(e:0<=i)(z:i<r.ec.az.length):AA r.ca.bi.az (AA r.ec.az i)=AA r.d7.bi.az i/\0<=AA r.ec.az i/\AA r.ec.az i<r.ca.bi.az.length:=by
 obtain ⟨_,ho,l1,_⟩:=C4 o;obtain⟨u,_⟩:=QP o;obtain⟨A,C⟩:=ho.mor.node i e z;refine⟨?_,A⟩;rw[C];unfold MR;rw[DU e (by rw[u.kn,Am];omega),u.kn,RY e U]
variable{v:Int}
theorem k8(o:B8 t s r=0)(hv:v∈At s r l):AA (Ba s r l).az (A8 (At s r l) v)=AA r.ca.bi.az v:=by
 obtain ⟨_,ho,l1,_⟩:=C4 o;by_cases e:v∈r.ec.az
 .obtain⟨a,b,c,_⟩:=Bn e;rw[show A8 (At s r l) v=A8 r.ec.az v from Rt e,Uh a U,<-(Zf o a b).1,c]
 .have u:v∈Di s r l:=(x?.1 hv).resolve_left e;obtain⟨a,b,c,_⟩:=Bn u;rw[show A8 (At s r l) v=r.ec.az.length+A8 (Di s r l) v from MQ e u,l1,Xz a b,c]
variable{w:Int}
theorem kw(o:B8 t s r=0)(u:w∉r.ec.be)(e:w∈Ea s r l):AA (Ba s r l).be (A8 (Bu s r l) w)=Vg r (At s r l) w:=by
 obtain ⟨_,ho,_,l2⟩:=C4 o;obtain⟨a,b,c,_⟩:=Bn e;rw[show A8 (Bu s r l) w=r.ec.be.length+A8 (Ea s r l) w from MQ u e,l2,WE a b,c]
variable{x:AI}{y:bk}{i:Int}
theorem nQ(z:B8 t s r=0)(A:Ef (Ba s r l) x.ea y)(C:0<=v)(D:v<r.ca.bi.az.length):AA (CN x i s r l y).ea.az (DM (At s r l) y.az x.ea.az.length v)=AA r.ca.bi.az v:=by
 obtain ⟨_,ho,l1,_⟩:=C4 z;have ml:(Ba s r l).az.length=(At s r l).length:=by simp[Ba,At,l1]
 by_cases hv:v∈At s r l
 .obtain⟨a,b,c,_⟩:=Bn hv;obtain⟨o,u⟩:=A.node _ a U;have e:DM (At s r l) y.az x.ea.az.length v=AA y.az (A8 (At s r l) v):=v!
  rw [e,show AA (CN x i s r l y).ea.az (AA y.az (A8 (At s r l) v))=_ from Ec o.1 o.2,u,k8 z hv]
 .obtain⟨o,u⟩:=IP C D hv;rw[Nd hv,show AA (CN x i s r l y).ea.az ((x.ea.az.length:Int)+((AJ (At s r l) v).length:Int))=_ from Mu,DU U u,o]
theorem nO(z:B8 t s r=0)(he:MD s r l)(D:Ef (Ba s r l) x.ea y)(w0:0<=w)(E:w<r.ca.bi.be.length)(A:w∉r.ec.be):
  AA (CN x i s r l y).ea.be (DM (Bu s r l) y.be x.ea.be.length w)=MK r (At s r l) y.az x.ea.az.length w:=by
 obtain ⟨_,ho,_,l2⟩:=C4 z;have ml:(Ba s r l).be.length=(Bu s r l).length:=by simp[Ba,Bu,l2]
 by_cases hv:w∈Bu s r l
 .have C:w∈Ea s r l:=(x?.1 hv).resolve_left A;obtain⟨a,b,c,_⟩:=Bn hv;obtain⟨o,u⟩:=D.edge _ a U;obtain⟨F,G⟩:=he _ C;have e:DM (Bu s r l) y.be x.ea.be.length w=AA y.be (A8 (Bu s r l) w):=v!
  rw [e,show AA (CN x i s r l y).ea.be (AA y.be (A8 (Bu s r l) w))=_ from Ec o.1 o.2,u,kw z A C];unfold Vg MK DM;rw[Ne (Aj.2 F),Ne (Aj.2 G)]
 .obtain⟨o,u⟩:=IP w0 E hv;rw[Nd hv,show AA (CN x i s r l y).ea.be ((x.ea.be.length:Int)+((AJ (Bu s r l) w).length:Int))=_ from Mu,DU U u,o]
end
end Go.Sf.Sc
namespace Go.Sf
variable{α σ ρ:Type}
theorem ZQ{g:α->σ->σ ⊕ ρ}:∀{a b:List α}{s s':σ},Cw g a s=.inl s'->Cw g (a++b) s=Cw g b s'
 |[],_,_,_,h=>by cases h;rfl
 |x::a,b,s,s',h=>by
  rw [List.cons_append,Cw];rw[Cw]at h;cases e:g x s with
  |inr r=>rw[e]at h;cases h
  |inl v=>rw[e]at h;exact ZQ (a:=a) h
end Go.Sf
namespace Go.Sf.Sc
open Go Go.Sf
section
variable{t:AC}{s:An}{r:d3}{l:Fp}{x:AI}{y:bk}{i:Int}{B:bi}
def KL(x:AI)(r:d3)(y:bk):bk:=⟨(y.az.take r.d7.bi.az.length).map (A8 x.l3.az),(y.be.take r.d7.bi.be.length).map (A8 x.l3.be)⟩
variable{j:Int}
theorem b6{I im:Fp}{n:Int}(h:HM I im n=X)(e:0<=j)(o:j<im.length)(u:j<n):AA im j∈I:=by
 unfold HM at h;rw[G?,Bg]at h;have:=h j e o;rw[decide_eq_false U,beq_false]at this;rw[<-Aj];simpa using this
variable{k:Int}
theorem qY{I:Fp}(h:k∈I):AA I (A8 I k)=k:=(Bn h).2.2.1
theorem N4{l:Fp}{n:Nat}(e:0<=j)(o:j<n):AA (l.take n) j=AA l j:=by
 have:=Y7 (l:=l) (i:=(n:Int)) e U
 rwa [J_]at this
theorem lD{l I:Fp}(u:l.Nodup)(h:∀k∈l,k∈I):(l.map (A8 I)).Nodup:=by
 rw [F!,D'];refine List.Pairwise.imp_of_mem (λ{a b}z A o e=>o ?_) u;rw[<-qY (h a z),<-qY (h b A),e]
theorem oH(Q:B8 t s r=0)(hi:IC x)(R:BV B)(A:Ef B x.ea x.l3)(z:Ef (Ba s r l) x.ea y)(ε:HM x.l3.az y.az r.d7.bi.az.length=X)(κ:HM x.l3.be y.be r.d7.bi.be.length=X):Ef r.d7.bi B (KL x r y):=by
 obtain ⟨_,ho,l1,l2⟩:=C4 Q;have m1:r.d7.bi.az.length<=y.az.length:=by rw[z.nl];simp[Ba]
 have δ:r.d7.bi.be.length<=y.be.length:=by rw[z.el];simp[Ba]
 have G:=A.nl;have Z:=A.el;have D:∀j:Int,0<=j->j<r.d7.bi.az.length->AA (KL x r y).az j=A8 x.l3.az (AA y.az j)/\AA y.az j∈x.l3.az:=λj o u=>by
  refine ⟨?_,b6 ε o U u⟩;show AA ((y.az.take r.d7.bi.az.length).map (A8 x.l3.az)) j=_;rw[DU o i_,N4 o u]
 have K:∀j:Int,0<=j->j<r.d7.bi.be.length->AA (KL x r y).be j=A8 x.l3.be (AA y.be j)/\AA y.be j∈x.l3.be:=λj o u=>by
  refine ⟨?_,b6 κ o U u⟩;show AA ((y.be.take r.d7.bi.be.length).map (A8 x.l3.be)) j=_;rw[DU o i_,N4 o u]
 refine ⟨by simp[KL];omega,by simp[KL];omega,λj o u=>?_,λj o u=>?_,?_,?_⟩
 .obtain⟨e,E⟩:=D j o u;obtain⟨a,b,c,_⟩:=Bn E;rw[e];refine⟨⟨a,U⟩,?_⟩;rw[<-(A.node _ a U).2,c,(z.node j o (by simp[Ba];omega)).2,Uh o u]
 .obtain⟨e,E⟩:=K j o u;obtain⟨a,b,c,_⟩:=Bn E;rw[e];refine⟨⟨a,U⟩,?_⟩;have L:=(A.edge _ a U).2;have ζ:=(z.edge j o (by simp[Ba];omega)).2;rw[c,ζ,Xy o u]at L;have hf:=(ho.left.fit _ (AG o u)).2;injection L with q1 q2 q3;have key:∀a b:Int,(0<=a/\a<r.d7.bi.az.length)->AA y.az a=AA x.l3.az b->0<=b->b<x.l3.az.length->b=AA (KL x r y).az a:=λa b F e η G=>by
   rw [(D a F.1 F.2).1,e,D2 hi.nnd η G]
  have O:=(R.fit _ (AG a (show _<(B.be.length:Int)by omega))).2;rw[q1,<-key _ _ hf.1 q2 O.1.1 U,<-key _ _ hf.2 q3 O.2.1 U]
 .refine lD (z.nnd.sublist (F? ..)) λk C=>?_;obtain⟨j,o,u,rfl⟩:=BC C;rw[aN]at u;rw[N4 o U];exact(D j o U).2
 .refine lD (z.AaW.sublist (F? ..)) λk C=>?_;obtain⟨j,o,u,rfl⟩:=BC C;rw[aN]at u;rw[N4 o U];exact(K j o U).2
end
end Go.Sf.Sc
namespace Go.Sf.Sc
open Go Go.Sf
section
variable{t:AC}{s:An}{r:d3}{l:Fp}{x:AI}{y:bk}{i:Int}{B:bi}
variable{α:Type}
theorem RD[Inhabited α]{a b:List α}{i:Int}(o:(a.length:Int)<=i):AA (a++b) i=AA b (i-a.length):=by
 obtain ⟨n,e⟩:=J! (show 0<=i-a.length by omega);rw[e,show i=(a.length:Int)+(n:Int)by omega];exact Mu
variable{v:Int}
theorem ko(hi:IC x)(o:Ef B x.ea x.l3)(e:JM x.l3.az r.ec.az (At s r l) y.az x.ea.az.length)(u:B8 t s r=0)(z:HM x.l3.az y.az r.d7.bi.az.length=X)
  (A:0<=v)(C:v<r.ca.bi.az.length):
  AA (CN x i s r l y).l3.az (DM r.ec.az (KL x r y).az B.az.length v)=DM (At s r l) y.az x.ea.az.length v:=by
 obtain ⟨_,ho,l1,_⟩:=C4 u;have D:=o.nl;have L:=e.AbH;have O:(At s r l).length=r.ec.az.length+(Di s r l).length:=aE ..;have e0:(CN x i s r l y).l3.az=x.l3.az++(AJ r.ec.az r.ca.bi.az.length).map (DM (At s r l) y.az x.ea.az.length):=rfl;rw[e0,Nw];by_cases hv:v∈r.ec.az
 .obtain⟨a,b,c,_⟩:=Bn hv;have E:AA y.az (A8 r.ec.az v)∈x.l3.az:=b6 z a U U;obtain⟨a',Q,c',_⟩:=Bn E;have F:AA (KL x r y).az (A8 r.ec.az v)=A8 x.l3.az (AA y.az (A8 r.ec.az v)):=by
   show AA ((y.az.take r.d7.bi.az.length).map (A8 x.l3.az)) _=_;rw[DU a i_,N4 a U]
  rw [Ne hv,F,Ec a' U,c',(Tc e (e.jt _ hv)).1,show A8 (At s r l) v=_ from Rt hv]
 .obtain⟨G,K⟩:=IP A C hv;rw[QQ hv,<-D,Mu,DU U K,G]
theorem Z8(A:B8 t s r=0)(F:MD s r l)(hi:IC x)(η:BV B)(z:Ef B x.ea x.l3)(O:Ef (Ba s r l) x.ea y)(Q:JM x.l3.az r.ec.az (At s r l) y.az x.ea.az.length)(he:JM x.l3.be r.ec.be (Bu s r l) y.be x.ea.be.length)
  (R:HM x.l3.az y.az r.d7.bi.az.length=X)(C:IC (CN x i s r l y)):Ef (Cr r B (KL x r y).az) (CN x i s r l y).ea (CN x i s r l y).l3:=by
 obtain ⟨_,ho,l1,l2⟩:=C4 A;have ε:=z.nl;have κ:=z.el;have eN:(CN x i s r l y).l3.az=x.l3.az++(AJ r.ec.az r.ca.bi.az.length).map (DM (At s r l) y.az x.ea.az.length):=rfl;have K:(CN x i s r l y).l3.be=x.l3.be++(AJ r.ec.be r.ca.bi.be.length).map (DM (Bu s r l) y.be x.ea.be.length):=rfl;have ζ:(CN x i s r l y).ea.az=x.ea.az++(AJ (At s r l) r.ca.bi.az.length).map (AA r.ca.bi.az):=rfl;have δ:(CN x i s r l y).ea.be=x.ea.be++(AJ (Bu s r l) r.ca.bi.be.length).map (MK r (At s r l) y.az x.ea.az.length):=rfl;have D:(Cr r B (KL x r y).az).az=B.az++(AJ r.ec.az r.ca.bi.az.length).map (AA r.ca.bi.az):=rfl;have E:(Cr r B (KL x r y).az).be=B.be++(AJ r.ec.be r.ca.bi.be.length).map (MK r r.ec.az (KL x r y).az B.az.length):=rfl;have nl:(CN x i s r l y).l3.az.length=(Cr r B (KL x r y).az).az.length:=by rw[eN,D,aE,aE,a6,a6,ε]
 have el:(CN x i s r l y).l3.be.length=(Cr r B (KL x r y).az).be.length:=by rw[K,E,aE,aE,a6,a6,κ]
 refine ⟨nl,el,λk e G=>⟨C.nin _ (AG e U),?_⟩,λk e G=>⟨C.ein _ (AG e U),?_⟩,C.nnd,C.AaW⟩
 .by_cases h:k<B.az.length
  .have o:=z.node k e h;rw[eN,Ec e U,ζ,Ec o.1.1 o.1.2,o.2,D,Ec e h]
  .have u:k-B.az.length<(AJ r.ec.az r.ca.bi.az.length).length:=by
    rw [D,aE,a6]at G;omega
   have hv:=CL (AG (l:=AJ r.ec.az r.ca.bi.az.length) (i:=k-B.az.length) U u);rw[eN,RD U,ε,DU U u,nQ A O hv.1 hv.2,D,RD U,DU U u]
 .by_cases h:k<B.be.length
  .have o:=z.edge k e h;have hf:=(η.fit _ (AG e h)).2;rw[K,Ec e U,δ,Ec o.1.1 o.1.2,o.2,E,Ec e h,eN,Ec hf.1.1 U,Ec hf.2.1 U]
  .have u:k-B.be.length<(AJ r.ec.be r.ca.bi.be.length).length:=by
    rw [E,aE,a6]at G;omega
   obtain ⟨hv,L⟩:=GF.1 (AG (l:=AJ r.ec.be r.ca.bi.be.length) (i:=k-B.be.length) U u);have hf:=(ho.right.fit _ (AG hv.1 hv.2)).2;rw[K,RD U,κ,DU U u,nO A F O hv.1 hv.2 L,E,RD U,DU U u];unfold MK;dsimp only;rw[ko hi z Q A R hf.1.1 hf.1.2,ko hi z Q A R hf.2.1 hf.2.2]
def ax(t:AC)(c7:List d3)(x:AI):Prop:=∃B:AH,Cw (EB t c7) x.og (zH,zH)=.inl (zH,B)/\(Br t B).2=0/\Ef B.bi x.ea x.l3
theorem n7{c7:List d3}(hf:Ap t)(G:∀r∈c7,Df r)(K:∀r∈c7,B8 t s r=0)(z:∀r∈c7,MD s r l)(x:AI)(i:Int)(y:bk)(hi:IC x)(h:ax t c7 x)(L:0<=i)(O:i<c7.length)
  (Q:y∈(D0 t (Ba s (AA c7 i) l) x.ea X).1)
  (R:JM x.l3.az (AA c7 i).ec.az (At s (AA c7 i) l) y.az x.ea.az.length)(he:JM x.l3.be (AA c7 i).ec.be (Bu s (AA c7 i) l) y.be x.ea.be.length)
  (D:HM x.l3.az y.az (AA c7 i).d7.bi.az.length=X)(ε:HM x.l3.be y.be (AA c7 i).d7.bi.be.length=X)(u:IC (CN x i s (AA c7 i) l y)):ax t c7 (CN x i s (AA c7 i) l y):=by
 obtain ⟨B,e,hv,E⟩:=h;have A:=AG L O;have o:=K _ A;obtain⟨_,hO⟩:=FU hf hv;obtain⟨F,_⟩:=iz o Q;have κ:=oH o hi hO.g E F D ε;have C:=Z8 (i:=i) o (z _ A) hi hO.g E F R he D u;have η:(Cr (AA c7 i) B.bi (KL x (AA c7 i) y).az).az.length<=40:=by
  rw [<-C.nl];have:=Li u.nnd u.nin;have:=u.t2;omega
 have ζ:(Cr (AA c7 i) B.bi (KL x (AA c7 i) y).az).be.length<=80:=by
  rw [<-C.el];have:=Li u.AaW u.ein;have:=u.x4;omega
 obtain ⟨st,a1,a2,δ⟩:=iU hf (G _ A) o hv κ η ζ;refine⟨st.k7,?_,δ,by rw[a2];exact C⟩;rw[show(CN x i s (AA c7 i) l y).og=x.og++[⟨i,⟨KL x (AA c7 i) y,[]⟩⟩]from rfl,ZQ e,Cw];have:EB t c7 ⟨i,⟨KL x (AA c7 i) y,[]⟩⟩ (zH,B)=.inl (zH,st.k7):=by
  unfold EB;rw[QQ (by show¬(i<0\/(c7.length:Int)<=i);omega)];dsimp only;rw[a1,QQ V]
 rw [this];rfl
end
end Go.Sf.Sc
namespace Go.Sf.Sc
open Go Go.Sf
variable{α:Type}
theorem bO[Inhabited α]{P:α->Prop}{l:List α}(hd:P default)(h:∀x∈l,P x)(i:Int):P (AA l i):=by
 unfold AA;rw[z!];cases e:l[i.toNat]? with
 |none=>exact hd|some x=>exact h x (A_ e)
section
variable{t:AC}{s:An}{c7:List d3}{l:Fp}
theorem kh(h:DP t s c7=0)(k:Int):A3 t k=[]:=by
 have u:∀n∈t.az,n.gR=[]:=by
  unfold DP at h;split at h
  .cases h
  split at h
  .omega
  split at h
  .cases h
  rename_i e;rw[H?,x!]at e;intro n o;have:=e n o;rw[pE]at this;exact A? U
 have z:=bO (P:=λn:Bx=>n.gR=[]) rfl u;have key:∀(n:Nat)(a:Int),CE t n a=[]:=λn=>by
  induction n with
  |zero=>intro a;rfl|succ n A=>intro a;rw[CE,A,z];simp
 exact key _ _
theorem Zd{h:AH}(z:(Az t).2=0)(A:Bz h.bi=0)(C:h.d5.length=h.bi.az.length)(D:∀i:Int,0<=i->i<h.bi.az.length->GX t (AA h.bi.az i) (AA h.d5 i)=0)(E:∀i:Int,0<=i->i<h.bi.be.length->HZ t h.bi i=0):(Br t h).2=0:=by
 unfold Br;have F:fst (λi=>(nz (GX t (AA h.bi.az i) (AA h.d5 i))).map λe=>(i,e)) 0 h.bi.az.length=none:=Bc.2 λi o u=>by rw[D i o u];rfl
 have G:fst (λi=>(nz (HZ t h.bi i)).map λe=>(i,e)) 0 h.bi.be.length=none:=Bc.2 λi o u=>by rw[E i o u];rfl
 rw [QQ (λk=>k z),QQ (λk=>k A),QQ (λk=>k C),F,G];rfl
theorem Yn(hv:(Az t).2=0):(Br t zH).2=0:=Zd hv a_ rfl (λi o e=>k!) (λi o e=>k!)
theorem rk(hv:(Az t).2=0)(h:AH):ax t c7 (GT h):=
 ⟨zH,rfl,Yn hv,rfl,rfl,λi o e=>k!,λi o e=>k!,E',E'⟩
variable{N:Nat}{k:Int}
theorem WV{I:Fp}(h:S5 N I=X)(o:0<=k)(u:k<N):∃i:Int,0<=i/\i<I.length/\AA I i=k:=by
 unfold S5 at h;rw[G_]at h;obtain⟨i,z,A,e⟩:=BC (Aj.1 (h k (By.2 ⟨o,u⟩)));exact⟨i,z,A,e⟩
theorem fB{I:Fp}(h:S5 N I=X)(u:I.Nodup)(e:∀k∈I,0<=k/\k<N):I.length=N:=by
 have C:=Li u e;have:=List.Nodup.length_le_of_subset (l₁:=AZ N) (l₂:=I) (Tv N) (λx o=>by
  obtain ⟨i,z,A,rfl⟩:=WV h (By.1 o).1 (By.1 o).2;exact AG z A)
 rw [Am]at this;omega
theorem kM(hf:Ap t)(K:DP t s c7=0){B:AH}(G:(Br t B).2=0){y:AI}(hi:IC y)(D:O9 y=X)(C:Ef B.bi y.ea y.l3):(Br t (Jh y).l6).2=0:=by
 obtain ⟨hv,hO⟩:=FU hf G;obtain⟨pn,pe⟩:=OO G;unfold O9 at D;rw[gN]at D;have N:∀k:Int,0<=k->k<y.ea.az.length->∃i:Int,(0<=i/\i<B.bi.az.length)/\AA y.ea.az k=AA B.bi.az i:=λk z A=>by
  obtain ⟨i,u,o,rfl⟩:=WV D.1 z A;rw[C.nl]at o;exact⟨i,⟨u,o⟩,(C.node i u o).2⟩
 have E:∀k:Int,0<=k->k<y.ea.be.length->∃i:Int,(0<=i/\i<B.bi.be.length)/\AA y.ea.be k=⟨(AA B.bi.be i).em,AA y.l3.az (AA B.bi.be i).fb,AA y.l3.az (AA B.bi.be i).To⟩:=λk z A=>by
  obtain ⟨i,u,o,rfl⟩:=WV D.2 z A;rw[C.el]at o;exact⟨i,⟨u,o⟩,(C.edge i u o).2⟩
 have O:BV y.ea:=by
  refine ⟨hi.t2,hi.x4,λn L=>?_,λe he=>?_⟩
  .obtain⟨k,z,A,rfl⟩:=BC L;obtain⟨i,⟨u,o⟩,e⟩:=N k z A;rw[e];exact hO.g.kind _ (AG u o)
  .obtain⟨k,z,A,rfl⟩:=BC he;obtain⟨i,⟨u,o⟩,e⟩:=E k z A;have hf:=hO.g.fit _ (AG u o);rw[e];exact⟨hf.1,(C.node _ hf.2.1.1 hf.2.1.2).1,(C.node _ hf.2.2.1 hf.2.2.2).1⟩
 refine Zd hv (Hi O) (by simp[Jh]) (λk z A=>?_) (λk z A=>?_)
 .obtain⟨i,⟨u,o⟩,e⟩:=N k z A;have F:=pn i u o;have Q:AA (Jh y).l6.d5 k=[]:=bO (P:=λv:Fp=>v=[]) rfl (λv hv=>List.eq_of_mem_replicate hv) k;rw[show AA (Jh y).l6.bi.az k=AA B.bi.az i from e,Q];have R:(AA B.d5 i).length=0:=by
   have:=hO.row i u o
   rwa [kh K]at this
  rwa [A? R]at F
 .obtain⟨i,⟨u,o⟩,e⟩:=E k z A;have F:=pe i u o;have hf:=(hO.g.fit _ (AG u o)).2;unfold HZ DG at F|-;rw[show AA (Jh y).l6.bi.be k=_ from e];dsimp only;rw[show(Jh y).l6.bi.az=y.ea.az from rfl,(C.node _ hf.1.1 hf.1.2).2,(C.node _ hf.2.1 hf.2.2).2];exact F
theorem nY(hf:Ap t)(z:DP t s c7=0){y:AI}(hi:IC y)(C:y.og.length<=30)(o:O9 y=X)(h:ax t c7 y):(Br t (Jh y).l6).2=0/\Yd t s c7 (Jh y)=X:=by
 obtain ⟨B,e,A,u⟩:=h;have hd:=kM hf z A hi o u;obtain⟨_,hO⟩:=FU hf A;obtain⟨_,E⟩:=FU hf hd;have D:Mq t s c7 y.og=(B,0):=by
  unfold Mq;rw[QQ (by simp[z]),QQ U,e]
 unfold O9 at o;rw[gN]at o;refine⟨hd,?_⟩;unfold Yd;rw[show(Jh y).Aa4=y.og from rfl,D,QQ V,QQ (by simp[hd])];unfold iw G2;rw[show HN B.bi (Jh y).l6.bi (Jh y).Iso=0 from u.mor hO.g E.g,show(Jh y).Iso=y.l3 from rfl,show(Jh y).l6.bi=y.ea from rfl,IG.2 u.nnd,IG.2 u.AaW,fB o.1 hi.nnd hi.nin,fB o.2 hi.AaW hi.ein];simp
end
end Go.Sf.Sc
namespace Go.Sf.Sc
open Go Go.Sf
def UI(s:An)(l:Fp)(h:AH)(g:bi):Prop:=∃N E,g=⟨h.bi.az++N,h.bi.be++E⟩/\(∀n∈N,hasB l (AA s.az n)=T)/\∀e∈E,hasB l (AA s.be e.em)=T
section
variable{t:AC}{s:An}{c7:List d3}{l:Fp}
theorem cc{h:AH}{x:AI}{i:Int}{r:d3}{y:bk}(ho:UI s l h x.ea):UI s l h (CN x i s r l y).ea:=by
 obtain ⟨N,E,e,D,he⟩:=ho;refine⟨N++(AJ (At s r l) r.ca.bi.az.length).map (AA r.ca.bi.az),E++(AJ (Bu s r l) r.ca.bi.be.length).map (MK r (At s r l) y.az x.ea.az.length),?_,λn o=>?_,λn o=>?_⟩
 .show bi.mk (x.ea.az++_) (x.ea.be++_)=_;rw[show x.ea.az=h.bi.az++N by rw[e],show x.ea.be=h.bi.be++E by rw[e],ae,ae]
 .rcases x?.1 o with o|o
  .exact D n o
  obtain ⟨v,hv,rfl⟩:=y_.1 o;obtain⟨C,u⟩:=GF.1 hv;cases z:hasB l (AA s.az (AA r.ca.bi.az v))with
  |false=>rfl|true=>
   refine absurd (B' _ (Cv.2 ⟨C,?_⟩)) u;have A:hasB r.ec.az v=T:=by
    rw [<-H?,Aj];exact λk=>u (B_ _ k)
   unfold PI;rw[z,A];rfl
 .rcases x?.1 o with o|o
  .exact he n o
  obtain ⟨v,hv,rfl⟩:=y_.1 o;obtain⟨C,u⟩:=GF.1 hv;cases z:hasB l (AA s.be (AA r.ca.bi.be v).em)with
  |false=>exact z|true=>
   refine absurd (B' _ (Cv.2 ⟨C,?_⟩)) u;have A:hasB r.ec.be v=T:=by
    rw [<-H?,Aj];exact λk=>u (B_ _ k)
   unfold PH;rw[z,A];rfl
theorem ln(hf:Ap t)(z:∀r∈c7,Df r)(F:hasB l 2=X->hasB l 1=X/\hasB l 3=X)(D:DP t s c7=0){h:AH}(hh:(Br t h).2=0){x:Bv}(e:Ob t s c7 h l=(x,0)):
  (Br t x.l6).2=0/\Yd t s c7 x=X/\x.l6.d5=E_ x.l6.bi.az.length []/\UI s l h x.l6.bi:=by
 obtain ⟨hv,hO⟩:=FU hf hh;have C:=MO D;have he:=λr z=>Sg (C r z) F;unfold Ob at e;cases o:Hq t s c7 l 31 (GT h) 0 with
 |inl v=>rw[o]at e;cases e
 |inr r=>
  rw [o]at e;dsimp only at e;by_cases u:r.2.1=0
  .rw[Ne u]at e;cases e;obtain⟨hi,⟨η,ζ,δ⟩,Z⟩:=hU C (λx=>ax t c7 x/\x.og.length<=30/\UI s l h x.ea) (λx i y hi E G K L _ _ O Q A R ε κ=>⟨n7 hf z C he x i y hi E.1 K L O Q A R ε κ,n?,cc E.2.2⟩)
    31 _ 0 r o u (UN hO.g) ⟨rk hv h,n!,[],[],n!,V,V⟩ n! n!
   obtain ⟨k1,k2⟩:=nY hf D hi ζ Z η;exact⟨k1,k2,rfl,δ⟩
  .rw[QQ u]at e;exact absurd (congrArg Prod.snd e) u
theorem jR(hf:Ap t)(A:∀r∈c7,Df r)(C:hasB l 2=X->hasB l 1=X/\hasB l 3=X){h:AH}(e:(Ms t s c7 h l).2=0):(DP t s c7=0/\(Br t h).2=0/\JQ s h.bi l=T)/\
  (Br t (Ms t s c7 h l).1.l6).2=0/\Yd t s c7 (Ms t s c7 h l).1=X/\(Ms t s c7 h l).1.l6.d5=E_ (Ms t s c7 h l).1.l6.bi.az.length []/\UI s l h (Ms t s c7 h l).1.l6.bi:=by
 by_cases o:DP t s c7=0
 .by_cases u:(Br t h).2=0
  .by_cases z:JQ s h.bi l=X
   .unfold Ms at e;rw[QQ l',QQ g!,Ne z]at e;cases e
   .have D:Ms t s c7 h l=Ob t s c7 h l:=by
     unfold Ms;rw[QQ l',QQ g!,QQ z]
    rw [D]at e|-;exact⟨⟨o,u,n_⟩,ln hf A C o u (Prod.ext rfl e)⟩
  .unfold Ms at e;rw[QQ l',Ne u]at e;exact absurd e u
 .unfold Ms at e;rw[Ne o]at e;exact absurd e o
theorem XD(u:ST t s):(∀n:Int,0<=n->n<t.az.length->hasB [1,2,3] (AA s.az n)=X)/\∀n:Int,0<=n->n<t.be.length->hasB [1,2,3] (AA s.be n)=X:=by
 have key:∀n:Int,0<=n->n<t.az.length->hasB [1,2,3] (AA s.az n)=X:=λn e o=>by
  have:=(u.node n e o).1;unfold LR at this;simp only[gN,pE]at this;rw[Aj];simp only[w!,E!,or_false];omega
 refine ⟨key,λn e o=>?_⟩;have he:=u.ok.ends e o;rw[<-(u.edge _ e o).1];exact key _ he.1.1 he.1.2
end
end Go.Sf.Sc
namespace Go.Sf
end Go.Sf
namespace Go.Sf.Sc
open Go Go.Sf
section
variable{t:AC}{s:An}{c7:List d3}
end
end Go.Sf.Sc
namespace Go.Sf.Sc
open Go Go.Sf
section
variable{t:AC}{s:An}{c7:List d3}
end
end Go.Sf.Sc
namespace Go.Sf.Sc
open Go Go.Sf
theorem bB:∀(n:Nat)(f:AL)(y:Fp),f.c8.length+n=y.length->f.c8=y.take f.c8.length->(∀i:Int,(f.c8.length:Int)<=i->i<y.length->(0<=AA y i/\AA y i<f.g.be.length)/\P8 {f with c8:=y.take i.toNat} (AA y i)=X)->bk.mk f.ci y∈Dh n f
 |0,f,y,C,he,_=>by
  have e:f.c8=y:=he.trans (by rw[show f.c8.length=y.length by omega,C_]);rw[Dh,e];exact D?.2 rfl
 |n+1,f,y,C,he,h=>by
  obtain ⟨A,u⟩:=h f.c8.length U U;rw[J_,<-he]at u;rw[Dh,G!];refine⟨AA y f.c8.length,By.2 A,?_⟩;rw[Ne u];have e:f.c8++[AA y f.c8.length]=y.take (f.c8.length+1):=by
   have:=CP (l:=y) (i:=(f.c8.length:Int)) U U;rw[show((f.c8.length:Int)+1).toNat=f.c8.length+1 by omega,J_,<-he]at this;exact this.symm
  have el:(f.c8++[AA y f.c8.length]).length=f.c8.length+1:=V
  exact bB n {f with c8:=f.c8++[AA y f.c8.length]} y (by show(f.c8++[_]).length+n=_;omega) (by show f.c8++[_]=y.take (f.c8++[_]).length;rw[el,e]) λi o z=>h i (by have o:((f.c8++[AA y f.c8.length]).length:Int)<=i:=o;omega) z
theorem bG:∀(n:Nat)(f:AL)(y:bk),f.ci.length+n=y.az.length->f.ci=y.az.take f.ci.length->(∀i:Int,(f.ci.length:Int)<=i->i<y.az.length->(0<=AA y.az i/\AA y.az i<f.g.az.length)/\QA {f with ci:=y.az.take i.toNat} (AA y.az i)=X)->y∈Dh f.p.be.length {f with ci:=y.az}->y∈EU n f
 |0,f,y,D,he,_,o=>by
  have e:f.ci=y.az:=he.trans (by rw[show f.ci.length=y.az.length by omega,C_]);rw[<-e]at o;exact o
 |n+1,f,y,D,he,h,o=>by
  obtain ⟨C,z⟩:=h f.ci.length U U;rw[J_,<-he]at z;rw[EU,G!];refine⟨AA y.az f.ci.length,By.2 C,?_⟩;rw[Ne z];have e:f.ci++[AA y.az f.ci.length]=y.az.take (f.ci.length+1):=by
   have:=CP (l:=y.az) (i:=(f.ci.length:Int)) U U;rw[show((f.ci.length:Int)+1).toNat=f.ci.length+1 by omega,J_,<-he]at this;exact this.symm
  have el:(f.ci++[AA y.az f.ci.length]).length=f.ci.length+1:=V
  exact bG n {f with ci:=f.ci++[AA y.az f.ci.length]} y (by show(f.ci++[_]).length+n=_;omega) (by show f.ci++[_]=y.az.take (f.ci++[_]).length;rw[el,e]) (λi u A=>h i (by have u:((f.ci++[AA y.az f.ci.length]).length:Int)<=i:=u;omega) A) o
theorem cD{l:Fp}(o:l.Nodup){i:Int}(z:0<=i)(A:i<l.length):((l.take i.toNat).any λx=>decide (AA l i=x))=T:=by
 rw [x!];intro x C e;obtain⟨j,u,F,rfl⟩:=BC C;rw[aN]at F;have D:AA (l.take i.toNat) j=AA l j:=N4 u U;have:=of_decide_eq_true e;rw[D]at this;have E:=D2 o z A;have G:=D2 o u U;rw[this]at E;omega
variable{p g:bi}
theorem rM{t:AC}{y:bk}(h:(D0 t p g X).2=0)(o:Ef p g y):y∈(D0 t p g X).1:=by
 by_cases z:Dl t p g=0
 .obtain⟨hv,L,O,tp,Q⟩:=JN z;have G:=o.nl;have K:=o.el;have key:y∈EU p.az.length (FF t p g (I8 p) X):=by
   rw [<-bJ];refine bG _ (F0 t p g X) y (by show 0+_=_;omega) rfl (λi e C=>?_) ?_
   .have e:(0:Int)<=i:=e;obtain⟨E,F⟩:=o.node i e U;refine⟨E,?_⟩;have D:(y.az.take i.toNat).length=i.toNat:=i_
    have u:=tp _ (AG (l:=p.az) e U);have hi:((i.toNat:Nat):Int)=i:=U
    unfold QA;show((decide ((-1:Int)<0)||_)&&AA (AA (Ho t) (AA p.az ((y.az.take i.toNat).length:Int))) (AA g.az (AA y.az i))&&!(X&&(y.az.take i.toNat).any λx=>decide (AA y.az i=x)))=X;rw[cD o.nnd e C,D,hi,F];have:AA (AA (Ho t) (AA p.az i)) (AA p.az i)=isB t (AA p.az i) (AA p.az i):=by
     unfold Ho;rw[E5 _ u.1 u.2];unfold Nf;rw[E5 _ u.1 u.2]
    rw [this,Wn u.1];rfl
   .refine bB _ {F0 t p g X with ci:=y.az} y.be (by show 0+p.be.length=_;omega) rfl λi e C=>?_;have e:(0:Int)<=i:=e;obtain⟨E,F⟩:=o.edge i e U;refine⟨E,?_⟩;have D:(y.be.take i.toNat).length=i.toNat:=i_
    have hi:((i.toNat:Nat):Int)=i:=U
    unfold P8 Jk;show((decide ((-1:Int)<0)||_)&&decide (AA g.be (AA y.be i)=⟨(AA p.be ((y.be.take i.toNat).length:Int)).em,AA y.az (AA p.be ((y.be.take i.toNat).length:Int)).fb,AA y.az (AA p.be ((y.be.take i.toNat).length:Int)).To⟩)&&!(X&&(y.be.take i.toNat).any λx=>decide (AA y.be i=x)))=X;rw[cD o.AaW e C,D,hi,F];simp
  unfold D0 at h|-;rw[QQ (by simp[z])]at h|-;by_cases A:5000<(GW t p g (I8 p) X).length
  .rw[Ne A]at h;cases h
  .rw[QQ A];show y∈GW t p g (I8 p) X;unfold GW at A|-;rw[aN]at A;rw[List.take_of_length_le U];exact key
 .unfold D0 at h;rw[Ne z]at h;exact absurd h z
end Go.Sf.Sc
namespace Go.Sf.Sc
open Go Go.Sf
structure He(I J S M:Fp)(gB gh n:Nat)(φ:Int->Int)(P:Int->Prop):Prop where
 il:I.length=gB
 ind:I.Nodup
 ml:M.length=J.length
 mnd:M.Nodup
 AbL:∀k∈M,0<=k/\k<gB
 jnd:J.Nodup
 sel:∀v,v∈S↔((0<=v/\v<n)/\v∉J/\P (DM J M gB v))
 snd:S.Nodup
 inj:∀a b,P a->P b->φ a=φ b->a=b
 low:∀b,P b->0<=φ b/\φ b<gh
 old:∀b:Int,0<=b->b<gB->(P b->AA I b=φ b)/\(¬P b->(gh:Int)<=AA I b)
def yX(I J S M:Fp)(gB:Nat)(φ:Int->Int):Fp:=M.map (AA I)++S.map λv=>φ (DM J M gB v)
section
variable{I J S M:Fp}{gB gx gh n:Nat}{φ:Int->Int}{P:Int->Prop}
variable{v:Int}
theorem RM(hv:v∉J):DM J M gB v=(gB:Int)+((AJ J v).length:Int):=by rw[Nw,QQ hv]
variable{w:Int}
theorem oX(o:0<=v/\v<n)(w0:0<=w/\w<n)(hv:v∉J)(u:w∉J)(e:DM J M gB v=DM J M gB w):v=w:=by
 rw [RM hv,RM u]at e;rw[<-(IP o.1 o.2 hv).1,<-(IP w0.1 w0.2 u).1,show((AJ J v).length:Int)=(AJ J w).length by omega]
theorem He.fresh(h:He I J S M gB gh n φ P)(hv:v∈S):φ (DM J M gB v)∉I:=by
 obtain ⟨_,C,z⟩:=(h.sel v).1 hv;intro A;obtain⟨b,D,u,e⟩:=BC A;have u:b<gB:=by have:=h.il;omega
 obtain ⟨E,F⟩:=h.old b D u;by_cases o:P b
 .have:=h.inj _ _ z o (by rw[<-E o];exact e.symm);rw[RM C]at this;omega
 .have:=F o;have:=h.low _ z;omega
variable{j:Int}
theorem He.AaZ(h:He I J S M gB gh n φ P)(e:0<=j)(o:j<J.length):AA (yX I J S M gB φ) j=AA I (AA M j):=by
 have:=h.ml;unfold yX;rw[Ec e (by rw[a6];omega),DU e U]
theorem He.Abt(h:He I J S M gB gh n φ P)(e:0<=j)(o:j<S.length):AA (yX I J S M gB φ) (J.length+j)=φ (DM J M gB (AA S j)):=by
 have:=h.ml;obtain⟨k,rfl⟩:=J! e;unfold yX;rw[<-h.ml,<-a6 (f:=AA I),Mu,DU e o]
theorem He.len(h:He I J S M gB gh n φ P):(yX I J S M gB φ).length=J.length+S.length:=by
 unfold yX;rw[aE,a6,a6,h.ml]
theorem He.mem(h:He I J S M gB gh n φ P)(e:0<=j)(o:j<J.length):AA (yX I J S M gB φ) j∈I:=by
 have:=h.ml;have u:=h.AbL _ (AG e (show j<M.length by omega));rw[h.AaZ e o];exact AG u.1 (by have:=h.il;omega)
theorem He.nd(h:He I J S M gB gh n φ P):(yX I J S M gB φ).Nodup:=by
 unfold yX;rw[D!];refine⟨?_,?_,λa o b u e=>?_⟩
 .rw[F!,D'];refine List.Pairwise.imp_of_mem (λ{a b}o u z e=>z ?_) h.mnd;have o:=h.AbL a o;have u:=h.AbL b u;have G:=h.il;rw[<-D2 h.ind o.1 U,<-D2 h.ind u.1 U,e]
 .rw[F!,D'];refine List.Pairwise.imp_of_mem (λ{a b}o u z e=>z ?_) h.snd;obtain⟨a1,a2,C⟩:=(h.sel a).1 o;obtain⟨D,E,F⟩:=(h.sel b).1 u;exact oX a1 D a2 E (h.inj _ _ C F e)
 .obtain⟨k,A,rfl⟩:=y_.1 o;obtain⟨v,hv,rfl⟩:=y_.1 u;have A:=h.AbL k A;exact h.fresh hv (e▸AG A.1 (by have:=h.il;omega))
theorem He.fit(h:He I J S M gB gh n φ P):HM I (yX I J S M gB φ) J.length=X:=by
 unfold HM;rw[G?,Bg];intro j u z;rw[h.len]at z;by_cases A:j<J.length
 .rw[Aj.2 (h.mem u A),decide_eq_false U];rfl
 .have e:=h.Abt (j:=j-J.length) U U;rw[show(J.length:Int)+(j-J.length)=j by omega]at e;have o:=h.fresh (AG (l:=S) (i:=j-J.length) U U);rw[<-e,<-Aj,H?]at o;rw[o,decide_eq_true U];rfl
theorem He.take(h:He I J S M gB gh n φ P):((yX I J S M gB φ).take J.length).map (A8 I)=M:=by
 unfold yX;rw[<-h.ml,<-a6 (f:=AA I),List.take_left,List.map_map];refine(B! λk e=>?_).trans (List.map_id M);have e:=h.AbL k e;exact D2 h.ind e.1 (by have:=h.il;omega)
theorem He.pat(h:He I J S M gB gh n φ P){u:Int}(D:u∈J++S)(z:P (DM J M gB u)):AA (yX I J S M gB φ) (A8 (J++S) u)=φ (DM J M gB u):=by
 by_cases o:u∈J
 .obtain⟨a,b,_,_⟩:=Bn o;have A:=h.AbL _ (AG a (show _<(M.length:Int)by have:=h.ml;omega));rw[Rt o,h.AaZ a b];have e:DM J M gB u=AA M (A8 J u):=by rw[Nw,Ne o]
  rw [e]at z|-;exact(h.old _ A.1 A.2).1 z
 .have C:=(x?.1 D).resolve_left o;obtain⟨a,b,c,_⟩:=Bn C;rw[MQ o C,h.Abt a b,c]
variable{b:Int}
theorem He.next(h:He I J S M gB gh n φ P)(A:0<=b)(O:b<gB+(AJ J n).length)(o:P b):AA (I++(AJ J n).map (DM (J++S) (yX I J S M gB φ) gx)) b=φ b:=by
 have E:=h.il;by_cases F:b<gB
 .rw[Ec A U];exact(h.old b A F).1 o
 .have hv:=AG (l:=AJ J n) (i:=b-gB) U U;obtain⟨u,z⟩:=GF.1 hv;have e:DM J M gB (AA (AJ J n) (b-gB))=b:=by
   obtain ⟨K,L⟩:=IP u.1 u.2 z;rw[RM z];have nd:(AJ J n).Nodup:=(W5 J n).imp (λh=>U);have G:=D2 nd (i:=((AJ J (AA (AJ J n) (b-gB))).length:Int)) U L;have Q:=D2 nd (i:=b-gB) U U;rw[K]at G;omega
  have C:AA (AJ J n) (b-gB)∈S:=(h.sel _).2 ⟨u,z,by rw[e];exact o⟩;have D:=h.pat (B' J C) (by rw[e];exact o);rw[e]at D;rw[RD U,E,DU U U,Nw,Ne (B' J C),D]
variable{k:Int}
theorem He.made(h:He I J S M gB gh n φ P)(D:(gx:Int)<=k)(E:k<gx+(AJ (J++S) n).length):k∈I++(AJ J n).map (DM (J++S) (yX I J S M gB φ) gx):=by
 have hv:=AG (l:=AJ (J++S) n) (i:=k-gx) U U;obtain⟨e,o⟩:=GF.1 hv;refine B' _ (y_.2 ⟨AA (AJ (J++S) n) (k-gx),GF.2 ⟨e,λu=>o (B_ _ u)⟩,?_⟩);obtain⟨A,C⟩:=IP e.1 e.2 o;rw[Nw,QQ o];have nd:(AJ (J++S) n).Nodup:=(W5 (J++S) n).imp (λh=>U);have z:=D2 nd (i:=((AJ (J++S) (AA (AJ (J++S) n) (k-gx))).length:Int)) U C;have F:=D2 nd (i:=k-gx) U U;rw[A]at z;omega
end
end Go.Sf.Sc
namespace Go.Sf.Sc
open Go Go.Sf
section
variable{t:AC}{s:An}{r:d3}{l:Fp}{c7:List d3}
variable{p g:bi}
theorem mR{m:bk}(h:Jl t p g m=0)(i:Int):Ed p g m i=none\/¬(0<=i/\i<m.be.length):=by
 unfold Jl at h;split at h
 .cases h
 have e:fst (HV t p g m) 0 m.az.length=none:=by
  grind [DW,HV]
 rw [e]at h;have he:=P4 (λi=>by
  grind [Ed]) h
 by_cases k:0<=i/\i<m.be.length
 .exact .inl (he i k.1 k.2)
 .exact .inr k
theorem nR(G:B8 t s r=0){M:bk}(h:Ei t r.d7.bi g M r.fd=0):Ef r.d7.bi g M:=by
 obtain ⟨K,L,_⟩:=QP G;obtain⟨E,F,ok⟩:=Rf h;obtain⟨hv,_,_,_,O⟩:=JN E;have hi:G2 M=X:=by
  cases e:G2 M with
  |true=>rfl|false=>
   unfold Ei at h;rw[QQ (by simp[E]),QQ (by simp[F]),K.inj,e]at h;cases h
 unfold G2 at hi;rw[gN]at hi;have nl:=ok.t2;have el:=ok.x4;refine⟨nl,el,λi o A=>?_,λi o A=>?_,IG.1 hi.1,IG.1 hi.2⟩
 .obtain⟨u,z⟩:=ok.node i o U;have D:=O _ (AG u.1 u.2);exact⟨u,fh (Cg hv).par L D.1 D.2 (AG o A) z⟩
 .have he:=(mR F i).resolve_right (λk=>k ⟨o,U⟩);unfold Ed at he;split at he
  .cases he
  split at he
  .cases he
  split at he
  .cases he
  rename_i u z C;refine⟨U,?_⟩;rcases hE:AA g.be (AA M.be i)with⟨a,b,c⟩;rw[hE]at z C;dsimp only at z C;congr 1<;>omega
theorem Wq(hf:Ap t)(C:∀r∈c7,Df r)(D:∀r∈c7,B8 t s r=0){m:C8}{B u:AH}(e:EB t c7 m (zH,B)=.inl (zH,u)):
  (0<=m.d3/\m.d3<c7.length)/\Ef (AA c7 m.d3).d7.bi B.bi m.gE.bk/\u.bi=Cr (AA c7 m.d3) B.bi m.gE.bk.az/\(Br t u).2=0:=by
 unfold EB at e;split at e
 .cases e
 rename_i K;have z:=AG (l:=c7) (i:=m.d3) U U;have o:=D _ z;split at e
 .cases e
 rename_i E;obtain⟨sk,F⟩:=bM hf (C _ z) (RX o) (I!.1 E);dsimp only at e;rw[F]at e;injection e with e;injection e with _ e;subst e;obtain⟨_,ho,l1,_⟩:=C4 o;obtain⟨G,_⟩:=QP o;have A:=nR o sk.chk;refine⟨U,A,ZE (t:=t) G ho l1 sk.f.hh.g A,?_⟩;show(Br t (SU t _ _ _)).2=0;rw[V6 sk]
theorem Wp{m:C8}{B:AH}{w:AH×AH}(k:EB t c7 m (zH,B)=.inl w):w=(zH,w.2):=by
 unfold EB at k;split at k
 .cases k
 split at k
 .cases k
 injection k with k;subst k;rfl
theorem fG(hf:Ap t)(o:∀r∈c7,Df r)(u:∀r∈c7,B8 t s r=0):∀(ms:List C8)(B H:AH),Cw (EB t c7) ms (zH,B)=.inl (zH,H)->∃N E,H.bi=⟨B.bi.az++N,B.bi.be++E⟩
 |[],B,H,e=>by
  cases e;exact⟨[],[],V⟩
 |m::ms,B,H,e=>by
  rw [Cw]at e;cases k:EB t c7 m (zH,B)with
  |inr r=>rw[k]at e;cases e
  |inl v=>
   rw [k]at e;have hv:=Wp k;rw[hv]at k e;obtain⟨N,E,z⟩:=fG hf o u ms v.2 H e;obtain⟨_,_,A,_⟩:=Wq hf o u k;exact⟨_,_,by rw[z,A];unfold Cr;dsimp only;rw[ae,ae]⟩
end
structure UJ(s:An)(l:Fp)(h H:bi)(φ ψ:Int->Int):Prop where
 node:∀b:Int,(0<=b/\b<H.az.length)->hasB l (AA s.az (AA H.az b))=X->(0<=φ b/\φ b<h.az.length)/\AA h.az (φ b)=AA H.az b
 edge:∀b:Int,(0<=b/\b<H.be.length)->hasB l (AA s.be (AA H.be b).em)=X->(0<=ψ b/\ψ b<h.be.length)/\AA h.be (ψ b)=⟨(AA H.be b).em,φ (AA H.be b).fb,φ (AA H.be b).To⟩
 ends:∀b:Int,(0≤b/\b<H.be.length) → hasB l (AA s.be (AA H.be b).em)=X → hasB l (AA s.az (AA H.az (AA H.be b).fb))=X/\hasB l (AA s.az (AA H.az (AA H.be b).To))=X
 ninj:∀a b:Int,((0<=a/\a<H.az.length)/\hasB l (AA s.az (AA H.az a))=X)->((0<=b/\b<H.az.length)/\hasB l (AA s.az (AA H.az b))=X)->φ a=φ b->a=b
 einj:∀a b:Int,((0<=a/\a<H.be.length)/\hasB l (AA s.be (AA H.be a).em)=X)->((0<=b/\b<H.be.length)/\hasB l (AA s.be (AA H.be b).em)=X)->ψ a=ψ b->a=b
 nsur:∀k:Int,0<=k->k<h.az.length->∃b:Int,((0<=b/\b<H.az.length)/\hasB l (AA s.az (AA H.az b))=X)/\φ b=k
 esur:∀k:Int,0<=k->k<h.be.length->∃b:Int,((0<=b/\b<H.be.length)/\hasB l (AA s.be (AA H.be b).em)=X)/\ψ b=k
structure UK(s:An)(l:Fp)(h:AH)(φ ψ:Int->Int)(B:bi)(x:AI):Prop where
 st:IC x
 m:Ef B x.ea x.l3
 oth:UI s l h x.ea
 node:∀b:Int,0<=b->b<B.az.length->hasB l (AA s.az (AA B.az b))=X->AA x.l3.az b=φ b
 edge:∀b:Int,0<=b->b<B.be.length->hasB l (AA s.be (AA B.be b).em)=X->AA x.l3.be b=ψ b
 nnew:∀k:Int,(h.bi.az.length:Int)<=k->k<x.ea.az.length->k∈x.l3.az
 enew:∀k:Int,(h.bi.be.length:Int)<=k->k<x.ea.be.length->k∈x.l3.be
end Go.Sf.Sc
namespace Go.Sf.Sc
open Go Go.Sf
def PN(s:An)(l:Fp)(H:bi)(b:Int):Prop:=(0<=b/\b<H.az.length)/\hasB l (AA s.az (AA H.az b))=X
def PE(s:An)(l:Fp)(H:bi)(b:Int):Prop:=(0<=b/\b<H.be.length)/\hasB l (AA s.be (AA H.be b).em)=X
def QT(g H:bi):Prop:=∃N E,H=⟨g.az++N,g.be++E⟩
theorem QT.len{g H:bi}(h:QT g H):g.az.length<=H.az.length/\g.be.length<=H.be.length:=by
 obtain ⟨N,E,rfl⟩:=h;simp
variable{b:Int}
theorem QT.node{g H:bi}(h:QT g H)(e:0<=b)(o:b<g.az.length):AA H.az b=AA g.az b:=by
 obtain ⟨N,E,rfl⟩:=h;exact Ec e o
theorem QT.edge{g H:bi}(h:QT g H)(e:0<=b)(o:b<g.be.length):AA H.be b=AA g.be b:=by
 obtain ⟨N,E,rfl⟩:=h;exact Ec e o
variable{g:bi}
theorem UI.pre{s:An}{l:Fp}{h:AH}(o:UI s l h g):QT h.bi g:=by
 obtain ⟨N,E,e,_⟩:=o;exact⟨N,E,e⟩
theorem XA(q:Int->Bool)(n:Nat):(KW q n).Nodup:=(Tv n).filter _
section
variable{t:AC}{s:An}{r:d3}{l:Fp}{h:AH}{φ ψ:Int->Int}{B H:bi}{x:AI}{M:bk}{i:Int}
variable{v:Int}
theorem QC(u:B8 t s r=0)(z:Ef r.d7.bi B M)(A:0<=v)(C:v<r.ca.bi.az.length):(0<=DM r.ec.az M.az B.az.length v/\DM r.ec.az M.az B.az.length v<(Cr r B M.az).az.length)/\AA (Cr r B M.az).az (DM r.ec.az M.az B.az.length v)=AA r.ca.bi.az v:=by
 obtain ⟨_,ho,l1,_⟩:=C4 u;have D:(Cr r B M.az).az.length=B.az.length+(AJ r.ec.az r.ca.bi.az.length).length:=by simp[Cr]
 rw [Nw,D];by_cases hv:v∈r.ec.az
 .obtain⟨a,b,c,_⟩:=Bn hv;obtain⟨e,o⟩:=z.node _ a U;rw[Ne hv];refine⟨U,?_⟩;rw[show AA (Cr r B M.az).az _=_ from Ec e.1 e.2,o,<-(Zf u a b).1,c]
 .obtain⟨e,o⟩:=IP A C hv;rw[QQ hv];refine⟨U,?_⟩;rw[show AA (Cr r B M.az).az _=_ from Mu,DU U o,e]
variable{w:Int}
theorem Uu(w0:0<=w)(o:w<r.ca.bi.be.length)(e:w∉r.ec.be):(0<=DM r.ec.be M.be B.be.length w/\DM r.ec.be M.be B.be.length w<(Cr r B M.az).be.length)/\AA (Cr r B M.az).be (DM r.ec.be M.be B.be.length w)=MK r r.ec.az M.az B.az.length w:=by
 have u:(Cr r B M.az).be.length=B.be.length+(AJ r.ec.be r.ca.bi.be.length).length:=by simp[Cr]
 obtain ⟨z,A⟩:=IP w0 o e;rw[RM e,u];refine⟨U,?_⟩;rw[show AA (Cr r B M.az).be _=_ from Mu,DU U A,z]
theorem Wi(G:B8 t s r=0)(u:Ef r.d7.bi B M)(z:UK s l h φ ψ B x)(Q:UJ s l h.bi H φ ψ)(F:QT (Cr r B M.az) H)(ho:JQ s h.bi l=T):
  He x.l3.az r.ec.az (Di s r l) M.az B.az.length h.bi.az.length r.ca.bi.az.length φ (PN s l H):=by
 obtain ⟨_,hO,l1,_⟩:=C4 G;have ζ:(Cr r B M.az).az.length=B.az.length+(AJ r.ec.az r.ca.bi.az.length).length:=by simp[Cr]
 have δ:=F.len.1;refine⟨z.m.nl,z.m.nnd,u.nl.trans l1.symm,u.nnd,λk ε=>?_,hO.inj.1,λv=>?_,XA _ _,λa b=>Q.ninj a b,λb R=>(Q.node b R.1 R.2).1,λb A K=>?_⟩
 .obtain⟨j,η,Z,rfl⟩:=BC ε;exact(u.node j η (by have:=u.nl;omega)).1
 .unfold Di;rw[Cv];unfold PI PN;rw[gN,G?,<-H?,Aj];constructor
  .rintro⟨⟨D,E⟩,hv,O⟩;obtain⟨o,C⟩:=QC G u D E;refine⟨⟨D,E⟩,hv,⟨o.1,U⟩,?_⟩;rw[F.node o.1 o.2,C];exact O
  .rintro⟨⟨D,E⟩,hv,_,O⟩;obtain⟨o,C⟩:=QC G u D E;refine⟨⟨D,E⟩,hv,?_⟩
   rwa [F.node o.1 o.2,C]at O
 .have e:AA H.az b=AA B.az b:=by
   rw [F.node A U];exact Ec A K
  refine ⟨λL=>?_,λL=>?_⟩
  .refine z.node b A K ?_;rw[<-e];exact L.2
  .obtain⟨o,C⟩:=z.m.node b A K;refine I? λκ=>L ⟨⟨A,U⟩,?_⟩;unfold JQ at ho;rw[H_,x!,x!]at ho;have:=ho.1 _ (AG o.1 (show AA x.l3.az b<h.bi.az.length by omega));rw[<-z.oth.pre.node o.1 U,C]at this;rw[e];simpa using this
theorem Wh(R:B8 t s r=0)(E:Ef r.d7.bi B M)(u:UK s l h φ ψ B x)(O:UJ s l h.bi H φ ψ)(F:QT (Cr r B M.az) H)(ho:JQ s h.bi l=T):
  He x.l3.be r.ec.be (Ea s r l) M.be B.be.length h.bi.be.length r.ca.bi.be.length ψ (PE s l H):=by
 obtain ⟨_,hO,_,l2⟩:=C4 R;have ζ:(Cr r B M.az).be.length=B.be.length+(AJ r.ec.be r.ca.bi.be.length).length:=by simp[Cr]
 have δ:=F.len.2;refine⟨u.m.el,u.m.AaW,E.el.trans l2.symm,E.AaW,λk ε=>?_,hO.inj.2,λv=>?_,XA _ _,λa b=>O.einj a b,λb Q=>(O.edge b Q.1 Q.2).1,λb z G=>?_⟩
 .obtain⟨j,η,Z,rfl⟩:=BC ε;exact(E.edge j η (by have:=E.el;omega)).1
 .unfold Ea;rw[Cv];unfold PH PE;rw[gN,G?,<-H?,Aj];constructor
  .rintro⟨⟨C,D⟩,hv,L⟩;obtain⟨o,A⟩:=Uu (B:=B) (M:=M) C D hv;refine⟨⟨C,D⟩,hv,⟨o.1,U⟩,?_⟩;rw[F.edge o.1 o.2,A];exact L
  .rintro⟨⟨C,D⟩,hv,_,L⟩;obtain⟨o,A⟩:=Uu (B:=B) (M:=M) C D hv;refine⟨⟨C,D⟩,hv,?_⟩
   rwa [F.edge o.1 o.2,A]at L
 .have e:AA H.be b=AA B.be b:=by
   rw [F.edge z U];exact Ec z G
  refine ⟨λK=>?_,λK=>?_⟩
  .refine u.edge b z G ?_;rw[<-e];exact K.2
  .obtain⟨o,A⟩:=u.m.edge b z G;refine I? λκ=>K ⟨⟨z,U⟩,?_⟩;unfold JQ at ho;rw[H_,x!,x!]at ho;have:=ho.2 _ (AG o.1 (show AA x.l3.be b<h.bi.be.length by omega));rw[<-u.oth.pre.edge o.1 U,A]at this;rw[e];simpa using this
def yS(s:An)(l:Fp)(r:d3)(B:bi)(x:AI)(M:bk)(φ ψ:Int->Int):bk:=
 ⟨yX x.l3.az r.ec.az (Di s r l) M.az B.az.length φ,yX x.l3.be r.ec.be (Ea s r l) M.be B.be.length ψ⟩
theorem YR(F:B8 t s r=0)(he:MD s r l)(hg:BV B)(A:Ef r.d7.bi B M)(G:UK s l h φ ψ B x)(K:UJ s l h.bi H φ ψ)(L:QT (Cr r B M.az) H)(ho:JQ s h.bi l=T):Ef (Ba s r l) x.ea (yS s l r B x M φ ψ):=by
 obtain ⟨_,hO,l1,l2⟩:=C4 F;have gn:=Wi F A G K L ho;have ge:=Wh F A G K L ho;have ml:(Ba s r l).az.length=r.ec.az.length+(Di s r l).length:=by simp[Ba,l1]
 have me:(Ba s r l).be.length=r.ec.be.length+(Ea s r l).length:=by simp[Ba,l2]
 have e:=G.oth.pre;have hle:=e.len;refine⟨gn.len.trans ml.symm,ge.len.trans me.symm,λi u i1=>?_,λi u i1=>?_,gn.nd,ge.nd⟩
 .by_cases hi:i<r.ec.az.length
  .obtain⟨o,z⟩:=A.node i u U;obtain⟨Q,R⟩:=G.m.node _ o.1 o.2;rw[show AA (yS s l r B x M φ ψ).az i=_ from gn.AaZ u hi,R,z,Uh u U];exact⟨Q,rfl⟩
  .obtain⟨j,ε⟩:∃j:Int,i=r.ec.az.length+j:=⟨i-r.ec.az.length,U⟩;have C:j<(Di s r l).length:=U
   obtain ⟨D,ζ,E⟩:=(gn.sel _).1 (AG (show 0<=j by omega) C);obtain⟨o,z⟩:=K.node _ E.1 E.2;obtain⟨O,κ⟩:=QC F A D.1 D.2;rw[ε,show AA (yS s l r B x M φ ψ).az _=_ from gn.Abt U C,e.node o.1 o.2,z,L.node O.1 O.2,κ,l1,Xz U C];exact⟨U,rfl⟩
 .by_cases hi:i<r.ec.be.length
  .obtain⟨o,z⟩:=A.edge i u U;obtain⟨Q,R⟩:=G.m.edge _ o.1 o.2;have hf:=(hO.left.fit _ (AG u (show i<(r.d7.bi.be.length:Int)by omega))).2;rw[show AA (yS s l r B x M φ ψ).be i=_ from ge.AaZ u hi,R,z,Xy u U,show AA (yS s l r B x M φ ψ).az _=_ from gn.AaZ hf.1.1 U,show AA (yS s l r B x M φ ψ).az _=_ from gn.AaZ hf.2.1 U];exact⟨Q,rfl⟩
  .obtain⟨j,ε⟩:∃j:Int,i=r.ec.be.length+j:=⟨i-r.ec.be.length,U⟩;have C:j<(Ea s r l).length:=U
   have η:=AG (l:=Ea s r l) (show 0<=j by omega) C;obtain⟨D,ζ,E⟩:=(ge.sel _).1 η;obtain⟨o,z⟩:=K.edge _ E.1 E.2;obtain⟨δ,Z⟩:=K.ends _ E.1 E.2;obtain⟨O,κ⟩:=Uu (B:=B) (M:=M) D.1 D.2 ζ;obtain⟨e1,e2⟩:=he _ η;have hf:=(hO.right.fit _ (AG D.1 D.2)).2;obtain⟨a1,_⟩:=QC F A hf.1.1 hf.1.2;obtain⟨b1,_⟩:=QC F A hf.2.1 hf.2.2;have eH:=(L.edge O.1 O.2).trans κ;rw[eH]at z δ Z;have hl:=L.len.1;rw[ε,show AA (yS s l r B x M φ ψ).be _=_ from ge.Abt U C,e.edge o.1 o.2,z,l2,WE U C];refine⟨U,?_⟩;unfold Vg MK At;dsimp only;rw[show AA (yS s l r B x M φ ψ).az _=_ from gn.pat e1 ⟨⟨a1.1,U⟩,δ⟩,show AA (yS s l r B x M φ ψ).az _=_ from gn.pat e2 ⟨⟨b1.1,U⟩,Z⟩]
variable{k:Int}
theorem Tm(z:B8 t s r=0)(he:MD s r l)(L:BV B)(C:Ef r.d7.bi B M)(e:UK s l h φ ψ B x)(D:UJ s l h.bi H φ ψ)(u:QT (Cr r B M.az) H)(ho:JQ s h.bi l=T)
  (R:JM x.l3.az r.ec.az (At s r l) (yS s l r B x M φ ψ).az x.ea.az.length)(ε:JM x.l3.be r.ec.be (Bu s r l) (yS s l r B x M φ ψ).be x.ea.be.length)(O:IC (CN x k s r l (yS s l r B x M φ ψ))):
  UK s l h φ ψ (Cr r B M.az) (CN x k s r l (yS s l r B x M φ ψ)):=by
 obtain ⟨_,hO,l1,l2⟩:=C4 z;have gn:=Wi z C e D u ho;have ge:=Wh z C e D u ho;have κ:=YR z he L C e D u ho;have η:HM x.l3.az (yS s l r B x M φ ψ).az r.d7.bi.az.length=X:=by rw[<-l1];exact gn.fit
 have ζ:(KL x r (yS s l r B x M φ ψ)).az=M.az:=by
  show (((yS s l r B x M φ ψ).az.take r.d7.bi.az.length).map (A8 x.l3.az))=_;rw[<-l1];exact gn.take
 have Q:=Z8 (i:=k) z he e.st L e.m κ R ε η O;rw[ζ]at Q;have pn:(Cr r B M.az).az.length=B.az.length+(AJ r.ec.az r.ca.bi.az.length).length:=by simp[Cr]
 have pe:(Cr r B M.az).be.length=B.be.length+(AJ r.ec.be r.ca.bi.be.length).length:=by simp[Cr]
 have hl:=u.len;have δ:(CN x k s r l (yS s l r B x M φ ψ)).ea.az.length=x.ea.az.length+(AJ (At s r l) r.ca.bi.az.length).length:=by simp[CN]
 have Z:(CN x k s r l (yS s l r B x M φ ψ)).ea.be.length=x.ea.be.length+(AJ (Bu s r l) r.ca.bi.be.length).length:=by simp[CN]
 refine ⟨O,Q,cc e.oth,λb o E F=>?_,λb o E F=>?_,λj G A=>?_,λj G A=>?_⟩
 .exact gn.next o U ⟨⟨o,U⟩,by rw[u.node o E];exact F⟩
 .exact ge.next o U ⟨⟨o,U⟩,by rw[u.edge o E];exact F⟩
 .by_cases K:j<x.ea.az.length
  .exact B_ _ (e.nnew j G K)
  .exact gn.made U (by rw[δ]at A;exact_mod_cast A)
 .by_cases K:j<x.ea.be.length
  .exact B_ _ (e.enew j G K)
  .exact ge.made U (by rw[Z]at A;exact_mod_cast A)
end
end Go.Sf.Sc
namespace Go.Sf
variable{α σ ρ:Type}
theorem UW{g:α->σ->σ ⊕ ρ}:∀{l:List α}{s s':σ},Cw g l s=.inl s'->∀x∈l,∃a b,g x a=.inl b
 |[],_,_,_,x,o=>by cases o
 |y::l,s,s',h,x,o=>by
  rw [Cw]at h;cases e:g y s with
  |inr r=>rw[e]at h;cases h
  |inl v=>
   rw [e]at h;rcases w!.1 o with rfl|o
   .exact⟨s,v,e⟩
   .exact UW (l:=l) h x o
end Go.Sf
namespace Go.Sf.Sc
open Go Go.Sf
section
variable{t:AC}{s:An}{c7:List d3}{l:Fp}
def ay(s:An)(l:Fp)(c7:List d3)(m:C8):Prop:=((Di s (AA c7 m.d3) l).length:Int)+((Ea s (AA c7 m.d3) l).length:Int)≠0
theorem s8{h H:AH}{φ ψ:Int->Int}{x:AI}(E:UJ s l h.bi H.bi φ ψ)(e:UK s l h φ ψ H.bi x):O9 x=X:=by
 unfold O9 S5;rw[gN,G_,G_];refine⟨λk u=>?_,λk u=>?_⟩
 .obtain⟨z,A⟩:=By.1 u;rw[Aj];by_cases hh:k<h.bi.az.length
  .obtain⟨b,⟨⟨o,C⟩,D⟩,rfl⟩:=E.nsur k z hh;rw[<-e.node b o C D];exact AG o (by have:=e.m.nl;omega)
  .exact e.nnew k U A
 .obtain⟨z,A⟩:=By.1 u;rw[Aj];by_cases hh:k<h.bi.be.length
  .obtain⟨b,⟨⟨o,C⟩,D⟩,rfl⟩:=E.esur k z hh;rw[<-e.edge b o C D];exact AG o (by have:=e.m.el;omega)
  .exact e.enew k U A
theorem dn(hf:Ap t)(R:∀r∈c7,Df r)(L:∀r∈c7,B8 t s r=0)(he:∀r∈c7,MD s r l){h H:AH}{φ ψ:Int->Int}(z:UJ s l h.bi H.bi φ ψ)(ho:JQ s h.bi l=T):
  ∀(ms:List C8)(B:AH)(x:AI)(n:Nat)(v ε:Int),Cw (EB t c7) ms (zH,B)=.inl (zH,H)->(∀m∈ms,ay s l c7 m)->(Br t B).2=0->UK s l h φ ψ B.bi x->x.og.length+n=31->x.og.length+ms.length<=30->Hq t s c7 l n x v≠.inl ε
 |[],B,x,n,v,ε,e,_,_,u,hn,C=>by
  obtain ⟨n,rfl⟩:∃k,n=k+1:=⟨n-1,by simp at C;omega⟩;cases e;intro hv;rw[Hq]at hv;split at hv
  .cases hv
  rw [Ne (s8 z u)]at hv;cases hv
 |m::ms,B,x,n,v,ε,e,K,hB,u,hn,C=>by
  rw [a5]at C;obtain⟨n,rfl⟩:∃k,n=k+1:=⟨n-1,U⟩;intro hv;rw[Hq]at hv;split at hv
  .cases hv
  split at hv
  .cases hv
  split at hv
  .cases hv
  rw [Cw]at e;cases k:EB t c7 m (zH,B)with
  |inr r=>rw[k]at e;cases e
  |inl w=>
   rw [k]at e;have hw:=Wp k;rw[hw]at k e;obtain⟨hi,Q,δ,hV⟩:=Wq hf R L k;have D:=AG hi.1 hi.2;have o:=L _ D;have E:=he _ D;obtain⟨_,hO⟩:=FU hf hB;have O:QT (Cr (AA c7 m.d3) B.bi m.gE.bk.az) H.bi:=by
    rw [<-δ];exact fG hf R L ms w.2 H e
   obtain ⟨a,b,G⟩:=UW hv m.d3 (By.2 hi);unfold RS at G;rw[QQ (K m (.head _))]at G;split at G
   .cases G
   rename_i h5;have hC:=YR o E hO.g Q u z O ho;have ζ:=rM (I!.1 h5) hC;obtain⟨_,_,Z,y4⟩:=Td (l:=l) o u.st ζ;obtain⟨j,j0,j1,ej⟩:=BC ζ;obtain⟨a2,b2,A⟩:=UW G j (By.2 ⟨j0,j1⟩);rw[ej]at A;obtain⟨_,_,l1,l2⟩:=C4 o;have κ:HM x.l3.az (yS s l (AA c7 m.d3) B.bi x m.gE.bk φ ψ).az (AA c7 m.d3).d7.bi.az.length=X:=by
    rw [<-l1];exact(Wi o Q u z O ho).fit
   have η:HM x.l3.be (yS s l (AA c7 m.d3) B.bi x m.gE.bk φ ψ).be (AA c7 m.d3).d7.bi.be.length=X:=by
    rw [<-l2];exact(Wh o Q u z O ho).fit
   unfold Tt at A;rw[κ,η,QQ a_]at A;split at A
   .cases A
   have hb:=XX (rule:=m.d3) u.st U (Z κ) (y4 η) U U;have F:=Tm (k:=m.d3) o E hO.g Q u z O ho (Z κ) (y4 η) hb;rw[<-δ]at F;exact dn hf R L he z ho ms w.2 _ n a2 b2 e (λm C=>K m (w? _ C)) hV F n? n? A
theorem s7{h:AH}(z:BV h.bi){φ ψ:Int->Int}:UK s l h φ ψ zH.bi (GT h):=
 ⟨UN z,⟨rfl,rfl,λi o e=>k!,λi o e=>k!,E',E'⟩,⟨[],[],n!,V,V⟩,λi o e=>k!,λi o e=>k!,λk A u=>by simp[GT]at u;omega,λk A u=>by simp[GT]at u;omega⟩
end
end Go.Sf.Sc
namespace Go.Sf.Sc
open Go Go.Sf
def VZ(t:AC)(g:bi):Prop:=BV g/\CQ t g=X
section
variable{t:AC}{s:An}{c7:List d3}{l:Fp}{r:d3}
variable{g:bi}
theorem dm(o:∀n∈g.az,n<t.az.length)(u:∀e∈g.be,e.em<t.be.length):CQ t g=X:=by
 unfold CQ;rw[gN,G?,G?,x!,x!];exact⟨λn z=>by have:=o n z;rw[pE];omega,λe he=>by have:=u e he;rw[pE];omega⟩
theorem mw(A:B8 t s r=0):(At s r l).length<=r.ca.bi.az.length/\(Bu s r l).length<=r.ca.bi.be.length:=by
 obtain ⟨_,ho,_,_⟩:=C4 A;have key:∀{J:Fp}{q:Int->Bool}{n:Nat},J.Nodup->(∀v∈J,0<=v/\v<n)->(∀v,q v=X->v∉J)->(J++KW q n).length<=n:=λ{J q n}C D E=>by
  refine Li ?_ λv hv=>?_
  .rw[D!];refine⟨C,XA _ _,λa F b G e=>?_⟩;exact E b (Cv.1 G).2 (e▸F)
  .rcases x?.1 hv with h|h
   .exact D v h
   .exact(Cv.1 h).1
 constructor
 .refine key ho.inj.1 (λv hv=>?_) λv hv o=>?_
  .obtain⟨j,u,z,rfl⟩:=BC hv;exact(ho.mor.node j u z).1
  .unfold PI at hv;rw[Aj.2 o]at hv;cases hv
 .refine key ho.inj.2 (λv hv=>?_) λv hv o=>?_
  .obtain⟨j,u,z,rfl⟩:=BC hv;exact(ho.mor.edge j u z).1
  .unfold PH at hv;rw[Aj.2 o]at hv;cases hv
theorem ky(z:B8 t s r=0)(he:MD s r l):VZ t (Ba s r l):=by
 obtain ⟨_,ho,l1,l2⟩:=C4 z;obtain⟨G,K⟩:=mw (l:=l) z;have ml:(Ba s r l).az.length=(At s r l).length:=by simp[Ba,At,l1]
 have D:(Ba s r l).be.length=(Bu s r l).length:=by simp[Ba,Bu,l2]
 have E:=ho.right.ci;have F:=ho.right.c8;have A:=Cu ho.left ho.ltyped;have C:=Cu ho.right ho.Aal;have hi:∀v∈At s r l,0<=A8 (At s r l) v/\A8 (At s r l) v<(Ba s r l).az.length:=λv hv=>by
  obtain ⟨a,b,_,_⟩:=Bn hv;exact⟨a,U⟩
 refine ⟨⟨U,U,λn o=>?_,λe u=>?_⟩,dm (λn o=>?_) λe u=>?_⟩
 .rcases x?.1 o with o|o
  .exact ho.left.kind n o
  .obtain⟨v,hv,rfl⟩:=y_.1 o;exact ho.right.kind _ (AG (Cv.1 hv).1.1 (Cv.1 hv).1.2)
 .rcases x?.1 u with u|u
  .have hf:=ho.left.fit e u;have:(Ba s r l).az.length=r.d7.bi.az.length+(Di s r l).length:=by simp[Ba]
   omega
  .obtain⟨v,hv,rfl⟩:=y_.1 u;exact⟨(ho.right.fit _ (AG (Cv.1 hv).1.1 (Cv.1 hv).1.2)).1,hi _ (he v hv).1,hi _ (he v hv).2⟩
 .rcases x?.1 o with o|o
  .exact(A.1 n o).2
  .obtain⟨v,hv,rfl⟩:=y_.1 o;exact(C.1 _ (AG (Cv.1 hv).1.1 (Cv.1 hv).1.2)).2
 .rcases x?.1 u with u|u
  .exact(A.2 e u).2
  .obtain⟨v,hv,rfl⟩:=y_.1 u;exact(C.2 _ (AG (Cv.1 hv).1.1 (Cv.1 hv).1.2)).2
theorem nP{x:AI}{i:Int}{y:bk}(G:B8 t s r=0)(z:VZ t x.ea)(A:JM x.l3.az r.ec.az (At s r l) y.az x.ea.az.length)(C:IC (CN x i s r l y)):VZ t (CN x i s r l y).ea:=by
 obtain ⟨_,ho,_,_⟩:=C4 G;have D:=Cu z.1 z.2;have E:=Cu ho.right ho.Aal;have K:(CN x i s r l y).ea.az.length=x.ea.az.length+(AJ (At s r l) r.ca.bi.az.length).length:=by simp[CN]
 have F:∀v:Int,(0<=v/\v<r.ca.bi.az.length)->0<=DM (At s r l) y.az x.ea.az.length v/\DM (At s r l) y.az x.ea.az.length v<(CN x i s r l y).ea.az.length:=λv hv=>by
  rw [Nw];by_cases o:v∈At s r l
  .obtain⟨a,b,_,_⟩:=Bn o;have:=A.yr _ (AG a (show _<(y.az.length:Int)by have:=A.AbH;omega));rw[Ne o];omega
  .obtain⟨_,L⟩:=IP hv.1 hv.2 o;rw[QQ o];omega
 refine ⟨⟨C.t2,C.x4,λn u=>?_,λe o=>?_⟩,dm (λn u=>?_) λe o=>?_⟩
 .rcases x?.1 u with h|h
  .exact z.1.kind n h
  .obtain⟨v,hv,rfl⟩:=y_.1 h;exact ho.right.kind _ (AG (CL hv).1 (CL hv).2)
 .rcases x?.1 o with h|h
  .have hf:=z.1.fit e h;omega
  .obtain⟨v,hv,rfl⟩:=y_.1 h;have hf:=ho.right.fit _ (AG (CL hv).1 (CL hv).2);exact⟨hf.1,F _ hf.2.1,F _ hf.2.2⟩
 .rcases x?.1 u with h|h
  .exact(D.1 n h).2
  .obtain⟨v,hv,rfl⟩:=y_.1 h;exact(E.1 _ (AG (CL hv).1 (CL hv).2)).2
 .rcases x?.1 o with h|h
  .exact(D.2 e h).2
  .obtain⟨v,hv,rfl⟩:=y_.1 h;exact(E.2 _ (AG (CL hv).1 (CL hv).2)).2
variable{p:bi}
theorem rL(hv:(Az t).2=0)(e:VZ t p)(o:VZ t g)(b:Bool):(D0 t p g b).2=0\/(D0 t p g b).2=3:=by
 have h:Dl t p g=0:=by
  unfold Dl;rw[QQ t_,QQ (by simp[Hi e.1]),QQ (by simp[Hi o.1]),e.2,o.2];rfl
 unfold D0;rw[QQ to];split
 .exact .inr rfl
 .exact .inl rfl
theorem Yz(hv:(Az t).2=0)(A:∀r∈c7,B8 t s r=0)(he:∀r∈c7,MD s r l):∀(n:Nat)(x:AI)(v:Int)(r:AI×Int×Int),Hq t s c7 l n x v=.inr r->IC x->VZ t x.ea->x.og.length<=30->x.og.length+n=31->r.2.1=0\/r.2.1=3
 |0,x,v,r,e,hi,z,_,_=>m?
 |n+1,x,v,r,e,hi,z,δ,Z=>by
  rw [Hq]at e;split at e
  .cases e;exact .inr rfl
  split at e
  .cases e;exact .inl rfl
  split at e
  .cases e;exact .inr rfl
  rename_i η;refine(Np (g:=λi=>RS t s l x (Hq t s c7 l n) i (AA c7 i)) (I:=λ_=>True) (R:=λr=>r.2.1=0\/r.2.1=3) (λi G v _=>⟨λ_ _=>trivial,λr e=>?_⟩) trivial).2 r e;obtain⟨D,E⟩:=By.1 G;have o:=A _ (AG D E);unfold RS at e;split at e
  .cases e
  split at e
  next L=>cases e;exact .inr ((rL hv (ky o (he _ (AG D E))) z X).resolve_left L)
  refine (Np (g:=λj=>Tt s l x (Hq t s c7 l n) i (AA c7 i) (AA (D0 t (Ba s (AA c7 i) l) x.ea X).1 j)) (I:=λ_=>True) (R:=λr=>r.2.1=0\/r.2.1=3) (λj K v _=>⟨λ_ _=>trivial,λr e=>?_⟩) trivial).2 r e;obtain⟨Q,ε⟩:=By.1 K;have O:=AG Q ε;obtain⟨_,_,F,κ⟩:=Td (l:=l) o hi O;unfold Tt at e;split at e
  .cases e
  rename_i u;rw[I',gN]at u;split at e
  .cases e;exact .inr rfl
  rename_i ζ;have C:=XX (rule:=i) hi U (F u.1) (κ u.2) U U;exact Yz hv A he n _ _ r e C (nP o z (F u.1) C) n? n?
theorem sT(hf:Ap t)(z:DP t s c7=0)(A:hasB l 2=X->hasB l 1=X/\hasB l 3=X){h:AH}(hh:(Br t h).2=0):(Ob t s c7 h l).2=0\/(Ob t s c7 h l).2=3\/(Ob t s c7 h l).2=10:=by
 obtain ⟨hv,hO⟩:=FU hf hh;have u:=MO z;unfold Ob;cases e:Hq t s c7 l 31 (GT h) 0 with
 |inl v=>exact .inr (.inr rfl)|inr r=>
  dsimp only;rcases Yz hv u (λr C=>Sg (u r C) A) 31 _ 0 r e (UN hO.g) ⟨hO.g,hO.ty⟩ n! n! with o|o
  .rw[Ne o];exact .inl rfl
  .rw[QQ U,o];exact .inr (.inl rfl)
theorem ob(hf:Ap t)(u:∀r∈c7,Df r)(E:DP t s c7=0)(A:hasB l 2=X->hasB l 1=X/\hasB l 3=X){h H:AH}(hh:(Br t h).2=0)(ho:JQ s h.bi l=T){φ ψ:Int->Int}(F:UJ s l h.bi H.bi φ ψ){ms:List C8}(G:ms.length<=30)(e:Cw (EB t c7) ms (zH,zH)=.inl (zH,H))(C:∀m∈ms,ay s l c7 m):(Ob t s c7 h l).2=0\/(Ob t s c7 h l).2=3:=by
 obtain ⟨hv,hO⟩:=FU hf hh;have z:=MO E;rcases sT hf E A hh with o|o|o
 .exact .inl o
 .exact .inr o
 .exfalso;unfold Ob at o;cases k:Hq t s c7 l 31 (GT h) 0 with
  |inl v=>exact dn hf u z (λr u=>Sg (z r u) A) F ho ms zH (GT h) 31 0 v e C (Yn hv) (s7 hO.g) n! (by simp[GT];omega) k|inr r=>
   rw [k]at o;dsimp only at o;rcases Yz hv z (λr u=>Sg (z r u) A) 31 _ 0 r k (UN hO.g) ⟨hO.g,hO.ty⟩ n! n! with D|D
   .rw[Ne D]at o;cases o
   .rw[QQ U,D]at o;cases o
end
end Go.Sf.Sc
namespace Go.Sf.Sc
open Go Go.Sf
section
variable{t:AC}{s:An}{c7:List d3}{l:Fp}
theorem kO{H:AH}(G:(Br t H).2=0)(hO:Io t H)(z:ST t s)(K:hasB l 2=X->hasB l 1=X/\hasB l 3=X)(b:Int)(o:0<=b/\b<H.bi.be.length)(A:hasB l (AA s.be (AA H.bi.be b).em)=X):
  hasB l (AA s.az (AA H.bi.az (AA H.bi.be b).fb))=X/\hasB l (AA s.az (AA H.bi.az (AA H.bi.be b).To))=X:=by
 obtain ⟨_,pe⟩:=OO G;have u:=pe b o.1 o.2;have ty:=(Cu hO.g hO.ty).2 _ (AG o.1 o.2);have hf:=(hO.g.fit _ (AG o.1 o.2)).2;have D:=hO.kind _ hf.1.1 hf.1.2;have C:=hO.kind _ hf.2.1 hf.2.2;have fit:DG t H.bi b=X:=by
  unfold HZ at u;split at u
  .cases u
  split at u
  .cases u
  next k=>simpa using k
 unfold DG IZ at fit;simp only[gN]at fit;have L:=Vh z D.1 D.2 fit.2.1;have E:=Vh z C.1 C.2 fit.2.2;obtain⟨O,Q⟩:=z.edge _ ty.1 ty.2;rw[<-L,<-E,O];refine⟨A,?_⟩;by_cases F:AA s.be (AA H.bi.be b).em=2
 .rw[F]at A;obtain⟨a,c⟩:=K A;have:=(z.node _ C.1 C.2).1;unfold LR at this;simp only[gN,pE]at this;rw[E];rcases(show AA s.az (AA H.bi.az (AA H.bi.be b).To)=1\/AA s.az (AA H.bi.az (AA H.bi.be b).To)=2\/AA s.az (AA H.bi.az (AA H.bi.be b).To)=3 by omega)with e|e|e<;>rw[e]<;>assumption
 .have:AA s.az (AA t.be (AA H.bi.be b).em).To=AA s.be (AA H.bi.be b).em:=I? λk=>F (Q.1 k);rw[this];exact A
theorem vW{H:AH}(C:(Br t H).2=0)(hO:Io t H)(A:ST t s):UJ s [1,2,3] H.bi H.bi (λb=>b) (λb=>b):=by
 obtain ⟨D,E⟩:=XD A;obtain⟨F,G⟩:=Cu hO.g hO.ty;refine⟨λb z _=>⟨z,rfl⟩,λb z _=>⟨z,rfl⟩,kO C hO A a_,λa b _ _ e=>e,λa b _ _ e=>e,λk o u=>⟨k,⟨⟨o,u⟩,?_⟩,rfl⟩,λk o u=>⟨k,⟨⟨o,u⟩,?_⟩,rfl⟩⟩
 .have:=F _ (AG o u);exact D _ this.1 this.2
 .have:=G _ (AG o u);exact E _ this.1 this.2
theorem oK(z x:Int):hasB [z] x=decide (x=z):=by
 unfold hasB;by_cases h:x=z<;>simp[h,eq_comm]
end
end Go.Sf.Sc
